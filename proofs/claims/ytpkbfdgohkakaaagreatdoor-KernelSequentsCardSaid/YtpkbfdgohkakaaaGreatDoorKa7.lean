/- Part 7. -/
import Derived.Test.YtpkbfdgohkakaaaGreatDoorKa6
import Derived.Below
import Derived.Shelf.SlGeneric
import Derived.Shelf.Small.Bits
import Derived.Shelf.Strconv.Itoa0
import Derived.Shelf.Strconv.Itoa1
import Derived.Shelf.LaysM
import Derived.Shelf.Strconv.Itoa2
import Derived.Shelf.Strconv.Itoa3
import Derived.Shelf.Strings.Search1
import Derived.Shelf.Strings.Search2
import Derived.Shelf.Strings.Cut
import Derived.Shelf.Strings.Shaped
import Derived.Shelf.Sort.Plain
import Derived.Shelf.GgClosure.StringsIndexFunc
import Derived.Ground.GgwProg
import Derived.Shelf.GgClosure.StringsIndexFuncTop
import Derived.Shelf.Strings.Prefix
import Derived.Shelf.Strings.Fields
import Derived.Shelf.Strings.SplitShaped
import Derived.Shelf.Unicode.Latin
import Derived.Shelf.Bits.Mul64
import Derived.Shelf.Unicode.Is16White
import Derived.Shelf.Unicode.IsSpaceAny
import Derived.Shelf.Unicode.Is16WhiteD
import Derived.Shelf.Unicode.IsSpaceAnyD
import Derived.Shelf.Strings.FieldsAny
import Derived.Shelf.Strings.FieldsFuncAny
import Derived.Shelf.Unicode.Is16Any
import Derived.Shelf.Unicode.Is32Any
import Derived.Shelf.Unicode.ExclAny
import Derived.Shelf.Strings.FuncGrows
import Derived.Shelf.Slices.Turned
import Derived.Shelf.Slices.Equal
import Derived.Ground.Names2Prog
import Derived.Shelf.Slices.Clone
import Derived.Shelf.Slices.CompactS
import Derived.Shelf.Slices.Cells
import Derived.Shelf.Slices.In.SortNone
import Derived.Shelf.Slices.Empties2
import Derived.Shelf.Spec.SlicesGrow
import Derived.Ground.SlgnProg
import Derived.Shelf.SlicesE.Clone
import Derived.Test.YtpkbfdgohkakaaaGreatDoorProg
import Derived.KernelRfl
set_option maxRecDepth 8000
set_option linter.unusedVariables false
set_option linter.unusedSectionVars false
set_option linter.unusedSimpArgs false
section
namespace Go.VL
open Go.RowKit
variable [Glob]
section
variable {P:Program} {B:Nat->Prop} {G:Gh} {H:AH} {w w':World}
theorem HM.below (hM:HM B H G w) (h:Below w.heap.size w w'):HM B H G w':=by
 have hlt: ∀b arr t fr,w.heap[b]? =some (.cells arr t fr)->b<w.heap.size:=fun b arr t fr e=>(Array.getElem?_eq_some_iff.1 e).1
 exact{
  glob:=hM.glob
  qz:=fun a x e=>by
   have hc:=hM.qz a x e;exact(World.cell?_of_block (h.block _ (World.block_lt_of_cell? w a hc))).trans hc
  obj:=fun id cs e=>by
   obtain⟨k0,b,arr,t,k1,k2,k3,k4,k5⟩:=hM.obj id cs e;exact⟨k0,b,arr,t,k1,k2,(h.block b (hlt _ _ _ _ k3)).trans k3,k4,k5⟩
  inj:=hM.inj
  tok:=fun k e=>by
   obtain⟨k0,b,o,arr,t,k1,k2,k3,k5⟩:=hM.tok k e;exact⟨k0,b,o,arr,t,k1,k2,(h.block b (hlt _ _ _ _ k3)).trans k3,k5⟩
  qH:=hM.qH
  tobj:=hM.tobj
  wh:=hM.wh.keep fun b _ hb=>h.block b hb}
theorem Tr.below (h:Below w.heap.size w w'):Tr B w w':=
 ⟨h.size,fun b hb _=>h.block b hb,h.os,h.tape,h.output,fun b o e _=>(h.block b (Array.getElem?_eq_some_iff.1 e).1).trans e⟩
theorem Na {f:FuncId} {args:List PV} {r:PV} (he:Enters P f)
 (h: ∀(w:World) (G:Gh) (vs:Array Value),(∀a x,Glob.gc a=some x->w.cell? a=some x)->(∀a x,G.F a=some x->w.cell? a=some x)->WH (fun b=>w.heap.size<=b) w->Vs G 0 args vs->Calls P f vs w fun e w'=> ∃v,e= .returned v/\Below w.heap.size w w'/\ ∀G n,V G n r v)
 (hp: ∀a∈args,Pu a):aD P f args r:=by
 intro H;refine⟨he,fun B G w vs hU hM hv=> ?_⟩;have hv':Vs ⟨G.F,fun _=>none,fun _=>none⟩ 0 args vs:=⟨hv.1,fun j c x hc hx=>V.pure (G:=G) (G':=⟨G.F,fun _=>none,fun _=>none⟩) (n':=0) (fun(_:Addr) (_:Value) e=>e) (hv.2 j c x hc hx) (hp c (List.mem_of_getElem? hc))⟩;refine(h w ⟨G.F,fun _=>none,fun _=>none⟩ vs (fun a x e=>hM.qz a x (hM.glob a x e)) hM.qz hM.wh.old hv').mono ?_;rintro e w' ⟨v,h1,h2,h3⟩;exact⟨r,v,H,G,h1,Tr.below h2,Ext.refl B _ G,Nat.le_refl _,hM.below h2,h3 G _,rfl,rfl⟩
theorem aaI {f:FuncId} {args:List PV} {r:PV} (he:Enters P f)
 (h: ∀(w:World) (G:Gh) (vs:Array Value),(∀a x,Glob.gc a=some x->w.cell? a=some x)->(∀a x,G.F a=some x->w.cell? a=some x)->Vs G 0 args vs->Calls P f vs w fun e w'=> ∃v,e= .returned v/\Below w.heap.size w w'/\ ∀G n,V G n r v)
 (hp: ∀a∈args,Pu a):aD P f args r:=Na he (fun w G vs h1 h2 _=>h w G vs h1 h2) hp
theorem Py {f:FuncId} {args:List PV} {r:PV} (he:Enters P f)
 (h: ∀(w:World) (G:Gh) (vs:Array Value),(∀a x,Glob.gc a=some x->w.cell? a=some x)->(∀a x,G.F a=some x->w.cell? a=some x)->Vs G 0 args vs->Calls P f vs w fun e w'=> ∃v,e= .returned v/\Below w.heap.size w w'/\
  ∀(G':Gh) (n:Nat),(∀a x,w.heap.size<=a.block->w'.cell? a=some x->G'.F a=some x)->V G' n r v)
 (hp: ∀a∈args,Pu a):aD P f args r:=by
 intro H;refine⟨he,fun B G w vs hU hM hv=> ?_⟩;have hv':Vs ⟨G.F,fun _=>none,fun _=>none⟩ 0 args vs:=⟨hv.1,fun j c x hc hx=>V.pure (G:=G) (G':=⟨G.F,fun _=>none,fun _=>none⟩) (n':=0) (fun(_:Addr) (_:Value) e=>e) (hv.2 j c x hc hx) (hp c (List.mem_of_getElem? hc))⟩;refine(h w ⟨G.F,fun _=>none,fun _=>none⟩ vs (fun a x e=>hM.qz a x (hM.glob a x e)) hM.qz hv').mono ?_;rintro e w' ⟨v,h1,h2,h3⟩;have hM1:=hM.below h2
 let G2:Gh:=⟨fun a=>match G.F a with|some x=>some x|none=>if w.heap.size<=a.block then w'.cell? a else none,G.m,G.τ⟩
 have hF: ∀a x,G.F a=some x->G2.F a=some x:=fun a x e=>by simp only [G2,e]
 have hnone: ∀a,a.block<w.heap.size->G.F a=none->G2.F a=none:=fun a ha e=>by
  simp only [G2,e];rw [if_neg (by omega)]
 have hE:Ext B H.next G G2:=⟨hF,fun _ _=>rfl,fun _ _=>rfl,fun a e1 e2=>hU _ (by
  rcases Nat.lt_or_ge a.block w.heap.size with q|q
  · exact absurd (hnone a q e1) e2
  · exact q)⟩
 have avo: ∀a x,G2.F a=some x->w'.cell? a=some x:=fun a x e=>by
  simp only [G2]at e;split at e
  · rename_i y hy;cases e;exact hM1.qz a x hy
  · split at e
    · exact e
    · cases e
 have hlt: ∀b arr t fr,w.heap[b]? =some (.cells arr t fr)->b<w.heap.size:=fun b arr t fr e=>(Array.getElem?_eq_some_iff.1 e).1
 have hM2:HM B H G2 w':={
  glob:=fun a x e=>hF a x (hM.glob a x e)
  qz:=avo
  obj:=fun id cs e=>by
   obtain⟨k0,b,arr,t,k1,k2,k3,k4,k5⟩:=hM.obj id cs e;have hb:=hlt _ _ _ _ k3;exact⟨k0,b,arr,t,k1,k2,(h2.block b hb).trans k3,k4.mono hE (Nat.le_refl _),fun off=>hnone _ hb (k5 off)⟩
  inj:=hM.inj
  tok:=fun k e=>by
   obtain⟨k0,b,o,arr,t,k1,k2,k3,k5⟩:=hM.tok k e;have hb:=hlt _ _ _ _ k3;exact⟨k0,b,o,arr,t,k1,k2,(h2.block b hb).trans k3,fun off ho=>hnone _ hb (k5 off ho)⟩
  qH:=hM.qH
  tobj:=hM.tobj
  wh:=hM.wh.keep fun b _ hb=>h2.block b hb}
 refine⟨r,v,H,G2,h1,Tr.below h2,hE,Nat.le_refl _,hM2,h3 G2 _ (fun a x ha e=> ?_),rfl,rfl⟩;cases hg:G.F a with
 |some y=>
  have:=hM1.qz a y hg;rw [e]at this;cases this;simp only [G2,hg]
 |none=>simp only [G2,hg];rw [if_pos ha];exact e
theorem Vs.str2 {n:Nat} {s t:List UInt8} {vs:Array Value} (h:Vs G n [.str s,.str t] vs):vs=#[.string ⟨s.toArray⟩,.string ⟨t.toArray⟩]:=by
 obtain⟨h1,h2⟩:=h
 match vs,h1,h2 with
 |⟨[v,u]⟩,_,h2=>
   have a:=h2 0 (.str s) v rfl rfl;have b:=h2 1 (.str t) u rfl rfl;cases a;cases b;rfl
theorem Vs.ay7 {n:Nat} {k:IntKind} {x:Int} {vs:Array Value} (h:Vs G n [.int k x] vs):vs=#[.int k x]:=by
 obtain⟨h1,h2⟩:=h
 match vs,h1,h2 with
 |⟨[v]⟩,_,h2=>
   have:=h2 0 (.int k x) v rfl rfl;cases this;rfl
end
end Go.VL
end
section
namespace Go.Proofs
open Go.Shelf
def Tryz.laysM246_ren:Go.Shelf.Ren:=⟨fun|246=>339|283=>344|284=>345|285=>346|286=>347|129=>317|317=>350|318=>351|319=>352|320=>353|337=>354|338=>355|n=>n,fun|2=>2|3=>3|9=>9|4=>4|171=>346|0=>0|53=>293|37=>153|5=>5|173=>348|212=>351|51=>290|20=>20|213=>352|46=>258|232=>353|233=>354|n=>n,fun|17=>3|18=>4|19=>5|n=>n⟩
def Tryz.laysM243_ren:Go.Shelf.Ren:=⟨fun|243=>333|246=>339|283=>344|284=>345|285=>346|286=>347|129=>317|317=>350|318=>351|319=>352|320=>353|337=>354|338=>355|n=>n,fun|3=>3|9=>9|2=>2|4=>4|171=>346|0=>0|53=>293|37=>153|5=>5|173=>348|212=>351|51=>290|20=>20|213=>352|46=>258|232=>353|233=>354|n=>n,fun|17=>3|18=>4|19=>5|n=>n⟩
def Tryz.laysM171_ren:Go.Shelf.Ren:=⟨fun|171=>320|243=>333|246=>339|283=>344|284=>345|285=>346|286=>347|129=>317|317=>350|318=>351|319=>352|320=>353|337=>354|338=>355|n=>n,fun|3=>3|9=>9|2=>2|4=>4|171=>346|0=>0|53=>293|37=>153|5=>5|173=>348|212=>351|51=>290|20=>20|213=>352|46=>258|232=>353|233=>354|n=>n,fun|17=>3|18=>4|19=>5|n=>n⟩
theorem Tryz.laysM171:Go.Proofs.LaysM.n171 Tryz.prog Tryz.laysM171_ren:={
 mixed:=by kernel_rfl
 f129:=Tryz.func317.trans (congrArg some (by kernel_rfl))
 f171:=Tryz.func320.trans (congrArg some (by kernel_rfl))
 f243:=Tryz.func333.trans (congrArg some (by kernel_rfl))
 f246:=Tryz.func339.trans (congrArg some (by kernel_rfl))
 f283:=Tryz.func344.trans (congrArg some (by kernel_rfl))
 f284:=Tryz.func345.trans (congrArg some (by kernel_rfl))
 f285:=Tryz.func346.trans (congrArg some (by kernel_rfl))
 f286:=Tryz.func347.trans (congrArg some (by kernel_rfl))
 f317:=Tryz.func350.trans (congrArg some (by kernel_rfl))
 f318:=Tryz.func351.trans (congrArg some (by kernel_rfl))
 f319:=Tryz.func352.trans (congrArg some (by kernel_rfl))
 f320:=Tryz.func353.trans (congrArg some (by kernel_rfl))
 f337:=Tryz.func354.trans (congrArg some (by kernel_rfl))
 f338:=Tryz.func355.trans (congrArg some (by kernel_rfl))
 t0:=Tryz.underlying0
 a0:=Tryz.isAgg0
 z0:=Tryz.sizeOf0
 v0:=Tryz.zeroValue0
 t2:=Tryz.underlying2
 a2:=Tryz.isAgg2
 z2:=Tryz.sizeOf2
 v2:=Tryz.zeroValue2
 t3:=Tryz.underlying3
 a3:=Tryz.isAgg3
 z3:=Tryz.sizeOf3
 v3:=Tryz.zeroValue3
 t4:=Tryz.underlying4
 a4:=Tryz.isAgg4
 z4:=Tryz.sizeOf4
 v4:=Tryz.zeroValue4
 t5:=Tryz.underlying5
 a5:=Tryz.isAgg5
 z5:=Tryz.sizeOf5
 v5:=Tryz.zeroValue5
 t9:=Tryz.underlying9
 a9:=Tryz.isAgg9
 z9:=Tryz.sizeOf9
 v9:=Tryz.zeroValue9
 t20:=Tryz.underlying20
 a20:=Tryz.isAgg20
 z20:=Tryz.sizeOf20
 v20:=Tryz.zeroValue20
 t37:=Tryz.underlying153
 a37:=Tryz.isAgg153
 z37:=Tryz.sizeOf153
 v37:=Tryz.zeroValue153
 t46:=Tryz.underlying258
 a46:=Tryz.isAgg258
 z46:=Tryz.sizeOf258
 v46:=Tryz.zeroValue258
 t51:=Tryz.underlying290
 a51:=Tryz.isAgg290
 z51:=Tryz.sizeOf290
 v51:=Tryz.zeroValue290
 t53:=Tryz.underlying293
 a53:=Tryz.isAgg293
 z53:=Tryz.sizeOf293
 v53:=Tryz.zeroValue293
 t171:=Tryz.underlying346
 a171:=Tryz.isAgg346
 z171:=Tryz.sizeOf346
 v171:=Tryz.zeroValue346
 t173:=Tryz.underlying348
 a173:=Tryz.isAgg348
 z173:=Tryz.sizeOf348
 v173:=Tryz.zeroValue348
 t212:=Tryz.underlying351
 a212:=Tryz.isAgg351
 z212:=Tryz.sizeOf351
 v212:=Tryz.zeroValue351
 t213:=Tryz.underlying352
 a213:=Tryz.isAgg352
 z213:=Tryz.sizeOf352
 t232:=Tryz.underlying353
 a232:=Tryz.isAgg353
 z232:=Tryz.sizeOf353
 v232:=Tryz.zeroValue353
 t233:=Tryz.underlying354
 a233:=Tryz.isAgg354
 z233:=Tryz.sizeOf354
 v233:=Tryz.zeroValue354
 g17:=by kernel_rfl
 g18:=by kernel_rfl
 g19:=by kernel_rfl
 i0:=by kernel_rfl
 i2:=by kernel_rfl
 i3:=by kernel_rfl
 i4:=by kernel_rfl
 i5:=by kernel_rfl
 i9:=by kernel_rfl
 i20:=by kernel_rfl
 i37:=by kernel_rfl
 i46:=by kernel_rfl
 i51:=by kernel_rfl
 i53:=by kernel_rfl
 i171:=by kernel_rfl
 i173:=by kernel_rfl
 i212:=by kernel_rfl
 i232:=by kernel_rfl
 i233:=by kernel_rfl
 m17:=by kernel_rfl
 m18:=by kernel_rfl
 m19:=by kernel_rfl}
open Go.RowKit Go.Sort Go.Lib in
theorem Tryz.strconv_Itoa (n:Int) (h0: -9223372036854775808<=n) (h1:n<=9223372036854775807) (w:World) (htab:Lib.TabIs Tryz.prog w "internal/strconv.uint64pow10" .u64 Lib.pow10Tab):
 Calls Tryz.prog 320 #[.int .i64 n] w fun e w'=>e= .returned (.string ⟨(Lib.itoa n).toArray⟩)/\ ∃k os,w'=grow (w.drewN k) os:=Any.strconv_Itoa Tryz.laysM171 n h0 h1 w htab
def Tryz.lays219_ren:Go.Shelf.Ren:=⟨fun|219=>334|217=>340|225=>341|224=>342|267=>343|266=>348|314=>349|n=>n,fun|9=>9|3=>3|4=>4|5=>5|46=>258|146=>291|51=>290|n=>n,fun|1=>2|n=>n⟩
theorem Tryz.lays219:Go.Proofs.Lays.n219 Tryz.prog Tryz.lays219_ren:={
 mixed:=by kernel_rfl
 f217:=Tryz.func340.trans (congrArg some (by kernel_rfl))
 f219:=Tryz.func334.trans (congrArg some (by kernel_rfl))
 f224:=Tryz.func342.trans (congrArg some (by kernel_rfl))
 f225:=Tryz.func341.trans (congrArg some (by kernel_rfl))
 f266:=Tryz.func348.trans (congrArg some (by kernel_rfl))
 f267:=Tryz.func343.trans (congrArg some (by kernel_rfl))
 f314:=Tryz.func349.trans (congrArg some (by kernel_rfl))
 t3:=Tryz.underlying3
 a3:=Tryz.isAgg3
 z3:=Tryz.sizeOf3
 v3:=Tryz.zeroValue3
 t4:=Tryz.underlying4
 a4:=Tryz.isAgg4
 z4:=Tryz.sizeOf4
 v4:=Tryz.zeroValue4
 t5:=Tryz.underlying5
 a5:=Tryz.isAgg5
 z5:=Tryz.sizeOf5
 v5:=Tryz.zeroValue5
 t9:=Tryz.underlying9
 a9:=Tryz.isAgg9
 z9:=Tryz.sizeOf9
 v9:=Tryz.zeroValue9
 t46:=Tryz.underlying258
 a46:=Tryz.isAgg258
 z46:=Tryz.sizeOf258
 v46:=Tryz.zeroValue258
 t51:=Tryz.underlying290
 a51:=Tryz.isAgg290
 z51:=Tryz.sizeOf290
 v51:=Tryz.zeroValue290
 t146:=Tryz.underlying291
 a146:=Tryz.isAgg291
 z146:=Tryz.sizeOf291
 v146:=Tryz.zeroValue291
 g1:=by kernel_rfl}
open Go.RowKit Go.Lib in
theorem Tryz.stringslite_Index_one (s:ByteArray) (c:UInt8) (w:World):
 Calls Tryz.prog 334 #[.string s,.string ⟨#[c]⟩] w fun e w'=>e= .returned (.int .i64 (Lib.indexByte s.data.toList c))/\w'=w:=Any.stringslite_Index_one Tryz.lays219 s c w
def Tryz.lays190_ren:Go.Shelf.Ren:=⟨fun|190=>243|125=>280|258=>279|128=>316|129=>317|302=>307|303=>308|304=>309|305=>310|306=>311|307=>312|308=>313|309=>314|310=>315|333=>327|329=>328|330=>329|334=>330|335=>331|336=>332|344=>338|n=>n,fun|31=>68|9=>9|3=>3|46=>258|0=>0|51=>290|53=>293|4=>4|183=>304|182=>303|131=>308|5=>5|218=>322|222=>326|228=>340|229=>33|n=>n,fun|n=>n⟩
theorem Tryz.lays190:Go.Proofs.Lays.n190 Tryz.prog Tryz.lays190_ren:={
 mixed:=by kernel_rfl
 f125:=Tryz.func280.trans (congrArg some (by kernel_rfl))
 f128:=Tryz.func316.trans (congrArg some (by kernel_rfl))
 f129:=Tryz.func317.trans (congrArg some (by kernel_rfl))
 f190:=Tryz.func243.trans (congrArg some (by kernel_rfl))
 f258:=Tryz.func279.trans (congrArg some (by kernel_rfl))
 f302:=Tryz.func307.trans (congrArg some (by kernel_rfl))
 f303:=Tryz.func308.trans (congrArg some (by kernel_rfl))
 f304:=Tryz.func309.trans (congrArg some (by kernel_rfl))
 f305:=Tryz.func310.trans (congrArg some (by kernel_rfl))
 f306:=Tryz.func311.trans (congrArg some (by kernel_rfl))
 f307:=Tryz.func312.trans (congrArg some (by kernel_rfl))
 f308:=Tryz.func313.trans (congrArg some (by kernel_rfl))
 f309:=Tryz.func314.trans (congrArg some (by kernel_rfl))
 f310:=Tryz.func315.trans (congrArg some (by kernel_rfl))
 f329:=Tryz.func328.trans (congrArg some (by kernel_rfl))
 f330:=Tryz.func329.trans (congrArg some (by kernel_rfl))
 f333:=Tryz.func327.trans (congrArg some (by kernel_rfl))
 f334:=Tryz.func330.trans (congrArg some (by kernel_rfl))
 f335:=Tryz.func331.trans (congrArg some (by kernel_rfl))
 f336:=Tryz.func332.trans (congrArg some (by kernel_rfl))
 f344:=Tryz.func338.trans (congrArg some (by kernel_rfl))
 t0:=Tryz.underlying0
 a0:=Tryz.isAgg0
 z0:=Tryz.sizeOf0
 v0:=Tryz.zeroValue0
 t3:=Tryz.underlying3
 a3:=Tryz.isAgg3
 z3:=Tryz.sizeOf3
 v3:=Tryz.zeroValue3
 t4:=Tryz.underlying4
 a4:=Tryz.isAgg4
 z4:=Tryz.sizeOf4
 v4:=Tryz.zeroValue4
 t5:=Tryz.underlying5
 a5:=Tryz.isAgg5
 z5:=Tryz.sizeOf5
 v5:=Tryz.zeroValue5
 t9:=Tryz.underlying9
 a9:=Tryz.isAgg9
 z9:=Tryz.sizeOf9
 v9:=Tryz.zeroValue9
 t31:=Tryz.underlying68
 a31:=Tryz.isAgg68
 z31:=Tryz.sizeOf68
 v31:=Tryz.zeroValue68
 t46:=Tryz.underlying258
 a46:=Tryz.isAgg258
 z46:=Tryz.sizeOf258
 v46:=Tryz.zeroValue258
 t51:=Tryz.underlying290
 a51:=Tryz.isAgg290
 z51:=Tryz.sizeOf290
 v51:=Tryz.zeroValue290
 t53:=Tryz.underlying293
 a53:=Tryz.isAgg293
 z53:=Tryz.sizeOf293
 v53:=Tryz.zeroValue293
 t131:=Tryz.underlying308
 a131:=Tryz.isAgg308
 z131:=Tryz.sizeOf308
 v131:=Tryz.zeroValue308
 t182:=Tryz.underlying303
 a182:=Tryz.isAgg303
 z182:=Tryz.sizeOf303
 v182:=Tryz.zeroValue303
 t183:=Tryz.underlying304
 a183:=Tryz.isAgg304
 z183:=Tryz.sizeOf304
 v183:=Tryz.zeroValue304
 t218:=Tryz.underlying322
 a218:=Tryz.isAgg322
 z218:=Tryz.sizeOf322
 v218:=Tryz.zeroValue322
 t222:=Tryz.underlying326
 a222:=Tryz.isAgg326
 z222:=Tryz.sizeOf326
 v222:=Tryz.zeroValue326
 t228:=Tryz.underlying340
 a228:=Tryz.isAgg340
 z228:=Tryz.sizeOf340
 v228:=Tryz.zeroValue340
 t229:=Tryz.underlying33
 a229:=Tryz.isAgg33
 z229:=Tryz.sizeOf33
 v229:=Tryz.zeroValue33}
open Go.Sort Go.RowKit in
theorem Tryz.slices_Sort_string (blk off cap:Nat) (ss:List (List UInt8)) (w:World) (hH:Holds encStr w blk off ss.toArray) (hblk:blk<w.heap.size) (hsz:ss.length<4611686018427387904):
 Calls Tryz.prog 243 #[.slice (some ⟨blk,off,none⟩) ss.length cap] w fun e w'=>
  e= .returned (.tuple #[])/\ ∃n os,w'=grow (putRow encStr (Sort.ahead w n) blk off (ss.mergeSort fun x y=>decide (x<=y)).toArray) os:=Any.slices_Sort_string Tryz.lays190 blk off cap ss w hH hblk hsz
def Tryz.laysGw17_ren:Go.Shelf.Ren:=⟨fun|17=>270|15=>292|20=>322|n=>n,fun|9=>9|23=>256|4=>4|3=>3|0=>0|21=>21|n=>n,fun|n=>n⟩
theorem Tryz.laysGw17:Go.Proofs.LaysGw.n17 Tryz.prog Tryz.laysGw17_ren:={
 mixed:=by kernel_rfl
 f15:=Tryz.func292.trans (congrArg some (by kernel_rfl))
 f17:=Tryz.func270.trans (congrArg some (by kernel_rfl))
 f20:=Tryz.func322.trans (congrArg some (by kernel_rfl))
 t0:=Tryz.underlying0
 a0:=Tryz.isAgg0
 z0:=Tryz.sizeOf0
 v0:=Tryz.zeroValue0
 i0:=by kernel_rfl
 t3:=Tryz.underlying3
 a3:=Tryz.isAgg3
 z3:=Tryz.sizeOf3
 v3:=Tryz.zeroValue3
 i3:=by kernel_rfl
 t4:=Tryz.underlying4
 a4:=Tryz.isAgg4
 z4:=Tryz.sizeOf4
 v4:=Tryz.zeroValue4
 i4:=by kernel_rfl
 t9:=Tryz.underlying9
 a9:=Tryz.isAgg9
 z9:=Tryz.sizeOf9
 v9:=Tryz.zeroValue9
 i9:=by kernel_rfl
 t21:=Tryz.underlying21
 a21:=Tryz.isAgg21
 z21:=Tryz.sizeOf21
 v21:=Tryz.zeroValue21
 i21:=by kernel_rfl
 t23:=Tryz.underlying256
 a23:=Tryz.isAgg256
 z23:=Tryz.sizeOf256
 v23:=Tryz.zeroValue256
 i23:=by kernel_rfl}
def Tryz.lays264_ren:Go.Shelf.Ren:=⟨fun|264=>295|n=>n,fun|53=>293|46=>258|n=>n,fun|n=>n⟩
theorem Tryz.lays264:Go.Proofs.Lays.n264 Tryz.prog Tryz.lays264_ren:={
 mixed:=by kernel_rfl
 f264:=Tryz.func295.trans (congrArg some (by kernel_rfl))
 t46:=Tryz.underlying258
 a46:=Tryz.isAgg258
 z46:=Tryz.sizeOf258
 v46:=Tryz.zeroValue258
 t53:=Tryz.underlying293
 a53:=Tryz.isAgg293
 z53:=Tryz.sizeOf293
 v53:=Tryz.zeroValue293}
open Go.RowKit Go.Lib in
theorem Tryz.bits_Mul64 (x y:Nat) (hx:x<18446744073709551616) (hy:y<18446744073709551616) (w:World):
 Calls Tryz.prog 295 #[.int .u64 x,.int .u64 y] w fun e w'=>e= .returned (.tuple #[.int .u64 ((x*y/18446744073709551616:Nat):Int),.int .u64 ((x*y% 18446744073709551616:Nat):Int)])/\w'=w:=Any.bits_Mul64 Tryz.lays264 x y hx hy w
open Go.RowKit Go.Lib in
theorem Tryz.strings_ContainsFunc_grows (g:Nat) (lb:Array Value) (eg: ∀args w,(callFunc g args).run Tryz.prog w= .ok (.enter g args) w) (p:Nat->Bool) (s:ByteArray) (w:World) (hp:PredGrows Tryz.prog g lb p w):
 Calls Tryz.prog 270 #[.string s,.func (.func g) #[] lb] w fun e w'=>e= .returned (.bool (decide (0<=Lib.idxFunc p true s)))/\Below w.heap.size w w':=Any.strings_ContainsFunc_grows Tryz.laysGw17 g lb eg p s w hp
def Tryz.laysNm215_ren:Go.Shelf.Ren:=⟨fun|15=>202|n=>n,fun|22=>44|3=>3|4=>4|n=>n,fun|n=>n⟩
theorem Tryz.laysNm215:Go.Proofs.Lays2.n15 Tryz.prog Tryz.laysNm215_ren:={
 mixed:=by kernel_rfl
 f15:=Tryz.func202.trans (congrArg some (by kernel_rfl))
 t3:=Tryz.underlying3
 a3:=Tryz.isAgg3
 z3:=Tryz.sizeOf3
 v3:=Tryz.zeroValue3
 t4:=Tryz.underlying4
 a4:=Tryz.isAgg4
 z4:=Tryz.sizeOf4
 v4:=Tryz.zeroValue4
 t22:=Tryz.underlying44
 a22:=Tryz.isAgg44
 z22:=Tryz.sizeOf44
 v22:=Tryz.zeroValue44
 i3:=by kernel_rfl}
open Go.RowKit Go.Lib in
theorem Tryz.slices_Clone_int (b off n c:Nat) (zs:List Int) (w:World) (hz:n<=zs.length) (hbig:n*8<=140737488355328) (hc: ∀j,j<zs.length->w.cell? ⟨b,off+j,none⟩=some (.int .i64 (zs.getD j 0))):
 Calls Tryz.prog 202 #[.slice (some ⟨b,off,none⟩) n c] w fun e w'=> ∃v',e= .returned v'/\w'.ownsRow w.heap.size 3 1 v' n ((zs.take n).map (Value.int .i64))/\v'≠ .slice none 0 0/\Below w.heap.size w w':=Any.slices_Clone_int Tryz.laysNm215 b off n c zs w hz hbig hc
open Go.RowKit Go.Lib in
theorem Tryz.slices_Clone_int_nil (n c:Nat) (w:World):
 Calls Tryz.prog 202 #[.slice none n c] w fun e w'=>e= .returned (.slice none 0 0)/\w'=w:=Any.slices_Clone_int_nil Tryz.laysNm215 n c w
def Tryz.laysNm216_ren:Go.Shelf.Ren:=⟨fun|16=>181|n=>n,fun|24=>68|9=>9|4=>4|n=>n,fun|n=>n⟩
theorem Tryz.laysNm216:Go.Proofs.Lays2.n16 Tryz.prog Tryz.laysNm216_ren:={
 mixed:=by kernel_rfl
 f16:=Tryz.func181.trans (congrArg some (by kernel_rfl))
 t4:=Tryz.underlying4
 a4:=Tryz.isAgg4
 z4:=Tryz.sizeOf4
 v4:=Tryz.zeroValue4
 t9:=Tryz.underlying9
 a9:=Tryz.isAgg9
 z9:=Tryz.sizeOf9
 v9:=Tryz.zeroValue9
 t24:=Tryz.underlying68
 a24:=Tryz.isAgg68
 z24:=Tryz.sizeOf68
 v24:=Tryz.zeroValue68
 i9:=by kernel_rfl}
open Go.RowKit Go.Lib in
theorem Tryz.slices_Clone_string (b off n c:Nat) (zs:List ByteArray) (w:World) (hz:n<=zs.length) (hbig:n*16<=140737488355328) (hc: ∀j,j<zs.length->w.cell? ⟨b,off+j,none⟩=some (.string (zs.getD j ByteArray.empty))):
 Calls Tryz.prog 181 #[.slice (some ⟨b,off,none⟩) n c] w fun e w'=> ∃v',e= .returned v'/\w'.ownsRow w.heap.size 9 1 v' n ((zs.take n).map (Value.string))/\v'≠ .slice none 0 0/\Below w.heap.size w w':=Any.slices_Clone_string Tryz.laysNm216 b off n c zs w hz hbig hc
open Go.RowKit Go.Lib in
theorem Tryz.slices_Clone_string_nil (n c:Nat) (w:World):
 Calls Tryz.prog 181 #[.slice none n c] w fun e w'=>e= .returned (.slice none 0 0)/\w'=w:=Any.slices_Clone_string_nil Tryz.laysNm216 n c w
open Go.RowKit Go.Lib in
theorem Tryz.slices_Clone_int_zero (a:Addr) (c:Nat) (w:World):
 Calls Tryz.prog 202 #[.slice (some a) 0 c] w fun e w'=> ∃v',e= .returned v'/\w'.ownsRow w.heap.size 3 1 v' 0 []/\v'≠ .slice none 0 0/\Below w.heap.size w w':=Any.slices_Clone_int_zero Tryz.laysNm215 a c w
open Go.RowKit Go.Lib in
theorem Tryz.slices_Clone_string_zero (a:Addr) (c:Nat) (w:World):
 Calls Tryz.prog 181 #[.slice (some a) 0 c] w fun e w'=> ∃v',e= .returned v'/\w'.ownsRow w.heap.size 9 1 v' 0 []/\v'≠ .slice none 0 0/\Below w.heap.size w w':=Any.slices_Clone_string_zero Tryz.laysNm216 a c w
def Tryz.lays194_ren:Go.Shelf.Ren:=⟨fun|194=>244|n=>n,fun|31=>68|9=>9|3=>3|4=>4|0=>0|n=>n,fun|n=>n⟩
theorem Tryz.lays194:Go.Proofs.Lays.n194 Tryz.prog Tryz.lays194_ren:={
 mixed:=by kernel_rfl
 f194:=Tryz.func244.trans (congrArg some (by kernel_rfl))
 t0:=Tryz.underlying0
 a0:=Tryz.isAgg0
 z0:=Tryz.sizeOf0
 v0:=Tryz.zeroValue0
 t3:=Tryz.underlying3
 a3:=Tryz.isAgg3
 z3:=Tryz.sizeOf3
 v3:=Tryz.zeroValue3
 t4:=Tryz.underlying4
 a4:=Tryz.isAgg4
 z4:=Tryz.sizeOf4
 v4:=Tryz.zeroValue4
 t9:=Tryz.underlying9
 a9:=Tryz.isAgg9
 z9:=Tryz.sizeOf9
 v9:=Tryz.zeroValue9
 t31:=Tryz.underlying68
 a31:=Tryz.isAgg68
 z31:=Tryz.sizeOf68
 v31:=Tryz.zeroValue68}
open Go.RowKit Go.Lib Go.Sort in
theorem Tryz.slices_Compact_string (blk off cap:Nat) (zs:List (List UInt8)) (w:World) (hH:Holds encStr w blk off zs.toArray) (hsz:zs.length<=9223372036854775807) (hcap:zs.length<=cap):
 Calls Tryz.prog 244 #[.slice (some ⟨blk,off,none⟩) zs.length cap] w fun e w'=>e= .returned (.slice (some ⟨blk,off,none⟩) (Lib.compact zs).length cap)/\ ∃q,w'=putRow encStr (Sort.ahead w q) blk off (Lib.compact zs++List.replicate (zs.length -(Lib.compact zs).length) []).toArray:=Any.slices_Compact_string Tryz.lays194 blk off cap zs w hH hsz hcap
open Go.RowKit Go.Lib Go.Sort in
theorem Tryz.slices_Compact_string_empty (a:Option Addr) (cap:Nat) (w:World):
 Calls Tryz.prog 244 #[.slice a 0 cap] w fun e w'=>e= .returned (.slice a 0 cap)/\w'=w:=Any.slices_Compact_string_empty Tryz.lays194 a cap w
open Go.RowKit Go.Sort in
theorem Tryz.slices_Sort_string_none (p:Option Addr) (cap:Nat) (w:World):
 Calls Tryz.prog 243 #[.slice p 0 cap] w fun e w'=>e= .returned (.tuple #[])/\w'=w:=Any.slices_Sort_string_none Tryz.lays190 p cap w
def Tryz.growOp_ren:Go.Shelf.Ren:=⟨fun|4=>321|n=>n,fun|22=>193|25=>134|3=>3|4=>4|9=>9|20=>20|0=>0|n=>n,fun|n=>n⟩
theorem Tryz.growOp:Go.Proofs.Lays8.n4 Tryz.prog Tryz.growOp_ren:={
 mixed:=by kernel_rfl
 f4:=⟨Tryz.f321.name,by decide,Tryz.func321.trans (congrArg some (by kernel_rfl))⟩
 t0:=Tryz.underlying0
 a0:=Tryz.isAgg0
 z0:=Tryz.sizeOf0
 v0:=Tryz.zeroValue0
 t3:=Tryz.underlying3
 a3:=Tryz.isAgg3
 z3:=Tryz.sizeOf3
 v3:=Tryz.zeroValue3
 t4:=Tryz.underlying4
 a4:=Tryz.isAgg4
 z4:=Tryz.sizeOf4
 v4:=Tryz.zeroValue4
 t9:=Tryz.underlying9
 a9:=Tryz.isAgg9
 z9:=Tryz.sizeOf9
 v9:=Tryz.zeroValue9
 t20:=Tryz.underlying20
 a20:=Tryz.isAgg20
 z20:=Tryz.sizeOf20
 v20:=Tryz.zeroValue20
 t22:=Tryz.underlying193
 a22:=Tryz.isAgg193
 z22:=Tryz.sizeOf193
 v22:=Tryz.zeroValue193}
end Go.Proofs
end
section
namespace Go.VL
open Go.Proofs Go.RowKit
theorem adT (s:Str) (c:UInt8):aD Tryz.prog 334 [.str s,.str [c]] (.int .i64 (Lib.indexByte s c)):=by
 refine aaI ⟨_,Tryz.func334,rfl,by kernel_rfl⟩ (fun w G vs hg hi hv=> ?_) (aX.mem (.cons (.str _) (.cons (.str _) .nil)));rw [Vs.str2 hv];refine(Tryz.stringslite_Index_one ⟨s.toArray⟩ c w).mono ?_;rintro e w' ⟨rfl,rfl⟩;exact⟨_,rfl,Below.refl _ _,fun G n=> .int _ _⟩
theorem al9 {G:Gh} {n:Nat} {es:List (List PV)} {v:Value} (h:V G n (.ak es .unk) v): ∃ad cap,v= .slice ad es.length cap/\es.length<=cap/\ ∀sz,(∀cs∈es,cs.length=sz)->es≠[]-> ∃b o,ad=some ⟨b,o,none⟩/\ ∃f:Nat->Nat->Value,(∀(i:Nat) (cs:List PV),es[i]? =some cs-> ∀(j:Nat) (c:PV),cs[j]? =some c->G.F ⟨b,o+i*sz+j,none⟩=some (f i j))/\ ∀(i:Nat) (cs:List PV) (j:Nat) (c:PV),es[i]? =some cs->cs[j]? =some c->V G n c (f i j):=by
 generalize hp:PV.ak es .unk=p at h;cases h with
 |ak es' c sz ad cap f h1 h2 h3 h4 h5=>
  cases hp;refine⟨ad,cap,rfl,h2,fun sz' hsz hne=> ?_⟩;obtain⟨b,o,e1,e2⟩:=h3 hne;have:sz=sz':=by
   obtain⟨cs,l',hl⟩:=List.exists_cons_of_ne_nil hne;have a:=h1 0 cs (by rw [hl];rfl);have b:=hsz cs (by rw [hl];exact List.mem_cons_self ..);omega
  subst this;exact⟨b,o,e1,f,e2,h4⟩
 |_=>cases hp
theorem Nb (l:List Str) (hl:l.length<=1000000) {c:Ck}:aD Tryz.prog 181 [.ak (l.map aH) c] (.ak (l.map aH) .unk):=by
 refine aD.wk (args:=[.ak (l.map aH) .unk]) ?_ (.ak .nil);refine Py ⟨_,Tryz.func181,rfl,by kernel_rfl⟩ (fun w G vs hg hi hv=> ?_) (aX.mem (.cons (aT bE _) .nil));obtain⟨u,rfl,hu⟩: ∃u,vs=#[u]/\V G 0 (.ak (l.map aH) .unk) u:=by
  obtain⟨h1,h2⟩:=hv
  match vs,h1,h2 with
  |⟨[u]⟩,_,h2=>exact⟨u,rfl,h2 0 _ u rfl rfl⟩
 obtain⟨ad,cap,rfl,hcap,hx⟩:=al9 hu;rw [List.length_map]at*;by_cases h0:l=[]
 · subst h0;cases ad with
   |none=>
    refine(Tryz.slices_Clone_string_nil 0 cap w).mono ?_;rintro e w' ⟨rfl,rfl⟩;exact⟨_,rfl,Below.refl _ _,fun G' n _=> .ak [] .unk 1 none 0 (fun _ _=> .bool true) (fun i cs e=>by simp at e) (Nat.le_refl _) (fun h=>absurd rfl h) (fun i cs j c e=>by simp at e) trivial⟩
   |some a=>
    refine(Tryz.slices_Clone_string_zero a cap w).mono ?_;rintro e w' ⟨v',rfl,⟨_,hown⟩,_,hb⟩;refine⟨_,rfl,hb,fun G' n _=> ?_⟩;rcases hown with⟨rfl,_⟩|⟨g,cp,cur,rfl,_,_,h1,_⟩
    · exact .ak [] .unk 1 none 0 (fun _ _=> .bool true) (fun i cs e=>by simp at e) (Nat.le_refl _) (fun h=>absurd rfl h) (fun i cs j c e=>by simp at e) trivial
    · exact .ak [] .unk 1 (some ⟨g,0,none⟩) cp (fun _ _=> .bool true) (fun i cs e=>by simp at e) h1 (fun h=>absurd rfl h) (fun i cs j c e=>by simp at e) trivial
 · obtain⟨b,o,rfl,f,e2,h4⟩:=hx 1 (fun cs h=>by obtain⟨s,_,rfl⟩:=List.mem_map.1 h;rfl) (by simpa using h0);have hcell: ∀j,j<l.length->w.cell? ⟨b,o+j,none⟩=some (.string ((l.map fun s=>(⟨s.toArray⟩:ByteArray)).getD j ByteArray.empty)):=by
    intro j hj;have hg:(l.map aH)[j]? =some (aH l[j]):=by simp [hj]
    have a:=e2 j _ hg 0 (.str l[j]) rfl;have b':=h4 j _ 0 (.str l[j]) hg rfl;generalize f j 0=v at a b';cases b';have:=hi _ _ a;rw [Nat.mul_one,Nat.add_zero]at this;rw [this];simp [List.getD,hj]
   refine(Tryz.slices_Clone_string b o l.length cap (l.map fun s=>(⟨s.toArray⟩:ByteArray)) w (by simp) (by omega) (by simpa using hcell)).mono ?_;rintro e w' ⟨v',rfl,⟨_,hown⟩,hne,hb⟩;refine⟨_,rfl,hb,fun G' n hnew=> ?_⟩;rcases hown with⟨rfl,_⟩|⟨g,cp,cur,rfl,hge,hblk,h1,h2,h3,h5⟩
   · exact absurd rfl hne
   · refine Eq.mp (by rw [List.length_map]) (V.ak (G:=G') (n:=n) (l.map aH) .unk 1 (some ⟨g,0,none⟩) cp (fun i _=> .string ⟨(l[i]?.getD []).toArray⟩) (fun i cs e=> ?_) (by simpa using h1) (fun _=>⟨g,0,rfl,fun i cs e j c ec=> ?_⟩) (fun i cs j c e ec=> ?_) trivial)
     · simp only [List.getElem?_map,Option.map_eq_some_iff]at e;obtain⟨s,_,rfl⟩:=e;rfl
     · simp only [List.getElem?_map,Option.map_eq_some_iff]at e;obtain⟨s,e1,rfl⟩:=e;have hj:j=0:=by
        have:=(List.getElem?_eq_some_iff.1 ec).1;simp [aH]at this;exact this
       subst hj;have hlt:=(List.getElem?_eq_some_iff.1 e1).1;refine hnew _ _ hge ?_;have hc:cur[i]? =some (.string ⟨s.toArray⟩):=by
        have:=congrArg (·[i]?) h5
        simp only [Nat.mul_one,List.getElem?_take,hlt,if_true,List.map_map]at this;rw [<-Array.getElem?_toList,this];simp [e1,List.take_of_length_le]
       simp only [World.cell?,hblk,Nat.zero_add,Nat.mul_one,Nat.add_zero,e1,Option.getD_some];simpa using hc
     · simp only [List.getElem?_map,Option.map_eq_some_iff]at e;obtain⟨s,e1,rfl⟩:=e;have hj:j=0:=by
        have:=(List.getElem?_eq_some_iff.1 ec).1;simp [aH]at this;exact this
       subst hj;simp only [aH,List.getElem?_cons_zero,Option.some.injEq]at ec;subst ec;simp only [e1,Option.getD_some];exact .str s
end Go.VL
end
section
namespace Go.VL
theorem wu {sz:Nat}: ∀(es:List (List PV)) (rest:List PV),(∀cs∈es,cs.length=sz)->chunks sz es.length (es.flatten++rest)=es
 |[],rest,_=>by simp [chunks]
 |c::es,rest,h=>by
  have hc:=h c (List.mem_cons_self ..);have ih:=wu es rest fun cs hcs=>h cs (List.mem_cons_of_mem _ hcs);unfold chunks at ih⊢;rw [List.length_cons,List.range_succ_eq_map,List.map_cons,List.map_map,List.flatten_cons,List.append_assoc];congr 1
  · rw [Nat.zero_mul,List.drop_zero,<-hc,List.take_left]
  · conv=>rhs;rw [<-ih]
    refine List.map_congr_left fun i _=> ?_;simp only [Function.comp];rw [show(i+1)*sz=sz+i*sz by rw [Nat.add_mul,Nat.one_mul,Nat.add_comm],<-List.drop_drop];congr 2;rw [<-hc,List.drop_left]
theorem lJ {α:Type} {sz:Nat} {f:α->List PV} (hf: ∀x,(f x).length=sz): ∀l:List α,((l.map f).flatten).length=l.length*sz
 |[]=>by simp
 |x::l=>by rw [List.map_cons,List.flatten_cons,List.length_append,hf,lJ hf l,List.length_cons,Nat.succ_mul,Nat.add_comm]
theorem Yb {α:Type} {sz:Nat} {f:α->List PV} (hf: ∀x,(f x).length=sz): ∀(l:List α) (i:Nat),((l.map f).flatten).drop (i*sz)=((l.drop i).map f).flatten
 |l,0=>by simp
 |[],i+1=>by simp
 |x::l,i+1=>by
  rw [List.map_cons,List.flatten_cons,Nat.succ_mul,Nat.add_comm,<-List.drop_drop];have:List.drop sz (f x++(l.map f).flatten)=(l.map f).flatten:=by rw [<-hf x,List.drop_left]
  rw [this,Yb hf l i,List.drop_succ_cons]
theorem aaJ (A fa B vs:List PV) {j:Nat} (h:j+vs.length<=fa.length):putCells (A++(fa++B)) (A.length+j) vs=A++(putCells fa j vs++B):=by
 have h1:j -fa.length=0:=by omega
 have h2:A.length+j+vs.length -A.length=j+vs.length:=by omega
 have h3:j+vs.length -fa.length=0:=by omega
 have h4:A.take (A.length+j)=A:=List.take_of_length_le (by omega);have h5:A.drop (A.length+j+vs.length)=[]:=List.drop_eq_nil_of_le (by omega);have h6:A.length+j -A.length=j:=by omega
 simp only [putCells,List.take_append,List.drop_append,h1,h2,h3,h4,h5,h6,List.take_zero,List.drop_zero,List.append_nil,List.nil_append,List.append_assoc]
theorem Yc (z:List PV): ∀n,((List.replicate n z).flatten).length=n*z.length
 |0=>by simp
 |n+1=>by rw [List.replicate_succ,List.flatten_cons,List.length_append,Yc z n,Nat.add_mul,Nat.one_mul,Nat.add_comm]
theorem aaK {α:Type} {l:List α} {i:Nat} {x:α} (h:l[i]? =some x):l.drop i=x::l.drop (i+1):=by
 have hlt:=(List.getElem?_eq_some_iff.1 h).1;rw [List.drop_eq_getElem_cons hlt];congr 1;exact(List.getElem?_eq_some_iff.1 h).2
def aJ {α:Type} (H:AH) (f:α->List PV) (sz:Nat) (l:List α) (v:PV) (ids:List Nat):Prop:=
 (v= .ak [] .nil/\l=[]/\ids=[])\/ ∃id cap junk,ids=[id]/\v= .bR id 0 l.length cap sz/\l.length<=cap/\id<H.next/\H.obj id=some ((l.map f).flatten++junk)/\junk.length=(cap -l.length)*sz
def Nw (H:AH) (ids gZ:List Nat):Prop:= ∀i∈gZ,i∈ids\/H.next<=i
theorem Nw.refl {H:AH} {ids:List Nat}:Nw H ids ids:=fun _ h=> .inl h
theorem Nw.trans {H H':AH} {a b c:List Nat} (h:Nw H a b) (hn:H.next<=H'.next) (k:Nw H' b c):Nw H a c:=fun i hi=>by
 rcases k i hi with q|q
 · exact h i q
 · exact .inr (Nat.le_trans hn q)
theorem Nw.via {H H':AH} {M N c:List Nat} (h: ∀i∈N,i∈M\/H.next<=i) (hn:H.next<=H'.next) (k:Nw H' N c):Nw H M c:=fun i hi=>by
 rcases k i hi with q|q
 · exact h i q
 · exact .inr (Nat.le_trans hn q)
def Dj (a b:List Nat):Prop:= ∀i∈a,i∉b
theorem Dj.nil {b:List Nat}:Dj [] b:=fun _ h=>by cases h
theorem Dj.symm {a b:List Nat} (h:Dj a b):Dj b a:=fun i hi hj=>h i hj hi
section
variable {α:Type} {H H':AH} {f:α->List PV} {sz:Nat} {l:List α} {v:PV} {ids:List Nat}
theorem aJ.nil:aJ H f sz ([]:List α) (.ak [] .nil) []:= .inl ⟨rfl,rfl,rfl⟩
theorem aJ.lt (h:aJ H f sz l v ids): ∀i∈ids,i<H.next:=by
 rcases h with⟨_,_,rfl⟩|⟨id,cap,junk,rfl,_,_,h,_⟩
 · intro i hi;cases hi
 · intro i hi;rw [List.mem_singleton.1 hi];exact h
theorem aJ.hf {M:List Nat} (h:aJ H f sz l v ids) (hf:HF M H H') (hd:Dj ids M):aJ H' f sz l v ids:=by
 rcases h with⟨h1,h2,h3⟩|⟨id,cap,junk,rfl,h1,h2,h3,h4,h5⟩
 · exact .inl ⟨h1,h2,h3⟩
 · exact .inr ⟨id,cap,junk,rfl,h1,h2,Nat.lt_of_lt_of_le h3 hf.1,(hf.2 id h3 (hd id (List.mem_singleton.2 rfl))).trans h4,h5⟩
theorem aJ.new {cs:List PV} (h:aJ H f sz l v ids):aJ (H.new cs) f sz l v ids:=h.hf (M:=[]) (HF.new (HF.refl _ _)) (fun _ _ h=>by cases h)
theorem aJ.put {id:Nat} {cs:List PV} (h:aJ H f sz l v ids) (hn:id∉ids):aJ (H.put id cs) f sz l v ids:=
 h.hf (M:=[id]) (HF.put (.inl (List.mem_singleton.2 rfl)) (HF.refl _ _)) (fun i hi hj=>hn (List.mem_singleton.1 hj▸hi))
theorem aJ.aaL (h:aJ H f sz l v ids):xP v=some (.int .i64 l.length):=by
 rcases h with⟨rfl,rfl,_⟩|⟨id,cap,junk,rfl,rfl,_⟩
 · rfl
 · rfl
theorem aJ.at (h:aJ H f sz l v ids) {i:Nat} {x:α} (hx:l[i]? =some x): ∃id cap junk,ids=[id]/\v= .bR id 0 l.length cap sz/\l.length<=cap/\id<H.next/\H.obj id=some ((l.map f).flatten++junk)/\junk.length=(cap -l.length)*sz:=by
 rcases h with⟨_,rfl,_⟩|h
 · simp at hx
 · exact h
theorem aJ.content [hr:mX f sz] (h:aJ H f sz l v ids) {i:Nat} {x:α} (hx:l[i]? =some x):
 ∃id C,ids=[id]/\id<H.next/\H.obj id=some C/\(∀j c,(f x)[j]? =some c->C[i*sz+j]? =some c)/\(∀j,j<=sz->i*sz+j<=C.length)/\(C.drop (i*sz)).take sz=f x/\
  ∀k n,0<=n->n.toNat=i->jV sz v (.int k n)=some (.ref id (i*sz)):=by
 obtain⟨id,cap,junk,rfl,rfl,h2,h3,h4,h5⟩:=h.at hx;have hlt:=(List.getElem?_eq_some_iff.1 hx).1;have hd:((l.map f).flatten++junk).drop (i*sz)=f x++(((l.drop (i+1)).map f).flatten++junk):=by
  rw [List.drop_append_of_le_length (by rw [lJ hr.len];exact Nat.mul_le_mul_right _ (by omega)),Yb hr.len,aaK hx];simp
 have hlen:i*sz+sz<=((l.map f).flatten++junk).length:=by
  rw [List.length_append,lJ hr.len];have:(i+1)*sz<=l.length*sz:=Nat.mul_le_mul_right _ hlt;rw [Nat.succ_mul]at this;omega
 refine⟨id,_,rfl,h3,h4,fun j c hc=> ?_,fun j hj=>by omega,?_,fun k n hn he=> ?_⟩
 · rw [<-List.getElem?_drop,hd];have hj:j<(f x).length:=(List.getElem?_eq_some_iff.1 hc).1;rw [List.getElem?_append_left hj];exact hc
 · rw [hd,List.take_append_of_le_length (by rw [hr.len];exact Nat.le_refl _),List.take_of_length_le (by rw [hr.len];exact Nat.le_refl _)]
 · subst he;have h6:n<(l.length:Int):=by omega
   simp [jV,hn,h6]
theorem aJ.fz (hp: ∀x,∀c∈f x,Pu c) [hr:mX f sz] (h:aJ H f sz l v ids):Fz H v (.ak (l.map f) .unk):=by
 rcases h with⟨rfl,rfl,_⟩|⟨id,cap,junk,rfl,rfl,h2,h3,h4,h5⟩
 · exact dS hp [] .nil
 · refine .bR id 0 l.length cap sz _ _ (fun i j=>((l.map f)[i]?.bind (·[j]?)).getD .any) h4 (by simp) h2 (fun i cs e=> ?_) (fun i cs e j c ec=> ?_) (fun i cs e j c ec=> ?_)
   · simp only [List.getElem?_map,Option.map_eq_some_iff]at e;obtain⟨x,_,rfl⟩:=e;exact hr.len x
   · have e':=e;simp only [List.getElem?_map,Option.map_eq_some_iff]at e;obtain⟨x,hx,rfl⟩:=e;have hrow:aJ H f sz l (.bR id 0 l.length cap sz) [id]:= .inr ⟨id,cap,junk,rfl,rfl,h2,h3,h4,h5⟩;obtain⟨id',C,e1,_,e2,e3,_⟩:=hrow.content hx;cases e1;rw [h4]at e2;cases e2;rw [e',Option.bind_some,ec,Option.getD_some,Nat.zero_add];exact e3 j c ec
   · rw [e,Option.bind_some,ec,Option.getD_some];simp only [List.getElem?_map,Option.map_eq_some_iff]at e;obtain⟨x,_,rfl⟩:=e;exact .pure _ (hp x c (List.mem_of_getElem? ec))
end
variable [Glob]
section
variable {P:Program} {Q:Post} {σ:Nat->PV} {s:List Fm} {α:Type} {H:AH} {f:α->List PV} {sz:Nat} {v:PV} {ids:List Nat}
theorem Ik {d:Option Nat} {b:Nat} {x y:AE} {l:List aR} [hr:mX f sz] (hf: ∀x,kT sz (f x)) (xs ys:List α) (c2:Ck)
 (hx:x.ev σ=v) (hrow:aJ H f sz xs v ids) (hy:y.ev σ= .ak (ys.map f) c2) (hs:0<ys.length) (hb:(xs.length+ys.length)*b<=1099511627776)
 (h: ∀(v':PV) (gZ:List Nat) (H':AH),aJ H' f sz (xs++ys) v' gZ->Nw H ids gZ->HF ids H H'->(∀c3,bq H c3->bq H' c3)->WO P l s Q (upd σ d v') H'):
 WO P (⟨d,.n (.app sz b x y),none⟩::l) s Q σ H:=by
 show dH P _ _ σ H
 rw [FZ];simp only [nop,hx,hy];have h0: ¬((ys.map f).length=0):=by rw [List.length_map];omega
 have fresh: ∀(es:List (List PV)),es=xs.map f->zo sz b H es (ys.map f) (fun p H'=>dH P l (F4 P s Q .normal) (upd σ d p) H'):=by
  intro es he cap hcap;subst he;simp only [List.length_map]at hcap⊢;refine h _ [H.next] _ (.inr ⟨H.next,cap,List.replicate ((cap -(xs.length+ys.length))*sz) .any,rfl,by rw [List.length_append],by rw [List.length_append];exact hcap,Nat.lt_succ_self _,?_,by rw [List.length_replicate,List.length_append]⟩) (fun i hi=> .inr (by rw [List.mem_singleton.1 hi];exact Nat.le_refl _)) (HF.new (HF.refl _ _)) (fun c3 k=>k.new);show(if H.next=H.next then some _ else _)=_;rw [if_pos rfl,List.map_append]
 rcases hrow with⟨rfl,rfl,rfl⟩|⟨id,cap,junk,rfl,rfl,h2,h3,h4,h5⟩
 · simp only [vS,rowOf];rw [if_neg h0];split
   · exact fresh [] rfl
   · rename_i hno;exact(hno ⟨oD hf ([]:List α),oD hf ys,by simpa using hb⟩).elim
 · have hfl:=lJ (f:=f) hr.len xs;have hrow:rowOf sz H (.bR id 0 xs.length cap sz)=some (xs.map f):=by
    simp only [rowOf,h4];rw [if_pos ⟨trivial,by rw [List.length_append,hfl];omega⟩,List.drop_zero];have:=wu (sz:=sz) (xs.map f) junk (fun cs hcs=>by obtain⟨x,_,rfl⟩:=List.mem_map.1 hcs;exact hr.len x);rw [List.length_map]at this;rw [this]
   simp only [vS,hrow];have:rowOf sz H (.ak (ys.map f) c2)=some (ys.map f):=rfl;simp only [this];rw [if_neg h0,if_pos ⟨oD hf xs,oD hf ys,by simpa using hb⟩];simp only [List.length_map];by_cases hc:xs.length+ys.length<=cap
   · rw [if_pos hc,h4];have hsz:cap -xs.length=(cap -(xs.length+ys.length))+ys.length:=by omega
     have h6:0+(xs.length+ys.length)*sz<=((xs.map f).flatten++junk).length:=by
      rw [List.length_append,hfl,h5,Nat.add_mul,hsz,Nat.add_mul];omega
     simp only;rw [if_pos h6];have hyl:=lJ (f:=f) hr.len ys;have hput:putCells ((xs.map f).flatten++junk) (0+xs.length*sz) (ys.map f).flatten=((xs++ys).map f).flatten++junk.drop (ys.length*sz):=by
      rw [Nat.zero_add,putCells,<-hfl,List.take_left,hyl,<-List.drop_drop,List.drop_left,List.map_append,List.flatten_append]
     rw [hput];refine h _ [id] _ (.inr ⟨id,cap,junk.drop (ys.length*sz),rfl,by rw [List.length_append],by rw [List.length_append];exact hc,h3,?_,?_⟩) Nw.refl (HF.put (.inl (List.mem_singleton.2 rfl)) (HF.refl _ _)) (fun c3 k=>k.put)
     · show(if id=id then some _ else _)=_
       rw [if_pos rfl]
     · rw [List.length_drop,h5,List.length_append,hsz,Nat.add_mul];omega
   · rw [if_neg hc,if_pos h2];have hfr:=fresh _ rfl;intro cap' avp;exact hfr cap' avp
theorem aaM {d:Option Nat} {bytes:Nat} {zero:List PV} {x y:AE} {l:List aR} [hr:mX f sz] (z:α) (hz:f z=zero) {k k':IntKind} {n c:Int} (hx:x.ev σ= .int k n) (hy:y.ev σ= .int k' c)
 (hb:0<=n/\n<=c/\c<=1099511627776/\bytes*c<=1099511627776) (hs:0<sz)
 (h: ∀(v':PV) (gZ:List Nat) (H':AH),aJ H' f sz (List.replicate n.toNat z) v' gZ->Nw H [] gZ->HF [] H H'->(∀c3,bq H c3->bq H' c3)->WO P l s Q (upd σ d v') H'):
 WO P (⟨d,.d (.vR sz bytes zero x y),none⟩::l) s Q σ H:=by
 show WD P (iH (.vR sz bytes zero x y) σ H) d l s Q σ
 simp only [iH,hx,hy];rw [if_pos ⟨hb.1,hb.2.1,hb.2.2.1,hb.2.2.2,by rw [<-hz,hr.len],hs⟩];show WO P l s Q (upd σ d _) _;have hn:(List.replicate n.toNat z).length=n.toNat:=List.length_replicate;refine h _ [H.next] _ (.inr ⟨H.next,c.toNat,(List.replicate (c.toNat -n.toNat) zero).flatten,rfl,by rw [hn],by rw [hn];omega,Nat.lt_succ_self _,?_,?_⟩) (fun i hi=> .inr (by rw [List.mem_singleton.1 hi];exact Nat.le_refl _)) (HF.new (HF.refl _ _)) (fun c3 k=>k.new)
 · show(if H.next=H.next then some _ else _)=_
   rw [if_pos rfl,List.map_replicate,hz,<-List.flatten_append,List.replicate_append_replicate];congr 3;omega
 · rw [hn,Yc,<-hz,hr.len]
theorem qc {d:Option Nat} {n:Nat} {x w:AE} {l:List aR} [hr:mX f sz] {xs:List α} {id o i j:Nat} {a y:α} {vs:List PV}
 (hx:x.ev σ= .ref id o) (hid:ids=[id]) (ho:o=i*sz+j) (hrow:aJ H f sz xs v ids) (ha:xs[i]? =some a) (hv:cellsOf (w.ev σ)=some vs) (hl:vs.length=n) (hone:vs.all PV.one=true) (hj:j+n<=sz) (hy:putCells (f a) j vs=f y)
 (h: ∀H':AH,aJ H' f sz (xs.set i y) v ids->HF ids H H'->(∀c3,bq H c3->bq H' c3)->WO P l s Q (upd σ d .any) H'):
 WO P (⟨d,.d (.store n x w),none⟩::l) s Q σ H:=by
 obtain⟨id',cap,junk,e1,rfl,h2,h3,h4,h5⟩:=hrow.at ha;subst hid;cases e1;have hlt:=(List.getElem?_eq_some_iff.1 ha).1;have hfl:=lJ (f:=f) hr.len xs;have hle:o+n<=((xs.map f).flatten++junk).length:=by
  rw [List.length_append,hfl,ho];have:(i+1)*sz<=xs.length*sz:=Nat.mul_le_mul_right _ hlt;rw [Nat.succ_mul]at this;omega
 show WD P (iH (.store n x w) σ H) d l s Q σ
 simp only [iH,hx,hv,h4];rw [if_pos ⟨hl,hle,hone⟩];show WO P l s Q (upd σ d .any) _;have hxs:xs=xs.take i++a::xs.drop (i+1):=by rw [<-aaK ha,List.take_append_drop]
 have hA:((xs.take i).map f).flatten.length=i*sz:=by rw [lJ hr.len,List.length_take];congr 1;omega
 have hput:putCells ((xs.map f).flatten++junk) o vs=((xs.set i y).map f).flatten++junk:=by
  have e2:(xs.map f).flatten++junk=((xs.take i).map f).flatten++(f a++(((xs.drop (i+1)).map f).flatten++junk)):=by
   conv=>lhs;rw [hxs]
   simp
  have e3:xs.set i y=xs.take i++y::xs.drop (i+1):=by rw [List.set_eq_take_append_cons_drop,if_pos hlt]
  rw [e2,e3,ho,<-hA,aaJ _ _ _ _ (by rw [hr.len,hl];exact hj),hy];simp
 rw [hput];refine h _ (.inr ⟨id,cap,junk,rfl,by rw [List.length_set],by rw [List.length_set];exact h2,h3,?_,by rw [List.length_set];exact h5⟩) (HF.put (.inl (List.mem_singleton.2 rfl)) (HF.refl _ _)) (fun c3 k=>k.put);show(if id=id then some _ else _)=_;rw [if_pos rfl]
end
end Go.VL
end
section
namespace Go.VL
variable [Glob]
section
variable {P:Program} {Q:Post} {σ:Nat->PV} {s:List Fm} {α β:Type} {H:AH} {f:α->List PV} {sz:Nat} {g:β->List PV} {sz2:Nat}
def Mk (f:α->List PV) (sz:Nat) (xs:List α) (H:AH) (v:PV) (H':AH):Prop:= ∃ids,aJ H' f sz xs v ids/\Nw H [] ids/\HF [] H H'/\ ∀c3,bq H c3->bq H' c3
def KT (P:Program) (g:FuncId) (args:List PV) (f:α->List PV) (sz:Nat) (xs:List α):Prop:= ∀H,bA P g args H (Mk f sz xs H)
theorem aij {d:Option Nat} {g:FuncId} {args:List PV} {l:List aR} {xs:List α} (hm:KT P g args f sz xs)
 (h: ∀(v':PV) (gZ:List Nat) (H':AH),aJ H' f sz xs v' gZ->Nw H [] gZ->HF [] H H'->(∀c3,bq H c3->bq H' c3)->WO P l s Q (upd σ d v') H'):MC P g args d l s Q σ H:=
 bA.mono (hm H) fun v H' ⟨ids,h1,h2,h3,h4⟩=>h v ids H' h1 h2 h3 h4
theorem apE {bytes:Nat} {zero:List PV} {x y:AE} [hr:mX f sz] (z:α) (hz:f z=zero) {k k':IntKind} {n:Int} (hx:x.ev σ= .int k n) (hy:y.ev σ= .int k' n)
 (hb:0<=n/\n<=1099511627776/\bytes*n<=1099511627776) (hs:0<sz):eG P (.d (.vR sz bytes zero x y)) (Mk f sz (List.replicate n.toNat z) H) σ H:=by
 have h:=aaM (P:=P) (s:=[]) (Q:=fun e σ' H'=> ∃v,σ'=upd σ (some 0) v/\Mk f sz (List.replicate n.toNat z) H v H') (d:=some 0) (l:=[]) (H:=H) (bytes:=bytes) (x:=x) (y:=y) z hz hx hy ⟨hb.1,Int.le_refl _,hb.2.1,hb.2.2⟩ hs
  (fun v' gZ H' h1 h2 h3 h4=>⟨v',rfl,gZ,h1,h2,h3,h4⟩)
 have h2:WD P (iH (.vR sz bytes zero x y) σ H) (some 0) [] [] (fun e σ' H'=> ∃v,σ'=upd σ (some 0) v/\Mk f sz (List.replicate n.toNat z) H v H') σ:=h;show(match iH (.vR sz bytes zero x y) σ H with|some (p,H')=>Mk f sz (List.replicate n.toNat z) H p H'|none=>False);revert h2;cases iH (.vR sz bytes zero x y) σ H with
 |none=>intro h2;exact h2
 |some q=>
  intro h2;obtain⟨v,e,h3⟩:=(h2: ∃v,upd σ (some 0) q.1=upd σ (some 0) v/\Mk f sz (List.replicate n.toNat z) H v q.2);have e2:=congrFun e 0;simp only [upd,if_true]at e2;show Mk f sz (List.replicate n.toNat z) H q.1 q.2;rw [e2];exact h3
theorem apF {g:FuncId} {fs cs args:List PV} {es:List AE} {xs:List α} (hm:KT P g args f sz xs) (ha:fs++evs σ es++cs=args):eG P (.call (.c (.fn (.func g) fs cs)) es) (Mk f sz xs H) σ H:=by
 show bA P g (fs++evs σ es++cs) H _
 rw [ha];exact hm H
def Ua (P:Program):List (aR×Bool)->(Nat->PV)->(Nat->PV)->Prop
 |[],_,_=>True
 |(o,d)::l,val,σ=>(d=true\/(o.g=none/\ ∀H,eG P o.k (fun r fQ=>r=val 0/\fQ=H) σ H))/\Ua P l (fun i=>val (i+1)) (upd σ o.dst (val 0))
theorem Ua.at {P:Program}: ∀{pr:List (aR×Bool)} {val σ:Nat->PV} (h:Ua P pr val σ) (i:Nat) (o:aR),pr[i]? =some (o,false)->nJ o (cO pr val σ i)/\ ∀H,eG P o.k (fun r fQ=>r=val i/\fQ=H) (cO pr val σ i) H
 |(o,d)::l,val,σ,h,0,o',e=>by
   cases e;rcases h.1 with h1|⟨h1,h2⟩
   · cases h1
   · refine⟨?_,h2⟩;unfold nJ;rw [h1];trivial
 |(o,d)::l,val,σ,h,i+1,o',e=>Ua.at (pr:=l) h.2 i o' e
theorem aik {ms:List Nat} {pr:List (aR×Bool)} {K:(Nat->PV)->AH->Prop} {a b:Nat} {oa ob:aR} {xs:List α} {ys:List β} (gu:PV->PV->Nat->PV) (hr:vY pr=[a,b]) (hne:a≠b)
 (pra:pr[a]? =some (oa,true)) (prb:pr[b]? =some (ob,true)) (ha: ∀x y,gu x y a=x) (hb: ∀x y,gu x y b=y)
 (agA: ∀x x' y i,i≠a->eO ms a i=false->gu x y i=gu x' y i) (agB: ∀x y y' i,i≠b->eO ms b i=false->gu x y i=gu x y' i)
 (pure: ∀x y,Ua P pr (gu x y) σ)
 (mkA: ∀y H,nJ oa (cO pr (gu ud y) σ a)/\eG P oa.k (Mk f sz xs H) (cO pr (gu ud y) σ a) H)
 (mkB: ∀x H,nJ ob (cO pr (gu x ud) σ b)/\eG P ob.k (Mk g sz2 ys H) (cO pr (gu x ud) σ b) H)
 (hend: ∀va vb Nc Il H2,aJ H2 f sz xs va Nc->aJ H2 g sz2 ys vb Il->Dj Nc Il->Nw H [] Nc->Nw H [] Il->HF [] H H2->(∀c3,bq H c3->bq H2 c3)->K (cO pr (gu va vb) σ pr.length) H2):
 ∃val:Nat->PV,vX P ms pr K σ (vY pr).length (vY pr) val H:=by
 refine⟨gu ud ud,?_⟩;rw [hr]
 have hpure: ∀(rem:List Nat) (x y:PV) (H:AH) (i:Nat) (o:aR),pr[i]? =some (o,false)->(∀s∈rem,eO ms s i=false)->(∀(s:Nat) (o':aR),pr[s]? =some (o',true)->s∉rem->eO ms i s=false)->
  (qI o (cO pr (gu x y) σ i)/\gu x y i=ud)\/(nJ o (cO pr (gu x y) σ i)/\eG P o.k (fun r fQ=>r=gu x y i/\fQ=H) (cO pr (gu x y) σ i) H):=
  fun rem x y H i o e _ _=> .inr ⟨((pure x y).at i o e).1,((pure x y).at i o e).2 H⟩
 have hfa:[a,b].filter (·!=a)=[b]:=by simp [Ne.symm hne]
 have hfb:[a,b].filter (·!=b)=[a]:=by simp [hne]
 have hj: ∀{Nc Il:List Nat} {H1:AH},(∀i∈Nc,i<H1.next)->Nw H1 [] Il->Dj Nc Il:=fun h1 h2 i hi hj=>by
  rcases h2 i hj with q|q
  · cases q
  · have:=h1 i hi;omega
 have hnw: ∀{H1:AH} {Il:List Nat},HF [] H H1->Nw H1 [] Il->Nw H [] Il:=fun h1 h2 i hi=>by
  rcases h2 i hi with q|q
  · exact .inl q
  · exact .inr (Nat.le_trans h1.1 q)
 have hft: ∀{H1 H2:AH},HF [] H H1->HF [] H1 H2->HF [] H H2:=fun h1 h2=>⟨Nat.le_trans h1.1 h2.1,fun i hi hm=>(h2.2 i (Nat.lt_of_lt_of_le hi h1.1) hm).trans (h1.2 i hi hm)⟩
 unfold vX;refine⟨hpure _ ud ud H,(fun e=>by cases e),fun j hj' o e hbj=> ?_⟩;rcases List.mem_cons.1 hj' with rfl|hj'
 · rw [pra]at e;cases e;refine⟨(mkA ud H).1,mW (fun va H1 hm=> ?_) (mkA ud H).2⟩;obtain⟨Nc,a1,a2,a3,a4⟩:=hm;refine⟨gu va ud,fun i hi hbi=> ?_,ha _ _,?_⟩
   · exact agA _ _ _ i (fun q=>hi (q▸List.mem_cons_self ..)) (hbi _ (List.mem_cons_self ..))
   · rw [hfa];unfold vX;refine⟨hpure _ va ud H1,(fun e=>by cases e),fun j hj2 o e hbj=> ?_⟩;rw [List.mem_singleton.1 hj2]at e⊢;rw [prb]at e;cases e;refine⟨(mkB va H1).1,mW (fun vb H2 hm=> ?_) (mkB va H1).2⟩;obtain⟨Il,b1,b2,b3,b4⟩:=hm;refine⟨gu va vb,fun i hi hbi=>agB _ _ _ i (fun q=>hi (q▸List.mem_cons_self ..)) (hbi _ (List.mem_cons_self ..)),hb _ _,?_⟩
     have hf:[b].filter (·!=b)=[]:=by simp
     rw [hf];unfold vX;exact⟨hpure _ va vb H2,fun _=>hend va vb Nc Il H2 (a1.hf b3 Dj.nil.symm) b1 (hj (fun i hi=>a1.lt i hi) b2) a2 (hnw a3 b2) (hft a3 b3) (fun c3 h=>b4 c3 (a4 c3 h)),rfl⟩
 · rw [List.mem_singleton.1 hj']at e⊢;rw [prb]at e;cases e;refine⟨(mkB ud H).1,mW (fun vb H1 hm=> ?_) (mkB ud H).2⟩;obtain⟨Il,b1,b2,b3,b4⟩:=hm;refine⟨gu ud vb,fun i hi hbi=> ?_,hb _ _,?_⟩
   · exact agB _ _ _ i (fun q=>hi (q▸List.mem_cons_of_mem _ (List.mem_cons_self ..))) (hbi _ (List.mem_cons_of_mem _ (List.mem_cons_self ..)))
   · rw [hfb];unfold vX;refine⟨hpure _ ud vb H1,(fun e=>by cases e),fun j hj2 o e hbj=> ?_⟩;rw [List.mem_singleton.1 hj2]at e⊢;rw [pra]at e;cases e;refine⟨(mkA vb H1).1,mW (fun va H2 hm=> ?_) (mkA vb H1).2⟩;obtain⟨Nc,a1,a2,a3,a4⟩:=hm;refine⟨gu va vb,fun i hi hbi=>agA _ _ _ i (fun q=>hi (q▸List.mem_cons_self ..)) (hbi _ (List.mem_cons_self ..)),ha _ _,?_⟩
     have hf:[a].filter (·!=a)=[]:=by simp
     rw [hf];unfold vX;exact⟨hpure _ va vb H2,fun _=>hend va vb Nc Il H2 a1 (b1.hf a3 Dj.nil.symm) (Dj.symm (hj (fun i hi=>b1.lt i hi) a2)) (hnw b3 a2) b2 (hft b3 a3) (fun c3 h=>a4 c3 (b4 c3 h)),rfl⟩
def Al (P:Program) (H:AH) (skip:Nat->Bool):Nat->List (aR×Bool)->(Nat->PV)->(Nat->PV)->Prop
 |_,[],_,_=>True
 |n,(o,d)::l,val,σ=>(d=true\/skip n=true\/(o.g=none/\eG P o.k (fun r fQ=>r=val 0/\fQ=H) σ H))/\Al P H skip (n+1) l (fun i=>val (i+1)) (upd σ o.dst (val 0))
theorem Al.at {P:Program} {H:AH} {skip:Nat->Bool}: ∀{pr:List (aR×Bool)} {n:Nat} {val σ:Nat->PV} (h:Al P H skip n pr val σ) (i:Nat) (o:aR),pr[i]? =some (o,false)->skip (n+i)=false->nJ o (cO pr val σ i)/\eG P o.k (fun r fQ=>r=val i/\fQ=H) (cO pr val σ i) H
 |(o,d)::l,n,val,σ,h,0,o',e,hk=>by
   cases e;rcases h.1 with h1|h1|⟨h1,h2⟩
   · cases h1
   · rw [Nat.add_zero,h1]at hk;cases hk
   · refine⟨?_,h2⟩;unfold nJ;rw [h1];trivial
 |(o,d)::l,n,val,σ,h,i+1,o',e,hk=>Al.at (pr:=l) h.2 i o' e (by rw [Nat.add_assoc,Nat.add_comm 1 i];exact hk)
theorem apG {ms:List Nat} {pr:List (aR×Bool)} {K:(Nat->PV)->AH->Prop} (Inv:List Nat->(Nat->PV)->AH->Prop)
 (pure: ∀rem val H,Inv rem val H-> ∃skip,Al P H skip 0 pr val σ/\ ∀i,skip i=true->(∃s∈rem,eO ms s i=true)\/ ∃s,s∈vY pr/\s∉rem/\eO ms i s=true)
 (step: ∀rem val H j o,Inv rem val H->j∈rem->pr[j]? =some (o,true)->(∀s∈rem,eO ms s j=false\/s=j)->
  nJ o (cO pr val σ j)/\eG P o.k (fun r H'=> ∃val':Nat->PV,(∀i,i∉rem->(∀s∈rem,eO ms s i=false)->val' i=val i)/\val' j=r/\Inv (rem.filter (·!=j)) val' H') (cO pr val σ j) H)
 (fin: ∀val H,Inv [] val H->K (cO pr val σ pr.length) H): ∀(n:Nat) (rem:List Nat) (val:Nat->PV) (H:AH),rem.length<=n->Inv rem val H->vX P ms pr K σ n rem val H:=by
 have hp: ∀rem val H,Inv rem val H-> ∀(i:Nat) (o:aR),pr[i]? =some (o,false)->(∀s∈rem,eO ms s i=false)->(∀(s:Nat) (o':aR),pr[s]? =some (o',true)->s∉rem->eO ms i s=false)->
  (qI o (cO pr val σ i)/\val i=ud)\/(nJ o (cO pr val σ i)/\eG P o.k (fun r fQ=>r=val i/\fQ=H) (cO pr val σ i) H):=by
  intro rem val H h i o e h1 h2;obtain⟨skip,k1,k2⟩:=pure rem val H h;refine .inr (k1.at i o e ?_);rw [Nat.zero_add];cases hk:skip i with
  |false=>rfl
  |true=>
   rcases k2 i hk with⟨s,hs,hb⟩|⟨s,hs,hn,hb⟩
   · rw [h1 s hs]at hb;cases hb
   · obtain⟨o',e'⟩:=(Ie s).1 hs;rw [h2 s o' e' hn]at hb;cases hb
 intro n
 induction n with
 |zero=>
  intro rem val H hn h;obtain rfl:rem=[]:=List.length_eq_zero_iff.1 (by omega);unfold vX;exact⟨hp _ _ _ h,fun _=>fin _ _ h,rfl⟩
 |succ n ih=>
  intro rem val H hn h;unfold vX;refine⟨hp _ _ _ h,fun e=>fin _ _ (e▸h),fun j hj o e hb=> ?_⟩;obtain⟨h1,h2⟩:=step rem val H j o h hj e hb;refine⟨h1,mW (fun r H' ⟨val',g1,g2,g3⟩=>⟨val',g1,g2,ih _ _ _ ?_ g3⟩) h2⟩
  have:(rem.filter (·!=j)).length<rem.length:=by
   rw [List.length_filter_lt_length_iff_exists];exact⟨j,hj,by simp⟩
  omega
theorem VU {ms:List Nat} {pr:List (aR×Bool)} {post:List aR} (h: ∃val:Nat->PV,vX P ms pr (fun σ H=>WO P post s Q σ H) σ (vY pr).length (vY pr) val H):WS P (.sD ms pr post) s Q σ H:=h
end
end Go.VL
end
section
namespace Go.VL
abbrev oM (d s:Nat):aR:=⟨some d,.r (.aV (.t s)),none⟩
abbrev sO (l:List aR) (b:AC):AC:= .seq (.ops l) b
abbrev zO:List PV:=[(.str []),(.int .i64 0),(.int .i64 0),(.int .i64 0),(.bool false),(.int .i64 0),(.int .i64 0)]
abbrev zN:List PV:=[(.int .i64 0),(.int .i64 0),(.str []),(.ak [] .nil),(.ak [] .nil)]
theorem ay8:zO=[(.str []),(.int .i64 0),(.int .i64 0),(.int .i64 0),(.bool false),(.int .i64 0),(.int .i64 0)]:=rfl
theorem ay9:zN=[(.int .i64 0),(.int .i64 0),(.str []),(.ak [] .nil),(.ak [] .nil)]:=rfl
attribute [go_sem] ay8 ay9
abbrev bJ (d s g:Nat) (w:Bool):aR:=⟨some d,.r (.aV (.t s)),some (g,w)⟩
abbrev oI (d:Nat) (n:Int):aR:=⟨some d,.r (.aV (.c (.int .i64 n))),none⟩
abbrev oL (d n s:Nat):aR:=⟨some d,.r (.load n false (.t s)),none⟩
abbrev dK (d n s g:Nat) (w:Bool):aR:=⟨some d,.r (.load n false (.t s)),some (g,w)⟩
abbrev oA (d n s:Nat):aR:=⟨some d,.r (.load n true (.t s)),none⟩
abbrev oAg (d n s g:Nat) (w:Bool):aR:=⟨some d,.r (.load n true (.t s)),some (g,w)⟩
abbrev oF (d n s:Nat):aR:=⟨some d,.r (.X3 n (.t s)),none⟩
abbrev eH (d n s g:Nat) (w:Bool):aR:=⟨some d,.r (.X3 n (.t s)),some (g,w)⟩
abbrev oX (d n s i:Nat):aR:=⟨some d,.r (.idx n (.t s) (.t i)),none⟩
abbrev oN (d s:Nat):aR:=⟨some d,.r (.len (.t s)),none⟩
abbrev oE (d s i:Nat):aR:=⟨some d,.r (.ext (.t s) i),none⟩
abbrev oB (d:Nat) (o:BinOp) (x y:AE):aR:=⟨some d,.r (.bin o .no x y),none⟩
abbrev fJ (d:Nat) (o:BinOp) (x y:AE) (g:Nat) (w:Bool):aR:=⟨some d,.r (.bin o .no x y),some (g,w)⟩
abbrev oR (d:Nat) (k:RK):aR:=⟨some d,.r k,none⟩
abbrev dh (d:Nat) (k:RK) (g:Nat) (w:Bool):aR:=⟨some d,.r k,some (g,w)⟩
abbrev oC (d f:Nat) (l:List AE):aR:=⟨some d,.call (.c (.fn (.func f) [] [])) l,none⟩
abbrev iW (d f:Nat) (l:List AE) (g:Nat) (w:Bool):aR:=⟨some d,.call (.c (.fn (.func f) [] [])) l,some (g,w)⟩
abbrev oS (n x v:Nat):aR:=⟨none,.d (.store n (.t x) (.t v)),none⟩
abbrev m6 (x:Nat) (a b:AC):AC:=.cond (.t x) a b
abbrev w6 (b:Bool):AE:=.c (.bool b)
abbrev y6 (d x y:Nat):aR:=⟨some d,.r (.pick (.t x) (.c (.bool true)) (.t y)),none⟩
abbrev d5 (n:Int):AE:=.c (.int .i64 n)
abbrev g0 (d:Nat) (b:Bool):aR:=⟨some d,.r (.aV (.c (.bool b))),none⟩
abbrev j0 (d:Nat) (o:BinOp) (x:Nat) (n:Int):aR:=⟨some d,.r (.bin o .no (.t x) (.c (.int .i64 n))),none⟩
abbrev p1 (d:Nat) (o:BinOp) (x y:Nat):aR:=⟨some d,.r (.bin o .no (.t x) (.t y)),none⟩
abbrev z1 (x:Nat):AC:=.cond (.t x) .skip (.exit 0)
abbrev u5 (d f x:Nat):aR:=⟨some d,.call (.c (.fn (.func f) [] [])) [.t x],none⟩
abbrev a6 (d x:Nat):aR:=⟨some d,.r (.not (.t x)),none⟩
abbrev b6 (d x y:Nat):aR:=⟨some d,.r (.pick (.t x) (.t y) (.c (.bool false))),none⟩
abbrev c6 (d n x:Nat):aR:=⟨some d,.d (.box n (.t x)),none⟩
abbrev i6 (d x:Nat):AC:=.ops [⟨some d,.r (.bin .add .no (.t x) (.c (.int .i64 1))),none⟩,⟨some x,.r (.aV (.t d)),none⟩]
attribute [go_sem] Nat.reduceEqDiff Nat.reduceLeDiff Nat.reduceAdd Nat.reduceMul Nat.reduceSub Int.reduceLT Int.reduceLE Int.reduceToNat Int.reduceNeg Int.reduceEq reduceCtorEq
attribute [go_sem↓] reduceIte
end Go.VL
end
section
set_option maxRecDepth 100000
namespace Go.VL
open Go.Proofs
def dc (n:Nat):Bool:=([284,263,230]:List Nat).contains n
def ac3:AC:=(sO [c6 1 2 0,g0 2 false] (.seq (sO [oC 7 11 [],a6 8 7] (m6 8 (sO [g0 2 false] .ret) .skip)) (.seq (sO [oA 9 2 1,u5 10 12 9,a6 11 10] (m6 11 (sO [g0 2 true] .ret) .skip)) (sO [oA 13 2 1,u5 14 14 13,u5 15 13 14,oM 12 15,oE 16 12 0,oE 17 12 1,oM 3 16,oM 4 17] (sO [oA 19 2 1,u5 20 15 19,oM 18 20,oE 21 18 0,oE 22 18 1,oM 5 21,oM 6 22] (sO [oM 23 4,oM 24 6,p1 25 .eql 23 24,oM 26 25,bJ 27 3 26 true,bJ 28 5 26 true,fJ 29 .eql (.t 27) (.t 28) 26 true,b6 30 26 29,oM 2 30] .ret))))))
theorem Ub:aY Tryz.prog dc false 3 31 [(.tmp 2)] ac3:=bf Tryz.func3
def VW:AC:=(sO [oF 4 0 1,oL 5 1 4,oN 6 5,j0 7 .gtr 6 14,oM 8 7,eH 9 1 1 8 false,dK 10 1 9 8 false,iW 11 16 [(.t 10)] 8 false,dh 12 (.not (.t 11)) 8 false,y6 13 8 12] (m6 13 (sO [g0 2 false] .ret) .skip))
def VX:AC:=(.seq (sO [oM 14 3,oF 15 0 1,oL 16 1 15,oN 17 16,p1 18 .lss 14 17] (z1 18)) (.seq (.block 1 (sO [oF 21 0 1,oL 22 1 21,oM 23 3,oX 24 1 22 23,oL 25 1 24,u5 26 16 25,a6 27 26] (m6 27 (sO [g0 2 false] .ret) .skip))) (.ops [oM 19 3,j0 20 .add 19 1,oM 3 20])))
def arh:AC:=(sO [c6 1 2 0,g0 2 false] (.seq VW (.seq (sO [oI 3 0] (.block 0 (.loop VX))) (sO [g0 2 true] .ret))))
theorem ari:aY Tryz.prog dc false 12 28 [(.tmp 2)] arh:=bf Tryz.func12
def VY:AC:=(sO [p1 16 .lss 15 14] (.seq (z1 16) (.seq (.block 1 (sO [oM 17 15,oX 18 1 13 15,oL 19 1 18,oM 4 17,oM 5 19] (.seq (sO [oM 20 5,u5 21 50 20,oM 6 21] (sO [oM 22 6,j0 23 .neq 22 0] (m6 23 (sO [oM 24 4,oM 25 6,oM 2 24,oM 3 25] .ret) .skip))) (sO [oF 26 0 1,oL 27 1 26,oM 28 4,oR 29 (.slc 1 (.t 27) none (some (.t 28)) none),oM 30 5,oC 31 51 [(.t 29),(.t 30)]] (m6 31 (sO [oM 32 4,oM 2 32,oI 3 12] .ret) .skip))))) (i6 33 15))))
def arj:AC:=(sO [c6 1 2 0,oI 2 0,oI 3 0] (.seq (sO [oF 8 0 1,oL 9 1 8,oN 10 9,j0 11 .gtr 10 12] (m6 11 (sO [oI 2 0,oI 3 2] .ret) .skip)) (.seq (sO [oF 12 0 1,oL 13 1 12,oN 14 13,oI 15 0] (.block 0 (.loop VY))) (.seq (sO [oF 34 1 1,oL 35 1 34,u5 36 50 35,oM 7 36] (sO [oM 37 7,j0 38 .neq 37 0] (m6 38 (sO [oF 39 0 1,oL 40 1 39,oN 41 40,oM 42 7,oM 2 41,oM 3 42] .ret) .skip))) (sO [oI 2 0,oI 3 0] .ret)))))
theorem aza:aY Tryz.prog dc false 13 43 [(.tmp 2),(.tmp 3)] arj:=bf Tryz.func13
def ark:AC:=(sO [c6 1 2 0,⟨(some 2),(.d (.alloc [(.ak [] .nil),(.ak [] .nil)])),none⟩] (.seq (.par [(oF 3 0 1,false),(oL 4 1 3,false),(u5 5 23 4,false),(oF 6 1 1,false),(oL 7 1 6,false)] [u5 8 18 7,oR 9 (.build [(.ak [] .nil),(.ak [] .nil)] [(0,(1,(.t 5))),(1,(1,(.t 8)))]),oS 2 2 9]) .ret))
theorem azb:aY Tryz.prog dc false 14 10 [(.cell 2 2 true)] ark:=bf Tryz.func14
def VZ:AC:=(.seq (sO [oM 11 4,oF 12 0 1,oL 13 1 12,oN 14 13,p1 15 .lss 11 14] (z1 15)) (.seq (.block 1 (.seq (sO [oF 18 0 1,oL 19 1 18,oM 20 4,oX 21 1 19 20,oL 22 1 21,u5 23 19 22,oM 5 23] (sO [oM 24 5,j0 25 .neq 24 0] (m6 25 (sO [oM 26 4,oM 27 5,oM 2 26,oM 3 27] .ret) .skip))) (.seq (.par [(oF 28 0 1,false),(oL 29 1 28,false),(oM 30 4,false),(oR 31 (.slc 1 (.t 29) none (some (.t 30)) none),false),(oF 32 0 1,false),(oL 33 1 32,false),(oM 34 4,false),(oX 35 1 33 34,false),(oL 36 1 35,false)] [oC 37 52 [(.t 31),(.t 36)]]) (m6 37 (sO [oM 38 4,oM 2 38,oI 3 12] .ret) .skip)))) (.ops [oM 16 4,j0 17 .add 16 1,oM 4 17])))
def arl:AC:=(sO [c6 1 2 0,oI 2 0,oI 3 0] (.seq (sO [oF 7 0 1,oL 8 1 7,oN 9 8,j0 10 .gtr 9 12] (m6 10 (sO [oI 2 0,oI 3 2] .ret) .skip)) (.seq (sO [oI 4 0] (.block 0 (.loop VZ))) (.seq (sO [oF 39 1 1,oL 40 1 39,u5 41 19 40,oM 6 41] (sO [oM 42 6,j0 43 .neq 42 0] (m6 43 (sO [oF 44 0 1,oL 45 1 44,oN 46 45,oM 47 6,oM 2 46,oM 3 47] .ret) .skip))) (sO [oI 2 0,oI 3 0] .ret)))))
theorem azc:aY Tryz.prog dc false 15 48 [(.tmp 2),(.tmp 3)] arl:=bf Tryz.func15
def arn:AC:=(sO [g0 2 false] (sO [oM 3 0,u5 4 27 3,oM 5 4,bJ 6 0 5 true,dh 7 (.len (.t 6)) 5 true,fJ 8 .leq (.t 7) (d5 30) 5 true,bJ 9 8 5 true,bJ 10 0 9 false,dh 11 (.len (.t 10)) 9 false,fJ 12 .gtr (.t 11) (d5 160) 9 false,dh 13 (.pick (.t 9) (w6 true) (.t 12)) 5 true,b6 14 5 13,oM 2 14] .ret))
theorem ok16:aY Tryz.prog dc false 16 15 [(.tmp 2)] arn:=bf Tryz.func16
def V3:AC:=(.seq (sO [oM 6 4,oM 7 0,oN 8 7,p1 9 .lss 6 8] (z1 9)) (.seq (.block 1 (sO [oM 12 0,oM 13 4,oX 14 5 12 13,oA 15 5 14,⟨(some 5),(.d (.alloc zN)),none⟩,oS 5 5 15] (.seq (.par [(oF 16 3 5,false),(oL 17 1 16,false),(u5 18 62 17,false),(oF 19 4 5,false),(oL 20 1 19,false),(u5 21 24 20,false),(oF 22 3 5,false)] [oS 1 22 18,oF 23 4 5,oS 1 23 21]) (.ops [oM 24 3,oA 25 5 5,oR 26 (.d9 5 [(.t 25)]),⟨(some 27),(.d (.app 5 80 (.t 24) (.t 26))),none⟩,oM 3 27])))) (.ops [oM 10 4,j0 11 .add 10 1,oM 4 11])))
def aro:AC:=(sO [oR 2 (.aV (.c (.ak [] .nil)))] (sO [oR 3 (.aV (.c (.ak [] .nil)))] (.seq (sO [oI 4 0] (.block 0 (.loop V3))) (sO [oM 28 3,oM 2 28] .ret))))
theorem arp:aY Tryz.prog dc false 18 29 [(.tmp 2)] aro:=bf Tryz.func18
def arq:AC:=(sO [oI 2 0] (sO [oM 6 0,u5 7 63 6,oM 5 7,oE 8 5 0,oE 9 5 1,oM 3 8,oM 4 9] (sO [oM 10 4,oM 2 10] .ret)))
theorem af9:aY Tryz.prog dc false 19 11 [(.tmp 2)] arq:=bf Tryz.func19
def V4:AC:=(.seq (sO [oM 11 5,oM 12 0,oN 13 12,p1 14 .lss 11 13] (z1 14)) (.seq (.block 1 (.seq (.par [(oM 17 0,false),(oM 18 5,false),(oX 19 5 17 18,false),(oA 20 5 19,false),(oM 21 1,false),(oM 22 5,false),(oX 23 5 21 22,false),(oA 24 5 23,false)] [oC 25 75 [(.t 20),(.t 24)],a6 26 25]) (m6 26 (sO [g0 4 false] .ret) .skip))) (.ops [oM 15 5,j0 16 .add 15 1,oM 5 16])))
def ars:AC:=(sO [g0 4 false] (.seq (sO [oM 6 0,oN 7 6,oM 8 1,oN 9 8,p1 10 .neq 7 9] (m6 10 (sO [g0 4 false] .ret) .skip)) (.seq (sO [oI 5 0] (.block 0 (.loop V4))) (sO [g0 4 true] .ret))))
theorem aru:aY Tryz.prog dc false 21 27 [(.tmp 4)] ars:=bf Tryz.func21
def V5:AC:=(sO [p1 30 .lss 29 28] (.seq (z1 30) (.seq (.block 1 (sO [oX 31 1 27 29,oL 32 1 31,oM 10 32] (sO [oM 33 10,u5 34 50 33,oM 11 34] (sO [oM 35 11,j0 36 .neq 35 0] (m6 36 (sO [oM 37 11,g0 6 false,oM 7 37] .ret) .skip))))) (i6 38 29))))
def arv:AC:=(sO [g0 6 false,oI 7 0] (.seq (sO [oM 14 0,oN 15 14,j0 16 .gtr 15 0,oC 17 59 [(.t 16),(d5 1)],oM 18 0,oN 19 18,j0 20 .leq 19 12,oC 21 59 [(.t 20),(d5 2)],oR 22 (.d9 1 [(.t 17),(.t 21)]),u5 23 58 22,oM 8 23] (sO [oM 24 8,j0 25 .neq 24 0] (m6 25 (sO [oM 26 8,g0 6 false,oM 7 26] .ret) .skip))) (.seq (sO [oM 27 0,oN 28 27,oI 29 0] (.block 0 (.loop V5))) (sO [oM 39 1,oC 40 76 [(.t 39),(.c (.fn (.func 77) [] []))],oM 12 40] (.seq (sO [oM 41 1,oN 42 41,oM 43 0,oN 44 43,p1 45 .eql 42 44,oC 46 59 [(.t 45),(d5 6)],oM 47 12,a6 48 47,oC 49 59 [(.t 48),(d5 3)],oM 50 2,u5 51 50 50,oR 52 (.d9 1 [(.t 46),(.t 49),(.t 51)]),u5 53 58 52,oM 13 53] (sO [oM 54 13,j0 55 .neq 54 0] (m6 55 (sO [oM 56 13,g0 6 false,oM 7 56] .ret) .skip))) (sO [oM 57 0,oM 58 1,oM 59 2,oC 60 79 [(.t 57),(.t 58),(.t 59)],oM 6 60,oI 7 0] .ret))))))
theorem arw:aY Tryz.prog dc false 22 61 [(.tmp 6),(.tmp 7)] arv:=bf Tryz.func22
def V6:AC:=(.seq (sO [oM 5 4,oM 6 0,oN 7 6,p1 8 .lss 5 7] (z1 8)) (.seq (.block 1 (.ops [oM 11 3,oM 12 0,oM 13 4,oX 14 1 12 13,oL 15 1 14,u5 16 18 15,oR 17 (.d9 1 [(.t 16)]),⟨(some 18),(.d (.app 1 24 (.t 11) (.t 17))),none⟩,oM 3 18])) (.ops [oM 9 4,j0 10 .add 9 1,oM 4 10])))
def arx:AC:=(sO [oR 2 (.aV (.c (.ak [] .nil)))] (sO [oR 3 (.aV (.c (.ak [] .nil)))] (.seq (sO [oI 4 0] (.block 0 (.loop V6))) (sO [oM 19 3,oM 2 19] .ret))))
theorem azd:aY Tryz.prog dc false 23 20 [(.tmp 2)] arx:=bf Tryz.func23
def arz:AC:=(sO [oR 2 (.aV (.c (.ak [] .nil)))] (sO [oR 3 (.d9 1 []),oM 4 0,⟨(some 5),(.d (.app 1 8 (.t 3) (.t 4))),none⟩,oM 2 5] .ret))
theorem akD:aY Tryz.prog dc false 24 6 [(.tmp 2)] arz:=bf Tryz.func24
def V7:List aR:=[bJ 10 3 9 true,fJ 11 .lss (.t 10) (.c (.int .i64 172)) 9 true,oR 12 (.pick (.t 9) (.t 11) (.c (.bool false)))]
def V8:List aR:=[bJ 23 0 22 false,bJ 24 3 22 false,dh 25 (.idx 5 (.t 23) (.t 24)) 22 false,eH 26 3 25 22 false,dK 27 1 26 22 false,dh 28 (.len (.t 27)) 22 false,fJ 29 .gtr (.t 28) (.c (.int .i64 34)) 22 false,oR 30 (.pick (.t 22) (.c (.bool true)) (.t 29)),oM 31 30,bJ 32 0 31 false,bJ 33 3 31 false,dh 34 (.idx 5 (.t 32) (.t 33)) 31 false,eH 35 2 34 31 false,dK 36 1 35 31 false,dh 37 (.oz (.t 36)) 31 false,fJ 38 .gtr (.t 37) (.c (.int .i64 80)) 31 false,oR 39 (.pick (.t 31) (.c (.bool true)) (.t 38))]
def V9:AC:=(.seq (sO [oM 40 4,oM 41 0,oM 42 3,oX 43 5 41 42,oF 44 3 43,oL 45 1 44,oN 46 45,p1 47 .lss 40 46] (m6 47 .skip (.exit 2))) (.seq (.block 3 (sO [oM 50 0,oM 51 3,oX 52 5 50 51,oF 53 3 52,oL 54 1 53,oM 55 4,oX 56 1 54 55,oL 57 1 56,oR 58 (.oz (.t 57)),j0 59 .gtr 58 80] (m6 59 (sO [g0 2 false] .ret) .skip))) (.ops [oM 48 4,j0 49 .add 48 1,oM 4 49])))
def Wh:AC:=(.seq (.seq (.ops ([oM 5 3,oM 6 0,oN 7 6,p1 8 .lss 5 7,oM 9 8]++V7)) (z1 12)) (.seq (.block 1 (.seq (.seq (.ops ([oM 15 0,oM 16 3,oX 17 5 15 16,oF 18 4 17,oL 19 1 18,oN 20 19,j0 21 .gtr 20 34,oM 22 21]++V8)) (m6 39 (sO [g0 2 false] .ret) .skip)) (sO [oI 4 0] (.block 2 (.loop V9))))) (.ops [oM 13 3,j0 14 .add 13 1,oM 3 14])))
def arA:AC:=(sO [g0 2 false] (.seq (sO [oI 3 0] (.block 0 (.loop Wh))) (sO [oM 60 0,oN 61 60,j0 62 .leq 61 170,oM 2 62] .ret)))
theorem akE:aY Tryz.prog dc false 27 63 [(.tmp 2)] arA:=bf Tryz.func27
def arB:AC:=(sO [g0 6 false] (sO [oM 7 0,oM 8 1,p1 9 .geq 7 8,oM 10 9,bJ 11 0 10 true,bJ 12 2 10 true,fJ 13 .leq (.t 11) (.t 12) 10 true,b6 14 10 13,oM 6 14] .ret))
theorem aze:aY Tryz.prog dc false 29 15 [(.tmp 6)] arB:=bf Tryz.func29
def arC:AC:=(sO [oI 2 0] (sO [oM 6 0,u5 7 119 6,oM 5 7,oE 8 5 0,oE 9 5 1,oM 3 8,oM 4 9] (sO [oM 10 4,oM 2 10] .ret)))
theorem azf:aY Tryz.prog dc false 50 11 [(.tmp 2)] arC:=bf Tryz.func50
def arD:AC:=(sO [c6 3 1 1,g0 4 false] (sO [oM 5 0,oR 6 (.Jb (.func 120) [] [(.t 3)]),oC 7 96 [(.t 5),(.t 6)],oM 4 7] .ret))
theorem azg:aY Tryz.prog dc false 51 8 [(.tmp 4)] arD:=bf Tryz.func51
def Wi:AC:=(.seq (sO [oM 6 5,oM 7 0,oN 8 7,p1 9 .lss 6 8] (z1 9)) (.seq (.block 1 (sO [oM 12 0,oM 13 5,oX 14 1 12 13,oL 15 1 14,oM 16 1,oC 17 98 [(.t 15),(.t 16)]] (m6 17 (sO [g0 4 true] .ret) .skip))) (.ops [oM 10 5,j0 11 .add 10 1,oM 5 11])))
def arE:AC:=(sO [g0 4 false] (.seq (sO [oI 5 0] (.block 0 (.loop Wi))) (sO [g0 4 false] .ret)))
theorem arF:aY Tryz.prog dc false 52 18 [(.tmp 4)] arE:=bf Tryz.func52
def arG:AC:=(sO [⟨(some 2),(.d (.alloc zN)),none⟩] (sO [oM 3 0,oM 4 0,oN 5 4,j0 6 .sub 5 1,oX 7 5 3 6,oA 8 5 7,oS 5 2 8] .ret))
theorem azh:aY Tryz.prog dc false 56 9 [(.cell 2 5 true)] arG:=bf Tryz.func56
def Wj:AC:=(sO [p1 8 .lss 7 6] (.seq (z1 8) (.seq (.block 1 (sO [oX 9 1 5 7,oL 10 1 9,oM 4 10] (sO [oM 11 4,j0 12 .neq 11 0] (m6 12 (sO [oM 13 4,oM 2 13] .ret) .skip)))) (i6 14 7))))
def arH:AC:=(sO [oI 2 0] (.seq (sO [oM 5 0,oN 6 5,oI 7 0] (.block 0 (.loop Wj))) (sO [oI 2 0] .ret)))
theorem azi:aY Tryz.prog dc false 58 15 [(.tmp 2)] arH:=bf Tryz.func58
def arI:AC:=(sO [oI 4 0] (.seq (sO [oM 5 0] (m6 5 (sO [oI 4 0] .ret) .skip)) (sO [oM 6 1,oM 4 6] .ret)))
theorem azj:aY Tryz.prog dc false 59 7 [(.tmp 4)] arI:=bf Tryz.func59
def Wm:AC:=(sO [oR 2 (.aV (.c (.ak [] .nil)))] (sO [oR 3 (.d9 1 []),oM 4 0,⟨(some 5),(.d (.app 1 16 (.t 3) (.t 4))),none⟩,oM 2 5] .ret))
theorem aaP:aY Tryz.prog dc false 62 6 [(.tmp 2)] Wm:=bf Tryz.func62
def Wn:AC:=(.seq (sO [oM 17 4,oM 18 0,oN 19 18,p1 20 .lss 17 19] (z1 20)) (.seq (.block 1 (sO [oM 23 0,oM 24 4,oC 25 133 [(.t 23),(.t 24)],oM 5 25] (sO [oM 26 5,j0 27 .neq 26 0] (m6 27 (sO [oM 28 4,oM 29 5,oM 2 28,oM 3 29] .ret) .skip)))) (.ops [oM 21 4,j0 22 .add 21 1,oM 4 22])))
def Wo:List aR:=[bJ 45 0 44 true,bJ 46 7 44 true,dh 47 (.idx 5 (.t 45) (.t 46)) 44 true,eH 48 0 47 44 true,dK 49 1 48 44 true,fJ 50 .eql (.t 49) (.c (.int .i64 3)) 44 true,oR 51 (.pick (.t 44) (.t 50) (.c (.bool false))),oM 52 51,bJ 53 0 52 true,bJ 54 7 52 true,dh 55 (.idx 5 (.t 53) (.t 54)) 52 true,eH 56 2 55 52 true,dK 57 1 56 52 true,iW 58 135 [(.t 57)] 52 true,oR 59 (.pick (.t 52) (.t 58) (.c (.bool false)))]
def Wp:List aR:=[bJ 67 9 66 true,dh 68 (.not (.t 67)) 66 true,oR 69 (.pick (.t 66) (.t 68) (.c (.bool false)))]
def Wq:List aR:=[bJ 75 0 74 false,bJ 76 7 74 false,dh 77 (.idx 5 (.t 75) (.t 76)) 74 false,eH 78 0 77 74 false,dK 79 1 78 74 false,fJ 80 .eql (.t 79) (.c (.int .i64 19)) 74 false,bJ 81 80 74 false,bJ 82 8 81 true,fJ 83 .eql (.t 82) (.c (.int .i64 2)) 81 true,dh 84 (.pick (.t 81) (.t 83) (.c (.bool false))) 74 false,oR 85 (.pick (.t 74) (.c (.bool true)) (.t 84))]
def Ws:AC:=(.seq (sO [oM 71 7,j0 72 .geq 71 0] (m6 72 .skip (.exit 4))) (.block 5 (.seq (.ops ([oM 73 10,oM 74 73]++Wq++[oM 10 85])) (.ops [oM 87 0,oM 88 7,oC 89 134 [(.t 87),(.t 88)],oM 86 89,oE 90 86 0,oE 91 86 1,oM 7 90,oM 8 91]))))
def Wt:AC:=(.seq (sO [oM 30 6,oM 31 0,oN 32 31,p1 33 .lss 30 32] (m6 33 .skip (.exit 2))) (.seq (.block 3 (sO [oM 37 0,oM 38 6,oC 39 134 [(.t 37),(.t 38)],oM 36 39,oE 40 36 0,oE 41 36 1,oM 7 40,oM 8 41] (.seq (.ops ([oM 42 7,j0 43 .geq 42 0,oM 44 43]++Wo++[oM 9 59])) (.seq (.seq (.ops ([oM 60 0,oM 61 6,oX 62 5 60 61,oF 63 0 62,oL 64 1 63,j0 65 .eql 64 24,oM 66 65]++Wp)) (m6 69 (sO [oM 70 6,oM 2 70,oI 3 30] .ret) .skip)) (sO [g0 10 false] (.seq (.block 4 (.loop Ws)) (sO [oM 92 0,oM 93 6,oX 94 5 92 93,oF 95 0 94,oL 96 1 95,j0 97 .eql 96 20,oM 98 97,bJ 99 10 98 true,dh 100 (.not (.t 99)) 98 true,b6 101 98 100] (m6 101 (sO [oM 102 6,oM 2 102,oI 3 30] .ret) .skip)))))))) (.ops [oM 34 6,j0 35 .add 34 1,oM 6 35])))
def arJ:AC:=(sO [oI 2 0,oI 3 0] (.seq (sO [oM 11 0,oN 12 11,j0 13 .eql 12 0] (m6 13 (sO [oI 2 0,oI 3 1] .ret) .skip)) (.seq (sO [oM 14 0,oN 15 14,j0 16 .gtr 15 160] (m6 16 (sO [oI 2 0,oI 3 2] .ret) .skip)) (.seq (sO [oI 4 0] (.block 0 (.loop Wn))) (.seq (sO [oI 6 0] (.block 2 (.loop Wt))) (.seq (sO [oM 103 0,oM 104 0,oN 105 104,j0 106 .sub 105 1,oC 107 136 [(.t 103),(.t 106)],j0 108 .neq 107 0] (m6 108 (sO [oM 109 0,oN 110 109,j0 111 .sub 110 1,oM 2 111,oI 3 15] .ret) .skip)) (sO [oI 2 0,oI 3 0] .ret)))))))
theorem azk:aY Tryz.prog dc false 63 112 [(.tmp 2),(.tmp 3)] arJ:=bf Tryz.func63
def arK:AC:=(sO [⟨(some 2),(.d (.alloc zN)),none⟩] (sO [oM 3 0,oM 4 0,oN 5 4,j0 6 .sub 5 1,oX 7 5 3 6,oA 8 5 7,oS 5 2 8] .ret))
theorem azl:aY Tryz.prog dc false 72 9 [(.cell 2 5 true)] arK:=bf Tryz.func72
def arL:AC:=(sO [oR 4 (.aV (.c (.ak [] .nil)))] (sO [oM 5 0,oM 6 0,u5 7 72 6,oR 8 (.Qj 4 1 false (.t 7)),oM 9 1,oX 10 1 8 9,oL 11 1 10,oC 12 139 [(.t 5),(.t 11)],oM 4 12] .ret))
theorem azm:aY Tryz.prog dc false 73 13 [(.tmp 4)] arL:=bf Tryz.func73
def arM:AC:=(sO [c6 2 5 0,c6 3 5 1,g0 4 false] (sO [oF 5 0 2,oL 6 1 5,oF 7 0 3,oL 8 1 7,p1 9 .eql 6 8,oM 10 9,eH 11 1 2 10 true,dK 12 1 11 10 true,eH 13 1 3 10 true,dK 14 1 13 10 true,fJ 15 .eql (.t 12) (.t 14) 10 true,b6 16 10 15,oM 17 16,eH 18 2 2 17 true,dK 19 1 18 17 true,eH 20 2 3 17 true,dK 21 1 20 17 true,fJ 22 .eql (.t 19) (.t 21) 17 true,b6 23 17 22,oM 24 23,eH 25 3 2 24 true,dK 26 1 25 24 true,eH 27 3 3 24 true,dK 28 1 27 24 true,iW 29 141 [(.t 26),(.t 28)] 24 true,b6 30 24 29,oM 31 30,eH 32 4 2 31 true,dK 33 1 32 31 true,eH 34 4 3 31 true,dK 35 1 34 31 true,iW 36 142 [(.t 33),(.t 35)] 31 true,b6 37 31 36,oM 4 37] .ret))
theorem azn:aY Tryz.prog dc false 75 38 [(.tmp 4)] arM:=bf Tryz.func75
def akF:AC:=(sO [g0 4 false] (sO [oM 5 0,oM 6 1,oC 7 102 [(.t 5),(.t 6)],j0 8 .geq 7 0,oM 4 8] .ret))
theorem arN:aY Tryz.prog dc false 76 9 [(.tmp 4)] akF:=bf Tryz.func76
def arO:AC:=(sO [g0 2 false] (sO [oM 3 0,oC 4 78 [(.t 3),(d5 (-10000)),(d5 10000)],a6 5 4,oM 2 5] .ret))
theorem azo:aY Tryz.prog dc false 77 6 [(.tmp 2)] arO:=bf Tryz.func77
def arP:AC:=(sO [g0 6 false] (sO [oM 7 0,oM 8 1,p1 9 .geq 7 8,oM 10 9,bJ 11 0 10 true,bJ 12 2 10 true,fJ 13 .leq (.t 11) (.t 12) 10 true,b6 14 10 13,oM 6 14] .ret))
theorem azp:aY Tryz.prog dc false 78 15 [(.tmp 6)] arP:=bf Tryz.func78
def Wu:List aR:=[bJ 31 1 30 false,bJ 32 9 30 false,dh 33 (.idx 1 (.t 31) (.t 32)) 30 false,dK 34 1 33 30 false,iW 35 78 [(.t 34),(.c (.int .i64 (-10000))),(.c (.int .i64 10000))] 30 false,dh 36 (.not (.t 35)) 30 false,oR 37 (.pick (.t 30) (.c (.bool true)) (.t 36)),oM 38 37,eH 39 4 11 38 false,dK 40 1 39 38 false,dh 41 (.not (.t 40)) 38 false,bJ 42 41 38 false,bJ 43 1 42 true,bJ 44 9 42 true,dh 45 (.idx 1 (.t 43) (.t 44)) 42 true,dK 46 1 45 42 true,fJ 47 .lss (.t 46) (.c (.int .i64 0)) 42 true,dh 48 (.pick (.t 42) (.t 47) (.c (.bool false))) 38 false,oR 49 (.pick (.t 38) (.c (.bool true)) (.t 48))]
def Wv:AC:=(sO [p1 19 .lss 18 17] (.seq (z1 19) (.seq (.block 1 (sO [oM 20 18,oX 21 1 16 18,oL 22 1 21,oM 9 20,oM 10 22] (sO [oM 24 10,u5 25 143 24,oM 23 25,oE 26 23 0,oE 27 23 1,⟨(some 11),(.d (.alloc [(.ak [] .nil),(.ak [] .nil),(.int .i64 0),(.bool false),(.bool false)])),none⟩,oS 5 11 26,oM 12 27] (.seq (.seq (.ops ([oM 28 12,a6 29 28,oM 30 29]++Wu)) (m6 49 (sO [g0 6 false] .ret) .skip)) (sO [oM 50 8,oM 51 50,eH 52 4 11 51 true,dK 53 1 52 51 true,b6 54 51 53,oM 8 54] (.par [(oA 55 4 7,false),(oF 56 0 11,false),(oA 57 4 56,false),(oM 58 1,false),(oM 59 9,false),(oX 60 1 58 59,false),(oL 61 1 60,false)] [oC 62 144 [(.t 55),(.t 57),(.t 61)],oS 4 7 62])))))) (i6 63 18))))
def arQ:AC:=(sO [g0 6 false] (sO [⟨(some 7),(.d (.alloc [(.ak [] .nil),(.ak [] .nil),(.int .i64 0),(.bool false)])),none⟩] (sO [g0 8 true] (.seq (sO [oM 16 0,oN 17 16,oI 18 0] (.block 0 (.loop Wv))) (.seq (sO [oM 64 2,oC 65 145 [(.t 64),(.c (.str [70,65,76,83,69]))]] (m6 65 (sO [oA 66 4 7,u5 67 146 66,oM 6 67] .ret) .skip)) (sO [oM 69 2,u5 70 143 69,oM 68 70,oE 71 68 0,oE 72 68 1,⟨(some 13),(.d (.alloc [(.ak [] .nil),(.ak [] .nil),(.int .i64 0),(.bool false),(.bool false)])),none⟩,oS 5 13 71,oM 14 72] (.seq (.block 2 (sO [oM 74 14,a6 75 74,oM 73 75] (m6 73 (sO [g0 6 false] .ret) (sO [oF 77 4 13,oL 78 1 77,oM 76 78] (m6 76 (sO [oA 79 4 7,oF 80 0 13,oA 81 4 80,oC 82 144 [(.t 79),(.t 81),(d5 (-1))],⟨(some 15),(.d (.alloc [(.ak [] .nil),(.ak [] .nil),(.int .i64 0),(.bool false)])),none⟩,oS 4 15 82] (sO [oM 83 8,oM 84 83,oAg 85 4 15 84 true,iW 86 147 [(.t 85)] 84 true,b6 87 84 86,oM 88 87,eH 89 2 15 88 true,dK 90 1 89 88 true,fJ 91 .eql (.t 90) (d5 0) 88 true,b6 92 88 91,oM 6 92] .ret)) .skip))))) (.seq (.par [(oA 93 4 7,false),(oR 94 (.build [(.ak [] .nil),(.ak [] .nil),(.int .i64 0),(.bool false)] [(2,(1,(d5 (-1))))]),false),(oF 95 0 13,false),(oA 96 4 95,false),(oC 97 144 [(.t 94),(.t 96),(d5 (-1))],false)] [oC 98 144 [(.t 93),(.t 97),(d5 1)],u5 99 146 98,oM 6 99]) .ret))))))))
theorem azq:aY Tryz.prog dc false 79 100 [(.tmp 6)] arQ:=bf Tryz.func79
def Ww:AC:=(.seq (sO [oM 6 5,oM 7 0,oN 8 7,p1 9 .lss 6 8] (z1 9)) (.seq (.block 1 (sO [oM 12 0,oM 13 5,oX 14 1 12 13,oL 15 1 14,oM 16 1,p1 17 .eql 15 16] (m6 17 (sO [g0 4 true] .ret) .skip))) (.ops [oM 10 5,j0 11 .add 10 1,oM 5 11])))
def arR:AC:=(sO [g0 4 false] (.seq (sO [oI 5 0] (.block 0 (.loop Ww))) (sO [g0 4 false] .ret)))
theorem azr:aY Tryz.prog dc false 85 18 [(.tmp 4)] arR:=bf Tryz.func85
def arS:AC:=(sO [oI 2 0] (.seq (sO [oM 3 0] (m6 3 (sO [oI 2 1] .ret) .skip)) (sO [oI 2 0] .ret)))
theorem azs:aY Tryz.prog dc false 87 4 [(.tmp 2)] arS:=bf Tryz.func87
def arU:AC:=(sO [g0 4 false] (sO [oM 8 0,oM 9 1,oC 10 160 [(.t 8),(.t 9)],oM 7 10,oE 11 7 0,oE 12 7 1,oM 5 11,oM 6 12] (sO [oM 13 5,oM 4 13] .ret)))
theorem azt:aY Tryz.prog dc false 95 14 [(.tmp 4)] arU:=bf Tryz.func95
def arV:AC:=(sO [g0 4 false] (sO [oM 5 0,oM 6 1,oC 7 161 [(.t 5),(.t 6)],j0 8 .geq 7 0,oM 4 8] .ret))
theorem arW:aY Tryz.prog dc false 96 9 [(.tmp 4)] arV:=bf Tryz.func96
def arX:AC:=(sO [g0 4 false] (sO [oM 5 0,oN 6 5,oM 7 1,oN 8 7,p1 9 .eql 6 8,oM 10 9,bJ 11 0 10 true,iW 12 164 [(.t 11)] 10 true,bJ 13 1 10 true,iW 14 164 [(.t 13)] 10 true,iW 15 21 [(.t 12),(.t 14)] 10 true,b6 16 10 15,oM 4 16] .ret))
theorem azu:aY Tryz.prog dc false 98 17 [(.tmp 4)] arX:=bf Tryz.func98
def amc:AC:=(sO [g0 4 false] (sO [oM 5 0,oM 6 1,oC 7 165 [(.t 5),(.t 6)],j0 8 .geq 7 0,oM 4 8] .ret))
theorem avq:aY Tryz.prog dc false 100 9 [(.tmp 4)] amc:=bf Tryz.func100
def F5:AC:=(sO [p1 9 .lss 8 7] (.seq (z1 9) (.seq (.block 1 (sO [oM 10 8,oM 5 10] (sO [oM 11 1,oM 12 0,oM 13 5,oX 14 1 12 13,oL 15 1 14,⟨(some 16),(.call (.t 11) [(.t 15)]),none⟩] (m6 16 (sO [oM 17 5,oM 4 17] .ret) .skip)))) (i6 18 8))))
def aga:AC:=(sO [oI 4 0] (.seq (sO [oM 6 0,oN 7 6,oI 8 0] (.block 0 (.loop F5))) (sO [oI 4 (-1)] .ret)))
theorem amd:aY Tryz.prog dc false 102 19 [(.tmp 4)] aga:=bf Tryz.func102
def ame:AC:=(sO [g0 2 false] (sO [oM 3 0,oB 4 .eql (.t 3) (.c (.str [84,82,85,69])),oM 5 4,bJ 6 0 5 false,fJ 7 .eql (.t 6) (.c (.str [70,65,76,83,69])) 5 false,y6 8 5 7,oM 9 8,bJ 10 0 9 false,fJ 11 .eql (.t 10) (.c (.str [66,79,79,76,69,65,78])) 9 false,y6 12 9 11,oM 13 12,bJ 14 0 13 false,fJ 15 .eql (.t 14) (.c (.str [83,84,82,73,78,71])) 13 false,y6 16 13 15,oM 2 16] .ret))
theorem avr:aY Tryz.prog dc false 111 17 [(.tmp 2)] ame:=bf Tryz.func111
def Qy:AC:=(.seq (sO [oM 7 5,oM 8 4,oN 9 8,p1 10 .lss 7 9] (z1 10)) (.seq (.block 1 (sO [oM 13 4,oM 14 5,oX 15 7 13 14,oF 16 0 15,oL 17 1 16,oM 18 0,p1 19 .eql 17 18] (m6 19 (sO [oM 20 4,oM 21 5,oX 22 7 20 21,oA 23 7 22,oS 7 2 23,g0 3 true] .ret) .skip))) (.ops [oM 11 5,j0 12 .add 11 1,oM 5 12])))
def amf:AC:=(sO [⟨(some 2),(.d (.alloc zO)),none⟩,g0 3 false] (sO [oC 6 173 [],oM 4 6] (.seq (sO [oI 5 0] (.block 0 (.loop Qy))) (sO [oR 24 (.build [(.str []),(.int .i64 0),(.int .i64 0),(.int .i64 0),(.bool false),(.int .i64 0),(.int .i64 0)] []),oS 7 2 24,g0 3 false] .ret))))
theorem avs:aY Tryz.prog dc false 112 25 [(.cell 2 7 true),(.tmp 3)] amf:=bf Tryz.func112
def Qz:AC:=(.seq (sO [oM 14 6,j0 15 .geq 14 0] (z1 15)) (.block 1 (sO [oM 16 0,oM 17 6,oX 18 5 16 17,oA 19 5 18,oM 20 7,oC 21 174 [(.t 19),(.t 20)],u5 22 62 21,oM 23 5,⟨(some 24),(.d (.app 1 16 (.t 22) (.t 23))),none⟩,oM 5 24] (.ops [oM 26 0,oM 27 6,oC 28 134 [(.t 26),(.t 27)],oM 25 28,oE 29 25 0,oE 30 25 1,oM 6 29,oM 7 30]))))
def amg:AC:=(sO [oR 4 (.aV (.c (.ak [] .nil)))] (sO [oR 5 (.aV (.c (.ak [] .nil)))] (sO [oM 9 0,oM 10 1,oC 11 134 [(.t 9),(.t 10)],oM 8 11,oE 12 8 0,oE 13 8 1,oM 6 12,oM 7 13] (.seq (.block 0 (.loop Qz)) (sO [oM 31 5,oM 4 31] .ret)))))
theorem avt:aY Tryz.prog dc false 113 32 [(.tmp 4)] amg:=bf Tryz.func113
def QA:AC:=(.seq (sO [oM 6 5,oM 7 0,oN 8 7,p1 9 .lss 6 8] (z1 9)) (.seq (.block 1 (sO [oM 12 0,oM 13 5,oX 14 1 12 13,oL 15 1 14,oM 16 1,p1 17 .eql 15 16] (m6 17 (sO [oM 18 5,oM 4 18] .ret) .skip))) (.ops [oM 10 5,j0 11 .add 10 1,oM 5 11])))
def amh:AC:=(sO [oI 4 0] (.seq (sO [oI 5 0] (.block 0 (.loop QA))) (sO [oI 4 (-1)] .ret)))
theorem avu:aY Tryz.prog dc false 114 19 [(.tmp 4)] amh:=bf Tryz.func114
def QB:AC:=(.seq (sO [oM 47 12,oF 48 4 10,oL 49 1 48,oN 50 49,p1 51 .lss 47 50] (m6 51 .skip (.exit 4))) (.seq (.block 5 (.ops [oM 54 11,oF 55 4 10,oL 56 1 55,oM 57 12,oX 58 1 56 57,oL 59 1 58,oM 60 8,p1 61 .add 59 60,oR 62 (.d9 1 [(.t 61)]),⟨(some 63),(.d (.app 1 8 (.t 54) (.t 62))),none⟩,oM 11 63])) (.ops [oM 52 12,j0 53 .add 52 1,oM 12 53])))
def QC:AC:=(.seq (sO [oM 27 9,oM 28 1,oM 29 7,oX 30 1 28 29,oL 31 1 30,oN 32 31,p1 33 .lss 27 32] (m6 33 .skip (.exit 2))) (.seq (.block 3 (sO [oM 36 1,oM 37 7,oX 38 1 36 37,oL 39 1 38,oM 40 9,oX 41 5 39 40,oA 42 5 41,⟨(some 10),(.d (.alloc zN)),none⟩,oS 5 10 42] (sO [oF 43 3 10,oL 44 1 43,u5 45 62 44,oF 46 3 10,oS 1 46 45] (sO [oR 11 (.aV (.c (.ak [] .nil)))] (.seq (sO [oI 12 0] (.block 4 (.loop QB))) (sO [oM 64 11,oF 65 4 10,oS 1 65 64] (.ops [oM 66 5,oA 67 5 10,oR 68 (.d9 5 [(.t 67)]),⟨(some 69),(.d (.app 5 80 (.t 66) (.t 68))),none⟩,oM 5 69]))))))) (.ops [oM 34 9,j0 35 .add 34 1,oM 9 35])))
def QD:AC:=(.seq (sO [oM 19 7,oM 20 1,oN 21 20,p1 22 .lss 19 21] (z1 22)) (.seq (.block 1 (sO [oM 25 5,oN 26 25,oM 8 26] (.seq (sO [oI 9 0] (.block 2 (.loop QC))) (.ops [oF 70 4 6,oL 71 1 70,oM 72 5,oN 73 72,j0 74 .sub 73 1,oR 75 (.d9 1 [(.t 74)]),⟨(some 76),(.d (.app 1 8 (.t 71) (.t 75))),none⟩,oF 77 4 6,oS 1 77 76])))) (.ops [oM 23 7,j0 24 .add 23 1,oM 7 24])))
def ami:AC:=(sO [c6 2 5 0,oR 4 (.aV (.c (.ak [] .nil)))] (sO [oR 5 (.aV (.c (.ak [] .nil)))] (sO [oA 13 5 2,⟨(some 6),(.d (.alloc zN)),none⟩,oS 5 6 13] (sO [oF 14 3 2,oL 15 1 14,u5 16 62 15,oF 17 3 6,oS 1 17 16,oF 18 4 6,⟨none,(.d (.store 1 (.t 18) (.c (.ak [] .nil)))),none⟩] (.seq (sO [oI 7 0] (.block 0 (.loop QD))) (sO [oM 78 5,oA 79 5 6,oR 80 (.d9 5 [(.t 79)]),⟨(some 81),(.d (.app 5 80 (.t 78) (.t 80))),none⟩,oM 4 81] .ret))))))
theorem avv:aY Tryz.prog dc false 118 82 [(.tmp 4)] ami:=bf Tryz.func118
def QE:AC:=(sO [p1 28 .lss 27 26] (.seq (z1 28) (.seq (.block 1 (sO [oM 29 27,oM 6 29] (.seq (sO [oM 30 0,oM 31 6,oM 32 5,oC 33 177 [(.t 30),(.t 31),(.t 32)],oM 7 33] (sO [oM 34 7,j0 35 .neq 34 0] (m6 35 (sO [oM 36 6,oM 37 7,oM 2 36,oM 3 37] .ret) .skip))) (sO [oM 38 5,oR 39 (.d9 1 [(d5 0)]),⟨(some 40),(.n (.app 1 8 (.t 38) (.t 39))),none⟩,oM 5 40] (.ops [oM 41 5,oM 42 6,oM 43 0,oM 44 6,oM 45 5,oC 46 178 [(.t 43),(.t 44),(.t 45)],oX 47 1 41 42,oS 1 47 46]))))) (i6 48 27))))
def QF:AC:=(sO [p1 60 .lss 59 58] (.seq (m6 60 .skip (.exit 2)) (.seq (.block 3 (sO [oM 61 59,oM 11 61] (sO [oM 62 0,oM 63 11,oM 64 9,oM 65 10,oC 66 180 [(.t 62),(.t 63),(.t 64),(.t 65)]] (m6 66 (sO [oM 67 11,oM 2 67,oI 3 30] .ret) .skip)))) (i6 68 59))))
def amj:AC:=(sO [oI 2 0,oI 3 0] (.seq (sO [oM 12 0,oN 13 12,j0 14 .eql 13 0,oC 15 176 [(.t 14),(d5 1)],oM 16 0,oN 17 16,j0 18 .gtr 17 160,oC 19 176 [(.t 18),(d5 2)],oR 20 (.d9 1 [(.t 15),(.t 19)]),u5 21 175 20,oM 4 21] (sO [oM 22 4,j0 23 .neq 22 0] (m6 23 (sO [oM 24 4,oI 2 0,oM 3 24] .ret) .skip))) (sO [oR 5 (.aV (.c (.ak [] .nil)))] (.seq (sO [oM 25 0,oN 26 25,oI 27 0] (.block 0 (.loop QE))) (sO [oM 49 0,oN 50 49,j0 51 .sub 50 1,oM 8 51] (sO [oM 53 0,u5 54 179 53,oM 52 54,oE 55 52 0,oE 56 52 1,oM 9 55,oM 10 56] (.seq (sO [oM 57 0,oN 58 57,oI 59 0] (.block 2 (.loop QF))) (.seq (sO [oM 69 5,oM 70 8,oX 71 1 69 70,oL 72 1 71,j0 73 .neq 72 0] (m6 73 (sO [oM 74 8,oM 2 74,oI 3 15] .ret) .skip)) (sO [oI 2 0,oI 3 0] .ret)))))))))
theorem avw:aY Tryz.prog dc true 119 75 [(.tmp 2),(.tmp 3)] amj:=bf Tryz.func119
def amk:AC:=(sO [g0 3 false] (sO [oM 4 0,oL 5 1 1,oC 6 95 [(.t 4),(.t 5)],oM 3 6] .ret))
theorem aml:aY Tryz.prog dc false 120 7 [(.tmp 3)] amk:=bf Tryz.func120
def QG:AC:=(.seq (sO [oM 13 0,oM 14 5,oX 15 5 13 14,oF 16 4 15,oL 17 1 16,oN 18 17,j0 19 .gtr 18 0] (z1 19)) (.block 1 (.ops [oM 20 0,oM 21 5,oX 22 5 20 21,oF 23 4 22,oL 24 1 23,oR 25 (.idx 1 (.t 24) (d5 0)),oL 26 1 25,oM 5 26])))
def QH:AC:=(sO [p1 41 .lss 40 39] (.seq (m6 41 .skip (.exit 4)) (.seq (.block 5 (sO [oX 42 1 38 40,oL 43 1 42,oM 11 43] (.ops [oM 44 9,oM 45 11,oM 46 5,p1 47 .sub 45 46,oR 48 (.d9 1 [(.t 47)]),⟨(some 49),(.d (.app 1 8 (.t 44) (.t 48))),none⟩,oM 9 49]))) (i6 50 40))))
def QI:AC:=(sO [p1 34 .lss 33 32] (.seq (m6 34 .skip (.exit 2)) (.seq (.block 3 (sO [oX 35 5 31 33,oA 36 5 35,⟨(some 8),(.d (.alloc zN)),none⟩,oS 5 8 36] (sO [oR 9 (.aV (.c (.ak [] .nil)))] (.seq (sO [oF 37 4 8,oL 38 1 37,oN 39 38,oI 40 0] (.block 4 (.loop QH))) (sO [oM 51 9,oF 52 3 8,oL 53 1 52,u5 54 181 53,oF 55 4 8,oS 1 55 51,oF 56 3 8,oS 1 56 54] (.ops [oM 57 6,oA 58 5 8,oR 59 (.d9 5 [(.t 58)]),⟨(some 60),(.d (.app 5 80 (.t 57) (.t 59))),none⟩,oM 6 60])))))) (i6 61 33))))
def amm:AC:=(sO [oR 4 (.aV (.c (.ak [] .nil)))] (sO [oM 12 1,oM 5 12] (.seq (.block 0 (.loop QG)) (sO [oR 6 (.aV (.c (.ak [] .nil)))] (.seq (sO [oM 27 0,oM 28 5,oM 29 1,j0 30 .add 29 1,oR 31 (.slc 5 (.t 27) (some (.t 28)) (some (.t 30)) none),oN 32 31,oI 33 0] (.block 2 (.loop QI))) (sO [oM 62 6,oM 4 62] .ret))))))
theorem avx:aY Tryz.prog dc false 122 63 [(.tmp 4)] amm:=bf Tryz.func122
def QJ:List aR:=[eH 38 0 5 37 true,dK 39 1 38 37 true,fJ 40 .eql (.t 39) (.c (.int .i64 3)) 37 true,oR 41 (.pick (.t 37) (.t 40) (.c (.bool false)))]
def QK:AC:=(sO [oF 31 2 5,oL 32 1 31,u5 33 112 32,oM 30 33,oE 34 30 0,oE 35 30 1,⟨(some 8),(.d (.alloc zO)),none⟩,oS 7 8 34,oM 9 35] (.seq (.ops ([oM 36 9,oM 37 36]++QJ)) (m6 41 (.par [(oF 42 4 5,false),(oL 43 1 42,false),(oN 44 43,false),(oR 45 (.r9 4 1 (.t 6) (d5 2)),false),(⟨none,(.d (.store 1 (.t 45) (d5 0))),none⟩,true)] [oR 46 (.r9 4 1 (.t 6) (d5 3)),oS 1 46 44]) .skip)))
def QL:List aR:=[bJ 67 10 66 false,dh 68 (.r9 4 1 (.t 6) (.c (.int .i64 2))) 66 false,dK 69 1 68 66 false,dh 70 (.r9 4 1 (.t 6) (.c (.int .i64 3))) 66 false,dK 71 1 70 66 false,iW 72 29 [(.t 67),(.t 69),(.t 71)] 66 false,dh 73 (.not (.t 72)) 66 false,oR 74 (.pick (.t 66) (.c (.bool true)) (.t 73))]
def QM:List aR:=[eH 79 0 5 78 false,dK 80 1 79 78 false,fJ 81 .eql (.t 80) (.c (.int .i64 2)) 78 false,oR 82 (.pick (.t 78) (.c (.bool true)) (.t 81)),oM 83 82,eH 84 0 5 83 false,dK 85 1 84 83 false,fJ 86 .eql (.t 85) (.c (.int .i64 3)) 83 false,oR 87 (.pick (.t 83) (.c (.bool true)) (.t 86)),oM 88 87,eH 89 0 5 88 false,dK 90 1 89 88 false,fJ 91 .eql (.t 90) (.c (.int .i64 18)) 88 false,oR 92 (.pick (.t 88) (.c (.bool true)) (.t 91))]
def QN:List aR:=[bJ 98 11 97 false,dh 99 (.not (.t 98)) 97 false,bJ 100 99 97 false,eH 101 2 5 100 true,dK 102 1 101 100 true,fJ 103 .neq (.t 102) (.c (.str [])) 100 true,dh 104 (.pick (.t 100) (.t 103) (.c (.bool false))) 97 false,oR 105 (.pick (.t 97) (.c (.bool true)) (.t 104)),oM 106 105,eH 107 0 5 106 false,dK 108 1 107 106 false,fJ 109 .neq (.t 108) (.c (.int .i64 0)) 106 false,bJ 110 109 106 false,eH 111 0 5 110 true,dK 112 1 111 110 true,fJ 113 .neq (.t 112) (.c (.int .i64 23)) 110 true,dh 114 (.pick (.t 110) (.t 113) (.c (.bool false))) 106 false,bJ 115 114 106 false,eH 116 1 5 115 true,dK 117 1 116 115 true,fJ 118 .neq (.t 117) (.c (.int .i64 0)) 115 true,dh 119 (.pick (.t 115) (.t 118) (.c (.bool false))) 106 false,oR 120 (.pick (.t 106) (.c (.bool true)) (.t 119)),oM 121 120,eH 122 0 5 121 false,dK 123 1 122 121 false,fJ 124 .eql (.t 123) (.c (.int .i64 23)) 121 false,bJ 125 124 121 false,eH 126 1 5 125 true,dK 127 1 126 125 true,iW 128 29 [(.t 127),(.c (.int .i64 0)),(.c (.int .i64 1))] 125 true,dh 129 (.not (.t 128)) 125 true,dh 130 (.pick (.t 125) (.t 129) (.c (.bool false))) 121 false,oR 131 (.pick (.t 121) (.c (.bool true)) (.t 130)),oM 132 131,eH 133 0 5 132 false,dK 134 1 133 132 false,fJ 135 .eql (.t 134) (.c (.int .i64 1)) 132 false,bJ 136 135 132 false,eH 137 2 5 136 true,dK 138 1 137 136 true,iW 139 196 [(.t 138)] 136 true,dh 140 (.not (.t 139)) 136 true,dh 141 (.pick (.t 136) (.t 140) (.c (.bool false))) 132 false,oR 142 (.pick (.t 132) (.c (.bool true)) (.t 141))]
def QO:List aR:=[eH 147 1 5 146 true,dK 148 1 147 146 true,iW 149 29 [(.t 148),(.c (.int .i64 0)),(.c (.int .i64 10000))] 146 true,dh 150 (.not (.t 149)) 146 true,oR 151 (.pick (.t 146) (.t 150) (.c (.bool false)))]
def QS:AC:=(.seq (sO [oM 152 12,oF 153 3 5,oL 154 1 153,oN 155 154,p1 156 .lss 152 155] (z1 156)) (.seq (.block 1 (sO [oF 159 3 5,oL 160 1 159,oM 161 12,oX 162 1 160 161,oL 163 1 162,u5 164 137 163,a6 165 164] (m6 165 (sO [oI 4 7] .ret) .skip))) (.ops [oM 157 12,j0 158 .add 157 1,oM 12 158])))
def QT:List aR:=[eH 197 2 5 196 true,dK 198 1 197 196 true,iW 199 135 [(.t 198)] 196 true,dh 200 (.not (.t 199)) 196 true,oR 201 (.pick (.t 196) (.t 200) (.c (.bool false)))]
def QU:AC:=(sO [oF 172 0 5,oL 173 1 172] (.block 2 (sO [j0 175 .eql 173 2,oM 174 175] (m6 174 (sO [oF 176 2 5,oL 177 1 176,u5 178 135 177,a6 179 178,oM 180 179,eH 181 2 5 180 true,dK 182 1 181 180 true,iW 183 111 [(.t 182)] 180 true,dh 184 (.not (.t 183)) 180 true,b6 185 180 184] (m6 185 (sO [oI 4 7] .ret) .skip)) (sO [j0 187 .eql 173 18,oM 186 187] (m6 186 (sO [oF 188 2 5,oL 189 1 188,u5 190 137 189,a6 191 190] (m6 191 (sO [oI 4 7] .ret) .skip)) (sO [j0 193 .eql 173 3,oM 192 193] (m6 192 (.seq (.seq (.ops ([oM 194 14,a6 195 194,oM 196 195]++QT)) (m6 201 (sO [oI 4 7] .ret) .skip)) (sO [oM 202 14,oM 203 202,eH 204 4 5 203 true,dK 205 1 204 203 true,dh 206 (.len (.t 205)) 203 true,eH 207 5 13 203 true,dK 208 1 207 203 true,eH 209 6 13 203 true,dK 210 1 209 203 true,iW 211 29 [(.t 206),(.t 208),(.t 210)] 203 true,dh 212 (.not (.t 211)) 203 true,b6 213 203 212] (m6 213 (sO [oI 4 17] .ret) .skip))) .skip))))))))
def QV:AC:=(.seq (sO [oM 214 15,oF 215 3 5,oL 216 1 215,oN 217 216,p1 218 .lss 214 217] (m6 218 .skip (.exit 3))) (.seq (.block 4 (.seq (.par [(oF 221 3 5,false),(oL 222 1 221,false),(oM 223 15,false),(oR 224 (.slc 1 (.t 222) none (some (.t 223)) none),false),(oF 225 3 5,false),(oL 226 1 225,false),(oM 227 15,false),(oX 228 1 226 227,false),(oL 229 1 228,false)] [oC 230 85 [(.t 224),(.t 229)]]) (m6 230 (sO [oI 4 12] .ret) .skip))) (.ops [oM 219 15,j0 220 .add 219 1,oM 15 220])))
def amn:AC:=(sO [oI 4 0] (sO [oM 16 0,oM 17 1,oX 18 5 16 17,oA 19 5 18,⟨(some 5),(.d (.alloc zN)),none⟩,oS 5 5 19] (.seq (sO [oF 20 0 5,oL 21 1 20,oC 22 29 [(.t 21),(d5 0),(d5 28)],a6 23 22] (m6 23 (sO [oI 4 4] .ret) .skip)) (sO [oF 25 0 5,oL 26 1 25,u5 27 194 26,oM 24 27,oE 28 24 0,oE 29 24 1,⟨(some 6),(.d (.alloc [(.int .i64 0),(.int .i64 0),(.int .i64 0),(.int .i64 0)])),none⟩,oS 4 6 28,oM 7 29] (.seq QK (.seq (.par [(oF 47 4 5,false),(oL 48 1 47,false),(oN 49 48,false),(oF 50 3 5,false),(oL 51 1 50,false),(oN 52 51,false),(oM 53 7,false),(u5 54 87 53,false),(p1 55 .mul 52 54,false)] [p1 56 .sub 49 55,oM 10 56]) (.seq (.seq (.ops ([oF 57 3 5,oL 58 1 57,oN 59 58,oR 60 (.r9 4 1 (.t 6) (d5 0)),oL 61 1 60,oR 62 (.r9 4 1 (.t 6) (d5 1)),oL 63 1 62,oC 64 29 [(.t 59),(.t 61),(.t 63)],a6 65 64,oM 66 65]++QL)) (m6 74 (sO [oI 4 6] .ret) .skip)) (.seq (.ops ([oF 75 0 5,oL 76 1 75,j0 77 .eql 76 1,oM 78 77]++QM++[oM 11 92])) (.seq (.seq (.ops ([oM 93 0,oM 94 1,oC 95 195 [(.t 93),(.t 94)],a6 96 95,oM 97 96]++QN)) (m6 142 (sO [oI 4 5] .ret) .skip)) (.seq (.seq (.ops ([oF 143 0 5,oL 144 1 143,j0 145 .eql 144 0,oM 146 145]++QO)) (m6 151 (sO [oI 4 3] .ret) .skip)) (.seq (sO [oI 12 0] (.block 0 (.loop QS))) (sO [oF 167 2 5,oL 168 1 167,u5 169 112 168,oM 166 169,oE 170 166 0,oE 171 166 1,⟨(some 13),(.d (.alloc zO)),none⟩,oS 7 13 170,oM 14 171] (.seq QU (.seq (sO [oI 15 1] (.block 3 (.loop QV))) (sO [oI 4 0] .ret)))))))))))))))
theorem avy:aY Tryz.prog dc false 133 231 [(.tmp 4)] amn:=bf Tryz.func133
def QW:AC:=(.seq (sO [oM 16 7,oM 17 0,oM 18 6,oX 19 5 17 18,oF 20 4 19,oL 21 1 20,oN 22 21,p1 23 .lss 16 22] (m6 23 .skip (.exit 2))) (.seq (.block 3 (sO [oM 26 0,oM 27 6,oX 28 5 26 27,oF 29 4 28,oL 30 1 29,oM 31 7,oX 32 1 30 31,oL 33 1 32,oM 34 1,p1 35 .eql 33 34] (m6 35 (sO [oM 36 6,oM 37 7,oM 4 36,oM 5 37] .ret) .skip))) (.ops [oM 24 7,j0 25 .add 24 1,oM 7 25])))
def QX:AC:=(.seq (sO [oM 10 6,oM 11 0,oN 12 11,p1 13 .lss 10 12] (z1 13)) (.seq (.block 1 (sO [oI 7 0] (.block 2 (.loop QW)))) (.ops [oM 14 6,j0 15 .add 14 1,oM 6 15])))
def amo:AC:=(sO [oI 4 0,oI 5 0] (.seq (sO [oM 8 1,j0 9 .add 8 1,oM 6 9] (.block 0 (.loop QX))) (sO [oI 4 (-1),oI 5 0] .ret)))
theorem avz:aY Tryz.prog dc false 134 38 [(.tmp 4),(.tmp 5)] amo:=bf Tryz.func134
def QY:AC:=(.seq (sO [oM 4 3,oM 5 0,oR 6 (.oz (.t 5)),p1 7 .lss 4 6] (z1 7)) (.seq (.block 1 (sO [oM 10 0,oM 11 3,oR 12 (.vQ (.t 10) (.t 11)),oB 13 .eql (.t 12) (.c (.int .u8 33))] (m6 13 (sO [oM 14 0,oM 15 3,oR 16 (.zZ (.t 14) none (some (.t 15))),u5 17 137 16,oM 18 17,bJ 19 0 18 true,bJ 20 3 18 true,fJ 21 .add (.t 20) (d5 1) 18 true,dh 22 (.zZ (.t 19) (some (.t 21)) none) 18 true,iW 23 137 [(.t 22)] 18 true,b6 24 18 23,oM 2 24] .ret) .skip))) (.ops [oM 8 3,j0 9 .add 8 1,oM 3 9])))
def amq:AC:=(sO [g0 2 false] (.seq (sO [oI 3 0] (.block 0 (.loop QY))) (sO [oM 25 0,u5 26 137 25,oM 2 26] .ret)))
theorem avA:aY Tryz.prog dc false 135 27 [(.tmp 2)] amq:=bf Tryz.func135
def QZ:AC:=(.seq (sO [oM 8 0,oM 9 1,oX 10 5 8 9,oF 11 4 10,oL 12 1 11,oN 13 12,j0 14 .gtr 13 0] (z1 14)) (.block 1 (sO [oM 15 0,oM 16 1,oX 17 5 15 16,oF 18 4 17,oL 19 1 18,oR 20 (.idx 1 (.t 19) (d5 0)),oL 21 1 20,oM 5 21] (.seq (sO [oM 22 5,oM 23 1,j0 24 .sub 23 1,oC 25 29 [(.t 22),(d5 0),(.t 24)],a6 26 25] (m6 26 (sO [oI 4 (-1)] .ret) .skip)) (.ops [oM 27 5,oM 1 27])))))
def amr:AC:=(sO [oI 4 0] (.seq (sO [oM 6 1,j0 7 .lss 6 0] (m6 7 (sO [oI 4 (-1)] .ret) .skip)) (.seq (.block 0 (.loop QZ)) (sO [oM 28 1,oM 4 28] .ret))))
theorem avB:aY Tryz.prog dc false 136 29 [(.tmp 4)] amr:=bf Tryz.func136
def ams:AC:=(sO [g0 2 false] (sO [oM 3 0,u5 4 197 3,oM 5 4,bJ 6 0 5 true,iW 7 111 [(.t 6)] 5 true,dh 8 (.not (.t 7)) 5 true,b6 9 5 8,oM 10 9,bJ 11 0 10 true,dh 12 (.oz (.t 11)) 10 true,fJ 13 .gtr (.t 12) (d5 2) 10 true,bJ 14 13 10 true,bJ 15 0 14 true,dh 16 (.zZ (.t 15) none (some (d5 3))) 14 true,fJ 17 .eql (.t 16) (.c (.str [87,70,95])) 14 true,bJ 18 17 14 true,bJ 19 0 18 false,dh 20 (.zZ (.t 19) none (some (d5 3))) 18 false,fJ 21 .eql (.t 20) (.c (.str [83,70,95])) 18 false,dh 22 (.pick (.t 18) (w6 true) (.t 21)) 14 true,dh 23 (.pick (.t 14) (.t 22) (w6 false)) 10 true,dh 24 (.not (.t 23)) 10 true,b6 25 10 24,oM 2 25] .ret))
theorem avC:aY Tryz.prog dc false 137 26 [(.tmp 2)] ams:=bf Tryz.func137
def Q0:AC:=(.seq (sO [oM 28 9,oM 29 0,oM 30 7,oX 31 5 29 30,oF 32 4 31,oL 33 1 32,oN 34 33,p1 35 .lss 28 34] (m6 35 .skip (.exit 2))) (.seq (.block 3 (.par [(oF 38 4 8,false),(oL 39 1 38,false),(oM 40 0,false),(oM 41 7,false),(oX 42 5 40 41,false),(oF 43 4 42,false),(oL 44 1 43,false),(oM 45 9,false),(oX 46 1 44 45,false),(oL 47 1 46,false),(oM 48 5,false),(p1 49 .sub 47 48,false),(oR 50 (.d9 1 [(.t 49)]),false)] [⟨(some 51),(.d (.app 1 8 (.t 39) (.t 50))),none⟩,oF 52 4 8,oS 1 52 51])) (.ops [oM 36 9,j0 37 .add 36 1,oM 9 37])))
def Q5:AC:=(.seq (sO [oM 14 7,oM 15 1,p1 16 .leq 14 15] (z1 16)) (.seq (.block 1 (sO [oM 19 0,oM 20 7,oX 21 5 19 20,oA 22 5 21,⟨(some 8),(.d (.alloc zN)),none⟩,oS 5 8 22] (sO [oF 23 3 8,oL 24 1 23,u5 25 62 24,oF 26 3 8,oS 1 26 25,oF 27 4 8,⟨none,(.d (.store 1 (.t 27) (.c (.ak [] .nil)))),none⟩] (.seq (sO [oI 9 0] (.block 2 (.loop Q0))) (.ops [oM 53 6,oA 54 5 8,oR 55 (.d9 5 [(.t 54)]),⟨(some 56),(.d (.app 5 80 (.t 53) (.t 55))),none⟩,oM 6 56]))))) (.ops [oM 17 7,j0 18 .add 17 1,oM 7 18])))
def amt:AC:=(sO [oR 4 (.aV (.c (.ak [] .nil)))] (sO [oM 10 0,oM 11 1,oC 12 136 [(.t 10),(.t 11)],oM 5 12] (sO [oR 6 (.aV (.c (.ak [] .nil)))] (.seq (sO [oM 13 5,oM 7 13] (.block 0 (.loop Q5))) (sO [oM 57 6,oM 4 57] .ret)))))
theorem avD:aY Tryz.prog dc false 139 58 [(.tmp 4)] amt:=bf Tryz.func139
def Q6:AC:=(.seq (sO [oM 11 5,oM 12 0,oN 13 12,p1 14 .lss 11 13] (z1 14)) (.seq (.block 1 (.seq (.par [(oM 17 0,false),(oM 18 5,false),(oX 19 1 17 18,false),(oL 20 1 19,false),(oM 21 1,false),(oM 22 5,false),(oX 23 1 21 22,false),(oL 24 1 23,false)] [p1 25 .neq 20 24]) (m6 25 (sO [g0 4 false] .ret) .skip))) (.ops [oM 15 5,j0 16 .add 15 1,oM 5 16])))
def amu:AC:=(sO [g0 4 false] (.seq (sO [oM 6 0,oN 7 6,oM 8 1,oN 9 8,p1 10 .neq 7 9] (m6 10 (sO [g0 4 false] .ret) .skip)) (.seq (sO [oI 5 0] (.block 0 (.loop Q6))) (sO [g0 4 true] .ret))))
theorem avE:aY Tryz.prog dc false 141 26 [(.tmp 4)] amu:=bf Tryz.func141
def Q7:AC:=(.seq (sO [oM 11 5,oM 12 0,oN 13 12,p1 14 .lss 11 13] (z1 14)) (.seq (.block 1 (.seq (.par [(oM 17 0,false),(oM 18 5,false),(oX 19 1 17 18,false),(oL 20 1 19,false),(oM 21 1,false),(oM 22 5,false),(oX 23 1 21 22,false),(oL 24 1 23,false)] [p1 25 .neq 20 24]) (m6 25 (sO [g0 4 false] .ret) .skip))) (.ops [oM 15 5,j0 16 .add 15 1,oM 5 16])))
def amv:AC:=(sO [g0 4 false] (.seq (sO [oM 6 0,oN 7 6,oM 8 1,oN 9 8,p1 10 .neq 7 9] (m6 10 (sO [g0 4 false] .ret) .skip)) (.seq (sO [oI 5 0] (.block 0 (.loop Q7))) (sO [g0 4 true] .ret))))
theorem avF:aY Tryz.prog dc false 142 26 [(.tmp 4)] amv:=bf Tryz.func142
def Q8:List aR:=[dh 18 (.d9 1 [(.c (.str [61])),(.c (.str [60])),(.c (.str [60,61])),(.c (.str [62])),(.c (.str [62,61]))]) 17 false,eH 19 2 4 17 false,dK 20 1 19 17 false,iW 21 100 [(.t 18),(.t 20)] 17 false,dh 22 (.not (.t 21)) 17 false,oR 23 (.pick (.t 17) (.c (.bool true)) (.t 22))]
def amw:AC:=(sO [⟨(some 2),(.d (.alloc [(.ak [] .nil),(.ak [] .nil),(.int .i64 0),(.bool false),(.bool false)])),none⟩,g0 3 false] (sO [oM 8 0,oM 9 0,oN 10 9,j0 11 .sub 10 1,oX 12 5 8 11,oA 13 5 12,⟨(some 4),(.d (.alloc zN)),none⟩,oS 5 4 13] (.seq (.seq (.ops ([oF 14 0 4,oL 15 1 14,j0 16 .neq 15 3,oM 17 16]++Q8)) (m6 23 (sO [oR 24 (.build [(.ak [] .nil),(.ak [] .nil),(.int .i64 0),(.bool false),(.bool false)] []),oS 5 2 24,g0 3 false] .ret) .skip)) (.seq (.sD [0,0,2,6,14,31,63,0,0,256,768,1792,4095,8191,0,0,65535,131071] [(oM 25 0,false),(oF 26 4 4,false),(oL 27 1 26,false),(oR 28 (.idx 1 (.t 27) (d5 0)),false),(oL 29 1 28,false),(oC 30 122 [(.t 25),(.t 29)],false),(u5 31 201 30,false),(oM 32 0,false),(oF 33 4 4,false),(oL 34 1 33,false),(oR 35 (.idx 1 (.t 34) (d5 1)),false),(oL 36 1 35,false),(oC 37 122 [(.t 32),(.t 36)],false),(u5 38 201 37,false),(⟨(some 5),(.d (.alloc [(.ak [] .nil),(.ak [] .nil),(.int .i64 0),(.bool false)])),none⟩,true),(⟨(some 6),(.d (.alloc [(.ak [] .nil),(.ak [] .nil),(.int .i64 0),(.bool false)])),none⟩,true)] [oS 4 5 31,oS 4 6 38]) (sO [oR 39 (.build [(.ak [] .nil),(.ak [] .nil),(.int .i64 0),(.bool false)] [(2,(1,(d5 (-1))))]),⟨(some 7),(.d (.alloc [(.ak [] .nil),(.ak [] .nil),(.int .i64 0),(.bool false)])),none⟩,oS 4 7 39] (.seq (sO [oF 40 2 4,oL 41 1 40] (.block 0 (sO [oB 43 .eql (.t 41) (.c (.str [60,61])),oM 42 43] (m6 42 (sO [oA 44 4 6,oA 45 4 5,oC 46 144 [(.t 44),(.t 45),(d5 (-1))],oR 47 (.build [(.ak [] .nil),(.ak [] .nil),(.int .i64 0),(.bool false),(.bool false)] [(0,(4,(.t 46)))]),oS 5 2 47,g0 3 true] .ret) (sO [oB 49 .eql (.t 41) (.c (.str [60])),oM 48 49] (m6 48 (.seq (.par [(oA 50 4 6,false),(oA 51 4 5,false),(oC 52 144 [(.t 50),(.t 51),(d5 (-1))],false),(oA 53 4 7,false)] [oC 54 144 [(.t 52),(.t 53),(d5 1)],oR 55 (.build [(.ak [] .nil),(.ak [] .nil),(.int .i64 0),(.bool false),(.bool false)] [(0,(4,(.t 54)))]),oS 5 2 55,g0 3 true]) .ret) (sO [oB 57 .eql (.t 41) (.c (.str [62,61])),oM 56 57] (m6 56 (sO [oA 58 4 5,oA 59 4 6,oC 60 144 [(.t 58),(.t 59),(d5 (-1))],oR 61 (.build [(.ak [] .nil),(.ak [] .nil),(.int .i64 0),(.bool false),(.bool false)] [(0,(4,(.t 60)))]),oS 5 2 61,g0 3 true] .ret) (sO [oB 63 .eql (.t 41) (.c (.str [62])),oM 62 63] (m6 62 (.seq (.par [(oA 64 4 5,false),(oA 65 4 6,false),(oC 66 144 [(.t 64),(.t 65),(d5 (-1))],false),(oA 67 4 7,false)] [oC 68 144 [(.t 66),(.t 67),(d5 1)],oR 69 (.build [(.ak [] .nil),(.ak [] .nil),(.int .i64 0),(.bool false),(.bool false)] [(0,(4,(.t 68)))]),oS 5 2 69,g0 3 true]) .ret) .skip)))))))))) (sO [oA 70 4 5,oA 71 4 6,oC 72 144 [(.t 70),(.t 71),(d5 (-1))],oR 73 (.build [(.ak [] .nil),(.ak [] .nil),(.int .i64 0),(.bool false),(.bool false)] [(0,(4,(.t 72))),(4,(1,(w6 true)))]),oS 5 2 73,g0 3 true] .ret)))))))
theorem avG:aY Tryz.prog dc false 143 74 [(.cell 2 5 true),(.tmp 3)] amw:=bf Tryz.func143
def amx:AC:=(sO [g0 4 false] (sO [oM 5 0,u5 6 56 5,oR 7 (.Qj 0 1 false (.t 6)),j0 8 .eql 7 2,oM 9 8,bJ 10 0 9 true,iW 11 56 [(.t 10)] 9 true,dh 12 (.Qj 2 1 false (.t 11)) 9 true,bJ 13 1 9 true,fJ 14 .eql (.t 12) (.t 13) 9 true,b6 15 9 14,oM 4 15] .ret))
theorem avH:aY Tryz.prog dc false 145 16 [(.tmp 4)] amx:=bf Tryz.func145
def amy:AC:=(sO [c6 1 4 0,g0 2 false] (sO [oA 3 4 1,u5 4 147 3,oM 5 4,eH 6 2 1 5 true,dK 7 1 6 5 true,fJ 8 .lss (.t 7) (d5 0) 5 true,b6 9 5 8,oM 2 9] .ret))
theorem avI:aY Tryz.prog dc false 146 10 [(.tmp 2)] amy:=bf Tryz.func146
def amA:AC:=(sO [c6 1 4 0,g0 2 false] (sO [oF 3 3 1,oL 4 1 3,a6 5 4,oM 6 5,eH 7 1 1 6 true,dK 8 1 7 6 true,iW 9 76 [(.t 8),(.c (.fn (.func 204) [] []))] 6 true,dh 10 (.not (.t 9)) 6 true,b6 11 6 10,oM 2 11] .ret))
theorem avJ:aY Tryz.prog dc false 147 12 [(.tmp 2)] amA:=bf Tryz.func147
def amB:AC:=(sO [g0 4 false,oI 5 0] (.seq (sO [oM 7 0,u5 8 186 7,oM 9 1,u5 10 186 9,oR 11 (.d9 1 [(.t 8),(.t 10)]),u5 12 175 11,oM 6 12] (sO [oM 13 6,j0 14 .neq 13 0] (m6 14 (sO [oM 15 6,g0 4 false,oM 5 15] .ret) .skip))) (sO [oM 16 0,u5 17 216 16,oM 18 1,u5 19 216 18,oC 20 215 [(.t 17),(.t 19)],oM 4 20,oI 5 0] .ret)))
theorem avK:aY Tryz.prog dc false 160 21 [(.tmp 4),(.tmp 5)] amB:=bf Tryz.func160
def F6:AC:=(sO [p1 9 .lss 8 7] (.seq (z1 9) (.seq (.block 1 (sO [oM 10 8,oM 5 10] (sO [oM 11 1,oM 12 0,oM 13 5,oX 14 1 12 13,oL 15 1 14,⟨(some 16),(.call (.t 11) [(.t 15)]),none⟩] (m6 16 (sO [oM 17 5,oM 4 17] .ret) .skip)))) (i6 18 8))))
def agb:AC:=(sO [oI 4 0] (.seq (sO [oM 6 0,oN 7 6,oI 8 0] (.block 0 (.loop F6))) (sO [oI 4 (-1)] .ret)))
theorem amC:aY Tryz.prog dc false 161 19 [(.tmp 4)] agb:=bf Tryz.func161
def amD:AC:=(sO [oR 2 (.aV (.c (.ak [] .nil)))] (sO [oM 4 0,u5 5 198 4,oR 6 (.build [(.ak [] .nil),(.int .i64 0)] [(0,(1,(.t 5)))]),c6 7 2 6,oM 3 7] (sO [oM 8 3,oM 9 0,oC 10 222 [(.t 8),(.t 9),(.c (.ak [] .nil)),(.c (.ak [] .nil))],oM 2 10] .ret)))
theorem avL:aY Tryz.prog dc false 164 11 [(.tmp 2)] amD:=bf Tryz.func164
def Q9:AC:=(sO [p1 9 .lss 8 7] (.seq (z1 9) (.seq (.block 1 (sO [oM 10 8,oM 5 10] (sO [oM 11 1,oM 12 0,oM 13 5,oX 14 1 12 13,oL 15 1 14,p1 16 .eql 11 15] (m6 16 (sO [oM 17 5,oM 4 17] .ret) .skip)))) (i6 18 8))))
def amE:AC:=(sO [oI 4 0] (.seq (sO [oM 6 0,oN 7 6,oI 8 0] (.block 0 (.loop Q9))) (sO [oI 4 (-1)] .ret)))
theorem avM:aY Tryz.prog dc false 165 19 [(.tmp 4)] amE:=bf Tryz.func165
def Ra:AC:=(.seq (sO [oM 48 3,oM 49 2,oN 50 49,p1 51 .lss 48 50] (z1 51)) (.seq (.block 1 (sO [oM 54 2,oM 55 3,oX 56 7 54 55,oA 57 7 56,⟨(some 4),(.d (.alloc zO)),none⟩,oS 7 4 57] (sO [oF 58 1 4,oL 59 1 58,j0 60 .eql 59 1,u5 61 87 60,oB 62 .add (d5 1) (.t 61),oF 63 5 4,oS 1 63 62] (sO [oF 64 5 4,oL 65 1 64,oF 66 6 4,oS 1 66 65] (.seq (sO [oF 67 0 4,oL 68 1 67,oB 69 .eql (.t 68) (.c (.str [92,88]))] (m6 69 (.ops [oF 70 6 4,⟨none,(.d (.store 1 (.t 70) (d5 4))),none⟩]) .skip)) (.ops [oM 71 1,oA 72 7 4,oR 73 (.d9 7 [(.t 72)]),⟨(some 74),(.d (.app 7 64 (.t 71) (.t 73))),none⟩,oM 1 74])))))) (.ops [oM 52 3,j0 53 .add 52 1,oM 3 53])))
def amF:AC:=(sO [oR 0 (.aV (.c (.ak [] .nil)))] (sO [oR 1 (.aV (.c (.ak [] .nil)))] (sO [oR 5 (.build [(.str []),(.int .i64 0),(.int .i64 0),(.int .i64 0),(.bool false),(.int .i64 0),(.int .i64 0)] [(0,(1,(.c (.str [126])))),(1,(1,(d5 0))),(2,(1,(d5 4))),(3,(1,(d5 4)))]),oR 6 (.build [(.str []),(.int .i64 0),(.int .i64 0),(.int .i64 0),(.bool false),(.int .i64 0),(.int .i64 0)] [(0,(1,(.c (.str [69,78,65,66,76,69,68])))),(1,(1,(d5 0))),(2,(1,(d5 4))),(3,(1,(d5 15)))]),oR 7 (.build [(.str []),(.int .i64 0),(.int .i64 0),(.int .i64 0),(.bool false),(.int .i64 0),(.int .i64 0)] [(0,(1,(.c (.str [85,78,67,72,65,78,71,69,68])))),(1,(1,(d5 0))),(2,(1,(d5 4))),(3,(1,(d5 15)))]),oR 8 (.build [(.str []),(.int .i64 0),(.int .i64 0),(.int .i64 0),(.bool false),(.int .i64 0),(.int .i64 0)] [(0,(1,(.c (.str [91,93])))),(1,(1,(d5 0))),(2,(1,(d5 4))),(3,(1,(d5 15)))]),oR 9 (.build [(.str []),(.int .i64 0),(.int .i64 0),(.int .i64 0),(.bool false),(.int .i64 0),(.int .i64 0)] [(0,(1,(.c (.str [60,62])))),(1,(1,(d5 0))),(2,(1,(d5 4))),(3,(1,(d5 15)))]),oR 10 (.build [(.str []),(.int .i64 0),(.int .i64 0),(.int .i64 0),(.bool false),(.int .i64 0),(.int .i64 0)] [(0,(1,(.c (.str [83,85,66,83,69,84])))),(1,(1,(d5 0))),(2,(1,(d5 8))),(3,(1,(d5 8)))]),oR 11 (.build [(.str []),(.int .i64 0),(.int .i64 0),(.int .i64 0),(.bool false),(.int .i64 0),(.int .i64 0)] [(0,(1,(.c (.str [85,78,73,79,78])))),(1,(1,(d5 0))),(2,(1,(d5 8))),(3,(1,(d5 8)))]),oR 12 (.build [(.str []),(.int .i64 0),(.int .i64 0),(.int .i64 0),(.bool false),(.int .i64 0),(.int .i64 0)] [(0,(1,(.c (.str [68,79,77,65,73,78])))),(1,(1,(d5 0))),(2,(1,(d5 9))),(3,(1,(d5 9)))]),oR 13 (.build [(.str []),(.int .i64 0),(.int .i64 0),(.int .i64 0),(.bool false),(.int .i64 0),(.int .i64 0)] [(0,(1,(.c (.str [45,46])))),(1,(1,(d5 0))),(2,(1,(d5 12))),(3,(1,(d5 12)))]),oR 14 (.build [(.str []),(.int .i64 0),(.int .i64 0),(.int .i64 0),(.bool false),(.int .i64 0),(.int .i64 0)] [(0,(1,(.c (.str [61,62])))),(1,(1,(d5 1))),(2,(1,(d5 1))),(3,(1,(d5 1)))]),oR 15 (.build [(.str []),(.int .i64 0),(.int .i64 0),(.int .i64 0),(.bool false),(.int .i64 0),(.int .i64 0)] [(0,(1,(.c (.str [60,61,62])))),(1,(1,(d5 1))),(2,(1,(d5 2))),(3,(1,(d5 2)))]),oR 16 (.build [(.str []),(.int .i64 0),(.int .i64 0),(.int .i64 0),(.bool false),(.int .i64 0),(.int .i64 0)] [(0,(1,(.c (.str [126,62])))),(1,(1,(d5 1))),(2,(1,(d5 2))),(3,(1,(d5 2)))]),oR 17 (.build [(.str []),(.int .i64 0),(.int .i64 0),(.int .i64 0),(.bool false),(.int .i64 0),(.int .i64 0)] [(0,(1,(.c (.str [47,92])))),(1,(1,(d5 1))),(2,(1,(d5 3))),(3,(1,(d5 3))),(4,(1,(w6 true)))]),oR 18 (.build [(.str []),(.int .i64 0),(.int .i64 0),(.int .i64 0),(.bool false),(.int .i64 0),(.int .i64 0)] [(0,(1,(.c (.str [92,47])))),(1,(1,(d5 1))),(2,(1,(d5 3))),(3,(1,(d5 3))),(4,(1,(w6 true)))]),oR 19 (.build [(.str []),(.int .i64 0),(.int .i64 0),(.int .i64 0),(.bool false),(.int .i64 0),(.int .i64 0)] [(0,(1,(.c (.str [61])))),(1,(1,(d5 1))),(2,(1,(d5 5))),(3,(1,(d5 5)))]),oR 20 (.build [(.str []),(.int .i64 0),(.int .i64 0),(.int .i64 0),(.bool false),(.int .i64 0),(.int .i64 0)] [(0,(1,(.c (.str [35])))),(1,(1,(d5 1))),(2,(1,(d5 5))),(3,(1,(d5 5)))]),oR 21 (.build [(.str []),(.int .i64 0),(.int .i64 0),(.int .i64 0),(.bool false),(.int .i64 0),(.int .i64 0)] [(0,(1,(.c (.str [60])))),(1,(1,(d5 1))),(2,(1,(d5 5))),(3,(1,(d5 5)))]),oR 22 (.build [(.str []),(.int .i64 0),(.int .i64 0),(.int .i64 0),(.bool false),(.int .i64 0),(.int .i64 0)] [(0,(1,(.c (.str [60,61])))),(1,(1,(d5 1))),(2,(1,(d5 5))),(3,(1,(d5 5)))]),oR 23 (.build [(.str []),(.int .i64 0),(.int .i64 0),(.int .i64 0),(.bool false),(.int .i64 0),(.int .i64 0)] [(0,(1,(.c (.str [62])))),(1,(1,(d5 1))),(2,(1,(d5 5))),(3,(1,(d5 5)))]),oR 24 (.build [(.str []),(.int .i64 0),(.int .i64 0),(.int .i64 0),(.bool false),(.int .i64 0),(.int .i64 0)] [(0,(1,(.c (.str [62,61])))),(1,(1,(d5 1))),(2,(1,(d5 5))),(3,(1,(d5 5)))]),oR 25 (.build [(.str []),(.int .i64 0),(.int .i64 0),(.int .i64 0),(.bool false),(.int .i64 0),(.int .i64 0)] [(0,(1,(.c (.str [92,105,110])))),(1,(1,(d5 1))),(2,(1,(d5 5))),(3,(1,(d5 5)))]),oR 26 (.build [(.str []),(.int .i64 0),(.int .i64 0),(.int .i64 0),(.bool false),(.int .i64 0),(.int .i64 0)] [(0,(1,(.c (.str [92,110,111,116,105,110])))),(1,(1,(d5 1))),(2,(1,(d5 5))),(3,(1,(d5 5)))]),oR 27 (.build [(.str []),(.int .i64 0),(.int .i64 0),(.int .i64 0),(.bool false),(.int .i64 0),(.int .i64 0)] [(0,(1,(.c (.str [92,115,117,98,115,101,116,101,113])))),(1,(1,(d5 1))),(2,(1,(d5 5))),(3,(1,(d5 5)))]),oR 28 (.build [(.str []),(.int .i64 0),(.int .i64 0),(.int .i64 0),(.bool false),(.int .i64 0),(.int .i64 0)] [(0,(1,(.c (.str [92,115,113,115,117,98,115,101,116,101,113])))),(1,(1,(d5 1))),(2,(1,(d5 5))),(3,(1,(d5 5)))]),oR 29 (.build [(.str []),(.int .i64 0),(.int .i64 0),(.int .i64 0),(.bool false),(.int .i64 0),(.int .i64 0)] [(0,(1,(.c (.str [64,64])))),(1,(1,(d5 1))),(2,(1,(d5 6))),(3,(1,(d5 6))),(4,(1,(w6 true)))]),oR 30 (.build [(.str []),(.int .i64 0),(.int .i64 0),(.int .i64 0),(.bool false),(.int .i64 0),(.int .i64 0)] [(0,(1,(.c (.str [58,62])))),(1,(1,(d5 1))),(2,(1,(d5 7))),(3,(1,(d5 7)))]),oR 31 (.build [(.str []),(.int .i64 0),(.int .i64 0),(.int .i64 0),(.bool false),(.int .i64 0),(.int .i64 0)] [(0,(1,(.c (.str [92,99,100,111,116])))),(1,(1,(d5 1))),(2,(1,(d5 5))),(3,(1,(d5 14))),(4,(1,(w6 true)))]),oR 32 (.build [(.str []),(.int .i64 0),(.int .i64 0),(.int .i64 0),(.bool false),(.int .i64 0),(.int .i64 0)] [(0,(1,(.c (.str [92,99,117,112])))),(1,(1,(d5 1))),(2,(1,(d5 8))),(3,(1,(d5 8))),(4,(1,(w6 true)))]),oR 33 (.build [(.str []),(.int .i64 0),(.int .i64 0),(.int .i64 0),(.bool false),(.int .i64 0),(.int .i64 0)] [(0,(1,(.c (.str [92,99,97,112])))),(1,(1,(d5 1))),(2,(1,(d5 8))),(3,(1,(d5 8))),(4,(1,(w6 true)))]),oR 34 (.build [(.str []),(.int .i64 0),(.int .i64 0),(.int .i64 0),(.bool false),(.int .i64 0),(.int .i64 0)] [(0,(1,(.c (.str [92])))),(1,(1,(d5 1))),(2,(1,(d5 8))),(3,(1,(d5 8)))]),oR 35 (.build [(.str []),(.int .i64 0),(.int .i64 0),(.int .i64 0),(.bool false),(.int .i64 0),(.int .i64 0)] [(0,(1,(.c (.str [46,46])))),(1,(1,(d5 1))),(2,(1,(d5 9))),(3,(1,(d5 9)))]),oR 36 (.build [(.str []),(.int .i64 0),(.int .i64 0),(.int .i64 0),(.bool false),(.int .i64 0),(.int .i64 0)] [(0,(1,(.c (.str [43])))),(1,(1,(d5 1))),(2,(1,(d5 10))),(3,(1,(d5 10))),(4,(1,(w6 true)))]),oR 37 (.build [(.str []),(.int .i64 0),(.int .i64 0),(.int .i64 0),(.bool false),(.int .i64 0),(.int .i64 0)] [(0,(1,(.c (.str [40,43,41])))),(1,(1,(d5 1))),(2,(1,(d5 10))),(3,(1,(d5 10))),(4,(1,(w6 true)))]),oR 38 (.build [(.str []),(.int .i64 0),(.int .i64 0),(.int .i64 0),(.bool false),(.int .i64 0),(.int .i64 0)] [(0,(1,(.c (.str [37])))),(1,(1,(d5 1))),(2,(1,(d5 10))),(3,(1,(d5 11)))]),oR 39 (.build [(.str []),(.int .i64 0),(.int .i64 0),(.int .i64 0),(.bool false),(.int .i64 0),(.int .i64 0)] [(0,(1,(.c (.str [92,88])))),(1,(1,(d5 1))),(2,(1,(d5 10))),(3,(1,(d5 13)))]),oR 40 (.build [(.str []),(.int .i64 0),(.int .i64 0),(.int .i64 0),(.bool false),(.int .i64 0),(.int .i64 0)] [(0,(1,(.c (.str [45])))),(1,(1,(d5 1))),(2,(1,(d5 11))),(3,(1,(d5 11))),(4,(1,(w6 true)))]),oR 41 (.build [(.str []),(.int .i64 0),(.int .i64 0),(.int .i64 0),(.bool false),(.int .i64 0),(.int .i64 0)] [(0,(1,(.c (.str [40,45,41])))),(1,(1,(d5 1))),(2,(1,(d5 11))),(3,(1,(d5 11))),(4,(1,(w6 true)))]),oR 42 (.build [(.str []),(.int .i64 0),(.int .i64 0),(.int .i64 0),(.bool false),(.int .i64 0),(.int .i64 0)] [(0,(1,(.c (.str [42])))),(1,(1,(d5 1))),(2,(1,(d5 13))),(3,(1,(d5 13))),(4,(1,(w6 true)))]),oR 43 (.build [(.str []),(.int .i64 0),(.int .i64 0),(.int .i64 0),(.bool false),(.int .i64 0),(.int .i64 0)] [(0,(1,(.c (.str [92,100,105,118])))),(1,(1,(d5 1))),(2,(1,(d5 13))),(3,(1,(d5 13)))]),oR 44 (.build [(.str []),(.int .i64 0),(.int .i64 0),(.int .i64 0),(.bool false),(.int .i64 0),(.int .i64 0)] [(0,(1,(.c (.str [92,111])))),(1,(1,(d5 1))),(2,(1,(d5 13))),(3,(1,(d5 13))),(4,(1,(w6 true)))]),oR 45 (.build [(.str []),(.int .i64 0),(.int .i64 0),(.int .i64 0),(.bool false),(.int .i64 0),(.int .i64 0)] [(0,(1,(.c (.str [94])))),(1,(1,(d5 1))),(2,(1,(d5 14))),(3,(1,(d5 14)))]),oR 46 (.build [(.str []),(.int .i64 0),(.int .i64 0),(.int .i64 0),(.bool false),(.int .i64 0),(.int .i64 0)] [(0,(1,(.c (.str [39])))),(1,(1,(d5 2))),(2,(1,(d5 15))),(3,(1,(d5 15)))]),oR 47 (.d9 7 [(.t 5),(.t 6),(.t 7),(.t 8),(.t 9),(.t 10),(.t 11),(.t 12),(.t 13),(.t 14),(.t 15),(.t 16),(.t 17),(.t 18),(.t 19),(.t 20),(.t 21),(.t 22),(.t 23),(.t 24),(.t 25),(.t 26),(.t 27),(.t 28),(.t 29),(.t 30),(.t 31),(.t 32),(.t 33),(.t 34),(.t 35),(.t 36),(.t 37),(.t 38),(.t 39),(.t 40),(.t 41),(.t 42),(.t 43),(.t 44),(.t 45),(.t 46)]),oM 2 47] (.seq (sO [oI 3 0] (.block 0 (.loop Ra))) (sO [oM 75 1,oM 0 75] .ret)))))
theorem avN:aY Tryz.prog dc false 173 76 [(.tmp 0)] amF:=bf Tryz.func173
def Rb:AC:=(sO [j0 8 .eql 6 6,oM 7 8] (m6 7 .skip (sO [j0 9 .eql 6 12,oM 7 9] (m6 7 .skip (sO [j0 10 .eql 6 7,oM 7 10] (m6 7 .skip (sO [j0 11 .eql 6 8,oM 7 11] (m6 7 .skip (sO [j0 12 .eql 6 9,oM 7 12] (m6 7 .skip (sO [j0 13 .eql 6 13,oM 7 13] (m6 7 .skip (sO [j0 14 .eql 6 10,oM 7 14] (m6 7 .skip (sO [j0 15 .eql 6 11,oM 7 15] (m6 7 .skip (.ops [j0 16 .eql 6 24,oM 7 16])))))))))))))))))
def amG:AC:=(sO [c6 2 5 0,oR 4 (.aV (.c (.ak [] .nil)))] (.seq (sO [oF 5 0 2,oL 6 1 5] (.block 0 (.seq Rb (m6 7 (sO [oM 17 1,oF 18 4 2,oL 19 1 18,oN 20 19,j0 21 .sub 20 1,p1 22 .eql 17 21] (m6 22 (sO [oF 23 3 2,oL 24 1 23,oM 4 24] .ret) .skip)) (sO [j0 26 .eql 6 23,oM 25 26] (m6 25 (.seq (sO [oM 27 1,j0 28 .eql 27 1] (m6 28 (sO [oF 29 3 2,oL 30 1 29,oR 31 (.slc 1 (.t 30) none (some (d5 1)) none),oM 4 31] .ret) .skip)) (.seq (sO [oF 32 1 2,oL 33 1 32,j0 34 .eql 33 1] (m6 34 (sO [oF 35 3 2,oL 36 1 35,oM 4 36] .ret) .skip)) (sO [oF 37 3 2,oL 38 1 37,oR 39 (.slc 1 (.t 38) (some (d5 1)) none none),oM 4 39] .ret))) .skip)))))) (sO [oR 4 (.aV (.c (.ak [] .nil)))] .ret)))
theorem avO:aY Tryz.prog dc false 174 40 [(.tmp 4)] amG:=bf Tryz.func174
def Rf:AC:=(sO [p1 9 .lss 8 7] (.seq (z1 9) (.seq (.block 1 (sO [oX 10 1 6 8,oL 11 1 10,oM 5 11] (sO [oM 12 5,oM 13 3,p1 14 .neq 12 13] (m6 14 (sO [oM 15 5,oM 2 15] .ret) .skip)))) (i6 16 8))))
def amH:AC:=(sO [oI 2 0] (sO [oI 3 0] (.seq (sO [oM 6 0,oN 7 6,oI 8 0] (.block 0 (.loop Rf))) (sO [oM 17 3,oM 2 17] .ret))))
theorem avP:aY Tryz.prog dc false 175 18 [(.tmp 2)] amH:=bf Tryz.func175
def amI:AC:=(sO [oI 4 0] (.seq (sO [oM 5 0] (m6 5 (sO [oM 6 1,oM 4 6] .ret) .skip)) (sO [oI 4 0] .ret)))
theorem avQ:aY Tryz.prog dc false 176 7 [(.tmp 4)] amI:=bf Tryz.func176
def Rh:List aR:=[eH 37 4 7 36 false,dK 38 1 37 36 false,dh 39 (.len (.t 38)) 36 false,eH 40 2 8 36 false,dh 41 (.r9 2 1 (.t 40) (.c (.int .i64 0))) 36 false,dK 42 1 41 36 false,eH 43 2 8 36 false,dh 44 (.r9 2 1 (.t 43) (.c (.int .i64 1))) 36 false,dK 45 1 44 36 false,iW 46 224 [(.t 39),(.t 42),(.t 45)] 36 false,dh 47 (.not (.t 46)) 36 false,oR 48 (.pick (.t 36) (.c (.bool true)) (.t 47))]
def Nf:AC:=(.ops [oM 12 55])
def Ng:AC:=(.block 1 (.seq (sO [oM 56 12,oL 57 1 9,p1 58 .neq 56 57,oM 59 58,dK 60 1 9 59 false,fJ 61 .lss (.t 60) (d5 0) 59 false,y6 62 59 61] (m6 62 (sO [⟨none,(.d (.store 1 (.t 10) (w6 false))),none⟩] (.exit 0)) .skip)) (.ops [oL 63 1 5,oL 64 1 9,oX 65 1 63 64,oL 66 1 65,j0 67 .sub 66 1,oS 1 9 67])))
def Ri:AC:=(sO [oF 51 4 7,oL 52 1 51,u5 53 227 52] (.block 0 (.rf (.t 53) 54 55 Nf Ng)))
def Rj:List aR:=[eH 74 2 7 73 false,dK 75 1 74 73 false,fJ 76 .eql (.t 75) (.c (.str [])) 73 false,oR 77 (.pick (.t 73) (.c (.bool true)) (.t 76)),oM 78 77,eH 79 5 8 78 true,dK 80 1 79 78 true,bJ 81 80 78 true,eH 82 1 7 81 false,dK 83 1 82 81 false,fJ 84 .eql (.t 83) (.c (.int .i64 0)) 81 false,dh 85 (.pick (.t 81) (.c (.bool true)) (.t 84)) 78 true,oR 86 (.pick (.t 78) (.t 85) (.c (.bool false))),oM 87 86,eH 88 0 7 87 true,dK 89 1 88 87 true,fJ 90 .neq (.t 89) (.c (.int .i64 1)) 87 true,bJ 91 90 87 true,eH 92 2 7 91 false,dK 93 1 92 91 false,iW 94 228 [(.t 93)] 91 false,dh 95 (.pick (.t 91) (.c (.bool true)) (.t 94)) 87 true,oR 96 (.pick (.t 87) (.t 95) (.c (.bool false))),oM 97 96,bJ 98 13 97 true,dh 99 (.not (.t 98)) 97 true,bJ 100 99 97 true,eH 101 1 7 100 false,dK 102 1 101 100 false,iW 103 224 [(.t 102),(.c (.int .i64 0)),(.c (.int .i64 1))] 100 false,dh 104 (.pick (.t 100) (.c (.bool true)) (.t 103)) 97 true,oR 105 (.pick (.t 97) (.t 104) (.c (.bool false)))]
def amJ:AC:=(sO [c6 5 1 2,oI 6 0] (sO [oM 15 0,oM 16 1,oX 17 5 15 16,oA 18 5 17,⟨(some 7),(.d (.alloc zN)),none⟩,oS 5 7 18] (.seq (sO [oF 19 0 7,oL 20 1 19,oC 21 224 [(.t 20),(d5 0),(d5 28)],a6 22 21] (m6 22 (sO [oI 6 4] .ret) .skip)) (sO [oA 23 5 7,u5 24 226 23,⟨(some 8),(.d (.alloc [(.int .i64 0),(.int .i64 0),(.int .i64 0),(.int .i64 0),(.bool false),(.bool false)])),none⟩,oS 6 8 24] (.seq (.seq (.ops ([oF 25 3 7,oL 26 1 25,oN 27 26,oF 28 0 8,oR 29 (.r9 2 1 (.t 28) (d5 0)),oL 30 1 29,oF 31 0 8,oR 32 (.r9 2 1 (.t 31) (d5 1)),oL 33 1 32,oC 34 224 [(.t 27),(.t 30),(.t 33)],a6 35 34,oM 36 35]++Rh)) (m6 48 (sO [oI 6 6] .ret) .skip)) (sO [oM 49 1,j0 50 .sub 49 1,⟨(some 9),(.d (.alloc [(.int .i64 0)])),none⟩,oS 1 9 50] (sO [⟨(some 10),(.d (.alloc [(.bool false)])),none⟩,⟨none,(.d (.store 1 (.t 10) (w6 true))),none⟩] (.seq Ri (sO [oF 68 0 7,oL 69 1 68,j0 70 .eql 69 23,oM 13 70] (.seq (.ops ([oF 71 4 8,oL 72 1 71,oM 73 72]++Rj++[oM 14 105])) (.seq (.par [(oL 106 1 10,false),(a6 107 106,false),(oM 108 107,false),(bJ 109 14 108 false,false),(dh 110 (.not (.t 109)) 108 false,false),(y6 111 108 110,false),(oC 112 176 [(.t 111),(d5 5)],false),(oM 113 13,false),(a6 114 113,false),(oM 115 114,false),(eH 116 1 7 115 true,false),(dK 117 1 116 115 true,false),(iW 118 224 [(.t 117),(d5 0),(d5 10000)] 115 true,false),(dh 119 (.not (.t 118)) 115 true,false),(b6 120 115 119,false),(oC 121 176 [(.t 120),(d5 3)],false),(oA 122 5 7,false)] [u5 123 229 122,oR 124 (.d9 1 [(.t 112),(.t 121),(.t 123)]),u5 125 175 124,oM 6 125]) .ret)))))))))))
theorem avR:aY Tryz.prog dc false 177 126 [(.tmp 6)] amJ:=bf Tryz.func177
def amK:AC:=(sO [oI 6 0] (.seq (sO [oM 7 0,oM 8 1,oX 9 5 7 8,oF 10 4 9,oL 11 1 10,oN 12 11,j0 13 .eql 12 0] (m6 13 (sO [oM 14 1,oM 6 14] .ret) .skip)) (sO [oM 15 2,oM 16 0,oM 17 1,oX 18 5 16 17,oF 19 4 18,oL 20 1 19,oR 21 (.idx 1 (.t 20) (d5 0)),oL 22 1 21,oX 23 1 15 22,oL 24 1 23,oM 6 24] .ret)))
theorem avS:aY Tryz.prog dc false 178 25 [(.tmp 6)] amK:=bf Tryz.func178
def Rk:AC:=(sO [p1 28 .lss 27 26] (.seq (m6 28 .skip (.exit 2)) (.seq (.block 3 (sO [oM 29 27,oX 30 1 25 27,oL 31 1 30,oM 8 29,oM 9 31] (.ops [oM 32 4,oM 33 9,oM 34 5,oM 35 9,oM 36 6,oM 37 8,oX 38 1 32 33,oS 1 38 36,oX 39 1 34 35,oS 1 39 37]))) (i6 40 27))))
def Rm:AC:=(sO [p1 20 .lss 19 18] (.seq (z1 20) (.seq (.block 1 (sO [oM 21 19,oX 22 5 17 19,oA 23 5 22,⟨(some 7),(.d (.alloc zN)),none⟩,oM 6 21,oS 5 7 23] (sO [oF 24 4 7,oL 25 1 24,oN 26 25,oI 27 0] (.block 2 (.loop Rk))))) (i6 41 19))))
def amL:AC:=(sO [oR 2 (.aV (.c (.ak [] .nil))),oR 3 (.aV (.c (.ak [] .nil)))] (.seq (.sD [0,0,2,7,0,16,48,15,255] [(oR 10 (.d9 1 [(d5 (-1))]),false),(oM 11 0,false),(oN 12 11,false),(oC 13 230 [(.t 10),(.t 12)],true),(oM 14 0,false),(oN 15 14,false),(⟨(some 16),(.d (.vR 1 8 [(.int .i64 0)] (.t 15) (.t 15))),none⟩,true),(oM 4 13,false)] [oM 5 16]) (.seq (sO [oM 17 0,oN 18 17,oI 19 0] (.block 0 (.loop Rm))) (sO [oM 42 4,oM 43 5,oM 2 42,oM 3 43] .ret))))
theorem avT:aY Tryz.prog dc false 179 44 [(.tmp 2),(.tmp 3)] amL:=bf Tryz.func179
def Rn:AC:=(.seq (sO [oM 51 2,oM 52 11,oX 53 1 51 52,oL 54 1 53,j0 55 .neq 54 (-1)] (m6 55 .skip (.exit 1))) (.seq (.block 2 (sO [oM 60 0,oM 61 2,oM 62 11,oX 63 1 61 62,oL 64 1 63,oX 65 5 60 64,oF 66 0 65,oL 67 1 66,j0 68 .eql 67 19,oM 69 68,bJ 70 3 69 true,bJ 71 11 69 true,dh 72 (.idx 1 (.t 70) (.t 71)) 69 true,dK 73 1 72 69 true,fJ 74 .eql (.t 73) (d5 2) 69 true,b6 75 69 74] (m6 75 (sO [g0 8 false] .ret) .skip))) (.ops [oM 56 2,oM 57 11,oX 58 1 56 57,oL 59 1 58,oM 11 59])))
def amM:AC:=(sO [g0 8 false] (.seq (sO [oM 12 0,oM 13 1,oX 14 5 12 13,oF 15 0 14,oL 16 1 15] (.block 0 (sO [j0 18 .eql 16 24,oM 17 18] (m6 17 (.seq (sO [oM 19 2,oM 20 1,oX 21 1 19 20,oL 22 1 21,j0 23 .eql 22 (-1),oM 24 23,bJ 25 0 24 false,bJ 26 2 24 false,bJ 27 1 24 false,dh 28 (.idx 1 (.t 26) (.t 27)) 24 false,dK 29 1 28 24 false,dh 30 (.idx 5 (.t 25) (.t 29)) 24 false,eH 31 0 30 24 false,dK 32 1 31 24 false,fJ 33 .neq (.t 32) (d5 3) 24 false,y6 34 24 33] (m6 34 (sO [g0 8 true] .ret) .skip)) (sO [oM 36 0,oM 37 2,oM 38 1,oX 39 1 37 38,oL 40 1 39,oX 41 5 36 40,oF 42 2 41,oL 43 1 42,u5 44 223 43,oM 35 44,oE 45 35 0,oE 46 35 1,⟨(some 9),(.d (.alloc zO)),none⟩,oS 7 9 45,oM 10 46] (sO [oM 47 10,oM 8 47] .ret))) (sO [j0 49 .eql 16 20,oM 48 49] (m6 48 (.seq (sO [oM 50 1,oM 11 50] (.block 1 (.loop Rn))) (sO [g0 8 true] .ret)) .skip)))))) (sO [g0 8 false] .ret)))
theorem avU:aY Tryz.prog dc false 180 76 [(.tmp 8)] amM:=bf Tryz.func180
def amN:AC:=(sO [oI 2 0] (sO [oM 6 0,u5 7 119 6,oM 5 7,oE 8 5 0,oE 9 5 1,oM 3 8,oM 4 9] (sO [oM 10 4,oM 2 10] .ret)))
theorem avV:aY Tryz.prog dc false 186 11 [(.tmp 2)] amN:=bf Tryz.func186
def Ro:List aR:=[bJ 11 0 10 false,iW 12 236 [(.t 11),(.c (.str [87,70,95]))] 10 false,oR 13 (.pick (.t 10) (.c (.bool true)) (.t 12)),oM 14 13,bJ 15 0 14 false,iW 16 236 [(.t 15),(.c (.str [83,70,95]))] 14 false,oR 17 (.pick (.t 14) (.c (.bool true)) (.t 16)),oM 18 17,iW 19 237 [] 18 false,bJ 20 0 18 false,iW 21 100 [(.t 19),(.t 20)] 18 false,oR 22 (.pick (.t 18) (.c (.bool true)) (.t 21))]
def Rp:List aR:=[bJ 35 5 34 false,dh 36 (.conv .i64 (.t 35)) 34 false,iW 37 224 [(.t 36),(.c (.int .i64 65)),(.c (.int .i64 90))] 34 false,oR 38 (.pick (.t 34) (.c (.bool true)) (.t 37))]
def Rq:AC:=(sO [p1 27 .lss 26 25] (.seq (z1 27) (.seq (.block 1 (sO [oX 28 1 24 26,oL 29 1 28,oM 5 29] (.block 2 (.seq (.ops ([oM 31 5,oR 32 (.conv .i64 (.t 31)),oC 33 224 [(.t 32),(d5 97),(d5 122)],oM 34 33]++Rp++[oM 30 38])) (m6 30 (.ops [oM 39 3,j0 40 .add 39 1,oM 3 40]) (sO [oM 42 5,oR 43 (.conv .i64 (.t 42)),oC 44 224 [(.t 43),(d5 48),(d5 57)],a6 45 44,oM 46 45,bJ 47 5 46 true,fJ 48 .neq (.t 47) (.c (.int .u8 95)) 46 true,b6 49 46 48,oM 41 49] (m6 41 (sO [g0 2 false] .ret) .skip))))))) (i6 50 26))))
def amO:AC:=(sO [g0 2 false] (.seq (.seq (.ops ([oM 6 0,oR 7 (.oz (.t 6)),oC 8 224 [(.t 7),(d5 1),(d5 24)],a6 9 8,oM 10 9]++Ro)) (m6 22 (sO [g0 2 false] .ret) .skip)) (sO [oI 3 0] (.seq (sO [oM 23 0,⟨(some 24),(.n (.X4 (.t 23))),none⟩,oN 25 24,oI 26 0] (.block 0 (.loop Rq))) (sO [oM 51 3,j0 52 .gtr 51 0,oM 2 52] .ret)))))
theorem avW:aY Tryz.prog dc false 187 53 [(.tmp 2)] amO:=bf Tryz.func187
def KU:AC:=(sO [p1 21 .lss 20 19] (.seq (z1 21) (.seq (.block 1 (sO [oM 22 20,oX 23 1 18 20,oL 24 1 23,oM 8 22,oM 9 24] (.par [(oM 25 0,false),(oM 26 9,false),(oM 27 2,false),(u5 28 239 27,false),(oM 29 0,false),(oM 30 1,false),(oX 31 5 29 30,false),(oA 32 5 31,false),(oM 33 8,false),(oC 34 240 [(.t 32),(.t 33)],false),(⟨(some 35),(.d (.app 1 16 (.t 28) (.t 34))),none⟩,true),(oM 36 3,false)] [oC 37 189 [(.t 25),(.t 26),(.t 35),(.t 36)]]))) (i6 38 20))))
def amP:AC:=(sO [oM 10 3,oM 11 1,oM 12 2,⟨(some 13),(.call (.t 10) [(.t 11),(.t 12)]),none⟩] (sO [oM 14 0,oM 15 1,oX 16 5 14 15,oF 17 4 16,oL 18 1 17,oN 19 18,oI 20 0] (.block 0 (.loop KU))))
theorem avX:aY Tryz.prog dc false 189 39 [] amP:=bf Tryz.func189
def amQ:AC:=(sO [c6 1 5 0,g0 2 false] (sO [oF 6 2 1,oL 7 1 6,u5 8 223 7,oM 5 8,oE 9 5 0,oE 10 5 1,⟨(some 3),(.d (.alloc zO)),none⟩,oS 7 3 9,oM 4 10] (sO [oF 11 0 1,oL 12 1 11,j0 13 .eql 12 2,oM 14 13,eH 15 2 1 14 true,dK 16 1 15 14 true,iW 17 241 [(.t 16)] 14 true,dh 18 (.not (.t 17)) 14 true,b6 19 14 18,oM 20 19,eH 21 0 1 20 false,dK 22 1 21 20 false,fJ 23 .eql (.t 22) (d5 3) 20 false,bJ 24 23 20 false,bJ 25 4 24 true,dh 26 (.not (.t 25)) 24 true,dh 27 (.pick (.t 24) (.t 26) (w6 false)) 20 false,y6 28 20 27,oM 2 28] .ret)))
theorem avY:aY Tryz.prog dc false 191 29 [(.tmp 2)] amQ:=bf Tryz.func191
def amR:AC:=(sO [c6 1 1 0,oR 2 (.aV (.c (.ak [] .nil)))] (sO [⟨(some 3),(.d (.alloc [(.ak [] .nil)])),none⟩] (sO [oL 4 1 1,oL 5 1 1,oN 6 5,j0 7 .sub 6 1,oR 8 (.Jb (.func 242) [] [(.t 1),(.t 3)]),oC 9 189 [(.t 4),(.t 7),(.c (.ak [] .nil)),(.t 8)]] (sO [oL 10 1 3,u5 11 243 10] (sO [oL 12 1 3,u5 13 244 12,oM 2 13] .ret)))))
theorem avZ:aY Tryz.prog dc false 193 14 [(.tmp 2)] amR:=bf Tryz.func193
def Rt:AC:=(sO [j0 6 .eql 4 0,oM 5 6] (m6 5 .skip (sO [j0 7 .eql 4 1,oM 5 7] (m6 5 .skip (sO [j0 8 .eql 4 2,oM 5 8] (m6 5 .skip (.ops [j0 9 .eql 4 20,oM 5 9])))))))
def Ru:AC:=(sO [j0 15 .eql 4 4,oM 14 15] (m6 14 .skip (.ops [j0 16 .eql 4 5,oM 14 16])))
def Rv:AC:=(sO [j0 19 .eql 4 6,oM 18 19] (m6 18 .skip (.ops [j0 20 .eql 4 12,oM 18 20])))
def Rw:AC:=(sO [j0 23 .eql 4 7,oM 22 23] (m6 22 .skip (sO [j0 24 .eql 4 8,oM 22 24] (m6 22 .skip (sO [j0 25 .eql 4 9,oM 22 25] (m6 22 .skip (.ops [j0 26 .eql 4 13,oM 22 26])))))))
def Rx:AC:=(sO [j0 29 .eql 4 10,oM 28 29] (m6 28 .skip (.ops [j0 30 .eql 4 11,oM 28 30])))
def Ry:AC:=(sO [j0 36 .eql 4 15,oM 35 36] (m6 35 .skip (sO [j0 37 .eql 4 25,oM 35 37] (m6 35 .skip (sO [j0 38 .eql 4 26,oM 35 38] (m6 35 .skip (sO [j0 39 .eql 4 27,oM 35 39] (m6 35 .skip (.ops [j0 40 .eql 4 28,oM 35 40])))))))))
def RA:AC:=(sO [j0 43 .eql 4 16,oM 42 43] (m6 42 .skip (.ops [j0 44 .eql 4 17,oM 42 44])))
def amS:AC:=(sO [⟨(some 2),(.d (.alloc [(.int .i64 0),(.int .i64 0),(.int .i64 0),(.int .i64 0)])),none⟩,g0 3 false] (.seq (sO [oM 4 0] (.block 0 (.seq Rt (m6 5 (sO [⟨(some 10),(.n (.iR [(.int .i64 0),(.int .i64 0),(.int .i64 0),(.int .i64 0)] [(0,(1,(d5 0))),(1,(1,(d5 0))),(2,(1,(d5 0))),(3,(1,(d5 0)))])),none⟩,oS 4 2 10,g0 3 false] .ret) (sO [j0 12 .eql 4 3,oM 11 12] (m6 11 (sO [⟨(some 13),(.n (.iR [(.int .i64 0),(.int .i64 0),(.int .i64 0),(.int .i64 0)] [(0,(1,(d5 0))),(1,(1,(d5 0))),(2,(1,(d5 1))),(3,(1,(d5 4)))])),none⟩,oS 4 2 13,g0 3 false] .ret) (.seq Ru (m6 14 (sO [⟨(some 17),(.n (.iR [(.int .i64 0),(.int .i64 0),(.int .i64 0),(.int .i64 0)] [(0,(1,(d5 0))),(1,(1,(d5 0))),(2,(1,(d5 0))),(3,(1,(d5 30)))])),none⟩,oS 4 2 17,g0 3 false] .ret) (.seq Rv (m6 18 (sO [⟨(some 21),(.n (.iR [(.int .i64 0),(.int .i64 0),(.int .i64 0),(.int .i64 0)] [(0,(1,(d5 1))),(1,(1,(d5 1))),(2,(1,(d5 2))),(3,(1,(d5 2)))])),none⟩,oS 4 2 21,g0 3 false] .ret) (.seq Rw (m6 22 (sO [⟨(some 27),(.n (.iR [(.int .i64 0),(.int .i64 0),(.int .i64 0),(.int .i64 0)] [(0,(1,(d5 1))),(1,(1,(d5 4))),(2,(1,(d5 1))),(3,(1,(d5 1)))])),none⟩,oS 4 2 27,g0 3 true] .ret) (.seq Rx (m6 28 (sO [⟨(some 31),(.n (.iR [(.int .i64 0),(.int .i64 0),(.int .i64 0),(.int .i64 0)] [(0,(1,(d5 1))),(1,(1,(d5 4))),(2,(1,(d5 1))),(3,(1,(d5 1)))])),none⟩,oS 4 2 31,g0 3 false] .ret) (sO [j0 33 .eql 4 14,oM 32 33] (m6 32 (sO [⟨(some 34),(.n (.iR [(.int .i64 0),(.int .i64 0),(.int .i64 0),(.int .i64 0)] [(0,(1,(d5 0))),(1,(1,(d5 0))),(2,(1,(d5 2))),(3,(1,(d5 5)))])),none⟩,oS 4 2 34,g0 3 false] .ret) (.seq Ry (m6 35 (sO [⟨(some 41),(.n (.iR [(.int .i64 0),(.int .i64 0),(.int .i64 0),(.int .i64 0)] [(0,(1,(d5 0))),(1,(1,(d5 0))),(2,(1,(d5 2))),(3,(1,(d5 2)))])),none⟩,oS 4 2 41,g0 3 false] .ret) (.seq RA (m6 42 (sO [⟨(some 45),(.n (.iR [(.int .i64 0),(.int .i64 0),(.int .i64 0),(.int .i64 0)] [(0,(1,(d5 1))),(1,(1,(d5 30))),(2,(1,(d5 0))),(3,(1,(d5 0)))])),none⟩,oS 4 2 45,g0 3 true] .ret) (sO [j0 47 .eql 4 18,oM 46 47] (m6 46 (sO [⟨(some 48),(.n (.iR [(.int .i64 0),(.int .i64 0),(.int .i64 0),(.int .i64 0)] [(0,(1,(d5 0))),(1,(1,(d5 0))),(2,(1,(d5 1))),(3,(1,(d5 1)))])),none⟩,oS 4 2 48,g0 3 false] .ret) (.seq (sO [j0 50 .eql 4 19,oM 49 50] (m6 49 .skip (.ops [j0 51 .eql 4 21,oM 49 51]))) (m6 49 (sO [⟨(some 52),(.n (.iR [(.int .i64 0),(.int .i64 0),(.int .i64 0),(.int .i64 0)] [(0,(1,(d5 0))),(1,(1,(d5 0))),(2,(1,(d5 3))),(3,(1,(d5 3)))])),none⟩,oS 4 2 52,g0 3 false] .ret) (sO [j0 54 .eql 4 22,oM 53 54] (m6 53 (sO [⟨(some 55),(.n (.iR [(.int .i64 0),(.int .i64 0),(.int .i64 0),(.int .i64 0)] [(0,(1,(d5 0))),(1,(1,(d5 0))),(2,(1,(d5 2))),(3,(1,(d5 30)))])),none⟩,oS 4 2 55,g0 3 false] .ret) (sO [j0 57 .eql 4 23,oM 56 57] (m6 56 (sO [⟨(some 58),(.n (.iR [(.int .i64 0),(.int .i64 0),(.int .i64 0),(.int .i64 0)] [(0,(1,(d5 1))),(1,(1,(d5 5))),(2,(1,(d5 2))),(3,(1,(d5 2)))])),none⟩,oS 4 2 58,g0 3 false] .ret) .skip)))))))))))))))))))))))))))) (sO [⟨(some 59),(.n (.iR [(.int .i64 0),(.int .i64 0),(.int .i64 0),(.int .i64 0)] [(0,(1,(d5 1))),(1,(1,(d5 4))),(2,(1,(d5 1))),(3,(1,(d5 1)))])),none⟩,oS 4 2 59,g0 3 false] .ret)))
theorem av0:aY Tryz.prog dc false 194 60 [(.cell 2 4 true),(.tmp 3)] amS:=bf Tryz.func194
def RB:AC:=(.seq (sO [oM 15 6,j0 16 .geq 15 0] (z1 16)) (.seq (.block 1 (.seq (sO [oM 19 0,oM 20 1,oX 21 5 19 20,oF 22 4 21,oL 23 1 22,oM 24 6,oX 25 1 23 24,oL 26 1 25,oM 27 5,j0 28 .sub 27 1,p1 29 .neq 26 28,oM 30 29,bJ 31 5 30 false,fJ 32 .lss (.t 31) (d5 1) 30 false,y6 33 30 32] (m6 33 (sO [g0 4 false] .ret) .skip)) (.ops [oM 34 0,oM 35 5,j0 36 .sub 35 1,oC 37 136 [(.t 34),(.t 36)],oM 5 37]))) (.ops [oM 17 6,j0 18 .sub 17 1,oM 6 18])))
def amT:AC:=(sO [g0 4 false] (sO [oM 7 1,oM 5 7] (.seq (sO [oM 8 0,oM 9 1,oX 10 5 8 9,oF 11 4 10,oL 12 1 11,oN 13 12,j0 14 .sub 13 1,oM 6 14] (.block 0 (.loop RB))) (sO [g0 4 true] .ret))))
theorem av1:aY Tryz.prog dc false 195 38 [(.tmp 4)] amT:=bf Tryz.func195
def RD:AC:=(.seq (sO [oM 7 3,oM 8 0,oR 9 (.oz (.t 8)),p1 10 .lss 7 9] (z1 10)) (.seq (.block 1 (sO [oM 13 0,oM 14 3,oR 15 (.vQ (.t 13) (.t 14)),oB 16 .eql (.t 15) (.c (.int .u8 34)),oM 17 16,bJ 18 0 17 false,bJ 19 3 17 false,dh 20 (.vQ (.t 18) (.t 19)) 17 false,fJ 21 .eql (.t 20) (.c (.int .u8 92)) 17 false,y6 22 17 21] (m6 22 (sO [g0 2 false] .ret) .skip))) (.ops [oM 11 3,j0 12 .add 11 1,oM 3 12])))
def amU:AC:=(sO [g0 2 false] (.seq (sO [oM 4 0,oC 5 245 [(.t 4),(d5 40)],a6 6 5] (m6 6 (sO [g0 2 false] .ret) .skip)) (.seq (sO [oI 3 0] (.block 0 (.loop RD))) (sO [g0 2 true] .ret))))
theorem av2:aY Tryz.prog dc false 196 23 [(.tmp 2)] amU:=bf Tryz.func196
def RF:AC:=(sO [oM 5 0,oR 6 (.oz (.t 5)),oC 7 29 [(.t 6),(d5 1),(d5 24)],a6 8 7,oM 9 8,iW 10 246 [] 9 false,bJ 11 0 9 false,iW 12 85 [(.t 10),(.t 11)] 9 false,y6 13 9 12] (m6 13 (sO [g0 2 false] .ret) .skip))
def RG:List aR:=[bJ 26 0 25 true,bJ 27 4 25 true,dh 28 (.vQ (.t 26) (.t 27)) 25 true,iW 29 248 [(.t 28)] 25 true,dh 30 (.not (.t 29)) 25 true,oR 31 (.pick (.t 25) (.t 30) (.c (.bool false))),oM 32 31,bJ 33 0 32 true,bJ 34 4 32 true,dh 35 (.vQ (.t 33) (.t 34)) 32 true,fJ 36 .neq (.t 35) (.c (.int .u8 95)) 32 true,oR 37 (.pick (.t 32) (.t 36) (.c (.bool false)))]
def RH:AC:=(.seq (sO [oM 14 4,oM 15 0,oR 16 (.oz (.t 15)),p1 17 .lss 14 16] (z1 17)) (.seq (.block 1 (.seq (.seq (.ops ([oM 20 0,oM 21 4,oR 22 (.vQ (.t 20) (.t 21)),u5 23 247 22,a6 24 23,oM 25 24]++RG)) (m6 37 (sO [g0 2 false] .ret) .skip)) (.ops [oM 38 3,oM 39 38,bJ 40 0 39 false,bJ 41 4 39 false,dh 42 (.vQ (.t 40) (.t 41)) 39 false,iW 43 247 [(.t 42)] 39 false,y6 44 39 43,oM 3 44]))) (.ops [oM 18 4,j0 19 .add 18 1,oM 4 19])))
def amV:AC:=(sO [g0 2 false] (.seq RF (sO [g0 3 false] (.seq (sO [oI 4 0] (.block 0 (.loop RH))) (sO [oM 45 3,oM 2 45] .ret)))))
theorem av3:aY Tryz.prog dc false 197 46 [(.tmp 2)] amV:=bf Tryz.func197
def RI:AC:=(.seq (sO [oM 5 4,oM 6 0,oN 7 6,p1 8 .lss 5 7] (z1 8)) (.seq (.block 1 (.seq (.par [(oM 11 0,false),(oM 12 4,false),(oX 13 5 11 12,false),(oA 14 5 13,false),(u5 15 249 14,false),(oM 16 15,false),(bJ 17 0 16 true,false),(bJ 18 4 16 true,false),(iW 19 113 [(.t 17),(.t 18)] 16 true,false),(bJ 20 0 16 true,false),(bJ 21 4 16 true,false),(dh 22 (.idx 5 (.t 20) (.t 21)) 16 true,false),(eH 23 2 22 16 true,false),(dK 24 1 23 16 true,false)] [iW 25 85 [(.t 19),(.t 24)] 16 true,dh 26 (.not (.t 25)) 16 true,b6 27 16 26]) (m6 27 (.ops [oM 28 3,oM 29 0,oM 30 4,oX 31 5 29 30,oF 32 2 31,oL 33 1 32,oC 34 250 [(.t 28),(.t 33)],oM 3 34]) .skip))) (.ops [oM 9 4,j0 10 .add 9 1,oM 4 10])))
def amW:AC:=(sO [oR 2 (.aV (.c (.ak [] .nil)))] (sO [oR 3 (.aV (.c (.ak [] .nil)))] (.seq (sO [oI 4 0] (.block 0 (.loop RI))) (sO [oM 35 3,oM 2 35] .ret))))
theorem av4:aY Tryz.prog dc false 198 36 [(.tmp 2)] amW:=bf Tryz.func198
def RJ:List aR:=[eH 22 2 3 21 true,dK 23 1 22 21 true,fJ 24 .eql (.t 23) (.c (.str [45,46])) 21 true,oR 25 (.pick (.t 21) (.t 24) (.c (.bool false)))]
def RL:List aR:=[dh 39 (.d9 1 [(.c (.str [43])),(.c (.str [45])),(.c (.str [42]))]) 38 true,eH 40 2 3 38 true,dK 41 1 40 38 true,iW 42 100 [(.t 39),(.t 41)] 38 true,oR 43 (.pick (.t 38) (.t 42) (.c (.bool false)))]
def RN:List aR:=[eH 76 3 5 75 false,dK 77 1 76 75 false,oR 78 (.pick (.t 75) (.c (.bool true)) (.t 77))]
def amX:AC:=(sO [⟨(some 2),(.d (.alloc [(.ak [] .nil),(.ak [] .nil),(.int .i64 0),(.bool false)])),none⟩] (sO [oM 6 0,oM 7 0,oN 8 7,j0 9 .sub 8 1,oX 10 5 6 9,oA 11 5 10,⟨(some 3),(.d (.alloc zN)),none⟩,oS 5 3 11] (.seq (sO [oF 12 0 3,oL 13 1 12,j0 14 .eql 13 0] (m6 14 (sO [oF 15 1 3,oL 16 1 15,oR 17 (.build [(.ak [] .nil),(.ak [] .nil),(.int .i64 0),(.bool false)] [(2,(1,(.t 16)))]),oS 4 2 17] .ret) .skip)) (.seq (.seq (.ops ([oF 18 0 3,oL 19 1 18,j0 20 .eql 19 3,oM 21 20]++RJ)) (m6 25 (sO [oR 26 (.build [(.ak [] .nil),(.ak [] .nil),(.int .i64 0),(.bool false)] []),oM 27 0,oF 28 4 3,oL 29 1 28,oR 30 (.idx 1 (.t 29) (d5 0)),oL 31 1 30,oC 32 122 [(.t 27),(.t 31)],u5 33 201 32,oC 34 144 [(.t 26),(.t 33),(d5 (-1))],oS 4 2 34] .ret) .skip)) (.seq (.seq (.ops ([oF 35 0 3,oL 36 1 35,j0 37 .eql 36 3,oM 38 37]++RL)) (m6 43 (.seq (.sD [0,0,2,6,14,31,63,0,0,256,768,1792,4095,8191,0,0,65535,131071] [(oM 44 0,false),(oF 45 4 3,false),(oL 46 1 45,false),(oR 47 (.idx 1 (.t 46) (d5 0)),false),(oL 48 1 47,false),(oC 49 122 [(.t 44),(.t 48)],false),(u5 50 201 49,false),(oM 51 0,false),(oF 52 4 3,false),(oL 53 1 52,false),(oR 54 (.idx 1 (.t 53) (d5 1)),false),(oL 55 1 54,false),(oC 56 122 [(.t 51),(.t 55)],false),(u5 57 201 56,false),(⟨(some 4),(.d (.alloc [(.ak [] .nil),(.ak [] .nil),(.int .i64 0),(.bool false)])),none⟩,true),(⟨(some 5),(.d (.alloc [(.ak [] .nil),(.ak [] .nil),(.int .i64 0),(.bool false)])),none⟩,true)] [oS 4 4 50,oS 4 5 57]) (sO [oF 58 2 3,oL 59 1 58] (.block 0 (sO [oB 61 .eql (.t 59) (.c (.str [43])),oM 60 61] (m6 60 (sO [oA 62 4 4,oA 63 4 5,oC 64 144 [(.t 62),(.t 63),(d5 1)],oS 4 2 64] .ret) (sO [oB 66 .eql (.t 59) (.c (.str [45])),oM 65 66] (m6 65 (sO [oA 67 4 4,oA 68 4 5,oC 69 144 [(.t 67),(.t 68),(d5 (-1))],oS 4 2 69] .ret) (sO [oB 71 .eql (.t 59) (.c (.str [42])),oM 70 71] (m6 70 (.block 1 (.seq (.ops ([oF 73 3 4,oL 74 1 73,oM 75 74]++RN++[oM 72 78])) (m6 72 (sO [oR 79 (.build [(.ak [] .nil),(.ak [] .nil),(.int .i64 0),(.bool false)] [(3,(1,(w6 true)))]),oS 4 2 79] .ret) (sO [oA 81 4 4,u5 82 147 81,oM 80 82] (m6 80 (sO [oR 83 (.build [(.ak [] .nil),(.ak [] .nil),(.int .i64 0),(.bool false)] []),oA 84 4 5,oF 85 2 4,oL 86 1 85,oC 87 144 [(.t 83),(.t 84),(.t 86)],oS 4 2 87] .ret) (sO [oA 89 4 5,u5 90 147 89,oM 88 90] (m6 88 (sO [oR 91 (.build [(.ak [] .nil),(.ak [] .nil),(.int .i64 0),(.bool false)] []),oA 92 4 4,oF 93 2 5,oL 94 1 93,oC 95 144 [(.t 91),(.t 92),(.t 94)],oS 4 2 95] .ret) .skip))))))) .skip))))))))) .skip)) (sO [oM 96 0,oR 97 (.d9 1 [(.t 96)]),oR 98 (.d9 1 [(d5 1)]),oR 99 (.build [(.ak [] .nil),(.ak [] .nil),(.int .i64 0),(.bool false)] [(0,(1,(.t 97))),(1,(1,(.t 98)))]),oS 4 2 99] .ret))))))
theorem av5:aY Tryz.prog dc false 201 100 [(.cell 2 4 true)] amX:=bf Tryz.func201
def amY:AC:=(sO [g0 3 false] (sO [oM 4 0,oL 5 1 1,oC 6 95 [(.t 4),(.t 5)],oM 3 6] .ret))
theorem av6:aY Tryz.prog dc false 203 7 [(.tmp 3)] amY:=bf Tryz.func203
def amZ:AC:=(sO [g0 2 false] (sO [oM 3 0,j0 4 .neq 3 0,oM 2 4] .ret))
theorem av7:aY Tryz.prog dc false 204 5 [(.tmp 2)] amZ:=bf Tryz.func204
def am0:AC:=(sO [g0 4 false] (sO [oM 5 0,oM 6 1,oC 7 254 [(.t 5),(.t 6),(.c (.fn (.func 255) [] []))],oM 4 7] .ret))
theorem av8:aY Tryz.prog dc false 215 8 [(.tmp 4)] am0:=bf Tryz.func215
def am1:AC:=(sO [oR 2 (.aV (.c (.ak [] .nil)))] (sO [oM 4 0,u5 5 188 4,oM 6 0,u5 7 193 6,oR 8 (.build [(.ak [] .nil),(.ak [] .nil),(.int .i64 0)] [(0,(1,(.t 5))),(1,(1,(.t 7)))]),c6 9 3 8,oM 3 9] (sO [oM 10 3,oM 11 0,oN 12 11,j0 13 .sub 12 1,oC 14 258 [(.t 10),(.t 13),(.c (.ak [] .nil))]] (sO [oM 15 3,oR 16 (.lF (.t 15)),oF 17 0 16,oL 18 1 17,oM 2 18] .ret))))
theorem av9:aY Tryz.prog dc false 216 19 [(.tmp 2)] am1:=bf Tryz.func216
def RO:AC:=(sO [oA 21 5 9,u5 22 249 21] (m6 22 (.ops [oM 23 2,oM 24 3,oF 25 2 9,oL 26 1 25,oC 27 262 [(.t 23),(.t 24),(.t 26)],oF 28 2 9,oS 1 28 27]) .skip))
def RP:List aR:=[eH 35 0 10 34 false,dK 36 1 35 34 false,fJ 37 .eql (.t 36) (.c (.int .i64 17)) 34 false,oR 38 (.pick (.t 34) (.c (.bool true)) (.t 37))]
def F7:AC:=(.seq (sO [oM 39 12,oF 40 3 10,oL 41 1 40,oN 42 41,p1 43 .lss 39 42] (z1 43)) (.seq (.block 1 (sO [oM 46 11] (m6 46 (.par [(oF 47 3 9,false),(oL 48 1 47,false),(oF 49 3 10,false),(oL 50 1 49,false),(oM 51 12,false),(oX 52 1 50 51,false),(oL 53 1 52,false),(oR 54 (.d9 1 [(.t 53)]),false)] [⟨(some 55),(.d (.app 1 16 (.t 48) (.t 54))),none⟩,oF 56 3 9,oS 1 56 55]) (.par [(oF 57 3 9,false),(oL 58 1 57,false),(oM 59 0,false),(u5 60 263 59,true),(oR 61 (.d9 1 [(.t 60)]),false)] [⟨(some 62),(.d (.app 1 16 (.t 58) (.t 61))),none⟩,oF 63 3 9,oS 1 63 62])))) (.ops [oM 44 12,j0 45 .add 44 1,oM 12 45])))
def KV:AC:=(.seq (sO [oM 78 18,oM 79 15,oN 80 79,p1 81 .lss 78 80] (m6 81 .skip (.exit 4))) (.seq (.block 5 (.par [(oM 84 16,false),(oM 85 15,false),(oM 86 18,false),(oX 87 1 85 86,false),(oL 88 1 87,false),(oR 89 (.d9 1 [(.t 88)]),false),(⟨(some 90),(.d (.app 1 16 (.t 84) (.t 89))),none⟩,true),(oM 91 17,false),(oF 92 3 9,false),(oL 93 1 92,false),(oF 94 3 10,false),(oL 95 1 94,false),(oM 96 15,false),(oM 97 18,false),(oX 98 1 96 97,false),(oL 99 1 98,false),(oC 100 114 [(.t 95),(.t 99)],false),(oX 101 1 93 100,false),(oL 102 1 101,false),(oR 103 (.d9 1 [(.t 102)]),false)] [⟨(some 104),(.d (.app 1 16 (.t 91) (.t 103))),none⟩,oM 16 90,oM 17 104])) (.ops [oM 82 18,j0 83 .add 82 1,oM 18 83])))
def F8:AC:=(.seq (sO [oM 64 14,oF 65 4 10,oL 66 1 65,oN 67 66,p1 68 .lss 64 67] (m6 68 .skip (.exit 2))) (.seq (.block 3 (sO [oA 71 5 10,oM 72 14,oC 73 174 [(.t 71),(.t 72)],oM 15 73] (sO [oM 74 2,u5 75 62 74,oM 76 3,u5 77 62 76,oM 16 75,oM 17 77] (.seq (sO [oI 18 0] (.block 4 (.loop KV))) (.ops [oM 105 13,oM 106 0,oM 107 1,oM 108 14,oC 109 73 [(.t 107),(.t 108)],oM 110 16,oM 111 17,oC 112 222 [(.t 106),(.t 109),(.t 110),(.t 111)],oR 113 (.d9 1 [(.t 112)]),⟨(some 114),(.d (.app 1 24 (.t 105) (.t 113))),none⟩,oM 13 114]))))) (.ops [oM 69 14,j0 70 .add 69 1,oM 14 70])))
def am2:AC:=(sO [oR 8 (.aV (.c (.ak [] .nil)))] (sO [oM 19 1,u5 20 72 19,⟨(some 9),(.d (.alloc zN)),none⟩,oS 5 9 20] (.seq RO (sO [oA 29 5 9,⟨(some 10),(.d (.alloc zN)),none⟩,oS 5 10 29] (sO [oF 30 3 9,⟨none,(.d (.store 1 (.t 30) (.c (.ak [] .nil)))),none⟩] (.seq (.ops ([oF 31 0 10,oL 32 1 31,j0 33 .eql 32 16,oM 34 33]++RP++[oM 11 38])) (.seq (sO [oI 12 0] (.block 0 (.loop F7))) (sO [oR 13 (.aV (.c (.ak [] .nil)))] (.seq (sO [oI 14 0] (.block 2 (.loop F8))) (sO [oA 115 5 9,oM 116 13,oC 117 118 [(.t 115),(.t 116)],oM 8 117] .ret))))))))))
theorem awc:aY Tryz.prog dc false 222 118 [(.tmp 8)] am2:=bf Tryz.func222
def am3:AC:=(sO [c6 1 1 0,⟨(some 2),(.d (.alloc zO)),none⟩,g0 3 false] (sO [oC 6 264 [],oM 4 6] (sO [oM 7 4,oR 8 (.Jb (.func 266) [] [(.t 1)]),oC 9 265 [(.t 7),(.t 8)],oM 5 9] (.seq (sO [oM 10 5,j0 11 .lss 10 0] (m6 11 (sO [oR 12 (.build [(.str []),(.int .i64 0),(.int .i64 0),(.int .i64 0),(.bool false),(.int .i64 0),(.int .i64 0)] []),oS 7 2 12,g0 3 false] .ret) .skip)) (sO [oM 13 4,oM 14 5,oX 15 7 13 14,oA 16 7 15,oS 7 2 16,g0 3 true] .ret)))))
theorem awd:aY Tryz.prog dc false 223 17 [(.cell 2 7 true),(.tmp 3)] am3:=bf Tryz.func223
def am4:AC:=(sO [g0 6 false] (sO [oM 7 1,oM 8 0,p1 9 .leq 7 8,oM 10 9,bJ 11 0 10 true,bJ 12 2 10 true,fJ 13 .leq (.t 11) (.t 12) 10 true,b6 14 10 13,oM 6 14] .ret))
theorem awe:aY Tryz.prog dc false 224 15 [(.tmp 6)] am4:=bf Tryz.func224
def RQ:AC:=(sO [j0 16 .eql 11 1,oM 15 16] (m6 15 .skip (.ops [j0 17 .eql 11 2,oM 15 17])))
def RS:AC:=(sO [j0 39 .eql 11 4,oM 38 39] (m6 38 .skip (.ops [j0 40 .eql 11 5,oM 38 40])))
def RU:AC:=(sO [j0 44 .eql 11 6,oM 43 44] (m6 43 .skip (.ops [j0 45 .eql 11 12,oM 43 45])))
def RX:AC:=(sO [j0 49 .eql 11 7,oM 48 49] (m6 48 .skip (sO [j0 50 .eql 11 8,oM 48 50] (m6 48 .skip (sO [j0 51 .eql 11 9,oM 48 51] (m6 48 .skip (.ops [j0 52 .eql 11 13,oM 48 52])))))))
def RY:AC:=(sO [j0 61 .eql 11 10,oM 60 61] (m6 60 .skip (.ops [j0 62 .eql 11 11,oM 60 62])))
def RZ:AC:=(sO [j0 71 .eql 11 16,oM 70 71] (m6 70 .skip (.ops [j0 72 .eql 11 17,oM 70 72])))
def R3:AC:=(sO [j0 83 .eql 11 19,oM 82 83] (m6 82 .skip (.ops [j0 84 .eql 11 21,oM 82 84])))
def am5:AC:=(sO [c6 1 5 0,⟨(some 2),(.d (.alloc [(.int .i64 0),(.int .i64 0),(.int .i64 0),(.int .i64 0),(.bool false),(.bool false)])),none⟩] (sO [oR 3 (.aV (.c (.fn (.func 267) [] [])))] (sO [oF 7 3 1,oL 8 1 7,oN 9 8,oM 4 9] (.seq (sO [oF 10 0 1,oL 11 1 10] (.block 0 (sO [j0 13 .eql 11 0,oM 12 13] (m6 12 (sO [oR 14 (.build [(.int .i64 0),(.int .i64 0),(.int .i64 0),(.int .i64 0),(.bool false),(.bool false)] [(5,(1,(w6 true)))]),oS 6 2 14] .ret) (.seq RQ (m6 15 (sO [oR 18 (.build [(.int .i64 0),(.int .i64 0),(.int .i64 0),(.int .i64 0),(.bool false),(.bool false)] [(4,(1,(w6 true)))]),oS 6 2 18] .ret) (sO [j0 20 .eql 11 3,oM 19 20] (m6 19 (.seq (sO [oF 22 2 1,oL 23 1 22,u5 24 223 23,oM 21 24,oE 25 21 0,oE 26 21 1,⟨(some 5),(.d (.alloc zO)),none⟩,oS 7 5 25,oM 6 26] (sO [oM 27 6] (m6 27 (sO [oF 28 4 1,oL 29 1 28,oN 30 29,oF 31 4 1,oL 32 1 31,oN 33 32,⟨(some 34),(.n (.iR [(.int .i64 0),(.int .i64 0)] [(0,(1,(.t 30))),(1,(1,(.t 33)))])),none⟩,oR 35 (.build [(.int .i64 0),(.int .i64 0),(.int .i64 0),(.int .i64 0),(.bool false),(.bool false)] [(2,(2,(.t 34))),(4,(1,(w6 true)))]),oS 6 2 35] .ret) .skip))) (sO [⟨(some 36),(.n (.iR [(.int .i64 0),(.int .i64 0)] [(0,(1,(d5 1))),(1,(1,(d5 4)))])),none⟩,oR 37 (.build [(.int .i64 0),(.int .i64 0),(.int .i64 0),(.int .i64 0),(.bool false),(.bool false)] [(2,(2,(.t 36))),(4,(1,(w6 true)))]),oS 6 2 37] .ret)) (.seq RS (m6 38 (sO [⟨(some 41),(.n (.iR [(.int .i64 0),(.int .i64 0)] [(0,(1,(d5 0))),(1,(1,(d5 30)))])),none⟩,oR 42 (.build [(.int .i64 0),(.int .i64 0),(.int .i64 0),(.int .i64 0),(.bool false),(.bool false)] [(2,(2,(.t 41)))]),oS 6 2 42] .ret) (.seq RU (m6 43 (sO [oM 46 3,⟨(some 47),(.call (.t 46) [(d5 1),(d5 2)]),none⟩,oS 6 2 47] .ret) (.seq RX (m6 48 (sO [⟨(some 53),(.n (.iR [(.int .i64 0),(.int .i64 0)] [(0,(1,(d5 1))),(1,(1,(d5 4)))])),none⟩,oM 54 4,j0 55 .add 54 1,oM 56 4,j0 57 .add 56 1,⟨(some 58),(.n (.iR [(.int .i64 0),(.int .i64 0)] [(0,(1,(.t 55))),(1,(1,(.t 57)))])),none⟩,oR 59 (.build [(.int .i64 0),(.int .i64 0),(.int .i64 0),(.int .i64 0),(.bool false),(.bool false)] [(0,(2,(.t 53))),(2,(2,(.t 58)))]),oS 6 2 59] .ret) (.seq RY (m6 60 (sO [⟨(some 63),(.n (.iR [(.int .i64 0),(.int .i64 0)] [(0,(1,(d5 1))),(1,(1,(d5 4)))])),none⟩,⟨(some 64),(.n (.iR [(.int .i64 0),(.int .i64 0)] [(0,(1,(d5 1))),(1,(1,(d5 1)))])),none⟩,oR 65 (.build [(.int .i64 0),(.int .i64 0),(.int .i64 0),(.int .i64 0),(.bool false),(.bool false)] [(0,(2,(.t 63))),(2,(2,(.t 64)))]),oS 6 2 65] .ret) (sO [j0 67 .eql 11 14,oM 66 67] (m6 66 (sO [⟨(some 68),(.n (.iR [(.int .i64 0),(.int .i64 0)] [(0,(1,(d5 2))),(1,(1,(d5 5)))])),none⟩,oR 69 (.build [(.int .i64 0),(.int .i64 0),(.int .i64 0),(.int .i64 0),(.bool false),(.bool false)] [(2,(2,(.t 68)))]),oS 6 2 69] .ret) (.seq RZ (m6 70 (sO [⟨(some 73),(.n (.iR [(.int .i64 0),(.int .i64 0)] [(0,(1,(d5 1))),(1,(1,(d5 30)))])),none⟩,oM 74 4,oM 75 4,⟨(some 76),(.n (.iR [(.int .i64 0),(.int .i64 0)] [(0,(1,(.t 74))),(1,(1,(.t 75)))])),none⟩,oR 77 (.build [(.int .i64 0),(.int .i64 0),(.int .i64 0),(.int .i64 0),(.bool false),(.bool false)] [(0,(2,(.t 73))),(2,(2,(.t 76)))]),oS 6 2 77] .ret) (sO [j0 79 .eql 11 18,oM 78 79] (m6 78 (sO [⟨(some 80),(.n (.iR [(.int .i64 0),(.int .i64 0)] [(0,(1,(d5 1))),(1,(1,(d5 1)))])),none⟩,oR 81 (.build [(.int .i64 0),(.int .i64 0),(.int .i64 0),(.int .i64 0),(.bool false),(.bool false)] [(2,(2,(.t 80))),(4,(1,(w6 true)))]),oS 6 2 81] .ret) (.seq R3 (m6 82 (sO [oM 85 3,⟨(some 86),(.call (.t 85) [(d5 0),(d5 3)]),none⟩,oS 6 2 86] .ret) (sO [j0 88 .eql 11 20,oM 87 88] (m6 87 (sO [oR 89 (.build [(.int .i64 0),(.int .i64 0),(.int .i64 0),(.int .i64 0),(.bool false),(.bool false)] []),oS 6 2 89] .ret) (sO [j0 91 .eql 11 22,oM 90 91] (m6 90 (sO [⟨(some 92),(.n (.iR [(.int .i64 0),(.int .i64 0)] [(0,(1,(d5 2))),(1,(1,(d5 30)))])),none⟩,oR 93 (.build [(.int .i64 0),(.int .i64 0),(.int .i64 0),(.int .i64 0),(.bool false),(.bool false)] [(2,(2,(.t 92)))]),oS 6 2 93] .ret) (sO [j0 95 .eql 11 23,oM 94 95] (m6 94 (sO [⟨(some 96),(.n (.iR [(.int .i64 0),(.int .i64 0)] [(0,(1,(d5 1))),(1,(1,(d5 5)))])),none⟩,⟨(some 97),(.n (.iR [(.int .i64 0),(.int .i64 0)] [(0,(1,(d5 2))),(1,(1,(d5 2)))])),none⟩,oR 98 (.build [(.int .i64 0),(.int .i64 0),(.int .i64 0),(.int .i64 0),(.bool false),(.bool false)] [(0,(2,(.t 96))),(2,(2,(.t 97))),(5,(1,(w6 true)))]),oS 6 2 98] .ret) (sO [j0 100 .eql 11 24,oM 99 100] (m6 99 (sO [⟨(some 101),(.n (.iR [(.int .i64 0),(.int .i64 0)] [(0,(1,(d5 1))),(1,(1,(d5 4)))])),none⟩,⟨(some 102),(.n (.iR [(.int .i64 0),(.int .i64 0)] [(0,(1,(d5 1))),(1,(1,(d5 1)))])),none⟩,oR 103 (.build [(.int .i64 0),(.int .i64 0),(.int .i64 0),(.int .i64 0),(.bool false),(.bool false)] [(0,(2,(.t 101))),(2,(2,(.t 102)))]),oS 6 2 103] .ret) .skip)))))))))))))))))))))))))))))))) (sO [oM 104 3,⟨(some 105),(.call (.t 104) [(d5 0),(d5 2)]),none⟩,oS 6 2 105] .ret)))))
theorem awf:aY Tryz.prog dc false 226 106 [(.cell 2 6 true)] am5:=bf Tryz.func226
def am6:AC:=(sO [c6 1 1 0,oR 2 (.aV (.c .jH))] (sO [oR 3 (.Jb (.func 268) [] [(.t 1)]),oM 2 3] .ret))
theorem awg:aY Tryz.prog dc false 227 4 [(.tmp 2)] am6:=bf Tryz.func227
def am7:AC:=(sO [g0 2 false] (sO [oR 3 (.aV (.c (.fn (.func 269) [] [])))] (sO [oM 4 0,oR 5 (.oz (.t 4)),j0 6 .leq 5 40,oM 7 6,bJ 8 0 7 true,bJ 9 3 7 true,iW 10 270 [(.t 8),(.t 9)] 7 true,dh 11 (.not (.t 10)) 7 true,b6 12 7 11,oM 2 12] .ret)))
theorem awh:aY Tryz.prog dc false 228 13 [(.tmp 2)] am7:=bf Tryz.func228
def R4:List aR:=[eH 25 2 1 24 false,dK 26 1 25 24 false,iW 27 241 [(.t 26)] 24 false,dh 28 (.not (.t 27)) 24 false,bJ 29 28 24 false,eH 30 2 1 29 true,dK 31 1 30 29 true,iW 32 272 [(.t 31)] 29 true,dh 33 (.not (.t 32)) 29 true,dh 34 (.pick (.t 29) (.t 33) (.c (.bool false))) 24 false,oR 35 (.pick (.t 24) (.c (.bool true)) (.t 34))]
def R5:List aR:=[bJ 40 5 39 false,dh 41 (.not (.t 40)) 39 false,bJ 42 41 39 false,eH 43 2 1 42 true,dK 44 1 43 42 true,iW 45 272 [(.t 44)] 42 true,dh 46 (.not (.t 45)) 42 true,dh 47 (.pick (.t 42) (.t 46) (.c (.bool false))) 39 false,oR 48 (.pick (.t 39) (.c (.bool true)) (.t 47))]
def R6:List aR:=[eH 51 4 1 50 true,dK 52 1 51 50 true,dh 53 (.len (.t 52)) 50 true,eH 54 5 4 50 true,dK 55 1 54 50 true,eH 56 6 4 50 true,dK 57 1 56 50 true,iW 58 224 [(.t 53),(.t 55),(.t 57)] 50 true,dh 59 (.not (.t 58)) 50 true,oR 60 (.pick (.t 50) (.t 59) (.c (.bool false)))]
def R7:List aR:=[eH 65 2 1 64 false,dK 66 1 65 64 false,iW 67 187 [(.t 66)] 64 false,dh 68 (.not (.t 67)) 64 false,oR 69 (.pick (.t 64) (.c (.bool true)) (.t 68))]
def R8:AC:=(sO [oF 19 0 1,oL 20 1 19] (.block 0 (sO [j0 22 .eql 20 2,oM 21 22] (m6 21 (.ops ([oM 23 3,oM 24 23]++R4++[oM 3 35])) (sO [j0 37 .eql 20 3,oM 36 37] (m6 36 (.seq (.ops ([oM 38 3,oM 39 38]++R5++[oM 3 48])) (.ops ([oM 49 5,oM 50 49]++R6++[oM 6 60]))) (sO [j0 62 .eql 20 18,oM 61 62] (m6 61 (.ops ([oM 63 3,oM 64 63]++R7++[oM 3 69])) .skip))))))))
def R9:AC:=(sO [p1 74 .lss 73 72] (.seq (m6 74 .skip (.exit 1)) (.seq (.block 2 (sO [oM 75 73,oX 76 1 71 73,oL 77 1 76,oM 8 75,oM 9 77] (.ops [oM 78 7,oM 79 78,eH 80 3 1 79 false,dK 81 1 80 79 false,bJ 82 8 79 false,dh 83 (.slc 1 (.t 81) none (some (.t 82)) none) 79 false,bJ 84 9 79 false,iW 85 100 [(.t 83),(.t 84)] 79 false,y6 86 79 85,oM 7 86]))) (i6 87 73))))
def am8:AC:=(sO [c6 1 5 0,oI 2 0] (sO [oF 10 3 1,oL 11 1 10,oC 12 232 [(.t 11),(.c (.fn (.func 271) [] []))],oM 3 12] (sO [oF 14 2 1,oL 15 1 14,u5 16 223 15,oM 13 16,oE 17 13 0,oE 18 13 1,⟨(some 4),(.d (.alloc zO)),none⟩,oS 7 4 17,oM 5 18] (sO [g0 6 false] (.seq R8 (sO [g0 7 false] (.seq (sO [oF 70 3 1,oL 71 1 70,oN 72 71,oI 73 0] (.block 1 (.loop R9))) (sO [oM 88 3,oC 89 176 [(.t 88),(d5 7)],oM 90 6,oC 91 176 [(.t 90),(d5 17)],oM 92 7,oC 93 176 [(.t 92),(d5 12)],oR 94 (.d9 1 [(.t 89),(.t 91),(.t 93)]),u5 95 175 94,oM 2 95] .ret))))))))
theorem awi:aY Tryz.prog dc false 229 96 [(.tmp 2)] am8:=bf Tryz.func229
def aaQ:AC:=(sO [oM 9 1,j0 10 .lss 9 0] (m6 10 (.ops [oR 11 (.Qk 9 (.c (.str [99,97,110,110,111,116,32,98,101,32,110,101,103,97,116,105,118,101]))),⟨none,.bad,none⟩]) .skip))
def aaR:AC:=(sO [oM 21 5,oB 22 .gtr (.t 21) (.c (.int .u64 0)),oM 23 22,bJ 24 6 23 false,fJ 25 .gtr (.t 24) (.c (.int .u64 9223372036854775807)) 23 false,y6 26 23 25] (m6 26 (.ops [oR 27 (.Qk 9 (.c (.str [116,104,101,32,114,101,115,117,108,116,32,111,102,32,40,108,101,110,40,120,41,32,42,32,99,111,117,110,116,41,32,111,118,101,114,102,108,111,119,115]))),⟨none,.bad,none⟩]) .skip))
def KW:AC:=(.seq (sO [oM 34 8,oM 35 7,oN 36 35,p1 37 .lss 34 36] (z1 37)) (.block 1 (.par [(oM 38 8,false),(oM 39 7,false),(oM 40 8,false),(oR 41 (.slc 1 (.t 39) (some (.t 40)) none none),false),(oM 42 7,false),(oM 43 8,false),(oR 44 (.slc 1 (.t 42) none (some (.t 43)) none),false),(⟨(some 45),(.n (.copy 1 (.t 41) (.t 44))),none⟩,true)] [p1 46 .add 38 45,oM 8 46])))
def am9:AC:=(sO [oR 4 (.aV (.c (.ak [] .nil)))] (.seq aaQ (sO [oM 13 0,oN 14 13,oR 15 (.conv .u64 (.t 14)),oM 16 1,oR 17 (.conv .u64 (.t 16)),oC 18 273 [(.t 15),(.t 17)],oM 12 18,oE 19 12 0,oE 20 12 1,oM 5 19,oM 6 20] (.seq aaR (sO [oM 28 6,oR 29 (.conv .i64 (.t 28)),⟨(some 30),(.d (.vR 1 8 [(.int .i64 0)] (.t 29) (.t 29))),none⟩,oM 7 30] (sO [oM 31 7,oM 32 0,⟨(some 33),(.n (.copy 1 (.t 31) (.t 32))),none⟩,oM 8 33] (.seq (.block 0 (.loop KW)) (sO [oM 47 7,oM 4 47] .ret))))))))
theorem awj:aY Tryz.prog dc false 230 48 [(.tmp 4)] am9:=bf Tryz.func230
def ana:AC:=(sO [g0 4 false] (sO [oM 5 0,oM 6 1,oC 7 274 [(.t 5),(.t 6)],j0 8 .geq 7 0,oM 4 8] .ret))
theorem awk:aY Tryz.prog dc false 232 9 [(.tmp 4)] ana:=bf Tryz.func232
def anb:AC:=(sO [g0 4 false] (sO [oM 5 0,oM 6 1,oC 7 277 [(.t 5),(.t 6)],oM 4 7] .ret))
theorem awl:aY Tryz.prog dc false 236 8 [(.tmp 4)] anb:=bf Tryz.func236
def anc:AC:=(sO [oR 0 (.aV (.c (.ak [] .nil)))] (sO [oC 1 278 [(.c (.str [65,83,83,85,77,69,32,65,83,83,85,77,80,84,73,79,78,32,65,88,73,79,77,32,66,89,32,67,65,83,69,32,67,72,79,79,83,69,32,67,79,78,83,84,65,78,84,32,67,79,78,83,84,65,78,84,83,32,68,69,70,32,68,69,70,73,78,69,32,68,69,70,83,32,68,79,77,65,73,78,32,69,76,83,69,32,69,78,65,66,76,69,68,32,69,88,67,69,80,84,32,69,88,84,69,78,68,83,32,70,65,76,83,69,32,72,65,86,69,32,72,73,68,69,32,73,70,32,73,78,32,73,78,83,84,65,78,67,69,32,76,65,77,66,68,65,32,76,69,77,77,65,32,76,69,84,32,76,79,67,65,76,32,77,79,68,85,76,69,32,78,69,87,32,79,66,86,73,79,85,83,32,79,77,73,84,84,69,68,32,79,84,72,69,82,32,80,73,67,75,32,80,82,79,79,70,32,80,82,79,80,79,83,73,84,73,79,78,32,80,82,79,86,69,32,81,69,68,32,82,69,67,85,82,83,73,86,69,32,83,85,66,83,69,84,32,83,85,70,70,73,67,69,83,32,84,65,75,69,32,84,72,69,78,32,84,72,69,79,82,69,77,32,84,82,85,69,32,85,78,67,72,65,78,71,69,68,32,85,78,73,79,78,32,85,83,69,32,86,65,82,73,65,66,76,69,32,86,65,82,73,65,66,76,69,83,32,87,73,84,72,32,87,73,84,78,69,83,83,32,66,79,79,76,69,65,78,32,83,84,82,73,78,71]))],oM 0 1] .ret))
theorem awm:aY Tryz.prog dc false 237 2 [(.tmp 0)] anc:=bf Tryz.func237
def ane:AC:=(sO [oR 2 (.aV (.c (.ak [] .nil)))] (.seq (sO [oM 3 0,oR 4 (.bin .eql .sl (.t 3) (.c (.ak [] .nil)))] (m6 4 (sO [oR 2 (.aV (.c (.ak [] .nil)))] .ret) .skip)) (sO [oR 5 (.d9 5 []),oM 6 0,⟨(some 7),(.n (.app 5 80 (.t 5) (.t 6))),none⟩,oM 2 7] .ret)))
theorem awn:aY Tryz.prog dc true 238 8 [(.tmp 2)] ane:=bf Tryz.func238
def anf:AC:=(sO [oR 2 (.aV (.c (.ak [] .nil)))] (sO [oM 3 0,oM 4 0,oN 5 4,oM 6 0,oN 7 6,oR 8 (.slc 1 (.t 3) none (some (.t 5)) (some (.t 7))),oM 2 8] .ret))
theorem awo:aY Tryz.prog dc false 239 9 [(.tmp 2)] anf:=bf Tryz.func239
def Sb:AC:=(sO [j0 15 .eql 13 6,oM 14 15] (m6 14 .skip (sO [j0 16 .eql 13 12,oM 14 16] (m6 14 .skip (sO [j0 17 .eql 13 7,oM 14 17] (m6 14 .skip (sO [j0 18 .eql 13 8,oM 14 18] (m6 14 .skip (sO [j0 19 .eql 13 9,oM 14 19] (m6 14 .skip (sO [j0 20 .eql 13 13,oM 14 20] (m6 14 .skip (sO [j0 21 .eql 13 10,oM 14 21] (m6 14 .skip (sO [j0 22 .eql 13 11,oM 14 22] (m6 14 .skip (.ops [j0 23 .eql 13 24,oM 14 23])))))))))))))))))
def ZT:AC:=(sO [c6 2 5 0,oR 4 (.aV (.c (.ak [] .nil)))] (sO [oM 6 1,oF 7 4 2,oL 8 1 7,oN 9 8,j0 10 .sub 9 1,p1 11 .eql 6 10,oM 5 11] (.seq (sO [oF 12 0 2,oL 13 1 12] (.block 0 (.seq Sb (m6 14 (sO [oM 24 5] (m6 24 (sO [oF 25 3 2,oL 26 1 25,oM 4 26] .ret) .skip)) (sO [j0 28 .eql 13 23,oM 27 28] (m6 27 (.seq (.block 1 (sO [oM 30 5,oM 29 30] (m6 29 (sO [oF 31 3 2,oL 32 1 31,oR 33 (.slc 1 (.t 32) none (some (d5 1)) none),oM 4 33] .ret) (sO [oF 35 1 2,oL 36 1 35,j0 37 .eql 36 1,oM 34 37] (m6 34 (sO [oF 38 3 2,oL 39 1 38,oM 4 39] .ret) .skip))))) (sO [oF 40 3 2,oL 41 1 40,oR 42 (.slc 1 (.t 41) (some (d5 1)) none none),oM 4 42] .ret)) .skip)))))) (sO [oR 4 (.aV (.c (.ak [] .nil)))] .ret))))
theorem agc:aY Tryz.prog dc false 240 43 [(.tmp 4)] ZT:=bf Tryz.func240
def ang:AC:=(sO [g0 2 false] (sO [oM 3 0,oB 4 .eql (.t 3) (.c (.str [84,82,85,69])),oM 5 4,bJ 6 0 5 false,fJ 7 .eql (.t 6) (.c (.str [70,65,76,83,69])) 5 false,y6 8 5 7,oM 9 8,bJ 10 0 9 false,fJ 11 .eql (.t 10) (.c (.str [66,79,79,76,69,65,78])) 9 false,y6 12 9 11,oM 13 12,bJ 14 0 13 false,fJ 15 .eql (.t 14) (.c (.str [83,84,82,73,78,71])) 13 false,y6 16 13 15,oM 2 16] .ret))
theorem awp:aY Tryz.prog dc false 241 17 [(.tmp 2)] ang:=bf Tryz.func241
def anh:AC:=(sO [oL 6 1 2,oM 7 0,oX 8 5 6 7,oA 9 5 8,u5 10 191 9,oM 11 10,bJ 12 1 11 true,dK 13 1 2 11 true,bJ 14 0 11 true,dh 15 (.idx 5 (.t 13) (.t 14)) 11 true,eH 16 2 15 11 true,dK 17 1 16 11 true,iW 18 100 [(.t 12),(.t 17)] 11 true,dh 19 (.not (.t 18)) 11 true,b6 20 11 19] (m6 20 (.par [(oL 21 1 3,false),(oL 22 1 2,false),(oM 23 0,false),(oX 24 5 22 23,false),(oF 25 2 24,false),(oL 26 1 25,false),(oR 27 (.d9 1 [(.t 26)]),false)] [⟨(some 28),(.n (.app 1 16 (.t 21) (.t 27))),none⟩,oS 1 3 28]) .skip))
theorem awq:aY Tryz.prog dc true 242 29 [] anh:=bf Tryz.func242
def Sd:AC:=(.seq (sO [oM 10 5,oM 11 0,oR 12 (.oz (.t 11)),p1 13 .lss 10 12] (z1 13)) (.seq (.block 1 (sO [oM 16 0,oM 17 5,oR 18 (.vQ (.t 16) (.t 17)),oB 19 .lss (.t 18) (.c (.int .u8 32)),oM 20 19,bJ 21 0 20 false,bJ 22 5 20 false,dh 23 (.vQ (.t 21) (.t 22)) 20 false,fJ 24 .gtr (.t 23) (.c (.int .u8 126)) 20 false,y6 25 20 24] (m6 25 (sO [g0 4 false] .ret) .skip))) (.ops [oM 14 5,j0 15 .add 14 1,oM 5 15])))
def ani:AC:=(sO [g0 4 false] (.seq (sO [oM 6 0,oR 7 (.oz (.t 6)),oM 8 1,p1 9 .gtr 7 8] (m6 9 (sO [g0 4 false] .ret) .skip)) (.seq (sO [oI 5 0] (.block 0 (.loop Sd))) (sO [g0 4 true] .ret))))
theorem awr:aY Tryz.prog dc false 245 26 [(.tmp 4)] ani:=bf Tryz.func245
def anj:AC:=(sO [oR 0 (.aV (.c (.ak [] .nil)))] (sO [oR 1 (.d9 1 [(.c (.str [65,83,83,85,77,69])),(.c (.str [65,83,83,85,77,80,84,73,79,78])),(.c (.str [65,88,73,79,77])),(.c (.str [66,89])),(.c (.str [67,65,83,69])),(.c (.str [67,72,79,79,83,69])),(.c (.str [67,79,78,83,84,65,78,84])),(.c (.str [67,79,78,83,84,65,78,84,83])),(.c (.str [68,69,70])),(.c (.str [68,69,70,73,78,69])),(.c (.str [68,69,70,83])),(.c (.str [68,79,77,65,73,78])),(.c (.str [69,76,83,69])),(.c (.str [69,78,65,66,76,69,68])),(.c (.str [69,88,67,69,80,84])),(.c (.str [69,88,84,69,78,68,83])),(.c (.str [70,65,76,83,69])),(.c (.str [72,65,86,69])),(.c (.str [72,73,68,69])),(.c (.str [73,70])),(.c (.str [73,78])),(.c (.str [73,78,83,84,65,78,67,69])),(.c (.str [76,65,77,66,68,65])),(.c (.str [76,69,77,77,65])),(.c (.str [76,69,84])),(.c (.str [76,79,67,65,76])),(.c (.str [77,79,68,85,76,69])),(.c (.str [78,69,87])),(.c (.str [79,66,86,73,79,85,83])),(.c (.str [79,77,73,84,84,69,68])),(.c (.str [79,84,72,69,82])),(.c (.str [80,73,67,75])),(.c (.str [80,82,79,79,70])),(.c (.str [80,82,79,80,79,83,73,84,73,79,78])),(.c (.str [80,82,79,86,69])),(.c (.str [81,69,68])),(.c (.str [82,69,67,85,82,83,73,86,69])),(.c (.str [83,85,66,83,69,84])),(.c (.str [83,85,70,70,73,67,69,83])),(.c (.str [84,65,75,69])),(.c (.str [84,72,69,78])),(.c (.str [84,72,69,79,82,69,77])),(.c (.str [84,82,85,69])),(.c (.str [85,78,67,72,65,78,71,69,68])),(.c (.str [85,78,73,79,78])),(.c (.str [85,83,69])),(.c (.str [86,65,82,73,65,66,76,69])),(.c (.str [86,65,82,73,65,66,76,69,83])),(.c (.str [87,73,84,72])),(.c (.str [87,73,84,78,69,83,83]))]),oM 0 1] .ret))
theorem awt:aY Tryz.prog dc false 246 2 [(.tmp 0)] anj:=bf Tryz.func246
def ank:AC:=(sO [g0 2 false] (sO [oM 3 0,oB 4 .geq (.t 3) (.c (.int .u8 97)),oM 5 4,bJ 6 0 5 true,fJ 7 .leq (.t 6) (.c (.int .u8 122)) 5 true,b6 8 5 7,oM 9 8,bJ 10 0 9 false,fJ 11 .geq (.t 10) (.c (.int .u8 65)) 9 false,bJ 12 11 9 false,bJ 13 0 12 true,fJ 14 .leq (.t 13) (.c (.int .u8 90)) 12 true,dh 15 (.pick (.t 12) (.t 14) (w6 false)) 9 false,y6 16 9 15,oM 2 16] .ret))
theorem awu:aY Tryz.prog dc false 247 17 [(.tmp 2)] ank:=bf Tryz.func247
def anl:AC:=(sO [g0 2 false] (sO [oM 3 0,oB 4 .geq (.t 3) (.c (.int .u8 48)),oM 5 4,bJ 6 0 5 true,fJ 7 .leq (.t 6) (.c (.int .u8 57)) 5 true,b6 8 5 7,oM 2 8] .ret))
theorem awv:aY Tryz.prog dc false 248 9 [(.tmp 2)] anl:=bf Tryz.func248
def anm:AC:=(sO [c6 1 5 0,g0 2 false] (sO [oF 3 0 1,oL 4 1 3,j0 5 .eql 4 2,oM 6 5,eH 7 2 1 6 true,dK 8 1 7 6 true,iW 9 111 [(.t 8)] 6 true,dh 10 (.not (.t 9)) 6 true,b6 11 6 10,oM 12 11,eH 13 0 1 12 false,dK 14 1 13 12 false,fJ 15 .eql (.t 14) (d5 3) 12 false,bJ 16 15 12 false,eH 17 2 1 16 true,dK 18 1 17 16 true,iW 19 135 [(.t 18)] 16 true,dh 20 (.pick (.t 16) (.t 19) (w6 false)) 12 false,y6 21 12 20,oM 2 21] .ret))
theorem aww:aY Tryz.prog dc false 249 22 [(.tmp 2)] anm:=bf Tryz.func249
def Sg:AC:=(.seq (sO [oM 7 5,oM 8 0,oN 9 8,p1 10 .lss 7 9,oM 11 10,bJ 12 0 11 true,bJ 13 5 11 true,dh 14 (.idx 1 (.t 12) (.t 13)) 11 true,dK 15 1 14 11 true,bJ 16 1 11 true,fJ 17 .lss (.t 15) (.t 16) 11 true,b6 18 11 17] (z1 18)) (.block 1 (.ops [oM 19 5,j0 20 .add 19 1,oM 5 20])))
def ano:AC:=(sO [oR 4 (.aV (.c (.ak [] .nil)))] (sO [oI 5 0] (.seq (.block 0 (.loop Sg)) (.seq (sO [oM 21 5,oM 22 0,oN 23 22,p1 24 .lss 21 23,oM 25 24,bJ 26 0 25 true,bJ 27 5 25 true,dh 28 (.idx 1 (.t 26) (.t 27)) 25 true,dK 29 1 28 25 true,bJ 30 1 25 true,fJ 31 .eql (.t 29) (.t 30) 25 true,b6 32 25 31] (m6 32 (sO [oM 33 0,oM 4 33] .ret) .skip)) (sO [oM 34 0,oM 35 5,oR 36 (.slc 1 (.t 34) none (some (.t 35)) none),u5 37 62 36,oM 38 1,oR 39 (.d9 1 [(.t 38)]),⟨(some 40),(.d (.app 1 16 (.t 37) (.t 39))),none⟩,oM 6 40] (sO [oM 41 6,oM 42 0,oM 43 5,oR 44 (.slc 1 (.t 42) (some (.t 43)) none none),⟨(some 45),(.d (.app 1 16 (.t 41) (.t 44))),none⟩,oM 4 45] .ret))))))
theorem awx:aY Tryz.prog dc false 250 46 [(.tmp 4)] ano:=bf Tryz.func250
def KX:AC:=(sO [p1 18 .lss 17 16] (.seq (z1 18) (.seq (.block 1 (sO [oM 19 17,oX 20 5 15 17,oA 21 5 20,⟨(some 8),(.d (.alloc zN)),none⟩,oM 7 19,oS 5 8 21] (sO [oM 22 1,oM 23 7,oX 24 5 22 23,oA 25 5 24,⟨(some 9),(.d (.alloc zN)),none⟩,oS 5 9 25] (sO [oM 26 2,oA 27 5 8,oA 28 5 9,⟨(some 29),(.call (.t 26) [(.t 27),(.t 28)]),none⟩,a6 30 29] (m6 30 (sO [g0 6 false] .ret) .skip))))) (i6 31 17))))
def anp:AC:=(sO [g0 6 false] (.seq (sO [oM 10 0,oN 11 10,oM 12 1,oN 13 12,p1 14 .neq 11 13] (m6 14 (sO [g0 6 false] .ret) .skip)) (.seq (sO [oM 15 0,oN 16 15,oI 17 0] (.block 0 (.loop KX))) (sO [g0 6 true] .ret))))
theorem awy:aY Tryz.prog dc false 254 32 [(.tmp 6)] anp:=bf Tryz.func254
def anq:AC:=(sO [c6 2 5 0,c6 3 5 1,g0 4 false] (sO [oF 5 0 2,oL 6 1 5,oF 7 0 3,oL 8 1 7,p1 9 .eql 6 8,oM 10 9,eH 11 1 2 10 true,dK 12 1 11 10 true,eH 13 1 3 10 true,dK 14 1 13 10 true,fJ 15 .eql (.t 12) (.t 14) 10 true,b6 16 10 15,oM 17 16,eH 18 2 2 17 true,dK 19 1 18 17 true,eH 20 2 3 17 true,dK 21 1 20 17 true,fJ 22 .eql (.t 19) (.t 21) 17 true,b6 23 17 22,oM 24 23,eH 25 3 2 24 true,dK 26 1 25 24 true,eH 27 3 3 24 true,dK 28 1 27 24 true,iW 29 256 [(.t 26),(.t 28)] 24 true,b6 30 24 29,oM 31 30,eH 32 4 2 31 true,dK 33 1 32 31 true,eH 34 4 3 31 true,dK 35 1 34 31 true,iW 36 257 [(.t 33),(.t 35)] 31 true,b6 37 31 36,oM 4 37] .ret))
theorem awz:aY Tryz.prog dc false 255 38 [(.tmp 4)] anq:=bf Tryz.func255
def Si:AC:=(sO [p1 14 .lss 13 12] (.seq (z1 14) (.seq (.block 1 (sO [oM 15 13,oM 5 15] (.seq (.par [(oM 16 0,false),(oM 17 5,false),(oX 18 1 16 17,false),(oL 19 1 18,false),(oM 20 1,false),(oM 21 5,false),(oX 22 1 20 21,false),(oL 23 1 22,false)] [p1 24 .neq 19 23]) (m6 24 (sO [g0 4 false] .ret) .skip)))) (i6 25 13))))
def anr:AC:=(sO [g0 4 false] (.seq (sO [oM 6 0,oN 7 6,oM 8 1,oN 9 8,p1 10 .neq 7 9] (m6 10 (sO [g0 4 false] .ret) .skip)) (.seq (sO [oM 11 0,oN 12 11,oI 13 0] (.block 0 (.loop Si))) (sO [g0 4 true] .ret))))
theorem awC:aY Tryz.prog dc false 256 26 [(.tmp 4)] anr:=bf Tryz.func256
def Sj:AC:=(sO [p1 14 .lss 13 12] (.seq (z1 14) (.seq (.block 1 (sO [oM 15 13,oM 5 15] (.seq (.par [(oM 16 0,false),(oM 17 5,false),(oX 18 1 16 17,false),(oL 19 1 18,false),(oM 20 1,false),(oM 21 5,false),(oX 22 1 20 21,false),(oL 23 1 22,false)] [p1 24 .neq 19 23]) (m6 24 (sO [g0 4 false] .ret) .skip)))) (i6 25 13))))
def ant:AC:=(sO [g0 4 false] (.seq (sO [oM 6 0,oN 7 6,oM 8 1,oN 9 8,p1 10 .neq 7 9] (m6 10 (sO [g0 4 false] .ret) .skip)) (.seq (sO [oM 11 0,oN 12 11,oI 13 0] (.block 0 (.loop Sj))) (sO [g0 4 true] .ret))))
theorem awD:aY Tryz.prog dc false 257 26 [(.tmp 4)] ant:=bf Tryz.func257
def Nh:AC:=(.ops [⟨(some 8),(.d (.alloc [(.str []),(.str [])])),none⟩,oS 2 8 29])
def Ni:AC:=(.block 1 (.seq (.par [(oF 30 0 8,false),(oL 31 1 30,false),(oL 32 1 6,false),(oR 33 (.lF (.t 32)),false),(oF 34 2 33,false),(oL 35 1 34,false)] [p1 36 .eql 31 35]) (m6 36 (sO [oL 37 1 6,oF 38 1 8,oL 39 1 38,oR 40 (.lF (.t 37)),oF 41 2 40,oS 1 41 39] (.exit 0)) .skip)))
def Sk:AC:=(sO [oL 22 1 6,oR 23 (.lF (.t 22)),oA 24 5 23,u5 25 191 24] (m6 25 (sO [oM 26 2,u5 27 282 26] (.block 0 (.rf (.t 27) 28 29 Nh Ni))) .skip))
def KY:AC:=(sO [p1 62 .lss 61 60] (.seq (m6 62 .skip (.exit 2)) (.seq (.block 3 (sO [oM 63 61,oM 10 63] (.par [(oL 64 1 6,false),(oR 65 (.lF (.t 64)),false),(oF 66 3 65,false),(oL 67 1 66,false),(oM 68 10,false),(oM 69 0,false),(u5 70 284 69,true)] [oX 71 1 67 68,oS 1 71 70]))) (i6 72 61))))
def Sm:AC:=(sO [oL 45 1 6,oR 46 (.lF (.t 45)),oF 47 0 46,oL 48 1 47,u5 49 283 48] (m6 49 (sO [oL 50 1 6,oR 51 (.lF (.t 50)),oF 52 3 51,oL 53 1 52,u5 54 181 53,oF 55 3 9,oS 1 55 54] (sO [oL 56 1 6,oR 57 (.lF (.t 56)),oF 58 3 57,oL 59 1 58,oN 60 59,oI 61 0] (.block 2 (.loop KY)))) .skip))
def KZ:AC:=(sO [p1 90 .lss 89 88] (.seq (m6 90 .skip (.exit 6)) (.seq (.block 7 (sO [oM 91 89,oX 92 1 87 89,oL 93 1 92,oM 14 91,oM 15 93] (.ops [oM 94 13,oM 95 15,oL 96 1 6,oR 97 (.lF (.t 96)),oA 98 5 97,oM 99 11,oC 100 240 [(.t 98),(.t 99)],oM 101 14,oX 102 1 100 101,oL 103 1 102,oR 104 (.build [(.str []),(.str [])] [(0,(1,(.t 95))),(1,(1,(.t 103)))]),oR 105 (.d9 2 [(.t 104)]),⟨(some 106),(.d (.app 2 32 (.t 94) (.t 105))),none⟩,oM 13 106]))) (i6 107 89))))
def K6:AC:=(sO [p1 79 .lss 78 77] (.seq (m6 79 .skip (.exit 4)) (.seq (.block 5 (sO [oM 80 78,oX 81 1 76 78,oL 82 1 81,oM 11 80,oM 12 82] (sO [oM 83 2,u5 84 285 83,oM 13 84] (.seq (sO [oA 85 5 9,oM 86 11,oC 87 240 [(.t 85),(.t 86)],oN 88 87,oI 89 0] (.block 6 (.loop KZ))) (.ops [oM 108 0,oM 109 12,oM 110 13,oC 111 258 [(.t 108),(.t 109),(.t 110)]]))))) (i6 112 78))))
def anu:AC:=(sO [oM 16 0,oR 17 (.lF (.t 16)),oF 18 0 17,oL 19 1 18,oM 20 1,oX 21 5 19 20,⟨(some 6),(.d (.alloc [.mJ])),none⟩,oS 1 6 21] (.seq Sk (sO [oL 42 1 6,oR 43 (.lF (.t 42)),oA 44 5 43,⟨(some 9),(.d (.alloc zN)),none⟩,oS 5 9 44] (.seq Sm (sO [oL 73 1 6,oR 74 (.lF (.t 73)),oF 75 4 74,oL 76 1 75,oN 77 76,oI 78 0] (.block 4 (.loop K6)))))))
theorem awE:aY Tryz.prog dc false 258 113 [] anu:=bf Tryz.func258
def Sn:AC:=(.seq (sO [oM 11 7,j0 12 .geq 11 0] (z1 12)) (.seq (.block 1 (sO [oM 15 0,oM 16 7,oX 17 1 15 16,oL 18 1 17,oM 19 2,p1 20 .eql 18 19] (m6 20 (sO [oM 21 1,oM 22 7,oX 23 1 21 22,oL 24 1 23,oM 6 24] .ret) .skip))) (.ops [oM 13 7,j0 14 .sub 13 1,oM 7 14])))
def anv:AC:=(sO [oR 6 (.aV (.c (.str [])))] (.seq (sO [oM 8 0,oN 9 8,j0 10 .sub 9 1,oM 7 10] (.block 0 (.loop Sn))) (sO [oM 25 2,oM 6 25] .ret)))
theorem awF:aY Tryz.prog dc false 262 26 [(.tmp 6)] anv:=bf Tryz.func262
def Sr:AC:=(.block 1 (sO [oM 4 0,oM 5 0,oR 6 (.lF (.t 5)),oF 7 1 6,oL 8 1 7,j0 9 .add 8 1,oR 10 (.lF (.t 4)),oF 11 1 10,oS 1 11 9] (sO [oM 12 0,oR 13 (.lF (.t 12)),oF 14 1 13,oL 15 1 14,u5 16 281 15,oB 17 .add (.c (.str [98,95])) (.t 16),oM 3 17] (sO [oM 18 0,oR 19 (.lF (.t 18)),oF 20 0 19,oL 21 1 20,oM 22 3,oC 23 85 [(.t 21),(.t 22)],a6 24 23] (m6 24 (sO [oM 25 3,oM 2 25] .ret) .skip)))))
def anw:AC:=(sO [oR 2 (.aV (.c (.str [])))] (.block 0 (.loop Sr)))
theorem awG:aY Tryz.prog dc false 263 26 [(.tmp 2)] anw:=bf Tryz.func263
def Sv:AC:=(sO [p1 81 .lss 80 79] (.seq (z1 81) (.seq (.block 1 (sO [oM 82 80,oM 4 82] (sO [oM 83 3,oM 84 4,oX 85 7 83 84,oF 86 0 85,oL 87 1 86,oB 88 .eql (.t 87) (.c (.str [92,88]))] (m6 88 (.ops [oM 89 3,oM 90 4,oX 91 7 89 90,oF 92 6 91,⟨none,(.d (.store 1 (.t 92) (d5 4))),none⟩]) .skip)))) (i6 93 80))))
def anx:AC:=(sO [oR 0 (.aV (.c (.ak [] .nil)))] (sO [oR 1 (.aV (.c (.fn (.func 289) [] [])))] (sO [oR 2 (.aV (.c (.fn (.func 290) [] [])))] (sO [oM 5 1,oR 6 (.d9 1 [(.c (.str [126]))]),⟨(some 7),(.call (.t 5) [(d5 4),(d5 4),(.t 6)]),none⟩,oM 8 1,oR 9 (.d9 1 [(.c (.str [69,78,65,66,76,69,68])),(.c (.str [85,78,67,72,65,78,71,69,68])),(.c (.str [91,93])),(.c (.str [60,62]))]),⟨(some 10),(.call (.t 8) [(d5 4),(d5 15),(.t 9)]),none⟩,oM 11 1,oR 12 (.d9 1 [(.c (.str [83,85,66,83,69,84])),(.c (.str [85,78,73,79,78]))]),⟨(some 13),(.call (.t 11) [(d5 8),(d5 8),(.t 12)]),none⟩,oM 14 1,oR 15 (.d9 1 [(.c (.str [68,79,77,65,73,78]))]),⟨(some 16),(.call (.t 14) [(d5 9),(d5 9),(.t 15)]),none⟩,oM 17 1,oR 18 (.d9 1 [(.c (.str [45,46]))]),⟨(some 19),(.call (.t 17) [(d5 12),(d5 12),(.t 18)]),none⟩,oM 20 2,oR 21 (.d9 1 [(.c (.str [61,62]))]),⟨(some 22),(.call (.t 20) [(d5 1),(d5 1),(w6 false),(.t 21)]),none⟩,oM 23 2,oR 24 (.d9 1 [(.c (.str [60,61,62])),(.c (.str [126,62]))]),⟨(some 25),(.call (.t 23) [(d5 2),(d5 2),(w6 false),(.t 24)]),none⟩,oM 26 2,oR 27 (.d9 1 [(.c (.str [47,92])),(.c (.str [92,47]))]),⟨(some 28),(.call (.t 26) [(d5 3),(d5 3),(w6 true),(.t 27)]),none⟩,oM 29 2,oR 30 (.d9 1 [(.c (.str [61])),(.c (.str [35])),(.c (.str [60])),(.c (.str [60,61])),(.c (.str [62])),(.c (.str [62,61])),(.c (.str [92,105,110])),(.c (.str [92,110,111,116,105,110])),(.c (.str [92,115,117,98,115,101,116,101,113])),(.c (.str [92,115,113,115,117,98,115,101,116,101,113]))]),⟨(some 31),(.call (.t 29) [(d5 5),(d5 5),(w6 false),(.t 30)]),none⟩,oM 32 2,oR 33 (.d9 1 [(.c (.str [64,64]))]),⟨(some 34),(.call (.t 32) [(d5 6),(d5 6),(w6 true),(.t 33)]),none⟩,oM 35 2,oR 36 (.d9 1 [(.c (.str [58,62]))]),⟨(some 37),(.call (.t 35) [(d5 7),(d5 7),(w6 false),(.t 36)]),none⟩,oM 38 2,oR 39 (.d9 1 [(.c (.str [92,99,100,111,116]))]),⟨(some 40),(.call (.t 38) [(d5 5),(d5 14),(w6 true),(.t 39)]),none⟩,oM 41 2,oR 42 (.d9 1 [(.c (.str [92,99,117,112])),(.c (.str [92,99,97,112]))]),⟨(some 43),(.call (.t 41) [(d5 8),(d5 8),(w6 true),(.t 42)]),none⟩,oM 44 2,oR 45 (.d9 1 [(.c (.str [92]))]),⟨(some 46),(.call (.t 44) [(d5 8),(d5 8),(w6 false),(.t 45)]),none⟩,oM 47 2,oR 48 (.d9 1 [(.c (.str [46,46]))]),⟨(some 49),(.call (.t 47) [(d5 9),(d5 9),(w6 false),(.t 48)]),none⟩,oM 50 2,oR 51 (.d9 1 [(.c (.str [43])),(.c (.str [40,43,41]))]),⟨(some 52),(.call (.t 50) [(d5 10),(d5 10),(w6 true),(.t 51)]),none⟩,oM 53 2,oR 54 (.d9 1 [(.c (.str [37]))]),⟨(some 55),(.call (.t 53) [(d5 10),(d5 11),(w6 false),(.t 54)]),none⟩,oM 56 2,oR 57 (.d9 1 [(.c (.str [92,88]))]),⟨(some 58),(.call (.t 56) [(d5 10),(d5 13),(w6 false),(.t 57)]),none⟩,oM 59 2,oR 60 (.d9 1 [(.c (.str [45])),(.c (.str [40,45,41]))]),⟨(some 61),(.call (.t 59) [(d5 11),(d5 11),(w6 true),(.t 60)]),none⟩,oM 62 2,oR 63 (.d9 1 [(.c (.str [42]))]),⟨(some 64),(.call (.t 62) [(d5 13),(d5 13),(w6 true),(.t 63)]),none⟩,oM 65 2,oR 66 (.d9 1 [(.c (.str [92,100,105,118]))]),⟨(some 67),(.call (.t 65) [(d5 13),(d5 13),(w6 false),(.t 66)]),none⟩,oM 68 2,oR 69 (.d9 1 [(.c (.str [92,111]))]),⟨(some 70),(.call (.t 68) [(d5 13),(d5 13),(w6 true),(.t 69)]),none⟩,oM 71 2,oR 72 (.d9 1 [(.c (.str [94]))]),⟨(some 73),(.call (.t 71) [(d5 14),(d5 14),(w6 false),(.t 72)]),none⟩,oR 74 (.build [(.str []),(.int .i64 0),(.int .i64 0),(.int .i64 0),(.bool false),(.int .i64 0),(.int .i64 0)] [(0,(1,(.c (.str [39])))),(1,(1,(d5 2))),(2,(1,(d5 15))),(3,(1,(d5 15))),(5,(1,(d5 1))),(6,(1,(d5 1)))]),oR 75 (.d9 7 [(.t 74)]),oR 76 (.d9 1 [(.t 7),(.t 10),(.t 13),(.t 16),(.t 19),(.t 22),(.t 25),(.t 28),(.t 31),(.t 34),(.t 37),(.t 40),(.t 43),(.t 46),(.t 49),(.t 52),(.t 55),(.t 58),(.t 61),(.t 64),(.t 67),(.t 70),(.t 73),(.t 75)]),u5 77 291 76,oM 3 77] (.seq (sO [oM 78 3,oN 79 78,oI 80 0] (.block 0 (.loop Sv))) (sO [oM 94 3,oM 0 94] .ret))))))
theorem awH:aY Tryz.prog dc false 264 95 [(.tmp 0)] anx:=bf Tryz.func264
def Sw:AC:=(sO [p1 9 .lss 8 7] (.seq (z1 9) (.seq (.block 1 (sO [oM 10 8,oM 5 10] (sO [oM 11 1,oM 12 0,oM 13 5,oX 14 7 12 13,oA 15 7 14,⟨(some 16),(.call (.t 11) [(.t 15)]),none⟩] (m6 16 (sO [oM 17 5,oM 4 17] .ret) .skip)))) (i6 18 8))))
def anz:AC:=(sO [oI 4 0] (.seq (sO [oM 6 0,oN 7 6,oI 8 0] (.block 0 (.loop Sw))) (sO [oI 4 (-1)] .ret)))
theorem awI:aY Tryz.prog dc false 265 19 [(.tmp 4)] anz:=bf Tryz.func265
def anA:AC:=(sO [c6 2 7 0,g0 3 false] (sO [oF 4 0 2,oL 5 1 4,oL 6 1 1,p1 7 .eql 5 6,oM 3 7] .ret))
theorem awJ:aY Tryz.prog dc false 266 8 [(.tmp 3)] anA:=bf Tryz.func266
def anB:AC:=(sO [⟨(some 4),(.d (.alloc [(.int .i64 0),(.int .i64 0),(.int .i64 0),(.int .i64 0),(.bool false),(.bool false)])),none⟩] (sO [oM 5 0,oM 6 0,⟨(some 7),(.n (.iR [(.int .i64 0),(.int .i64 0)] [(0,(1,(.t 5))),(1,(1,(.t 6)))])),none⟩,oM 8 1,oM 9 1,⟨(some 10),(.n (.iR [(.int .i64 0),(.int .i64 0)] [(0,(1,(.t 8))),(1,(1,(.t 9)))])),none⟩,oR 11 (.build [(.int .i64 0),(.int .i64 0),(.int .i64 0),(.int .i64 0),(.bool false),(.bool false)] [(0,(2,(.t 7))),(2,(2,(.t 10)))]),oS 6 4 11] .ret))
theorem awK:aY Tryz.prog dc false 267 12 [(.cell 4 6 true)] anB:=bf Tryz.func267
def anC:AC:=(sO [g0 2 false] (sO [oM 3 0,oR 4 (.conv .i64 (.t 3)),oC 5 224 [(.t 4),(d5 32),(d5 126)],a6 6 5,oM 7 6,bJ 8 0 7 false,fJ 9 .eql (.t 8) (.c (.int .i32 34)) 7 false,y6 10 7 9,oM 11 10,bJ 12 0 11 false,fJ 13 .eql (.t 12) (.c (.int .i32 92)) 11 false,y6 14 11 13,oM 2 14] .ret))
theorem awL:aY Tryz.prog dc false 269 15 [(.tmp 2)] anC:=bf Tryz.func269
def anD:AC:=(sO [g0 2 false] (sO [oM 3 0,u5 4 187 3,a6 5 4,oM 2 5] .ret))
theorem awM:aY Tryz.prog dc false 271 6 [(.tmp 2)] anD:=bf Tryz.func271
def anE:AC:=(sO [g0 2 false] (.seq (sO [oM 6 0,oR 7 (.oz (.t 6)),j0 8 .gtr 7 49] (m6 8 (sO [g0 2 false] .ret) .skip)) (sO [oM 10 0,oC 11 293 [(.t 10),(.c (.str [33]))],oM 9 11,oE 12 9 0,oE 13 9 1,oE 14 9 2,oM 3 12,oM 4 13,oM 5 14] (sO [oM 15 3,u5 16 187 15,oM 17 16,bJ 18 5 17 true,dh 19 (.not (.t 18)) 17 true,bJ 20 19 17 true,bJ 21 4 20 false,iW 22 187 [(.t 21)] 20 false,dh 23 (.pick (.t 20) (w6 true) (.t 22)) 17 true,b6 24 17 23,oM 2 24] .ret))))
theorem awN:aY Tryz.prog dc false 272 25 [(.tmp 2)] anE:=bf Tryz.func272
def anF:AC:=(sO [oR 4 (.aV (.c (.int .u64 0))),oR 5 (.aV (.c (.int .u64 0)))] (.seq (.cond (w6 false) (sO [oM 11 0,oR 12 (.conv .u32 (.t 11)),oM 13 1,oR 14 (.conv .u32 (.t 13)),oC 15 294 [(.t 12),(.t 14)],oM 10 15,oE 16 10 0,oE 17 10 1,oM 6 16,oM 7 17] (sO [oM 18 6,oR 19 (.conv .u64 (.t 18)),oM 20 7,oR 21 (.conv .u64 (.t 20)),oM 4 19,oM 5 21] .ret)) .skip) (sO [oM 23 0,oM 24 1,oC 25 295 [(.t 23),(.t 24)],oM 22 25,oE 26 22 0,oE 27 22 1,oM 8 26,oM 9 27] (sO [oM 28 8,oM 29 9,oM 4 28,oM 5 29] .ret))))
theorem awO:aY Tryz.prog dc false 273 30 [(.tmp 4),(.tmp 5)] anF:=bf Tryz.func273
def Sy:AC:=(sO [p1 9 .lss 8 7] (.seq (z1 9) (.seq (.block 1 (sO [oM 10 8,oM 5 10] (sO [oM 11 1,oM 12 0,oM 13 5,oX 14 1 12 13,oL 15 1 14,⟨(some 16),(.call (.t 11) [(.t 15)]),none⟩] (m6 16 (sO [oM 17 5,oM 4 17] .ret) .skip)))) (i6 18 8))))
def anG:AC:=(sO [oI 4 0] (.seq (sO [oM 6 0,oN 7 6,oI 8 0] (.block 0 (.loop Sy))) (sO [oI 4 (-1)] .ret)))
theorem awP:aY Tryz.prog dc false 274 19 [(.tmp 4)] anG:=bf Tryz.func274
def anH:AC:=(sO [g0 4 false] (sO [oM 5 0,oR 6 (.oz (.t 5)),oM 7 1,oR 8 (.oz (.t 7)),p1 9 .geq 6 8,oM 10 9,bJ 11 0 10 true,bJ 12 1 10 true,dh 13 (.oz (.t 12)) 10 true,dh 14 (.zZ (.t 11) none (some (.t 13))) 10 true,bJ 15 1 10 true,fJ 16 .eql (.t 14) (.t 15) 10 true,b6 17 10 16,oM 4 17] .ret))
theorem awQ:aY Tryz.prog dc false 277 18 [(.tmp 4)] anH:=bf Tryz.func277
def Sz:AC:=(.seq (sO [oM 13 6,oM 14 0,oR 15 (.oz (.t 14)),p1 16 .lss 13 15] (z1 16)) (.seq (.block 1 (sO [oM 19 0,oM 20 6,oR 21 (.vQ (.t 19) (.t 20)),oM 7 21] (sO [oM 22 5,oM 23 7,p1 24 .or 22 23,oM 5 24] (sO [oM 25 7,oR 26 (.r9 256 1 (.c (.bS (Ai.map (PV.int .u8)) 0)) (.t 25)),oL 27 1 26,oR 28 (.conv .i64 (.t 27)),oM 8 28] (sO [oM 29 3,oM 30 4,oM 31 8,oR 32 (.cpl (.t 31)),p1 33 .and 30 32,p1 34 .add 29 33,oM 3 34] (.ops [oM 35 8,oM 4 35])))))) (.ops [oM 17 6,j0 18 .add 17 1,oM 6 18])))
def SA:AC:=(.seq (sO [oM 42 12,oM 43 0,oR 44 (.oz (.t 43)),p1 45 .lss 42 44,oM 46 45,bJ 47 0 46 true,bJ 48 12 46 true,dh 49 (.vQ (.t 47) (.t 48)) 46 true,dh 50 (.r9 256 1 (.c (.bS (Ai.map (PV.int .u8)) 0)) (.t 49)) 46 true,dK 51 1 50 46 true,fJ 52 .neq (.t 51) (.c (.int .u8 0)) 46 true,b6 53 46 52] (m6 53 .skip (.exit 2))) (.block 3 (.ops [oM 54 12,j0 55 .add 54 1,oM 12 55])))
def SB:AC:=(.seq (sO [oM 80 12,oM 81 0,oR 82 (.oz (.t 81)),p1 83 .lss 80 82,oM 84 83,bJ 85 0 84 true,bJ 86 12 84 true,dh 87 (.vQ (.t 85) (.t 86)) 84 true,dh 88 (.r9 256 1 (.c (.bS (Ai.map (PV.int .u8)) 0)) (.t 87)) 84 true,dK 89 1 88 84 true,fJ 90 .neq (.t 89) (.c (.int .u8 0)) 84 true,b6 91 84 90] (m6 91 .skip (.exit 6))) (.block 7 (.ops [oM 92 12,j0 93 .add 92 1,oM 12 93])))
def SC:AC:=(.seq (sO [oM 57 12,oM 58 0,oR 59 (.oz (.t 58)),p1 60 .lss 57 59] (m6 60 .skip (.exit 4))) (.block 5 (.seq (sO [oM 61 0,oM 62 12,oR 63 (.vQ (.t 61) (.t 62)),oR 64 (.r9 256 1 (.c (.bS (Ai.map (PV.int .u8)) 0)) (.t 63)),oL 65 1 64,oB 66 .eql (.t 65) (.c (.int .u8 0))] (m6 66 (sO [oM 67 12,j0 68 .add 67 1,oM 12 68] (.exit 5)) .skip)) (sO [oM 69 9,oM 70 10,oM 71 0,oM 72 11,oM 73 12,oR 74 (.zZ (.t 71) (some (.t 72)) (some (.t 73))),oX 75 1 69 70,oS 1 75 74] (sO [oM 76 10,j0 77 .add 76 1,oM 10 77] (sO [oM 78 12,j0 79 .add 78 1,oM 12 79] (.seq (.block 6 (.loop SB)) (.ops [oM 94 12,oM 11 94]))))))))
def anI:AC:=(sO [oR 2 (.aV (.c (.ak [] .nil)))] (sO [oI 3 0] (sO [oI 4 1] (sO [oR 5 (.aV (.c (.int .u8 0)))] (.seq (sO [oI 6 0] (.block 0 (.loop Sz))) (.seq (sO [oM 36 5,oB 37 .geq (.t 36) (.c (.int .u8 128))] (m6 37 (sO [oM 38 0,oC 39 305 [(.t 38),(.c (.fn (.func 306) [] []))],oM 2 39] .ret) .skip)) (sO [oM 40 3,⟨(some 41),(.d (.vR 1 16 [(.str [])] (.t 40) (.t 40))),none⟩,oM 9 41] (sO [oI 10 0] (sO [oI 11 0] (sO [oI 12 0] (.seq (.block 2 (.loop SA)) (sO [oM 56 12,oM 11 56] (.seq (.block 4 (.loop SC)) (.seq (sO [oM 95 11,oM 96 0,oR 97 (.oz (.t 96)),p1 98 .lss 95 97] (m6 98 (.ops [oM 99 9,oM 100 10,oM 101 0,oM 102 11,oR 103 (.zZ (.t 101) (some (.t 102)) none),oX 104 1 99 100,oS 1 104 103]) .skip)) (sO [oM 105 9,oM 2 105] .ret)))))))))))))))
theorem awR:aY Tryz.prog dc false 278 106 [(.tmp 2)] anI:=bf Tryz.func278
def SE:AC:=(.block 1 (sO [oM 8 0,j0 9 .rem 8 10,u5 10 318 9,oM 5 10] (sO [oM 11 5,oM 12 5,j0 13 .add 12 1,oR 14 (.zZ (.c (.str [48,49,50,51,52,53,54,55,56,57])) (some (.t 11)) (some (.t 13))),oM 15 3,p1 16 .add 14 15,oM 3 16] (sO [oM 17 0,j0 18 .quo 17 10,oM 0 18] (sO [oM 19 0,j0 20 .eql 19 0] (m6 20 (.exit 0) .skip))))))
def anJ:AC:=(sO [oR 2 (.aV (.c (.str [])))] (sO [oM 6 0,j0 7 .lss 6 0,oR 3 (.aV (.c (.str []))),oM 4 7] (.seq (.block 0 (.loop SE)) (.seq (sO [oM 21 4] (m6 21 (.ops [oM 22 3,oB 23 .add (.c (.str [45])) (.t 22),oM 3 23]) .skip)) (sO [oM 24 3,oM 2 24] .ret)))))
theorem awS:aY Tryz.prog dc false 281 25 [(.tmp 2)] anJ:=bf Tryz.func281
def anK:AC:=(sO [c6 1 1 0,oR 2 (.aV (.c .jH))] (sO [oR 3 (.Jb (.func 319) [] [(.t 1)]),oM 2 3] .ret))
theorem awT:aY Tryz.prog dc false 282 4 [(.tmp 2)] anK:=bf Tryz.func282
def anL:AC:=(sO [g0 2 false] (sO [oM 3 0,j0 4 .neq 3 16,oM 5 4,bJ 6 0 5 true,fJ 7 .neq (.t 6) (d5 17) 5 true,b6 8 5 7,oM 2 8] .ret))
theorem awU:aY Tryz.prog dc false 283 9 [(.tmp 2)] anL:=bf Tryz.func283
def SF:AC:=(.block 1 (sO [oM 4 0,oR 5 (.lF (.t 4)),oF 6 2 5,oL 7 1 6,j0 8 .add 7 1,oR 9 (.lF (.t 4)),oF 10 2 9,oS 1 10 8] (sO [oM 11 0,oR 12 (.lF (.t 11)),oF 13 2 12,oL 14 1 13,u5 15 320 14,oB 16 .add (.c (.str [98,95])) (.t 15),oM 3 16] (sO [oM 17 0,oR 18 (.lF (.t 17)),oF 19 1 18,oL 20 1 19,oM 21 3,oC 22 100 [(.t 20),(.t 21)],a6 23 22] (m6 23 (sO [oM 24 3,oM 2 24] .ret) .skip)))))
def anM:AC:=(sO [oR 2 (.aV (.c (.str [])))] (.block 0 (.loop SF)))
theorem awV:aY Tryz.prog dc false 284 25 [(.tmp 2)] anM:=bf Tryz.func284
def anN:AC:=(sO [oR 2 (.aV (.c (.ak [] .nil)))] (sO [oM 3 0,oM 4 0,oN 5 4,oM 6 0,oN 7 6,oR 8 (.slc 2 (.t 3) none (some (.t 5)) (some (.t 7))),oM 2 8] .ret))
theorem awW:aY Tryz.prog dc false 285 9 [(.tmp 2)] anN:=bf Tryz.func285
def SG:AC:=(sO [p1 13 .lss 12 11] (.seq (z1 13) (.seq (.block 1 (sO [oX 14 1 10 12,oL 15 1 14,oM 9 15] (.ops [oM 16 7,oM 17 9,oM 18 0,oM 19 1,oR 20 (.build [(.str []),(.int .i64 0),(.int .i64 0),(.int .i64 0),(.bool false),(.int .i64 0),(.int .i64 0)] [(0,(1,(.t 17))),(1,(1,(d5 0))),(2,(1,(.t 18))),(3,(1,(.t 19))),(5,(1,(d5 1))),(6,(1,(d5 1)))]),oR 21 (.d9 7 [(.t 20)]),⟨(some 22),(.d (.app 7 64 (.t 16) (.t 21))),none⟩,oM 7 22]))) (i6 23 12))))
def anO:AC:=(sO [oR 6 (.aV (.c (.ak [] .nil)))] (sO [oR 7 (.aV (.c (.ak [] .nil)))] (.seq (sO [oM 10 2,oN 11 10,oI 12 0] (.block 0 (.loop SG))) (sO [oM 24 7,oM 6 24] .ret))))
theorem awX:aY Tryz.prog dc false 289 25 [(.tmp 6)] anO:=bf Tryz.func289
def SH:AC:=(sO [p1 15 .lss 14 13] (.seq (z1 15) (.seq (.block 1 (sO [oX 16 1 12 14,oL 17 1 16,oM 11 17] (.ops [oM 18 9,oM 19 11,oM 20 0,oM 21 1,oM 22 2,oR 23 (.build [(.str []),(.int .i64 0),(.int .i64 0),(.int .i64 0),(.bool false),(.int .i64 0),(.int .i64 0)] [(0,(1,(.t 19))),(1,(1,(d5 1))),(2,(1,(.t 20))),(3,(1,(.t 21))),(4,(1,(.t 22))),(5,(1,(d5 2))),(6,(1,(d5 2)))]),oR 24 (.d9 7 [(.t 23)]),⟨(some 25),(.d (.app 7 64 (.t 18) (.t 24))),none⟩,oM 9 25]))) (i6 26 14))))
def anP:AC:=(sO [oR 8 (.aV (.c (.ak [] .nil)))] (sO [oR 9 (.aV (.c (.ak [] .nil)))] (.seq (sO [oM 12 3,oN 13 12,oI 14 0] (.block 0 (.loop SH))) (sO [oM 27 9,oM 8 27] .ret))))
theorem awY:aY Tryz.prog dc false 290 28 [(.tmp 8)] anP:=bf Tryz.func290
def SI:AC:=(sO [p1 12 .lss 11 10] (.seq (z1 12) (.seq (.block 1 (sO [oX 13 1 9 11,oL 14 1 13,oM 5 14] (sO [oM 15 3,oM 16 5,oN 17 16,p1 18 .add 15 17,oM 3 18] (sO [oM 19 3,j0 20 .lss 19 0] (m6 20 (.ops [oR 21 (.Qk 9 (.c (.str [108,101,110,32,111,117,116,32,111,102,32,114,97,110,103,101]))),⟨none,.bad,none⟩]) .skip))))) (i6 22 11))))
def SK:AC:=(sO [p1 28 .lss 27 26] (.seq (m6 28 .skip (.exit 2)) (.seq (.block 3 (sO [oX 29 1 25 27,oL 30 1 29,oM 8 30] (.ops [oM 31 6,oM 32 8,⟨(some 33),(.n (.app 7 64 (.t 31) (.t 32))),none⟩,oM 6 33]))) (i6 34 27))))
def anQ:AC:=(sO [oR 2 (.aV (.c (.ak [] .nil)))] (sO [oI 3 0] (.seq (sO [oM 9 0,oN 10 9,oI 11 0] (.block 0 (.loop SI))) (sO [oM 23 3,oC 24 321 [(.c (.ak [] .nil)),(.t 23)],oM 6 24] (.seq (sO [oM 25 0,oN 26 25,oI 27 0] (.block 2 (.loop SK))) (sO [oM 35 6,oM 2 35] .ret))))))
theorem awZ:aY Tryz.prog dc true 291 36 [(.tmp 2)] anQ:=bf Tryz.func291
def anR:AC:=(sO [oR 4 (.aV (.c (.str []))),oR 5 (.aV (.c (.str []))),g0 6 false] (sO [oM 7 0,oM 8 1,oC 9 323 [(.t 7),(.t 8)],oE 10 9 0,oE 11 9 1,oE 12 9 2,oM 4 10,oM 5 11,oM 6 12] .ret))
theorem aw0:aY Tryz.prog dc false 293 13 [(.tmp 4),(.tmp 5),(.tmp 6)] anR:=bf Tryz.func293
def anS:AC:=(sO [oI 2 0] (.seq (sO [oM 3 0,j0 4 .lss 3 0] (m6 4 (sO [oM 5 0,oR 6 (.neg (.t 5)),oM 2 6] .ret) .skip)) (sO [oM 7 0,oM 2 7] .ret)))
theorem aw1:aY Tryz.prog dc false 318 8 [(.tmp 2)] anS:=bf Tryz.func318
def anT:AC:=(sO [oR 4 (.aV (.c (.str []))),oR 5 (.aV (.c (.str []))),g0 6 false] (.seq (sO [oM 8 0,oM 9 1,oC 10 334 [(.t 8),(.t 9)],oM 7 10] (sO [oM 11 7,j0 12 .geq 11 0] (m6 12 (.seq (.par [(oM 13 0,false),(oM 14 7,false),(oR 15 (.zZ (.t 13) none (some (.t 14))),false),(oM 16 0,false),(oM 17 7,false),(oM 18 1,false),(oR 19 (.oz (.t 18)),false),(p1 20 .add 17 19,false),(oR 21 (.zZ (.t 16) (some (.t 20)) none),false),(oM 4 15,false)] [oM 5 21,g0 6 true]) .ret) .skip))) (sO [oM 22 0,oM 4 22,oR 5 (.aV (.c (.str []))),g0 6 false] .ret)))
theorem aw2:aY Tryz.prog dc false 323 23 [(.tmp 4),(.tmp 5),(.tmp 6)] anT:=bf Tryz.func323
end Go.VL
end
section
namespace Go.VL
structure Operator where
 text:Str
 fix:Int
 low:Int
 high:Int
 left:Bool
 least:Int
 most:Int
deriving DecidableEq
def Operator.cells (x:Operator):List PV:=[(.str x.text),(.int .i64 x.fix),(.int .i64 x.low),(.int .i64 x.high),(.bool x.left),(.int .i64 x.least),(.int .i64 x.most)]
theorem Operator.jC (x:Operator):x.cells=[(.str x.text),(.int .i64 x.fix),(.int .i64 x.low),(.int .i64 x.high),(.bool x.left),(.int .i64 x.least),(.int .i64 x.most)]:=rfl
theorem Operator.pu (x:Operator): ∀c∈x.cells,Pu c:=aX.mem (.cons (.str _) (.cons (.int _ _) (.cons (.int _ _) (.cons (.int _ _) (.cons (.bool _) (.cons (.int _ _) (.cons (.int _ _) .nil)))))))
theorem Operator.row (x:Operator):kT 7 x.cells:=row_of rfl rfl
instance:mX Operator.cells 7:=⟨fun _=>rfl,fun _=>rfl⟩
attribute [go_sem] Operator.jC
structure Shape where
 names:Int×Int
 operands:Int×Int
 text:Bool
 number:Bool
deriving DecidableEq
def Shape.cells (x:Shape):List PV:=[(.int .i64 x.names.1),(.int .i64 x.names.2),(.int .i64 x.operands.1),(.int .i64 x.operands.2),(.bool x.text),(.bool x.number)]
theorem Shape.jC (x:Shape):x.cells=[(.int .i64 x.names.1),(.int .i64 x.names.2),(.int .i64 x.operands.1),(.int .i64 x.operands.2),(.bool x.text),(.bool x.number)]:=rfl
theorem Shape.pu (x:Shape): ∀c∈x.cells,Pu c:=aX.mem (.cons (.int _ _) (.cons (.int _ _) (.cons (.int _ _) (.cons (.int _ _) (.cons (.bool _) (.cons (.bool _) .nil))))))
attribute [go_sem] Shape.jC
structure Scope where
 old:Str
 new:Str
deriving DecidableEq
def Scope.cells (x:Scope):List PV:=[(.str x.old),(.str x.new)]
theorem Scope.jC (x:Scope):x.cells=[(.str x.old),(.str x.new)]:=rfl
theorem Scope.pu (x:Scope): ∀c∈x.cells,Pu c:=aX.mem (.cons (.str _) (.cons (.str _) .nil))
instance:mX Scope.cells 2:=⟨fun _=>rfl,fun _=>rfl⟩
attribute [go_sem] Scope.jC
end Go.VL
end
section
namespace Go.VL
open Go.Proofs Go.RowKit
def akG (s sep:Str):Option Int:=match sep with
 |[c]=>some (Lib.indexByte s c)
 |_=>none
theorem arY (s sep:Str) {r:Int} (h:akG s sep=some r):aD Tryz.prog 334 [.str s,.str sep] (.int .i64 r):=by
 match sep,h with
 |[c],h=>cases h;exact adT s c
def aaS (s:Str):Option (List Str):=none
theorem agd (s:Str) {r:List Str} (h:aaS s=some r):aD Tryz.prog 305 [.str s,.fn (.func 306) [] []] (.ak (r.map aH) .unk):=by cases h
end Go.VL
end
section
namespace Go.VL
theorem aU {α:Type} {p:Prop} [Decidable p] {x:Option α} {r:α} (h:(if p then x else none)=some r):p/\x=some r:=by
 by_cases hp:p
 · rw [if_pos hp]at h;exact⟨hp,h⟩
 · rw [if_neg hp]at h;cases h
theorem aj {α β:Type} {o:Option α} {f:α->Option β} {r:β} (h:Option.bind o f=some r): ∃x,o=some x/\f x=some r:=by
 cases o with
 |none=>cases h
 |some x=>exact⟨x,rfl,h⟩
theorem aA {α:Type} {b:Bool} {x y:Option α} {r:α} (h:cond b x y=some r):(b=true/\x=some r)\/(b=false/\y=some r):=by
 cases b with
 |true=>exact .inl ⟨rfl,h⟩
 |false=>exact .inr ⟨rfl,h⟩
end Go.VL
namespace Go.VL
theorem ZU {α:Type} {x r:α} (h:some x=some r):x=r:=Option.some.inj h
end Go.VL
namespace Go.VL
variable [Glob]
theorem aD.lw {P:Program} {f:FuncId} {args args':List PV} {r:PV} (hw:Lw args' args) (h:aD P f args r):aD P f args' r:=h.wk hw
end Go.VL
end
section
namespace Go.VL
theorem dz {A B:Prop} (k:B) (h:A=B:=by first|(simp -implicitDefEqProofs only [go_sem, *];rfl)|rfl):A:=h▸k
theorem aP {A:Prop} (h:A:=by simp -implicitDefEqProofs only [go_sem,and_self, *]):A:=h
theorem ah {A B:Prop} (k:B) (h:A=B:=by first|(simp -implicitDefEqProofs only [go_sem,dL, *];rfl)|rfl):A:=h▸k
theorem au {A:Prop} (h:A:=by simp -implicitDefEqProofs only [go_sem,dL,and_self, *]):A:=h
theorem aI {L:List Nat} {σ σ':Nat->PV} (h:Fr L σ σ':=by repeat (first|assumption|refine Fr.upd (by decide) ?_)):Fr L σ σ':=h
theorem nZ {M:List Nat} {H H':AH} (h:HF M H H':=by repeat (first|assumption|refine HF.new ?_|refine HF.qJ ?_|refine HF.used ?_|refine HF.put (by first|(right;omega)|(left;simp only [List.mem_cons,true_or,or_true])) ?_)):HF M H H':=h
theorem bP {p:Prop} (h:p:=by first|omega|(simp only [AH.aK,AH.aL,AH.aM,AH.aN];omega)):p:=h
theorem eZ {H:AH} {c:Ck} (h:bq H c:=by repeat (first|assumption|exact bq.nil|exact bq.exact|apply bq.new|apply bq.put)):bq H c:=h
theorem arZ {q p:Prop} (e:q) (h:q->p:=by intro e;(try simp only [List.length_append,List.length_cons,List.length_nil]at e⊢);omega):p:=h e
end Go.VL
end
section
namespace Go.VL
open Go.Proofs Go.RowKit
theorem agf (l:List Int) (hl:l.length<=1000000) {c:Ck}:aD Tryz.prog 202 [.ak (l.map aS) c] (.ak (l.map aS) .unk):=by
 refine aD.wk (args:=[.ak (l.map aS) .unk]) ?_ (.ak .nil);refine Py ⟨_,Tryz.func202,rfl,by kernel_rfl⟩ (fun w G vs hg hi hv=> ?_) (aX.mem (.cons (aT dF _) .nil));obtain⟨u,rfl,hu⟩: ∃u,vs=#[u]/\V G 0 (.ak (l.map aS) .unk) u:=by
  obtain⟨h1,h2⟩:=hv
  match vs,h1,h2 with
  |⟨[u]⟩,_,h2=>exact⟨u,rfl,h2 0 _ u rfl rfl⟩
 obtain⟨ad,cap,rfl,hcap,hx⟩:=al9 hu;rw [List.length_map]at*;by_cases h0:l=[]
 · subst h0;cases ad with
   |none=>
    refine(Tryz.slices_Clone_int_nil 0 cap w).mono ?_;rintro e w' ⟨rfl,rfl⟩;exact⟨_,rfl,Below.refl _ _,fun G' n _=> .ak [] .unk 1 none 0 (fun _ _=> .bool true) (fun i cs e=>by simp at e) (Nat.le_refl _) (fun h=>absurd rfl h) (fun i cs j c e=>by simp at e) trivial⟩
   |some a=>
    refine(Tryz.slices_Clone_int_zero a cap w).mono ?_;rintro e w' ⟨v',rfl,⟨_,hown⟩,_,hb⟩;refine⟨_,rfl,hb,fun G' n _=> ?_⟩;rcases hown with⟨rfl,_⟩|⟨g,cp,cur,rfl,_,_,h1,_⟩
    · exact .ak [] .unk 1 none 0 (fun _ _=> .bool true) (fun i cs e=>by simp at e) (Nat.le_refl _) (fun h=>absurd rfl h) (fun i cs j c e=>by simp at e) trivial
    · exact .ak [] .unk 1 (some ⟨g,0,none⟩) cp (fun _ _=> .bool true) (fun i cs e=>by simp at e) h1 (fun h=>absurd rfl h) (fun i cs j c e=>by simp at e) trivial
 · obtain⟨b,o,rfl,f,e2,h4⟩:=hx 1 (fun cs h=>by obtain⟨s,_,rfl⟩:=List.mem_map.1 h;rfl) (by simpa using h0);have hcell: ∀j,j<l.length->w.cell? ⟨b,o+j,none⟩=some (.int .i64 (l.getD j 0)):=by
    intro j hj;have hg:(l.map aS)[j]? =some (aS l[j]):=by simp [hj]
    have a:=e2 j _ hg 0 (.int .i64 l[j]) rfl;have b':=h4 j _ 0 (.int .i64 l[j]) hg rfl;generalize f j 0=v at a b';cases b';have:=hi _ _ a;rw [Nat.mul_one,Nat.add_zero]at this;rw [this];simp [List.getD,hj]
   refine(Tryz.slices_Clone_int b o l.length cap l w (by simp) (by omega) (by simpa using hcell)).mono ?_;rintro e w' ⟨v',rfl,⟨_,hown⟩,hne,hb⟩;refine⟨_,rfl,hb,fun G' n hnew=> ?_⟩;rcases hown with⟨rfl,_⟩|⟨g,cp,cur,rfl,hge,hblk,h1,h2,h3,h5⟩
   · exact absurd rfl hne
   · refine Eq.mp (by rw [List.length_map]) (V.ak (G:=G') (n:=n) (l.map aS) .unk 1 (some ⟨g,0,none⟩) cp (fun i _=> .int .i64 (l[i]?.getD 0)) (fun i cs e=> ?_) (by simpa using h1) (fun _=>⟨g,0,rfl,fun i cs e j c ec=> ?_⟩) (fun i cs j c e ec=> ?_) trivial)
     · simp only [List.getElem?_map,Option.map_eq_some_iff]at e;obtain⟨s,_,rfl⟩:=e;rfl
     · simp only [List.getElem?_map,Option.map_eq_some_iff]at e;obtain⟨s,e1,rfl⟩:=e;have hj:j=0:=by
        have:=(List.getElem?_eq_some_iff.1 ec).1;simp [aS]at this;exact this
       subst hj;have hlt:=(List.getElem?_eq_some_iff.1 e1).1;refine hnew _ _ hge ?_;have hc:cur[i]? =some (.int .i64 s):=by
        have:=congrArg (·[i]?) h5
        simp only [Nat.mul_one,List.getElem?_take,hlt,if_true,List.map_map]at this;rw [<-Array.getElem?_toList,this];simp [e1,List.take_of_length_le]
       simp only [World.cell?,hblk,Nat.zero_add,Nat.mul_one,Nat.add_zero,e1,Option.getD_some];simpa using hc
     · simp only [List.getElem?_map,Option.map_eq_some_iff]at e;obtain⟨s,e1,rfl⟩:=e;have hj:j=0:=by
        have:=(List.getElem?_eq_some_iff.1 ec).1;simp [aS]at this;exact this
       subst hj;simp only [aS,List.getElem?_cons_zero,Option.some.injEq]at ec;subst ec;simp only [e1,Option.getD_some];exact .int .i64 s
theorem ar0 (n:Nd):kT 5 n.cells:=row_of rfl rfl
section
variable [Glob] {P:Program} {Q:Post} {σ:Nat->PV} {s:List Fm} {α:Type} {H:AH} {f:α->List PV} {sz:Nat}
theorem K7 {d:Option Nat} {b:Nat} {x y:AE} {l:List aR} [hr:mX f sz] (hf: ∀x,kT sz (f x)) (ys:List α) (c2:Ck)
 (hx:x.ev σ= .ak [] .exact) (hy:y.ev σ= .ak (ys.map f) c2) (hs:0<ys.length) (hb:ys.length*b<=1099511627776)
 (h: ∀(v':PV) (gZ:List Nat) (H':AH),aJ H' f sz ys v' gZ->Nw H [] gZ->HF [] H H'->(∀c3,bq H c3->bq H' c3)->WO P l s Q (upd σ d v') H'):
 WO P (⟨d,.n (.app sz b x y),none⟩::l) s Q σ H:=by
 show dH P _ _ σ H
 rw [FZ];simp only [nop,hx,hy];have h0: ¬((ys.map f).length=0):=by rw [List.length_map];omega
 simp only [vS,rowOf];rw [if_neg h0];split
 · intro cap hcap;simp only [List.length_map,List.length_nil,Nat.zero_add,List.nil_append]at hcap⊢;refine h _ [H.next] _ (.inr ⟨H.next,cap,List.replicate ((cap -ys.length)*sz) .any,rfl,rfl,hcap,Nat.lt_succ_self _,?_,by rw [List.length_replicate]⟩) (fun i hi=> .inr (by rw [List.mem_singleton.1 hi];exact Nat.le_refl _)) (HF.new (HF.refl _ _)) (fun c3 k=>k.new);show(if H.next=H.next then some _ else _)=_;rw [if_pos rfl]
 · rename_i hno;exact(hno ⟨oD hf ([]:List α),oD hf ys,by simpa using hb⟩).elim
end
theorem akH {H:AH} {id:Nat} {cs:List PV} (h:H.obj id=some cs):H.put id cs=H:=by
 unfold AH.put;have:(fun i=>if i=id then some cs else H.obj i)=H.obj:=by
  funext i
  by_cases e:i=id
  · subst e;rw [if_pos rfl,h]
  · rw [if_neg e]
 rw [this]
theorem adU (e:List Nd) (h0:0<e.length) (hl:e.length<=1000000):KT Tryz.prog 238 [fT e] Nd.cells 5 e:=by
 intro H;refine aF awn (by simp) (aC ?_);unfold ane;have h1: ¬(e.map Nd.cells).length=0:=by rw [List.length_map];omega
 simp -implicitDefEqProofs only [go_sem,show ¬e.length=0 by omega,if_true,ne_eq,not_false_eq_true];refine K7 (f:=Nd.cells) ar0 e .unk aP aP h0 (by omega) (fun v' gZ H' g1 g2 g3 g4=> ?_);simp -implicitDefEqProofs only [go_sem];exact⟨gZ,g1,g2,g3,g4⟩
theorem Y8 {C:List PV} {o:Nat} {p:PV} (ho:C[o]? =some p):putCells C o [p]=C:=by
 have hlt:=(List.getElem?_eq_some_iff.1 ho).1;have h2:=(List.getElem?_eq_some_iff.1 ho).2;unfold putCells;simp only [List.length_cons,List.length_nil,Nat.zero_add];rw [List.append_assoc,List.singleton_append,<-h2,List.getElem_cons_drop,List.take_append_drop]
theorem agh {σ:Nat->PV} {H:AH} {x w:AE} {id o:Nat} {p:PV} {C:List PV} (hx:x.ev σ= .ref id o) (hw:cellsOf (w.ev σ)=some [p]) (hone:p.one=true) (hC:H.obj id=some C) (ho:C[o]? =some p):iH (.store 1 x w) σ H=some (.any,H):=by
 have hlt:=(List.getElem?_eq_some_iff.1 ho).1;simp only [iH,hx,hw,hC];rw [if_pos ⟨rfl,by omega,by simp [hone]⟩,Y8 ho,akH hC]
theorem apH [Glob] {P:Program} {Q:Post} {σ:Nat->PV} {s:List Fm} {H:AH} {d:Option Nat} {k:DK} {l:List aR} {p:PV} (h:iH k σ H=some (p,H)) (h2:WO P l s Q (upd σ d p) H):WO P (⟨d,.d k,none⟩::l) s Q σ H:=by
 show WD P (iH k σ H) d l s Q σ
 rw [h];exact h2
end Go.VL
end
section
set_option maxRecDepth 100000
namespace Go.VL.Cn
open Go.Proofs Go.VL
def dc (n:Nat):Bool:=([284,263,181,188,258]:List Nat).contains n
def agi:AC:=(sO [oR 2 (.aV (.c (.ak [] .nil)))] (.seq (sO [oM 3 0,oR 4 (.bin .eql .sl (.t 3) (.c (.ak [] .nil)))] (m6 4 (sO [oR 2 (.aV (.c (.ak [] .nil)))] .ret) .skip)) (sO [oR 5 (.d9 1 []),oM 6 0,⟨(some 7),(.n (.app 1 16 (.t 5) (.t 6))),none⟩,oM 2 7] .ret)))
theorem anU:aY Tryz.prog dc true 181 8 [(.tmp 2)] agi:=bf Tryz.func181
end Go.VL.Cn
namespace Go.VL.Cd
open Go.Proofs Go.VL
def dc (n:Nat):Bool:=([181,1000000]:List Nat).contains n
def K8:AC:=(sO [p1 10 .lss 9 8] (.seq (z1 10) (.seq (.block 1 (sO [oM 11 9,oM 4 11] (.sD [0,0,0,0,0,0,48,112,240,496,0,0,3072,7168,15360,32752,65523,131059,262131,524287,1048575,2097151] [(oM 12 3,false),(oM 13 4,false),(oM 14 3,false),(oM 15 4,false),(oM 16 3,false),(oM 17 4,false),(oX 18 5 16 17,false),(oF 19 3 18,false),(oL 20 1 19,false),(u5 21 181 20,true),(oM 22 3,false),(oM 23 4,false),(oX 24 5 22 23,false),(oF 25 4 24,false),(oL 26 1 25,false),(u5 27 202 26,false),(oX 28 5 12 13,false),(oF 29 3 28,false),(oS 1 29 21,true)] [oX 30 5 14 15,oF 31 4 30,oS 1 31 27]))) (i6 32 9))))
def anV:AC:=(sO [oR 2 (.aV (.c (.ak [] .nil)))] (sO [oM 5 0,u5 6 238 5,oM 3 6] (.seq (sO [oM 7 3,oN 8 7,oI 9 0] (.block 0 (.loop K8))) (sO [oM 33 3,oM 2 33] .ret))))
theorem aw3:aY Tryz.prog dc false 188 34 [(.tmp 2)] anV:=bf Tryz.func188
end Go.VL.Cd
end
section
namespace Go.VL
open Go.Proofs Go.RowKit
inductive NV where
 |p (l:List Str)
 |m (id len cap:Nat)
def NV.pv:NV->PV
 | .p l=> .ak (l.map aH) .unk
 | .m id len cap=> .bR id 0 len cap 1
def NV.ids:NV->List Nat
 | .p _=>[]
 | .m id _ _=>[id]
def jr (x:Nd×NV):List PV:=[.int .i64 x.1.kind,.int .i64 x.1.n,.str x.1.text,x.2.pv,.ak (x.1.args.map aS) .unk]
instance:mX jr 5:=⟨fun _=>rfl,fun x=>by obtain⟨n,v⟩:=x;cases v<;>rfl⟩
def jc (H:AH) (x:Nd×NV):Prop:=match x.2 with
 | .p l=>l=[]/\x.1.names=[]
 | .m id len cap=>x.1.names≠[]/\aJ H aH 1 x.1.names (.bR id 0 len cap 1) [id]
theorem jc.hf {M:List Nat} {H H':AH} {x:Nd×NV} (h:jc H x) (hf:HF M H H') (hd:Dj x.2.ids M):jc H' x:=by
 obtain⟨n,v⟩:=x;cases v with
 |p l=>exact h
 |m id len cap=>exact⟨h.1,h.2.hf hf hd⟩
theorem jc.lt {H:AH} {x:Nd×NV} (h:jc H x): ∀j∈x.2.ids,j<H.next:=by
 obtain⟨n,v⟩:=x;cases v with
 |p l=>intro j hj;cases hj
 |m id len cap=>exact h.2.lt
structure Nj (H:AH) (l:List (Nd×NV)) (v:PV) (id:Nat) (k lo:Nat):Prop where
 row:aJ H jr 5 l v [id]
 ED: ∀(i:Nat) (x:Nd×NV),l[i]? =some x->if i<k then jc H x else x.2= .p x.1.names
 dj: ∀(i j:Nat) (x y:Nd×NV),l[i]? =some x->l[j]? =some y->i≠j->Dj x.2.ids y.2.ids
 ne: ∀(i:Nat) (x:Nd×NV),l[i]? =some x->id∉x.2.ids
 lob: ∀(i:Nat) (x:Nd×NV),l[i]? =some x-> ∀j∈x.2.ids,lo<=j
 Wx:lo<=id
theorem agj (l:List Str) (h0:l≠[]) (hl:l.length<=1000000):KT Tryz.prog 181 [.ak (l.map aH) .unk] aH 1 l:=by
 intro H;refine aF Cn.anU (by simp) (aC ?_);unfold Cn.agi;have hp:0<l.length:=List.length_pos_iff.2 h0;have h1: ¬(l.map aH).length=0:=by rw [List.length_map];omega
 simp -implicitDefEqProofs only [go_sem,show ¬l.length=0 by omega,if_true,ne_eq,not_false_eq_true];refine K7 (f:=aH) jZ l .unk aP aP hp (by omega) (fun v' gZ H' g1 g2 g3 g4=> ?_);simp -implicitDefEqProofs only [go_sem];exact⟨gZ,g1,g2,g3,g4⟩
theorem Pz (n:Nd) (hl:n.names.length<=1000000) (H:AH):bA Tryz.prog 181 [.ak (n.names.map aH) .unk] H fun v H'=> ∃y:NV,v=y.pv/\jc H' (n,y)/\(∀j∈y.ids,H.next<=j)/\HF [] H H'/\ ∀c,bq H c->bq H' c:=by
 by_cases h0:n.names=[]
 · refine bA.mono (Nb n.names hl H) fun v H' ⟨h1,h2⟩=>⟨.p [],?_,(show jc H' (n,.p [])from⟨rfl,h0⟩),fun j hj=>absurd hj List.not_mem_nil,?_,?_⟩
   · rw [h1,h0];rfl
   · subst h2;exact HF.refl _ _
   · subst h2;exact fun _ h=>h
 · refine bA.mono (agj n.names h0 hl H) fun v H' ⟨ids,h1,h2,h3,h4⟩=> ?_;have h1':=h1;rcases h1 with⟨_,h,_⟩|⟨id,cap,junk,rfl,rfl,_⟩
   · exact absurd h h0
   · refine⟨.m id n.names.length cap,rfl,⟨h0,h1'⟩,fun j hj=> ?_,h3,h4⟩;rcases h2 j hj with q|q
     · cases q
     · exact q
section
variable {α:Type} {f:α->List PV} {sz:Nat} {σ:Nat->PV} {H:AH}
theorem agk {n:Nat} {x w:AE} [hr:mX f sz] {xs:List α} {v:PV} {ids:List Nat} {id o i j:Nat} {a y:α} {vs:List PV}
 (hx:x.ev σ= .ref id o) (hid:ids=[id]) (ho:o=i*sz+j) (hrow:aJ H f sz xs v ids) (ha:xs[i]? =some a) (hv:cellsOf (w.ev σ)=some vs) (hl:vs.length=n) (hone:vs.all PV.one=true) (hj:j+n<=sz) (hy:putCells (f a) j vs=f y):
 ∃H',iH (.store n x w) σ H=some (.any,H')/\aJ H' f sz (xs.set i y) v ids/\HF ids H H'/\ ∀c,bq H c->bq H' c:=by
 have h:=qc (P:=Tryz.prog) (s:=[]) (Q:=fun e σ' H'=>aJ H' f sz (xs.set i y) v ids/\HF ids H H'/\ ∀c,bq H c->bq H' c) (d:=none) (n:=n) (x:=x) (w:=w) (l:=[]) hx hid ho hrow ha hv hl hone hj hy (fun H' h1 h2 h3=>⟨h1,h2,h3⟩);have h2:WD Tryz.prog (iH (.store n x w) σ H) none [] [] (fun e σ' H'=>aJ H' f sz (xs.set i y) v ids/\HF ids H H'/\ ∀c,bq H c->bq H' c) σ:=h;have key: ∀q,iH (.store n x w) σ H=some q->q.1= .any:=by
  intro q hq;simp only [iH,hx,hv]at hq;split at hq
  · split at hq
    · cases hq;rfl
    · cases hq
  · cases hq
 cases hd:iH (.store n x w) σ H with
 |none=>rw [hd]at h2;exact h2.elim
 |some q=>
  rw [hd]at h2;obtain⟨p,H'⟩:=q;have:=key _ hd;simp only at this;subst this;exact⟨H',rfl,h2⟩
end
def vM:List (aR×Bool):=[(oM 12 3,false),(oM 13 4,false),(oM 14 3,false),(oM 15 4,false),(oM 16 3,false),(oM 17 4,false),(oX 18 5 16 17,false),(oF 19 3 18,false),(oL 20 1 19,false),(oC 21 181 [(.t 20)],true),(oM 22 3,false),(oM 23 4,false),(oX 24 5 22 23,false),(oF 25 4 24,false),(oL 26 1 25,false),(oC 27 202 [(.t 26)],false),(oX 28 5 12 13,false),(oF 29 3 28,false),(oS 1 29 21,true)]
def anW:List Nat:=[0,0,0,0,0,0,48,112,240,496,0,0,3072,7168,15360,32752,65523,131059,262131,524287,1048575,2097151]
def qX (v:PV) (i:Nat) (id:Nat) (n:Nd) (y:PV):Nat->PV
 |0|2|4|10=>v
 |1|3|5|11=> .int .i64 i
 |6|12|16=> .ref id (i*5)
 |7|17=> .ref id (i*5+3)
 |8=> .ak (n.names.map aH) .unk
 |9=>y
 |13=> .ref id (i*5+4)
 |14|15=> .ak (n.args.map aS) .unk
 |18=> .any
 |_=>ud
theorem agl (n:Nd) (h1:n.names.length<=1000000) (h2:n.args.length<=1000000) {l:List (Nd×NV)} {i id:Nat} {v:PV} {σ:Nat->PV} {H:AH} {K:(Nat->PV)->AH->Prop}
 (hrow:aJ H jr 5 l v [id]) (hx:l[i]? =some (n,.p n.names)) (s3:σ 3=v) (s4:σ 4= .int .i64 i)
 (hK: ∀(y:NV) (σ':Nat->PV) (H':AH),jc H' (n,y)->(∀j∈y.ids,H.next<=j)->aJ H' jr 5 (l.set i (n,y)) v [id]->HF [id] H H'->(∀c,bq H c->bq H' c)->σ'=cO vM (qX v i id n y.pv) σ 19->K σ' H'):
 ∃val:Nat->PV,vX Tryz.prog anW vM K σ (vY vM).length (vY vM) val H:=by
 obtain⟨id',C,e1,hid,hC,hcell,hle,hdrop,hI⟩:=aJ.content hrow hx;obtain rfl:id=id':=by simpa using e1
 have hI':jV 5 v (.int .i64 i)=some (.ref id (i*5)):=hI .i64 i (by omega) (by omega);have c3:C[i*5+3]? =some (.ak (n.names.map aH) .unk):=hcell 3 _ rfl;have c4:C[i*5+4]? =some (.ak (n.args.map aS) .unk):=hcell 4 _ rfl;have anX:vY vM=[9,18]:=by kernel_rfl
 refine⟨qX v i id n ud,?_⟩
 refine apG (fun rem val H'=>(rem=[9,18]/\val=qX v i id n ud/\H'=H)\/
  (rem=[18]/\ ∃y:NV,val=qX v i id n y.pv/\jc H' (n,y)/\(∀j∈y.ids,H.next<=j)/\HF [] H H'/\ ∀c,bq H c->bq H' c)\/
  (rem=[]/\ ∃y:NV,val=qX v i id n y.pv/\jc H' (n,y)/\(∀j∈y.ids,H.next<=j)/\aJ H' jr 5 (l.set i (n,y)) v [id]/\HF [id] H H'/\ ∀c,bq H c->bq H' c)) ?_ ?_ ?_ _ _ _ _ (Nat.le_refl _) (.inl ⟨anX,rfl,rfl⟩)
 ·
   have key: ∀(y:PV) (H':AH),H'.obj id=some C->Al Tryz.prog H' (fun _=>false) 0 vM (qX v i id n y) σ:=by
    intro y H' hC';unfold vM;refine⟨.inr (.inr ⟨rfl,?_⟩),.inr (.inr ⟨rfl,?_⟩),.inr (.inr ⟨rfl,?_⟩),.inr (.inr ⟨rfl,?_⟩),.inr (.inr ⟨rfl,?_⟩),.inr (.inr ⟨rfl,?_⟩),.inr (.inr ⟨rfl,?_⟩),.inr (.inr ⟨rfl,?_⟩),.inr (.inr ⟨rfl,?_⟩),.inl rfl,.inr (.inr ⟨rfl,?_⟩),.inr (.inr ⟨rfl,?_⟩),.inr (.inr ⟨rfl,?_⟩),.inr (.inr ⟨rfl,?_⟩),.inr (.inr ⟨rfl,?_⟩),.inr (.inr ⟨rfl,?_⟩),.inr (.inr ⟨rfl,?_⟩),.inr (.inr ⟨rfl,?_⟩),.inl rfl,trivial⟩
    all_goals simp -implicitDefEqProofs only [eG,go_sem,qX,s3,s4,hI',hC',c3,c4,Nat.reduceAdd,and_self]
    exact agf n.args h2 H'
   rintro rem val H' (⟨rfl,rfl,rfl⟩|⟨rfl,y,rfl,g1,g2,g3,g4⟩|⟨rfl,y,rfl,g1,g2,g3,g4,g5⟩)
   · exact⟨fun _=>false,key _ _ hC,fun i h=>by cases h⟩
   · exact⟨fun _=>false,key _ _ ((g3.2 id hid List.not_mem_nil).trans hC),fun i h=>by cases h⟩
   · refine⟨fun k=>decide (k<18/\k≠2/\k≠3),?_,fun k h=> .inr ⟨18,by rw [anX];simp,by simp,?_⟩⟩
     · unfold vM;refine⟨.inr (.inl rfl),.inr (.inl rfl),.inr (.inr ⟨rfl,?_⟩),.inr (.inr ⟨rfl,?_⟩),.inr (.inl rfl),.inr (.inl rfl),.inr (.inl rfl),.inr (.inl rfl),.inr (.inl rfl),.inl rfl,.inr (.inl rfl),.inr (.inl rfl),.inr (.inl rfl),.inr (.inl rfl),.inr (.inl rfl),.inr (.inl rfl),.inr (.inl rfl),.inr (.inl rfl),.inl rfl,trivial⟩
       all_goals simp -implicitDefEqProofs only [eG,go_sem,qX,s3,s4,Nat.reduceAdd,and_self]
     · have h:=of_decide_eq_true h;have hall:(List.range 18).all (fun k=>decide (k=2)||decide (k=3)||eO anW k 18)=true:=by kernel_rfl
       have:=List.all_eq_true.1 hall k (List.mem_range.2 h.1);simpa [h.2.1,h.2.2]using this
 · have hvf: ∀(a b:PV) (k:Nat),k≠9->qX v i id n a k=qX v i id n b k:=by
    intro a b k hk;unfold qX;split<;>first|rfl|exact absurd rfl hk
   rintro rem val H' j o (⟨rfl,rfl,rfl⟩|⟨rfl,y,rfl,g1,g2,g3,g4⟩|⟨rfl,y,rfl,g1,g2,g3,g4,g5⟩) hj ho hb
   · have hj9:j=9:=by
      simp only [List.mem_cons,List.not_mem_nil,or_false]at hj;rcases hj with rfl|rfl
      · rfl
      · rcases hb 9 (by simp)with h|h
        · exact absurd h (by decide+kernel)
        · cases h
     subst hj9;have ho':o=oC 21 181 [(.t 20)]:=by
      have:vM[9]? =some (oC 21 181 [(.t 20)],true):=rfl;rw [this]at ho;exact(Prod.mk.inj (Option.some.inj ho)).1.symm
     subst ho';refine⟨trivial,?_⟩;show bA Tryz.prog 181 [cO vM (qX v i id n ud) σ 9 20] H' _;have e20:cO vM (qX v i id n ud) σ 9 20= .ak (n.names.map aH) .unk:=rfl;rw [e20];refine bA.mono (Pz n h1 H') fun r H1 ⟨y,k1,k2,k3,k4,k5⟩=>⟨qX v i id n y.pv,fun k hk _=>hvf _ _ k (fun h=>hk (by rw [h];simp)),k1.symm,.inr (.inl ⟨by rfl,y,rfl,k2,k3,k4,k5⟩)⟩
   · have azv:j=18:=by simpa using hj
     subst azv;have ho':o=oS 1 29 21:=by
      have:vM[18]? =some (oS 1 29 21,true):=rfl;rw [this]at ho;exact(Prod.mk.inj (Option.some.inj ho)).1.symm
     subst ho';refine⟨trivial,?_⟩;have hrow':aJ H' jr 5 l v [id]:=hrow.hf g3 (fun _ _ h=>by cases h);obtain⟨H2,d1,d2,d3,d4⟩:=agk (f:=jr) (σ:=cO vM (qX v i id n y.pv) σ 18) (H:=H') (x:= .t 29) (w:= .t 21) (n:=1) (id:=id) (o:=i*5+3) (i:=i) (j:=3) (a:=(n,.p n.names)) (y:=(n,y)) (vs:=[y.pv]) rfl rfl rfl hrow' hx (by cases y<;>rfl) rfl (by cases y<;>rfl) (by decide) (by cases y<;>rfl);show(match iH (.store 1 (.t 29) (.t 21)) (cO vM (qX v i id n y.pv) σ 18) H' with|some (p,H2)=>_|none=>False);rw [d1];refine⟨qX v i id n y.pv,fun _ _ _=>rfl,rfl,.inr (.inr ⟨by rfl,y,rfl,g1.hf d3 (fun a ha hm=> ?_),g2,d2,?_,fun c h=>d4 c (g4 c h)⟩)⟩
     · have:=List.mem_singleton.1 hm;have:=g2 a ha;omega
     · exact⟨Nat.le_trans g3.1 d3.1,fun a ha hm=>(d3.2 a (Nat.lt_of_lt_of_le ha g3.1) hm).trans (g3.2 a ha List.not_mem_nil)⟩
   · cases hj
 · rintro val H' (⟨h,_⟩|⟨h,_⟩|⟨_,y,rfl,g1,g2,g3,g4,g5⟩)
   · cases h
   · cases h
   · exact hK y _ H' g1 g2 g3 g4 g5 rfl
end Go.VL
end
