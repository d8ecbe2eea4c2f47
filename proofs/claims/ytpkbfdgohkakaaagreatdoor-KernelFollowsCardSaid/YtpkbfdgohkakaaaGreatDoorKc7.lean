/- Part 7. -/
import Derived.Test.YtpkbfdgohkakaaaGreatDoorKc6
import Derived.Below
import Derived.Shelf.SlGeneric
import Derived.Shelf.Small.Bits
import Derived.Shelf.Strconv.Itoa0
import Derived.Shelf.Strconv.Itoa1
import Derived.Shelf.LaysM
import Derived.Shelf.Strconv.Itoa2
import Derived.Shelf.Strconv.Itoa3
import Derived.Shelf.Strings.Search1
import Derived.Shelf.Strings.Search2
import Derived.Shelf.Strings.Cut
import Derived.Shelf.Strings.Shaped
import Derived.Shelf.Sort.Plain
import Derived.Shelf.GgClosure.StringsIndexFunc
import Derived.Ground.GgwProg
import Derived.Shelf.GgClosure.StringsIndexFuncTop
import Derived.Shelf.Strings.Prefix
import Derived.Shelf.Strings.Fields
import Derived.Shelf.Strings.SplitShaped
import Derived.Shelf.Unicode.Latin
import Derived.Shelf.Bits.Mul64
import Derived.Shelf.Unicode.Is16White
import Derived.Shelf.Unicode.IsSpaceAny
import Derived.Shelf.Unicode.Is16WhiteD
import Derived.Shelf.Unicode.IsSpaceAnyD
import Derived.Shelf.Strings.FieldsAny
import Derived.Shelf.Strings.FieldsFuncAny
import Derived.Shelf.Unicode.Is16Any
import Derived.Shelf.Unicode.Is32Any
import Derived.Shelf.Unicode.ExclAny
import Derived.Shelf.Strings.FuncGrows
import Derived.Shelf.Slices.Turned
import Derived.Shelf.Slices.Equal
import Derived.Ground.Names2Prog
import Derived.Shelf.Slices.Clone
import Derived.Shelf.Slices.CompactS
import Derived.Shelf.Slices.Cells
import Derived.Shelf.Slices.In.SortNone
import Derived.Shelf.Slices.Empties2
import Derived.Shelf.Spec.SlicesGrow
import Derived.Ground.SlgnProg
import Derived.Shelf.SlicesE.Clone
import Derived.Test.YtpkbfdgohkakaaaGreatDoorProg
import Derived.KernelRfl
set_option maxRecDepth 8000
set_option linter.unusedVariables false
set_option linter.unusedSectionVars false
set_option linter.unusedSimpArgs false
section
namespace Go.VL
open Go.RowKit
variable [Glob]
section
variable {P:Program} {B:Nat->Prop} {G:Gh} {H:AH} {w w':World}
theorem HM.below (hM:HM B H G w) (h:Below w.heap.size w w'):HM B H G w':=by
 have hlt: ∀b arr t fr,w.heap[b]? =some (.cells arr t fr)->b<w.heap.size:=fun b arr t fr e=>(Array.getElem?_eq_some_iff.1 e).1
 exact{
  glob:=hM.glob
  rH:=fun a x e=>by
   have hc:=hM.rH a x e;exact(World.cell?_of_block (h.block _ (World.block_lt_of_cell? w a hc))).trans hc
  obj:=fun id cs e=>by
   obtain⟨k0,b,arr,t,k1,k2,k3,k4,k5⟩:=hM.obj id cs e;exact⟨k0,b,arr,t,k1,k2,(h.block b (hlt _ _ _ _ k3)).trans k3,k4,k5⟩
  inj:=hM.inj
  tok:=fun k e=>by
   obtain⟨k0,b,o,arr,t,k1,k2,k3,k5⟩:=hM.tok k e;exact⟨k0,b,o,arr,t,k1,k2,(h.block b (hlt _ _ _ _ k3)).trans k3,k5⟩
  r9:=hM.r9
  tobj:=hM.tobj
  wh:=hM.wh.keep fun b _ hb=>h.block b hb}
theorem Tr.below (h:Below w.heap.size w w'):Tr B w w':=
 ⟨h.size,fun b hb _=>h.block b hb,h.os,h.tape,h.output,fun b o e _=>(h.block b (Array.getElem?_eq_some_iff.1 e).1).trans e⟩
theorem OY {f:FuncId} {args:List PV} {r:PV} (he:Enters P f)
 (h: ∀(w:World) (G:Gh) (vs:Array Value),(∀a x,Glob.gc a=some x->w.cell? a=some x)->(∀a x,G.F a=some x->w.cell? a=some x)->WH (fun b=>w.heap.size<=b) w->Vs G 0 args vs->Calls P f vs w fun e w'=> ∃v,e= .returned v/\Below w.heap.size w w'/\ ∀G n,V G n r v)
 (hp: ∀a∈args,Pu a):aD P f args r:=by
 intro H;refine⟨he,fun B G w vs hU hM hv=> ?_⟩;have hv':Vs ⟨G.F,fun _=>none,fun _=>none⟩ 0 args vs:=⟨hv.1,fun j c x hc hx=>V.pure (G:=G) (G':=⟨G.F,fun _=>none,fun _=>none⟩) (n':=0) (fun(_:Addr) (_:Value) e=>e) (hv.2 j c x hc hx) (hp c (List.mem_of_getElem? hc))⟩;refine(h w ⟨G.F,fun _=>none,fun _=>none⟩ vs (fun a x e=>hM.rH a x (hM.glob a x e)) hM.rH hM.wh.old hv').mono ?_;rintro e w' ⟨v,h1,h2,h3⟩;exact⟨r,v,H,G,h1,Tr.below h2,Ext.refl B _ G,Nat.le_refl _,hM.below h2,h3 G _,rfl,rfl⟩
theorem ab5 {f:FuncId} {args:List PV} {r:PV} (he:Enters P f)
 (h: ∀(w:World) (G:Gh) (vs:Array Value),(∀a x,Glob.gc a=some x->w.cell? a=some x)->(∀a x,G.F a=some x->w.cell? a=some x)->Vs G 0 args vs->Calls P f vs w fun e w'=> ∃v,e= .returned v/\Below w.heap.size w w'/\ ∀G n,V G n r v)
 (hp: ∀a∈args,Pu a):aD P f args r:=OY he (fun w G vs h1 h2 _=>h w G vs h1 h2) hp
theorem Rf {f:FuncId} {args:List PV} {r:PV} (he:Enters P f)
 (h: ∀(w:World) (G:Gh) (vs:Array Value),(∀a x,Glob.gc a=some x->w.cell? a=some x)->(∀a x,G.F a=some x->w.cell? a=some x)->Vs G 0 args vs->Calls P f vs w fun e w'=> ∃v,e= .returned v/\Below w.heap.size w w'/\
  ∀(G':Gh) (n:Nat),(∀a x,w.heap.size<=a.block->w'.cell? a=some x->G'.F a=some x)->V G' n r v)
 (hp: ∀a∈args,Pu a):aD P f args r:=by
 intro H;refine⟨he,fun B G w vs hU hM hv=> ?_⟩;have hv':Vs ⟨G.F,fun _=>none,fun _=>none⟩ 0 args vs:=⟨hv.1,fun j c x hc hx=>V.pure (G:=G) (G':=⟨G.F,fun _=>none,fun _=>none⟩) (n':=0) (fun(_:Addr) (_:Value) e=>e) (hv.2 j c x hc hx) (hp c (List.mem_of_getElem? hc))⟩;refine(h w ⟨G.F,fun _=>none,fun _=>none⟩ vs (fun a x e=>hM.rH a x (hM.glob a x e)) hM.rH hv').mono ?_;rintro e w' ⟨v,h1,h2,h3⟩;have hM1:=hM.below h2
 let G2:Gh:=⟨fun a=>match G.F a with|some x=>some x|none=>if w.heap.size<=a.block then w'.cell? a else none,G.m,G.τ⟩
 have hF: ∀a x,G.F a=some x->G2.F a=some x:=fun a x e=>by simp only [G2,e]
 have hnone: ∀a,a.block<w.heap.size->G.F a=none->G2.F a=none:=fun a ha e=>by
  simp only [G2,e];rw [if_neg (by omega)]
 have hE:Ext B H.next G G2:=⟨hF,fun _ _=>rfl,fun _ _=>rfl,fun a e1 e2=>hU _ (by
  rcases Nat.lt_or_ge a.block w.heap.size with q|q
  · exact absurd (hnone a q e1) e2
  · exact q)⟩
 have aAl: ∀a x,G2.F a=some x->w'.cell? a=some x:=fun a x e=>by
  simp only [G2]at e;split at e
  · rename_i y hy;cases e;exact hM1.rH a x hy
  · split at e
    · exact e
    · cases e
 have hlt: ∀b arr t fr,w.heap[b]? =some (.cells arr t fr)->b<w.heap.size:=fun b arr t fr e=>(Array.getElem?_eq_some_iff.1 e).1
 have hM2:HM B H G2 w':={
  glob:=fun a x e=>hF a x (hM.glob a x e)
  rH:=aAl
  obj:=fun id cs e=>by
   obtain⟨k0,b,arr,t,k1,k2,k3,k4,k5⟩:=hM.obj id cs e;have hb:=hlt _ _ _ _ k3;exact⟨k0,b,arr,t,k1,k2,(h2.block b hb).trans k3,k4.mono hE (Nat.le_refl _),fun off=>hnone _ hb (k5 off)⟩
  inj:=hM.inj
  tok:=fun k e=>by
   obtain⟨k0,b,o,arr,t,k1,k2,k3,k5⟩:=hM.tok k e;have hb:=hlt _ _ _ _ k3;exact⟨k0,b,o,arr,t,k1,k2,(h2.block b hb).trans k3,fun off ho=>hnone _ hb (k5 off ho)⟩
  r9:=hM.r9
  tobj:=hM.tobj
  wh:=hM.wh.keep fun b _ hb=>h2.block b hb}
 refine⟨r,v,H,G2,h1,Tr.below h2,hE,Nat.le_refl _,hM2,h3 G2 _ (fun a x ha e=> ?_),rfl,rfl⟩;cases hg:G.F a with
 |some y=>
  have:=hM1.rH a y hg;rw [e]at this;cases this;simp only [G2,hg]
 |none=>simp only [G2,hg];rw [if_pos ha];exact e
theorem Vs.str2 {n:Nat} {s t:List UInt8} {vs:Array Value} (h:Vs G n [.str s,.str t] vs):vs=#[.string ⟨s.toArray⟩,.string ⟨t.toArray⟩]:=by
 obtain⟨h1,h2⟩:=h
 match vs,h1,h2 with
 |⟨[v,u]⟩,_,h2=>
   have a:=h2 0 (.str s) v rfl rfl;have b:=h2 1 (.str t) u rfl rfl;cases a;cases b;rfl
theorem Vs.aEx {n:Nat} {k:IntKind} {x:Int} {vs:Array Value} (h:Vs G n [.int k x] vs):vs=#[.int k x]:=by
 obtain⟨h1,h2⟩:=h
 match vs,h1,h2 with
 |⟨[v]⟩,_,h2=>
   have:=h2 0 (.int k x) v rfl rfl;cases this;rfl
end
end Go.VL
end
section
namespace Go.Proofs
open Go.Shelf
def Tryz.laysM246_ren:Go.Shelf.Ren:=⟨fun|246=>339|283=>344|284=>345|285=>346|286=>347|129=>317|317=>350|318=>351|319=>352|320=>353|337=>354|338=>355|n=>n,fun|2=>2|3=>3|9=>9|4=>4|171=>346|0=>0|53=>293|37=>153|5=>5|173=>348|212=>351|51=>290|20=>20|213=>352|46=>258|232=>353|233=>354|n=>n,fun|17=>3|18=>4|19=>5|n=>n⟩
def Tryz.laysM243_ren:Go.Shelf.Ren:=⟨fun|243=>333|246=>339|283=>344|284=>345|285=>346|286=>347|129=>317|317=>350|318=>351|319=>352|320=>353|337=>354|338=>355|n=>n,fun|3=>3|9=>9|2=>2|4=>4|171=>346|0=>0|53=>293|37=>153|5=>5|173=>348|212=>351|51=>290|20=>20|213=>352|46=>258|232=>353|233=>354|n=>n,fun|17=>3|18=>4|19=>5|n=>n⟩
def Tryz.laysM171_ren:Go.Shelf.Ren:=⟨fun|171=>320|243=>333|246=>339|283=>344|284=>345|285=>346|286=>347|129=>317|317=>350|318=>351|319=>352|320=>353|337=>354|338=>355|n=>n,fun|3=>3|9=>9|2=>2|4=>4|171=>346|0=>0|53=>293|37=>153|5=>5|173=>348|212=>351|51=>290|20=>20|213=>352|46=>258|232=>353|233=>354|n=>n,fun|17=>3|18=>4|19=>5|n=>n⟩
theorem Tryz.laysM171:Go.Proofs.LaysM.n171 Tryz.prog Tryz.laysM171_ren:={
 mixed:=by kernel_rfl
 f129:=Tryz.func317.trans (congrArg some (by kernel_rfl))
 f171:=Tryz.func320.trans (congrArg some (by kernel_rfl))
 f243:=Tryz.func333.trans (congrArg some (by kernel_rfl))
 f246:=Tryz.func339.trans (congrArg some (by kernel_rfl))
 f283:=Tryz.func344.trans (congrArg some (by kernel_rfl))
 f284:=Tryz.func345.trans (congrArg some (by kernel_rfl))
 f285:=Tryz.func346.trans (congrArg some (by kernel_rfl))
 f286:=Tryz.func347.trans (congrArg some (by kernel_rfl))
 f317:=Tryz.func350.trans (congrArg some (by kernel_rfl))
 f318:=Tryz.func351.trans (congrArg some (by kernel_rfl))
 f319:=Tryz.func352.trans (congrArg some (by kernel_rfl))
 f320:=Tryz.func353.trans (congrArg some (by kernel_rfl))
 f337:=Tryz.func354.trans (congrArg some (by kernel_rfl))
 f338:=Tryz.func355.trans (congrArg some (by kernel_rfl))
 t0:=Tryz.underlying0
 a0:=Tryz.isAgg0
 z0:=Tryz.sizeOf0
 v0:=Tryz.zeroValue0
 t2:=Tryz.underlying2
 a2:=Tryz.isAgg2
 z2:=Tryz.sizeOf2
 v2:=Tryz.zeroValue2
 t3:=Tryz.underlying3
 a3:=Tryz.isAgg3
 z3:=Tryz.sizeOf3
 v3:=Tryz.zeroValue3
 t4:=Tryz.underlying4
 a4:=Tryz.isAgg4
 z4:=Tryz.sizeOf4
 v4:=Tryz.zeroValue4
 t5:=Tryz.underlying5
 a5:=Tryz.isAgg5
 z5:=Tryz.sizeOf5
 v5:=Tryz.zeroValue5
 t9:=Tryz.underlying9
 a9:=Tryz.isAgg9
 z9:=Tryz.sizeOf9
 v9:=Tryz.zeroValue9
 t20:=Tryz.underlying20
 a20:=Tryz.isAgg20
 z20:=Tryz.sizeOf20
 v20:=Tryz.zeroValue20
 t37:=Tryz.underlying153
 a37:=Tryz.isAgg153
 z37:=Tryz.sizeOf153
 v37:=Tryz.zeroValue153
 t46:=Tryz.underlying258
 a46:=Tryz.isAgg258
 z46:=Tryz.sizeOf258
 v46:=Tryz.zeroValue258
 t51:=Tryz.underlying290
 a51:=Tryz.isAgg290
 z51:=Tryz.sizeOf290
 v51:=Tryz.zeroValue290
 t53:=Tryz.underlying293
 a53:=Tryz.isAgg293
 z53:=Tryz.sizeOf293
 v53:=Tryz.zeroValue293
 t171:=Tryz.underlying346
 a171:=Tryz.isAgg346
 z171:=Tryz.sizeOf346
 v171:=Tryz.zeroValue346
 t173:=Tryz.underlying348
 a173:=Tryz.isAgg348
 z173:=Tryz.sizeOf348
 v173:=Tryz.zeroValue348
 t212:=Tryz.underlying351
 a212:=Tryz.isAgg351
 z212:=Tryz.sizeOf351
 v212:=Tryz.zeroValue351
 t213:=Tryz.underlying352
 a213:=Tryz.isAgg352
 z213:=Tryz.sizeOf352
 t232:=Tryz.underlying353
 a232:=Tryz.isAgg353
 z232:=Tryz.sizeOf353
 v232:=Tryz.zeroValue353
 t233:=Tryz.underlying354
 a233:=Tryz.isAgg354
 z233:=Tryz.sizeOf354
 v233:=Tryz.zeroValue354
 g17:=by kernel_rfl
 g18:=by kernel_rfl
 g19:=by kernel_rfl
 i0:=by kernel_rfl
 i2:=by kernel_rfl
 i3:=by kernel_rfl
 i4:=by kernel_rfl
 i5:=by kernel_rfl
 i9:=by kernel_rfl
 i20:=by kernel_rfl
 i37:=by kernel_rfl
 i46:=by kernel_rfl
 i51:=by kernel_rfl
 i53:=by kernel_rfl
 i171:=by kernel_rfl
 i173:=by kernel_rfl
 i212:=by kernel_rfl
 i232:=by kernel_rfl
 i233:=by kernel_rfl
 m17:=by kernel_rfl
 m18:=by kernel_rfl
 m19:=by kernel_rfl}
open Go.RowKit Go.Sort Go.Lib in
theorem Tryz.strconv_Itoa (n:Int) (h0: -9223372036854775808<=n) (h1:n<=9223372036854775807) (w:World) (htab:Lib.TabIs Tryz.prog w "internal/strconv.uint64pow10" .u64 Lib.pow10Tab):
 Calls Tryz.prog 320 #[.int .i64 n] w fun e w'=>e= .returned (.string ⟨(Lib.itoa n).toArray⟩)/\ ∃k os,w'=grow (w.drewN k) os:=Any.strconv_Itoa Tryz.laysM171 n h0 h1 w htab
def Tryz.lays219_ren:Go.Shelf.Ren:=⟨fun|219=>334|217=>340|225=>341|224=>342|267=>343|266=>348|314=>349|n=>n,fun|9=>9|3=>3|4=>4|5=>5|46=>258|146=>291|51=>290|n=>n,fun|1=>2|n=>n⟩
theorem Tryz.lays219:Go.Proofs.Lays.n219 Tryz.prog Tryz.lays219_ren:={
 mixed:=by kernel_rfl
 f217:=Tryz.func340.trans (congrArg some (by kernel_rfl))
 f219:=Tryz.func334.trans (congrArg some (by kernel_rfl))
 f224:=Tryz.func342.trans (congrArg some (by kernel_rfl))
 f225:=Tryz.func341.trans (congrArg some (by kernel_rfl))
 f266:=Tryz.func348.trans (congrArg some (by kernel_rfl))
 f267:=Tryz.func343.trans (congrArg some (by kernel_rfl))
 f314:=Tryz.func349.trans (congrArg some (by kernel_rfl))
 t3:=Tryz.underlying3
 a3:=Tryz.isAgg3
 z3:=Tryz.sizeOf3
 v3:=Tryz.zeroValue3
 t4:=Tryz.underlying4
 a4:=Tryz.isAgg4
 z4:=Tryz.sizeOf4
 v4:=Tryz.zeroValue4
 t5:=Tryz.underlying5
 a5:=Tryz.isAgg5
 z5:=Tryz.sizeOf5
 v5:=Tryz.zeroValue5
 t9:=Tryz.underlying9
 a9:=Tryz.isAgg9
 z9:=Tryz.sizeOf9
 v9:=Tryz.zeroValue9
 t46:=Tryz.underlying258
 a46:=Tryz.isAgg258
 z46:=Tryz.sizeOf258
 v46:=Tryz.zeroValue258
 t51:=Tryz.underlying290
 a51:=Tryz.isAgg290
 z51:=Tryz.sizeOf290
 v51:=Tryz.zeroValue290
 t146:=Tryz.underlying291
 a146:=Tryz.isAgg291
 z146:=Tryz.sizeOf291
 v146:=Tryz.zeroValue291
 g1:=by kernel_rfl}
open Go.RowKit Go.Lib in
theorem Tryz.stringslite_Index_one (s:ByteArray) (c:UInt8) (w:World):
 Calls Tryz.prog 334 #[.string s,.string ⟨#[c]⟩] w fun e w'=>e= .returned (.int .i64 (Lib.indexByte s.data.toList c))/\w'=w:=Any.stringslite_Index_one Tryz.lays219 s c w
def Tryz.lays190_ren:Go.Shelf.Ren:=⟨fun|190=>243|125=>280|258=>279|128=>316|129=>317|302=>307|303=>308|304=>309|305=>310|306=>311|307=>312|308=>313|309=>314|310=>315|333=>327|329=>328|330=>329|334=>330|335=>331|336=>332|344=>338|n=>n,fun|31=>68|9=>9|3=>3|46=>258|0=>0|51=>290|53=>293|4=>4|183=>304|182=>303|131=>308|5=>5|218=>322|222=>326|228=>340|229=>33|n=>n,fun|n=>n⟩
theorem Tryz.lays190:Go.Proofs.Lays.n190 Tryz.prog Tryz.lays190_ren:={
 mixed:=by kernel_rfl
 f125:=Tryz.func280.trans (congrArg some (by kernel_rfl))
 f128:=Tryz.func316.trans (congrArg some (by kernel_rfl))
 f129:=Tryz.func317.trans (congrArg some (by kernel_rfl))
 f190:=Tryz.func243.trans (congrArg some (by kernel_rfl))
 f258:=Tryz.func279.trans (congrArg some (by kernel_rfl))
 f302:=Tryz.func307.trans (congrArg some (by kernel_rfl))
 f303:=Tryz.func308.trans (congrArg some (by kernel_rfl))
 f304:=Tryz.func309.trans (congrArg some (by kernel_rfl))
 f305:=Tryz.func310.trans (congrArg some (by kernel_rfl))
 f306:=Tryz.func311.trans (congrArg some (by kernel_rfl))
 f307:=Tryz.func312.trans (congrArg some (by kernel_rfl))
 f308:=Tryz.func313.trans (congrArg some (by kernel_rfl))
 f309:=Tryz.func314.trans (congrArg some (by kernel_rfl))
 f310:=Tryz.func315.trans (congrArg some (by kernel_rfl))
 f329:=Tryz.func328.trans (congrArg some (by kernel_rfl))
 f330:=Tryz.func329.trans (congrArg some (by kernel_rfl))
 f333:=Tryz.func327.trans (congrArg some (by kernel_rfl))
 f334:=Tryz.func330.trans (congrArg some (by kernel_rfl))
 f335:=Tryz.func331.trans (congrArg some (by kernel_rfl))
 f336:=Tryz.func332.trans (congrArg some (by kernel_rfl))
 f344:=Tryz.func338.trans (congrArg some (by kernel_rfl))
 t0:=Tryz.underlying0
 a0:=Tryz.isAgg0
 z0:=Tryz.sizeOf0
 v0:=Tryz.zeroValue0
 t3:=Tryz.underlying3
 a3:=Tryz.isAgg3
 z3:=Tryz.sizeOf3
 v3:=Tryz.zeroValue3
 t4:=Tryz.underlying4
 a4:=Tryz.isAgg4
 z4:=Tryz.sizeOf4
 v4:=Tryz.zeroValue4
 t5:=Tryz.underlying5
 a5:=Tryz.isAgg5
 z5:=Tryz.sizeOf5
 v5:=Tryz.zeroValue5
 t9:=Tryz.underlying9
 a9:=Tryz.isAgg9
 z9:=Tryz.sizeOf9
 v9:=Tryz.zeroValue9
 t31:=Tryz.underlying68
 a31:=Tryz.isAgg68
 z31:=Tryz.sizeOf68
 v31:=Tryz.zeroValue68
 t46:=Tryz.underlying258
 a46:=Tryz.isAgg258
 z46:=Tryz.sizeOf258
 v46:=Tryz.zeroValue258
 t51:=Tryz.underlying290
 a51:=Tryz.isAgg290
 z51:=Tryz.sizeOf290
 v51:=Tryz.zeroValue290
 t53:=Tryz.underlying293
 a53:=Tryz.isAgg293
 z53:=Tryz.sizeOf293
 v53:=Tryz.zeroValue293
 t131:=Tryz.underlying308
 a131:=Tryz.isAgg308
 z131:=Tryz.sizeOf308
 v131:=Tryz.zeroValue308
 t182:=Tryz.underlying303
 a182:=Tryz.isAgg303
 z182:=Tryz.sizeOf303
 v182:=Tryz.zeroValue303
 t183:=Tryz.underlying304
 a183:=Tryz.isAgg304
 z183:=Tryz.sizeOf304
 v183:=Tryz.zeroValue304
 t218:=Tryz.underlying322
 a218:=Tryz.isAgg322
 z218:=Tryz.sizeOf322
 v218:=Tryz.zeroValue322
 t222:=Tryz.underlying326
 a222:=Tryz.isAgg326
 z222:=Tryz.sizeOf326
 v222:=Tryz.zeroValue326
 t228:=Tryz.underlying340
 a228:=Tryz.isAgg340
 z228:=Tryz.sizeOf340
 v228:=Tryz.zeroValue340
 t229:=Tryz.underlying33
 a229:=Tryz.isAgg33
 z229:=Tryz.sizeOf33
 v229:=Tryz.zeroValue33}
open Go.Sort Go.RowKit in
theorem Tryz.slices_Sort_string (blk off cap:Nat) (ss:List (List UInt8)) (w:World) (hH:Holds encStr w blk off ss.toArray) (hblk:blk<w.heap.size) (hsz:ss.length<4611686018427387904):
 Calls Tryz.prog 243 #[.slice (some ⟨blk,off,none⟩) ss.length cap] w fun e w'=>
  e= .returned (.tuple #[])/\ ∃n os,w'=grow (putRow encStr (Sort.ahead w n) blk off (ss.mergeSort fun x y=>decide (x<=y)).toArray) os:=Any.slices_Sort_string Tryz.lays190 blk off cap ss w hH hblk hsz
def Tryz.laysGw17_ren:Go.Shelf.Ren:=⟨fun|17=>270|15=>292|20=>322|n=>n,fun|9=>9|23=>256|4=>4|3=>3|0=>0|21=>21|n=>n,fun|n=>n⟩
theorem Tryz.laysGw17:Go.Proofs.LaysGw.n17 Tryz.prog Tryz.laysGw17_ren:={
 mixed:=by kernel_rfl
 f15:=Tryz.func292.trans (congrArg some (by kernel_rfl))
 f17:=Tryz.func270.trans (congrArg some (by kernel_rfl))
 f20:=Tryz.func322.trans (congrArg some (by kernel_rfl))
 t0:=Tryz.underlying0
 a0:=Tryz.isAgg0
 z0:=Tryz.sizeOf0
 v0:=Tryz.zeroValue0
 i0:=by kernel_rfl
 t3:=Tryz.underlying3
 a3:=Tryz.isAgg3
 z3:=Tryz.sizeOf3
 v3:=Tryz.zeroValue3
 i3:=by kernel_rfl
 t4:=Tryz.underlying4
 a4:=Tryz.isAgg4
 z4:=Tryz.sizeOf4
 v4:=Tryz.zeroValue4
 i4:=by kernel_rfl
 t9:=Tryz.underlying9
 a9:=Tryz.isAgg9
 z9:=Tryz.sizeOf9
 v9:=Tryz.zeroValue9
 i9:=by kernel_rfl
 t21:=Tryz.underlying21
 a21:=Tryz.isAgg21
 z21:=Tryz.sizeOf21
 v21:=Tryz.zeroValue21
 i21:=by kernel_rfl
 t23:=Tryz.underlying256
 a23:=Tryz.isAgg256
 z23:=Tryz.sizeOf256
 v23:=Tryz.zeroValue256
 i23:=by kernel_rfl}
def Tryz.lays264_ren:Go.Shelf.Ren:=⟨fun|264=>295|n=>n,fun|53=>293|46=>258|n=>n,fun|n=>n⟩
theorem Tryz.lays264:Go.Proofs.Lays.n264 Tryz.prog Tryz.lays264_ren:={
 mixed:=by kernel_rfl
 f264:=Tryz.func295.trans (congrArg some (by kernel_rfl))
 t46:=Tryz.underlying258
 a46:=Tryz.isAgg258
 z46:=Tryz.sizeOf258
 v46:=Tryz.zeroValue258
 t53:=Tryz.underlying293
 a53:=Tryz.isAgg293
 z53:=Tryz.sizeOf293
 v53:=Tryz.zeroValue293}
open Go.RowKit Go.Lib in
theorem Tryz.bits_Mul64 (x y:Nat) (hx:x<18446744073709551616) (hy:y<18446744073709551616) (w:World):
 Calls Tryz.prog 295 #[.int .u64 x,.int .u64 y] w fun e w'=>e= .returned (.tuple #[.int .u64 ((x*y/18446744073709551616:Nat):Int),.int .u64 ((x*y% 18446744073709551616:Nat):Int)])/\w'=w:=Any.bits_Mul64 Tryz.lays264 x y hx hy w
open Go.RowKit Go.Lib in
theorem Tryz.strings_ContainsFunc_grows (g:Nat) (lb:Array Value) (eg: ∀args w,(callFunc g args).run Tryz.prog w= .ok (.enter g args) w) (p:Nat->Bool) (s:ByteArray) (w:World) (hp:PredGrows Tryz.prog g lb p w):
 Calls Tryz.prog 270 #[.string s,.func (.func g) #[] lb] w fun e w'=>e= .returned (.bool (decide (0<=Lib.idxFunc p true s)))/\Below w.heap.size w w':=Any.strings_ContainsFunc_grows Tryz.laysGw17 g lb eg p s w hp
def Tryz.laysNm215_ren:Go.Shelf.Ren:=⟨fun|15=>202|n=>n,fun|22=>44|3=>3|4=>4|n=>n,fun|n=>n⟩
theorem Tryz.laysNm215:Go.Proofs.Lays2.n15 Tryz.prog Tryz.laysNm215_ren:={
 mixed:=by kernel_rfl
 f15:=Tryz.func202.trans (congrArg some (by kernel_rfl))
 t3:=Tryz.underlying3
 a3:=Tryz.isAgg3
 z3:=Tryz.sizeOf3
 v3:=Tryz.zeroValue3
 t4:=Tryz.underlying4
 a4:=Tryz.isAgg4
 z4:=Tryz.sizeOf4
 v4:=Tryz.zeroValue4
 t22:=Tryz.underlying44
 a22:=Tryz.isAgg44
 z22:=Tryz.sizeOf44
 v22:=Tryz.zeroValue44
 i3:=by kernel_rfl}
open Go.RowKit Go.Lib in
theorem Tryz.slices_Clone_int (b off n c:Nat) (zs:List Int) (w:World) (hz:n<=zs.length) (hbig:n*8<=140737488355328) (hc: ∀j,j<zs.length->w.cell? ⟨b,off+j,none⟩=some (.int .i64 (zs.getD j 0))):
 Calls Tryz.prog 202 #[.slice (some ⟨b,off,none⟩) n c] w fun e w'=> ∃v',e= .returned v'/\w'.ownsRow w.heap.size 3 1 v' n ((zs.take n).map (Value.int .i64))/\v'≠ .slice none 0 0/\Below w.heap.size w w':=Any.slices_Clone_int Tryz.laysNm215 b off n c zs w hz hbig hc
open Go.RowKit Go.Lib in
theorem Tryz.slices_Clone_int_nil (n c:Nat) (w:World):
 Calls Tryz.prog 202 #[.slice none n c] w fun e w'=>e= .returned (.slice none 0 0)/\w'=w:=Any.slices_Clone_int_nil Tryz.laysNm215 n c w
def Tryz.laysNm216_ren:Go.Shelf.Ren:=⟨fun|16=>181|n=>n,fun|24=>68|9=>9|4=>4|n=>n,fun|n=>n⟩
theorem Tryz.laysNm216:Go.Proofs.Lays2.n16 Tryz.prog Tryz.laysNm216_ren:={
 mixed:=by kernel_rfl
 f16:=Tryz.func181.trans (congrArg some (by kernel_rfl))
 t4:=Tryz.underlying4
 a4:=Tryz.isAgg4
 z4:=Tryz.sizeOf4
 v4:=Tryz.zeroValue4
 t9:=Tryz.underlying9
 a9:=Tryz.isAgg9
 z9:=Tryz.sizeOf9
 v9:=Tryz.zeroValue9
 t24:=Tryz.underlying68
 a24:=Tryz.isAgg68
 z24:=Tryz.sizeOf68
 v24:=Tryz.zeroValue68
 i9:=by kernel_rfl}
open Go.RowKit Go.Lib in
theorem Tryz.slices_Clone_string (b off n c:Nat) (zs:List ByteArray) (w:World) (hz:n<=zs.length) (hbig:n*16<=140737488355328) (hc: ∀j,j<zs.length->w.cell? ⟨b,off+j,none⟩=some (.string (zs.getD j ByteArray.empty))):
 Calls Tryz.prog 181 #[.slice (some ⟨b,off,none⟩) n c] w fun e w'=> ∃v',e= .returned v'/\w'.ownsRow w.heap.size 9 1 v' n ((zs.take n).map (Value.string))/\v'≠ .slice none 0 0/\Below w.heap.size w w':=Any.slices_Clone_string Tryz.laysNm216 b off n c zs w hz hbig hc
open Go.RowKit Go.Lib in
theorem Tryz.slices_Clone_string_nil (n c:Nat) (w:World):
 Calls Tryz.prog 181 #[.slice none n c] w fun e w'=>e= .returned (.slice none 0 0)/\w'=w:=Any.slices_Clone_string_nil Tryz.laysNm216 n c w
open Go.RowKit Go.Lib in
theorem Tryz.slices_Clone_int_zero (a:Addr) (c:Nat) (w:World):
 Calls Tryz.prog 202 #[.slice (some a) 0 c] w fun e w'=> ∃v',e= .returned v'/\w'.ownsRow w.heap.size 3 1 v' 0 []/\v'≠ .slice none 0 0/\Below w.heap.size w w':=Any.slices_Clone_int_zero Tryz.laysNm215 a c w
open Go.RowKit Go.Lib in
theorem Tryz.slices_Clone_string_zero (a:Addr) (c:Nat) (w:World):
 Calls Tryz.prog 181 #[.slice (some a) 0 c] w fun e w'=> ∃v',e= .returned v'/\w'.ownsRow w.heap.size 9 1 v' 0 []/\v'≠ .slice none 0 0/\Below w.heap.size w w':=Any.slices_Clone_string_zero Tryz.laysNm216 a c w
def Tryz.lays194_ren:Go.Shelf.Ren:=⟨fun|194=>244|n=>n,fun|31=>68|9=>9|3=>3|4=>4|0=>0|n=>n,fun|n=>n⟩
theorem Tryz.lays194:Go.Proofs.Lays.n194 Tryz.prog Tryz.lays194_ren:={
 mixed:=by kernel_rfl
 f194:=Tryz.func244.trans (congrArg some (by kernel_rfl))
 t0:=Tryz.underlying0
 a0:=Tryz.isAgg0
 z0:=Tryz.sizeOf0
 v0:=Tryz.zeroValue0
 t3:=Tryz.underlying3
 a3:=Tryz.isAgg3
 z3:=Tryz.sizeOf3
 v3:=Tryz.zeroValue3
 t4:=Tryz.underlying4
 a4:=Tryz.isAgg4
 z4:=Tryz.sizeOf4
 v4:=Tryz.zeroValue4
 t9:=Tryz.underlying9
 a9:=Tryz.isAgg9
 z9:=Tryz.sizeOf9
 v9:=Tryz.zeroValue9
 t31:=Tryz.underlying68
 a31:=Tryz.isAgg68
 z31:=Tryz.sizeOf68
 v31:=Tryz.zeroValue68}
open Go.RowKit Go.Lib Go.Sort in
theorem Tryz.slices_Compact_string (blk off cap:Nat) (zs:List (List UInt8)) (w:World) (hH:Holds encStr w blk off zs.toArray) (hsz:zs.length<=9223372036854775807) (hcap:zs.length<=cap):
 Calls Tryz.prog 244 #[.slice (some ⟨blk,off,none⟩) zs.length cap] w fun e w'=>e= .returned (.slice (some ⟨blk,off,none⟩) (Lib.compact zs).length cap)/\ ∃q,w'=putRow encStr (Sort.ahead w q) blk off (Lib.compact zs++List.replicate (zs.length -(Lib.compact zs).length) []).toArray:=Any.slices_Compact_string Tryz.lays194 blk off cap zs w hH hsz hcap
open Go.RowKit Go.Lib Go.Sort in
theorem Tryz.slices_Compact_string_empty (a:Option Addr) (cap:Nat) (w:World):
 Calls Tryz.prog 244 #[.slice a 0 cap] w fun e w'=>e= .returned (.slice a 0 cap)/\w'=w:=Any.slices_Compact_string_empty Tryz.lays194 a cap w
open Go.RowKit Go.Sort in
theorem Tryz.slices_Sort_string_none (p:Option Addr) (cap:Nat) (w:World):
 Calls Tryz.prog 243 #[.slice p 0 cap] w fun e w'=>e= .returned (.tuple #[])/\w'=w:=Any.slices_Sort_string_none Tryz.lays190 p cap w
def Tryz.growOp_ren:Go.Shelf.Ren:=⟨fun|4=>321|n=>n,fun|22=>193|25=>134|3=>3|4=>4|9=>9|20=>20|0=>0|n=>n,fun|n=>n⟩
theorem Tryz.growOp:Go.Proofs.Lays8.n4 Tryz.prog Tryz.growOp_ren:={
 mixed:=by kernel_rfl
 f4:=⟨Tryz.f321.name,by decide,Tryz.func321.trans (congrArg some (by kernel_rfl))⟩
 t0:=Tryz.underlying0
 a0:=Tryz.isAgg0
 z0:=Tryz.sizeOf0
 v0:=Tryz.zeroValue0
 t3:=Tryz.underlying3
 a3:=Tryz.isAgg3
 z3:=Tryz.sizeOf3
 v3:=Tryz.zeroValue3
 t4:=Tryz.underlying4
 a4:=Tryz.isAgg4
 z4:=Tryz.sizeOf4
 v4:=Tryz.zeroValue4
 t9:=Tryz.underlying9
 a9:=Tryz.isAgg9
 z9:=Tryz.sizeOf9
 v9:=Tryz.zeroValue9
 t20:=Tryz.underlying20
 a20:=Tryz.isAgg20
 z20:=Tryz.sizeOf20
 v20:=Tryz.zeroValue20
 t22:=Tryz.underlying193
 a22:=Tryz.isAgg193
 z22:=Tryz.sizeOf193
 v22:=Tryz.zeroValue193}
end Go.Proofs
end
section
namespace Go.VL
open Go.Proofs Go.RowKit
theorem afh (s:Str) (c:UInt8):aD Tryz.prog 334 [.str s,.str [c]] (.int .i64 (Lib.indexByte s c)):=by
 refine ab5 ⟨_,Tryz.func334,rfl,by kernel_rfl⟩ (fun w G vs hg hi hv=> ?_) (dA.mem (.cons (.str _) (.cons (.str _) .nil)));rw [Vs.str2 hv];refine(Tryz.stringslite_Index_one ⟨s.toArray⟩ c w).mono ?_;rintro e w' ⟨rfl,rfl⟩;exact⟨_,rfl,Below.refl _ _,fun G n=> .int _ _⟩
theorem aoK {G:Gh} {n:Nat} {es:List (List PV)} {v:Value} (h:V G n (.ah es .unk) v): ∃ad cap,v= .slice ad es.length cap/\es.length<=cap/\ ∀sz,(∀cs∈es,cs.length=sz)->es≠[]-> ∃b o,ad=some ⟨b,o,none⟩/\ ∃f:Nat->Nat->Value,(∀(i:Nat) (cs:List PV),es[i]? =some cs-> ∀(j:Nat) (c:PV),cs[j]? =some c->G.F ⟨b,o+i*sz+j,none⟩=some (f i j))/\ ∀(i:Nat) (cs:List PV) (j:Nat) (c:PV),es[i]? =some cs->cs[j]? =some c->V G n c (f i j):=by
 generalize hp:PV.ah es .unk=p at h;cases h with
 |ah es' c sz ad cap f h1 h2 h3 h4 h5=>
  cases hp;refine⟨ad,cap,rfl,h2,fun sz' hsz hne=> ?_⟩;obtain⟨b,o,e1,e2⟩:=h3 hne;have:sz=sz':=by
   obtain⟨cs,l',hl⟩:=List.exists_cons_of_ne_nil hne;have a:=h1 0 cs (by rw [hl];rfl);have b:=hsz cs (by rw [hl];exact List.mem_cons_self ..);omega
  subst this;exact⟨b,o,e1,f,e2,h4⟩
 |_=>cases hp
theorem OZ (l:List Str) (hl:l.length<=1000000) {c:Ck}:aD Tryz.prog 181 [.ah (l.map aF) c] (.ah (l.map aF) .unk):=by
 refine aD.wk (args:=[.ah (l.map aF) .unk]) ?_ (.ah .nil);refine Rf ⟨_,Tryz.func181,rfl,by kernel_rfl⟩ (fun w G vs hg hi hv=> ?_) (dA.mem (.cons (bE gJ _) .nil));obtain⟨u,rfl,hu⟩: ∃u,vs=#[u]/\V G 0 (.ah (l.map aF) .unk) u:=by
  obtain⟨h1,h2⟩:=hv
  match vs,h1,h2 with
  |⟨[u]⟩,_,h2=>exact⟨u,rfl,h2 0 _ u rfl rfl⟩
 obtain⟨ad,cap,rfl,hcap,hx⟩:=aoK hu;rw [List.length_map]at*;by_cases h0:l=[]
 · subst h0;cases ad with
   |none=>
    refine(Tryz.slices_Clone_string_nil 0 cap w).mono ?_;rintro e w' ⟨rfl,rfl⟩;exact⟨_,rfl,Below.refl _ _,fun G' n _=> .ah [] .unk 1 none 0 (fun _ _=> .bool true) (fun i cs e=>by simp at e) (Nat.le_refl _) (fun h=>absurd rfl h) (fun i cs j c e=>by simp at e) trivial⟩
   |some a=>
    refine(Tryz.slices_Clone_string_zero a cap w).mono ?_;rintro e w' ⟨v',rfl,⟨_,hown⟩,_,hb⟩;refine⟨_,rfl,hb,fun G' n _=> ?_⟩;rcases hown with⟨rfl,_⟩|⟨g,cp,cur,rfl,_,_,h1,_⟩
    · exact .ah [] .unk 1 none 0 (fun _ _=> .bool true) (fun i cs e=>by simp at e) (Nat.le_refl _) (fun h=>absurd rfl h) (fun i cs j c e=>by simp at e) trivial
    · exact .ah [] .unk 1 (some ⟨g,0,none⟩) cp (fun _ _=> .bool true) (fun i cs e=>by simp at e) h1 (fun h=>absurd rfl h) (fun i cs j c e=>by simp at e) trivial
 · obtain⟨b,o,rfl,f,e2,h4⟩:=hx 1 (fun cs h=>by obtain⟨s,_,rfl⟩:=List.mem_map.1 h;rfl) (by simpa using h0);have hcell: ∀j,j<l.length->w.cell? ⟨b,o+j,none⟩=some (.string ((l.map fun s=>(⟨s.toArray⟩:ByteArray)).getD j ByteArray.empty)):=by
    intro j hj;have hg:(l.map aF)[j]? =some (aF l[j]):=by simp [hj]
    have a:=e2 j _ hg 0 (.str l[j]) rfl;have b':=h4 j _ 0 (.str l[j]) hg rfl;generalize f j 0=v at a b';cases b';have:=hi _ _ a;rw [Nat.mul_one,Nat.add_zero]at this;rw [this];simp [List.getD,hj]
   refine(Tryz.slices_Clone_string b o l.length cap (l.map fun s=>(⟨s.toArray⟩:ByteArray)) w (by simp) (by omega) (by simpa using hcell)).mono ?_;rintro e w' ⟨v',rfl,⟨_,hown⟩,hne,hb⟩;refine⟨_,rfl,hb,fun G' n hnew=> ?_⟩;rcases hown with⟨rfl,_⟩|⟨g,cp,cur,rfl,hge,hblk,h1,h2,h3,h5⟩
   · exact absurd rfl hne
   · refine Eq.mp (by rw [List.length_map]) (V.ah (G:=G') (n:=n) (l.map aF) .unk 1 (some ⟨g,0,none⟩) cp (fun i _=> .string ⟨(l[i]?.getD []).toArray⟩) (fun i cs e=> ?_) (by simpa using h1) (fun _=>⟨g,0,rfl,fun i cs e j c ec=> ?_⟩) (fun i cs j c e ec=> ?_) trivial)
     · simp only [List.getElem?_map,Option.map_eq_some_iff]at e;obtain⟨s,_,rfl⟩:=e;rfl
     · simp only [List.getElem?_map,Option.map_eq_some_iff]at e;obtain⟨s,e1,rfl⟩:=e;have hj:j=0:=by
        have:=(List.getElem?_eq_some_iff.1 ec).1;simp [aF]at this;exact this
       subst hj;have hlt:=(List.getElem?_eq_some_iff.1 e1).1;refine hnew _ _ hge ?_;have hc:cur[i]? =some (.string ⟨s.toArray⟩):=by
        have:=congrArg (·[i]?) h5
        simp only [Nat.mul_one,List.getElem?_take,hlt,if_true,List.map_map]at this;rw [<-Array.getElem?_toList,this];simp [e1,List.take_of_length_le]
       simp only [World.cell?,hblk,Nat.zero_add,Nat.mul_one,Nat.add_zero,e1,Option.getD_some];simpa using hc
     · simp only [List.getElem?_map,Option.map_eq_some_iff]at e;obtain⟨s,e1,rfl⟩:=e;have hj:j=0:=by
        have:=(List.getElem?_eq_some_iff.1 ec).1;simp [aF]at this;exact this
       subst hj;simp only [aF,List.getElem?_cons_zero,Option.some.injEq]at ec;subst ec;simp only [e1,Option.getD_some];exact .str s
end Go.VL
end
section
namespace Go.VL
theorem yA {sz:Nat}: ∀(es:List (List PV)) (rest:List PV),(∀cs∈es,cs.length=sz)->chunks sz es.length (es.flatten++rest)=es
 |[],rest,_=>by simp [chunks]
 |c::es,rest,h=>by
  have hc:=h c (List.mem_cons_self ..);have ih:=yA es rest fun cs hcs=>h cs (List.mem_cons_of_mem _ hcs);unfold chunks at ih⊢;rw [List.length_cons,List.range_succ_eq_map,List.map_cons,List.map_map,List.flatten_cons,List.append_assoc];congr 1
  · rw [Nat.zero_mul,List.drop_zero,<-hc,List.take_left]
  · conv=>rhs;rw [<-ih]
    refine List.map_congr_left fun i _=> ?_;simp only [Function.comp];rw [show(i+1)*sz=sz+i*sz by rw [Nat.add_mul,Nat.one_mul,Nat.add_comm],<-List.drop_drop];congr 2;rw [<-hc,List.drop_left]
theorem nu {α:Type} {sz:Nat} {f:α->List PV} (hf: ∀x,(f x).length=sz): ∀l:List α,((l.map f).flatten).length=l.length*sz
 |[]=>by simp
 |x::l=>by rw [List.map_cons,List.flatten_cons,List.length_append,hf,nu hf l,List.length_cons,Nat.succ_mul,Nat.add_comm]
theorem Zy {α:Type} {sz:Nat} {f:α->List PV} (hf: ∀x,(f x).length=sz): ∀(l:List α) (i:Nat),((l.map f).flatten).drop (i*sz)=((l.drop i).map f).flatten
 |l,0=>by simp
 |[],i+1=>by simp
 |x::l,i+1=>by
  rw [List.map_cons,List.flatten_cons,Nat.succ_mul,Nat.add_comm,<-List.drop_drop];have:List.drop sz (f x++(l.map f).flatten)=(l.map f).flatten:=by rw [<-hf x,List.drop_left]
  rw [this,Zy hf l i,List.drop_succ_cons]
theorem ab6 (A fa B vs:List PV) {j:Nat} (h:j+vs.length<=fa.length):putCells (A++(fa++B)) (A.length+j) vs=A++(putCells fa j vs++B):=by
 have h1:j -fa.length=0:=by omega
 have h2:A.length+j+vs.length -A.length=j+vs.length:=by omega
 have h3:j+vs.length -fa.length=0:=by omega
 have h4:A.take (A.length+j)=A:=List.take_of_length_le (by omega);have h5:A.drop (A.length+j+vs.length)=[]:=List.drop_eq_nil_of_le (by omega);have h6:A.length+j -A.length=j:=by omega
 simp only [putCells,List.take_append,List.drop_append,h1,h2,h3,h4,h5,h6,List.take_zero,List.drop_zero,List.append_nil,List.nil_append,List.append_assoc]
theorem Zz (z:List PV): ∀n,((List.replicate n z).flatten).length=n*z.length
 |0=>by simp
 |n+1=>by rw [List.replicate_succ,List.flatten_cons,List.length_append,Zz z n,Nat.add_mul,Nat.one_mul,Nat.add_comm]
theorem ab7 {α:Type} {l:List α} {i:Nat} {x:α} (h:l[i]? =some x):l.drop i=x::l.drop (i+1):=by
 have hlt:=(List.getElem?_eq_some_iff.1 h).1;rw [List.drop_eq_getElem_cons hlt];congr 1;exact(List.getElem?_eq_some_iff.1 h).2
def aG {α:Type} (H:AH) (f:α->List PV) (sz:Nat) (l:List α) (v:PV) (ids:List Nat):Prop:=
 (v= .ah [] .nil/\l=[]/\ids=[])\/ ∃id cap junk,ids=[id]/\v= .bO id 0 l.length cap sz/\l.length<=cap/\id<H.next/\H.obj id=some ((l.map f).flatten++junk)/\junk.length=(cap -l.length)*sz
def Nw (H:AH) (ids gK:List Nat):Prop:= ∀i∈gK,i∈ids\/H.next<=i
theorem Nw.refl {H:AH} {ids:List Nat}:Nw H ids ids:=fun _ h=> .inl h
theorem Nw.trans {H H':AH} {a b c:List Nat} (h:Nw H a b) (hn:H.next<=H'.next) (k:Nw H' b c):Nw H a c:=fun i hi=>by
 rcases k i hi with q|q
 · exact h i q
 · exact .inr (Nat.le_trans hn q)
theorem Nw.via {H H':AH} {M N c:List Nat} (h: ∀i∈N,i∈M\/H.next<=i) (hn:H.next<=H'.next) (k:Nw H' N c):Nw H M c:=fun i hi=>by
 rcases k i hi with q|q
 · exact h i q
 · exact .inr (Nat.le_trans hn q)
def Dj (a b:List Nat):Prop:= ∀i∈a,i∉b
theorem Dj.nil {b:List Nat}:Dj [] b:=fun _ h=>by cases h
theorem Dj.symm {a b:List Nat} (h:Dj a b):Dj b a:=fun i hi hj=>h i hj hi
section
variable {α:Type} {H H':AH} {f:α->List PV} {sz:Nat} {l:List α} {v:PV} {ids:List Nat}
theorem aG.nil:aG H f sz ([]:List α) (.ah [] .nil) []:= .inl ⟨rfl,rfl,rfl⟩
theorem aG.lt (h:aG H f sz l v ids): ∀i∈ids,i<H.next:=by
 rcases h with⟨_,_,rfl⟩|⟨id,cap,junk,rfl,_,_,h,_⟩
 · intro i hi;cases hi
 · intro i hi;rw [List.mem_singleton.1 hi];exact h
theorem aG.hf {M:List Nat} (h:aG H f sz l v ids) (hf:HF M H H') (hd:Dj ids M):aG H' f sz l v ids:=by
 rcases h with⟨h1,h2,h3⟩|⟨id,cap,junk,rfl,h1,h2,h3,h4,h5⟩
 · exact .inl ⟨h1,h2,h3⟩
 · exact .inr ⟨id,cap,junk,rfl,h1,h2,Nat.lt_of_lt_of_le h3 hf.1,(hf.2 id h3 (hd id (List.mem_singleton.2 rfl))).trans h4,h5⟩
theorem aG.new {cs:List PV} (h:aG H f sz l v ids):aG (H.new cs) f sz l v ids:=h.hf (M:=[]) (HF.new (HF.refl _ _)) (fun _ _ h=>by cases h)
theorem aG.put {id:Nat} {cs:List PV} (h:aG H f sz l v ids) (hn:id∉ids):aG (H.put id cs) f sz l v ids:=
 h.hf (M:=[id]) (HF.put (.inl (List.mem_singleton.2 rfl)) (HF.refl _ _)) (fun i hi hj=>hn (List.mem_singleton.1 hj▸hi))
theorem aG.O1 (h:aG H f sz l v ids):zA v=some (.int .i64 l.length):=by
 rcases h with⟨rfl,rfl,_⟩|⟨id,cap,junk,rfl,rfl,_⟩
 · rfl
 · rfl
theorem aG.at (h:aG H f sz l v ids) {i:Nat} {x:α} (hx:l[i]? =some x): ∃id cap junk,ids=[id]/\v= .bO id 0 l.length cap sz/\l.length<=cap/\id<H.next/\H.obj id=some ((l.map f).flatten++junk)/\junk.length=(cap -l.length)*sz:=by
 rcases h with⟨_,rfl,_⟩|h
 · simp at hx
 · exact h
theorem aG.content [hr:ni f sz] (h:aG H f sz l v ids) {i:Nat} {x:α} (hx:l[i]? =some x):
 ∃id C,ids=[id]/\id<H.next/\H.obj id=some C/\(∀j c,(f x)[j]? =some c->C[i*sz+j]? =some c)/\(∀j,j<=sz->i*sz+j<=C.length)/\(C.drop (i*sz)).take sz=f x/\
  ∀k n,0<=n->n.toNat=i->jR sz v (.int k n)=some (.ref id (i*sz)):=by
 obtain⟨id,cap,junk,rfl,rfl,h2,h3,h4,h5⟩:=h.at hx;have hlt:=(List.getElem?_eq_some_iff.1 hx).1;have hd:((l.map f).flatten++junk).drop (i*sz)=f x++(((l.drop (i+1)).map f).flatten++junk):=by
  rw [List.drop_append_of_le_length (by rw [nu hr.len];exact Nat.mul_le_mul_right _ (by omega)),Zy hr.len,ab7 hx];simp
 have hlen:i*sz+sz<=((l.map f).flatten++junk).length:=by
  rw [List.length_append,nu hr.len];have:(i+1)*sz<=l.length*sz:=Nat.mul_le_mul_right _ hlt;rw [Nat.succ_mul]at this;omega
 refine⟨id,_,rfl,h3,h4,fun j c hc=> ?_,fun j hj=>by omega,?_,fun k n hn he=> ?_⟩
 · rw [<-List.getElem?_drop,hd];have hj:j<(f x).length:=(List.getElem?_eq_some_iff.1 hc).1;rw [List.getElem?_append_left hj];exact hc
 · rw [hd,List.take_append_of_le_length (by rw [hr.len];exact Nat.le_refl _),List.take_of_length_le (by rw [hr.len];exact Nat.le_refl _)]
 · subst he;have h6:n<(l.length:Int):=by omega
   simp [jR,hn,h6]
theorem aG.fz (hp: ∀x,∀c∈f x,Pu c) [hr:ni f sz] (h:aG H f sz l v ids):Fz H v (.ah (l.map f) .unk):=by
 rcases h with⟨rfl,rfl,_⟩|⟨id,cap,junk,rfl,rfl,h2,h3,h4,h5⟩
 · exact cK hp [] .nil
 · refine .bO id 0 l.length cap sz _ _ (fun i j=>((l.map f)[i]?.bind (·[j]?)).getD .any) h4 (by simp) h2 (fun i cs e=> ?_) (fun i cs e j c ec=> ?_) (fun i cs e j c ec=> ?_)
   · simp only [List.getElem?_map,Option.map_eq_some_iff]at e;obtain⟨x,_,rfl⟩:=e;exact hr.len x
   · have e':=e;simp only [List.getElem?_map,Option.map_eq_some_iff]at e;obtain⟨x,hx,rfl⟩:=e;have hrow:aG H f sz l (.bO id 0 l.length cap sz) [id]:= .inr ⟨id,cap,junk,rfl,rfl,h2,h3,h4,h5⟩;obtain⟨id',C,e1,_,e2,e3,_⟩:=hrow.content hx;cases e1;rw [h4]at e2;cases e2;rw [e',Option.bind_some,ec,Option.getD_some,Nat.zero_add];exact e3 j c ec
   · rw [e,Option.bind_some,ec,Option.getD_some];simp only [List.getElem?_map,Option.map_eq_some_iff]at e;obtain⟨x,_,rfl⟩:=e;exact .pure _ (hp x c (List.mem_of_getElem? ec))
end
variable [Glob]
section
variable {P:Program} {Q:Post} {σ:Nat->PV} {s:List Fm} {α:Type} {H:AH} {f:α->List PV} {sz:Nat} {v:PV} {ids:List Nat}
theorem JX {d:Option Nat} {b:Nat} {x y:AE} {l:List aI} [hr:ni f sz] (hf: ∀x,jY sz (f x)) (xs ys:List α) (c2:Ck)
 (hx:x.ev σ=v) (hrow:aG H f sz xs v ids) (hy:y.ev σ= .ah (ys.map f) c2) (hs:0<ys.length) (hb:(xs.length+ys.length)*b<=1099511627776)
 (h: ∀(v':PV) (gK:List Nat) (H':AH),aG H' f sz (xs++ys) v' gK->Nw H ids gK->HF ids H H'->(∀c3,bf H c3->bf H' c3)->WO P l s Q (upd σ d v') H'):
 WO P (⟨d,.n (.app sz b x y),none⟩::l) s Q σ H:=by
 show dM P _ _ σ H
 rw [II];simp only [nop,hx,hy];have h0: ¬((ys.map f).length=0):=by rw [List.length_map];omega
 have fresh: ∀(es:List (List PV)),es=xs.map f->Bo sz b H es (ys.map f) (fun p H'=>dM P l (EH P s Q .normal) (upd σ d p) H'):=by
  intro es he cap hcap;subst he;simp only [List.length_map]at hcap⊢;refine h _ [H.next] _ (.inr ⟨H.next,cap,List.replicate ((cap -(xs.length+ys.length))*sz) .any,rfl,by rw [List.length_append],by rw [List.length_append];exact hcap,Nat.lt_succ_self _,?_,by rw [List.length_replicate,List.length_append]⟩) (fun i hi=> .inr (by rw [List.mem_singleton.1 hi];exact Nat.le_refl _)) (HF.new (HF.refl _ _)) (fun c3 k=>k.new);show(if H.next=H.next then some _ else _)=_;rw [if_pos rfl,List.map_append]
 rcases hrow with⟨rfl,rfl,rfl⟩|⟨id,cap,junk,rfl,rfl,h2,h3,h4,h5⟩
 · simp only [uS,rowOf];rw [if_neg h0];split
   · exact fresh [] rfl
   · rename_i hno;exact(hno ⟨qC hf ([]:List α),qC hf ys,by simpa using hb⟩).elim
 · have hfl:=nu (f:=f) hr.len xs;have hrow:rowOf sz H (.bO id 0 xs.length cap sz)=some (xs.map f):=by
    simp only [rowOf,h4];rw [if_pos ⟨trivial,by rw [List.length_append,hfl];omega⟩,List.drop_zero];have:=yA (sz:=sz) (xs.map f) junk (fun cs hcs=>by obtain⟨x,_,rfl⟩:=List.mem_map.1 hcs;exact hr.len x);rw [List.length_map]at this;rw [this]
   simp only [uS,hrow];have:rowOf sz H (.ah (ys.map f) c2)=some (ys.map f):=rfl;simp only [this];rw [if_neg h0,if_pos ⟨qC hf xs,qC hf ys,by simpa using hb⟩];simp only [List.length_map];by_cases hc:xs.length+ys.length<=cap
   · rw [if_pos hc,h4];have hsz:cap -xs.length=(cap -(xs.length+ys.length))+ys.length:=by omega
     have h6:0+(xs.length+ys.length)*sz<=((xs.map f).flatten++junk).length:=by
      rw [List.length_append,hfl,h5,Nat.add_mul,hsz,Nat.add_mul];omega
     simp only;rw [if_pos h6];have hyl:=nu (f:=f) hr.len ys;have hput:putCells ((xs.map f).flatten++junk) (0+xs.length*sz) (ys.map f).flatten=((xs++ys).map f).flatten++junk.drop (ys.length*sz):=by
      rw [Nat.zero_add,putCells,<-hfl,List.take_left,hyl,<-List.drop_drop,List.drop_left,List.map_append,List.flatten_append]
     rw [hput];refine h _ [id] _ (.inr ⟨id,cap,junk.drop (ys.length*sz),rfl,by rw [List.length_append],by rw [List.length_append];exact hc,h3,?_,?_⟩) Nw.refl (HF.put (.inl (List.mem_singleton.2 rfl)) (HF.refl _ _)) (fun c3 k=>k.put)
     · show(if id=id then some _ else _)=_
       rw [if_pos rfl]
     · rw [List.length_drop,h5,List.length_append,hsz,Nat.add_mul];omega
   · rw [if_neg hc,if_pos h2];have hfr:=fresh _ rfl;intro cap' aAm;exact hfr cap' aAm
theorem ab8 {d:Option Nat} {bytes:Nat} {zero:List PV} {x y:AE} {l:List aI} [hr:ni f sz] (z:α) (hz:f z=zero) {k k':IntKind} {n c:Int} (hx:x.ev σ= .int k n) (hy:y.ev σ= .int k' c)
 (hb:0<=n/\n<=c/\c<=1099511627776/\bytes*c<=1099511627776) (hs:0<sz)
 (h: ∀(v':PV) (gK:List Nat) (H':AH),aG H' f sz (List.replicate n.toNat z) v' gK->Nw H [] gK->HF [] H H'->(∀c3,bf H c3->bf H' c3)->WO P l s Q (upd σ d v') H'):
 WO P (⟨d,.d (.yg sz bytes zero x y),none⟩::l) s Q σ H:=by
 show WD P (jo (.yg sz bytes zero x y) σ H) d l s Q σ
 simp only [jo,hx,hy];rw [if_pos ⟨hb.1,hb.2.1,hb.2.2.1,hb.2.2.2,by rw [<-hz,hr.len],hs⟩];show WO P l s Q (upd σ d _) _;have hn:(List.replicate n.toNat z).length=n.toNat:=List.length_replicate;refine h _ [H.next] _ (.inr ⟨H.next,c.toNat,(List.replicate (c.toNat -n.toNat) zero).flatten,rfl,by rw [hn],by rw [hn];omega,Nat.lt_succ_self _,?_,?_⟩) (fun i hi=> .inr (by rw [List.mem_singleton.1 hi];exact Nat.le_refl _)) (HF.new (HF.refl _ _)) (fun c3 k=>k.new)
 · show(if H.next=H.next then some _ else _)=_
   rw [if_pos rfl,List.map_replicate,hz,<-List.flatten_append,List.replicate_append_replicate];congr 3;omega
 · rw [hn,Zz,<-hz,hr.len]
theorem pJ {d:Option Nat} {n:Nat} {x w:AE} {l:List aI} [hr:ni f sz] {xs:List α} {id o i j:Nat} {a y:α} {vs:List PV}
 (hx:x.ev σ= .ref id o) (hid:ids=[id]) (ho:o=i*sz+j) (hrow:aG H f sz xs v ids) (ha:xs[i]? =some a) (hv:cellsOf (w.ev σ)=some vs) (hl:vs.length=n) (hone:vs.all PV.one=true) (hj:j+n<=sz) (hy:putCells (f a) j vs=f y)
 (h: ∀H':AH,aG H' f sz (xs.set i y) v ids->HF ids H H'->(∀c3,bf H c3->bf H' c3)->WO P l s Q (upd σ d .any) H'):
 WO P (⟨d,.d (.store n x w),none⟩::l) s Q σ H:=by
 obtain⟨id',cap,junk,e1,rfl,h2,h3,h4,h5⟩:=hrow.at ha;subst hid;cases e1;have hlt:=(List.getElem?_eq_some_iff.1 ha).1;have hfl:=nu (f:=f) hr.len xs;have hle:o+n<=((xs.map f).flatten++junk).length:=by
  rw [List.length_append,hfl,ho];have:(i+1)*sz<=xs.length*sz:=Nat.mul_le_mul_right _ hlt;rw [Nat.succ_mul]at this;omega
 show WD P (jo (.store n x w) σ H) d l s Q σ
 simp only [jo,hx,hv,h4];rw [if_pos ⟨hl,hle,hone⟩];show WO P l s Q (upd σ d .any) _;have hxs:xs=xs.take i++a::xs.drop (i+1):=by rw [<-ab7 ha,List.take_append_drop]
 have hA:((xs.take i).map f).flatten.length=i*sz:=by rw [nu hr.len,List.length_take];congr 1;omega
 have hput:putCells ((xs.map f).flatten++junk) o vs=((xs.set i y).map f).flatten++junk:=by
  have e2:(xs.map f).flatten++junk=((xs.take i).map f).flatten++(f a++(((xs.drop (i+1)).map f).flatten++junk)):=by
   conv=>lhs;rw [hxs]
   simp
  have e3:xs.set i y=xs.take i++y::xs.drop (i+1):=by rw [List.set_eq_take_append_cons_drop,if_pos hlt]
  rw [e2,e3,ho,<-hA,ab6 _ _ _ _ (by rw [hr.len,hl];exact hj),hy];simp
 rw [hput];refine h _ (.inr ⟨id,cap,junk,rfl,by rw [List.length_set],by rw [List.length_set];exact h2,h3,?_,by rw [List.length_set];exact h5⟩) (HF.put (.inl (List.mem_singleton.2 rfl)) (HF.refl _ _)) (fun c3 k=>k.put);show(if id=id then some _ else _)=_;rw [if_pos rfl]
end
end Go.VL
end
section
namespace Go.VL
variable [Glob]
section
variable {P:Program} {Q:Post} {σ:Nat->PV} {s:List Fm} {α β:Type} {H:AH} {f:α->List PV} {sz:Nat} {g:β->List PV} {sz2:Nat}
def Mk (f:α->List PV) (sz:Nat) (xs:List α) (H:AH) (v:PV) (H':AH):Prop:= ∃ids,aG H' f sz xs v ids/\Nw H [] ids/\HF [] H H'/\ ∀c3,bf H c3->bf H' c3
def ML (P:Program) (g:FuncId) (args:List PV) (f:α->List PV) (sz:Nat) (xs:List α):Prop:= ∀H,bg P g args H (Mk f sz xs H)
theorem akb {d:Option Nat} {g:FuncId} {args:List PV} {l:List aI} {xs:List α} (hm:ML P g args f sz xs)
 (h: ∀(v':PV) (gK:List Nat) (H':AH),aG H' f sz xs v' gK->Nw H [] gK->HF [] H H'->(∀c3,bf H c3->bf H' c3)->WO P l s Q (upd σ d v') H'):MC P g args d l s Q σ H:=
 bg.mono (hm H) fun v H' ⟨ids,h1,h2,h3,h4⟩=>h v ids H' h1 h2 h3 h4
theorem asB {bytes:Nat} {zero:List PV} {x y:AE} [hr:ni f sz] (z:α) (hz:f z=zero) {k k':IntKind} {n:Int} (hx:x.ev σ= .int k n) (hy:y.ev σ= .int k' n)
 (hb:0<=n/\n<=1099511627776/\bytes*n<=1099511627776) (hs:0<sz):d9 P (.d (.yg sz bytes zero x y)) (Mk f sz (List.replicate n.toNat z) H) σ H:=by
 have h:=ab8 (P:=P) (s:=[]) (Q:=fun e σ' H'=> ∃v,σ'=upd σ (some 0) v/\Mk f sz (List.replicate n.toNat z) H v H') (d:=some 0) (l:=[]) (H:=H) (bytes:=bytes) (x:=x) (y:=y) z hz hx hy ⟨hb.1,Int.le_refl _,hb.2.1,hb.2.2⟩ hs
  (fun v' gK H' h1 h2 h3 h4=>⟨v',rfl,gK,h1,h2,h3,h4⟩)
 have h2:WD P (jo (.yg sz bytes zero x y) σ H) (some 0) [] [] (fun e σ' H'=> ∃v,σ'=upd σ (some 0) v/\Mk f sz (List.replicate n.toNat z) H v H') σ:=h;show(match jo (.yg sz bytes zero x y) σ H with|some (p,H')=>Mk f sz (List.replicate n.toNat z) H p H'|none=>False);revert h2;cases jo (.yg sz bytes zero x y) σ H with
 |none=>intro h2;exact h2
 |some q=>
  intro h2;obtain⟨v,e,h3⟩:=(h2: ∃v,upd σ (some 0) q.1=upd σ (some 0) v/\Mk f sz (List.replicate n.toNat z) H v q.2);have e2:=congrFun e 0;simp only [upd,if_true]at e2;show Mk f sz (List.replicate n.toNat z) H q.1 q.2;rw [e2];exact h3
theorem asC {g:FuncId} {fs cs args:List PV} {es:List AE} {xs:List α} (hm:ML P g args f sz xs) (ha:fs++evs σ es++cs=args):d9 P (.call (.c (.fn (.func g) fs cs)) es) (Mk f sz xs H) σ H:=by
 show bg P g (fs++evs σ es++cs) H _
 rw [ha];exact hm H
def VH (P:Program):List (aI×Bool)->(Nat->PV)->(Nat->PV)->Prop
 |[],_,_=>True
 |(o,d)::l,val,σ=>(d=true\/(o.g=none/\ ∀H,d9 P o.k (fun r gy=>r=val 0/\gy=H) σ H))/\VH P l (fun i=>val (i+1)) (upd σ o.dst (val 0))
theorem VH.at {P:Program}: ∀{pr:List (aI×Bool)} {val σ:Nat->PV} (h:VH P pr val σ) (i:Nat) (o:aI),pr[i]? =some (o,false)->pE o (bT pr val σ i)/\ ∀H,d9 P o.k (fun r gy=>r=val i/\gy=H) (bT pr val σ i) H
 |(o,d)::l,val,σ,h,0,o',e=>by
   cases e;rcases h.1 with h1|⟨h1,h2⟩
   · cases h1
   · refine⟨?_,h2⟩;unfold pE;rw [h1];trivial
 |(o,d)::l,val,σ,h,i+1,o',e=>VH.at (pr:=l) h.2 i o' e
theorem akc {ms:List Nat} {pr:List (aI×Bool)} {K:(Nat->PV)->AH->Prop} {a b:Nat} {oa ob:aI} {xs:List α} {ys:List β} (gX:PV->PV->Nat->PV) (hr:wo pr=[a,b]) (hne:a≠b)
 (O4:pr[a]? =some (oa,true)) (O5:pr[b]? =some (ob,true)) (ha: ∀x y,gX x y a=x) (hb: ∀x y,gX x y b=y)
 (agA: ∀x x' y i,i≠a->eB ms a i=false->gX x y i=gX x' y i) (agB: ∀x y y' i,i≠b->eB ms b i=false->gX x y i=gX x y' i)
 (pure: ∀x y,VH P pr (gX x y) σ)
 (mkA: ∀y H,pE oa (bT pr (gX ud y) σ a)/\d9 P oa.k (Mk f sz xs H) (bT pr (gX ud y) σ a) H)
 (mkB: ∀x H,pE ob (bT pr (gX x ud) σ b)/\d9 P ob.k (Mk g sz2 ys H) (bT pr (gX x ud) σ b) H)
 (hend: ∀va vb O6 JY H2,aG H2 f sz xs va O6->aG H2 g sz2 ys vb JY->Dj O6 JY->Nw H [] O6->Nw H [] JY->HF [] H H2->(∀c3,bf H c3->bf H2 c3)->K (bT pr (gX va vb) σ pr.length) H2):
 ∃val:Nat->PV,yw P ms pr K σ (wo pr).length (wo pr) val H:=by
 refine⟨gX ud ud,?_⟩;rw [hr]
 have hpure: ∀(rem:List Nat) (x y:PV) (H:AH) (i:Nat) (o:aI),pr[i]? =some (o,false)->(∀s∈rem,eB ms s i=false)->(∀(s:Nat) (o':aI),pr[s]? =some (o',true)->s∉rem->eB ms i s=false)->
  (sj o (bT pr (gX x y) σ i)/\gX x y i=ud)\/(pE o (bT pr (gX x y) σ i)/\d9 P o.k (fun r gy=>r=gX x y i/\gy=H) (bT pr (gX x y) σ i) H):=
  fun rem x y H i o e _ _=> .inr ⟨((pure x y).at i o e).1,((pure x y).at i o e).2 H⟩
 have hfa:[a,b].filter (·!=a)=[b]:=by simp [Ne.symm hne]
 have hfb:[a,b].filter (·!=b)=[a]:=by simp [hne]
 have hj: ∀{O6 JY:List Nat} {H1:AH},(∀i∈O6,i<H1.next)->Nw H1 [] JY->Dj O6 JY:=fun h1 h2 i hi hj=>by
  rcases h2 i hj with q|q
  · cases q
  · have:=h1 i hi;omega
 have hnw: ∀{H1:AH} {JY:List Nat},HF [] H H1->Nw H1 [] JY->Nw H [] JY:=fun h1 h2 i hi=>by
  rcases h2 i hi with q|q
  · exact .inl q
  · exact .inr (Nat.le_trans h1.1 q)
 have hft: ∀{H1 H2:AH},HF [] H H1->HF [] H1 H2->HF [] H H2:=fun h1 h2=>⟨Nat.le_trans h1.1 h2.1,fun i hi hm=>(h2.2 i (Nat.lt_of_lt_of_le hi h1.1) hm).trans (h1.2 i hi hm)⟩
 unfold yw;refine⟨hpure _ ud ud H,(fun e=>by cases e),fun j hj' o e hbj=> ?_⟩;rcases List.mem_cons.1 hj' with rfl|hj'
 · rw [O4]at e;cases e;refine⟨(mkA ud H).1,kC (fun va H1 hm=> ?_) (mkA ud H).2⟩;obtain⟨O6,a1,a2,a3,a4⟩:=hm;refine⟨gX va ud,fun i hi hbi=> ?_,ha _ _,?_⟩
   · exact agA _ _ _ i (fun q=>hi (q▸List.mem_cons_self ..)) (hbi _ (List.mem_cons_self ..))
   · rw [hfa];unfold yw;refine⟨hpure _ va ud H1,(fun e=>by cases e),fun j hj2 o e hbj=> ?_⟩;rw [List.mem_singleton.1 hj2]at e⊢;rw [O5]at e;cases e;refine⟨(mkB va H1).1,kC (fun vb H2 hm=> ?_) (mkB va H1).2⟩;obtain⟨JY,b1,b2,b3,b4⟩:=hm;refine⟨gX va vb,fun i hi hbi=>agB _ _ _ i (fun q=>hi (q▸List.mem_cons_self ..)) (hbi _ (List.mem_cons_self ..)),hb _ _,?_⟩
     have hf:[b].filter (·!=b)=[]:=by simp
     rw [hf];unfold yw;exact⟨hpure _ va vb H2,fun _=>hend va vb O6 JY H2 (a1.hf b3 Dj.nil.symm) b1 (hj (fun i hi=>a1.lt i hi) b2) a2 (hnw a3 b2) (hft a3 b3) (fun c3 h=>b4 c3 (a4 c3 h)),rfl⟩
 · rw [List.mem_singleton.1 hj']at e⊢;rw [O5]at e;cases e;refine⟨(mkB ud H).1,kC (fun vb H1 hm=> ?_) (mkB ud H).2⟩;obtain⟨JY,b1,b2,b3,b4⟩:=hm;refine⟨gX ud vb,fun i hi hbi=> ?_,hb _ _,?_⟩
   · exact agB _ _ _ i (fun q=>hi (q▸List.mem_cons_of_mem _ (List.mem_cons_self ..))) (hbi _ (List.mem_cons_of_mem _ (List.mem_cons_self ..)))
   · rw [hfb];unfold yw;refine⟨hpure _ ud vb H1,(fun e=>by cases e),fun j hj2 o e hbj=> ?_⟩;rw [List.mem_singleton.1 hj2]at e⊢;rw [O4]at e;cases e;refine⟨(mkA vb H1).1,kC (fun va H2 hm=> ?_) (mkA vb H1).2⟩;obtain⟨O6,a1,a2,a3,a4⟩:=hm;refine⟨gX va vb,fun i hi hbi=>agA _ _ _ i (fun q=>hi (q▸List.mem_cons_self ..)) (hbi _ (List.mem_cons_self ..)),ha _ _,?_⟩
     have hf:[a].filter (·!=a)=[]:=by simp
     rw [hf];unfold yw;exact⟨hpure _ va vb H2,fun _=>hend va vb O6 JY H2 a1 (b1.hf a3 Dj.nil.symm) (Dj.symm (hj (fun i hi=>b1.lt i hi) a2)) (hnw b3 a2) b2 (hft b3 a3) (fun c3 h=>a4 c3 (b4 c3 h)),rfl⟩
def zC (P:Program) (H:AH) (skip:Nat->Bool):Nat->List (aI×Bool)->(Nat->PV)->(Nat->PV)->Prop
 |_,[],_,_=>True
 |n,(o,d)::l,val,σ=>(d=true\/skip n=true\/(o.g=none/\d9 P o.k (fun r gy=>r=val 0/\gy=H) σ H))/\zC P H skip (n+1) l (fun i=>val (i+1)) (upd σ o.dst (val 0))
theorem zC.at {P:Program} {H:AH} {skip:Nat->Bool}: ∀{pr:List (aI×Bool)} {n:Nat} {val σ:Nat->PV} (h:zC P H skip n pr val σ) (i:Nat) (o:aI),pr[i]? =some (o,false)->skip (n+i)=false->pE o (bT pr val σ i)/\d9 P o.k (fun r gy=>r=val i/\gy=H) (bT pr val σ i) H
 |(o,d)::l,n,val,σ,h,0,o',e,hk=>by
   cases e;rcases h.1 with h1|h1|⟨h1,h2⟩
   · cases h1
   · rw [Nat.add_zero,h1]at hk;cases hk
   · refine⟨?_,h2⟩;unfold pE;rw [h1];trivial
 |(o,d)::l,n,val,σ,h,i+1,o',e,hk=>zC.at (pr:=l) h.2 i o' e (by rw [Nat.add_assoc,Nat.add_comm 1 i];exact hk)
theorem asD {ms:List Nat} {pr:List (aI×Bool)} {K:(Nat->PV)->AH->Prop} (Inv:List Nat->(Nat->PV)->AH->Prop)
 (pure: ∀rem val H,Inv rem val H-> ∃skip,zC P H skip 0 pr val σ/\ ∀i,skip i=true->(∃s∈rem,eB ms s i=true)\/ ∃s,s∈wo pr/\s∉rem/\eB ms i s=true)
 (step: ∀rem val H j o,Inv rem val H->j∈rem->pr[j]? =some (o,true)->(∀s∈rem,eB ms s j=false\/s=j)->
  pE o (bT pr val σ j)/\d9 P o.k (fun r H'=> ∃val':Nat->PV,(∀i,i∉rem->(∀s∈rem,eB ms s i=false)->val' i=val i)/\val' j=r/\Inv (rem.filter (·!=j)) val' H') (bT pr val σ j) H)
 (fin: ∀val H,Inv [] val H->K (bT pr val σ pr.length) H): ∀(n:Nat) (rem:List Nat) (val:Nat->PV) (H:AH),rem.length<=n->Inv rem val H->yw P ms pr K σ n rem val H:=by
 have hp: ∀rem val H,Inv rem val H-> ∀(i:Nat) (o:aI),pr[i]? =some (o,false)->(∀s∈rem,eB ms s i=false)->(∀(s:Nat) (o':aI),pr[s]? =some (o',true)->s∉rem->eB ms i s=false)->
  (sj o (bT pr val σ i)/\val i=ud)\/(pE o (bT pr val σ i)/\d9 P o.k (fun r gy=>r=val i/\gy=H) (bT pr val σ i) H):=by
  intro rem val H h i o e h1 h2;obtain⟨skip,k1,k2⟩:=pure rem val H h;refine .inr (k1.at i o e ?_);rw [Nat.zero_add];cases hk:skip i with
  |false=>rfl
  |true=>
   rcases k2 i hk with⟨s,hs,hb⟩|⟨s,hs,hn,hb⟩
   · rw [h1 s hs]at hb;cases hb
   · obtain⟨o',e'⟩:=(JO s).1 hs;rw [h2 s o' e' hn]at hb;cases hb
 intro n
 induction n with
 |zero=>
  intro rem val H hn h;obtain rfl:rem=[]:=List.length_eq_zero_iff.1 (by omega);unfold yw;exact⟨hp _ _ _ h,fun _=>fin _ _ h,rfl⟩
 |succ n ih=>
  intro rem val H hn h;unfold yw;refine⟨hp _ _ _ h,fun e=>fin _ _ (e▸h),fun j hj o e hb=> ?_⟩;obtain⟨h1,h2⟩:=step rem val H j o h hj e hb;refine⟨h1,kC (fun r H' ⟨val',g1,g2,g3⟩=>⟨val',g1,g2,ih _ _ _ ?_ g3⟩) h2⟩
  have:(rem.filter (·!=j)).length<rem.length:=by
   rw [List.length_filter_lt_length_iff_exists];exact⟨j,hj,by simp⟩
  omega
theorem XI {ms:List Nat} {pr:List (aI×Bool)} {post:List aI} (h: ∃val:Nat->PV,yw P ms pr (fun σ H=>WO P post s Q σ H) σ (wo pr).length (wo pr) val H):WS P (.su ms pr post) s Q σ H:=h
end
end Go.VL
end
section
namespace Go.VL
abbrev oM (d s:Nat):aI:=⟨some d,.r (.BF (.t s)),none⟩
abbrev sO (l:List aI) (b:AC):AC:= .seq (.ops l) b
abbrev zO:List PV:=[(.str []),(.int .i64 0),(.int .i64 0),(.int .i64 0),(.bool false),(.int .i64 0),(.int .i64 0)]
abbrev zN:List PV:=[(.int .i64 0),(.int .i64 0),(.str []),(.ah [] .nil),(.ah [] .nil)]
theorem aEy:zO=[(.str []),(.int .i64 0),(.int .i64 0),(.int .i64 0),(.bool false),(.int .i64 0),(.int .i64 0)]:=rfl
theorem aEz:zN=[(.int .i64 0),(.int .i64 0),(.str []),(.ah [] .nil),(.ah [] .nil)]:=rfl
attribute [go_sem] aEy aEz
abbrev oMg (d s g:Nat) (w:Bool):aI:=⟨some d,.r (.BF (.t s)),some (g,w)⟩
abbrev oI (d:Nat) (n:Int):aI:=⟨some d,.r (.BF (.c (.int .i64 n))),none⟩
abbrev oL (d n s:Nat):aI:=⟨some d,.r (.load n false (.t s)),none⟩
abbrev ZA (d n s g:Nat) (w:Bool):aI:=⟨some d,.r (.load n false (.t s)),some (g,w)⟩
abbrev oA (d n s:Nat):aI:=⟨some d,.r (.load n true (.t s)),none⟩
abbrev oF (d n s:Nat):aI:=⟨some d,.r (.Vl n (.t s)),none⟩
abbrev oFg (d n s g:Nat) (w:Bool):aI:=⟨some d,.r (.Vl n (.t s)),some (g,w)⟩
abbrev oX (d n s i:Nat):aI:=⟨some d,.r (.idx n (.t s) (.t i)),none⟩
abbrev oN (d s:Nat):aI:=⟨some d,.r (.len (.t s)),none⟩
abbrev oE (d s i:Nat):aI:=⟨some d,.r (.ext (.t s) i),none⟩
abbrev oB (d:Nat) (o:BinOp) (x y:AE):aI:=⟨some d,.r (.bin o .no x y),none⟩
abbrev oBg (d:Nat) (o:BinOp) (x y:AE) (g:Nat) (w:Bool):aI:=⟨some d,.r (.bin o .no x y),some (g,w)⟩
abbrev oR (d:Nat) (k:RK):aI:=⟨some d,.r k,none⟩
abbrev ZB (d:Nat) (k:RK) (g:Nat) (w:Bool):aI:=⟨some d,.r k,some (g,w)⟩
abbrev oC (d f:Nat) (l:List AE):aI:=⟨some d,.call (.c (.fn (.func f) [] [])) l,none⟩
abbrev oCg (d f:Nat) (l:List AE) (g:Nat) (w:Bool):aI:=⟨some d,.call (.c (.fn (.func f) [] [])) l,some (g,w)⟩
abbrev oS (n x v:Nat):aI:=⟨none,.d (.store n (.t x) (.t v)),none⟩
attribute [go_sem] Nat.reduceEqDiff Nat.reduceLeDiff Nat.reduceAdd Nat.reduceMul Nat.reduceSub Int.reduceLT Int.reduceLE Int.reduceToNat Int.reduceNeg Int.reduceEq reduceCtorEq
attribute [go_sem↓] reduceIte
inductive VI where
 |s|b|p|f|o
 |i (k:IntKind)
 |l (e:Nat)
 |t (z y:Nat) (fs:List (Nat×Nat))
 |a (z y n e:Nat)
def VI.sz:VI->Nat
 | .t z _ _| .a z _ _ _=>z
 |_=>1
def VI.by_:VI->Nat
 | .t _ y _| .a _ y _ _=>y
 | .s=>16
 | .b=>1
 | .l _=>24
 | .i .u8| .i .i8=>1
 | .i .u16| .i .i16=>2
 | .i .u32| .i .i32=>4
 |_=>8
def VI.agg:VI->Bool
 | .t .. | .a .. =>true
 |_=>false
section
variable [Glob] (T:List VI)
def og (t:Nat):VI:=(T[t]?).getD .o
def ZC:Nat->Nat->List PV
 |0,_=>[]
 |m+1,t=>match og T t with
  | .s=>[.str []]
  | .b=>[.bool false]
  | .i k=>[.int k 0]
  | .l _=>[.ah [] .nil]
  | .p=>[.nR]
  | .f=>[.kX]
  | .o=>[.nA]
  | .t _ _ fs=>fs.flatMap fun x=>ZC m x.2
  | .a _ _ n e=>(List.replicate n (ZC m e)).flatten
def eqE (t:Nat):EqK:=match og T t with
 | .b=> .b
 | .l _=> .sl
 | .p=> .pt
 | .f=> .fn
 | .t _ _ fs=> .st (fs.map fun x=>(x.1,match og T x.2 with
  | .b=>0
  | .i _=>1
  |_=>2))
 |_=> .no
def cA (x:Operand):AE:=(cop x).getD (.t 0)
def cAs (l:Array Operand):List AE:=l.toList.map cA
def cO (x:Option Operand):Option AE:=x.map cA
def fdE (t f:Nat):Nat×Nat:=match og T t with
 | .t _ _ fs=>(fs[f]?).getD (0,0)
 |_=>(0,0)
def kE (rm:Bool) (o:Op):AK:=match o with
 | .move x| .assign x=> .r (.BF (cA x))
 | .pick c a b=> .r (.pick (cA c) (cA a) (cA b))
 | .alloc t=> .d (.alloc (ZC T 9 t))
 | .box t x=> .d (.box (og T t).sz (cA x))
 | .build t ps=>(match og T t with
  | .a _ _ _ e=> .n (.OC (ZC T 9 t) (ps.toList.map fun x=>(x.1*(og T e).sz,(og T e).sz,cA x.2)))
  |_=> .r (.build (ZC T 9 t) (ps.toList.map fun x=>((fdE T t x.1).1,(og T (fdE T t x.1).2).sz,cA x.2))))
 | .buildSlice t _ ps=>(match og T t with
  | .l e=>(if(rm&&(og T e).sz==7&& !ps.toList.isEmpty)=true then .n (.OD (og T e).sz (ps.toList.map fun x=>cA x.2))else .r (.Ci (og T e).sz (ps.toList.map fun x=>cA x.2)))
  |_=> .bad)
 | .load t x=> .r (.load (og T t).sz (og T t).agg (cA x))
 | .store t x v=> .d (.store (og T t).sz (cA x) (cA v))
 | .nilCheck x=> .r (.Vm (cA x))
 | .binOp op t x y _=> .r (.bin op (eqE T t) (cA x) (cA y))
 | .unOp op _ x=>(match op with
  | .not=> .r (.not (cA x))
  | .neg=> .r (.neg (cA x))
  |_=> .r (.cpl (cA x)))
 | .convert s d x=>(match og T s,og T d with
  | .i _,.i k=> .r (.conv k (cA x))
  | .s,.s=> .r (.same (cA x))
  |_,_=> .n (.Zq (cA x)))
 | .makeInterface t x=> .r (.OB t (cA x))
 | .makeFunc f a b=> .r (.Xz f (cAs a) (cAs b))
 | .makeSlice t n c=>(match og T t with
  | .l e=> .d (.yg (og T e).sz (og T e).by_ (ZC T 9 e) (cA n) (cA c))
  |_=> .bad)
 | .slice t x lo hi mx=>(match og T t with
  | .l e=> .r (.slc (og T e).sz (cA x) (cO lo) (cO hi) (cO mx))
  |_=> .r (.RO (cA x) (cO lo) (cO hi)))
 | .fieldAddr t x f=> .r (.Vl (fdE T t f).1 (cA x))
 | .field t x f=> .r (.aby (fdE T t f).1 (og T (fdE T t f).2).sz (og T (fdE T t f).2).agg (cA x))
 | .indexAddr t x i=>(match og T t with
  | .l e=> .r (.idx (og T e).sz (cA x) (cA i))
  | .a _ _ n e=> .r (.Iq n (og T e).sz (cA x) (cA i))
  |_=> .bad)
 | .index _ x i=> .r (.Mx (cA x) (cA i))
 | .extract x i=> .r (.ext (cA x) i)
 | .call c=>(match c.callee with
  | .value f=> .call (cA f) (cAs c.args)
  | .builtin b=>(match b,c.argTypes.toList.map (og T),cAs c.args with
   | .len,[.s],[a]=> .r (.KD a)
   | .len,_,[a]=> .r (.len a)
   | .cap,_,[a]=> .r (.cap a)
   | .append,[.l e,.i _],[a,b]=> .n (.RP (og T e).sz (og T e).by_ (ZC T 9 e) a b)
   | .append,[.l e,_],[a,b]=>if rm=true then .n (.app (og T e).sz (og T e).by_ a b)else .d (.app (og T e).sz (og T e).by_ a b)
   | .max,_,[a,b]=> .r (.mmx true a b)
   | .min,_,[a,b]=> .r (.mmx false a b)
   | .copy,[.l e,_],[a,b]=> .n (.copy (og T e).sz a b)
   | .clear,[.l e],[a]=> .n (.clr (og T e).sz (ZC T 9 e) a)
   |_,_,_=> .bad)
  |_=> .bad)
 |_=> .bad
def osE (rm:Bool) (ops:Array Oper):List aI:=ops.toList.map fun o=>⟨o.dst,kE T rm o.op,o.guard.bind fun g=>((ops[g.1]?).bind (·.dst)).map fun s=>(s,g.2)⟩
def BK (rm:Bool) (dc:Nat->Bool):Code->List (Nat×List Nat)->AC×List (Nat×List Nat)
 | .region _ ops draw,h=>if draw=true then(match h with
  |[]=>(.skip,[])
  |(n,ms)::h=>(match ms with
    |[]=> .par (((osE T rm ops).take n).map fun o=>(o,MJ dc o.k)) ((osE T rm ops).drop n)
    |_::_=> .su ms (((osE T rm ops).take n).map fun o=>(o,MJ dc o.k)) ((osE T rm ops).drop n),h))else(.ops (osE T rm ops),h)
 | .seq a b,h=>(.seq (BK rm dc a h).1 (BK rm dc b (BK rm dc a h).2).1,(BK rm dc b (BK rm dc a h).2).2)
 | .cond c a b,h=>(.cond (cA c) (BK rm dc a h).1 (BK rm dc b (BK rm dc a h).2).1,(BK rm dc b (BK rm dc a h).2).2)
 | .block i a,h=>(.block i (BK rm dc a h).1,(BK rm dc a h).2)
 | .loop a,h=>(.loop (BK rm dc a h).1,(BK rm dc a h).2)
 | .exit i,h=>(.exit i,h)
 | .ret,h=>(.ret,h)
 | .rangeFunc f ps a b,h=>(.rf (cA f) ((ps.toList[0]?).getD 0) ((ps.toList[1]?).getD 0) (BK rm dc a h).1 (BK rm dc b (BK rm dc a h).2).1,(BK rm dc b (BK rm dc a h).2).2)
 |_,h=>(.skip,h)
def coF (rm:Bool) (dc:Nat->Bool) (fn:Func) (h:List (Nat×List Nat)):AC:=match fn.body with
 |some c=>(BK T rm dc c h).1
 |none=> .skip
end
abbrev LA {α:Type} (b:α):Type:={a:α//b=a}
abbrev LH {α β:Type} (g:α->β):Type:={f:α->β// ∀t,g t=f t}
def dQ {α β:Type} {g:α->β} (x:LH g) (t:α):β:=x.1 t
theorem au2 {α β:Type} {g f:α->β} {h: ∀t,g t=f t} {t:α}:dQ (g:=g) ⟨f,h⟩ t=f t:=rfl
attribute [go_sem] au2
def bU:AC->Nat->AC
 | .seq a b,n=>if n=0 then .seq a b else if n% 10=1 then bU a (n/10)else bU b (n/10)
 | .cond c a b,n=>if n=0 then .cond c a b else if n% 10=1 then bU a (n/10)else bU b (n/10)
 | .rf f u v a b,n=>if n=0 then .rf f u v a b else if n% 10=1 then bU a (n/10)else bU b (n/10)
 | .block i a,n=>if n=0 then .block i a else bU a (n/10)
 | .loop a,n=>if n=0 then .loop a else bU a (n/10)
 |c,_=>c
def bC (x:AC):Nat->AC->AC
 |n,.seq a b=>if n=0 then x else if n% 10=1 then .seq (bC x (n/10) a) b else .seq a (bC x (n/10) b)
 |n,.cond c a b=>if n=0 then x else if n% 10=1 then .cond c (bC x (n/10) a) b else .cond c a (bC x (n/10) b)
 |n,.rf f u v a b=>if n=0 then x else if n% 10=1 then .rf f u v (bC x (n/10) a) b else .rf f u v a (bC x (n/10) b)
 |n,.block i a=>if n=0 then x else .block i (bC x (n/10) a)
 |n,.loop a=>if n=0 then x else .loop (bC x (n/10) a)
 |_,_=>x
def aEA (x:List aI->List aI):List aI->List aI
 |[]=>x []
 |a::l=>x (a::l)
def au3:List (Nat×Nat×(List aI->List aI))->Nat->List aI->List aI
 |[],_,l=>l
 |(i,n,x)::r,k,l=>l.take (i -k)++aEA x (au3 r (i+n) (l.drop (i -k+n)))
def rz (p i n:Nat) (c:AC):List aI:=match bU c p with
 | .ops l=>(l.drop i).take n
 |_=>[]
def lJ (r:List (Nat×Nat×(List aI->List aI))) (p:Nat) (c:AC):AC:=match bU c p with
 | .ops l=>bC (.ops (au3 r 0 l)) p c
 |_=>c
end Go.VL
end
section
set_option maxRecDepth 100000
namespace Go.VL
open Go.Proofs
def dc (n:Nat):Bool:=([284,263,230]:List Nat).contains n
def tyT:List VI:=[.o,.f,(.i .i64),(.i .i64),.b,(.i .u8),(.i .u8),(.t 4 24 [(0,2),(1,3),(2,4),(3,6)]),(.t 4 24 [(0,2),(1,3),(2,4),(3,6)]),.s,.s,.s,(.i .u64),(.t 2 24 [(0,9),(1,12)]),(.t 2 24 [(0,9),(1,12)]),.p,.p,.p,(.t 1 8 [(0,17)]),(.t 1 8 [(0,17)]),.o,(.i .i32),(.l 24),(.l 89),(.l 89),(.t 2 48 [(0,22),(1,24)]),(.t 2 48 [(0,22),(1,24)]),.f,.f,(.i .i64),.o,.f,.f,.o,.f,.f,.o,.f,.f,.f,.o,.f,.f,.f,(.l 3),.o,.f,.f,.f,.f,.f,(.a 4 32 4 3),(.t 5 56 [(0,44),(1,51)]),(.t 5 56 [(0,44),(1,51)]),.f,.f,.f,(.l 65),.f,.f,.f,.f,.f,.f,(.t 7 144 [(0,26),(2,3),(3,44),(4,9),(5,24),(6,44)]),(.t 7 144 [(0,26),(2,3),(3,44),(4,9),(5,24),(6,44)]),.f,.f,(.l 9),(.l 44),(.t 6 128 [(0,3),(1,68),(2,44),(3,44),(4,68),(5,69)]),(.t 6 128 [(0,3),(1,68),(2,44),(3,44),(4,68),(5,69)]),.f,.f,.f,.f,.f,.f,.f,.f,.f,.f,.f,.f,.f,.f,.f,.f,(.t 5 80 [(0,3),(1,3),(2,9),(3,68),(4,44)]),(.t 5 80 [(0,3),(1,3),(2,9),(3,68),(4,44)]),.f,.o,.f,.f,.f,.f,.f,.f,.f,.f,.f,.f,.f,.f,(.t 2 48 [(0,68),(1,22)]),(.t 2 48 [(0,68),(1,22)]),.f,.f,.f,(.t 4 64 [(0,22),(1,44),(2,3),(3,4)]),(.t 4 64 [(0,22),(1,44),(2,3),(3,4)]),.o,.f,.f,.f,.f,.f,.f,.f,.f,(.l 26),(.t 8 168 [(0,65),(7,120)]),(.t 8 168 [(0,65),(7,120)]),.f,.f,.f,.f,.f,.f,(.t 7 152 [(0,71),(6,24)]),(.t 7 152 [(0,71),(6,24)]),.f,.f,(.t 7 64 [(0,9),(1,3),(2,3),(3,3),(4,4),(5,3),(6,3)]),(.t 7 64 [(0,9),(1,3),(2,3),(3,3),(4,4),(5,3),(6,3)]),.o,.f,.f,.f,.f,.f,.f,.f,.f,.f,.f,.f,.f,.o,.f,(.l 29),.f,.f,(.l 5),.o,.f,.f,.f,.f,.p,.o,.f,.p,(.t 3 40 [(0,162),(1,44),(2,3)]),(.t 3 40 [(0,162),(1,44),(2,3)]),.f,.f,(.t 4 64 [(0,22),(1,44),(2,3),(3,4)]),(.t 4 64 [(0,22),(1,44),(2,3),(3,4)]),(.t 5 72 [(0,168),(4,4)]),(.t 5 72 [(0,168),(4,4)]),.o,.f,.f,.f,.f,.f,.f,.f,.f,.f,.f,.p,(.t 8 168 [(0,57),(1,65)]),(.t 8 168 [(0,57),(1,65)]),.o,.f,.f,.f,.p,.f,.f,.f,(.l 134),.f,.f,.f,.f,.o,.f,.f,.f,.f,.f,.f,.f,.f,.o,.f,.f,.f,(.t 2 32 [(0,68),(1,3)]),(.t 2 32 [(0,68),(1,3)]),.f,.f,.f,.f,.f,.f,.f,.f,.p,(.t 2 32 [(0,68),(1,3)]),(.t 2 32 [(0,68),(1,3)]),.f,(.t 3 32 [(0,9),(1,3),(2,189)]),(.t 3 32 [(0,9),(1,3),(2,189)]),(.a 2 16 2 3),(.t 6 40 [(0,227),(2,227),(4,4),(5,4)]),(.t 6 40 [(0,227),(2,227),(4,4),(5,4)]),.f,.f,.f,.f,.f,.f,.f,.f,.f,.f,.f,.f,.f,.f,.f,.f,.f,.p,(.t 3 56 [(0,24),(1,68),(2,3)]),(.t 3 56 [(0,24),(1,68),(2,3)]),.f,.f,.f,.f,.f,.f,.f,.f,(.i .u64),.o,.f,.f,.p,.f,.f,.o,.o,(.t 1 8 [(0,266)]),(.t 1 8 [(0,266)]),(.t 5 72 [(0,265),(1,268),(2,24),(3,44),(4,4)]),(.t 5 72 [(0,265),(1,268),(2,24),(3,44),(4,4)]),.f,.f,.f,.f,(.l 281),.p,.f,.f,.f,(.t 2 32 [(0,9),(1,9)]),(.t 2 32 [(0,9),(1,9)]),.f,.f,.f,.f,.f,.f,.o,.f,(.i .u32),.o,.f,(.i .u64),.o,.f,.f,.o,.f,.o,(.a 256 256 256 5),.f,.f,(.i .i64),.o,.f,.f,.f,.o,.f,.f,.f,.f,(.l 193),.f,.f,.p,(.l 319),(.t 2 16 [(0,3),(1,3)]),(.t 2 16 [(0,3),(1,3)]),.f,.p,(.i .u64),.f,.f,.f,.p,.f,.f,(.l 335),(.l 338),(.t 3 56 [(0,329),(1,330),(2,3)]),(.t 3 56 [(0,329),(1,330),(2,3)]),(.i .u16),(.t 3 6 [(0,333),(1,333),(2,333)]),(.t 3 6 [(0,333),(1,333),(2,333)]),.f,(.t 3 12 [(0,290),(1,290),(2,290)]),(.t 3 12 [(0,290),(1,290),(2,290)]),.f,.p,.f,.f,.f,.p,.p,(.a 24 24 24 5),.f,.o,.f,.f,(.a 20 160 20 293),(.a 65 65 65 5),(.a 32 32 32 5),(.a 64 64 64 5),(.t 4 40 [(0,17),(1,17),(2,17),(3,9)]),(.t 4 40 [(0,17),(1,17),(2,17),(3,9)]),(.a 0 0 0 16),(.t 0 0 [(0,357)]),(.t 0 0 [(0,357)]),.f,(.i .u8),(.i .u8),.f,.p,(.i .i32),(.i .i32),(.t 11 48 [(0,12),(1,12),(2,290),(3,361),(4,5),(5,5),(6,362),(7,363),(8,364),(9,365),(10,366)]),(.t 11 48 [(0,12),(1,12),(2,290),(3,361),(4,5),(5,5),(6,362),(7,363),(8,364),(9,365),(10,366)]),.o]
abbrev CF (f:Func) (h:List (Nat×List Nat)):Type:=LA (coF tyT false dc f h)
abbrev CR (f:Func) (h:List (Nat×List Nat)):Type:=LA (coF tyT true dc f h)
noncomputable section
def r5:AC:=(⟨_,by cbv⟩:CF Tryz.f5 []).1
def acd:List aI:=(⟨_,by cbv⟩:LA (rz 1122 6 4 r5)).1
def ac5:AC:=dQ (⟨_,by intro t;cbv⟩:LH fun t:(List aI->List aI)=>lJ [(6,4,t)] 1122 r5) (acd++ ·)
theorem ok5:aP Tryz.prog dc false 5 55 [(.tmp 6)] ac5:=aR Tryz.func5
def r12:AC:=(⟨_,by cbv⟩:CF Tryz.f12 []).1
def XJ:AC:=(⟨_,by cbv⟩:LA (bU r12 12)).1
def XK:AC:=(⟨_,by cbv⟩:LA (bU r12 112122)).1
def au5:AC:=dQ (⟨_,by intro t;cbv⟩:LH fun t:AC×AC=>bC t.2 112122 (bC t.1 12 r12)) (XJ,XK)
theorem au6:aP Tryz.prog dc false 12 28 [(.tmp 2)] au5:=aR Tryz.func12
def au7:AC:=(⟨_,by cbv⟩:CF Tryz.f16 []).1
theorem ok16:aP Tryz.prog dc false 16 15 [(.tmp 2)] au7:=aR Tryz.func16
def r18:AC:=(⟨_,by cbv⟩:CF Tryz.f18 [(7,[])]).1
def XL:AC:=(⟨_,by cbv⟩:LA (bU r18 112122)).1
def au8:AC:=dQ (⟨_,by intro t;cbv⟩:LH fun t:AC=>bC t 112122 r18) XL
theorem au9:aP Tryz.prog dc false 18 29 [(.tmp 2)] au8:=aR Tryz.func18
def ava:AC:=(⟨_,by cbv⟩:CF Tryz.f19 []).1
theorem ahQ:aP Tryz.prog dc false 19 11 [(.tmp 2)] ava:=aR Tryz.func19
def r21:AC:=(⟨_,by cbv⟩:CF Tryz.f21 [(8,[])]).1
def XM:AC:=(⟨_,by cbv⟩:LA (bU r21 112122)).1
def avb:AC:=dQ (⟨_,by intro t;cbv⟩:LH fun t:AC=>bC t 112122 r21) XM
theorem avc:aP Tryz.prog dc false 21 27 [(.tmp 4)] avb:=aR Tryz.func21
def r22:AC:=(⟨_,by cbv⟩:CF Tryz.f22 []).1
def XO:AC:=(⟨_,by cbv⟩:LA (bU r22 112122)).1
def avd:AC:=dQ (⟨_,by intro t;cbv⟩:LH fun t:AC=>bC t 112122 r22) XO
theorem ave:aP Tryz.prog dc false 22 61 [(.tmp 6),(.tmp 7)] avd:=aR Tryz.func22
def r23:AC:=(⟨_,by cbv⟩:CF Tryz.f23 []).1
def XP:AC:=(⟨_,by cbv⟩:LA (bU r23 112122)).1
def avf:AC:=dQ (⟨_,by intro t;cbv⟩:LH fun t:AC=>bC t 112122 r23) XP
theorem aEB:aP Tryz.prog dc false 23 20 [(.tmp 2)] avf:=aR Tryz.func23
def avg:AC:=(⟨_,by cbv⟩:CF Tryz.f24 []).1
theorem am1:aP Tryz.prog dc false 24 6 [(.tmp 2)] avg:=aR Tryz.func24
def r25:AC:=(⟨_,by cbv⟩:CF Tryz.f25 []).1
def XQ:AC:=(⟨_,by cbv⟩:LA (bU r25 1121222)).1
def XR:AC:=(⟨_,by cbv⟩:LA (bU r25 112122222)).1
def avi:AC:=dQ (⟨_,by intro t;cbv⟩:LH fun t:AC×AC=>bC t.2 112122222 (bC t.1 1121222 r25)) (XQ,XR)
theorem aEC:aP Tryz.prog dc false 25 49 [(.tmp 6)] avi:=aR Tryz.func25
def r26:AC:=(⟨_,by cbv⟩:CF Tryz.f26 [(6,[]),(6,[])]).1
def XT:List aI:=(⟨_,by cbv⟩:LA (rz 112112112122 3 18 r26)).1
def XU:AC:=dQ (⟨_,by intro t;cbv⟩:LH fun t:(List aI->List aI)=>lJ [(3,18,t)] 112112 (bU r26 112122)) (XT++ ·)
def XV:List aI:=(⟨_,by cbv⟩:LA (rz 1121222 3 4 r26)).1
def XW:List aI:=(⟨_,by cbv⟩:LA (rz 12121222222 2 8 r26)).1
def avj:AC:=dQ (⟨_,by intro t;cbv⟩:LH fun t:AC×(List aI->List aI)×(List aI->List aI)=>lJ [(2,8,t.2.2)] 12121222222 (lJ [(3,4,t.2.1)] 1121222 (bC t.1 112122 r26))) (XU,(XV++ ·),(XW++ ·))
theorem aED:aP Tryz.prog dc false 26 109 [(.tmp 6)] avj:=aR Tryz.func26
def r27:AC:=(⟨_,by cbv⟩:CF Tryz.f27 []).1
def XY:List aI:=(⟨_,by cbv⟩:LA (rz 1111212 5 3 r27)).1
def XZ:List aI:=(⟨_,by cbv⟩:LA (rz 1111211212 8 17 r27)).1
def X0:AC:=(⟨_,by cbv⟩:LA (bU r27 112211211212)).1
def X3:AC:=dQ (⟨_,by intro t;cbv⟩:LH fun t:(List aI->List aI)×(List aI->List aI)×AC=>bC t.2.2 1122112 (lJ [(8,17,t.2.1)] 11112 (lJ [(5,3,t.1)] 11 (bU r27 11212)))) ((XY++ ·),(XZ++ ·),X0)
def avk:AC:=dQ (⟨_,by intro t;cbv⟩:LH fun t:AC=>bC t 11212 r27) X3
theorem am2:aP Tryz.prog dc false 27 63 [(.tmp 2)] avk:=aR Tryz.func27
def avl:AC:=(⟨_,by cbv⟩:CF Tryz.f29 []).1
theorem aEE:aP Tryz.prog dc false 29 15 [(.tmp 6)] avl:=aR Tryz.func29
def avm:AC:=(⟨_,by cbv⟩:CF Tryz.f50 []).1
theorem aEF:aP Tryz.prog dc false 50 11 [(.tmp 2)] avm:=aR Tryz.func50
def avn:AC:=(⟨_,by cbv⟩:CF Tryz.f56 []).1
theorem aEG:aP Tryz.prog dc false 56 9 [(.cell 2 5 true)] avn:=aR Tryz.func56
def r58:AC:=(⟨_,by cbv⟩:CF Tryz.f58 []).1
def X4:AC:=(⟨_,by cbv⟩:LA (bU r58 11212)).1
def avo:AC:=dQ (⟨_,by intro t;cbv⟩:LH fun t:AC=>bC t 11212 r58) X4
theorem aEH:aP Tryz.prog dc false 58 15 [(.tmp 2)] avo:=aR Tryz.func58
def avp:AC:=(⟨_,by cbv⟩:CF Tryz.f59 []).1
theorem aEI:aP Tryz.prog dc false 59 7 [(.tmp 4)] avp:=aR Tryz.func59
def X5:AC:=(⟨_,by cbv⟩:CF Tryz.f62 []).1
theorem ace:aP Tryz.prog dc false 62 6 [(.tmp 2)] X5:=aR Tryz.func62
def r63:AC:=(⟨_,by cbv⟩:CF Tryz.f63 []).1
def X6:AC:=(⟨_,by cbv⟩:LA (bU r63 1121222)).1
def X7:List aI:=(⟨_,by cbv⟩:LA (rz 1211211212222 3 15 r63)).1
def X8:List aI:=(⟨_,by cbv⟩:LA (rz 112211211212222 7 3 r63)).1
def X9:List aI:=(⟨_,by cbv⟩:LA (rz 112111222211211212222 2 11 r63)).1
def Ya:AC:=dQ (⟨_,by intro t;cbv⟩:LH fun t:(List aI->List aI)=>lJ [(2,11,t)] 112 (bU r63 111222211211212222)) (X9++ ·)
def Yb:AC:=dQ (⟨_,by intro t;cbv⟩:LH fun t:(List aI->List aI)×(List aI->List aI)×AC=>bC t.2.2 1112222112 (lJ [(7,3,t.2.1)] 1122112 (lJ [(3,15,t.1)] 12112 (bU r63 11212222)))) ((X7++ ·),(X8++ ·),Ya)
def avq:AC:=dQ (⟨_,by intro t;cbv⟩:LH fun t:AC×AC=>bC t.2 11212222 (bC t.1 1121222 r63)) (X6,Yb)
theorem aEJ:aP Tryz.prog dc false 63 112 [(.tmp 2),(.tmp 3)] avq:=aR Tryz.func63
def avr:AC:=(⟨_,by cbv⟩:CF Tryz.f64 []).1
theorem aEK:aP Tryz.prog dc false 64 17 [(.tmp 4)] avr:=aR Tryz.func64
def avs:AC:=(⟨_,by cbv⟩:CF Tryz.f68 []).1
theorem am3:aP Tryz.prog dc false 68 5 [(.tmp 2)] avs:=aR Tryz.func68
def avt:AC:=(⟨_,by cbv⟩:CF Tryz.f69 []).1
theorem aEL:aP Tryz.prog dc false 69 5 [(.tmp 2)] avt:=aR Tryz.func69
def avu:AC:=(⟨_,by cbv⟩:CF Tryz.f72 []).1
theorem aEM:aP Tryz.prog dc false 72 9 [(.cell 2 5 true)] avu:=aR Tryz.func72
def avv:AC:=(⟨_,by cbv⟩:CF Tryz.f73 []).1
theorem aEN:aP Tryz.prog dc false 73 13 [(.tmp 4)] avv:=aR Tryz.func73
def avw:AC:=(⟨_,by cbv⟩:CF Tryz.f75 []).1
theorem aEO:aP Tryz.prog dc false 75 38 [(.tmp 4)] avw:=aR Tryz.func75
def am4:AC:=(⟨_,by cbv⟩:CF Tryz.f76 []).1
theorem avx:aP Tryz.prog dc false 76 9 [(.tmp 4)] am4:=aR Tryz.func76
def avy:AC:=(⟨_,by cbv⟩:CF Tryz.f77 []).1
theorem aEP:aP Tryz.prog dc false 77 6 [(.tmp 2)] avy:=aR Tryz.func77
def avz:AC:=(⟨_,by cbv⟩:CF Tryz.f78 []).1
theorem aEQ:aP Tryz.prog dc false 78 15 [(.tmp 6)] avz:=aR Tryz.func78
def r79:AC:=(⟨_,by cbv⟩:CF Tryz.f79 [(7,[]),(5,[])]).1
def Yc:List aI:=(⟨_,by cbv⟩:LA (rz 112211221121222 3 19 r79)).1
def Yd:AC:=dQ (⟨_,by intro t;cbv⟩:LH fun t:(List aI->List aI)=>lJ [(3,19,t)] 11221122 (bU r79 1121222)) (Yc++ ·)
def avB:AC:=dQ (⟨_,by intro t;cbv⟩:LH fun t:AC=>bC t 1121222 r79) Yd
theorem aER:aP Tryz.prog dc false 79 100 [(.tmp 6)] avB:=aR Tryz.func79
def r80:AC:=(⟨_,by cbv⟩:CF Tryz.f80 []).1
def Ye:List aI:=(⟨_,by cbv⟩:LA (rz 1122 4 5 r80)).1
def avC:AC:=dQ (⟨_,by intro t;cbv⟩:LH fun t:(List aI->List aI)=>lJ [(4,5,t)] 1122 r80) (Ye++ ·)
theorem am5:aP Tryz.prog dc false 80 58 [(.cell 2 4 true),(.tmp 3),(.tmp 4)] avC:=aR Tryz.func80
def avD:AC:=(⟨_,by cbv⟩:CF Tryz.f82 []).1
theorem aES:aP Tryz.prog dc false 82 20 [(.tmp 2)] avD:=aR Tryz.func82
def r83:AC:=(⟨_,by cbv⟩:CF Tryz.f83 []).1
def Yf:AC:=(⟨_,by cbv⟩:LA (bU r83 11212)).1
def avE:AC:=dQ (⟨_,by intro t;cbv⟩:LH fun t:AC=>bC t 11212 r83) Yf
theorem avF:aP Tryz.prog dc false 83 20 [(.tmp 2)] avE:=aR Tryz.func83
def r85:AC:=(⟨_,by cbv⟩:CF Tryz.f85 []).1
def Yg:AC:=(⟨_,by cbv⟩:LA (bU r85 11212)).1
def avG:AC:=dQ (⟨_,by intro t;cbv⟩:LH fun t:AC=>bC t 11212 r85) Yg
theorem aET:aP Tryz.prog dc false 85 18 [(.tmp 4)] avG:=aR Tryz.func85
def avH:AC:=(⟨_,by cbv⟩:CF Tryz.f87 []).1
theorem aEU:aP Tryz.prog dc false 87 4 [(.tmp 2)] avH:=aR Tryz.func87
def avI:AC:=(⟨_,by cbv⟩:CF Tryz.f95 []).1
theorem aEV:aP Tryz.prog dc false 95 14 [(.tmp 4)] avI:=aR Tryz.func95
def avJ:AC:=(⟨_,by cbv⟩:CF Tryz.f98 []).1
theorem aEW:aP Tryz.prog dc false 98 17 [(.tmp 4)] avJ:=aR Tryz.func98
def aoP:AC:=(⟨_,by cbv⟩:CF Tryz.f100 []).1
theorem aAn:aP Tryz.prog dc false 100 9 [(.tmp 4)] aoP:=aR Tryz.func100
def avK:AC:=(⟨_,by cbv⟩:CF Tryz.f102 []).1
def IK:AC:=(⟨_,by cbv⟩:LA (bU avK 11212)).1
def ahR:AC:=dQ (⟨_,by intro t;cbv⟩:LH fun t:AC=>bC t 11212 avK) IK
theorem aoQ:aP Tryz.prog dc false 102 19 [(.tmp 4)] ahR:=aR Tryz.func102
def aoR:AC:=(⟨_,by cbv⟩:CF Tryz.f111 []).1
theorem aAo:aP Tryz.prog dc false 111 17 [(.tmp 2)] aoR:=aR Tryz.func111
def avL:AC:=(⟨_,by cbv⟩:CF Tryz.f112 []).1
def R9:AC:=(⟨_,by cbv⟩:LA (bU avL 112122)).1
def aoS:AC:=dQ (⟨_,by intro t;cbv⟩:LH fun t:AC=>bC t 112122 avL) R9
theorem aAp:aP Tryz.prog dc false 112 25 [(.cell 2 7 true),(.tmp 3)] aoS:=aR Tryz.func112
def avM:AC:=(⟨_,by cbv⟩:CF Tryz.f113 []).1
def Sb:AC:=(⟨_,by cbv⟩:LA (bU avM 111222)).1
def aoT:AC:=dQ (⟨_,by intro t;cbv⟩:LH fun t:AC=>bC t 111222 avM) Sb
theorem aAq:aP Tryz.prog dc false 113 32 [(.tmp 4)] aoT:=aR Tryz.func113
def avN:AC:=(⟨_,by cbv⟩:CF Tryz.f114 []).1
def Sd:AC:=(⟨_,by cbv⟩:LA (bU avN 11212)).1
def aoU:AC:=dQ (⟨_,by intro t;cbv⟩:LH fun t:AC=>bC t 11212 avN) Sd
theorem aAr:aP Tryz.prog dc false 114 19 [(.tmp 4)] aoU:=aR Tryz.func114
def ahS:AC:=(⟨_,by cbv⟩:CF Tryz.f118 []).1
def Sg:AC:=(⟨_,by cbv⟩:LA (bU ahS 11212221121121211211212222)).1
def Si:AC:=dQ (⟨_,by intro t;cbv⟩:LH fun t:AC=>bC t 1121222112 (bU ahS 1121211211212222)) Sg
def Sj:AC:=dQ (⟨_,by intro t;cbv⟩:LH fun t:AC=>bC t 11212112 (bU ahS 11212222)) Si
def aoV:AC:=dQ (⟨_,by intro t;cbv⟩:LH fun t:AC=>bC t 11212222 ahS) Sj
theorem aAs:aP Tryz.prog dc false 118 82 [(.tmp 4)] aoV:=aR Tryz.func118
def Yh:AC:=(⟨_,by cbv⟩:CR Tryz.f119 []).1
def Sk:AC:=(⟨_,by cbv⟩:LA (bU Yh 1121222)).1
def Sm:AC:=(⟨_,by cbv⟩:LA (bU Yh 1121222222)).1
def aoW:AC:=dQ (⟨_,by intro t;cbv⟩:LH fun t:AC×AC=>bC t.2 1121222222 (bC t.1 1121222 Yh)) (Sk,Sm)
theorem aAt:aP Tryz.prog dc true 119 75 [(.tmp 2),(.tmp 3)] aoW:=aR Tryz.func119
def ahT:AC:=(⟨_,by cbv⟩:CF Tryz.f122 []).1
def Sn:AC:=(⟨_,by cbv⟩:LA (bU ahT 11122)).1
def Sr:AC:=(⟨_,by cbv⟩:LA (bU ahT 112122112211212222)).1
def Sv:AC:=dQ (⟨_,by intro t;cbv⟩:LH fun t:AC=>bC t 1121221122 (bU ahT 11212222)) Sr
def aoX:AC:=dQ (⟨_,by intro t;cbv⟩:LH fun t:AC×AC=>bC t.2 11212222 (bC t.1 11122 ahT)) (Sn,Sv)
theorem aAu:aP Tryz.prog dc false 122 63 [(.tmp 4)] aoX:=aR Tryz.func122
def IL:AC:=(⟨_,by cbv⟩:CF Tryz.f133 [(5,[]),(9,[]),(9,[])]).1
def Sw:List aI:=(⟨_,by cbv⟩:LA (rz 1212222 2 4 IL)).1
def Sy:AC:=dQ (⟨_,by intro t;cbv⟩:LH fun t:(List aI->List aI)=>lJ [(2,4,t)] 12 (bU IL 12222)) (Sw++ ·)
def Sz:List aI:=(⟨_,by cbv⟩:LA (rz 11222222 10 8 IL)).1
def SA:List aI:=(⟨_,by cbv⟩:LA (rz 12222222 4 14 IL)).1
def SB:List aI:=(⟨_,by cbv⟩:LA (rz 1122222222 5 45 IL)).1
def SC:List aI:=(⟨_,by cbv⟩:LA (rz 11222222222 4 5 IL)).1
def SE:AC:=(⟨_,by cbv⟩:LA (bU IL 11212222222222)).1
def SF:List aI:=(⟨_,by cbv⟩:LA (rz 11122222121222222222222 3 5 IL)).1
def SG:AC:=dQ (⟨_,by intro t;cbv⟩:LH fun t:(List aI->List aI)=>lJ [(3,5,t)] 1112222212 (bU IL 1222222222222)) (SF++ ·)
def SH:AC:=(⟨_,by cbv⟩:LA (bU IL 11212222222222222)).1
def aoY:AC:=dQ (⟨_,by intro t;cbv⟩:LH fun t:AC×(List aI->List aI)×(List aI->List aI)×(List aI->List aI)×(List aI->List aI)×AC×AC×AC=>bC t.2.2.2.2.2.2.2 11212222222222222 (bC t.2.2.2.2.2.2.1 1222222222222 (bC t.2.2.2.2.2.1 11212222222222 (lJ [(4,5,t.2.2.2.2.1)] 11222222222 (lJ [(5,45,t.2.2.2.1)] 1122222222 (lJ [(4,14,t.2.2.1)] 12222222 (lJ [(10,8,t.2.1)] 11222222 (bC t.1 12222 IL)))))))) (Sy,(Sz++ ·),(SA++ ·),(SB++ ·),(SC++ ·),SE,SG,SH)
theorem aAv:aP Tryz.prog dc false 133 231 [(.tmp 4)] aoY:=aR Tryz.func133
def am6:AC:=(⟨_,by cbv⟩:CF Tryz.f134 []).1
def SI:AC:=(⟨_,by cbv⟩:LA (bU am6 11211211212)).1
def SK:AC:=dQ (⟨_,by intro t;cbv⟩:LH fun t:AC=>bC t 112112 (bU am6 11212)) SI
def aoZ:AC:=dQ (⟨_,by intro t;cbv⟩:LH fun t:AC=>bC t 11212 am6) SK
theorem aAw:aP Tryz.prog dc false 134 38 [(.tmp 4),(.tmp 5)] aoZ:=aR Tryz.func134
def avO:AC:=(⟨_,by cbv⟩:CF Tryz.f135 []).1
def SL:AC:=(⟨_,by cbv⟩:LA (bU avO 11212)).1
def ao0:AC:=dQ (⟨_,by intro t;cbv⟩:LH fun t:AC=>bC t 11212 avO) SL
theorem aAx:aP Tryz.prog dc false 135 27 [(.tmp 2)] ao0:=aR Tryz.func135
def avP:AC:=(⟨_,by cbv⟩:CF Tryz.f136 []).1
def SN:AC:=(⟨_,by cbv⟩:LA (bU avP 11122)).1
def ao1:AC:=dQ (⟨_,by intro t;cbv⟩:LH fun t:AC=>bC t 11122 avP) SN
theorem aAy:aP Tryz.prog dc false 136 29 [(.tmp 4)] ao1:=aR Tryz.func136
def ao2:AC:=(⟨_,by cbv⟩:CF Tryz.f137 []).1
theorem aAz:aP Tryz.prog dc false 137 26 [(.tmp 2)] ao2:=aR Tryz.func137
def am7:AC:=(⟨_,by cbv⟩:CF Tryz.f139 [(13,[])]).1
def SQ:AC:=(⟨_,by cbv⟩:LA (bU am7 1121221121121222)).1
def SS:AC:=dQ (⟨_,by intro t;cbv⟩:LH fun t:AC=>bC t 112122112 (bU am7 1121222)) SQ
def ao3:AC:=dQ (⟨_,by intro t;cbv⟩:LH fun t:AC=>bC t 1121222 am7) SS
theorem aAA:aP Tryz.prog dc false 139 58 [(.tmp 4)] ao3:=aR Tryz.func139
def avQ:AC:=(⟨_,by cbv⟩:CF Tryz.f141 [(8,[])]).1
def SV:AC:=(⟨_,by cbv⟩:LA (bU avQ 112122)).1
def ao4:AC:=dQ (⟨_,by intro t;cbv⟩:LH fun t:AC=>bC t 112122 avQ) SV
theorem aAB:aP Tryz.prog dc false 141 26 [(.tmp 4)] ao4:=aR Tryz.func141
def avR:AC:=(⟨_,by cbv⟩:CF Tryz.f142 [(8,[])]).1
def SX:AC:=(⟨_,by cbv⟩:LA (bU avR 112122)).1
def ao5:AC:=dQ (⟨_,by intro t;cbv⟩:LH fun t:AC=>bC t 112122 avR) SX
theorem aAC:aP Tryz.prog dc false 142 26 [(.tmp 4)] ao5:=aR Tryz.func142
def avS:AC:=(⟨_,by cbv⟩:CF Tryz.f143 [(16,[0,0,2,6,14,31,63,0,0,256,768,1792,4095,8191,0,0,65535,131071]),(4,[]),(4,[])]).1
def SY:List aI:=(⟨_,by cbv⟩:LA (rz 1122 4 6 avS)).1
def ao6:AC:=dQ (⟨_,by intro t;cbv⟩:LH fun t:(List aI->List aI)=>lJ [(4,6,t)] 1122 avS) (SY++ ·)
theorem aAD:aP Tryz.prog dc false 143 74 [(.cell 2 5 true),(.tmp 3)] ao6:=aR Tryz.func143
def ao7:AC:=(⟨_,by cbv⟩:CF Tryz.f145 []).1
theorem aAE:aP Tryz.prog dc false 145 16 [(.tmp 4)] ao7:=aR Tryz.func145
def ao8:AC:=(⟨_,by cbv⟩:CF Tryz.f146 []).1
theorem aAF:aP Tryz.prog dc false 146 10 [(.tmp 2)] ao8:=aR Tryz.func146
def ao9:AC:=(⟨_,by cbv⟩:CF Tryz.f147 []).1
theorem aAG:aP Tryz.prog dc false 147 12 [(.tmp 2)] ao9:=aR Tryz.func147
def avT:AC:=(⟨_,by cbv⟩:CF Tryz.f148 []).1
def S9:List aI:=(⟨_,by cbv⟩:LA (rz 11212222222221122 3 3 avT)).1
def apa:AC:=dQ (⟨_,by intro t;cbv⟩:LH fun t:(List aI->List aI)=>lJ [(3,3,t)] 11212222222221122 avT) (S9++ ·)
theorem aAH:aP Tryz.prog dc false 148 77 [(.cell 2 4 true)] apa:=aR Tryz.func148
def apb:AC:=(⟨_,by cbv⟩:CF Tryz.f160 []).1
theorem aAI:aP Tryz.prog dc false 160 21 [(.tmp 4),(.tmp 5)] apb:=aR Tryz.func160
def avU:AC:=(⟨_,by cbv⟩:CF Tryz.f161 []).1
def Ta:AC:=(⟨_,by cbv⟩:LA (bU avU 11212)).1
def apc:AC:=dQ (⟨_,by intro t;cbv⟩:LH fun t:AC=>bC t 11212 avU) Ta
theorem aAJ:aP Tryz.prog dc false 161 19 [(.tmp 4)] apc:=aR Tryz.func161
def apd:AC:=(⟨_,by cbv⟩:CF Tryz.f164 []).1
theorem aAK:aP Tryz.prog dc false 164 11 [(.tmp 2)] apd:=aR Tryz.func164
def avV:AC:=(⟨_,by cbv⟩:CF Tryz.f165 []).1
def Tc:AC:=(⟨_,by cbv⟩:LA (bU avV 11212)).1
def ape:AC:=dQ (⟨_,by intro t;cbv⟩:LH fun t:AC=>bC t 11212 avV) Tc
theorem aAL:aP Tryz.prog dc false 165 19 [(.tmp 4)] ape:=aR Tryz.func165
def avW:AC:=(⟨_,by cbv⟩:CF Tryz.f173 []).1
def Td:AC:=(⟨_,by cbv⟩:LA (bU avW 1121222)).1
def apf:AC:=dQ (⟨_,by intro t;cbv⟩:LH fun t:AC=>bC t 1121222 avW) Td
theorem aAM:aP Tryz.prog dc false 173 76 [(.tmp 0)] apf:=aR Tryz.func173
def avX:AC:=(⟨_,by cbv⟩:CF Tryz.f174 []).1
def Te:AC:=(⟨_,by cbv⟩:LA (bU avX 11212)).1
def apg:AC:=dQ (⟨_,by intro t;cbv⟩:LH fun t:AC=>bC t 11212 avX) Te
theorem aAN:aP Tryz.prog dc false 174 40 [(.tmp 4)] apg:=aR Tryz.func174
def avY:AC:=(⟨_,by cbv⟩:CF Tryz.f175 []).1
def Tf:AC:=(⟨_,by cbv⟩:LA (bU avY 112122)).1
def aph:AC:=dQ (⟨_,by intro t;cbv⟩:LH fun t:AC=>bC t 112122 avY) Tf
theorem aAO:aP Tryz.prog dc false 175 18 [(.tmp 2)] aph:=aR Tryz.func175
def apj:AC:=(⟨_,by cbv⟩:CF Tryz.f176 []).1
theorem aAP:aP Tryz.prog dc false 176 7 [(.tmp 4)] apj:=aR Tryz.func176
def Yi:AC:=(⟨_,by cbv⟩:CF Tryz.f177 [(17,[])]).1
def Tg:List aI:=(⟨_,by cbv⟩:LA (rz 112222 12 12 Yi)).1
def O7:AC:=(⟨_,by cbv⟩:LA (bU Yi 11212222222)).1
def O8:AC:=(⟨_,by cbv⟩:LA (bU Yi 21212222222)).1
def Ti:AC:=dQ (⟨_,by intro t;cbv⟩:LH fun t:AC×AC=>bC t.2 212 (bC t.1 112 (bU Yi 12222222))) (O7,O8)
def Tj:List aI:=(⟨_,by cbv⟩:LA (rz 1222222222 3 32 Yi)).1
def apk:AC:=dQ (⟨_,by intro t;cbv⟩:LH fun t:(List aI->List aI)×AC×(List aI->List aI)=>lJ [(3,32,t.2.2)] 1222222222 (bC t.2.1 12222222 (lJ [(12,12,t.1)] 112222 Yi))) ((Tg++ ·),Ti,(Tj++ ·))
theorem aAQ:aP Tryz.prog dc false 177 126 [(.tmp 6)] apk:=aR Tryz.func177
def apl:AC:=(⟨_,by cbv⟩:CF Tryz.f178 []).1
theorem aAR:aP Tryz.prog dc false 178 25 [(.tmp 6)] apl:=aR Tryz.func178
def am8:AC:=(⟨_,by cbv⟩:CF Tryz.f179 [(8,[0,0,2,7,0,16,48,15,255])]).1
def Tk:AC:=(⟨_,by cbv⟩:LA (bU am8 11221122112122)).1
def Tn:AC:=dQ (⟨_,by intro t;cbv⟩:LH fun t:AC=>bC t 11221122 (bU am8 112122)) Tk
def apm:AC:=dQ (⟨_,by intro t;cbv⟩:LH fun t:AC=>bC t 112122 am8) Tn
theorem aAS:aP Tryz.prog dc false 179 44 [(.tmp 2),(.tmp 3)] apm:=aR Tryz.func179
def avZ:AC:=(⟨_,by cbv⟩:CF Tryz.f180 []).1
def Tp:AC:=(⟨_,by cbv⟩:LA (bU avZ 112112221212)).1
def apn:AC:=dQ (⟨_,by intro t;cbv⟩:LH fun t:AC=>bC t 112112221212 avZ) Tp
theorem aAT:aP Tryz.prog dc false 180 76 [(.tmp 8)] apn:=aR Tryz.func180
def apo:AC:=(⟨_,by cbv⟩:CF Tryz.f186 []).1
theorem aAU:aP Tryz.prog dc false 186 11 [(.tmp 2)] apo:=aR Tryz.func186
def ahU:AC:=(⟨_,by cbv⟩:CF Tryz.f187 []).1
def Tq:List aI:=(⟨_,by cbv⟩:LA (rz 112 5 12 ahU)).1
def Tt:List aI:=(⟨_,by cbv⟩:LA (rz 11211221121222 4 4 ahU)).1
def Tv:AC:=dQ (⟨_,by intro t;cbv⟩:LH fun t:(List aI->List aI)=>lJ [(4,4,t)] 1121122 (bU ahU 1121222)) (Tt++ ·)
def apq:AC:=dQ (⟨_,by intro t;cbv⟩:LH fun t:(List aI->List aI)×AC=>bC t.2 1121222 (lJ [(5,12,t.1)] 112 ahU)) ((Tq++ ·),Tv)
theorem aAV:aP Tryz.prog dc false 187 53 [(.tmp 2)] apq:=aR Tryz.func187
def av0:AC:=(⟨_,by cbv⟩:CF Tryz.f189 [(12,[])]).1
def MN:AC:=(⟨_,by cbv⟩:LA (bU av0 1122)).1
def apr:AC:=dQ (⟨_,by intro t;cbv⟩:LH fun t:AC=>bC t 1122 av0) MN
theorem aAW:aP Tryz.prog dc false 189 39 [] apr:=aR Tryz.func189
def aps:AC:=(⟨_,by cbv⟩:CF Tryz.f191 []).1
theorem aAX:aP Tryz.prog dc false 191 29 [(.tmp 2)] aps:=aR Tryz.func191
def apt:AC:=(⟨_,by cbv⟩:CF Tryz.f193 []).1
theorem aAY:aP Tryz.prog dc false 193 14 [(.tmp 2)] apt:=aR Tryz.func193
def O9:AC:=(⟨_,by cbv⟩:CF Tryz.f194 []).1
def Tw:AC:=(⟨_,by cbv⟩:LA (bU O9 11212)).1
def Tx:AC:=(⟨_,by cbv⟩:LA (bU O9 122221212)).1
def Tz:AC:=(⟨_,by cbv⟩:LA (bU O9 12222221212)).1
def TA:AC:=(⟨_,by cbv⟩:LA (bU O9 1222222221212)).1
def TB:AC:=(⟨_,by cbv⟩:LA (bU O9 122222222221212)).1
def TD:AC:=(⟨_,by cbv⟩:LA (bU O9 1222222222222221212)).1
def TF:AC:=(⟨_,by cbv⟩:LA (bU O9 122222222222222221212)).1
def apu:AC:=dQ (⟨_,by intro t;cbv⟩:LH fun t:AC×AC×AC×AC×AC×AC×AC=>bC t.2.2.2.2.2.2 122222222222222221212 (bC t.2.2.2.2.2.1 1222222222222221212 (bC t.2.2.2.2.1 122222222221212 (bC t.2.2.2.1 1222222221212 (bC t.2.2.1 12222221212 (bC t.2.1 122221212 (bC t.1 11212 O9))))))) (Tw,Tx,Tz,TA,TB,TD,TF)
theorem aAZ:aP Tryz.prog dc false 194 60 [(.cell 2 4 true),(.tmp 3)] apu:=aR Tryz.func194
def av1:AC:=(⟨_,by cbv⟩:CF Tryz.f195 []).1
def TG:AC:=(⟨_,by cbv⟩:LA (bU av1 112122)).1
def apv:AC:=dQ (⟨_,by intro t;cbv⟩:LH fun t:AC=>bC t 112122 av1) TG
theorem aA0:aP Tryz.prog dc false 195 38 [(.tmp 4)] apv:=aR Tryz.func195
def av2:AC:=(⟨_,by cbv⟩:CF Tryz.f196 []).1
def TH:AC:=(⟨_,by cbv⟩:LA (bU av2 112122)).1
def apw:AC:=dQ (⟨_,by intro t;cbv⟩:LH fun t:AC=>bC t 112122 av2) TH
theorem aA1:aP Tryz.prog dc false 196 23 [(.tmp 2)] apw:=aR Tryz.func196
def ahV:AC:=(⟨_,by cbv⟩:CF Tryz.f197 []).1
def TI:AC:=(⟨_,by cbv⟩:LA (bU ahV 12)).1
def TJ:List aI:=(⟨_,by cbv⟩:LA (rz 111121121222 6 12 ahV)).1
def TK:AC:=dQ (⟨_,by intro t;cbv⟩:LH fun t:(List aI->List aI)=>lJ [(6,12,t)] 11112 (bU ahV 1121222)) (TJ++ ·)
def apx:AC:=dQ (⟨_,by intro t;cbv⟩:LH fun t:AC×AC=>bC t.2 1121222 (bC t.1 12 ahV)) (TI,TK)
theorem aA2:aP Tryz.prog dc false 197 46 [(.tmp 2)] apx:=aR Tryz.func197
def av3:AC:=(⟨_,by cbv⟩:CF Tryz.f198 [(14,[])]).1
def TL:AC:=(⟨_,by cbv⟩:LA (bU av3 112122)).1
def apy:AC:=dQ (⟨_,by intro t;cbv⟩:LH fun t:AC=>bC t 112122 av3) TL
theorem aA3:aP Tryz.prog dc false 198 36 [(.tmp 2)] apy:=aR Tryz.func198
def ahW:AC:=(⟨_,by cbv⟩:CF Tryz.f201 [(16,[0,0,2,6,14,31,63,0,0,256,768,1792,4095,8191,0,0,65535,131071])]).1
def TM:List aI:=(⟨_,by cbv⟩:LA (rz 11222 4 4 ahW)).1
def TN:List aI:=(⟨_,by cbv⟩:LA (rz 112222 4 5 ahW)).1
def TP:List aI:=(⟨_,by cbv⟩:LA (rz 111222221221212222 3 3 ahW)).1
def apz:AC:=dQ (⟨_,by intro t;cbv⟩:LH fun t:(List aI->List aI)×(List aI->List aI)×(List aI->List aI)=>lJ [(3,3,t.2.2)] 111222221221212222 (lJ [(4,5,t.2.1)] 112222 (lJ [(4,4,t.1)] 11222 ahW))) ((TM++ ·),(TN++ ·),(TP++ ·))
theorem aA4:aP Tryz.prog dc false 201 100 [(.cell 2 4 true)] apz:=aR Tryz.func201
def apA:AC:=(⟨_,by cbv⟩:CF Tryz.f203 []).1
theorem aA5:aP Tryz.prog dc false 203 7 [(.tmp 3)] apA:=aR Tryz.func203
def apB:AC:=(⟨_,by cbv⟩:CF Tryz.f204 []).1
theorem aA6:aP Tryz.prog dc false 204 5 [(.tmp 2)] apB:=aR Tryz.func204
def apC:AC:=(⟨_,by cbv⟩:CF Tryz.f215 []).1
theorem aA7:aP Tryz.prog dc false 215 8 [(.tmp 4)] apC:=aR Tryz.func215
def apD:AC:=(⟨_,by cbv⟩:CF Tryz.f216 []).1
theorem aA8:aP Tryz.prog dc false 216 19 [(.tmp 2)] apD:=aR Tryz.func216
def Yj:AC:=(⟨_,by cbv⟩:CF Tryz.f222 [(8,[]),(5,[]),(20,[])]).1
def TQ:AC:=(⟨_,by cbv⟩:LA (bU Yj 122)).1
def TS:List aI:=(⟨_,by cbv⟩:LA (rz 122222 4 4 Yj)).1
def IQ:AC:=(⟨_,by cbv⟩:LA (bU Yj 1121222222)).1
def MO:AC:=(⟨_,by cbv⟩:LA (bU Yj 112122112112122222222)).1
def IU:AC:=dQ (⟨_,by intro t;cbv⟩:LH fun t:AC=>bC t 112122112 (bU Yj 112122222222)) MO
def apE:AC:=dQ (⟨_,by intro t;cbv⟩:LH fun t:AC×(List aI->List aI)×AC×AC=>bC t.2.2.2 112122222222 (bC t.2.2.1 1121222222 (lJ [(4,4,t.2.1)] 122222 (bC t.1 122 Yj)))) (TQ,(TS++ ·),IQ,IU)
theorem aA9:aP Tryz.prog dc false 222 118 [(.tmp 8)] apE:=aR Tryz.func222
def apF:AC:=(⟨_,by cbv⟩:CF Tryz.f223 []).1
theorem aBa:aP Tryz.prog dc false 223 17 [(.cell 2 7 true),(.tmp 3)] apF:=aR Tryz.func223
def apG:AC:=(⟨_,by cbv⟩:CF Tryz.f224 []).1
theorem aBb:aP Tryz.prog dc false 224 15 [(.tmp 6)] apG:=aR Tryz.func224
def Pb:AC:=(⟨_,by cbv⟩:CF Tryz.f226 []).1
def TT:AC:=(⟨_,by cbv⟩:LA (bU Pb 122121222)).1
def TU:AC:=(⟨_,by cbv⟩:LA (bU Pb 1222222121222)).1
def TV:AC:=(⟨_,by cbv⟩:LA (bU Pb 122222222121222)).1
def TW:AC:=(⟨_,by cbv⟩:LA (bU Pb 12222222222121222)).1
def TY:AC:=(⟨_,by cbv⟩:LA (bU Pb 1222222222222121222)).1
def T9:AC:=(⟨_,by cbv⟩:LA (bU Pb 12222222222222222121222)).1
def Ua:AC:=(⟨_,by cbv⟩:LA (bU Pb 122222222222222222222121222)).1
def apI:AC:=dQ (⟨_,by intro t;cbv⟩:LH fun t:AC×AC×AC×AC×AC×AC×AC=>bC t.2.2.2.2.2.2 122222222222222222222121222 (bC t.2.2.2.2.2.1 12222222222222222121222 (bC t.2.2.2.2.1 1222222222222121222 (bC t.2.2.2.1 12222222222121222 (bC t.2.2.1 122222222121222 (bC t.2.1 1222222121222 (bC t.1 122121222 Pb))))))) (TT,TU,TV,TW,TY,T9,Ua)
theorem aBd:aP Tryz.prog dc false 226 106 [(.cell 2 6 true)] apI:=aR Tryz.func226
def apJ:AC:=(⟨_,by cbv⟩:CF Tryz.f227 []).1
theorem aBe:aP Tryz.prog dc false 227 4 [(.tmp 2)] apJ:=aR Tryz.func227
def apK:AC:=(⟨_,by cbv⟩:CF Tryz.f228 []).1
theorem aBf:aP Tryz.prog dc false 228 13 [(.tmp 2)] apK:=aR Tryz.func228
def Ub:AC:=(⟨_,by cbv⟩:CF Tryz.f229 []).1
def Uc:List aI:=(⟨_,by cbv⟩:LA (rz 121212222 2 11 Ub)).1
def Ud:List aI:=(⟨_,by cbv⟩:LA (rz 112221212222 2 9 Ub)).1
def Ue:List aI:=(⟨_,by cbv⟩:LA (rz 212221212222 2 10 Ub)).1
def Uf:List aI:=(⟨_,by cbv⟩:LA (rz 1222221212222 2 5 Ub)).1
def Ug:AC:=dQ (⟨_,by intro t;cbv⟩:LH fun t:(List aI->List aI)×(List aI->List aI)×(List aI->List aI)×(List aI->List aI)=>lJ [(2,5,t.2.2.2)] 12222212 (lJ [(2,10,t.2.2.1)] 2122212 (lJ [(2,9,t.2.1)] 1122212 (lJ [(2,11,t.1)] 1212 (bU Ub 12222))))) ((Uc++ ·),(Ud++ ·),(Ue++ ·),(Uf++ ·))
def Uh:AC:=(⟨_,by cbv⟩:LA (bU Ub 1121222222)).1
def apL:AC:=dQ (⟨_,by intro t;cbv⟩:LH fun t:AC×AC=>bC t.2 1121222222 (bC t.1 12222 Ub)) (Ug,Uh)
theorem aBg:aP Tryz.prog dc false 229 96 [(.tmp 2)] apL:=aR Tryz.func229
def acg:AC:=(sO [oM 9 1,oB 10 .lss (.t 9) (.c (.int .i64 0))] (.cond (.t 10) (.ops [oR 11 (.OB 9 (.c (.str [99,97,110,110,111,116,32,98,101,32,110,101,103,97,116,105,118,101]))),⟨none,.bad,none⟩]) .skip))
def ach:AC:=(sO [oM 21 5,oB 22 .gtr (.t 21) (.c (.int .u64 0)),oM 23 22,oMg 24 6 23 false,oBg 25 .gtr (.t 24) (.c (.int .u64 9223372036854775807)) 23 false,oR 26 (.pick (.t 23) (.c (.bool true)) (.t 25))] (.cond (.t 26) (.ops [oR 27 (.OB 9 (.c (.str [116,104,101,32,114,101,115,117,108,116,32,111,102,32,40,108,101,110,40,120,41,32,42,32,99,111,117,110,116,41,32,111,118,101,114,102,108,111,119,115]))),⟨none,.bad,none⟩]) .skip))
def MP:AC:=(.seq (sO [oM 34 8,oM 35 7,oN 36 35,oB 37 .lss (.t 34) (.t 36)] (.cond (.t 37) .skip (.exit 0))) (.block 1 (.par [(oM 38 8,false),(oM 39 7,false),(oM 40 8,false),(oR 41 (.slc 1 (.t 39) (some (.t 40)) none none),false),(oM 42 7,false),(oM 43 8,false),(oR 44 (.slc 1 (.t 42) none (some (.t 43)) none),false),(⟨(some 45),(.n (.copy 1 (.t 41) (.t 44))),none⟩,true)] [oB 46 .add (.t 38) (.t 45),oM 8 46])))
def apM:AC:=(sO [oR 4 (.BF (.c (.ah [] .nil)))] (.seq acg (sO [oM 13 0,oN 14 13,oR 15 (.conv .u64 (.t 14)),oM 16 1,oR 17 (.conv .u64 (.t 16)),oC 18 273 [(.t 15),(.t 17)],oM 12 18,oE 19 12 0,oE 20 12 1,oM 5 19,oM 6 20] (.seq ach (sO [oM 28 6,oR 29 (.conv .i64 (.t 28)),⟨(some 30),(.d (.yg 1 8 [(.int .i64 0)] (.t 29) (.t 29))),none⟩,oM 7 30] (sO [oM 31 7,oM 32 0,⟨(some 33),(.n (.copy 1 (.t 31) (.t 32))),none⟩,oM 8 33] (.seq (.block 0 (.loop MP)) (sO [oM 47 7,oM 4 47] .ret))))))))
theorem aBh:aP Tryz.prog dc false 230 48 [(.tmp 4)] apM:=aR Tryz.func230
def apN:AC:=(⟨_,by cbv⟩:CF Tryz.f232 []).1
theorem aBi:aP Tryz.prog dc false 232 9 [(.tmp 4)] apN:=aR Tryz.func232
def apO:AC:=(⟨_,by cbv⟩:CF Tryz.f236 []).1
theorem aBj:aP Tryz.prog dc false 236 8 [(.tmp 4)] apO:=aR Tryz.func236
def apP:AC:=(⟨_,by cbv⟩:CF Tryz.f237 []).1
theorem aBk:aP Tryz.prog dc false 237 2 [(.tmp 0)] apP:=aR Tryz.func237
def apQ:AC:=(⟨_,by cbv⟩:CR Tryz.f238 []).1
theorem aBl:aP Tryz.prog dc true 238 8 [(.tmp 2)] apQ:=aR Tryz.func238
def apR:AC:=(⟨_,by cbv⟩:CF Tryz.f239 []).1
theorem aBm:aP Tryz.prog dc false 239 9 [(.tmp 2)] apR:=aR Tryz.func239
def av4:AC:=(⟨_,by cbv⟩:CF Tryz.f240 []).1
def Ui:AC:=(⟨_,by cbv⟩:LA (bU av4 112122)).1
def abk:AC:=dQ (⟨_,by intro t;cbv⟩:LH fun t:AC=>bC t 112122 av4) Ui
theorem ahX:aP Tryz.prog dc false 240 43 [(.tmp 4)] abk:=aR Tryz.func240
def apS:AC:=(⟨_,by cbv⟩:CF Tryz.f241 []).1
theorem aBn:aP Tryz.prog dc false 241 17 [(.tmp 2)] apS:=aR Tryz.func241
def apT:AC:=(⟨_,by cbv⟩:CR Tryz.f242 [(7,[])]).1
theorem aBo:aP Tryz.prog dc true 242 29 [] apT:=aR Tryz.func242
def av5:AC:=(⟨_,by cbv⟩:CF Tryz.f245 []).1
def Uj:AC:=(⟨_,by cbv⟩:LA (bU av5 112122)).1
def apU:AC:=dQ (⟨_,by intro t;cbv⟩:LH fun t:AC=>bC t 112122 av5) Uj
theorem aBp:aP Tryz.prog dc false 245 26 [(.tmp 4)] apU:=aR Tryz.func245
def apV:AC:=(⟨_,by cbv⟩:CF Tryz.f246 []).1
theorem aBq:aP Tryz.prog dc false 246 2 [(.tmp 0)] apV:=aR Tryz.func246
def apW:AC:=(⟨_,by cbv⟩:CF Tryz.f247 []).1
theorem aBr:aP Tryz.prog dc false 247 17 [(.tmp 2)] apW:=aR Tryz.func247
def apX:AC:=(⟨_,by cbv⟩:CF Tryz.f248 []).1
theorem aBs:aP Tryz.prog dc false 248 9 [(.tmp 2)] apX:=aR Tryz.func248
def apY:AC:=(⟨_,by cbv⟩:CF Tryz.f249 []).1
theorem aBt:aP Tryz.prog dc false 249 22 [(.tmp 2)] apY:=aR Tryz.func249
def av6:AC:=(⟨_,by cbv⟩:CF Tryz.f250 []).1
def Ul:AC:=(⟨_,by cbv⟩:LA (bU av6 11122)).1
def apZ:AC:=dQ (⟨_,by intro t;cbv⟩:LH fun t:AC=>bC t 11122 av6) Ul
theorem aBu:aP Tryz.prog dc false 250 46 [(.tmp 4)] apZ:=aR Tryz.func250
def av7:AC:=(⟨_,by cbv⟩:CF Tryz.f254 []).1
def MQ:AC:=(⟨_,by cbv⟩:LA (bU av7 112122)).1
def ap0:AC:=dQ (⟨_,by intro t;cbv⟩:LH fun t:AC=>bC t 112122 av7) MQ
theorem aBv:aP Tryz.prog dc false 254 32 [(.tmp 6)] ap0:=aR Tryz.func254
def ap1:AC:=(⟨_,by cbv⟩:CF Tryz.f255 []).1
theorem aBw:aP Tryz.prog dc false 255 38 [(.tmp 4)] ap1:=aR Tryz.func255
def av8:AC:=(⟨_,by cbv⟩:CF Tryz.f256 [(8,[])]).1
def Um:AC:=(⟨_,by cbv⟩:LA (bU av8 112122)).1
def ap2:AC:=dQ (⟨_,by intro t;cbv⟩:LH fun t:AC=>bC t 112122 av8) Um
theorem aBx:aP Tryz.prog dc false 256 26 [(.tmp 4)] ap2:=aR Tryz.func256
def av9:AC:=(⟨_,by cbv⟩:CF Tryz.f257 [(8,[])]).1
def Un:AC:=(⟨_,by cbv⟩:LA (bU av9 112122)).1
def ap3:AC:=dQ (⟨_,by intro t;cbv⟩:LH fun t:AC=>bC t 112122 av9) Un
theorem aBy:aP Tryz.prog dc false 257 26 [(.tmp 4)] ap3:=aR Tryz.func257
def Pf:AC:=(⟨_,by cbv⟩:CF Tryz.f258 [(6,[]),(7,[])]).1
def Pg:AC:=(⟨_,by cbv⟩:LA (bU Pf 1121212)).1
def Ph:AC:=(⟨_,by cbv⟩:LA (bU Pf 2121212)).1
def Uo:AC:=dQ (⟨_,by intro t;cbv⟩:LH fun t:AC×AC=>bC t.2 21212 (bC t.1 11212 (bU Pf 12))) (Pg,Ph)
def MR:AC:=(⟨_,by cbv⟩:LA (bU Pf 1122121222)).1
def Uq:AC:=dQ (⟨_,by intro t;cbv⟩:LH fun t:AC=>bC t 112212 (bU Pf 1222)) MR
def MS:AC:=(⟨_,by cbv⟩:LA (bU Pf 11212211221122222)).1
def MU:AC:=dQ (⟨_,by intro t;cbv⟩:LH fun t:AC=>bC t 1121221122 (bU Pf 1122222)) MS
def ap4:AC:=dQ (⟨_,by intro t;cbv⟩:LH fun t:AC×AC×AC=>bC t.2.2 1122222 (bC t.2.1 1222 (bC t.1 12 Pf))) (Uo,Uq,MU)
theorem aBz:aP Tryz.prog dc false 258 113 [] ap4:=aR Tryz.func258
def awc:AC:=(⟨_,by cbv⟩:CF Tryz.f262 []).1
def Ur:AC:=(⟨_,by cbv⟩:LA (bU awc 11212)).1
def ap5:AC:=dQ (⟨_,by intro t;cbv⟩:LH fun t:AC=>bC t 11212 awc) Ur
theorem aBA:aP Tryz.prog dc false 262 26 [(.tmp 6)] ap5:=aR Tryz.func262
def awd:AC:=(⟨_,by cbv⟩:CF Tryz.f263 []).1
def Us:AC:=(⟨_,by cbv⟩:LA (bU awd 112)).1
def ap6:AC:=dQ (⟨_,by intro t;cbv⟩:LH fun t:AC=>bC t 112 awd) Us
theorem aBB:aP Tryz.prog dc false 263 26 [(.tmp 2)] ap6:=aR Tryz.func263
def awe:AC:=(⟨_,by cbv⟩:CF Tryz.f264 []).1
def Ut:AC:=(⟨_,by cbv⟩:LA (bU awe 11212222)).1
def ap7:AC:=dQ (⟨_,by intro t;cbv⟩:LH fun t:AC=>bC t 11212222 awe) Ut
theorem aBC:aP Tryz.prog dc false 264 95 [(.tmp 0)] ap7:=aR Tryz.func264
def awf:AC:=(⟨_,by cbv⟩:CF Tryz.f265 []).1
def Uu:AC:=(⟨_,by cbv⟩:LA (bU awf 11212)).1
def ap8:AC:=dQ (⟨_,by intro t;cbv⟩:LH fun t:AC=>bC t 11212 awf) Uu
theorem aBD:aP Tryz.prog dc false 265 19 [(.tmp 4)] ap8:=aR Tryz.func265
def ap9:AC:=(⟨_,by cbv⟩:CF Tryz.f266 []).1
theorem aBE:aP Tryz.prog dc false 266 8 [(.tmp 3)] ap9:=aR Tryz.func266
def aqa:AC:=(⟨_,by cbv⟩:CF Tryz.f267 []).1
theorem aBF:aP Tryz.prog dc false 267 12 [(.cell 4 6 true)] aqa:=aR Tryz.func267
def aqb:AC:=(⟨_,by cbv⟩:CF Tryz.f269 []).1
theorem aBG:aP Tryz.prog dc false 269 15 [(.tmp 2)] aqb:=aR Tryz.func269
def aqc:AC:=(⟨_,by cbv⟩:CF Tryz.f271 []).1
theorem aBH:aP Tryz.prog dc false 271 6 [(.tmp 2)] aqc:=aR Tryz.func271
def aqd:AC:=(⟨_,by cbv⟩:CF Tryz.f272 []).1
theorem aBI:aP Tryz.prog dc false 272 25 [(.tmp 2)] aqd:=aR Tryz.func272
def aqe:AC:=(⟨_,by cbv⟩:CF Tryz.f273 []).1
theorem aBJ:aP Tryz.prog dc false 273 30 [(.tmp 4),(.tmp 5)] aqe:=aR Tryz.func273
def awg:AC:=(⟨_,by cbv⟩:CF Tryz.f274 []).1
def Uv:AC:=(⟨_,by cbv⟩:LA (bU awg 11212)).1
def aqf:AC:=dQ (⟨_,by intro t;cbv⟩:LH fun t:AC=>bC t 11212 awg) Uv
theorem aBK:aP Tryz.prog dc false 274 19 [(.tmp 4)] aqf:=aR Tryz.func274
def aqg:AC:=(⟨_,by cbv⟩:CF Tryz.f277 []).1
theorem aBL:aP Tryz.prog dc false 277 18 [(.tmp 4)] aqg:=aR Tryz.func277
def Uw:AC:=(.seq (sO [oM 13 6,oM 14 0,oR 15 (.KD (.t 14)),oB 16 .lss (.t 13) (.t 15)] (.cond (.t 16) .skip (.exit 0))) (.seq (.block 1 (sO [oM 19 0,oM 20 6,oR 21 (.Mx (.t 19) (.t 20)),oM 7 21] (sO [oM 22 5,oM 23 7,oB 24 .or (.t 22) (.t 23),oM 5 24] (sO [oM 25 7,oR 26 (.Iq 256 1 (.c (.bY (Cy.map (PV.int .u8)) 0)) (.t 25)),oL 27 1 26,oR 28 (.conv .i64 (.t 27)),oM 8 28] (sO [oM 29 3,oM 30 4,oM 31 8,oR 32 (.cpl (.t 31)),oB 33 .and (.t 30) (.t 32),oB 34 .add (.t 29) (.t 33),oM 3 34] (.ops [oM 35 8,oM 4 35])))))) (.ops [oM 17 6,oB 18 .add (.t 17) (.c (.int .i64 1)),oM 6 18])))
def Ux:AC:=(.seq (sO [oM 42 12,oM 43 0,oR 44 (.KD (.t 43)),oB 45 .lss (.t 42) (.t 44),oM 46 45,oMg 47 0 46 true,oMg 48 12 46 true,ZB 49 (.Mx (.t 47) (.t 48)) 46 true,ZB 50 (.Iq 256 1 (.c (.bY (Cy.map (PV.int .u8)) 0)) (.t 49)) 46 true,ZA 51 1 50 46 true,oBg 52 .neq (.t 51) (.c (.int .u8 0)) 46 true,oR 53 (.pick (.t 46) (.t 52) (.c (.bool false)))] (.cond (.t 53) .skip (.exit 2))) (.block 3 (.ops [oM 54 12,oB 55 .add (.t 54) (.c (.int .i64 1)),oM 12 55])))
def Uy:AC:=(.seq (sO [oM 80 12,oM 81 0,oR 82 (.KD (.t 81)),oB 83 .lss (.t 80) (.t 82),oM 84 83,oMg 85 0 84 true,oMg 86 12 84 true,ZB 87 (.Mx (.t 85) (.t 86)) 84 true,ZB 88 (.Iq 256 1 (.c (.bY (Cy.map (PV.int .u8)) 0)) (.t 87)) 84 true,ZA 89 1 88 84 true,oBg 90 .neq (.t 89) (.c (.int .u8 0)) 84 true,oR 91 (.pick (.t 84) (.t 90) (.c (.bool false)))] (.cond (.t 91) .skip (.exit 6))) (.block 7 (.ops [oM 92 12,oB 93 .add (.t 92) (.c (.int .i64 1)),oM 12 93])))
def Uz:AC:=(.seq (sO [oM 57 12,oM 58 0,oR 59 (.KD (.t 58)),oB 60 .lss (.t 57) (.t 59)] (.cond (.t 60) .skip (.exit 4))) (.block 5 (.seq (sO [oM 61 0,oM 62 12,oR 63 (.Mx (.t 61) (.t 62)),oR 64 (.Iq 256 1 (.c (.bY (Cy.map (PV.int .u8)) 0)) (.t 63)),oL 65 1 64,oB 66 .eql (.t 65) (.c (.int .u8 0))] (.cond (.t 66) (sO [oM 67 12,oB 68 .add (.t 67) (.c (.int .i64 1)),oM 12 68] (.exit 5)) .skip)) (sO [oM 69 9,oM 70 10,oM 71 0,oM 72 11,oM 73 12,oR 74 (.RO (.t 71) (some (.t 72)) (some (.t 73))),oX 75 1 69 70,oS 1 75 74] (sO [oM 76 10,oB 77 .add (.t 76) (.c (.int .i64 1)),oM 10 77] (sO [oM 78 12,oB 79 .add (.t 78) (.c (.int .i64 1)),oM 12 79] (.seq (.block 6 (.loop Uy)) (.ops [oM 94 12,oM 11 94]))))))))
def aqh:AC:=(sO [oR 2 (.BF (.c (.ah [] .nil)))] (sO [oI 3 0] (sO [oI 4 1] (sO [oR 5 (.BF (.c (.int .u8 0)))] (.seq (sO [oI 6 0] (.block 0 (.loop Uw))) (.seq (sO [oM 36 5,oB 37 .geq (.t 36) (.c (.int .u8 128))] (.cond (.t 37) (sO [oM 38 0,oC 39 305 [(.t 38),(.c (.fn (.func 306) [] []))],oM 2 39] .ret) .skip)) (sO [oM 40 3,⟨(some 41),(.d (.yg 1 16 [(.str [])] (.t 40) (.t 40))),none⟩,oM 9 41] (sO [oI 10 0] (sO [oI 11 0] (sO [oI 12 0] (.seq (.block 2 (.loop Ux)) (sO [oM 56 12,oM 11 56] (.seq (.block 4 (.loop Uz)) (.seq (sO [oM 95 11,oM 96 0,oR 97 (.KD (.t 96)),oB 98 .lss (.t 95) (.t 97)] (.cond (.t 98) (.ops [oM 99 9,oM 100 10,oM 101 0,oM 102 11,oR 103 (.RO (.t 101) (some (.t 102)) none),oX 104 1 99 100,oS 1 104 103]) .skip)) (sO [oM 105 9,oM 2 105] .ret)))))))))))))))
theorem aBM:aP Tryz.prog dc false 278 106 [(.tmp 2)] aqh:=aR Tryz.func278
def awh:AC:=(⟨_,by cbv⟩:CF Tryz.f281 []).1
def UA:AC:=(⟨_,by cbv⟩:LA (bU awh 11122)).1
def aqi:AC:=dQ (⟨_,by intro t;cbv⟩:LH fun t:AC=>bC t 11122 awh) UA
theorem aBN:aP Tryz.prog dc false 281 25 [(.tmp 2)] aqi:=aR Tryz.func281
def aqj:AC:=(⟨_,by cbv⟩:CF Tryz.f282 []).1
theorem aBO:aP Tryz.prog dc false 282 4 [(.tmp 2)] aqj:=aR Tryz.func282
def aqk:AC:=(⟨_,by cbv⟩:CF Tryz.f283 []).1
theorem aBP:aP Tryz.prog dc false 283 9 [(.tmp 2)] aqk:=aR Tryz.func283
def awi:AC:=(⟨_,by cbv⟩:CF Tryz.f284 []).1
def UC:AC:=(⟨_,by cbv⟩:LA (bU awi 112)).1
def aql:AC:=dQ (⟨_,by intro t;cbv⟩:LH fun t:AC=>bC t 112 awi) UC
theorem aBQ:aP Tryz.prog dc false 284 25 [(.tmp 2)] aql:=aR Tryz.func284
def aqm:AC:=(⟨_,by cbv⟩:CF Tryz.f285 []).1
theorem aBR:aP Tryz.prog dc false 285 9 [(.tmp 2)] aqm:=aR Tryz.func285
def awj:AC:=(⟨_,by cbv⟩:CF Tryz.f289 []).1
def UD:AC:=(⟨_,by cbv⟩:LA (bU awj 112122)).1
def aqn:AC:=dQ (⟨_,by intro t;cbv⟩:LH fun t:AC=>bC t 112122 awj) UD
theorem aBS:aP Tryz.prog dc false 289 25 [(.tmp 6)] aqn:=aR Tryz.func289
def awk:AC:=(⟨_,by cbv⟩:CF Tryz.f290 []).1
def UE:AC:=(⟨_,by cbv⟩:LA (bU awk 112122)).1
def aqo:AC:=dQ (⟨_,by intro t;cbv⟩:LH fun t:AC=>bC t 112122 awk) UE
theorem aBT:aP Tryz.prog dc false 290 28 [(.tmp 8)] aqo:=aR Tryz.func290
def UF:AC:=(sO [oB 12 .lss (.t 11) (.t 10)] (.seq (.cond (.t 12) .skip (.exit 0)) (.seq (.block 1 (sO [oX 13 1 9 11,oL 14 1 13,oM 5 14] (sO [oM 15 3,oM 16 5,oN 17 16,oB 18 .add (.t 15) (.t 17),oM 3 18] (sO [oM 19 3,oB 20 .lss (.t 19) (.c (.int .i64 0))] (.cond (.t 20) (.ops [oR 21 (.OB 9 (.c (.str [108,101,110,32,111,117,116,32,111,102,32,114,97,110,103,101]))),⟨none,.bad,none⟩]) .skip))))) (.ops [oB 22 .add (.t 11) (.c (.int .i64 1)),oM 11 22]))))
def UG:AC:=(sO [oB 28 .lss (.t 27) (.t 26)] (.seq (.cond (.t 28) .skip (.exit 2)) (.seq (.block 3 (sO [oX 29 1 25 27,oL 30 1 29,oM 8 30] (.ops [oM 31 6,oM 32 8,⟨(some 33),(.n (.app 7 64 (.t 31) (.t 32))),none⟩,oM 6 33]))) (.ops [oB 34 .add (.t 27) (.c (.int .i64 1)),oM 27 34]))))
def aqp:AC:=(sO [oR 2 (.BF (.c (.ah [] .nil)))] (sO [oI 3 0] (.seq (sO [oM 9 0,oN 10 9,oI 11 0] (.block 0 (.loop UF))) (sO [oM 23 3,oC 24 321 [(.c (.ah [] .nil)),(.t 23)],oM 6 24] (.seq (sO [oM 25 0,oN 26 25,oI 27 0] (.block 2 (.loop UG))) (sO [oM 35 6,oM 2 35] .ret))))))
theorem aBU:aP Tryz.prog dc true 291 36 [(.tmp 2)] aqp:=aR Tryz.func291
def aqr:AC:=(⟨_,by cbv⟩:CF Tryz.f293 []).1
theorem aBV:aP Tryz.prog dc false 293 13 [(.tmp 4),(.tmp 5),(.tmp 6)] aqr:=aR Tryz.func293
def aqs:AC:=(⟨_,by cbv⟩:CF Tryz.f318 []).1
theorem aBW:aP Tryz.prog dc false 318 8 [(.tmp 2)] aqs:=aR Tryz.func318
def aqt:AC:=(⟨_,by cbv⟩:CF Tryz.f323 [(10,[])]).1
theorem aBX:aP Tryz.prog dc false 323 23 [(.tmp 4),(.tmp 5),(.tmp 6)] aqt:=aR Tryz.func323
end
end Go.VL
end
section
namespace Go.VL
structure Operator where
 text:Str
 fix:Int
 low:Int
 high:Int
 left:Bool
 least:Int
 most:Int
deriving DecidableEq
def Operator.cells (x:Operator):List PV:=[(.str x.text),(.int .i64 x.fix),(.int .i64 x.low),(.int .i64 x.high),(.bool x.left),(.int .i64 x.least),(.int .i64 x.most)]
theorem Operator.jP (x:Operator):x.cells=[(.str x.text),(.int .i64 x.fix),(.int .i64 x.low),(.int .i64 x.high),(.bool x.left),(.int .i64 x.least),(.int .i64 x.most)]:=rfl
theorem Operator.pu (x:Operator): ∀c∈x.cells,Pu c:=dA.mem (.cons (.str _) (.cons (.int _ _) (.cons (.int _ _) (.cons (.int _ _) (.cons (.bool _) (.cons (.int _ _) (.cons (.int _ _) .nil)))))))
theorem Operator.row (x:Operator):jY 7 x.cells:=row_of rfl rfl
instance:ni Operator.cells 7:=⟨fun _=>rfl,fun _=>rfl⟩
attribute [go_sem] Operator.jP
structure Shape where
 names:Int×Int
 operands:Int×Int
 text:Bool
 number:Bool
deriving DecidableEq
def Shape.cells (x:Shape):List PV:=[(.int .i64 x.names.1),(.int .i64 x.names.2),(.int .i64 x.operands.1),(.int .i64 x.operands.2),(.bool x.text),(.bool x.number)]
theorem Shape.jP (x:Shape):x.cells=[(.int .i64 x.names.1),(.int .i64 x.names.2),(.int .i64 x.operands.1),(.int .i64 x.operands.2),(.bool x.text),(.bool x.number)]:=rfl
theorem Shape.pu (x:Shape): ∀c∈x.cells,Pu c:=dA.mem (.cons (.int _ _) (.cons (.int _ _) (.cons (.int _ _) (.cons (.int _ _) (.cons (.bool _) (.cons (.bool _) .nil))))))
attribute [go_sem] Shape.jP
structure Scope where
 old:Str
 new:Str
deriving DecidableEq
def Scope.cells (x:Scope):List PV:=[(.str x.old),(.str x.new)]
theorem Scope.jP (x:Scope):x.cells=[(.str x.old),(.str x.new)]:=rfl
theorem Scope.pu (x:Scope): ∀c∈x.cells,Pu c:=dA.mem (.cons (.str _) (.cons (.str _) .nil))
instance:ni Scope.cells 2:=⟨fun _=>rfl,fun _=>rfl⟩
attribute [go_sem] Scope.jP
end Go.VL
end
section
namespace Go.VL
open Go.Proofs Go.RowKit
def am9 (s sep:Str):Option Int:=match sep with
 |[c]=>some (Lib.indexByte s c)
 |_=>none
theorem awl (s sep:Str) {r:Int} (h:am9 s sep=some r):aD Tryz.prog 334 [.str s,.str sep] (.int .i64 r):=by
 match sep,h with
 |[c],h=>cases h;exact afh s c
def aci (s:Str):Option (List Str):=none
theorem ahY (s:Str) {r:List Str} (h:aci s=some r):aD Tryz.prog 305 [.str s,.fn (.func 306) [] []] (.ah (r.map aF) .unk):=by cases h
end Go.VL
end
section
namespace Go.VL
theorem aZ {α:Type} {p:Prop} [Decidable p] {x:Option α} {r:α} (h:(if p then x else none)=some r):p/\x=some r:=by
 by_cases hp:p
 · rw [if_pos hp]at h;exact⟨hp,h⟩
 · rw [if_neg hp]at h;cases h
theorem ak {α β:Type} {o:Option α} {f:α->Option β} {r:β} (h:Option.bind o f=some r): ∃x,o=some x/\f x=some r:=by
 cases o with
 |none=>cases h
 |some x=>exact⟨x,rfl,h⟩
theorem aA {α:Type} {b:Bool} {x y:Option α} {r:α} (h:cond b x y=some r):(b=true/\x=some r)\/(b=false/\y=some r):=by
 cases b with
 |true=>exact .inl ⟨rfl,h⟩
 |false=>exact .inr ⟨rfl,h⟩
end Go.VL
namespace Go.VL
theorem abl {α:Type} {x r:α} (h:some x=some r):x=r:=Option.some.inj h
end Go.VL
namespace Go.VL
variable [Glob]
theorem aD.lw {P:Program} {f:FuncId} {args args':List PV} {r:PV} (hw:Lw args' args) (h:aD P f args r):aD P f args' r:=h.wk hw
end Go.VL
end
section
namespace Go.VL
theorem dI {A B:Prop} (k:B) (h:A=B:=by first|(simp -implicitDefEqProofs only [go_sem, *];rfl)|rfl):A:=h▸k
theorem aH {A:Prop} (h:A:=by simp -implicitDefEqProofs only [go_sem,and_self, *]):A:=h
theorem aj {A B:Prop} (k:B) (h:A=B:=by first|(simp -implicitDefEqProofs only [go_sem,dO, *];rfl)|rfl):A:=h▸k
theorem av {A:Prop} (h:A:=by simp -implicitDefEqProofs only [go_sem,dO,and_self, *]):A:=h
theorem aN {L:List Nat} {σ σ':Nat->PV} (h:Fr L σ σ':=by repeat (first|assumption|refine Fr.upd (by decide) ?_)):Fr L σ σ':=h
theorem GH {M:List Nat} {H H':AH} (h:HF M H H':=by repeat (first|assumption|refine HF.new ?_|refine HF.UH ?_|refine HF.used ?_|refine HF.put (by first|(right;omega)|(left;simp only [List.mem_cons,true_or,or_true])) ?_|refine HF.via (by assumption) (by first|exact fun i hi=>absurd hi List.not_mem_nil|(intro i hi;simp only [List.mem_cons,List.not_mem_nil,or_false]at hi⊢;first|exact .inl hi|omega)) ?_)):HF M H H':=h
theorem rY {L:List Nat} {σ σ':Nat→PV} (h:Fr L σ σ':=by repeat (first|assumption|refine Fr.upd (by decide) ?_|refine Fr.via (by assumption) (by decide) ?_)):Fr L σ σ':=h
theorem nL {M:List Nat} {H H':AH} (h:HF M H H':=by repeat (first|assumption|refine HF.new ?_|refine HF.UH ?_|refine HF.used ?_|refine HF.put (by first|(right;omega)|(left;simp only [List.mem_cons,true_or,or_true])) ?_)):HF M H H':=h
theorem aQ {p:Prop} (h:p:=by first|omega|(simp only [AH.aS,AH.aT,AH.aU,AH.aV];omega)):p:=h
theorem eY {H:AH} {c:Ck} (h:bf H c:=by repeat (first|assumption|exact bf.nil|exact bf.exact|apply bf.new|apply bf.put)):bf H c:=h
end Go.VL
end
section
namespace Go.VL
open Go.Proofs Go.RowKit
theorem ahZ (l:List Int) (hl:l.length<=1000000) {c:Ck}:aD Tryz.prog 202 [.ah (l.map aK) c] (.ah (l.map aK) .unk):=by
 refine aD.wk (args:=[.ah (l.map aK) .unk]) ?_ (.ah .nil);refine Rf ⟨_,Tryz.func202,rfl,by kernel_rfl⟩ (fun w G vs hg hi hv=> ?_) (dA.mem (.cons (bE cZ _) .nil));obtain⟨u,rfl,hu⟩: ∃u,vs=#[u]/\V G 0 (.ah (l.map aK) .unk) u:=by
  obtain⟨h1,h2⟩:=hv
  match vs,h1,h2 with
  |⟨[u]⟩,_,h2=>exact⟨u,rfl,h2 0 _ u rfl rfl⟩
 obtain⟨ad,cap,rfl,hcap,hx⟩:=aoK hu;rw [List.length_map]at*;by_cases h0:l=[]
 · subst h0;cases ad with
   |none=>
    refine(Tryz.slices_Clone_int_nil 0 cap w).mono ?_;rintro e w' ⟨rfl,rfl⟩;exact⟨_,rfl,Below.refl _ _,fun G' n _=> .ah [] .unk 1 none 0 (fun _ _=> .bool true) (fun i cs e=>by simp at e) (Nat.le_refl _) (fun h=>absurd rfl h) (fun i cs j c e=>by simp at e) trivial⟩
   |some a=>
    refine(Tryz.slices_Clone_int_zero a cap w).mono ?_;rintro e w' ⟨v',rfl,⟨_,hown⟩,_,hb⟩;refine⟨_,rfl,hb,fun G' n _=> ?_⟩;rcases hown with⟨rfl,_⟩|⟨g,cp,cur,rfl,_,_,h1,_⟩
    · exact .ah [] .unk 1 none 0 (fun _ _=> .bool true) (fun i cs e=>by simp at e) (Nat.le_refl _) (fun h=>absurd rfl h) (fun i cs j c e=>by simp at e) trivial
    · exact .ah [] .unk 1 (some ⟨g,0,none⟩) cp (fun _ _=> .bool true) (fun i cs e=>by simp at e) h1 (fun h=>absurd rfl h) (fun i cs j c e=>by simp at e) trivial
 · obtain⟨b,o,rfl,f,e2,h4⟩:=hx 1 (fun cs h=>by obtain⟨s,_,rfl⟩:=List.mem_map.1 h;rfl) (by simpa using h0);have hcell: ∀j,j<l.length->w.cell? ⟨b,o+j,none⟩=some (.int .i64 (l.getD j 0)):=by
    intro j hj;have hg:(l.map aK)[j]? =some (aK l[j]):=by simp [hj]
    have a:=e2 j _ hg 0 (.int .i64 l[j]) rfl;have b':=h4 j _ 0 (.int .i64 l[j]) hg rfl;generalize f j 0=v at a b';cases b';have:=hi _ _ a;rw [Nat.mul_one,Nat.add_zero]at this;rw [this];simp [List.getD,hj]
   refine(Tryz.slices_Clone_int b o l.length cap l w (by simp) (by omega) (by simpa using hcell)).mono ?_;rintro e w' ⟨v',rfl,⟨_,hown⟩,hne,hb⟩;refine⟨_,rfl,hb,fun G' n hnew=> ?_⟩;rcases hown with⟨rfl,_⟩|⟨g,cp,cur,rfl,hge,hblk,h1,h2,h3,h5⟩
   · exact absurd rfl hne
   · refine Eq.mp (by rw [List.length_map]) (V.ah (G:=G') (n:=n) (l.map aK) .unk 1 (some ⟨g,0,none⟩) cp (fun i _=> .int .i64 (l[i]?.getD 0)) (fun i cs e=> ?_) (by simpa using h1) (fun _=>⟨g,0,rfl,fun i cs e j c ec=> ?_⟩) (fun i cs j c e ec=> ?_) trivial)
     · simp only [List.getElem?_map,Option.map_eq_some_iff]at e;obtain⟨s,_,rfl⟩:=e;rfl
     · simp only [List.getElem?_map,Option.map_eq_some_iff]at e;obtain⟨s,e1,rfl⟩:=e;have hj:j=0:=by
        have:=(List.getElem?_eq_some_iff.1 ec).1;simp [aK]at this;exact this
       subst hj;have hlt:=(List.getElem?_eq_some_iff.1 e1).1;refine hnew _ _ hge ?_;have hc:cur[i]? =some (.int .i64 s):=by
        have:=congrArg (·[i]?) h5
        simp only [Nat.mul_one,List.getElem?_take,hlt,if_true,List.map_map]at this;rw [<-Array.getElem?_toList,this];simp [e1,List.take_of_length_le]
       simp only [World.cell?,hblk,Nat.zero_add,Nat.mul_one,Nat.add_zero,e1,Option.getD_some];simpa using hc
     · simp only [List.getElem?_map,Option.map_eq_some_iff]at e;obtain⟨s,e1,rfl⟩:=e;have hj:j=0:=by
        have:=(List.getElem?_eq_some_iff.1 ec).1;simp [aK]at this;exact this
       subst hj;simp only [aK,List.getElem?_cons_zero,Option.some.injEq]at ec;subst ec;simp only [e1,Option.getD_some];exact .int .i64 s
theorem awm (n:Nd):jY 5 n.cells:=row_of rfl rfl
section
variable [Glob] {P:Program} {Q:Post} {σ:Nat->PV} {s:List Fm} {α:Type} {H:AH} {f:α->List PV} {sz:Nat}
theorem MW {d:Option Nat} {b:Nat} {x y:AE} {l:List aI} [hr:ni f sz] (hf: ∀x,jY sz (f x)) (ys:List α) (c2:Ck)
 (hx:x.ev σ= .ah [] .exact) (hy:y.ev σ= .ah (ys.map f) c2) (hs:0<ys.length) (hb:ys.length*b<=1099511627776)
 (h: ∀(v':PV) (gK:List Nat) (H':AH),aG H' f sz ys v' gK->Nw H [] gK->HF [] H H'->(∀c3,bf H c3->bf H' c3)->WO P l s Q (upd σ d v') H'):
 WO P (⟨d,.n (.app sz b x y),none⟩::l) s Q σ H:=by
 show dM P _ _ σ H
 rw [II];simp only [nop,hx,hy];have h0: ¬((ys.map f).length=0):=by rw [List.length_map];omega
 simp only [uS,rowOf];rw [if_neg h0];split
 · intro cap hcap;simp only [List.length_map,List.length_nil,Nat.zero_add,List.nil_append]at hcap⊢;refine h _ [H.next] _ (.inr ⟨H.next,cap,List.replicate ((cap -ys.length)*sz) .any,rfl,rfl,hcap,Nat.lt_succ_self _,?_,by rw [List.length_replicate]⟩) (fun i hi=> .inr (by rw [List.mem_singleton.1 hi];exact Nat.le_refl _)) (HF.new (HF.refl _ _)) (fun c3 k=>k.new);show(if H.next=H.next then some _ else _)=_;rw [if_pos rfl]
 · rename_i hno;exact(hno ⟨qC hf ([]:List α),qC hf ys,by simpa using hb⟩).elim
end
theorem ana {H:AH} {id:Nat} {cs:List PV} (h:H.obj id=some cs):H.put id cs=H:=by
 unfold AH.put;have:(fun i=>if i=id then some cs else H.obj i)=H.obj:=by
  funext i
  by_cases e:i=id
  · subst e;rw [if_pos rfl,h]
  · rw [if_neg e]
 rw [this]
theorem afi (e:List Nd) (h0:0<e.length) (hl:e.length<=1000000):ML Tryz.prog 238 [gN e] Nd.cells 5 e:=by
 intro H;refine aM aBl (by simp) (aJ ?_);unfold apQ;have h1: ¬(e.map Nd.cells).length=0:=by rw [List.length_map];omega
 simp -implicitDefEqProofs only [go_sem,show ¬e.length=0 by omega,if_true,ne_eq,not_false_eq_true];refine MW (f:=Nd.cells) awm e .unk aH aH h0 (by omega) (fun v' gK H' g1 g2 g3 g4=> ?_);simp -implicitDefEqProofs only [go_sem];exact⟨gK,g1,g2,g3,g4⟩
theorem aaD {C:List PV} {o:Nat} {p:PV} (ho:C[o]? =some p):putCells C o [p]=C:=by
 have hlt:=(List.getElem?_eq_some_iff.1 ho).1;have h2:=(List.getElem?_eq_some_iff.1 ho).2;unfold putCells;simp only [List.length_cons,List.length_nil,Nat.zero_add];rw [List.append_assoc,List.singleton_append,<-h2,List.getElem_cons_drop,List.take_append_drop]
theorem ah0 {σ:Nat->PV} {H:AH} {x w:AE} {id o:Nat} {p:PV} {C:List PV} (hx:x.ev σ= .ref id o) (hw:cellsOf (w.ev σ)=some [p]) (hone:p.one=true) (hC:H.obj id=some C) (ho:C[o]? =some p):jo (.store 1 x w) σ H=some (.any,H):=by
 have hlt:=(List.getElem?_eq_some_iff.1 ho).1;simp only [jo,hx,hw,hC];rw [if_pos ⟨rfl,by omega,by simp [hone]⟩,aaD ho,ana hC]
theorem asE [Glob] {P:Program} {Q:Post} {σ:Nat->PV} {s:List Fm} {H:AH} {d:Option Nat} {k:DK} {l:List aI} {p:PV} (h:jo k σ H=some (p,H)) (h2:WO P l s Q (upd σ d p) H):WO P (⟨d,.d k,none⟩::l) s Q σ H:=by
 show WD P (jo k σ H) d l s Q σ
 rw [h];exact h2
end Go.VL
end
section
set_option maxRecDepth 100000
namespace Go.VL.Cn
open Go.Proofs Go.VL
def dc (n:Nat):Bool:=([284,263,181,188,258]:List Nat).contains n
def ah1:AC:=(sO [oR 2 (.BF (.c (.ah [] .nil)))] (.seq (sO [oM 3 0,oR 4 (.bin .eql .sl (.t 3) (.c (.ah [] .nil)))] (.cond (.t 4) (sO [oR 2 (.BF (.c (.ah [] .nil)))] .ret) .skip)) (sO [oR 5 (.Ci 1 []),oM 6 0,⟨(some 7),(.n (.app 1 16 (.t 5) (.t 6))),none⟩,oM 2 7] .ret)))
theorem aqu:aP Tryz.prog dc true 181 8 [(.tmp 2)] ah1:=aR Tryz.func181
end Go.VL.Cn
namespace Go.VL.Cd
open Go.Proofs Go.VL
def dc (n:Nat):Bool:=([181,1000000]:List Nat).contains n
def MX:AC:=(sO [oB 10 .lss (.t 9) (.t 8)] (.seq (.cond (.t 10) .skip (.exit 0)) (.seq (.block 1 (sO [oM 11 9,oM 4 11] (.su [0,0,0,0,0,0,48,112,240,496,0,0,3072,7168,15360,32752,65523,131059,262131,524287,1048575,2097151] [(oM 12 3,false),(oM 13 4,false),(oM 14 3,false),(oM 15 4,false),(oM 16 3,false),(oM 17 4,false),(oX 18 5 16 17,false),(oF 19 3 18,false),(oL 20 1 19,false),(oC 21 181 [(.t 20)],true),(oM 22 3,false),(oM 23 4,false),(oX 24 5 22 23,false),(oF 25 4 24,false),(oL 26 1 25,false),(oC 27 202 [(.t 26)],false),(oX 28 5 12 13,false),(oF 29 3 28,false),(oS 1 29 21,true)] [oX 30 5 14 15,oF 31 4 30,oS 1 31 27]))) (.ops [oB 32 .add (.t 9) (.c (.int .i64 1)),oM 9 32]))))
def aqv:AC:=(sO [oR 2 (.BF (.c (.ah [] .nil)))] (sO [oM 5 0,oC 6 238 [(.t 5)],oM 3 6] (.seq (sO [oM 7 3,oN 8 7,oI 9 0] (.block 0 (.loop MX))) (sO [oM 33 3,oM 2 33] .ret))))
theorem aBY:aP Tryz.prog dc false 188 34 [(.tmp 2)] aqv:=aR Tryz.func188
end Go.VL.Cd
end
section
namespace Go.VL
open Go.Proofs Go.RowKit
inductive NV where
 |p (l:List Str)
 |m (id len cap:Nat)
def NV.pv:NV->PV
 | .p l=> .ah (l.map aF) .unk
 | .m id len cap=> .bO id 0 len cap 1
def NV.ids:NV->List Nat
 | .p _=>[]
 | .m id _ _=>[id]
def jZ (x:Nd×NV):List PV:=[.int .i64 x.1.kind,.int .i64 x.1.n,.str x.1.text,x.2.pv,.ah (x.1.args.map aK) .unk]
instance:ni jZ 5:=⟨fun _=>rfl,fun x=>by obtain⟨n,v⟩:=x;cases v<;>rfl⟩
def jF (H:AH) (x:Nd×NV):Prop:=match x.2 with
 | .p l=>l=[]/\x.1.names=[]
 | .m id len cap=>x.1.names≠[]/\aG H aF 1 x.1.names (.bO id 0 len cap 1) [id]
theorem jF.hf {M:List Nat} {H H':AH} {x:Nd×NV} (h:jF H x) (hf:HF M H H') (hd:Dj x.2.ids M):jF H' x:=by
 obtain⟨n,v⟩:=x;cases v with
 |p l=>exact h
 |m id len cap=>exact⟨h.1,h.2.hf hf hd⟩
theorem jF.lt {H:AH} {x:Nd×NV} (h:jF H x): ∀j∈x.2.ids,j<H.next:=by
 obtain⟨n,v⟩:=x;cases v with
 |p l=>intro j hj;cases hj
 |m id len cap=>exact h.2.lt
structure Pj (H:AH) (l:List (Nd×NV)) (v:PV) (id:Nat) (k lo:Nat):Prop where
 row:aG H jZ 5 l v [id]
 GI: ∀(i:Nat) (x:Nd×NV),l[i]? =some x->if i<k then jF H x else x.2= .p x.1.names
 dj: ∀(i j:Nat) (x y:Nd×NV),l[i]? =some x->l[j]? =some y->i≠j->Dj x.2.ids y.2.ids
 ne: ∀(i:Nat) (x:Nd×NV),l[i]? =some x->id∉x.2.ids
 lob: ∀(i:Nat) (x:Nd×NV),l[i]? =some x-> ∀j∈x.2.ids,lo<=j
 Yk:lo<=id
theorem ah2 (l:List Str) (h0:l≠[]) (hl:l.length<=1000000):ML Tryz.prog 181 [.ah (l.map aF) .unk] aF 1 l:=by
 intro H;refine aM Cn.aqu (by simp) (aJ ?_);unfold Cn.ah1;have hp:0<l.length:=List.length_pos_iff.2 h0;have h1: ¬(l.map aF).length=0:=by rw [List.length_map];omega
 simp -implicitDefEqProofs only [go_sem,show ¬l.length=0 by omega,if_true,ne_eq,not_false_eq_true];refine MW (f:=aF) lC l .unk aH aH hp (by omega) (fun v' gK H' g1 g2 g3 g4=> ?_);simp -implicitDefEqProofs only [go_sem];exact⟨gK,g1,g2,g3,g4⟩
theorem Rh (n:Nd) (hl:n.names.length<=1000000) (H:AH):bg Tryz.prog 181 [.ah (n.names.map aF) .unk] H fun v H'=> ∃y:NV,v=y.pv/\jF H' (n,y)/\(∀j∈y.ids,H.next<=j)/\HF [] H H'/\ ∀c,bf H c->bf H' c:=by
 by_cases h0:n.names=[]
 · refine bg.mono (OZ n.names hl H) fun v H' ⟨h1,h2⟩=>⟨.p [],?_,(show jF H' (n,.p [])from⟨rfl,h0⟩),fun j hj=>absurd hj List.not_mem_nil,?_,?_⟩
   · rw [h1,h0];rfl
   · subst h2;exact HF.refl _ _
   · subst h2;exact fun _ h=>h
 · refine bg.mono (ah2 n.names h0 hl H) fun v H' ⟨ids,h1,h2,h3,h4⟩=> ?_;have h1':=h1;rcases h1 with⟨_,h,_⟩|⟨id,cap,junk,rfl,rfl,_⟩
   · exact absurd h h0
   · refine⟨.m id n.names.length cap,rfl,⟨h0,h1'⟩,fun j hj=> ?_,h3,h4⟩;rcases h2 j hj with q|q
     · cases q
     · exact q
section
variable {α:Type} {f:α->List PV} {sz:Nat} {σ:Nat->PV} {H:AH}
theorem ah3 {n:Nat} {x w:AE} [hr:ni f sz] {xs:List α} {v:PV} {ids:List Nat} {id o i j:Nat} {a y:α} {vs:List PV}
 (hx:x.ev σ= .ref id o) (hid:ids=[id]) (ho:o=i*sz+j) (hrow:aG H f sz xs v ids) (ha:xs[i]? =some a) (hv:cellsOf (w.ev σ)=some vs) (hl:vs.length=n) (hone:vs.all PV.one=true) (hj:j+n<=sz) (hy:putCells (f a) j vs=f y):
 ∃H',jo (.store n x w) σ H=some (.any,H')/\aG H' f sz (xs.set i y) v ids/\HF ids H H'/\ ∀c,bf H c->bf H' c:=by
 have h:=pJ (P:=Tryz.prog) (s:=[]) (Q:=fun e σ' H'=>aG H' f sz (xs.set i y) v ids/\HF ids H H'/\ ∀c,bf H c->bf H' c) (d:=none) (n:=n) (x:=x) (w:=w) (l:=[]) hx hid ho hrow ha hv hl hone hj hy (fun H' h1 h2 h3=>⟨h1,h2,h3⟩);have h2:WD Tryz.prog (jo (.store n x w) σ H) none [] [] (fun e σ' H'=>aG H' f sz (xs.set i y) v ids/\HF ids H H'/\ ∀c,bf H c->bf H' c) σ:=h;have key: ∀q,jo (.store n x w) σ H=some q->q.1= .any:=by
  intro q hq;simp only [jo,hx,hv]at hq;split at hq
  · split at hq
    · cases hq;rfl
    · cases hq
  · cases hq
 cases hd:jo (.store n x w) σ H with
 |none=>rw [hd]at h2;exact h2.elim
 |some q=>
  rw [hd]at h2;obtain⟨p,H'⟩:=q;have:=key _ hd;simp only at this;subst this;exact⟨H',rfl,h2⟩
end
def xU:List (aI×Bool):=[(oM 12 3,false),(oM 13 4,false),(oM 14 3,false),(oM 15 4,false),(oM 16 3,false),(oM 17 4,false),(oX 18 5 16 17,false),(oF 19 3 18,false),(oL 20 1 19,false),(oC 21 181 [(.t 20)],true),(oM 22 3,false),(oM 23 4,false),(oX 24 5 22 23,false),(oF 25 4 24,false),(oL 26 1 25,false),(oC 27 202 [(.t 26)],false),(oX 28 5 12 13,false),(oF 29 3 28,false),(oS 1 29 21,true)]
def aqw:List Nat:=[0,0,0,0,0,0,48,112,240,496,0,0,3072,7168,15360,32752,65523,131059,262131,524287,1048575,2097151]
def sS (v:PV) (i:Nat) (id:Nat) (n:Nd) (y:PV):Nat->PV
 |0|2|4|10=>v
 |1|3|5|11=> .int .i64 i
 |6|12|16=> .ref id (i*5)
 |7|17=> .ref id (i*5+3)
 |8=> .ah (n.names.map aF) .unk
 |9=>y
 |13=> .ref id (i*5+4)
 |14|15=> .ah (n.args.map aK) .unk
 |18=> .any
 |_=>ud
theorem ah4 (n:Nd) (h1:n.names.length<=1000000) (h2:n.args.length<=1000000) {l:List (Nd×NV)} {i id:Nat} {v:PV} {σ:Nat->PV} {H:AH} {K:(Nat->PV)->AH->Prop}
 (hrow:aG H jZ 5 l v [id]) (hx:l[i]? =some (n,.p n.names)) (s3:σ 3=v) (s4:σ 4= .int .i64 i)
 (hK: ∀(y:NV) (σ':Nat->PV) (H':AH),jF H' (n,y)->(∀j∈y.ids,H.next<=j)->aG H' jZ 5 (l.set i (n,y)) v [id]->HF [id] H H'->(∀c,bf H c->bf H' c)->σ'=bT xU (sS v i id n y.pv) σ 19->K σ' H'):
 ∃val:Nat->PV,yw Tryz.prog aqw xU K σ (wo xU).length (wo xU) val H:=by
 obtain⟨id',C,e1,hid,hC,hcell,hle,hdrop,hI⟩:=aG.content hrow hx;obtain rfl:id=id':=by simpa using e1
 have hI':jR 5 v (.int .i64 i)=some (.ref id (i*5)):=hI .i64 i (by omega) (by omega);have c3:C[i*5+3]? =some (.ah (n.names.map aF) .unk):=hcell 3 _ rfl;have c4:C[i*5+4]? =some (.ah (n.args.map aK) .unk):=hcell 4 _ rfl;have aqx:wo xU=[9,18]:=by kernel_rfl
 refine⟨sS v i id n ud,?_⟩
 refine asD (fun rem val H'=>(rem=[9,18]/\val=sS v i id n ud/\H'=H)\/
  (rem=[18]/\ ∃y:NV,val=sS v i id n y.pv/\jF H' (n,y)/\(∀j∈y.ids,H.next<=j)/\HF [] H H'/\ ∀c,bf H c->bf H' c)\/
  (rem=[]/\ ∃y:NV,val=sS v i id n y.pv/\jF H' (n,y)/\(∀j∈y.ids,H.next<=j)/\aG H' jZ 5 (l.set i (n,y)) v [id]/\HF [id] H H'/\ ∀c,bf H c->bf H' c)) ?_ ?_ ?_ _ _ _ _ (Nat.le_refl _) (.inl ⟨aqx,rfl,rfl⟩)
 ·
   have key: ∀(y:PV) (H':AH),H'.obj id=some C->zC Tryz.prog H' (fun _=>false) 0 xU (sS v i id n y) σ:=by
    intro y H' hC';unfold xU;refine⟨.inr (.inr ⟨rfl,?_⟩),.inr (.inr ⟨rfl,?_⟩),.inr (.inr ⟨rfl,?_⟩),.inr (.inr ⟨rfl,?_⟩),.inr (.inr ⟨rfl,?_⟩),.inr (.inr ⟨rfl,?_⟩),.inr (.inr ⟨rfl,?_⟩),.inr (.inr ⟨rfl,?_⟩),.inr (.inr ⟨rfl,?_⟩),.inl rfl,.inr (.inr ⟨rfl,?_⟩),.inr (.inr ⟨rfl,?_⟩),.inr (.inr ⟨rfl,?_⟩),.inr (.inr ⟨rfl,?_⟩),.inr (.inr ⟨rfl,?_⟩),.inr (.inr ⟨rfl,?_⟩),.inr (.inr ⟨rfl,?_⟩),.inr (.inr ⟨rfl,?_⟩),.inl rfl,trivial⟩
    all_goals simp -implicitDefEqProofs only [d9,go_sem,sS,s3,s4,hI',hC',c3,c4,Nat.reduceAdd,and_self]
    exact ahZ n.args h2 H'
   rintro rem val H' (⟨rfl,rfl,rfl⟩|⟨rfl,y,rfl,g1,g2,g3,g4⟩|⟨rfl,y,rfl,g1,g2,g3,g4,g5⟩)
   · exact⟨fun _=>false,key _ _ hC,fun i h=>by cases h⟩
   · exact⟨fun _=>false,key _ _ ((g3.2 id hid List.not_mem_nil).trans hC),fun i h=>by cases h⟩
   · refine⟨fun k=>decide (k<18/\k≠2/\k≠3),?_,fun k h=> .inr ⟨18,by rw [aqx];simp,by simp,?_⟩⟩
     · unfold xU;refine⟨.inr (.inl rfl),.inr (.inl rfl),.inr (.inr ⟨rfl,?_⟩),.inr (.inr ⟨rfl,?_⟩),.inr (.inl rfl),.inr (.inl rfl),.inr (.inl rfl),.inr (.inl rfl),.inr (.inl rfl),.inl rfl,.inr (.inl rfl),.inr (.inl rfl),.inr (.inl rfl),.inr (.inl rfl),.inr (.inl rfl),.inr (.inl rfl),.inr (.inl rfl),.inr (.inl rfl),.inl rfl,trivial⟩
       all_goals simp -implicitDefEqProofs only [d9,go_sem,sS,s3,s4,Nat.reduceAdd,and_self]
     · have h:=of_decide_eq_true h;have hall:(List.range 18).all (fun k=>decide (k=2)||decide (k=3)||eB aqw k 18)=true:=by kernel_rfl
       have:=List.all_eq_true.1 hall k (List.mem_range.2 h.1);simpa [h.2.1,h.2.2]using this
 · have hvf: ∀(a b:PV) (k:Nat),k≠9->sS v i id n a k=sS v i id n b k:=by
    intro a b k hk;unfold sS;split<;>first|rfl|exact absurd rfl hk
   rintro rem val H' j o (⟨rfl,rfl,rfl⟩|⟨rfl,y,rfl,g1,g2,g3,g4⟩|⟨rfl,y,rfl,g1,g2,g3,g4,g5⟩) hj ho hb
   · have hj9:j=9:=by
      simp only [List.mem_cons,List.not_mem_nil,or_false]at hj;rcases hj with rfl|rfl
      · rfl
      · rcases hb 9 (by simp)with h|h
        · exact absurd h (by decide+kernel)
        · cases h
     subst hj9;have ho':o=oC 21 181 [(.t 20)]:=by
      have:xU[9]? =some (oC 21 181 [(.t 20)],true):=rfl;rw [this]at ho;exact(Prod.mk.inj (Option.some.inj ho)).1.symm
     subst ho';refine⟨trivial,?_⟩;show bg Tryz.prog 181 [bT xU (sS v i id n ud) σ 9 20] H' _;have e20:bT xU (sS v i id n ud) σ 9 20= .ah (n.names.map aF) .unk:=rfl;rw [e20];refine bg.mono (Rh n h1 H') fun r H1 ⟨y,k1,k2,k3,k4,k5⟩=>⟨sS v i id n y.pv,fun k hk _=>hvf _ _ k (fun h=>hk (by rw [h];simp)),k1.symm,.inr (.inl ⟨by rfl,y,rfl,k2,k3,k4,k5⟩)⟩
   · have aEX:j=18:=by simpa using hj
     subst aEX;have ho':o=oS 1 29 21:=by
      have:xU[18]? =some (oS 1 29 21,true):=rfl;rw [this]at ho;exact(Prod.mk.inj (Option.some.inj ho)).1.symm
     subst ho';refine⟨trivial,?_⟩;have hrow':aG H' jZ 5 l v [id]:=hrow.hf g3 (fun _ _ h=>by cases h);obtain⟨H2,d1,d2,d3,d4⟩:=ah3 (f:=jZ) (σ:=bT xU (sS v i id n y.pv) σ 18) (H:=H') (x:= .t 29) (w:= .t 21) (n:=1) (id:=id) (o:=i*5+3) (i:=i) (j:=3) (a:=(n,.p n.names)) (y:=(n,y)) (vs:=[y.pv]) rfl rfl rfl hrow' hx (by cases y<;>rfl) rfl (by cases y<;>rfl) (by decide) (by cases y<;>rfl);show(match jo (.store 1 (.t 29) (.t 21)) (bT xU (sS v i id n y.pv) σ 18) H' with|some (p,H2)=>_|none=>False);rw [d1];refine⟨sS v i id n y.pv,fun _ _ _=>rfl,rfl,.inr (.inr ⟨by rfl,y,rfl,g1.hf d3 (fun a ha hm=> ?_),g2,d2,?_,fun c h=>d4 c (g4 c h)⟩)⟩
     · have:=List.mem_singleton.1 hm;have:=g2 a ha;omega
     · exact⟨Nat.le_trans g3.1 d3.1,fun a ha hm=>(d3.2 a (Nat.lt_of_lt_of_le ha g3.1) hm).trans (g3.2 a ha List.not_mem_nil)⟩
   · cases hj
 · rintro val H' (⟨h,_⟩|⟨h,_⟩|⟨_,y,rfl,g1,g2,g3,g4,g5⟩)
   · cases h
   · cases h
   · exact hK y _ H' g1 g2 g3 g4 g5 rfl
theorem anb {H H':AH} {l:List (Nd×NV)} {v:PV} {id i lo:Nat} {n:Nd} {w:NV} (hO:Pj H l v id i lo) (hx:l[i]? =some (n,w)) {y:NV} (g1:jF H' (n,y)) (g2: ∀j∈y.ids,H.next<=j) (g3:aG H' jZ 5 (l.set i (n,y)) v [id]) (g4:HF [id] H H') (hlo:lo<=H.next):Pj H' (l.set i (n,y)) v id (i+1) lo:=by
 have hi:=(List.getElem?_eq_some_iff.1 hx).1;have hget: ∀k x,(l.set i (n,y))[k]? =some x->(k=i/\x=(n,y))\/(k≠i/\l[k]? =some x):=by
  intro k x h;rw [List.getElem?_set]at h;by_cases hk:i=k
  · subst hk;rw [if_pos rfl,if_pos hi]at h;exact .inl ⟨rfl,(Option.some.inj h).symm⟩
  · rw [if_neg hk]at h;exact .inr ⟨fun e=>hk e.symm,h⟩
 have hold: ∀k x,k≠i->l[k]? =some x-> ∀j∈x.2.ids,j<H.next:=by
  intro k x hk h j hj;have:=hO.GI k x h;by_cases hlt:k<i
  · rw [if_pos hlt]at this;exact this.lt j hj
  · rw [if_neg hlt]at this;rw [this]at hj;cases hj
 refine⟨g3,?_,?_,?_,?_,hO.Yk⟩
 · intro k x h;rcases hget k x h with⟨rfl,rfl⟩|⟨hk,h⟩
   · rw [if_pos (Nat.lt_succ_self _)];exact g1
   · have:=hO.GI k x h;by_cases hlt:k<i
     · rw [if_pos hlt]at this;rw [if_pos (by omega)];refine this.hf g4 fun a ha hm=>hO.ne k x h ?_;rw [<-List.mem_singleton.1 hm];exact ha
     · rw [if_neg hlt]at this;rw [if_neg (by omega)];exact this
 · intro k k' x x' h h' hne a ha ha';rcases hget k x h with⟨q1,q2⟩|⟨hk,hx1⟩<;>rcases hget k' x' h' with⟨q3,q4⟩|⟨hk',hx2⟩
   · exact hne (q1.trans q3.symm)
   · subst q2;have:=g2 a ha;have:=hold k' x' hk' hx2 a ha';omega
   · subst q4;have:=g2 a ha';have:=hold k x hk hx1 a ha;omega
   · exact hO.dj k k' x x' hx1 hx2 hne a ha ha'
 · intro k x h hm;rcases hget k x h with⟨rfl,rfl⟩|⟨hk,h⟩
   · have:=g2 id hm;have:=hO.row.lt id (List.mem_singleton.2 rfl);omega
   · exact hO.ne k x h hm
 · intro k x h j hj;rcases hget k x h with⟨rfl,rfl⟩|⟨hk,h⟩
   · have:=g2 j hj;omega
   · exact hO.lob k x h j hj
theorem akh (e:List Nd) (hn: ∀(i:Nat) n,e[i]? =some n->n.names.length<=1000000/\n.args.length<=1000000) (hl:e.length<=1000000) (lo:Nat): ∀(m i:Nat) (σ:Nat->PV) (H:AH) (v:PV) (id:Nat) (l:List (Nd×NV)) (Q:Post),i+m=e.length->σ 3=v->σ 8= .int .i64 e.length->σ 9= .int .i64 i->l.map Prod.fst=e->Pj H l v id i lo->lo<=H.next->
 (∀σ' H' l',σ' 3=v->l'.map Prod.fst=e->Pj H' l' v id e.length lo->HF [id] H H'->(∀c,bf H c->bf H' c)->Q (.exit 0) σ' H')->W Tryz.prog (.loop Cd.MX) Q σ H:=by
 intro m
 induction m with
 |zero=>
  intro i σ H v id l Q hi s3 s8 s9 he hO hlo q0;refine bA (fun K hK=>aJ ?_);unfold Cd.MX;have hd:decide ((i:Int)<(e.length:Int))=false:=decide_eq_false (by omega);simp -implicitDefEqProofs only [go_sem,s3,s8,s9,hd];have hi':i=e.length:=by omega
  subst hi';exact q0 _ _ l aH he hO (HF.refl _ _) (fun _ h=>h)
 |succ m ih=>
  intro i σ H v id l Q hi s3 s8 s9 he hO hlo q0;have hlt:i<e.length:=by omega
  have hll:l.length=e.length:=by rw [<-he,List.length_map]
  obtain⟨⟨n,w⟩,hx0⟩: ∃x,l[i]? =some x:=⟨_,List.getElem?_eq_getElem (by omega)⟩;have hxe:e[i]? =some n:=by
   have:=congrArg (·[i]?) he
   simp only [List.getElem?_map,hx0,Option.map_some]at this;exact this.symm
  obtain⟨h1,h2⟩:=hn i _ hxe;have hp:=hO.GI i _ hx0;rw [if_neg (Nat.lt_irrefl _)]at hp;have hx:l[i]? =some (n,.p n.names):=by rw [hx0];simp only at hp;rw [hp]
  refine bA (fun K hK=>aJ ?_);unfold Cd.MX;have hd:decide ((i:Int)<(e.length:Int))=true:=decide_eq_true (by omega);simp -implicitDefEqProofs only [go_sem,s3,s8,s9,hd];refine XI (ah4 n h1 h2 hO.row hx aH aH fun y σ' H' g1 g2 g3 g4 g5 hσ=> ?_);have hO':=anb hO hx g1 g2 g3 g4 hlo;have hx2:(l.set i (n,y))[i]? =some (n,y):=by rw [List.getElem?_set,if_pos rfl,if_pos (by omega)]
  obtain⟨id',C,e1,hid,hC,hcell,hle,hdrop,hI⟩:=aG.content g3 hx2;obtain rfl:id=id':=by simpa using e1
  have hI':jR 5 v (.int .i64 i)=some (.ref id (i*5)):=hI .i64 i (by omega) (by omega);have c4:C[i*5+4]? =some (.ah (n.args.map aK) .unk):=hcell 4 _ (by cases y<;>rfl);have t14:σ' 14=v:=by rw [hσ];rfl
  have t15:σ' 15= .int .i64 i:=by rw [hσ];rfl
  have t27:σ' 27= .ah (n.args.map aK) .unk:=by rw [hσ];rfl
  have t3:σ' 3=v:=by rw [hσ];exact s3
  have t8:σ' 8= .int .i64 e.length:=by rw [hσ];exact s8
  have t9:σ' 9= .int .i64 i:=by rw [hσ];exact s9
  clear hσ;simp -implicitDefEqProofs only [go_sem,t14,t15,t27,hI',hC,c4];refine asE (ah0 (id:=id) (o:=i*5+4) (p:= .ah (n.args.map aK) .unk) (C:=C) (by simp -implicitDefEqProofs only [go_sem,t14,t15,t27,hI',hC,c4]) (by simp -implicitDefEqProofs only [go_sem,t14,t15,t27,hI',hC,c4]) rfl hC c4) ?_;have hw:IntKind.wrap .i64 ((i:Int)+1)=((i+1:Nat):Int):=by rw [IntKind.wrap_i64];omega
  simp -implicitDefEqProofs only [go_sem,t9];refine hK _ _ (ih (i+1) _ H' v id _ Q (by omega) aH aH (by simp -implicitDefEqProofs only [go_sem];rw [hw]) ?_ hO' (Nat.le_trans hlo g4.1) fun σ2 H2 l2 k1 k2 k3 k4 k5=>q0 σ2 H2 l2 k1 k2 k3 ?_ (fun c h=>k5 c (g5 c h)))
  · rw [List.map_set,he];exact(by obtain⟨h,rfl⟩:=List.getElem?_eq_some_iff.1 hxe;exact List.set_getElem_self h)
  · exact⟨Nat.le_trans g4.1 k4.1,fun a ha hm=>(k4.2 a (Nat.lt_of_lt_of_le ha g4.1) hm).trans (g4.2 a ha hm)⟩
theorem ah5 (e:List Nd) (h0:0<e.length) (hn: ∀(i:Nat) n,e[i]? =some n->n.names.length<=1000000/\n.args.length<=1000000) (hl:e.length<=1000000) (H:AH):
 bg Tryz.prog 188 [gN e] H fun v H'=> ∃id l,l.map Prod.fst=e/\Pj H' l v id e.length H.next/\HF [] H H'/\ ∀c,bf H c->bf H' c:=by
 refine aM Cd.aBY (by simp) (aJ ?_);unfold Cd.aqv;simp -implicitDefEqProofs only [go_sem];refine akb (afi e h0 hl) fun v ids H' g1 g2 g3 g4=> ?_;have hlen:=g1.O1;obtain⟨id,rfl⟩: ∃id,ids=[id]:=by
  rcases g1 with⟨_,h,_⟩|⟨id,_,_,h,_⟩
  · rw [h]at h0;simp at h0
  · exact⟨id,h⟩
 have aEY:H.next<=id:=by
  rcases g2 id (List.mem_singleton.2 rfl)with h|h
  · cases h
  · exact h
 have hmap:(e.map fun n=>((n,NV.p n.names):Nd×NV)).map jZ=e.map Nd.cells:=by
  rw [List.map_map];rfl
 have hO:Pj H' (e.map fun n=>(n,NV.p n.names)) v id 0 H.next:=by
  refine⟨?_,fun i x hx=> ?_,fun i j x y hx hy _=> ?_,fun i x hx=> ?_,fun i x hx=> ?_,aEY⟩
  · rcases g1 with⟨_,h,_⟩|⟨id',cap,junk,h1,h2,h3,h4,h5,h6⟩
    · rw [h]at h0;simp at h0
    · exact .inr ⟨id',cap,junk,h1,by rw [List.length_map];exact h2,by rw [List.length_map];exact h3,h4,by rw [hmap];exact h5,by rw [List.length_map];exact h6⟩
  all_goals
   rw [List.getElem?_map,Option.map_eq_some_iff]at hx;obtain⟨n,hn',rfl⟩:=hx
  · rfl
  · intro a ha;cases ha
  · intro hm;cases hm
  · intro a ha;cases ha
 simp -implicitDefEqProofs only [go_sem,hlen];refine akh e hn hl H.next e.length 0 _ H' v id _ _ (by omega) aH aH aH (by rw [List.map_map];exact List.map_id _) hO g3.1 fun σ' H2 l2 s3 k2 k3 k4 k5=> ?_;simp -implicitDefEqProofs only [go_sem,s3];exact⟨id,l2,k2,k3,⟨Nat.le_trans g3.1 k4.1,fun a ha hm=>(k4.2 a (Nat.lt_of_lt_of_le ha g3.1) (fun q=>by have:=List.mem_singleton.1 q;omega)).trans (g3.2 a ha hm)⟩,fun c h=>k5 c (g4 c h)⟩
end Go.VL
end
section
namespace Go.VL
open Go.Proofs Go.RowKit Go.Sort
theorem asF {w:World} (hw:WH (fun b=>w.heap.size<=b) w):Lib.TabIs Tryz.prog w "internal/strconv.uint64pow10" .u64 Lib.pow10Tab:=by
 obtain⟨_,t,fr,h⟩:=hw 3 _ (by kernel_rfl:Glob.wb 3=some (R8.map (Value.int .u64)).toArray);unfold Lib.TabIs World.var?;rw [show Tryz.prog.globalNamed "internal/strconv.uint64pow10" =some 3 by kernel_rfl,Option.bind_some,h];exact congrArg some (by kernel_rfl)
theorem below_grow (w:World) (os:Array Obj):Below w.heap.size w (grow w os):=⟨rfl,rfl,rfl,by simp [grow],fun k hk=>by
 show(w.heap++os)[k]? =_
 rw [Array.getElem?_append_left hk]⟩
theorem awo (n:Int) (h: -9223372036854775808<=n/\n<=9223372036854775807):aD Tryz.prog 320 [.int .i64 n] (.str (Lib.itoa n)):=by
 refine OY ⟨_,Tryz.func320,rfl,by kernel_rfl⟩ (fun w G vs hg hi hw hv=> ?_) (dA.mem (.cons (.int _ _) .nil));rw [Vs.aEx hv];refine(Tryz.strconv_Itoa n h.1 h.2 w (asF hw)).mono ?_;rintro e w' ⟨rfl,k,os,rfl⟩;exact⟨_,rfl,(below_drewN w k).trans ((below_grow (w.drewN k) os).mono (below_drewN w k).size),fun G n=> .str _⟩
end Go.VL
end
section
namespace Go.VL
inductive Lx:List PV->List PV->Prop where
 |nil:Lx [] []
 |same {p:PV} {l m:List PV} (h:Lx l m):Lx (p::l) (p::m)
 |ah {es:List (List PV)} {c:Ck} {l m:List PV} (h:Lx l m):Lx (.ah es c::l) (.ah es .unk::m)
 |agg {cs ds l m:List PV} (h0:Lx cs ds) (h:Lx l m):Lx (.agg cs::l) (.agg ds::m)
theorem Lx.get {l m:List PV} (h:Lx l m):l.length=m.length/\ ∀(j:Nat) (q:PV),m[j]? =some q-> ∃p,l[j]? =some p/\ ∀(G:Gh) (n:Nat) (v:Value),V G n p v->V G n q v:=by
 induction h with
 |nil=>exact⟨rfl,fun j q e=>by simp at e⟩
 |same _ ih=>
  refine⟨by simp [ih.1],fun j q e=> ?_⟩;cases j with
  |zero=>simp at e;subst e;exact⟨_,rfl,fun _ _ _ h=>h⟩
  |succ j=>simp at e;simpa using ih.2 j q e
 |ah _ ih=>
  refine⟨by simp [ih.1],fun j q e=> ?_⟩;cases j with
  |zero=>simp at e;subst e;exact⟨_,rfl,fun _ _ _ h=>h.wk⟩
  |succ j=>simp at e;simpa using ih.2 j q e
 | @agg cs ds _ _ _ _ ih0 ih=>
  refine⟨by simp [ih.1],fun j q e=> ?_⟩;cases j with
  |zero=>
   simp at e;subst e;refine⟨_,rfl,fun G n v h=> ?_⟩;generalize hp:PV.agg cs=p at h;cases h with
   |agg cs' vs h1 h2=>
    cases hp;refine .agg ds vs (h1.trans ih0.1) fun j c x hc hx=> ?_;obtain⟨p,e1,e2⟩:=ih0.2 j c hc;exact e2 _ _ _ (h2 j p x e1 hx)
   |_=>cases hp
  |succ j=>simp at e;simpa using ih.2 j q e
variable [Glob]
theorem bg.wx {P:Program} {H:AH} {f:FuncId} {args args':List PV} {k:PV->AH->Prop} (h:bg P f args H k) (hw:Lx args' args):bg P f args' H k:=by
 obtain⟨h1,h2⟩:=hw.get;refine⟨h.enters,fun B G w vs hU hM hv=>h.call B G w vs hU hM ⟨hv.1.trans h1,fun j c x hc hx=> ?_⟩⟩;obtain⟨p,e,hp⟩:=h2 j c hc;exact hp _ _ _ (hv.2 j p x e hx)
theorem aD.wx {P:Program} {f:FuncId} {args args':List PV} {r:PV} (h:aD P f args r) (hw:Lx args' args):aD P f args' r:=fun H=>(h H).wx hw
end Go.VL
end
section
namespace Go.VL
variable [Glob]
class dN (P:Program) (g:FuncId) (az:outParam (List PV)) {α:Type} (o:Option α) (enc:outParam (α->PV)):Prop where
 c: ∀r,o=some r->aD P g az (enc r)
def IV (σ:Nat->PV):List (Nat×PV)->Prop
 |[]=>True
 |(n,p)::l=>σ n=p/\IV σ l
theorem agz {σ:Nat->PV}:IV σ []=True:=rfl
theorem acj {σ:Nat->PV} {n:Nat} {p:PV} {l:List (Nat×PV)}:IV σ ((n,p)::l)=(σ n=p/\IV σ l):=rfl
attribute [go_sem] agz acj Sum.elim_inl Sum.elim_inr
def Gn:List (Nat×Nat)->Nat->Bool
 |[],_=>true
 |(a,b)::l,t=>(Nat.blt t a||Nat.ble b t)&&Gn l t
theorem anc {t:Nat}:(Gn [] t=true)=True:=by simp [Gn]
theorem Pk {a b t:Nat} {l:List (Nat×Nat)}:(Gn ((a,b)::l) t=true)=((t+1<=a\/b<=t)/\Gn l t=true):=by
 simp [Gn,Nat.blt,Nat.ble_eq]
attribute [go_sem] anc Pk true_or or_true
def Fv (L:List (Nat×Nat)) (σ σ':Nat->PV):Prop:= ∀t,Gn L t=true->σ' t=σ t
theorem Fv.refl {L:List (Nat×Nat)} {σ:Nat->PV}:Fv L σ σ:=fun _ _=>rfl
theorem Fv.upd {L:List (Nat×Nat)} {σ σ':Nat->PV} {d:Nat} {v:PV} (hd:Gn L d=false) (h:Fv L σ σ'):Fv L σ (upd σ' (some d) v):=fun t ht=>by
 show(if t=d then v else σ' t)=σ t
 rw [if_neg (fun e=>by subst e;rw [hd]at ht;cases ht)];exact h t ht
theorem Fv.trans {L:List (Nat×Nat)} {σ σ' rM:Nat->PV} (h:Fv L σ σ') (h':Fv L σ' rM):Fv L σ rM:=fun t ht=>(h' t ht).trans (h t ht)
def ah6 (l m:List (Nat×Nat)):Bool:=l.all fun p=>m.any fun q=>Nat.ble q.1 p.1&&Nat.ble p.2 q.2
theorem acn: ∀{l:List (Nat×Nat)} {m:List (Nat×Nat)} {t:Nat},ah6 l m=true->Gn m t=true->Gn l t=true
 |[],_,_,_,_=>rfl
 |(a,b)::l,m,t,h,ho=>by
   have h1:(m.any fun q=>Nat.ble q.1 a&&Nat.ble b q.2)=true/\ah6 l m=true:=by simpa [ah6]using h
   rw [Pk];refine⟨?_,acn h1.2 ho⟩;obtain⟨q,hq,e⟩:=List.any_eq_true.1 h1.1;have hm: ∀{m:List (Nat×Nat)},q∈m->Gn m t=true->t<q.1\/q.2<=t:=by
    intro m
    induction m with
    |nil=>intro h;cases h
    |cons x m ih=>
     obtain⟨c,d⟩:=x;intro hx ho;rw [Pk]at ho;rcases List.mem_cons.1 hx with rfl|hx
     · exact ho.1
     · exact ih hx ho.2
   simp only [Bool.and_eq_true,Nat.ble_eq]at e;have:=hm hq ho;omega
theorem Fv.via {L L':List (Nat×Nat)} {σ σ' rM:Nat->PV} (h':Fv L' σ' rM) (hL:ah6 L' L=true) (h:Fv L σ σ'):Fv L σ rM:=fun t ht=>(h' t (acn hL ht)).trans (h t ht)
def Ends (L:List (Nat×Nat)) (e:Ex×List (Nat×PV)) (Q:Post) (σ:Nat->PV) (H:AH):Prop:= ∀σ',Fv L σ σ'->IV σ' e.2->Q e.1 σ' H
class Lp (P:Program) (a:AC) {α:Type} (o:Option α) (L:outParam (List (Nat×Nat))) (sl:outParam (List (Nat×PV))) (ex:outParam (α->Ex×List (Nat×PV))):Prop where
 c: ∀σ H,IV σ sl-> ∀r,o=some r-> ∀Q,Ends L (ex r) Q σ H->W P a Q σ H
def Nxt (P:Program) (a:AC) (Q:Post) (K:(Nat->PV)->AH->Prop):Prop:= ∀σ H,W P a Q σ H->K σ H
theorem aki {α:Type} {A:Prop} {b:Bool} {x y:Option α} {r:α} (h1:b=true->x=some r->A) (h2:b=false->y=some r->A):cond b x y=some r->A:=fun h=>(aA h).elim (fun e=>h1 e.1 e.2) fun e=>h2 e.1 e.2
theorem aqy {α:Type} {A p:Prop} [Decidable p] {x:Option α} {r:α} (h:p->x=some r->A):(if p then x else none)=some r->A:=fun e=>h (aZ e).1 (aZ e).2
theorem aco {α β:Type} {A:Prop} {o:Option α} {f:α->Option β} {r:β} (h: ∀p,o=some p->f p=some r->A):Option.bind o f=some r->A:=fun e=>let ⟨p,e1,e2⟩:=ak e;h p e1 e2
theorem akj {G A B:Prop} (k:G->B) (h:A=B:=by first|(simp -implicitDefEqProofs only [go_sem,dO, *];rfl)|rfl):G->A:=fun g=>h▸k g
theorem lw_ {l m:List PV} (h:Lx l m:=by
 repeat' first
  |exact .nil
  |refine .ah ?_
  |refine .same ?_
  |refine .agg ?_ ?_):Lx l m:=h
theorem awp {P:Program} {g:FuncId} {az az':List PV} {α β:Type} {o:Option α} {enc:α->PV} [C:dN P g az' o enc] {f:α->Option β} {r:β} {d:Option Nat} {l:List aI} {s:List Fm} {Q:Post} {σ:Nat->PV} {H:AH}
 (hw:Lx az az') (h: ∀p,f p=some r->WO P l s Q (upd σ d (enc p)) H):Option.bind o f=some r->MC P g az d l s Q σ H:=fun e=>
 let ⟨p,e1,e2⟩:=ak e
 au ((C.c p e1).wx hw) (h p e2)
theorem aqA {A:Prop} {P:Program} {pr:List (aI×Bool)} {post:List aI} {s:List Fm} {Q:Post} {σ:Nat->PV} {H:AH} (h:A->FU P pr post s Q σ H):A->WS P (.par pr post) s Q σ H:=fun e=>jI (h e)
theorem aqB {A:Prop} {P:Program} {x y:List UInt8} {d:Option Nat} {l:List aI} {s:List Fm} {Q:Post} {σ:Nat->PV} {H:AH} (hb:x.length+y.length<=4611686018427387904) (h:A->WO P l s Q (upd σ d (.str (x++y))) H):A->WR P (Cj .add x y) d l s Q σ H:=fun e=>ab4 hb (h e)
theorem hb_ {x y:List UInt8} (h:x.length+y.length<=4611686018427387904:=by first|assumption|(simp only [List.length_append,List.length_cons,List.length_nil]at*;omega)):x.length+y.length<=4611686018427387904:=h
section
variable {P:Program} {a b:AC} {α β:Type} {o:Option α} {L L0:List (Nat×Nat)} {sl:List (Nat×PV)} {ex:α->Ex×List (Nat×PV)} {f:α->Option β} {r:α} {Q:Post} {σ aC:Nat->PV} {H:AH}
theorem awq {s:List Fm} [C:Lp P a o L sl ex] {r:β} (hs:IV σ sl) (h: ∀p σ',Fv L σ σ'->IV σ' (ex p).2->f p=some r->WE P (ex p).1 s Q σ' H):Option.bind o f=some r->WS P a s Q σ H:=fun e=>
 let ⟨p,e1,e2⟩:=ak e
 C.c σ H hs p e1 (EH P s Q) fun σ' hf hx=>h p σ' hf hx e2
theorem qL (h:o=none):Lp P a o L sl ex:=⟨fun _ _ _ _ e=>by rw [h]at e;cases e⟩
theorem qM (ea:a=b) (h: ∀σ H,IV σ sl-> ∀r Q,Ends L (ex r) Q σ H-> ∀K,Nxt P (.loop a) Q K->o=some r->W P b (Bb K Q) σ H):Lp P (.loop a) o L sl ex:=
 ⟨fun σ H hs r e Q hQ=>bA fun K hK=>by rw [show W P a=W P b from congrArg _ ea];exact h σ H hs r Q hQ K hK e⟩
theorem GJ (ea:a=b) (h: ∀σ H,IV σ sl-> ∀r Q,Ends L (ex r) Q σ H->o=some r->W P b Q σ H):Lp P a o L sl ex:=
 ⟨fun σ H hs r e Q hQ=>by rw [show W P a=W P b from congrArg _ ea];exact h σ H hs r Q hQ e⟩
theorem lpN [C:Lp P (.loop a) o L sl ex] {K:(Nat->PV)->AH->Prop} (e:o=some r) (hK:Nxt P (.loop a) Q K) (hQ:Ends L (ex r) Q aC H) (hs:IV σ sl) (hf:Fv L aC σ):K σ H:=
 hK _ _ (C.c σ H hs r e Q fun σ' f s=>hQ σ' (hf.trans f) s)
theorem lpE {e:Ex×List (Nat×PV)} {x:Ex} (hQ:Ends L e Q aC H) (hx:e.1=x) (hf:Fv L aC σ) (hs:IV σ e.2):Q x σ H:=hx▸hQ σ hf hs
theorem lpO {l m:List aI} (ea:l=m) (h: ∀σ H,IV σ sl-> ∀r Q,Ends L (ex r) Q σ H->o=some r->W P (.ops m) Q σ H):Lp P (.ops l) o L sl ex:=
 ⟨fun σ H hs r e Q hQ=>by subst ea;exact h σ H hs r Q hQ e⟩
theorem aqD {l:List aI} {s:List Fm} [C:Lp P (.ops l) o L sl ex] {r:β} (hs:IV σ sl) (h: ∀p σ',Fv L σ σ'->IV σ' (ex p).2->f p=some r->WE P (ex p).1 s Q σ' H):Option.bind o f=some r->WO P l s Q σ H:=fun e=>
 let ⟨p,e1,e2⟩:=ak e
 C.c σ H hs p e1 (EH P s Q) fun σ' hf hx=>h p σ' hf hx e2
theorem Fv.on (h:Fv L aC σ): ∀t,Gn L t=true->σ t=aC t:=h
end
theorem IW {L:List (Nat×Nat)} {σ σ':Nat->PV} (h:Fv L σ σ':=by repeat (first|exact Fv.refl|assumption|refine Fv.upd rfl ?_|refine Fv.via (by assumption) rfl ?_)):Fv L σ σ':=h
class NH {α:Type} (f:α->List PV):Prop where
 pu: ∀x,∀c∈f x,Pu c
instance:NH aF:=⟨fun x=>dA.mem (.cons (.str _) .nil)⟩
instance:NH aK:=⟨fun x=>dA.mem (.cons (.int _ _) .nil)⟩
instance {α:Type} {f:α->List PV} [h:NH f]:NH (dx f):=⟨fun x=>fA h.pu x⟩
theorem pu_ {p:PV} (h:Pu p:=by
 repeat' first
  |exact PuO.pu
  |exact .bool _|exact .int _ _|exact .str _|exact bE NH.pu _|exact .agg _ (NH.pu _)|exact .nil
  |refine .cons ?_ ?_
  |refine .agg _ (dA.mem ?_)
  |refine .dn _ (dA.mem ?_)
  |refine .bY _ _ (dA.mem ?_)
  |refine .fn _ _ _ (dA.mem ?_) (dA.mem ?_)):Pu p:=h
theorem aEZ {l:List PV} (h:dA l:=by
 repeat' first
  |exact .nil
  |refine .cons pu_ ?_):dA l:=h
theorem bZ {P:Program} {dc:Nat->Bool} {rm:Bool} {g:FuncId} {n:Nat} {rs:List RV} {ac:AC} {az:List PV} {α:Type} {o:Option α} {enc:α->PV} (hf:aP P dc rm g n rs ac)
 (h: ∀r,o=some r->WS P ac [] (IE rs fun v H'=>Fz H' v (enc r)) (Lb az) AH.empty) (hl:az.length<=n:=by simp) (hp:dA az:=by exact aEZ) (hr: ∀r,Pu (enc r):=by intro r;exact pu_):dN P g az o enc:=
 ⟨fun r e=>aD.bH hp.mem (aM hf hl (h r e)) (hr r)⟩
theorem awt {α:Type} {f:α->List PV} [NH f] {l:List α} {es:List (List PV)} {c:Ck} {H:AH} (he:es=l.map f):Fz H (.ah es c) (.ah (l.map f) .unk):=by subst he;exact cK NH.pu _ _
theorem fz_ {H:AH} {v r:PV} (h:Fz H v r:=by
 repeat' first
  |exact .pure _ pu_
  |exact awt rfl
  |refine jr ?_
  |refine dU ?_
  |exact .nil
  |refine .cons ?_ ?_):Fz H v r:=h
theorem aqE {α β:Type} {A:Prop} {l:List α} {i:Nat} {f:α->Option β} {r:β} (h: ∀p,l[i]? =some p->f p=some r->A):Option.bind (l[i]?) f=some r->A:=aco h
theorem akl {α β γ:Type} {A:Prop} {f:α->Option γ} {g:β->Option γ} {p:α} {r:γ} (h:f p=some r->A):Sum.elim f g (.inl p)=some r->A:=h
theorem awu {α β:Type} {A:α⊕β->Prop} (h1: ∀p,A (.inl p)) (h2: ∀p,A (.inr p)): ∀p,A p:=fun p=>p.casesOn h1 h2
theorem bJ {A:Prop} (h:A:=by
 intro r
 repeat' first
  |(with_reducible refine aki (fun _=> ?_) (fun _=> ?_))
  |(with_reducible refine aqy (fun _=> ?_))
  |(with_reducible refine aqE (fun _ _=> ?_))
  |(refine akj ?_;first|refine awp lw_ (fun _=> ?_)|refine aqD av ?_|refine awq av ?_|refine aqA ?_|refine aBZ lw_ (fun _=> ?_)|refine aqB hb_ ?_|refine awv hb_ ?_|refine aB0 ane ?_|refine aww ane ?_|(intro h;cases h;exact fz_))
  |(with_reducible refine aco (fun _ _=> ?_))
  |(with_reducible exact awx)
  |(with_reducible refine akl ?_)
  |(with_reducible refine awy ?_)
  |(with_reducible refine awu ?_ ?_)
  |(intro p σ' f s;simp only [go_sem]at s;have f':=f.on)
  |(intro h;cases h;exact fz_)):A:=h
theorem bW {A:Prop} (h:A:=by
 intro σ H s r Q hQ;simp only [agz,acj]at s;try intro K hK
 refine fun h=>aJ ?_;revert h
 repeat' first
  |(with_reducible refine aki (fun _=> ?_) (fun _=> ?_))
  |(with_reducible refine aqy (fun _=> ?_))
  |(with_reducible refine aqE (fun _ _=> ?_))
  |(refine akj ?_;first|refine awp lw_ (fun _=> ?_)|refine aqD av ?_|refine awq av ?_|refine aqA ?_|refine aBZ lw_ (fun _=> ?_)|refine aqB hb_ ?_|refine awv hb_ ?_|refine aB0 ane ?_|refine aww ane ?_|(intro h;exact lpN h hK hQ av IW)|(intro h;cases h;exact lpE hQ rfl IW av))
  |(with_reducible refine aco (fun _ _=> ?_))
  |(with_reducible exact awx)
  |(with_reducible refine akl ?_)
  |(with_reducible refine awy ?_)
  |(with_reducible refine awu ?_ ?_)
  |(intro p σ' f s;simp only [go_sem]at s;have f':=f.on)
  |(intro h;cases h;exact lpE hQ rfl IW av)):A:=h
end Go.VL
end
section
namespace Go.VL
instance:NH Nd.cells:=⟨Nd.pu⟩
instance:NH Operator.cells:=⟨Operator.pu⟩
instance:NH Shape.cells:=⟨Shape.pu⟩
end Go.VL
end
