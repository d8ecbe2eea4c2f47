/- Part 7. -/
import Derived.Test.YtpkbfdgohkakaaaGreatDoorKd6
import Derived.Below
import Derived.Shelf.SlGeneric
import Derived.Shelf.Small.Bits
import Derived.Shelf.Strconv.Itoa0
import Derived.Shelf.Strconv.Itoa1
import Derived.Shelf.LaysM
import Derived.Shelf.Strconv.Itoa2
import Derived.Shelf.Strconv.Itoa3
import Derived.Shelf.Strings.Search1
import Derived.Shelf.Strings.Search2
import Derived.Shelf.Strings.Cut
import Derived.Shelf.Strings.Shaped
import Derived.Shelf.Sort.Plain
import Derived.Shelf.GgClosure.StringsIndexFunc
import Derived.Ground.GgwProg
import Derived.Shelf.GgClosure.StringsIndexFuncTop
import Derived.Shelf.Strings.Prefix
import Derived.Shelf.Strings.Fields
import Derived.Shelf.Strings.SplitShaped
import Derived.Shelf.Unicode.Latin
import Derived.Shelf.Bits.Mul64
import Derived.Shelf.Unicode.Is16White
import Derived.Shelf.Unicode.IsSpaceAny
import Derived.Shelf.Unicode.Is16WhiteD
import Derived.Shelf.Unicode.IsSpaceAnyD
import Derived.Shelf.Strings.FieldsAny
import Derived.Shelf.Strings.FieldsFuncAny
import Derived.Shelf.Unicode.Is16Any
import Derived.Shelf.Unicode.Is32Any
import Derived.Shelf.Unicode.ExclAny
import Derived.Shelf.Strings.FuncGrows
import Derived.Shelf.Slices.Turned
import Derived.Shelf.Slices.Equal
import Derived.Ground.Names2Prog
import Derived.Shelf.Slices.Clone
import Derived.Shelf.Slices.CompactS
import Derived.Shelf.Slices.Cells
import Derived.Shelf.Slices.In.SortNone
import Derived.Shelf.Slices.Empties2
import Derived.Shelf.Spec.SlicesGrow
import Derived.Ground.SlgnProg
import Derived.Shelf.SlicesE.Clone
import Derived.Test.YtpkbfdgohkakaaaGreatDoorProg
import Derived.KernelRfl
set_option maxRecDepth 8000
set_option linter.unusedVariables false
set_option linter.unusedSectionVars false
set_option linter.unusedSimpArgs false
section
namespace Go.VL
open Go.RowKit
variable [Glob]
section
variable {P:Program} {B:Nat->Prop} {G:Gh} {H:AH} {w w':World}
theorem HM.below (hM:HM B H G w) (h:Below w.heap.size w w'):HM B H G w':=by
 have hlt: ∀b arr t fr,w.heap[b]? =some (.cells arr t fr)->b<w.heap.size:=fun b arr t fr e=>(Z2.1 e).1
 exact{
  glob:=hM.glob
  su:=fun a x e=>by
   have hc:=hM.su a x e;exact(World.cell?_of_block (h.block _ (World.block_lt_of_cell? w a hc))).trans hc
  obj:=fun id cs e=>by
   obtain⟨k0,b,arr,t,k1,k2,k3,k4,k5⟩:=hM.obj id cs e;exact⟨k0,b,arr,t,k1,k2,(h.block b (hlt _ _ _ _ k3)).trans k3,k4,k5⟩
  inj:=hM.inj
  tok:=fun k e=>by
   obtain⟨k0,b,o,arr,t,k1,k2,k3,k5⟩:=hM.tok k e;exact⟨k0,b,o,arr,t,k1,k2,(h.block b (hlt _ _ _ _ k3)).trans k3,k5⟩
  sS:=hM.sS
  tobj:=hM.tobj
  wh:=hM.wh.keep fun b _ hb=>h.block b hb}
theorem Tr.below (h:Below w.heap.size w w'):Tr B w w':=
 ⟨h.size,fun b hb _=>h.block b hb,h.os,h.tape,h.output,fun b o e _=>(h.block b (Z2.1 e).1).trans e⟩
theorem Ou {f:FuncId} {args:List PV} {r:PV} (he:Enters P f)
 (h: ∀(w:World) (G:Gh) (vs:Array Value),(∀a x,Glob.gc a=some x->w.cell? a=some x)->(∀a x,G.F a=some x->w.cell? a=some x)->WH (fun b=>w.heap.size<=b) w->Vs G 0 args vs->Calls P f vs w fun e w'=> ∃v,e= .returned v/\Below w.heap.size w w'/\ ∀G n,V G n r v)
 (hp: ∀a∈args,Pu a):aG P f args r:=by
 intro H;refine⟨he,fun B G w vs hU hM hv=> ?_⟩;have hv':Vs ⟨G.F,fun _=>none,fun _=>none⟩ 0 args vs:=⟨hv.1,fun j c x hc hx=>V.pure (G:=G) (G':=⟨G.F,fun _=>none,fun _=>none⟩) (n':=0) (fun(_:Addr) (_:Value) e=>e) (hv.2 j c x hc hx) (hp c (B1 hc))⟩;refine(h w ⟨G.F,fun _=>none,fun _=>none⟩ vs (fun a x e=>hM.su a x (hM.glob a x e)) hM.su hM.wh.old hv').mono ?_;rintro e w' ⟨v,h1,h2,h3⟩;exact⟨r,v,H,G,h1,Tr.below h2,Ext.refl B _ G,R0 _,hM.below h2,h3 G _,rfl,rfl⟩
theorem ab1 {f:FuncId} {args:List PV} {r:PV} (he:Enters P f)
 (h: ∀(w:World) (G:Gh) (vs:Array Value),(∀a x,Glob.gc a=some x->w.cell? a=some x)->(∀a x,G.F a=some x->w.cell? a=some x)->Vs G 0 args vs->Calls P f vs w fun e w'=> ∃v,e= .returned v/\Below w.heap.size w w'/\ ∀G n,V G n r v)
 (hp: ∀a∈args,Pu a):aG P f args r:=Ou he (fun w G vs h1 h2 _=>h w G vs h1 h2) hp
theorem QF {f:FuncId} {args:List PV} {r:PV} (he:Enters P f)
 (h: ∀(w:World) (G:Gh) (vs:Array Value),(∀a x,Glob.gc a=some x->w.cell? a=some x)->(∀a x,G.F a=some x->w.cell? a=some x)->Vs G 0 args vs->Calls P f vs w fun e w'=> ∃v,e= .returned v/\Below w.heap.size w w'/\
  ∀(G':Gh) (n:Nat),(∀a x,w.heap.size<=a.block->w'.cell? a=some x->G'.F a=some x)->V G' n r v)
 (hp: ∀a∈args,Pu a):aG P f args r:=by
 intro H;refine⟨he,fun B G w vs hU hM hv=> ?_⟩;have hv':Vs ⟨G.F,fun _=>none,fun _=>none⟩ 0 args vs:=⟨hv.1,fun j c x hc hx=>V.pure (G:=G) (G':=⟨G.F,fun _=>none,fun _=>none⟩) (n':=0) (fun(_:Addr) (_:Value) e=>e) (hv.2 j c x hc hx) (hp c (B1 hc))⟩;refine(h w ⟨G.F,fun _=>none,fun _=>none⟩ vs (fun a x e=>hM.su a x (hM.glob a x e)) hM.su hv').mono ?_;rintro e w' ⟨v,h1,h2,h3⟩;have hM1:=hM.below h2
 let G2:Gh:=⟨fun a=>match G.F a with|some x=>some x|none=>if w.heap.size<=a.block then w'.cell? a else none,G.m,G.τ⟩
 have hF: ∀a x,G.F a=some x->G2.F a=some x:=fun a x e=>by simp only [G2,e]
 have hnone: ∀a,a.block<w.heap.size->G.F a=none->G2.F a=none:=fun a ha e=>by
  simp only [G2,e];rw [if_neg (by omega)]
 have hE:Ext B H.next G G2:=⟨hF,fun _ _=>rfl,fun _ _=>rfl,fun a e1 e2=>hU _ (by
  rcases D1 a.block w.heap.size with q|q
  · exact absurd (hnone a q e1) e2
  · exact q)⟩
 have aAX: ∀a x,G2.F a=some x->w'.cell? a=some x:=fun a x e=>by
  simp only [G2]at e;split at e
  · rename_i y hy;cases e;exact hM1.su a x hy
  · split at e
    · exact e
    · cases e
 have hlt: ∀b arr t fr,w.heap[b]? =some (.cells arr t fr)->b<w.heap.size:=fun b arr t fr e=>(Z2.1 e).1
 have hM2:HM B H G2 w':={
  glob:=fun a x e=>hF a x (hM.glob a x e)
  su:=aAX
  obj:=fun id cs e=>by
   obtain⟨k0,b,arr,t,k1,k2,k3,k4,k5⟩:=hM.obj id cs e;have hb:=hlt _ _ _ _ k3;exact⟨k0,b,arr,t,k1,k2,(h2.block b hb).trans k3,k4.mono hE (R0 _),fun off=>hnone _ hb (k5 off)⟩
  inj:=hM.inj
  tok:=fun k e=>by
   obtain⟨k0,b,o,arr,t,k1,k2,k3,k5⟩:=hM.tok k e;have hb:=hlt _ _ _ _ k3;exact⟨k0,b,o,arr,t,k1,k2,(h2.block b hb).trans k3,fun off ho=>hnone _ hb (k5 off ho)⟩
  sS:=hM.sS
  tobj:=hM.tobj
  wh:=hM.wh.keep fun b _ hb=>h2.block b hb}
 refine⟨r,v,H,G2,h1,Tr.below h2,hE,R0 _,hM2,h3 G2 _ (fun a x ha e=> ?_),rfl,rfl⟩;cases hg:G.F a with
 |some y=>
  have:=hM1.su a y hg;rw [e]at this;cases this;simp only [G2,hg]
 |none=>simp only [G2,hg];rw [if_pos ha];exact e
theorem Vs.str2 {n:Nat} {s t:List UInt8} {vs:Array Value} (h:Vs G n [.str s,.str t] vs):vs=#[.string ⟨s.toArray⟩,.string ⟨t.toArray⟩]:=by
 obtain⟨h1,h2⟩:=h
 match vs,h1,h2 with
 |⟨[v,u]⟩,_,h2=>
   have a:=h2 0 (.str s) v rfl rfl;have b:=h2 1 (.str t) u rfl rfl;cases a;cases b;rfl
theorem Vs.aFj {n:Nat} {k:IntKind} {x:Int} {vs:Array Value} (h:Vs G n [.int k x] vs):vs=#[.int k x]:=by
 obtain⟨h1,h2⟩:=h
 match vs,h1,h2 with
 |⟨[v]⟩,_,h2=>
   have:=h2 0 (.int k x) v rfl rfl;cases this;rfl
end
end Go.VL
end
section
namespace Go.Proofs
open Go.Shelf
def Tryz.laysM246_ren:Go.Shelf.Ren:=⟨fun|246=>339|283=>344|284=>345|285=>346|286=>347|129=>317|317=>350|318=>351|319=>352|320=>353|337=>354|338=>355|n=>n,fun|2=>2|3=>3|9=>9|4=>4|171=>346|0=>0|53=>293|37=>153|5=>5|173=>348|212=>351|51=>290|20=>20|213=>352|46=>258|232=>353|233=>354|n=>n,fun|17=>3|18=>4|19=>5|n=>n⟩
def Tryz.laysM243_ren:Go.Shelf.Ren:=⟨fun|243=>333|246=>339|283=>344|284=>345|285=>346|286=>347|129=>317|317=>350|318=>351|319=>352|320=>353|337=>354|338=>355|n=>n,fun|3=>3|9=>9|2=>2|4=>4|171=>346|0=>0|53=>293|37=>153|5=>5|173=>348|212=>351|51=>290|20=>20|213=>352|46=>258|232=>353|233=>354|n=>n,fun|17=>3|18=>4|19=>5|n=>n⟩
def Tryz.laysM171_ren:Go.Shelf.Ren:=⟨fun|171=>320|243=>333|246=>339|283=>344|284=>345|285=>346|286=>347|129=>317|317=>350|318=>351|319=>352|320=>353|337=>354|338=>355|n=>n,fun|3=>3|9=>9|2=>2|4=>4|171=>346|0=>0|53=>293|37=>153|5=>5|173=>348|212=>351|51=>290|20=>20|213=>352|46=>258|232=>353|233=>354|n=>n,fun|17=>3|18=>4|19=>5|n=>n⟩
theorem Tryz.laysM171:Go.Proofs.LaysM.n171 Tryz.prog Tryz.laysM171_ren:={
 mixed:=by kernel_rfl
 f129:=Tryz.func317.trans (congrArg some (by kernel_rfl))
 f171:=Tryz.func320.trans (congrArg some (by kernel_rfl))
 f243:=Tryz.func333.trans (congrArg some (by kernel_rfl))
 f246:=Tryz.func339.trans (congrArg some (by kernel_rfl))
 f283:=Tryz.func344.trans (congrArg some (by kernel_rfl))
 f284:=Tryz.func345.trans (congrArg some (by kernel_rfl))
 f285:=Tryz.func346.trans (congrArg some (by kernel_rfl))
 f286:=Tryz.func347.trans (congrArg some (by kernel_rfl))
 f317:=Tryz.func350.trans (congrArg some (by kernel_rfl))
 f318:=Tryz.func351.trans (congrArg some (by kernel_rfl))
 f319:=Tryz.func352.trans (congrArg some (by kernel_rfl))
 f320:=Tryz.func353.trans (congrArg some (by kernel_rfl))
 f337:=Tryz.func354.trans (congrArg some (by kernel_rfl))
 f338:=Tryz.func355.trans (congrArg some (by kernel_rfl))
 t0:=Tryz.underlying0
 a0:=Tryz.isAgg0
 z0:=Tryz.sizeOf0
 v0:=Tryz.zeroValue0
 t2:=Tryz.underlying2
 a2:=Tryz.isAgg2
 z2:=Tryz.sizeOf2
 v2:=Tryz.zeroValue2
 t3:=Tryz.underlying3
 a3:=Tryz.isAgg3
 z3:=Tryz.sizeOf3
 v3:=Tryz.zeroValue3
 t4:=Tryz.underlying4
 a4:=Tryz.isAgg4
 z4:=Tryz.sizeOf4
 v4:=Tryz.zeroValue4
 t5:=Tryz.underlying5
 a5:=Tryz.isAgg5
 z5:=Tryz.sizeOf5
 v5:=Tryz.zeroValue5
 t9:=Tryz.underlying9
 a9:=Tryz.isAgg9
 z9:=Tryz.sizeOf9
 v9:=Tryz.zeroValue9
 t20:=Tryz.underlying20
 a20:=Tryz.isAgg20
 z20:=Tryz.sizeOf20
 v20:=Tryz.zeroValue20
 t37:=Tryz.underlying153
 a37:=Tryz.isAgg153
 z37:=Tryz.sizeOf153
 v37:=Tryz.zeroValue153
 t46:=Tryz.underlying258
 a46:=Tryz.isAgg258
 z46:=Tryz.sizeOf258
 v46:=Tryz.zeroValue258
 t51:=Tryz.underlying290
 a51:=Tryz.isAgg290
 z51:=Tryz.sizeOf290
 v51:=Tryz.zeroValue290
 t53:=Tryz.underlying293
 a53:=Tryz.isAgg293
 z53:=Tryz.sizeOf293
 v53:=Tryz.zeroValue293
 t171:=Tryz.underlying346
 a171:=Tryz.isAgg346
 z171:=Tryz.sizeOf346
 v171:=Tryz.zeroValue346
 t173:=Tryz.underlying348
 a173:=Tryz.isAgg348
 z173:=Tryz.sizeOf348
 v173:=Tryz.zeroValue348
 t212:=Tryz.underlying351
 a212:=Tryz.isAgg351
 z212:=Tryz.sizeOf351
 v212:=Tryz.zeroValue351
 t213:=Tryz.underlying352
 a213:=Tryz.isAgg352
 z213:=Tryz.sizeOf352
 t232:=Tryz.underlying353
 a232:=Tryz.isAgg353
 z232:=Tryz.sizeOf353
 v232:=Tryz.zeroValue353
 t233:=Tryz.underlying354
 a233:=Tryz.isAgg354
 z233:=Tryz.sizeOf354
 v233:=Tryz.zeroValue354
 g17:=by kernel_rfl
 g18:=by kernel_rfl
 g19:=by kernel_rfl
 i0:=by kernel_rfl
 i2:=by kernel_rfl
 i3:=by kernel_rfl
 i4:=by kernel_rfl
 i5:=by kernel_rfl
 i9:=by kernel_rfl
 i20:=by kernel_rfl
 i37:=by kernel_rfl
 i46:=by kernel_rfl
 i51:=by kernel_rfl
 i53:=by kernel_rfl
 i171:=by kernel_rfl
 i173:=by kernel_rfl
 i212:=by kernel_rfl
 i232:=by kernel_rfl
 i233:=by kernel_rfl
 m17:=by kernel_rfl
 m18:=by kernel_rfl
 m19:=by kernel_rfl}
open Go.RowKit Go.Sort Go.Lib in
theorem Tryz.strconv_Itoa (n:Int) (h0: -9223372036854775808<=n) (h1:n<=9223372036854775807) (w:World) (htab:Lib.TabIs Tryz.prog w "internal/strconv.uint64pow10" .u64 Lib.pow10Tab):
 Calls Tryz.prog 320 #[.int .i64 n] w fun e w'=>e= .returned (.string ⟨(Lib.itoa n).toArray⟩)/\ ∃k os,w'=grow (w.drewN k) os:=Any.strconv_Itoa Tryz.laysM171 n h0 h1 w htab
def Tryz.lays219_ren:Go.Shelf.Ren:=⟨fun|219=>334|217=>340|225=>341|224=>342|267=>343|266=>348|314=>349|n=>n,fun|9=>9|3=>3|4=>4|5=>5|46=>258|146=>291|51=>290|n=>n,fun|1=>2|n=>n⟩
theorem Tryz.lays219:Go.Proofs.Lays.n219 Tryz.prog Tryz.lays219_ren:={
 mixed:=by kernel_rfl
 f217:=Tryz.func340.trans (congrArg some (by kernel_rfl))
 f219:=Tryz.func334.trans (congrArg some (by kernel_rfl))
 f224:=Tryz.func342.trans (congrArg some (by kernel_rfl))
 f225:=Tryz.func341.trans (congrArg some (by kernel_rfl))
 f266:=Tryz.func348.trans (congrArg some (by kernel_rfl))
 f267:=Tryz.func343.trans (congrArg some (by kernel_rfl))
 f314:=Tryz.func349.trans (congrArg some (by kernel_rfl))
 t3:=Tryz.underlying3
 a3:=Tryz.isAgg3
 z3:=Tryz.sizeOf3
 v3:=Tryz.zeroValue3
 t4:=Tryz.underlying4
 a4:=Tryz.isAgg4
 z4:=Tryz.sizeOf4
 v4:=Tryz.zeroValue4
 t5:=Tryz.underlying5
 a5:=Tryz.isAgg5
 z5:=Tryz.sizeOf5
 v5:=Tryz.zeroValue5
 t9:=Tryz.underlying9
 a9:=Tryz.isAgg9
 z9:=Tryz.sizeOf9
 v9:=Tryz.zeroValue9
 t46:=Tryz.underlying258
 a46:=Tryz.isAgg258
 z46:=Tryz.sizeOf258
 v46:=Tryz.zeroValue258
 t51:=Tryz.underlying290
 a51:=Tryz.isAgg290
 z51:=Tryz.sizeOf290
 v51:=Tryz.zeroValue290
 t146:=Tryz.underlying291
 a146:=Tryz.isAgg291
 z146:=Tryz.sizeOf291
 v146:=Tryz.zeroValue291
 g1:=by kernel_rfl}
open Go.RowKit Go.Lib in
theorem Tryz.stringslite_Index_one (s:ByteArray) (c:UInt8) (w:World):
 Calls Tryz.prog 334 #[.string s,.string ⟨#[c]⟩] w fun e w'=>e= .returned (.int .i64 (Lib.indexByte s.data.toList c))/\w'=w:=Any.stringslite_Index_one Tryz.lays219 s c w
def Tryz.lays190_ren:Go.Shelf.Ren:=⟨fun|190=>243|125=>280|258=>279|128=>316|129=>317|302=>307|303=>308|304=>309|305=>310|306=>311|307=>312|308=>313|309=>314|310=>315|333=>327|329=>328|330=>329|334=>330|335=>331|336=>332|344=>338|n=>n,fun|31=>68|9=>9|3=>3|46=>258|0=>0|51=>290|53=>293|4=>4|183=>304|182=>303|131=>308|5=>5|218=>322|222=>326|228=>340|229=>33|n=>n,fun|n=>n⟩
theorem Tryz.lays190:Go.Proofs.Lays.n190 Tryz.prog Tryz.lays190_ren:={
 mixed:=by kernel_rfl
 f125:=Tryz.func280.trans (congrArg some (by kernel_rfl))
 f128:=Tryz.func316.trans (congrArg some (by kernel_rfl))
 f129:=Tryz.func317.trans (congrArg some (by kernel_rfl))
 f190:=Tryz.func243.trans (congrArg some (by kernel_rfl))
 f258:=Tryz.func279.trans (congrArg some (by kernel_rfl))
 f302:=Tryz.func307.trans (congrArg some (by kernel_rfl))
 f303:=Tryz.func308.trans (congrArg some (by kernel_rfl))
 f304:=Tryz.func309.trans (congrArg some (by kernel_rfl))
 f305:=Tryz.func310.trans (congrArg some (by kernel_rfl))
 f306:=Tryz.func311.trans (congrArg some (by kernel_rfl))
 f307:=Tryz.func312.trans (congrArg some (by kernel_rfl))
 f308:=Tryz.func313.trans (congrArg some (by kernel_rfl))
 f309:=Tryz.func314.trans (congrArg some (by kernel_rfl))
 f310:=Tryz.func315.trans (congrArg some (by kernel_rfl))
 f329:=Tryz.func328.trans (congrArg some (by kernel_rfl))
 f330:=Tryz.func329.trans (congrArg some (by kernel_rfl))
 f333:=Tryz.func327.trans (congrArg some (by kernel_rfl))
 f334:=Tryz.func330.trans (congrArg some (by kernel_rfl))
 f335:=Tryz.func331.trans (congrArg some (by kernel_rfl))
 f336:=Tryz.func332.trans (congrArg some (by kernel_rfl))
 f344:=Tryz.func338.trans (congrArg some (by kernel_rfl))
 t0:=Tryz.underlying0
 a0:=Tryz.isAgg0
 z0:=Tryz.sizeOf0
 v0:=Tryz.zeroValue0
 t3:=Tryz.underlying3
 a3:=Tryz.isAgg3
 z3:=Tryz.sizeOf3
 v3:=Tryz.zeroValue3
 t4:=Tryz.underlying4
 a4:=Tryz.isAgg4
 z4:=Tryz.sizeOf4
 v4:=Tryz.zeroValue4
 t5:=Tryz.underlying5
 a5:=Tryz.isAgg5
 z5:=Tryz.sizeOf5
 v5:=Tryz.zeroValue5
 t9:=Tryz.underlying9
 a9:=Tryz.isAgg9
 z9:=Tryz.sizeOf9
 v9:=Tryz.zeroValue9
 t31:=Tryz.underlying68
 a31:=Tryz.isAgg68
 z31:=Tryz.sizeOf68
 v31:=Tryz.zeroValue68
 t46:=Tryz.underlying258
 a46:=Tryz.isAgg258
 z46:=Tryz.sizeOf258
 v46:=Tryz.zeroValue258
 t51:=Tryz.underlying290
 a51:=Tryz.isAgg290
 z51:=Tryz.sizeOf290
 v51:=Tryz.zeroValue290
 t53:=Tryz.underlying293
 a53:=Tryz.isAgg293
 z53:=Tryz.sizeOf293
 v53:=Tryz.zeroValue293
 t131:=Tryz.underlying308
 a131:=Tryz.isAgg308
 z131:=Tryz.sizeOf308
 v131:=Tryz.zeroValue308
 t182:=Tryz.underlying303
 a182:=Tryz.isAgg303
 z182:=Tryz.sizeOf303
 v182:=Tryz.zeroValue303
 t183:=Tryz.underlying304
 a183:=Tryz.isAgg304
 z183:=Tryz.sizeOf304
 v183:=Tryz.zeroValue304
 t218:=Tryz.underlying322
 a218:=Tryz.isAgg322
 z218:=Tryz.sizeOf322
 v218:=Tryz.zeroValue322
 t222:=Tryz.underlying326
 a222:=Tryz.isAgg326
 z222:=Tryz.sizeOf326
 v222:=Tryz.zeroValue326
 t228:=Tryz.underlying340
 a228:=Tryz.isAgg340
 z228:=Tryz.sizeOf340
 v228:=Tryz.zeroValue340
 t229:=Tryz.underlying33
 a229:=Tryz.isAgg33
 z229:=Tryz.sizeOf33
 v229:=Tryz.zeroValue33}
open Go.Sort Go.RowKit in
theorem Tryz.slices_Sort_string (blk off cap:Nat) (ss:List (List UInt8)) (w:World) (hH:Holds encStr w blk off ss.toArray) (hblk:blk<w.heap.size) (hsz:ss.length<4611686018427387904):
 Calls Tryz.prog 243 #[.slice (some ⟨blk,off,none⟩) ss.length cap] w fun e w'=>
  e= .returned (.tuple #[])/\ ∃n os,w'=grow (putRow encStr (Sort.ahead w n) blk off (ss.mergeSort fun x y=>decide (x<=y)).toArray) os:=Any.slices_Sort_string Tryz.lays190 blk off cap ss w hH hblk hsz
def Tryz.laysGw17_ren:Go.Shelf.Ren:=⟨fun|17=>270|15=>292|20=>322|n=>n,fun|9=>9|23=>256|4=>4|3=>3|0=>0|21=>21|n=>n,fun|n=>n⟩
theorem Tryz.laysGw17:Go.Proofs.LaysGw.n17 Tryz.prog Tryz.laysGw17_ren:={
 mixed:=by kernel_rfl
 f15:=Tryz.func292.trans (congrArg some (by kernel_rfl))
 f17:=Tryz.func270.trans (congrArg some (by kernel_rfl))
 f20:=Tryz.func322.trans (congrArg some (by kernel_rfl))
 t0:=Tryz.underlying0
 a0:=Tryz.isAgg0
 z0:=Tryz.sizeOf0
 v0:=Tryz.zeroValue0
 i0:=by kernel_rfl
 t3:=Tryz.underlying3
 a3:=Tryz.isAgg3
 z3:=Tryz.sizeOf3
 v3:=Tryz.zeroValue3
 i3:=by kernel_rfl
 t4:=Tryz.underlying4
 a4:=Tryz.isAgg4
 z4:=Tryz.sizeOf4
 v4:=Tryz.zeroValue4
 i4:=by kernel_rfl
 t9:=Tryz.underlying9
 a9:=Tryz.isAgg9
 z9:=Tryz.sizeOf9
 v9:=Tryz.zeroValue9
 i9:=by kernel_rfl
 t21:=Tryz.underlying21
 a21:=Tryz.isAgg21
 z21:=Tryz.sizeOf21
 v21:=Tryz.zeroValue21
 i21:=by kernel_rfl
 t23:=Tryz.underlying256
 a23:=Tryz.isAgg256
 z23:=Tryz.sizeOf256
 v23:=Tryz.zeroValue256
 i23:=by kernel_rfl}
def Tryz.lays264_ren:Go.Shelf.Ren:=⟨fun|264=>295|n=>n,fun|53=>293|46=>258|n=>n,fun|n=>n⟩
theorem Tryz.lays264:Go.Proofs.Lays.n264 Tryz.prog Tryz.lays264_ren:={
 mixed:=by kernel_rfl
 f264:=Tryz.func295.trans (congrArg some (by kernel_rfl))
 t46:=Tryz.underlying258
 a46:=Tryz.isAgg258
 z46:=Tryz.sizeOf258
 v46:=Tryz.zeroValue258
 t53:=Tryz.underlying293
 a53:=Tryz.isAgg293
 z53:=Tryz.sizeOf293
 v53:=Tryz.zeroValue293}
open Go.RowKit Go.Lib in
theorem Tryz.bits_Mul64 (x y:Nat) (hx:x<18446744073709551616) (hy:y<18446744073709551616) (w:World):
 Calls Tryz.prog 295 #[.int .u64 x,.int .u64 y] w fun e w'=>e= .returned (.tuple #[.int .u64 ((x*y/18446744073709551616:Nat):Int),.int .u64 ((x*y% 18446744073709551616:Nat):Int)])/\w'=w:=Any.bits_Mul64 Tryz.lays264 x y hx hy w
open Go.RowKit Go.Lib in
theorem Tryz.strings_ContainsFunc_grows (g:Nat) (lb:Array Value) (eg: ∀args w,(callFunc g args).run Tryz.prog w= .ok (.enter g args) w) (p:Nat->Bool) (s:ByteArray) (w:World) (hp:PredGrows Tryz.prog g lb p w):
 Calls Tryz.prog 270 #[.string s,.func (.func g) #[] lb] w fun e w'=>e= .returned (.bool (decide (0<=Lib.idxFunc p true s)))/\Below w.heap.size w w':=Any.strings_ContainsFunc_grows Tryz.laysGw17 g lb eg p s w hp
def Tryz.laysNm215_ren:Go.Shelf.Ren:=⟨fun|15=>202|n=>n,fun|22=>44|3=>3|4=>4|n=>n,fun|n=>n⟩
theorem Tryz.laysNm215:Go.Proofs.Lays2.n15 Tryz.prog Tryz.laysNm215_ren:={
 mixed:=by kernel_rfl
 f15:=Tryz.func202.trans (congrArg some (by kernel_rfl))
 t3:=Tryz.underlying3
 a3:=Tryz.isAgg3
 z3:=Tryz.sizeOf3
 v3:=Tryz.zeroValue3
 t4:=Tryz.underlying4
 a4:=Tryz.isAgg4
 z4:=Tryz.sizeOf4
 v4:=Tryz.zeroValue4
 t22:=Tryz.underlying44
 a22:=Tryz.isAgg44
 z22:=Tryz.sizeOf44
 v22:=Tryz.zeroValue44
 i3:=by kernel_rfl}
open Go.RowKit Go.Lib in
theorem Tryz.slices_Clone_int (b off n c:Nat) (zs:List Int) (w:World) (hz:n<=zs.length) (hbig:n*8<=140737488355328) (hc: ∀j,j<zs.length->w.cell? ⟨b,off+j,none⟩=some (.int .i64 (zs.getD j 0))):
 Calls Tryz.prog 202 #[.slice (some ⟨b,off,none⟩) n c] w fun e w'=> ∃v',e= .returned v'/\w'.ownsRow w.heap.size 3 1 v' n ((zs.take n).map (Value.int .i64))/\v'≠ .slice none 0 0/\Below w.heap.size w w':=Any.slices_Clone_int Tryz.laysNm215 b off n c zs w hz hbig hc
open Go.RowKit Go.Lib in
theorem Tryz.slices_Clone_int_nil (n c:Nat) (w:World):
 Calls Tryz.prog 202 #[.slice none n c] w fun e w'=>e= .returned (.slice none 0 0)/\w'=w:=Any.slices_Clone_int_nil Tryz.laysNm215 n c w
def Tryz.laysNm216_ren:Go.Shelf.Ren:=⟨fun|16=>181|n=>n,fun|24=>68|9=>9|4=>4|n=>n,fun|n=>n⟩
theorem Tryz.laysNm216:Go.Proofs.Lays2.n16 Tryz.prog Tryz.laysNm216_ren:={
 mixed:=by kernel_rfl
 f16:=Tryz.func181.trans (congrArg some (by kernel_rfl))
 t4:=Tryz.underlying4
 a4:=Tryz.isAgg4
 z4:=Tryz.sizeOf4
 v4:=Tryz.zeroValue4
 t9:=Tryz.underlying9
 a9:=Tryz.isAgg9
 z9:=Tryz.sizeOf9
 v9:=Tryz.zeroValue9
 t24:=Tryz.underlying68
 a24:=Tryz.isAgg68
 z24:=Tryz.sizeOf68
 v24:=Tryz.zeroValue68
 i9:=by kernel_rfl}
open Go.RowKit Go.Lib in
theorem Tryz.slices_Clone_string (b off n c:Nat) (zs:List ByteArray) (w:World) (hz:n<=zs.length) (hbig:n*16<=140737488355328) (hc: ∀j,j<zs.length->w.cell? ⟨b,off+j,none⟩=some (.string (zs.getD j ByteArray.empty))):
 Calls Tryz.prog 181 #[.slice (some ⟨b,off,none⟩) n c] w fun e w'=> ∃v',e= .returned v'/\w'.ownsRow w.heap.size 9 1 v' n ((zs.take n).map (Value.string))/\v'≠ .slice none 0 0/\Below w.heap.size w w':=Any.slices_Clone_string Tryz.laysNm216 b off n c zs w hz hbig hc
open Go.RowKit Go.Lib in
theorem Tryz.slices_Clone_string_nil (n c:Nat) (w:World):
 Calls Tryz.prog 181 #[.slice none n c] w fun e w'=>e= .returned (.slice none 0 0)/\w'=w:=Any.slices_Clone_string_nil Tryz.laysNm216 n c w
open Go.RowKit Go.Lib in
theorem Tryz.slices_Clone_int_zero (a:Addr) (c:Nat) (w:World):
 Calls Tryz.prog 202 #[.slice (some a) 0 c] w fun e w'=> ∃v',e= .returned v'/\w'.ownsRow w.heap.size 3 1 v' 0 []/\v'≠ .slice none 0 0/\Below w.heap.size w w':=Any.slices_Clone_int_zero Tryz.laysNm215 a c w
open Go.RowKit Go.Lib in
theorem Tryz.slices_Clone_string_zero (a:Addr) (c:Nat) (w:World):
 Calls Tryz.prog 181 #[.slice (some a) 0 c] w fun e w'=> ∃v',e= .returned v'/\w'.ownsRow w.heap.size 9 1 v' 0 []/\v'≠ .slice none 0 0/\Below w.heap.size w w':=Any.slices_Clone_string_zero Tryz.laysNm216 a c w
def Tryz.lays194_ren:Go.Shelf.Ren:=⟨fun|194=>244|n=>n,fun|31=>68|9=>9|3=>3|4=>4|0=>0|n=>n,fun|n=>n⟩
theorem Tryz.lays194:Go.Proofs.Lays.n194 Tryz.prog Tryz.lays194_ren:={
 mixed:=by kernel_rfl
 f194:=Tryz.func244.trans (congrArg some (by kernel_rfl))
 t0:=Tryz.underlying0
 a0:=Tryz.isAgg0
 z0:=Tryz.sizeOf0
 v0:=Tryz.zeroValue0
 t3:=Tryz.underlying3
 a3:=Tryz.isAgg3
 z3:=Tryz.sizeOf3
 v3:=Tryz.zeroValue3
 t4:=Tryz.underlying4
 a4:=Tryz.isAgg4
 z4:=Tryz.sizeOf4
 v4:=Tryz.zeroValue4
 t9:=Tryz.underlying9
 a9:=Tryz.isAgg9
 z9:=Tryz.sizeOf9
 v9:=Tryz.zeroValue9
 t31:=Tryz.underlying68
 a31:=Tryz.isAgg68
 z31:=Tryz.sizeOf68
 v31:=Tryz.zeroValue68}
open Go.RowKit Go.Lib Go.Sort in
theorem Tryz.slices_Compact_string (blk off cap:Nat) (zs:List (List UInt8)) (w:World) (hH:Holds encStr w blk off zs.toArray) (hsz:zs.length<=9223372036854775807) (hcap:zs.length<=cap):
 Calls Tryz.prog 244 #[.slice (some ⟨blk,off,none⟩) zs.length cap] w fun e w'=>e= .returned (.slice (some ⟨blk,off,none⟩) (Lib.compact zs).length cap)/\ ∃q,w'=putRow encStr (Sort.ahead w q) blk off (Lib.compact zs++List.replicate (zs.length -(Lib.compact zs).length) []).toArray:=Any.slices_Compact_string Tryz.lays194 blk off cap zs w hH hsz hcap
open Go.RowKit Go.Lib Go.Sort in
theorem Tryz.slices_Compact_string_empty (a:Option Addr) (cap:Nat) (w:World):
 Calls Tryz.prog 244 #[.slice a 0 cap] w fun e w'=>e= .returned (.slice a 0 cap)/\w'=w:=Any.slices_Compact_string_empty Tryz.lays194 a cap w
open Go.RowKit Go.Sort in
theorem Tryz.slices_Sort_string_none (p:Option Addr) (cap:Nat) (w:World):
 Calls Tryz.prog 243 #[.slice p 0 cap] w fun e w'=>e= .returned (.tuple #[])/\w'=w:=Any.slices_Sort_string_none Tryz.lays190 p cap w
def Tryz.growOp_ren:Go.Shelf.Ren:=⟨fun|4=>321|n=>n,fun|22=>193|25=>134|3=>3|4=>4|9=>9|20=>20|0=>0|n=>n,fun|n=>n⟩
theorem Tryz.growOp:Go.Proofs.Lays8.n4 Tryz.prog Tryz.growOp_ren:={
 mixed:=by kernel_rfl
 f4:=⟨Tryz.f321.name,by decide,Tryz.func321.trans (congrArg some (by kernel_rfl))⟩
 t0:=Tryz.underlying0
 a0:=Tryz.isAgg0
 z0:=Tryz.sizeOf0
 v0:=Tryz.zeroValue0
 t3:=Tryz.underlying3
 a3:=Tryz.isAgg3
 z3:=Tryz.sizeOf3
 v3:=Tryz.zeroValue3
 t4:=Tryz.underlying4
 a4:=Tryz.isAgg4
 z4:=Tryz.sizeOf4
 v4:=Tryz.zeroValue4
 t9:=Tryz.underlying9
 a9:=Tryz.isAgg9
 z9:=Tryz.sizeOf9
 v9:=Tryz.zeroValue9
 t20:=Tryz.underlying20
 a20:=Tryz.isAgg20
 z20:=Tryz.sizeOf20
 v20:=Tryz.zeroValue20
 t22:=Tryz.underlying193
 a22:=Tryz.isAgg193
 z22:=Tryz.sizeOf193
 v22:=Tryz.zeroValue193}
end Go.Proofs
end
section
namespace Go.VL
open Go.Proofs Go.RowKit
theorem afv (s:Str) (c:UInt8):aG Tryz.prog 334 [.str s,.str [c]] (.int .i64 (Lib.indexByte s c)):=by
 refine ab1 ⟨_,Tryz.func334,rfl,by kernel_rfl⟩ (fun w G vs hg hi hv=> ?_) (dJ.mem (.cons (.str _) (.cons (.str _) .nil)));rw [Vs.str2 hv];refine(Tryz.stringslite_Index_one ⟨s.toArray⟩ c w).mono ?_;rintro e w' ⟨rfl,rfl⟩;exact⟨_,rfl,Below.refl _ _,fun G n=> .int _ _⟩
theorem apD {G:Gh} {n:Nat} {es:List (List PV)} {v:Value} (h:V G n (.ah es .unk) v): ∃ad cap,v= .slice ad es.length cap/\es.length<=cap/\ ∀sz,(∀cs∈es,cs.length=sz)->es≠[]-> ∃b o,ad=some ⟨b,o,none⟩/\ ∃f:Nat->Nat->Value,(∀(i:Nat) (cs:List PV),es[i]? =some cs-> ∀(j:Nat) (c:PV),cs[j]? =some c->G.F ⟨b,o+i*sz+j,none⟩=some (f i j))/\ ∀(i:Nat) (cs:List PV) (j:Nat) (c:PV),es[i]? =some cs->cs[j]? =some c->V G n c (f i j):=by
 generalize hp:PV.ah es .unk=p at h;cases h with
 |ah es' c sz ad cap f h1 h2 h3 h4 h5=>
  cases hp;refine⟨ad,cap,rfl,h2,fun sz' hsz hne=> ?_⟩;obtain⟨b,o,e1,e2⟩:=h3 hne;have:sz=sz':=by
   obtain⟨cs,l',hl⟩:=uA hne;have a:=h1 0 cs (by rw [hl];rfl);have b:=hsz cs (by rw [hl];exact A1 ..);omega
  subst this;exact⟨b,o,e1,f,e2,h4⟩
 |_=>cases hp
theorem Ov (l:List Str) (hl:l.length<=1000000) {c:Ck}:aG Tryz.prog 181 [.ah (l.map aF) c] (.ah (l.map aF) .unk):=by
 refine aG.wk (args:=[.ah (l.map aF) .unk]) ?_ (.ah .nil);refine QF ⟨_,Tryz.func181,rfl,by kernel_rfl⟩ (fun w G vs hg hi hv=> ?_) (dJ.mem (.cons (bK gu _) .nil));obtain⟨u,rfl,hu⟩: ∃u,vs=#[u]/\V G 0 (.ah (l.map aF) .unk) u:=by
  obtain⟨h1,h2⟩:=hv
  match vs,h1,h2 with
  |⟨[u]⟩,_,h2=>exact⟨u,rfl,h2 0 _ u rfl rfl⟩
 obtain⟨ad,cap,rfl,hcap,hx⟩:=apD hu;rw [J1]at*;by_cases h0:l=[]
 · subst h0;cases ad with
   |none=>
    refine(Tryz.slices_Clone_string_nil 0 cap w).mono ?_;rintro e w' ⟨rfl,rfl⟩;exact⟨_,rfl,Below.refl _ _,fun G' n _=> .ah [] .unk 1 none 0 (fun _ _=> .bool true) (fun i cs e=>by simp at e) (R0 _) (fun h=>absurd rfl h) (fun i cs j c e=>by simp at e) trivial⟩
   |some a=>
    refine(Tryz.slices_Clone_string_zero a cap w).mono ?_;rintro e w' ⟨v',rfl,⟨_,hown⟩,_,hb⟩;refine⟨_,rfl,hb,fun G' n _=> ?_⟩;rcases hown with⟨rfl,_⟩|⟨g,cp,cur,rfl,_,_,h1,_⟩
    · exact .ah [] .unk 1 none 0 (fun _ _=> .bool true) (fun i cs e=>by simp at e) (R0 _) (fun h=>absurd rfl h) (fun i cs j c e=>by simp at e) trivial
    · exact .ah [] .unk 1 (some ⟨g,0,none⟩) cp (fun _ _=> .bool true) (fun i cs e=>by simp at e) h1 (fun h=>absurd rfl h) (fun i cs j c e=>by simp at e) trivial
 · obtain⟨b,o,rfl,f,e2,h4⟩:=hx 1 (fun cs h=>by obtain⟨s,_,rfl⟩:=G3.1 h;rfl) (by simpa using h0);have hcell: ∀j,j<l.length->w.cell? ⟨b,o+j,none⟩=some (.string ((l.map fun s=>(⟨s.toArray⟩:ByteArray)).getD j ByteArray.empty)):=by
    intro j hj;have hg:(l.map aF)[j]? =some (aF l[j]):=by simp [hj]
    have a:=e2 j _ hg 0 (.str l[j]) rfl;have b':=h4 j _ 0 (.str l[j]) hg rfl;generalize f j 0=v at a b';cases b';have:=hi _ _ a;rw [sA,S4]at this;rw [this];simp [List.getD,hj]
   refine(Tryz.slices_Clone_string b o l.length cap (l.map fun s=>(⟨s.toArray⟩:ByteArray)) w (by simp) (by omega) (by simpa using hcell)).mono ?_;rintro e w' ⟨v',rfl,⟨_,hown⟩,hne,hb⟩;refine⟨_,rfl,hb,fun G' n hnew=> ?_⟩;rcases hown with⟨rfl,_⟩|⟨g,cp,cur,rfl,hge,hblk,h1,h2,h3,h5⟩
   · exact absurd rfl hne
   · refine Eq.mp (by rw [J1]) (V.ah (G:=G') (n:=n) (l.map aF) .unk 1 (some ⟨g,0,none⟩) cp (fun i _=> .string ⟨(l[i]?.getD []).toArray⟩) (fun i cs e=> ?_) (by simpa using h1) (fun _=>⟨g,0,rfl,fun i cs e j c ec=> ?_⟩) (fun i cs j c e ec=> ?_) trivial)
     · simp only [J0,Z1]at e;obtain⟨s,_,rfl⟩:=e;rfl
     · simp only [J0,Z1]at e;obtain⟨s,e1,rfl⟩:=e;have hj:j=0:=by
        have:=(S0.1 ec).1;simp [aF]at this;exact this
       subst hj;have hlt:=(S0.1 e1).1;refine hnew _ _ hge ?_;have hc:cur[i]? =some (.string ⟨s.toArray⟩):=by
        have:=congrArg (·[i]?) h5
        simp only [sA,gA,hlt,A0,E7]at this;rw [<-W4,this];simp [e1,I3]
       simp only [World.cell?,hblk,V1,sA,S4,e1,E2];simpa using hc
     · simp only [J0,Z1]at e;obtain⟨s,e1,rfl⟩:=e;have hj:j=0:=by
        have:=(S0.1 ec).1;simp [aF]at this;exact this
       subst hj;simp only [aF,N2,L1]at ec;subst ec;simp only [e1,E2];exact .str s
end Go.VL
end
section
namespace Go.VL
theorem yV {sz:Nat}: ∀(es:List (List PV)) (rest:List PV),(∀cs∈es,cs.length=sz)->chunks sz es.length (es.flatten++rest)=es
 |[],rest,_=>by simp [chunks]
 |c::es,rest,h=>by
  have hc:=h c (A1 ..);have ih:=yV es rest fun cs hcs=>h cs (I1 _ hcs);unfold chunks at ih⊢;rw [I0,List.range_succ_eq_map,M3,E7,A4,T1];congr 1
  · rw [Nat.zero_mul,P1,<-hc,List.take_left]
  · conv=>rhs;rw [<-ih]
    refine HC fun i _=> ?_;simp only [Function.comp];rw [show(i+1)*sz=sz+i*sz by rw [C3,N6,d7],<-CC];congr 2;rw [<-hc,PA]
theorem nu {α:Type} {sz:Nat} {f:α->List PV} (hf: ∀x,(f x).length=sz): ∀l:List α,((l.map f).flatten).length=l.length*sz
 |[]=>by simp
 |x::l=>by rw [M3,A4,X1,hf,nu hf l,I0,Nat.succ_mul,d7]
theorem Zf {α:Type} {sz:Nat} {f:α->List PV} (hf: ∀x,(f x).length=sz): ∀(l:List α) (i:Nat),((l.map f).flatten).drop (i*sz)=((l.drop i).map f).flatten
 |l,0=>by simp
 |[],i+1=>by simp
 |x::l,i+1=>by
  rw [M3,A4,Nat.succ_mul,d7,<-CC];have:List.drop sz (f x++(l.map f).flatten)=(l.map f).flatten:=by rw [<-hf x,PA]
  rw [this,Zf hf l i,GC]
theorem ab2 (A fa B vs:List PV) {j:Nat} (h:j+vs.length<=fa.length):putCells (A++(fa++B)) (A.length+j) vs=A++(putCells fa j vs++B):=by
 have h1:j -fa.length=0:=by omega
 have h2:A.length+j+vs.length -A.length=j+vs.length:=by omega
 have h3:j+vs.length -fa.length=0:=by omega
 have h4:A.take (A.length+j)=A:=I3 (by omega);have h5:A.drop (A.length+j+vs.length)=[]:=v7 (by omega);have h6:A.length+j -A.length=j:=by omega
 simp only [putCells,List.take_append,List.drop_append,h1,h2,h3,h4,h5,h6,HB,P1,W3,R2,T1]
theorem Zg (z:List PV): ∀n,((List.replicate n z).flatten).length=n*z.length
 |0=>by simp
 |n+1=>by rw [n8,A4,X1,Zg z n,C3,N6,d7]
theorem ab3 {α:Type} {l:List α} {i:Nat} {x:α} (h:l[i]? =some x):l.drop i=x::l.drop (i+1):=by
 have hlt:=(S0.1 h).1;rw [N1 hlt];congr 1;exact(S0.1 h).2
def aB {α:Type} (H:AH) (f:α->List PV) (sz:Nat) (l:List α) (v:PV) (ids:List Nat):Prop:=
 (v= .ah [] .nil/\l=[]/\ids=[])\/ ∃id cap junk,ids=[id]/\v= .bP id 0 l.length cap sz/\l.length<=cap/\id<H.next/\H.obj id=some ((l.map f).flatten++junk)/\junk.length=(cap -l.length)*sz
def Nw (H:AH) (ids gD:List Nat):Prop:= ∀i∈gD,i∈ids\/H.next<=i
theorem Nw.refl {H:AH} {ids:List Nat}:Nw H ids ids:=fun _ h=> .inl h
theorem Nw.trans {H H':AH} {a b c:List Nat} (h:Nw H a b) (hn:H.next<=H'.next) (k:Nw H' b c):Nw H a c:=fun i hi=>by
 rcases k i hi with q|q
 · exact h i q
 · exact .inr (E1 hn q)
theorem Nw.via {H H':AH} {M N c:List Nat} (h: ∀i∈N,i∈M\/H.next<=i) (hn:H.next<=H'.next) (k:Nw H' N c):Nw H M c:=fun i hi=>by
 rcases k i hi with q|q
 · exact h i q
 · exact .inr (E1 hn q)
def Dj (a b:List Nat):Prop:= ∀i∈a,i∉b
theorem Dj.nil {b:List Nat}:Dj [] b:=fun _ h=>by cases h
theorem Dj.symm {a b:List Nat} (h:Dj a b):Dj b a:=fun i hi hj=>h i hj hi
section
variable {α:Type} {H H':AH} {f:α->List PV} {sz:Nat} {l:List α} {v:PV} {ids:List Nat}
theorem aB.nil:aB H f sz ([]:List α) (.ah [] .nil) []:= .inl ⟨rfl,rfl,rfl⟩
theorem aB.lt (h:aB H f sz l v ids): ∀i∈ids,i<H.next:=by
 rcases h with⟨_,_,rfl⟩|⟨id,cap,junk,rfl,_,_,h,_⟩
 · intro i hi;cases hi
 · intro i hi;rw [P0.1 hi];exact h
theorem aB.hf {M:List Nat} (h:aB H f sz l v ids) (hf:HF M H H') (hd:Dj ids M):aB H' f sz l v ids:=by
 rcases h with⟨h1,h2,h3⟩|⟨id,cap,junk,rfl,h1,h2,h3,h4,h5⟩
 · exact .inl ⟨h1,h2,h3⟩
 · exact .inr ⟨id,cap,junk,rfl,h1,h2,K0 h3 hf.1,(hf.2 id h3 (hd id (P0.2 rfl))).trans h4,h5⟩
theorem aB.new {cs:List PV} (h:aB H f sz l v ids):aB (H.new cs) f sz l v ids:=h.hf (M:=[]) (HF.new (HF.refl _ _)) (fun _ _ h=>by cases h)
theorem aB.put {id:Nat} {cs:List PV} (h:aB H f sz l v ids) (hn:id∉ids):aB (H.put id cs) f sz l v ids:=
 h.hf (M:=[id]) (HF.put (.inl (P0.2 rfl)) (HF.refl _ _)) (fun i hi hj=>hn (P0.1 hj▸hi))
theorem aB.Ow (h:aB H f sz l v ids):z8 v=some (.int .i64 l.length):=by
 rcases h with⟨rfl,rfl,_⟩|⟨id,cap,junk,rfl,rfl,_⟩
 · rfl
 · rfl
theorem aB.at (h:aB H f sz l v ids) {i:Nat} {x:α} (hx:l[i]? =some x): ∃id cap junk,ids=[id]/\v= .bP id 0 l.length cap sz/\l.length<=cap/\id<H.next/\H.obj id=some ((l.map f).flatten++junk)/\junk.length=(cap -l.length)*sz:=by
 rcases h with⟨_,rfl,_⟩|h
 · simp at hx
 · exact h
theorem aB.content [hr:nk f sz] (h:aB H f sz l v ids) {i:Nat} {x:α} (hx:l[i]? =some x):
 ∃id C,ids=[id]/\id<H.next/\H.obj id=some C/\(∀j c,(f x)[j]? =some c->C[i*sz+j]? =some c)/\(∀j,j<=sz->i*sz+j<=C.length)/\(C.drop (i*sz)).take sz=f x/\
  ∀k n,0<=n->n.toNat=i->jS sz v (.int k n)=some (.ref id (i*sz)):=by
 obtain⟨id,cap,junk,rfl,rfl,h2,h3,h4,h5⟩:=h.at hx;have hlt:=(S0.1 hx).1;have hd:((l.map f).flatten++junk).drop (i*sz)=f x++(((l.drop (i+1)).map f).flatten++junk):=by
  rw [List.drop_append_of_le_length (by rw [nu hr.len];exact Z3 _ (by omega)),Zf hr.len,ab3 hx];simp
 have hlen:i*sz+sz<=((l.map f).flatten++junk).length:=by
  rw [X1,nu hr.len];have:(i+1)*sz<=l.length*sz:=Z3 _ hlt;rw [Nat.succ_mul]at this;omega
 refine⟨id,_,rfl,h3,h4,fun j c hc=> ?_,fun j hj=>by omega,?_,fun k n hn he=> ?_⟩
 · rw [<-Q3,hd];have hj:j<(f x).length:=(S0.1 hc).1;rw [C0 hj];exact hc
 · rw [hd,List.take_append_of_le_length (by rw [hr.len];exact R0 _),I3 (by rw [hr.len];exact R0 _)]
 · subst he;have h6:n<(l.length:Int):=by omega
   simp [jS,hn,h6]
theorem aB.fz (hp: ∀x,∀c∈f x,Pu c) [hr:nk f sz] (h:aB H f sz l v ids):Fz H v (.ah (l.map f) .unk):=by
 rcases h with⟨rfl,rfl,_⟩|⟨id,cap,junk,rfl,rfl,h2,h3,h4,h5⟩
 · exact jV hp [] .nil
 · refine .bP id 0 l.length cap sz _ _ (fun i j=>((l.map f)[i]?.bind (·[j]?)).getD .any) h4 (by simp) h2 (fun i cs e=> ?_) (fun i cs e j c ec=> ?_) (fun i cs e j c ec=> ?_)
   · simp only [J0,Z1]at e;obtain⟨x,_,rfl⟩:=e;exact hr.len x
   · have e':=e;simp only [J0,Z1]at e;obtain⟨x,hx,rfl⟩:=e;have hrow:aB H f sz l (.bP id 0 l.length cap sz) [id]:= .inr ⟨id,cap,junk,rfl,rfl,h2,h3,h4,h5⟩;obtain⟨id',C,e1,_,e2,e3,_⟩:=hrow.content hx;cases e1;rw [h4]at e2;cases e2;rw [e',W0,ec,E2,V1];exact e3 j c ec
   · rw [e,W0,ec,E2];simp only [J0,Z1]at e;obtain⟨x,_,rfl⟩:=e;exact .pure _ (hp x c (B1 ec))
end
variable [Glob]
section
variable {P:Program} {Q:Post} {σ:Nat->PV} {s:List Fm} {α:Type} {H:AH} {f:α->List PV} {sz:Nat} {v:PV} {ids:List Nat}
theorem JU {d:Option Nat} {b:Nat} {x y:AE} {l:List aD} [hr:nk f sz] (hf: ∀x,kC sz (f x)) (xs ys:List α) (c2:Ck)
 (hx:x.ev σ=v) (hrow:aB H f sz xs v ids) (hy:y.ev σ= .ah (ys.map f) c2) (hs:0<ys.length) (hb:(xs.length+ys.length)*b<=1099511627776)
 (h: ∀(v':PV) (gD:List Nat) (H':AH),aB H' f sz (xs++ys) v' gD->Nw H ids gD->HF ids H H'->(∀c3,aR H c3->aR H' c3)->WO P l s Q (upd σ d v') H'):
 WO P (⟨d,.n (.app sz b x y),none⟩::l) s Q σ H:=by
 show eZ P _ _ σ H
 rw [IB];simp only [nop,hx,hy];have h0: ¬((ys.map f).length=0):=by rw [J1];omega
 have fresh: ∀(es:List (List PV)),es=xs.map f->BN sz b H es (ys.map f) (fun p H'=>eZ P l (BP P s Q .normal) (upd σ d p) H'):=by
  intro es he cap hcap;subst he;simp only [J1]at hcap⊢;refine h _ [H.next] _ (.inr ⟨H.next,cap,List.replicate ((cap -(xs.length+ys.length))*sz) .any,rfl,by rw [X1],by rw [X1];exact hcap,A2 _,?_,by rw [D2,X1]⟩) (fun i hi=> .inr (by rw [P0.1 hi];exact R0 _)) (HF.new (HF.refl _ _)) (fun c3 k=>k.new);show(if H.next=H.next then some _ else _)=_;rw [if_pos rfl,A5]
 rcases hrow with⟨rfl,rfl,rfl⟩|⟨id,cap,junk,rfl,rfl,h2,h3,h4,h5⟩
 · simp only [vJ,rowOf];rw [if_neg h0];split
   · exact fresh [] rfl
   · rename_i hno;exact(hno ⟨qO hf ([]:List α),qO hf ys,by simpa using hb⟩).elim
 · have hfl:=nu (f:=f) hr.len xs;have hrow:rowOf sz H (.bP id 0 xs.length cap sz)=some (xs.map f):=by
    simp only [rowOf,h4];rw [if_pos ⟨trivial,by rw [X1,hfl];omega⟩,P1];have:=yV (sz:=sz) (xs.map f) junk (fun cs hcs=>by obtain⟨x,_,rfl⟩:=G3.1 hcs;exact hr.len x);rw [J1]at this;rw [this]
   simp only [vJ,hrow];have:rowOf sz H (.ah (ys.map f) c2)=some (ys.map f):=rfl;simp only [this];rw [if_neg h0,if_pos ⟨qO hf xs,qO hf ys,by simpa using hb⟩];simp only [J1];by_cases hc:xs.length+ys.length<=cap
   · rw [if_pos hc,h4];have hsz:cap -xs.length=(cap -(xs.length+ys.length))+ys.length:=by omega
     have h6:0+(xs.length+ys.length)*sz<=((xs.map f).flatten++junk).length:=by
      rw [X1,hfl,h5,C3,hsz,C3];omega
     simp only;rw [if_pos h6];have hyl:=nu (f:=f) hr.len ys;have hput:putCells ((xs.map f).flatten++junk) (0+xs.length*sz) (ys.map f).flatten=((xs++ys).map f).flatten++junk.drop (ys.length*sz):=by
      rw [V1,putCells,<-hfl,List.take_left,hyl,<-CC,PA,A5,pA]
     rw [hput];refine h _ [id] _ (.inr ⟨id,cap,junk.drop (ys.length*sz),rfl,by rw [X1],by rw [X1];exact hc,h3,?_,?_⟩) Nw.refl (HF.put (.inl (P0.2 rfl)) (HF.refl _ _)) (fun c3 k=>k.put)
     · show(if id=id then some _ else _)=_
       rw [if_pos rfl]
     · rw [E4,h5,X1,hsz,C3];omega
   · rw [if_neg hc,if_pos h2];have hfr:=fresh _ rfl;intro cap' aAY;exact hfr cap' aAY
theorem ab4 {d:Option Nat} {bytes:Nat} {zero:List PV} {x y:AE} {l:List aD} [hr:nk f sz] (z:α) (hz:f z=zero) {k k':IntKind} {n c:Int} (hx:x.ev σ= .int k n) (hy:y.ev σ= .int k' c)
 (hb:0<=n/\n<=c/\c<=1099511627776/\bytes*c<=1099511627776) (hs:0<sz)
 (h: ∀(v':PV) (gD:List Nat) (H':AH),aB H' f sz (List.replicate n.toNat z) v' gD->Nw H [] gD->HF [] H H'->(∀c3,aR H c3->aR H' c3)->WO P l s Q (upd σ d v') H'):
 WO P (⟨d,.d (.yP sz bytes zero x y),none⟩::l) s Q σ H:=by
 show WD P (jc (.yP sz bytes zero x y) σ H) d l s Q σ
 simp only [jc,hx,hy];rw [if_pos ⟨hb.1,hb.2.1,hb.2.2.1,hb.2.2.2,by rw [<-hz,hr.len],hs⟩];show WO P l s Q (upd σ d _) _;have hn:(List.replicate n.toNat z).length=n.toNat:=D2;refine h _ [H.next] _ (.inr ⟨H.next,c.toNat,(List.replicate (c.toNat -n.toNat) zero).flatten,rfl,by rw [hn],by rw [hn];omega,A2 _,?_,?_⟩) (fun i hi=> .inr (by rw [P0.1 hi];exact R0 _)) (HF.new (HF.refl _ _)) (fun c3 k=>k.new)
 · show(if H.next=H.next then some _ else _)=_
   rw [if_pos rfl,pC,hz,<-pA,List.replicate_append_replicate];congr 3;omega
 · rw [hn,Zg,<-hz,hr.len]
theorem qd {d:Option Nat} {n:Nat} {x w:AE} {l:List aD} [hr:nk f sz] {xs:List α} {id o i j:Nat} {a y:α} {vs:List PV}
 (hx:x.ev σ= .ref id o) (hid:ids=[id]) (ho:o=i*sz+j) (hrow:aB H f sz xs v ids) (ha:xs[i]? =some a) (hv:cellsOf (w.ev σ)=some vs) (hl:vs.length=n) (hone:vs.all PV.one=true) (hj:j+n<=sz) (hy:putCells (f a) j vs=f y)
 (h: ∀H':AH,aB H' f sz (xs.set i y) v ids->HF ids H H'->(∀c3,aR H c3->aR H' c3)->WO P l s Q (upd σ d .any) H'):
 WO P (⟨d,.d (.store n x w),none⟩::l) s Q σ H:=by
 obtain⟨id',cap,junk,e1,rfl,h2,h3,h4,h5⟩:=hrow.at ha;subst hid;cases e1;have hlt:=(S0.1 ha).1;have hfl:=nu (f:=f) hr.len xs;have hle:o+n<=((xs.map f).flatten++junk).length:=by
  rw [X1,hfl,ho];have:(i+1)*sz<=xs.length*sz:=Z3 _ hlt;rw [Nat.succ_mul]at this;omega
 show WD P (jc (.store n x w) σ H) d l s Q σ
 simp only [jc,hx,hv,h4];rw [if_pos ⟨hl,hle,hone⟩];show WO P l s Q (upd σ d .any) _;have hxs:xs=xs.take i++a::xs.drop (i+1):=by rw [<-ab3 ha,w6]
 have hA:((xs.take i).map f).flatten.length=i*sz:=by rw [nu hr.len,P3];congr 1;omega
 have hput:putCells ((xs.map f).flatten++junk) o vs=((xs.set i y).map f).flatten++junk:=by
  have e2:(xs.map f).flatten++junk=((xs.take i).map f).flatten++(f a++(((xs.drop (i+1)).map f).flatten++junk)):=by
   conv=>lhs;rw [hxs]
   simp
  have e3:xs.set i y=xs.take i++y::xs.drop (i+1):=by rw [List.set_eq_take_append_cons_drop,if_pos hlt]
  rw [e2,e3,ho,<-hA,ab2 _ _ _ _ (by rw [hr.len,hl];exact hj),hy];simp
 rw [hput];refine h _ (.inr ⟨id,cap,junk,rfl,by rw [W8],by rw [W8];exact h2,h3,?_,by rw [W8];exact h5⟩) (HF.put (.inl (P0.2 rfl)) (HF.refl _ _)) (fun c3 k=>k.put);show(if id=id then some _ else _)=_;rw [if_pos rfl]
end
end Go.VL
end
section
namespace Go.VL
variable [Glob]
section
variable {P:Program} {Q:Post} {σ:Nat->PV} {s:List Fm} {α β:Type} {H:AH} {f:α->List PV} {sz:Nat} {g:β->List PV} {sz2:Nat}
def Mk (f:α->List PV) (sz:Nat) (xs:List α) (H:AH) (v:PV) (H':AH):Prop:= ∃ids,aB H' f sz xs v ids/\Nw H [] ids/\HF [] H H'/\ ∀c3,aR H c3->aR H' c3
def Mj (P:Program) (g:FuncId) (args:List PV) (f:α->List PV) (sz:Nat) (xs:List α):Prop:= ∀H,aW P g args H (Mk f sz xs H)
theorem akz {d:Option Nat} {g:FuncId} {args:List PV} {l:List aD} {xs:List α} (hm:Mj P g args f sz xs)
 (h: ∀(v':PV) (gD:List Nat) (H':AH),aB H' f sz xs v' gD->Nw H [] gD->HF [] H H'->(∀c3,aR H c3->aR H' c3)->WO P l s Q (upd σ d v') H'):MC P g args d l s Q σ H:=
 aW.mono (hm H) fun v H' ⟨ids,h1,h2,h3,h4⟩=>h v ids H' h1 h2 h3 h4
theorem atB {bytes:Nat} {zero:List PV} {x y:AE} [hr:nk f sz] (z:α) (hz:f z=zero) {k k':IntKind} {n:Int} (hx:x.ev σ= .int k n) (hy:y.ev σ= .int k' n)
 (hb:0<=n/\n<=1099511627776/\bytes*n<=1099511627776) (hs:0<sz):dQ P (.d (.yP sz bytes zero x y)) (Mk f sz (List.replicate n.toNat z) H) σ H:=by
 have h:=ab4 (P:=P) (s:=[]) (Q:=fun e σ' H'=> ∃v,σ'=upd σ (some 0) v/\Mk f sz (List.replicate n.toNat z) H v H') (d:=some 0) (l:=[]) (H:=H) (bytes:=bytes) (x:=x) (y:=y) z hz hx hy ⟨hb.1,Int.le_refl _,hb.2.1,hb.2.2⟩ hs
  (fun v' gD H' h1 h2 h3 h4=>⟨v',rfl,gD,h1,h2,h3,h4⟩)
 have h2:WD P (jc (.yP sz bytes zero x y) σ H) (some 0) [] [] (fun e σ' H'=> ∃v,σ'=upd σ (some 0) v/\Mk f sz (List.replicate n.toNat z) H v H') σ:=h;show(match jc (.yP sz bytes zero x y) σ H with|some (p,H')=>Mk f sz (List.replicate n.toNat z) H p H'|none=>False);revert h2;cases jc (.yP sz bytes zero x y) σ H with
 |none=>intro h2;exact h2
 |some q=>
  intro h2;obtain⟨v,e,h3⟩:=(h2: ∃v,upd σ (some 0) q.1=upd σ (some 0) v/\Mk f sz (List.replicate n.toNat z) H v q.2);have e2:=congrFun e 0;simp only [upd,A0]at e2;show Mk f sz (List.replicate n.toNat z) H q.1 q.2;rw [e2];exact h3
theorem atC {g:FuncId} {fs cs args:List PV} {es:List AE} {xs:List α} (hm:Mj P g args f sz xs) (ha:fs++evs σ es++cs=args):dQ P (.call (.c (.fn (.func g) fs cs)) es) (Mk f sz xs H) σ H:=by
 show aW P g (fs++evs σ es++cs) H _
 rw [ha];exact hm H
def Vr (P:Program):List (aD×Bool)->(Nat->PV)->(Nat->PV)->Prop
 |[],_,_=>True
 |(o,d)::l,val,σ=>(d=true\/(o.g=none/\ ∀H,dQ P o.k (fun r fu=>r=val 0/\fu=H) σ H))/\Vr P l (fun i=>val (i+1)) (upd σ o.dst (val 0))
theorem Vr.at {P:Program}: ∀{pr:List (aD×Bool)} {val σ:Nat->PV} (h:Vr P pr val σ) (i:Nat) (o:aD),pr[i]? =some (o,false)->pX o (bV pr val σ i)/\ ∀H,dQ P o.k (fun r fu=>r=val i/\fu=H) (bV pr val σ i) H
 |(o,d)::l,val,σ,h,0,o',e=>by
   cases e;rcases h.1 with h1|⟨h1,h2⟩
   · cases h1
   · refine⟨?_,h2⟩;unfold pX;rw [h1];trivial
 |(o,d)::l,val,σ,h,i+1,o',e=>Vr.at (pr:=l) h.2 i o' e
theorem akA {ms:List Nat} {pr:List (aD×Bool)} {K:(Nat->PV)->AH->Prop} {a b:Nat} {oa ob:aD} {xs:List α} {ys:List β} (gQ:PV->PV->Nat->PV) (hr:wZ pr=[a,b]) (hne:a≠b)
 (Ox:pr[a]? =some (oa,true)) (Oy:pr[b]? =some (ob,true)) (ha: ∀x y,gQ x y a=x) (hb: ∀x y,gQ x y b=y)
 (agA: ∀x x' y i,i≠a->dS ms a i=false->gQ x y i=gQ x' y i) (agB: ∀x y y' i,i≠b->dS ms b i=false->gQ x y i=gQ x y' i)
 (pure: ∀x y,Vr P pr (gQ x y) σ)
 (mkA: ∀y H,pX oa (bV pr (gQ ud y) σ a)/\dQ P oa.k (Mk f sz xs H) (bV pr (gQ ud y) σ a) H)
 (mkB: ∀x H,pX ob (bV pr (gQ x ud) σ b)/\dQ P ob.k (Mk g sz2 ys H) (bV pr (gQ x ud) σ b) H)
 (hend: ∀va vb Oz JV H2,aB H2 f sz xs va Oz->aB H2 g sz2 ys vb JV->Dj Oz JV->Nw H [] Oz->Nw H [] JV->HF [] H H2->(∀c3,aR H c3->aR H2 c3)->K (bV pr (gQ va vb) σ pr.length) H2):
 ∃val:Nat->PV,yT P ms pr K σ (wZ pr).length (wZ pr) val H:=by
 refine⟨gQ ud ud,?_⟩;rw [hr]
 have hpure: ∀(rem:List Nat) (x y:PV) (H:AH) (i:Nat) (o:aD),pr[i]? =some (o,false)->(∀s∈rem,dS ms s i=false)->(∀(s:Nat) (o':aD),pr[s]? =some (o',true)->s∉rem->dS ms i s=false)->
  (sU o (bV pr (gQ x y) σ i)/\gQ x y i=ud)\/(pX o (bV pr (gQ x y) σ i)/\dQ P o.k (fun r fu=>r=gQ x y i/\fu=H) (bV pr (gQ x y) σ i) H):=
  fun rem x y H i o e _ _=> .inr ⟨((pure x y).at i o e).1,((pure x y).at i o e).2 H⟩
 have hfa:[a,b].filter (·!=a)=[b]:=by simp [B3 hne]
 have hfb:[a,b].filter (·!=b)=[a]:=by simp [hne]
 have hj: ∀{Oz JV:List Nat} {H1:AH},(∀i∈Oz,i<H1.next)->Nw H1 [] JV->Dj Oz JV:=fun h1 h2 i hi hj=>by
  rcases h2 i hj with q|q
  · cases q
  · have:=h1 i hi;omega
 have hnw: ∀{H1:AH} {JV:List Nat},HF [] H H1->Nw H1 [] JV->Nw H [] JV:=fun h1 h2 i hi=>by
  rcases h2 i hi with q|q
  · exact .inl q
  · exact .inr (E1 h1.1 q)
 have hft: ∀{H1 H2:AH},HF [] H H1->HF [] H1 H2->HF [] H H2:=fun h1 h2=>⟨E1 h1.1 h2.1,fun i hi hm=>(h2.2 i (K0 hi h1.1) hm).trans (h1.2 i hi hm)⟩
 unfold yT;refine⟨hpure _ ud ud H,(fun e=>by cases e),fun j hj' o e hbj=> ?_⟩;rcases M1.1 hj' with rfl|hj'
 · rw [Ox]at e;cases e;refine⟨(mkA ud H).1,kI (fun va H1 hm=> ?_) (mkA ud H).2⟩;obtain⟨Oz,a1,a2,a3,a4⟩:=hm;refine⟨gQ va ud,fun i hi hbi=> ?_,ha _ _,?_⟩
   · exact agA _ _ _ i (fun q=>hi (q▸A1 ..)) (hbi _ (A1 ..))
   · rw [hfa];unfold yT;refine⟨hpure _ va ud H1,(fun e=>by cases e),fun j hj2 o e hbj=> ?_⟩;rw [P0.1 hj2]at e⊢;rw [Oy]at e;cases e;refine⟨(mkB va H1).1,kI (fun vb H2 hm=> ?_) (mkB va H1).2⟩;obtain⟨JV,b1,b2,b3,b4⟩:=hm;refine⟨gQ va vb,fun i hi hbi=>agB _ _ _ i (fun q=>hi (q▸A1 ..)) (hbi _ (A1 ..)),hb _ _,?_⟩
     have hf:[b].filter (·!=b)=[]:=by simp
     rw [hf];unfold yT;exact⟨hpure _ va vb H2,fun _=>hend va vb Oz JV H2 (a1.hf b3 Dj.nil.symm) b1 (hj (fun i hi=>a1.lt i hi) b2) a2 (hnw a3 b2) (hft a3 b3) (fun c3 h=>b4 c3 (a4 c3 h)),rfl⟩
 · rw [P0.1 hj']at e⊢;rw [Oy]at e;cases e;refine⟨(mkB ud H).1,kI (fun vb H1 hm=> ?_) (mkB ud H).2⟩;obtain⟨JV,b1,b2,b3,b4⟩:=hm;refine⟨gQ ud vb,fun i hi hbi=> ?_,hb _ _,?_⟩
   · exact agB _ _ _ i (fun q=>hi (q▸I1 _ (A1 ..))) (hbi _ (I1 _ (A1 ..)))
   · rw [hfb];unfold yT;refine⟨hpure _ ud vb H1,(fun e=>by cases e),fun j hj2 o e hbj=> ?_⟩;rw [P0.1 hj2]at e⊢;rw [Ox]at e;cases e;refine⟨(mkA vb H1).1,kI (fun va H2 hm=> ?_) (mkA vb H1).2⟩;obtain⟨Oz,a1,a2,a3,a4⟩:=hm;refine⟨gQ va vb,fun i hi hbi=>agA _ _ _ i (fun q=>hi (q▸A1 ..)) (hbi _ (A1 ..)),ha _ _,?_⟩
     have hf:[a].filter (·!=a)=[]:=by simp
     rw [hf];unfold yT;exact⟨hpure _ va vb H2,fun _=>hend va vb Oz JV H2 a1 (b1.hf a3 Dj.nil.symm) (Dj.symm (hj (fun i hi=>b1.lt i hi) a2)) (hnw b3 a2) b2 (hft b3 a3) (fun c3 h=>a4 c3 (b4 c3 h)),rfl⟩
def Ac (P:Program) (H:AH) (skip:Nat->Bool):Nat->List (aD×Bool)->(Nat->PV)->(Nat->PV)->Prop
 |_,[],_,_=>True
 |n,(o,d)::l,val,σ=>(d=true\/skip n=true\/(o.g=none/\dQ P o.k (fun r fu=>r=val 0/\fu=H) σ H))/\Ac P H skip (n+1) l (fun i=>val (i+1)) (upd σ o.dst (val 0))
theorem Ac.at {P:Program} {H:AH} {skip:Nat->Bool}: ∀{pr:List (aD×Bool)} {n:Nat} {val σ:Nat->PV} (h:Ac P H skip n pr val σ) (i:Nat) (o:aD),pr[i]? =some (o,false)->skip (n+i)=false->pX o (bV pr val σ i)/\dQ P o.k (fun r fu=>r=val i/\fu=H) (bV pr val σ i) H
 |(o,d)::l,n,val,σ,h,0,o',e,hk=>by
   cases e;rcases h.1 with h1|h1|⟨h1,h2⟩
   · cases h1
   · rw [S4,h1]at hk;cases hk
   · refine⟨?_,h2⟩;unfold pX;rw [h1];trivial
 |(o,d)::l,n,val,σ,h,i+1,o',e,hk=>Ac.at (pr:=l) h.2 i o' e (by rw [G4,d7 1 i];exact hk)
theorem atD {ms:List Nat} {pr:List (aD×Bool)} {K:(Nat->PV)->AH->Prop} (Inv:List Nat->(Nat->PV)->AH->Prop)
 (pure: ∀rem val H,Inv rem val H-> ∃skip,Ac P H skip 0 pr val σ/\ ∀i,skip i=true->(∃s∈rem,dS ms s i=true)\/ ∃s,s∈wZ pr/\s∉rem/\dS ms i s=true)
 (step: ∀rem val H j o,Inv rem val H->j∈rem->pr[j]? =some (o,true)->(∀s∈rem,dS ms s j=false\/s=j)->
  pX o (bV pr val σ j)/\dQ P o.k (fun r H'=> ∃val':Nat->PV,(∀i,i∉rem->(∀s∈rem,dS ms s i=false)->val' i=val i)/\val' j=r/\Inv (rem.filter (·!=j)) val' H') (bV pr val σ j) H)
 (fin: ∀val H,Inv [] val H->K (bV pr val σ pr.length) H): ∀(n:Nat) (rem:List Nat) (val:Nat->PV) (H:AH),rem.length<=n->Inv rem val H->yT P ms pr K σ n rem val H:=by
 have hp: ∀rem val H,Inv rem val H-> ∀(i:Nat) (o:aD),pr[i]? =some (o,false)->(∀s∈rem,dS ms s i=false)->(∀(s:Nat) (o':aD),pr[s]? =some (o',true)->s∉rem->dS ms i s=false)->
  (sU o (bV pr val σ i)/\val i=ud)\/(pX o (bV pr val σ i)/\dQ P o.k (fun r fu=>r=val i/\fu=H) (bV pr val σ i) H):=by
  intro rem val H h i o e h1 h2;obtain⟨skip,k1,k2⟩:=pure rem val H h;refine .inr (k1.at i o e ?_);rw [V1];cases hk:skip i with
  |false=>rfl
  |true=>
   rcases k2 i hk with⟨s,hs,hb⟩|⟨s,hs,hn,hb⟩
   · rw [h1 s hs]at hb;cases hb
   · obtain⟨o',e'⟩:=(JM s).1 hs;rw [h2 s o' e' hn]at hb;cases hb
 intro n
 induction n with
 |zero=>
  intro rem val H hn h;obtain rfl:rem=[]:=u5.1 (by omega);unfold yT;exact⟨hp _ _ _ h,fun _=>fin _ _ h,rfl⟩
 |succ n ih=>
  intro rem val H hn h;unfold yT;refine⟨hp _ _ _ h,fun e=>fin _ _ (e▸h),fun j hj o e hb=> ?_⟩;obtain⟨h1,h2⟩:=step rem val H j o h hj e hb;refine⟨h1,kI (fun r H' ⟨val',g1,g2,g3⟩=>⟨val',g1,g2,ih _ _ _ ?_ g3⟩) h2⟩
  have:(rem.filter (·!=j)).length<rem.length:=by
   rw [tA];exact⟨j,hj,by simp⟩
  omega
theorem Xu {ms:List Nat} {pr:List (aD×Bool)} {post:List aD} (h: ∃val:Nat->PV,yT P ms pr (fun σ H=>WO P post s Q σ H) σ (wZ pr).length (wZ pr) val H):WS P (.sV ms pr post) s Q σ H:=h
end
end Go.VL
end
section
namespace Go.VL
inductive Vt where
 |s|b|p|f|o
 |i (k:IntKind)
 |l (e:Nat)
 |t (z y:Nat) (fs:List (Nat×Nat))
 |a (z y n e:Nat)
def Vt.sz:Vt->Nat
 | .t z _ _| .a z _ _ _=>z
 |_=>1
def Vt.by_:Vt->Nat
 | .t _ y _| .a _ y _ _=>y
 | .s=>16
 | .b=>1
 | .l _=>24
 | .i .u8| .i .i8=>1
 | .i .u16| .i .i16=>2
 | .i .u32| .i .i32=>4
 |_=>8
def Vt.agg:Vt->Bool
 | .t .. | .a .. =>true
 |_=>false
section
variable [Glob] (T:List Vt)
def om (t:Nat):Vt:=(T[t]?).getD .o
def Zh:Nat->Nat->List PV
 |0,_=>[]
 |m+1,t=>match om T t with
  | .s=>[.str []]
  | .b=>[.bool false]
  | .i k=>[.int k 0]
  | .l _=>[.ah [] .nil]
  | .p=>[.nW]
  | .f=>[.lq]
  | .o=>[.nA]
  | .t _ _ fs=>fs.flatMap fun x=>Zh m x.2
  | .a _ _ n e=>(List.replicate n (Zh m e)).flatten
def eqE (t:Nat):EqK:=match om T t with
 | .b=> .b
 | .l _=> .sl
 | .p=> .pt
 | .f=> .fn
 | .t _ _ fs=> .st (fs.map fun x=>(x.1,match om T x.2 with
  | .b=>0
  | .i _=>1
  |_=>2))
 |_=> .no
def cA (x:Operand):AE:=(cop x).getD (.t 0)
def cAs (l:Array Operand):List AE:=l.toList.map cA
def cO (x:Option Operand):Option AE:=x.map cA
def fdE (t f:Nat):Nat×Nat:=match om T t with
 | .t _ _ fs=>(fs[f]?).getD (0,0)
 |_=>(0,0)
def kE (rm:Bool) (o:Op):AK:=match o with
 | .move x| .assign x=> .r (.AO (cA x))
 | .pick c a b=> .r (.pick (cA c) (cA a) (cA b))
 | .alloc t=> .d (.alloc (Zh T 9 t))
 | .box t x=> .d (.box (om T t).sz (cA x))
 | .build t ps=>(match om T t with
  | .a _ _ _ e=> .n (.NY (Zh T 9 t) (ps.toList.map fun x=>(x.1*(om T e).sz,(om T e).sz,cA x.2)))
  |_=> .r (.build (Zh T 9 t) (ps.toList.map fun x=>((fdE T t x.1).1,(om T (fdE T t x.1).2).sz,cA x.2))))
 | .buildSlice t _ ps=>(match om T t with
  | .l e=>(if(rm&&(om T e).sz==7&& !ps.toList.isEmpty)=true then .n (.NZ (om T e).sz (ps.toList.map fun x=>cA x.2))else .r (.CO (om T e).sz (ps.toList.map fun x=>cA x.2)))
  |_=> .bad)
 | .load t x=> .r (.load (om T t).sz (om T t).agg (cA x))
 | .store t x v=> .d (.store (om T t).sz (cA x) (cA v))
 | .nilCheck x=> .r (.U2 (cA x))
 | .binOp op t x y _=> .r (.bin op (eqE T t) (cA x) (cA y))
 | .unOp op _ x=>(match op with
  | .not=> .r (.not (cA x))
  | .neg=> .r (.neg (cA x))
  |_=> .r (.cpl (cA x)))
 | .convert s d x=>(match om T s,om T d with
  | .i _,.i k=> .r (.conv k (cA x))
  | .s,.s=> .r (.same (cA x))
  |_,_=> .n (.Y4 (cA x)))
 | .makeInterface t x=> .r (.NW t (cA x))
 | .makeFunc f a b=> .r (.Xi f (cAs a) (cAs b))
 | .makeSlice t n c=>(match om T t with
  | .l e=> .d (.yP (om T e).sz (om T e).by_ (Zh T 9 e) (cA n) (cA c))
  |_=> .bad)
 | .slice t x lo hi mx=>(match om T t with
  | .l e=> .r (.slc (om T e).sz (cA x) (cO lo) (cO hi) (cO mx))
  |_=> .r (.Rh (cA x) (cO lo) (cO hi)))
 | .fieldAddr t x f=> .r (.Qz (fdE T t f).1 (cA x))
 | .field t x f=> .r (.abp (fdE T t f).1 (om T (fdE T t f).2).sz (om T (fdE T t f).2).agg (cA x))
 | .indexAddr t x i=>(match om T t with
  | .l e=> .r (.idx (om T e).sz (cA x) (cA i))
  | .a _ _ n e=> .r (.Gf n (om T e).sz (cA x) (cA i))
  |_=> .bad)
 | .index _ x i=> .r (.L8 (cA x) (cA i))
 | .extract x i=> .r (.ext (cA x) i)
 | .call c=>(match c.callee with
  | .value f=> .call (cA f) (cAs c.args)
  | .builtin b=>(match b,c.argTypes.toList.map (om T),cAs c.args with
   | .len,[.s],[a]=> .r (.Kv a)
   | .len,_,[a]=> .r (.len a)
   | .cap,_,[a]=> .r (.cap a)
   | .append,[.l e,.i _],[a,b]=> .n (.Ri (om T e).sz (om T e).by_ (Zh T 9 e) a b)
   | .append,[.l e,_],[a,b]=>if rm=true then .n (.app (om T e).sz (om T e).by_ a b)else .d (.app (om T e).sz (om T e).by_ a b)
   | .max,_,[a,b]=> .r (.mmx true a b)
   | .min,_,[a,b]=> .r (.mmx false a b)
   | .copy,[.l e,_],[a,b]=> .n (.copy (om T e).sz a b)
   | .clear,[.l e],[a]=> .n (.clr (om T e).sz (Zh T 9 e) a)
   |_,_,_=> .bad)
  |_=> .bad)
 |_=> .bad
def osE (rm:Bool) (ops:Array Oper):List aD:=ops.toList.map fun o=>⟨o.dst,kE T rm o.op,o.guard.bind fun g=>((ops[g.1]?).bind (·.dst)).map fun s=>(s,g.2)⟩
def Ci (rm:Bool) (dc:Nat->Bool):Code->List (Nat×List Nat)->AC×List (Nat×List Nat)
 | .region _ ops draw,h=>if draw=true then(match h with
  |[]=>(.skip,[])
  |(n,ms)::h=>(match ms with
    |[]=> .par (((osE T rm ops).take n).map fun o=>(o,Mh dc o.k)) ((osE T rm ops).drop n)
    |_::_=> .sV ms (((osE T rm ops).take n).map fun o=>(o,Mh dc o.k)) ((osE T rm ops).drop n),h))else(.ops (osE T rm ops),h)
 | .seq a b,h=>(.seq (Ci rm dc a h).1 (Ci rm dc b (Ci rm dc a h).2).1,(Ci rm dc b (Ci rm dc a h).2).2)
 | .cond c a b,h=>(.cond (cA c) (Ci rm dc a h).1 (Ci rm dc b (Ci rm dc a h).2).1,(Ci rm dc b (Ci rm dc a h).2).2)
 | .block i a,h=>(.block i (Ci rm dc a h).1,(Ci rm dc a h).2)
 | .loop a,h=>(.loop (Ci rm dc a h).1,(Ci rm dc a h).2)
 | .exit i,h=>(.exit i,h)
 | .ret,h=>(.ret,h)
 | .rangeFunc f ps a b,h=>(.rf (cA f) ((ps.toList[0]?).getD 0) ((ps.toList[1]?).getD 0) (Ci rm dc a h).1 (Ci rm dc b (Ci rm dc a h).2).1,(Ci rm dc b (Ci rm dc a h).2).2)
 |_,h=>(.skip,h)
def coF (rm:Bool) (dc:Nat->Bool) (fn:Func) (h:List (Nat×List Nat)):AC:=match fn.body with
 |some c=>(Ci T rm dc c h).1
 |none=> .skip
end
abbrev LA {α:Type} (b:α):Type:={a:α//b=a}
abbrev LH {α β:Type} (g:α->β):Type:={f:α->β// ∀t,g t=f t}
def dK {α β:Type} {g:α->β} (x:LH g) (t:α):β:=x.1 t
theorem awf {α β:Type} {g f:α->β} {h: ∀t,g t=f t} {t:α}:dK (g:=g) ⟨f,h⟩ t=f t:=rfl
attribute [go_sem] awf
def bS:AC->Nat->AC
 | .seq a b,n=>if n=0 then .seq a b else if n% 10=1 then bS a (n/10)else bS b (n/10)
 | .cond c a b,n=>if n=0 then .cond c a b else if n% 10=1 then bS a (n/10)else bS b (n/10)
 | .rf f u v a b,n=>if n=0 then .rf f u v a b else if n% 10=1 then bS a (n/10)else bS b (n/10)
 | .block i a,n=>if n=0 then .block i a else bS a (n/10)
 | .loop a,n=>if n=0 then .loop a else bS a (n/10)
 |c,_=>c
def bg (x:AC):Nat->AC->AC
 |n,.seq a b=>if n=0 then x else if n% 10=1 then .seq (bg x (n/10) a) b else .seq a (bg x (n/10) b)
 |n,.cond c a b=>if n=0 then x else if n% 10=1 then .cond c (bg x (n/10) a) b else .cond c a (bg x (n/10) b)
 |n,.rf f u v a b=>if n=0 then x else if n% 10=1 then .rf f u v (bg x (n/10) a) b else .rf f u v a (bg x (n/10) b)
 |n,.block i a=>if n=0 then x else .block i (bg x (n/10) a)
 |n,.loop a=>if n=0 then x else .loop (bg x (n/10) a)
 |_,_=>x
def aFk (x:List aD->List aD):List aD->List aD
 |[]=>x []
 |a::l=>x (a::l)
def awg:List (Nat×Nat×(List aD->List aD))->Nat->List aD->List aD
 |[],_,l=>l
 |(i,n,x)::r,k,l=>l.take (i -k)++aFk x (awg r (i+n) (l.drop (i -k+n)))
def rR (p i n:Nat) (c:AC):List aD:=match bS c p with
 | .ops l=>(l.drop i).take n
 |_=>[]
def lJ (r:List (Nat×Nat×(List aD->List aD))) (p:Nat) (c:AC):AC:=match bS c p with
 | .ops l=>bg (.ops (awg r 0 l)) p c
 |_=>c
end Go.VL
end
section
set_option maxRecDepth 100000
namespace Go.VL
open Go.Proofs
def dc (n:Nat):Bool:=([284,263,230]:List Nat).contains n
def tyT:List Vt:=[.o,.f,(.i .i64),(.i .i64),.b,(.i .u8),(.i .u8),(.t 4 24 [(0,2),(1,3),(2,4),(3,6)]),(.t 4 24 [(0,2),(1,3),(2,4),(3,6)]),.s,.s,.s,(.i .u64),(.t 2 24 [(0,9),(1,12)]),(.t 2 24 [(0,9),(1,12)]),.p,.p,.p,(.t 1 8 [(0,17)]),(.t 1 8 [(0,17)]),.o,(.i .i32),(.l 24),(.l 89),(.l 89),(.t 2 48 [(0,22),(1,24)]),(.t 2 48 [(0,22),(1,24)]),.f,.f,(.i .i64),.o,.f,.f,.o,.f,.f,.o,.f,.f,.f,.o,.f,.f,.f,(.l 3),.o,.f,.f,.f,.f,.f,(.a 4 32 4 3),(.t 5 56 [(0,44),(1,51)]),(.t 5 56 [(0,44),(1,51)]),.f,.f,.f,(.l 65),.f,.f,.f,.f,.f,.f,(.t 7 144 [(0,26),(2,3),(3,44),(4,9),(5,24),(6,44)]),(.t 7 144 [(0,26),(2,3),(3,44),(4,9),(5,24),(6,44)]),.f,.f,(.l 9),(.l 44),(.t 6 128 [(0,3),(1,68),(2,44),(3,44),(4,68),(5,69)]),(.t 6 128 [(0,3),(1,68),(2,44),(3,44),(4,68),(5,69)]),.f,.f,.f,.f,.f,.f,.f,.f,.f,.f,.f,.f,.f,.f,.f,.f,(.t 5 80 [(0,3),(1,3),(2,9),(3,68),(4,44)]),(.t 5 80 [(0,3),(1,3),(2,9),(3,68),(4,44)]),.f,.o,.f,.f,.f,.f,.f,.f,.f,.f,.f,.f,.f,.f,(.t 2 48 [(0,68),(1,22)]),(.t 2 48 [(0,68),(1,22)]),.f,.f,.f,(.t 4 64 [(0,22),(1,44),(2,3),(3,4)]),(.t 4 64 [(0,22),(1,44),(2,3),(3,4)]),.o,.f,.f,.f,.f,.f,.f,.f,.f,(.l 26),(.t 8 168 [(0,65),(7,120)]),(.t 8 168 [(0,65),(7,120)]),.f,.f,.f,.f,.f,.f,(.t 7 152 [(0,71),(6,24)]),(.t 7 152 [(0,71),(6,24)]),.f,.f,(.t 7 64 [(0,9),(1,3),(2,3),(3,3),(4,4),(5,3),(6,3)]),(.t 7 64 [(0,9),(1,3),(2,3),(3,3),(4,4),(5,3),(6,3)]),.o,.f,.f,.f,.f,.f,.f,.f,.f,.f,.f,.f,.f,.o,.f,(.l 29),.f,.f,(.l 5),.o,.f,.f,.f,.f,.p,.o,.f,.p,(.t 3 40 [(0,162),(1,44),(2,3)]),(.t 3 40 [(0,162),(1,44),(2,3)]),.f,.f,(.t 4 64 [(0,22),(1,44),(2,3),(3,4)]),(.t 4 64 [(0,22),(1,44),(2,3),(3,4)]),(.t 5 72 [(0,168),(4,4)]),(.t 5 72 [(0,168),(4,4)]),.o,.f,.f,.f,.f,.f,.f,.f,.f,.f,.f,.p,(.t 8 168 [(0,57),(1,65)]),(.t 8 168 [(0,57),(1,65)]),.o,.f,.f,.f,.p,.f,.f,.f,(.l 134),.f,.f,.f,.f,.o,.f,.f,.f,.f,.f,.f,.f,.f,.o,.f,.f,.f,(.t 2 32 [(0,68),(1,3)]),(.t 2 32 [(0,68),(1,3)]),.f,.f,.f,.f,.f,.f,.f,.f,.p,(.t 2 32 [(0,68),(1,3)]),(.t 2 32 [(0,68),(1,3)]),.f,(.t 3 32 [(0,9),(1,3),(2,189)]),(.t 3 32 [(0,9),(1,3),(2,189)]),(.a 2 16 2 3),(.t 6 40 [(0,227),(2,227),(4,4),(5,4)]),(.t 6 40 [(0,227),(2,227),(4,4),(5,4)]),.f,.f,.f,.f,.f,.f,.f,.f,.f,.f,.f,.f,.f,.f,.f,.f,.f,.p,(.t 3 56 [(0,24),(1,68),(2,3)]),(.t 3 56 [(0,24),(1,68),(2,3)]),.f,.f,.f,.f,.f,.f,.f,.f,(.i .u64),.o,.f,.f,.p,.f,.f,.o,.o,(.t 1 8 [(0,266)]),(.t 1 8 [(0,266)]),(.t 5 72 [(0,265),(1,268),(2,24),(3,44),(4,4)]),(.t 5 72 [(0,265),(1,268),(2,24),(3,44),(4,4)]),.f,.f,.f,.f,(.l 281),.p,.f,.f,.f,(.t 2 32 [(0,9),(1,9)]),(.t 2 32 [(0,9),(1,9)]),.f,.f,.f,.f,.f,.f,.o,.f,(.i .u32),.o,.f,(.i .u64),.o,.f,.f,.o,.f,.o,(.a 256 256 256 5),.f,.f,(.i .i64),.o,.f,.f,.f,.o,.f,.f,.f,.f,(.l 193),.f,.f,.p,(.l 319),(.t 2 16 [(0,3),(1,3)]),(.t 2 16 [(0,3),(1,3)]),.f,.p,(.i .u64),.f,.f,.f,.p,.f,.f,(.l 335),(.l 338),(.t 3 56 [(0,329),(1,330),(2,3)]),(.t 3 56 [(0,329),(1,330),(2,3)]),(.i .u16),(.t 3 6 [(0,333),(1,333),(2,333)]),(.t 3 6 [(0,333),(1,333),(2,333)]),.f,(.t 3 12 [(0,290),(1,290),(2,290)]),(.t 3 12 [(0,290),(1,290),(2,290)]),.f,.p,.f,.f,.f,.p,.p,(.a 24 24 24 5),.f,.o,.f,.f,(.a 20 160 20 293),(.a 65 65 65 5),(.a 32 32 32 5),(.a 64 64 64 5),(.t 4 40 [(0,17),(1,17),(2,17),(3,9)]),(.t 4 40 [(0,17),(1,17),(2,17),(3,9)]),(.a 0 0 0 16),(.t 0 0 [(0,357)]),(.t 0 0 [(0,357)]),.f,(.i .u8),(.i .u8),.f,.p,(.i .i32),(.i .i32),(.t 11 48 [(0,12),(1,12),(2,290),(3,361),(4,5),(5,5),(6,362),(7,363),(8,364),(9,365),(10,366)]),(.t 11 48 [(0,12),(1,12),(2,290),(3,361),(4,5),(5,5),(6,362),(7,363),(8,364),(9,365),(10,366)]),.o]
abbrev CF (f:Func) (h:List (Nat×List Nat)):Type:=LA (coF tyT false dc f h)
abbrev CR (f:Func) (h:List (Nat×List Nat)):Type:=LA (coF tyT true dc f h)
noncomputable section
def r6:AC:=(⟨_,by cbv⟩:CF Tryz.f6 [(6,[]),(5,[])]).1
def ab5:List aD:=(⟨_,by cbv⟩:LA (rR 112222 4 4 r6)).1
def ab6:List aD:=(⟨_,by cbv⟩:LA (rR 1112112122222 7 23 r6)).1
def ab7:AC:=dK (⟨_,by intro t;cbv⟩:LH fun t:(List aD->List aD)=>lJ [(7,23,t)] 1112 (bS r6 112122222)) (ab6++ ·)
def ab8:AC:=(⟨_,by cbv⟩:LA (bS r6 1121222222)).1
def ab9:AC:=(⟨_,by cbv⟩:LA (bS r6 122222222)).1
def acd:AC:=(⟨_,by cbv⟩:LA (bS r6 1121222222222)).1
def ac6:AC:=dK (⟨_,by intro t;cbv⟩:LH fun t:(List aD->List aD)×AC×AC×AC×AC=>bg t.2.2.2.2 1121222222222 (bg t.2.2.2.1 122222222 (bg t.2.2.1 1121222222 (bg t.2.1 112122222 (lJ [(4,4,t.1)] 112222 r6))))) ((ab5++ ·),ab7,ab8,ab9,acd)
theorem ok6:aM Tryz.prog dc false 6 111 [(.tmp 6)] ac6:=aQ Tryz.func6
def r18:AC:=(⟨_,by cbv⟩:CF Tryz.f18 [(7,[])]).1
def Xv:AC:=(⟨_,by cbv⟩:LA (bS r18 112122)).1
def awh:AC:=dK (⟨_,by intro t;cbv⟩:LH fun t:AC=>bg t 112122 r18) Xv
theorem awi:aM Tryz.prog dc false 18 29 [(.tmp 2)] awh:=aQ Tryz.func18
def awj:AC:=(⟨_,by cbv⟩:CF Tryz.f19 []).1
theorem ah2:aM Tryz.prog dc false 19 11 [(.tmp 2)] awj:=aQ Tryz.func19
def r21:AC:=(⟨_,by cbv⟩:CF Tryz.f21 [(8,[])]).1
def Xw:AC:=(⟨_,by cbv⟩:LA (bS r21 112122)).1
def awk:AC:=dK (⟨_,by intro t;cbv⟩:LH fun t:AC=>bg t 112122 r21) Xw
theorem awl:aM Tryz.prog dc false 21 27 [(.tmp 4)] awk:=aQ Tryz.func21
def r22:AC:=(⟨_,by cbv⟩:CF Tryz.f22 []).1
def Xx:AC:=(⟨_,by cbv⟩:LA (bS r22 112122)).1
def awm:AC:=dK (⟨_,by intro t;cbv⟩:LH fun t:AC=>bg t 112122 r22) Xx
theorem awn:aM Tryz.prog dc false 22 61 [(.tmp 6),(.tmp 7)] awm:=aQ Tryz.func22
def r23:AC:=(⟨_,by cbv⟩:CF Tryz.f23 []).1
def Xy:AC:=(⟨_,by cbv⟩:LA (bS r23 112122)).1
def awo:AC:=dK (⟨_,by intro t;cbv⟩:LH fun t:AC=>bg t 112122 r23) Xy
theorem aFl:aM Tryz.prog dc false 23 20 [(.tmp 2)] awo:=aQ Tryz.func23
def awp:AC:=(⟨_,by cbv⟩:CF Tryz.f24 []).1
theorem anv:aM Tryz.prog dc false 24 6 [(.tmp 2)] awp:=aQ Tryz.func24
def r27:AC:=(⟨_,by cbv⟩:CF Tryz.f27 []).1
def Xz:List aD:=(⟨_,by cbv⟩:LA (rR 1111212 5 3 r27)).1
def XA:List aD:=(⟨_,by cbv⟩:LA (rR 1111211212 8 17 r27)).1
def XB:AC:=(⟨_,by cbv⟩:LA (bS r27 112211211212)).1
def XC:AC:=dK (⟨_,by intro t;cbv⟩:LH fun t:(List aD->List aD)×(List aD->List aD)×AC=>bg t.2.2 1122112 (lJ [(8,17,t.2.1)] 11112 (lJ [(5,3,t.1)] 11 (bS r27 11212)))) ((Xz++ ·),(XA++ ·),XB)
def awq:AC:=dK (⟨_,by intro t;cbv⟩:LH fun t:AC=>bg t 11212 r27) XC
theorem anw:aM Tryz.prog dc false 27 63 [(.tmp 2)] awq:=aQ Tryz.func27
def r28:AC:=(⟨_,by cbv⟩:CF Tryz.f28 []).1
def XD:List aD:=(⟨_,by cbv⟩:LA (rR 121121121222 4 5 r28)).1
def XE:List aD:=(⟨_,by cbv⟩:LA (rR 1221121121222 4 25 r28)).1
def XF:AC:=dK (⟨_,by intro t;cbv⟩:LH fun t:(List aD->List aD)×(List aD->List aD)=>lJ [(4,25,t.2)] 122112 (lJ [(4,5,t.1)] 12112 (bS r28 1121222))) ((XD++ ·),(XE++ ·))
def XG:AC:=(⟨_,by cbv⟩:LA (bS r28 112122222)).1
def awr:AC:=dK (⟨_,by intro t;cbv⟩:LH fun t:AC×AC=>bg t.2 112122222 (bg t.1 1121222 r28)) (XF,XG)
theorem aFm:aM Tryz.prog dc false 28 87 [(.tmp 2)] awr:=aQ Tryz.func28
def awt:AC:=(⟨_,by cbv⟩:CF Tryz.f29 []).1
theorem aFo:aM Tryz.prog dc false 29 15 [(.tmp 6)] awt:=aQ Tryz.func29
def awu:AC:=(⟨_,by cbv⟩:CF Tryz.f30 [(7,[])]).1
theorem awv:aM Tryz.prog dc false 30 43 [(.tmp 4)] awu:=aQ Tryz.func30
def aww:AC:=(⟨_,by cbv⟩:CF Tryz.f50 []).1
theorem aFp:aM Tryz.prog dc false 50 11 [(.tmp 2)] aww:=aQ Tryz.func50
def awx:AC:=(⟨_,by cbv⟩:CF Tryz.f56 []).1
theorem aFq:aM Tryz.prog dc false 56 9 [(.cell 2 5 true)] awx:=aQ Tryz.func56
def r58:AC:=(⟨_,by cbv⟩:CF Tryz.f58 []).1
def XH:AC:=(⟨_,by cbv⟩:LA (bS r58 11212)).1
def awy:AC:=dK (⟨_,by intro t;cbv⟩:LH fun t:AC=>bg t 11212 r58) XH
theorem aFr:aM Tryz.prog dc false 58 15 [(.tmp 2)] awy:=aQ Tryz.func58
def awz:AC:=(⟨_,by cbv⟩:CF Tryz.f59 []).1
theorem aFs:aM Tryz.prog dc false 59 7 [(.tmp 4)] awz:=aQ Tryz.func59
def XI:AC:=(⟨_,by cbv⟩:CF Tryz.f62 []).1
theorem ace:aM Tryz.prog dc false 62 6 [(.tmp 2)] XI:=aQ Tryz.func62
def r63:AC:=(⟨_,by cbv⟩:CF Tryz.f63 []).1
def XJ:AC:=(⟨_,by cbv⟩:LA (bS r63 1121222)).1
def XK:List aD:=(⟨_,by cbv⟩:LA (rR 1211211212222 3 15 r63)).1
def XL:List aD:=(⟨_,by cbv⟩:LA (rR 112211211212222 7 3 r63)).1
def XM:List aD:=(⟨_,by cbv⟩:LA (rR 112111222211211212222 2 11 r63)).1
def XO:AC:=dK (⟨_,by intro t;cbv⟩:LH fun t:(List aD->List aD)=>lJ [(2,11,t)] 112 (bS r63 111222211211212222)) (XM++ ·)
def XP:AC:=dK (⟨_,by intro t;cbv⟩:LH fun t:(List aD->List aD)×(List aD->List aD)×AC=>bg t.2.2 1112222112 (lJ [(7,3,t.2.1)] 1122112 (lJ [(3,15,t.1)] 12112 (bS r63 11212222)))) ((XK++ ·),(XL++ ·),XO)
def awC:AC:=dK (⟨_,by intro t;cbv⟩:LH fun t:AC×AC=>bg t.2 11212222 (bg t.1 1121222 r63)) (XJ,XP)
theorem aFt:aM Tryz.prog dc false 63 112 [(.tmp 2),(.tmp 3)] awC:=aQ Tryz.func63
def awD:AC:=(⟨_,by cbv⟩:CF Tryz.f64 []).1
theorem aFu:aM Tryz.prog dc false 64 17 [(.tmp 4)] awD:=aQ Tryz.func64
def awE:AC:=(⟨_,by cbv⟩:CF Tryz.f68 []).1
theorem anx:aM Tryz.prog dc false 68 5 [(.tmp 2)] awE:=aQ Tryz.func68
def awF:AC:=(⟨_,by cbv⟩:CF Tryz.f69 []).1
theorem aFv:aM Tryz.prog dc false 69 5 [(.tmp 2)] awF:=aQ Tryz.func69
def awG:AC:=(⟨_,by cbv⟩:CF Tryz.f72 []).1
theorem aFw:aM Tryz.prog dc false 72 9 [(.cell 2 5 true)] awG:=aQ Tryz.func72
def awH:AC:=(⟨_,by cbv⟩:CF Tryz.f73 []).1
theorem aFx:aM Tryz.prog dc false 73 13 [(.tmp 4)] awH:=aQ Tryz.func73
def awI:AC:=(⟨_,by cbv⟩:CF Tryz.f75 []).1
theorem aFy:aM Tryz.prog dc false 75 38 [(.tmp 4)] awI:=aQ Tryz.func75
def anz:AC:=(⟨_,by cbv⟩:CF Tryz.f76 []).1
theorem awJ:aM Tryz.prog dc false 76 9 [(.tmp 4)] anz:=aQ Tryz.func76
def awK:AC:=(⟨_,by cbv⟩:CF Tryz.f77 []).1
theorem aFz:aM Tryz.prog dc false 77 6 [(.tmp 2)] awK:=aQ Tryz.func77
def awL:AC:=(⟨_,by cbv⟩:CF Tryz.f78 []).1
theorem aFA:aM Tryz.prog dc false 78 15 [(.tmp 6)] awL:=aQ Tryz.func78
def r79:AC:=(⟨_,by cbv⟩:CF Tryz.f79 [(7,[]),(5,[])]).1
def XQ:List aD:=(⟨_,by cbv⟩:LA (rR 112211221121222 3 19 r79)).1
def XR:AC:=dK (⟨_,by intro t;cbv⟩:LH fun t:(List aD->List aD)=>lJ [(3,19,t)] 11221122 (bS r79 1121222)) (XQ++ ·)
def awN:AC:=dK (⟨_,by intro t;cbv⟩:LH fun t:AC=>bg t 1121222 r79) XR
theorem aFB:aM Tryz.prog dc false 79 100 [(.tmp 6)] awN:=aQ Tryz.func79
def r80:AC:=(⟨_,by cbv⟩:CF Tryz.f80 []).1
def XT:List aD:=(⟨_,by cbv⟩:LA (rR 1122 4 5 r80)).1
def awO:AC:=dK (⟨_,by intro t;cbv⟩:LH fun t:(List aD->List aD)=>lJ [(4,5,t)] 1122 r80) (XT++ ·)
theorem anA:aM Tryz.prog dc false 80 58 [(.cell 2 4 true),(.tmp 3),(.tmp 4)] awO:=aQ Tryz.func80
def r83:AC:=(⟨_,by cbv⟩:CF Tryz.f83 []).1
def XU:AC:=(⟨_,by cbv⟩:LA (bS r83 11212)).1
def awP:AC:=dK (⟨_,by intro t;cbv⟩:LH fun t:AC=>bg t 11212 r83) XU
theorem awQ:aM Tryz.prog dc false 83 20 [(.tmp 2)] awP:=aQ Tryz.func83
def awR:AC:=(⟨_,by cbv⟩:CF Tryz.f84 []).1
theorem aFC:aM Tryz.prog dc false 84 14 [(.tmp 2)] awR:=aQ Tryz.func84
def r85:AC:=(⟨_,by cbv⟩:CF Tryz.f85 []).1
def XV:AC:=(⟨_,by cbv⟩:LA (bS r85 11212)).1
def awS:AC:=dK (⟨_,by intro t;cbv⟩:LH fun t:AC=>bg t 11212 r85) XV
theorem aFD:aM Tryz.prog dc false 85 18 [(.tmp 4)] awS:=aQ Tryz.func85
def awT:AC:=(⟨_,by cbv⟩:CF Tryz.f86 []).1
theorem aFE:aM Tryz.prog dc false 86 6 [(.tmp 2)] awT:=aQ Tryz.func86
def awU:AC:=(⟨_,by cbv⟩:CF Tryz.f87 []).1
theorem aFF:aM Tryz.prog dc false 87 4 [(.tmp 2)] awU:=aQ Tryz.func87
def awV:AC:=(⟨_,by cbv⟩:CF Tryz.f88 [(3,[]),(7,[])]).1
theorem aFG:aM Tryz.prog dc false 88 57 [(.tmp 4)] awV:=aQ Tryz.func88
def awW:AC:=(⟨_,by cbv⟩:CF Tryz.f89 []).1
theorem aFH:aM Tryz.prog dc false 89 5 [(.tmp 2)] awW:=aQ Tryz.func89
def awX:AC:=(⟨_,by cbv⟩:CF Tryz.f90 []).1
theorem aFI:aM Tryz.prog dc false 90 5 [(.tmp 2)] awX:=aQ Tryz.func90
def awY:AC:=(⟨_,by cbv⟩:CF Tryz.f95 []).1
theorem aFJ:aM Tryz.prog dc false 95 14 [(.tmp 4)] awY:=aQ Tryz.func95
def awZ:AC:=(⟨_,by cbv⟩:CF Tryz.f98 []).1
theorem aFK:aM Tryz.prog dc false 98 17 [(.tmp 4)] awZ:=aQ Tryz.func98
def apJ:AC:=(⟨_,by cbv⟩:CF Tryz.f100 []).1
theorem aAZ:aM Tryz.prog dc false 100 9 [(.tmp 4)] apJ:=aQ Tryz.func100
def aw0:AC:=(⟨_,by cbv⟩:CF Tryz.f102 []).1
def IJ:AC:=(⟨_,by cbv⟩:LA (bS aw0 11212)).1
def ah3:AC:=dK (⟨_,by intro t;cbv⟩:LH fun t:AC=>bg t 11212 aw0) IJ
theorem ah4:aM Tryz.prog dc false 102 19 [(.tmp 4)] ah3:=aQ Tryz.func102
def apK:AC:=(⟨_,by cbv⟩:CF Tryz.f111 []).1
theorem aA0:aM Tryz.prog dc false 111 17 [(.tmp 2)] apK:=aQ Tryz.func111
def aw1:AC:=(⟨_,by cbv⟩:CF Tryz.f112 []).1
def RD:AC:=(⟨_,by cbv⟩:LA (bS aw1 112122)).1
def apL:AC:=dK (⟨_,by intro t;cbv⟩:LH fun t:AC=>bg t 112122 aw1) RD
theorem aA1:aM Tryz.prog dc false 112 25 [(.cell 2 7 true),(.tmp 3)] apL:=aQ Tryz.func112
def aw2:AC:=(⟨_,by cbv⟩:CF Tryz.f113 []).1
def RF:AC:=(⟨_,by cbv⟩:LA (bS aw2 111222)).1
def apM:AC:=dK (⟨_,by intro t;cbv⟩:LH fun t:AC=>bg t 111222 aw2) RF
theorem aA2:aM Tryz.prog dc false 113 32 [(.tmp 4)] apM:=aQ Tryz.func113
def aw3:AC:=(⟨_,by cbv⟩:CF Tryz.f114 []).1
def RG:AC:=(⟨_,by cbv⟩:LA (bS aw3 11212)).1
def apN:AC:=dK (⟨_,by intro t;cbv⟩:LH fun t:AC=>bg t 11212 aw3) RG
theorem aA3:aM Tryz.prog dc false 114 19 [(.tmp 4)] apN:=aQ Tryz.func114
def ah5:AC:=(⟨_,by cbv⟩:CF Tryz.f118 []).1
def RH:AC:=(⟨_,by cbv⟩:LA (bS ah5 11212221121121211211212222)).1
def RI:AC:=dK (⟨_,by intro t;cbv⟩:LH fun t:AC=>bg t 1121222112 (bS ah5 1121211211212222)) RH
def RJ:AC:=dK (⟨_,by intro t;cbv⟩:LH fun t:AC=>bg t 11212112 (bS ah5 11212222)) RI
def apO:AC:=dK (⟨_,by intro t;cbv⟩:LH fun t:AC=>bg t 11212222 ah5) RJ
theorem aA4:aM Tryz.prog dc false 118 82 [(.tmp 4)] apO:=aQ Tryz.func118
def XW:AC:=(⟨_,by cbv⟩:CR Tryz.f119 []).1
def RL:AC:=(⟨_,by cbv⟩:LA (bS XW 1121222)).1
def RN:AC:=(⟨_,by cbv⟩:LA (bS XW 1121222222)).1
def apP:AC:=dK (⟨_,by intro t;cbv⟩:LH fun t:AC×AC=>bg t.2 1121222222 (bg t.1 1121222 XW)) (RL,RN)
theorem aA5:aM Tryz.prog dc true 119 75 [(.tmp 2),(.tmp 3)] apP:=aQ Tryz.func119
def ah6:AC:=(⟨_,by cbv⟩:CF Tryz.f122 []).1
def RO:AC:=(⟨_,by cbv⟩:LA (bS ah6 11122)).1
def RP:AC:=(⟨_,by cbv⟩:LA (bS ah6 112122112211212222)).1
def RQ:AC:=dK (⟨_,by intro t;cbv⟩:LH fun t:AC=>bg t 1121221122 (bS ah6 11212222)) RP
def apQ:AC:=dK (⟨_,by intro t;cbv⟩:LH fun t:AC×AC=>bg t.2 11212222 (bg t.1 11122 ah6)) (RO,RQ)
theorem aA6:aM Tryz.prog dc false 122 63 [(.tmp 4)] apQ:=aQ Tryz.func122
def IK:AC:=(⟨_,by cbv⟩:CF Tryz.f133 [(5,[]),(9,[]),(9,[])]).1
def RS:List aD:=(⟨_,by cbv⟩:LA (rR 1212222 2 4 IK)).1
def RU:AC:=dK (⟨_,by intro t;cbv⟩:LH fun t:(List aD->List aD)=>lJ [(2,4,t)] 12 (bS IK 12222)) (RS++ ·)
def RX:List aD:=(⟨_,by cbv⟩:LA (rR 11222222 10 8 IK)).1
def RY:List aD:=(⟨_,by cbv⟩:LA (rR 12222222 4 14 IK)).1
def RZ:List aD:=(⟨_,by cbv⟩:LA (rR 1122222222 5 45 IK)).1
def R3:List aD:=(⟨_,by cbv⟩:LA (rR 11222222222 4 5 IK)).1
def R4:AC:=(⟨_,by cbv⟩:LA (bS IK 11212222222222)).1
def R5:List aD:=(⟨_,by cbv⟩:LA (rR 11122222121222222222222 3 5 IK)).1
def R6:AC:=dK (⟨_,by intro t;cbv⟩:LH fun t:(List aD->List aD)=>lJ [(3,5,t)] 1112222212 (bS IK 1222222222222)) (R5++ ·)
def R7:AC:=(⟨_,by cbv⟩:LA (bS IK 11212222222222222)).1
def apR:AC:=dK (⟨_,by intro t;cbv⟩:LH fun t:AC×(List aD->List aD)×(List aD->List aD)×(List aD->List aD)×(List aD->List aD)×AC×AC×AC=>bg t.2.2.2.2.2.2.2 11212222222222222 (bg t.2.2.2.2.2.2.1 1222222222222 (bg t.2.2.2.2.2.1 11212222222222 (lJ [(4,5,t.2.2.2.2.1)] 11222222222 (lJ [(5,45,t.2.2.2.1)] 1122222222 (lJ [(4,14,t.2.2.1)] 12222222 (lJ [(10,8,t.2.1)] 11222222 (bg t.1 12222 IK)))))))) (RU,(RX++ ·),(RY++ ·),(RZ++ ·),(R3++ ·),R4,R6,R7)
theorem aA7:aM Tryz.prog dc false 133 231 [(.tmp 4)] apR:=aQ Tryz.func133
def anB:AC:=(⟨_,by cbv⟩:CF Tryz.f134 []).1
def R8:AC:=(⟨_,by cbv⟩:LA (bS anB 11211211212)).1
def R9:AC:=dK (⟨_,by intro t;cbv⟩:LH fun t:AC=>bg t 112112 (bS anB 11212)) R8
def apS:AC:=dK (⟨_,by intro t;cbv⟩:LH fun t:AC=>bg t 11212 anB) R9
theorem aA8:aM Tryz.prog dc false 134 38 [(.tmp 4),(.tmp 5)] apS:=aQ Tryz.func134
def aw4:AC:=(⟨_,by cbv⟩:CF Tryz.f135 []).1
def Sb:AC:=(⟨_,by cbv⟩:LA (bS aw4 11212)).1
def apT:AC:=dK (⟨_,by intro t;cbv⟩:LH fun t:AC=>bg t 11212 aw4) Sb
theorem aA9:aM Tryz.prog dc false 135 27 [(.tmp 2)] apT:=aQ Tryz.func135
def aw5:AC:=(⟨_,by cbv⟩:CF Tryz.f136 []).1
def Sd:AC:=(⟨_,by cbv⟩:LA (bS aw5 11122)).1
def apU:AC:=dK (⟨_,by intro t;cbv⟩:LH fun t:AC=>bg t 11122 aw5) Sd
theorem aBa:aM Tryz.prog dc false 136 29 [(.tmp 4)] apU:=aQ Tryz.func136
def apV:AC:=(⟨_,by cbv⟩:CF Tryz.f137 []).1
theorem aBb:aM Tryz.prog dc false 137 26 [(.tmp 2)] apV:=aQ Tryz.func137
def anC:AC:=(⟨_,by cbv⟩:CF Tryz.f139 [(13,[])]).1
def Sg:AC:=(⟨_,by cbv⟩:LA (bS anC 1121221121121222)).1
def Si:AC:=dK (⟨_,by intro t;cbv⟩:LH fun t:AC=>bg t 112122112 (bS anC 1121222)) Sg
def apW:AC:=dK (⟨_,by intro t;cbv⟩:LH fun t:AC=>bg t 1121222 anC) Si
theorem aBd:aM Tryz.prog dc false 139 58 [(.tmp 4)] apW:=aQ Tryz.func139
def aw6:AC:=(⟨_,by cbv⟩:CF Tryz.f141 [(8,[])]).1
def Sj:AC:=(⟨_,by cbv⟩:LA (bS aw6 112122)).1
def apX:AC:=dK (⟨_,by intro t;cbv⟩:LH fun t:AC=>bg t 112122 aw6) Sj
theorem aBe:aM Tryz.prog dc false 141 26 [(.tmp 4)] apX:=aQ Tryz.func141
def aw7:AC:=(⟨_,by cbv⟩:CF Tryz.f142 [(8,[])]).1
def Sk:AC:=(⟨_,by cbv⟩:LA (bS aw7 112122)).1
def apY:AC:=dK (⟨_,by intro t;cbv⟩:LH fun t:AC=>bg t 112122 aw7) Sk
theorem aBf:aM Tryz.prog dc false 142 26 [(.tmp 4)] apY:=aQ Tryz.func142
def aw8:AC:=(⟨_,by cbv⟩:CF Tryz.f143 [(16,[0,0,2,6,14,31,63,0,0,256,768,1792,4095,8191,0,0,65535,131071]),(4,[]),(4,[])]).1
def Sm:List aD:=(⟨_,by cbv⟩:LA (rR 1122 4 6 aw8)).1
def apZ:AC:=dK (⟨_,by intro t;cbv⟩:LH fun t:(List aD->List aD)=>lJ [(4,6,t)] 1122 aw8) (Sm++ ·)
theorem aBg:aM Tryz.prog dc false 143 74 [(.cell 2 5 true),(.tmp 3)] apZ:=aQ Tryz.func143
def ap0:AC:=(⟨_,by cbv⟩:CF Tryz.f145 []).1
theorem aBh:aM Tryz.prog dc false 145 16 [(.tmp 4)] ap0:=aQ Tryz.func145
def ap1:AC:=(⟨_,by cbv⟩:CF Tryz.f146 []).1
theorem aBi:aM Tryz.prog dc false 146 10 [(.tmp 2)] ap1:=aQ Tryz.func146
def ap2:AC:=(⟨_,by cbv⟩:CF Tryz.f147 []).1
theorem aBj:aM Tryz.prog dc false 147 12 [(.tmp 2)] ap2:=aQ Tryz.func147
def aw9:AC:=(⟨_,by cbv⟩:CF Tryz.f148 []).1
def Sn:List aD:=(⟨_,by cbv⟩:LA (rR 11212222222221122 3 3 aw9)).1
def ap3:AC:=dK (⟨_,by intro t;cbv⟩:LH fun t:(List aD->List aD)=>lJ [(3,3,t)] 11212222222221122 aw9) (Sn++ ·)
theorem aBk:aM Tryz.prog dc false 148 77 [(.cell 2 4 true)] ap3:=aQ Tryz.func148
def ap4:AC:=(⟨_,by cbv⟩:CF Tryz.f160 []).1
theorem aBl:aM Tryz.prog dc false 160 21 [(.tmp 4),(.tmp 5)] ap4:=aQ Tryz.func160
def axa:AC:=(⟨_,by cbv⟩:CF Tryz.f161 []).1
def Sq:AC:=(⟨_,by cbv⟩:LA (bS axa 11212)).1
def ap5:AC:=dK (⟨_,by intro t;cbv⟩:LH fun t:AC=>bg t 11212 axa) Sq
theorem aBm:aM Tryz.prog dc false 161 19 [(.tmp 4)] ap5:=aQ Tryz.func161
def ap6:AC:=(⟨_,by cbv⟩:CF Tryz.f164 []).1
theorem aBn:aM Tryz.prog dc false 164 11 [(.tmp 2)] ap6:=aQ Tryz.func164
def axb:AC:=(⟨_,by cbv⟩:CF Tryz.f165 []).1
def Sr:AC:=(⟨_,by cbv⟩:LA (bS axb 11212)).1
def ap7:AC:=dK (⟨_,by intro t;cbv⟩:LH fun t:AC=>bg t 11212 axb) Sr
theorem aBo:aM Tryz.prog dc false 165 19 [(.tmp 4)] ap7:=aQ Tryz.func165
def axc:AC:=(⟨_,by cbv⟩:CF Tryz.f173 []).1
def Sv:AC:=(⟨_,by cbv⟩:LA (bS axc 1121222)).1
def ap8:AC:=dK (⟨_,by intro t;cbv⟩:LH fun t:AC=>bg t 1121222 axc) Sv
theorem aBp:aM Tryz.prog dc false 173 76 [(.tmp 0)] ap8:=aQ Tryz.func173
def axd:AC:=(⟨_,by cbv⟩:CF Tryz.f174 []).1
def Sw:AC:=(⟨_,by cbv⟩:LA (bS axd 11212)).1
def ap9:AC:=dK (⟨_,by intro t;cbv⟩:LH fun t:AC=>bg t 11212 axd) Sw
theorem aBq:aM Tryz.prog dc false 174 40 [(.tmp 4)] ap9:=aQ Tryz.func174
def axe:AC:=(⟨_,by cbv⟩:CF Tryz.f175 []).1
def Sy:AC:=(⟨_,by cbv⟩:LA (bS axe 112122)).1
def aqa:AC:=dK (⟨_,by intro t;cbv⟩:LH fun t:AC=>bg t 112122 axe) Sy
theorem aBr:aM Tryz.prog dc false 175 18 [(.tmp 2)] aqa:=aQ Tryz.func175
def aqb:AC:=(⟨_,by cbv⟩:CF Tryz.f176 []).1
theorem aBs:aM Tryz.prog dc false 176 7 [(.tmp 4)] aqb:=aQ Tryz.func176
def XY:AC:=(⟨_,by cbv⟩:CF Tryz.f177 [(17,[])]).1
def Sz:List aD:=(⟨_,by cbv⟩:LA (rR 112222 12 12 XY)).1
def OA:AC:=(⟨_,by cbv⟩:LA (bS XY 11212222222)).1
def OB:AC:=(⟨_,by cbv⟩:LA (bS XY 21212222222)).1
def SA:AC:=dK (⟨_,by intro t;cbv⟩:LH fun t:AC×AC=>bg t.2 212 (bg t.1 112 (bS XY 12222222))) (OA,OB)
def SB:List aD:=(⟨_,by cbv⟩:LA (rR 1222222222 3 32 XY)).1
def aqc:AC:=dK (⟨_,by intro t;cbv⟩:LH fun t:(List aD->List aD)×AC×(List aD->List aD)=>lJ [(3,32,t.2.2)] 1222222222 (bg t.2.1 12222222 (lJ [(12,12,t.1)] 112222 XY))) ((Sz++ ·),SA,(SB++ ·))
theorem aBt:aM Tryz.prog dc false 177 126 [(.tmp 6)] aqc:=aQ Tryz.func177
def aqd:AC:=(⟨_,by cbv⟩:CF Tryz.f178 []).1
theorem aBu:aM Tryz.prog dc false 178 25 [(.tmp 6)] aqd:=aQ Tryz.func178
def anD:AC:=(⟨_,by cbv⟩:CF Tryz.f179 [(8,[0,0,2,7,0,16,48,15,255])]).1
def SC:AC:=(⟨_,by cbv⟩:LA (bS anD 11221122112122)).1
def SE:AC:=dK (⟨_,by intro t;cbv⟩:LH fun t:AC=>bg t 11221122 (bS anD 112122)) SC
def aqe:AC:=dK (⟨_,by intro t;cbv⟩:LH fun t:AC=>bg t 112122 anD) SE
theorem aBv:aM Tryz.prog dc false 179 44 [(.tmp 2),(.tmp 3)] aqe:=aQ Tryz.func179
def axf:AC:=(⟨_,by cbv⟩:CF Tryz.f180 []).1
def SF:AC:=(⟨_,by cbv⟩:LA (bS axf 112112221212)).1
def aqf:AC:=dK (⟨_,by intro t;cbv⟩:LH fun t:AC=>bg t 112112221212 axf) SF
theorem aBw:aM Tryz.prog dc false 180 76 [(.tmp 8)] aqf:=aQ Tryz.func180
def aqg:AC:=(⟨_,by cbv⟩:CF Tryz.f186 []).1
theorem aBx:aM Tryz.prog dc false 186 11 [(.tmp 2)] aqg:=aQ Tryz.func186
def ah7:AC:=(⟨_,by cbv⟩:CF Tryz.f187 []).1
def SG:List aD:=(⟨_,by cbv⟩:LA (rR 112 5 12 ah7)).1
def SH:List aD:=(⟨_,by cbv⟩:LA (rR 11211221121222 4 4 ah7)).1
def SI:AC:=dK (⟨_,by intro t;cbv⟩:LH fun t:(List aD->List aD)=>lJ [(4,4,t)] 1121122 (bS ah7 1121222)) (SH++ ·)
def aqh:AC:=dK (⟨_,by intro t;cbv⟩:LH fun t:(List aD->List aD)×AC=>bg t.2 1121222 (lJ [(5,12,t.1)] 112 ah7)) ((SG++ ·),SI)
theorem aBy:aM Tryz.prog dc false 187 53 [(.tmp 2)] aqh:=aQ Tryz.func187
def axg:AC:=(⟨_,by cbv⟩:CF Tryz.f189 [(12,[])]).1
def Ml:AC:=(⟨_,by cbv⟩:LA (bS axg 1122)).1
def aqi:AC:=dK (⟨_,by intro t;cbv⟩:LH fun t:AC=>bg t 1122 axg) Ml
theorem aBz:aM Tryz.prog dc false 189 39 [] aqi:=aQ Tryz.func189
def aqj:AC:=(⟨_,by cbv⟩:CF Tryz.f191 []).1
theorem aBA:aM Tryz.prog dc false 191 29 [(.tmp 2)] aqj:=aQ Tryz.func191
def aqk:AC:=(⟨_,by cbv⟩:CF Tryz.f193 []).1
theorem aBB:aM Tryz.prog dc false 193 14 [(.tmp 2)] aqk:=aQ Tryz.func193
def OC:AC:=(⟨_,by cbv⟩:CF Tryz.f194 []).1
def SK:AC:=(⟨_,by cbv⟩:LA (bS OC 11212)).1
def SL:AC:=(⟨_,by cbv⟩:LA (bS OC 122221212)).1
def SN:AC:=(⟨_,by cbv⟩:LA (bS OC 12222221212)).1
def SQ:AC:=(⟨_,by cbv⟩:LA (bS OC 1222222221212)).1
def SS:AC:=(⟨_,by cbv⟩:LA (bS OC 122222222221212)).1
def SV:AC:=(⟨_,by cbv⟩:LA (bS OC 1222222222222221212)).1
def SX:AC:=(⟨_,by cbv⟩:LA (bS OC 122222222222222221212)).1
def aql:AC:=dK (⟨_,by intro t;cbv⟩:LH fun t:AC×AC×AC×AC×AC×AC×AC=>bg t.2.2.2.2.2.2 122222222222222221212 (bg t.2.2.2.2.2.1 1222222222222221212 (bg t.2.2.2.2.1 122222222221212 (bg t.2.2.2.1 1222222221212 (bg t.2.2.1 12222221212 (bg t.2.1 122221212 (bg t.1 11212 OC))))))) (SK,SL,SN,SQ,SS,SV,SX)
theorem aBC:aM Tryz.prog dc false 194 60 [(.cell 2 4 true),(.tmp 3)] aql:=aQ Tryz.func194
def axh:AC:=(⟨_,by cbv⟩:CF Tryz.f195 []).1
def SY:AC:=(⟨_,by cbv⟩:LA (bS axh 112122)).1
def aqm:AC:=dK (⟨_,by intro t;cbv⟩:LH fun t:AC=>bg t 112122 axh) SY
theorem aBD:aM Tryz.prog dc false 195 38 [(.tmp 4)] aqm:=aQ Tryz.func195
def axi:AC:=(⟨_,by cbv⟩:CF Tryz.f196 []).1
def S9:AC:=(⟨_,by cbv⟩:LA (bS axi 112122)).1
def aqn:AC:=dK (⟨_,by intro t;cbv⟩:LH fun t:AC=>bg t 112122 axi) S9
theorem aBE:aM Tryz.prog dc false 196 23 [(.tmp 2)] aqn:=aQ Tryz.func196
def ah8:AC:=(⟨_,by cbv⟩:CF Tryz.f197 []).1
def Ta:AC:=(⟨_,by cbv⟩:LA (bS ah8 12)).1
def Tc:List aD:=(⟨_,by cbv⟩:LA (rR 111121121222 6 12 ah8)).1
def Td:AC:=dK (⟨_,by intro t;cbv⟩:LH fun t:(List aD->List aD)=>lJ [(6,12,t)] 11112 (bS ah8 1121222)) (Tc++ ·)
def aqo:AC:=dK (⟨_,by intro t;cbv⟩:LH fun t:AC×AC=>bg t.2 1121222 (bg t.1 12 ah8)) (Ta,Td)
theorem aBF:aM Tryz.prog dc false 197 46 [(.tmp 2)] aqo:=aQ Tryz.func197
def axj:AC:=(⟨_,by cbv⟩:CF Tryz.f198 [(14,[])]).1
def Te:AC:=(⟨_,by cbv⟩:LA (bS axj 112122)).1
def aqp:AC:=dK (⟨_,by intro t;cbv⟩:LH fun t:AC=>bg t 112122 axj) Te
theorem aBG:aM Tryz.prog dc false 198 36 [(.tmp 2)] aqp:=aQ Tryz.func198
def ah9:AC:=(⟨_,by cbv⟩:CF Tryz.f201 [(16,[0,0,2,6,14,31,63,0,0,256,768,1792,4095,8191,0,0,65535,131071])]).1
def Tf:List aD:=(⟨_,by cbv⟩:LA (rR 11222 4 4 ah9)).1
def Tg:List aD:=(⟨_,by cbv⟩:LA (rR 112222 4 5 ah9)).1
def Ti:List aD:=(⟨_,by cbv⟩:LA (rR 111222221221212222 3 3 ah9)).1
def aqr:AC:=dK (⟨_,by intro t;cbv⟩:LH fun t:(List aD->List aD)×(List aD->List aD)×(List aD->List aD)=>lJ [(3,3,t.2.2)] 111222221221212222 (lJ [(4,5,t.2.1)] 112222 (lJ [(4,4,t.1)] 11222 ah9))) ((Tf++ ·),(Tg++ ·),(Ti++ ·))
theorem aBH:aM Tryz.prog dc false 201 100 [(.cell 2 4 true)] aqr:=aQ Tryz.func201
def aqs:AC:=(⟨_,by cbv⟩:CF Tryz.f203 []).1
theorem aBI:aM Tryz.prog dc false 203 7 [(.tmp 3)] aqs:=aQ Tryz.func203
def aqt:AC:=(⟨_,by cbv⟩:CF Tryz.f204 []).1
theorem aBJ:aM Tryz.prog dc false 204 5 [(.tmp 2)] aqt:=aQ Tryz.func204
def aqu:AC:=(⟨_,by cbv⟩:CF Tryz.f215 []).1
theorem aBK:aM Tryz.prog dc false 215 8 [(.tmp 4)] aqu:=aQ Tryz.func215
def aqv:AC:=(⟨_,by cbv⟩:CF Tryz.f216 []).1
theorem aBL:aM Tryz.prog dc false 216 19 [(.tmp 2)] aqv:=aQ Tryz.func216
def XZ:AC:=(⟨_,by cbv⟩:CF Tryz.f222 [(8,[]),(5,[]),(20,[])]).1
def Tj:AC:=(⟨_,by cbv⟩:LA (bS XZ 122)).1
def Tk:List aD:=(⟨_,by cbv⟩:LA (rR 122222 4 4 XZ)).1
def IL:AC:=(⟨_,by cbv⟩:LA (bS XZ 1121222222)).1
def Mq:AC:=(⟨_,by cbv⟩:LA (bS XZ 112122112112122222222)).1
def IQ:AC:=dK (⟨_,by intro t;cbv⟩:LH fun t:AC=>bg t 112122112 (bS XZ 112122222222)) Mq
def aqw:AC:=dK (⟨_,by intro t;cbv⟩:LH fun t:AC×(List aD->List aD)×AC×AC=>bg t.2.2.2 112122222222 (bg t.2.2.1 1121222222 (lJ [(4,4,t.2.1)] 122222 (bg t.1 122 XZ)))) (Tj,(Tk++ ·),IL,IQ)
theorem aBM:aM Tryz.prog dc false 222 118 [(.tmp 8)] aqw:=aQ Tryz.func222
def aqx:AC:=(⟨_,by cbv⟩:CF Tryz.f223 []).1
theorem aBN:aM Tryz.prog dc false 223 17 [(.cell 2 7 true),(.tmp 3)] aqx:=aQ Tryz.func223
def aqy:AC:=(⟨_,by cbv⟩:CF Tryz.f224 []).1
theorem aBO:aM Tryz.prog dc false 224 15 [(.tmp 6)] aqy:=aQ Tryz.func224
def OD:AC:=(⟨_,by cbv⟩:CF Tryz.f226 []).1
def Tn:AC:=(⟨_,by cbv⟩:LA (bS OD 122121222)).1
def Tp:AC:=(⟨_,by cbv⟩:LA (bS OD 1222222121222)).1
def Tq:AC:=(⟨_,by cbv⟩:LA (bS OD 122222222121222)).1
def Tt:AC:=(⟨_,by cbv⟩:LA (bS OD 12222222222121222)).1
def Tv:AC:=(⟨_,by cbv⟩:LA (bS OD 1222222222222121222)).1
def Tw:AC:=(⟨_,by cbv⟩:LA (bS OD 12222222222222222121222)).1
def Tx:AC:=(⟨_,by cbv⟩:LA (bS OD 122222222222222222222121222)).1
def aqz:AC:=dK (⟨_,by intro t;cbv⟩:LH fun t:AC×AC×AC×AC×AC×AC×AC=>bg t.2.2.2.2.2.2 122222222222222222222121222 (bg t.2.2.2.2.2.1 12222222222222222121222 (bg t.2.2.2.2.1 1222222222222121222 (bg t.2.2.2.1 12222222222121222 (bg t.2.2.1 122222222121222 (bg t.2.1 1222222121222 (bg t.1 122121222 OD))))))) (Tn,Tp,Tq,Tt,Tv,Tw,Tx)
theorem aBP:aM Tryz.prog dc false 226 106 [(.cell 2 6 true)] aqz:=aQ Tryz.func226
def aqA:AC:=(⟨_,by cbv⟩:CF Tryz.f227 []).1
theorem aBQ:aM Tryz.prog dc false 227 4 [(.tmp 2)] aqA:=aQ Tryz.func227
def aqB:AC:=(⟨_,by cbv⟩:CF Tryz.f228 []).1
theorem aBR:aM Tryz.prog dc false 228 13 [(.tmp 2)] aqB:=aQ Tryz.func228
def Tz:AC:=(⟨_,by cbv⟩:CF Tryz.f229 []).1
def TA:List aD:=(⟨_,by cbv⟩:LA (rR 121212222 2 11 Tz)).1
def TB:List aD:=(⟨_,by cbv⟩:LA (rR 112221212222 2 9 Tz)).1
def TD:List aD:=(⟨_,by cbv⟩:LA (rR 212221212222 2 10 Tz)).1
def TF:List aD:=(⟨_,by cbv⟩:LA (rR 1222221212222 2 5 Tz)).1
def TG:AC:=dK (⟨_,by intro t;cbv⟩:LH fun t:(List aD->List aD)×(List aD->List aD)×(List aD->List aD)×(List aD->List aD)=>lJ [(2,5,t.2.2.2)] 12222212 (lJ [(2,10,t.2.2.1)] 2122212 (lJ [(2,9,t.2.1)] 1122212 (lJ [(2,11,t.1)] 1212 (bS Tz 12222))))) ((TA++ ·),(TB++ ·),(TD++ ·),(TF++ ·))
def TH:AC:=(⟨_,by cbv⟩:LA (bS Tz 1121222222)).1
def aqC:AC:=dK (⟨_,by intro t;cbv⟩:LH fun t:AC×AC=>bg t.2 1121222222 (bg t.1 12222 Tz)) (TG,TH)
theorem aBS:aM Tryz.prog dc false 229 96 [(.tmp 2)] aqC:=aQ Tryz.func229
def acg:AC:=(sO [oM 9 1,oB 10 .lss (.t 9) (.c (.int .i64 0))] (.cond (.t 10) (.ops [oR 11 (.NW 9 (.c (.str [99,97,110,110,111,116,32,98,101,32,110,101,103,97,116,105,118,101]))),⟨none,.bad,none⟩]) .skip))
def ach:AC:=(sO [oM 21 5,oB 22 .gtr (.t 21) (.c (.int .u64 0)),oM 23 22,oMg 24 6 23 false,oBg 25 .gtr (.t 24) (.c (.int .u64 9223372036854775807)) 23 false,oR 26 (.pick (.t 23) (.c (.bool true)) (.t 25))] (.cond (.t 26) (.ops [oR 27 (.NW 9 (.c (.str [116,104,101,32,114,101,115,117,108,116,32,111,102,32,40,108,101,110,40,120,41,32,42,32,99,111,117,110,116,41,32,111,118,101,114,102,108,111,119,115]))),⟨none,.bad,none⟩]) .skip))
def Mr:AC:=(.seq (sO [oM 34 8,oM 35 7,oN 36 35,oB 37 .lss (.t 34) (.t 36)] (.cond (.t 37) .skip (.exit 0))) (.block 1 (.par [(oM 38 8,false),(oM 39 7,false),(oM 40 8,false),(oR 41 (.slc 1 (.t 39) (some (.t 40)) none none),false),(oM 42 7,false),(oM 43 8,false),(oR 44 (.slc 1 (.t 42) none (some (.t 43)) none),false),(⟨(some 45),(.n (.copy 1 (.t 41) (.t 44))),none⟩,true)] [oB 46 .add (.t 38) (.t 45),oM 8 46])))
def aqD:AC:=(sO [oR 4 (.AO (.c (.ah [] .nil)))] (.seq acg (sO [oM 13 0,oN 14 13,oR 15 (.conv .u64 (.t 14)),oM 16 1,oR 17 (.conv .u64 (.t 16)),oC 18 273 [(.t 15),(.t 17)],oM 12 18,oE 19 12 0,oE 20 12 1,oM 5 19,oM 6 20] (.seq ach (sO [oM 28 6,oR 29 (.conv .i64 (.t 28)),⟨(some 30),(.d (.yP 1 8 [(.int .i64 0)] (.t 29) (.t 29))),none⟩,oM 7 30] (sO [oM 31 7,oM 32 0,⟨(some 33),(.n (.copy 1 (.t 31) (.t 32))),none⟩,oM 8 33] (.seq (.block 0 (.loop Mr)) (sO [oM 47 7,oM 4 47] .ret))))))))
theorem aBT:aM Tryz.prog dc false 230 48 [(.tmp 4)] aqD:=aQ Tryz.func230
def aqE:AC:=(⟨_,by cbv⟩:CF Tryz.f232 []).1
theorem aBU:aM Tryz.prog dc false 232 9 [(.tmp 4)] aqE:=aQ Tryz.func232
def aqF:AC:=(⟨_,by cbv⟩:CF Tryz.f236 []).1
theorem aBV:aM Tryz.prog dc false 236 8 [(.tmp 4)] aqF:=aQ Tryz.func236
def aqG:AC:=(⟨_,by cbv⟩:CF Tryz.f237 []).1
theorem aBW:aM Tryz.prog dc false 237 2 [(.tmp 0)] aqG:=aQ Tryz.func237
def aqH:AC:=(⟨_,by cbv⟩:CR Tryz.f238 []).1
theorem aBX:aM Tryz.prog dc true 238 8 [(.tmp 2)] aqH:=aQ Tryz.func238
def aqI:AC:=(⟨_,by cbv⟩:CF Tryz.f239 []).1
theorem aBY:aM Tryz.prog dc false 239 9 [(.tmp 2)] aqI:=aQ Tryz.func239
def axk:AC:=(⟨_,by cbv⟩:CF Tryz.f240 []).1
def TI:AC:=(⟨_,by cbv⟩:LA (bS axk 112122)).1
def aa3:AC:=dK (⟨_,by intro t;cbv⟩:LH fun t:AC=>bg t 112122 axk) TI
theorem aia:aM Tryz.prog dc false 240 43 [(.tmp 4)] aa3:=aQ Tryz.func240
def aqJ:AC:=(⟨_,by cbv⟩:CF Tryz.f241 []).1
theorem aBZ:aM Tryz.prog dc false 241 17 [(.tmp 2)] aqJ:=aQ Tryz.func241
def aqK:AC:=(⟨_,by cbv⟩:CR Tryz.f242 [(7,[])]).1
theorem aB0:aM Tryz.prog dc true 242 29 [] aqK:=aQ Tryz.func242
def axl:AC:=(⟨_,by cbv⟩:CF Tryz.f245 []).1
def TJ:AC:=(⟨_,by cbv⟩:LA (bS axl 112122)).1
def aqL:AC:=dK (⟨_,by intro t;cbv⟩:LH fun t:AC=>bg t 112122 axl) TJ
theorem aB1:aM Tryz.prog dc false 245 26 [(.tmp 4)] aqL:=aQ Tryz.func245
def aqM:AC:=(⟨_,by cbv⟩:CF Tryz.f246 []).1
theorem aB2:aM Tryz.prog dc false 246 2 [(.tmp 0)] aqM:=aQ Tryz.func246
def aqN:AC:=(⟨_,by cbv⟩:CF Tryz.f247 []).1
theorem aB3:aM Tryz.prog dc false 247 17 [(.tmp 2)] aqN:=aQ Tryz.func247
def aqO:AC:=(⟨_,by cbv⟩:CF Tryz.f248 []).1
theorem aB4:aM Tryz.prog dc false 248 9 [(.tmp 2)] aqO:=aQ Tryz.func248
def aqP:AC:=(⟨_,by cbv⟩:CF Tryz.f249 []).1
theorem aB5:aM Tryz.prog dc false 249 22 [(.tmp 2)] aqP:=aQ Tryz.func249
def axn:AC:=(⟨_,by cbv⟩:CF Tryz.f250 []).1
def TK:AC:=(⟨_,by cbv⟩:LA (bS axn 11122)).1
def aqQ:AC:=dK (⟨_,by intro t;cbv⟩:LH fun t:AC=>bg t 11122 axn) TK
theorem aB6:aM Tryz.prog dc false 250 46 [(.tmp 4)] aqQ:=aQ Tryz.func250
def axo:AC:=(⟨_,by cbv⟩:CF Tryz.f254 []).1
def Ms:AC:=(⟨_,by cbv⟩:LA (bS axo 112122)).1
def aqR:AC:=dK (⟨_,by intro t;cbv⟩:LH fun t:AC=>bg t 112122 axo) Ms
theorem aB7:aM Tryz.prog dc false 254 32 [(.tmp 6)] aqR:=aQ Tryz.func254
def aqS:AC:=(⟨_,by cbv⟩:CF Tryz.f255 []).1
theorem aB8:aM Tryz.prog dc false 255 38 [(.tmp 4)] aqS:=aQ Tryz.func255
def axp:AC:=(⟨_,by cbv⟩:CF Tryz.f256 [(8,[])]).1
def TL:AC:=(⟨_,by cbv⟩:LA (bS axp 112122)).1
def aqT:AC:=dK (⟨_,by intro t;cbv⟩:LH fun t:AC=>bg t 112122 axp) TL
theorem aB9:aM Tryz.prog dc false 256 26 [(.tmp 4)] aqT:=aQ Tryz.func256
def axq:AC:=(⟨_,by cbv⟩:CF Tryz.f257 [(8,[])]).1
def TM:AC:=(⟨_,by cbv⟩:LA (bS axq 112122)).1
def aqU:AC:=dK (⟨_,by intro t;cbv⟩:LH fun t:AC=>bg t 112122 axq) TM
theorem aCa:aM Tryz.prog dc false 257 26 [(.tmp 4)] aqU:=aQ Tryz.func257
def OE:AC:=(⟨_,by cbv⟩:CF Tryz.f258 [(6,[]),(7,[])]).1
def OG:AC:=(⟨_,by cbv⟩:LA (bS OE 1121212)).1
def OH:AC:=(⟨_,by cbv⟩:LA (bS OE 2121212)).1
def TN:AC:=dK (⟨_,by intro t;cbv⟩:LH fun t:AC×AC=>bg t.2 21212 (bg t.1 11212 (bS OE 12))) (OG,OH)
def Mt:AC:=(⟨_,by cbv⟩:LA (bS OE 1122121222)).1
def TP:AC:=dK (⟨_,by intro t;cbv⟩:LH fun t:AC=>bg t 112212 (bS OE 1222)) Mt
def Mv:AC:=(⟨_,by cbv⟩:LA (bS OE 11212211221122222)).1
def Mw:AC:=dK (⟨_,by intro t;cbv⟩:LH fun t:AC=>bg t 1121221122 (bS OE 1122222)) Mv
def aqV:AC:=dK (⟨_,by intro t;cbv⟩:LH fun t:AC×AC×AC=>bg t.2.2 1122222 (bg t.2.1 1222 (bg t.1 12 OE))) (TN,TP,Mw)
theorem aCb:aM Tryz.prog dc false 258 113 [] aqV:=aQ Tryz.func258
def axr:AC:=(⟨_,by cbv⟩:CF Tryz.f262 []).1
def TQ:AC:=(⟨_,by cbv⟩:LA (bS axr 11212)).1
def aqW:AC:=dK (⟨_,by intro t;cbv⟩:LH fun t:AC=>bg t 11212 axr) TQ
theorem aCc:aM Tryz.prog dc false 262 26 [(.tmp 6)] aqW:=aQ Tryz.func262
def axt:AC:=(⟨_,by cbv⟩:CF Tryz.f263 []).1
def TS:AC:=(⟨_,by cbv⟩:LA (bS axt 112)).1
def aqX:AC:=dK (⟨_,by intro t;cbv⟩:LH fun t:AC=>bg t 112 axt) TS
theorem aCd:aM Tryz.prog dc false 263 26 [(.tmp 2)] aqX:=aQ Tryz.func263
def axu:AC:=(⟨_,by cbv⟩:CF Tryz.f264 []).1
def TT:AC:=(⟨_,by cbv⟩:LA (bS axu 11212222)).1
def aqY:AC:=dK (⟨_,by intro t;cbv⟩:LH fun t:AC=>bg t 11212222 axu) TT
theorem aCe:aM Tryz.prog dc false 264 95 [(.tmp 0)] aqY:=aQ Tryz.func264
def axv:AC:=(⟨_,by cbv⟩:CF Tryz.f265 []).1
def TU:AC:=(⟨_,by cbv⟩:LA (bS axv 11212)).1
def aqZ:AC:=dK (⟨_,by intro t;cbv⟩:LH fun t:AC=>bg t 11212 axv) TU
theorem aCf:aM Tryz.prog dc false 265 19 [(.tmp 4)] aqZ:=aQ Tryz.func265
def aq0:AC:=(⟨_,by cbv⟩:CF Tryz.f266 []).1
theorem aCg:aM Tryz.prog dc false 266 8 [(.tmp 3)] aq0:=aQ Tryz.func266
def aq1:AC:=(⟨_,by cbv⟩:CF Tryz.f267 []).1
theorem aCh:aM Tryz.prog dc false 267 12 [(.cell 4 6 true)] aq1:=aQ Tryz.func267
def aq2:AC:=(⟨_,by cbv⟩:CF Tryz.f269 []).1
theorem aCi:aM Tryz.prog dc false 269 15 [(.tmp 2)] aq2:=aQ Tryz.func269
def aq3:AC:=(⟨_,by cbv⟩:CF Tryz.f271 []).1
theorem aCj:aM Tryz.prog dc false 271 6 [(.tmp 2)] aq3:=aQ Tryz.func271
def aq4:AC:=(⟨_,by cbv⟩:CF Tryz.f272 []).1
theorem aCk:aM Tryz.prog dc false 272 25 [(.tmp 2)] aq4:=aQ Tryz.func272
def aq5:AC:=(⟨_,by cbv⟩:CF Tryz.f273 []).1
theorem aCl:aM Tryz.prog dc false 273 30 [(.tmp 4),(.tmp 5)] aq5:=aQ Tryz.func273
def axw:AC:=(⟨_,by cbv⟩:CF Tryz.f274 []).1
def TV:AC:=(⟨_,by cbv⟩:LA (bS axw 11212)).1
def aq6:AC:=dK (⟨_,by intro t;cbv⟩:LH fun t:AC=>bg t 11212 axw) TV
theorem aCm:aM Tryz.prog dc false 274 19 [(.tmp 4)] aq6:=aQ Tryz.func274
def aq7:AC:=(⟨_,by cbv⟩:CF Tryz.f277 []).1
theorem aCn:aM Tryz.prog dc false 277 18 [(.tmp 4)] aq7:=aQ Tryz.func277
def TW:AC:=(.seq (sO [oM 13 6,oM 14 0,oR 15 (.Kv (.t 14)),oB 16 .lss (.t 13) (.t 15)] (.cond (.t 16) .skip (.exit 0))) (.seq (.block 1 (sO [oM 19 0,oM 20 6,oR 21 (.L8 (.t 19) (.t 20)),oM 7 21] (sO [oM 22 5,oM 23 7,oB 24 .or (.t 22) (.t 23),oM 5 24] (sO [oM 25 7,oR 26 (.Gf 256 1 (.c (.cK (C8.map (PV.int .u8)) 0)) (.t 25)),oL 27 1 26,oR 28 (.conv .i64 (.t 27)),oM 8 28] (sO [oM 29 3,oM 30 4,oM 31 8,oR 32 (.cpl (.t 31)),oB 33 .and (.t 30) (.t 32),oB 34 .add (.t 29) (.t 33),oM 3 34] (.ops [oM 35 8,oM 4 35])))))) (.ops [oM 17 6,oB 18 .add (.t 17) (.c (.int .i64 1)),oM 6 18])))
def TY:AC:=(.seq (sO [oM 42 12,oM 43 0,oR 44 (.Kv (.t 43)),oB 45 .lss (.t 42) (.t 44),oM 46 45,oMg 47 0 46 true,oMg 48 12 46 true,Zc 49 (.L8 (.t 47) (.t 48)) 46 true,Zc 50 (.Gf 256 1 (.c (.cK (C8.map (PV.int .u8)) 0)) (.t 49)) 46 true,Zb 51 1 50 46 true,oBg 52 .neq (.t 51) (.c (.int .u8 0)) 46 true,oR 53 (.pick (.t 46) (.t 52) (.c (.bool false)))] (.cond (.t 53) .skip (.exit 2))) (.block 3 (.ops [oM 54 12,oB 55 .add (.t 54) (.c (.int .i64 1)),oM 12 55])))
def T9:AC:=(.seq (sO [oM 80 12,oM 81 0,oR 82 (.Kv (.t 81)),oB 83 .lss (.t 80) (.t 82),oM 84 83,oMg 85 0 84 true,oMg 86 12 84 true,Zc 87 (.L8 (.t 85) (.t 86)) 84 true,Zc 88 (.Gf 256 1 (.c (.cK (C8.map (PV.int .u8)) 0)) (.t 87)) 84 true,Zb 89 1 88 84 true,oBg 90 .neq (.t 89) (.c (.int .u8 0)) 84 true,oR 91 (.pick (.t 84) (.t 90) (.c (.bool false)))] (.cond (.t 91) .skip (.exit 6))) (.block 7 (.ops [oM 92 12,oB 93 .add (.t 92) (.c (.int .i64 1)),oM 12 93])))
def Ua:AC:=(.seq (sO [oM 57 12,oM 58 0,oR 59 (.Kv (.t 58)),oB 60 .lss (.t 57) (.t 59)] (.cond (.t 60) .skip (.exit 4))) (.block 5 (.seq (sO [oM 61 0,oM 62 12,oR 63 (.L8 (.t 61) (.t 62)),oR 64 (.Gf 256 1 (.c (.cK (C8.map (PV.int .u8)) 0)) (.t 63)),oL 65 1 64,oB 66 .eql (.t 65) (.c (.int .u8 0))] (.cond (.t 66) (sO [oM 67 12,oB 68 .add (.t 67) (.c (.int .i64 1)),oM 12 68] (.exit 5)) .skip)) (sO [oM 69 9,oM 70 10,oM 71 0,oM 72 11,oM 73 12,oR 74 (.Rh (.t 71) (some (.t 72)) (some (.t 73))),oX 75 1 69 70,oS 1 75 74] (sO [oM 76 10,oB 77 .add (.t 76) (.c (.int .i64 1)),oM 10 77] (sO [oM 78 12,oB 79 .add (.t 78) (.c (.int .i64 1)),oM 12 79] (.seq (.block 6 (.loop T9)) (.ops [oM 94 12,oM 11 94]))))))))
def aq8:AC:=(sO [oR 2 (.AO (.c (.ah [] .nil)))] (sO [oI 3 0] (sO [oI 4 1] (sO [oR 5 (.AO (.c (.int .u8 0)))] (.seq (sO [oI 6 0] (.block 0 (.loop TW))) (.seq (sO [oM 36 5,oB 37 .geq (.t 36) (.c (.int .u8 128))] (.cond (.t 37) (sO [oM 38 0,oC 39 305 [(.t 38),(.c (.fn (.func 306) [] []))],oM 2 39] .ret) .skip)) (sO [oM 40 3,⟨(some 41),(.d (.yP 1 16 [(.str [])] (.t 40) (.t 40))),none⟩,oM 9 41] (sO [oI 10 0] (sO [oI 11 0] (sO [oI 12 0] (.seq (.block 2 (.loop TY)) (sO [oM 56 12,oM 11 56] (.seq (.block 4 (.loop Ua)) (.seq (sO [oM 95 11,oM 96 0,oR 97 (.Kv (.t 96)),oB 98 .lss (.t 95) (.t 97)] (.cond (.t 98) (.ops [oM 99 9,oM 100 10,oM 101 0,oM 102 11,oR 103 (.Rh (.t 101) (some (.t 102)) none),oX 104 1 99 100,oS 1 104 103]) .skip)) (sO [oM 105 9,oM 2 105] .ret)))))))))))))))
theorem aCo:aM Tryz.prog dc false 278 106 [(.tmp 2)] aq8:=aQ Tryz.func278
def axx:AC:=(⟨_,by cbv⟩:CF Tryz.f281 []).1
def Ub:AC:=(⟨_,by cbv⟩:LA (bS axx 11122)).1
def aq9:AC:=dK (⟨_,by intro t;cbv⟩:LH fun t:AC=>bg t 11122 axx) Ub
theorem aCp:aM Tryz.prog dc false 281 25 [(.tmp 2)] aq9:=aQ Tryz.func281
def ara:AC:=(⟨_,by cbv⟩:CF Tryz.f282 []).1
theorem aCq:aM Tryz.prog dc false 282 4 [(.tmp 2)] ara:=aQ Tryz.func282
def arb:AC:=(⟨_,by cbv⟩:CF Tryz.f283 []).1
theorem aCr:aM Tryz.prog dc false 283 9 [(.tmp 2)] arb:=aQ Tryz.func283
def axy:AC:=(⟨_,by cbv⟩:CF Tryz.f284 []).1
def Uc:AC:=(⟨_,by cbv⟩:LA (bS axy 112)).1
def ard:AC:=dK (⟨_,by intro t;cbv⟩:LH fun t:AC=>bg t 112 axy) Uc
theorem aCs:aM Tryz.prog dc false 284 25 [(.tmp 2)] ard:=aQ Tryz.func284
def arf:AC:=(⟨_,by cbv⟩:CF Tryz.f285 []).1
theorem aCt:aM Tryz.prog dc false 285 9 [(.tmp 2)] arf:=aQ Tryz.func285
def axz:AC:=(⟨_,by cbv⟩:CF Tryz.f289 []).1
def Ud:AC:=(⟨_,by cbv⟩:LA (bS axz 112122)).1
def arh:AC:=dK (⟨_,by intro t;cbv⟩:LH fun t:AC=>bg t 112122 axz) Ud
theorem aCu:aM Tryz.prog dc false 289 25 [(.tmp 6)] arh:=aQ Tryz.func289
def axA:AC:=(⟨_,by cbv⟩:CF Tryz.f290 []).1
def Ue:AC:=(⟨_,by cbv⟩:LA (bS axA 112122)).1
def ari:AC:=dK (⟨_,by intro t;cbv⟩:LH fun t:AC=>bg t 112122 axA) Ue
theorem aCv:aM Tryz.prog dc false 290 28 [(.tmp 8)] ari:=aQ Tryz.func290
def Uf:AC:=(sO [oB 12 .lss (.t 11) (.t 10)] (.seq (.cond (.t 12) .skip (.exit 0)) (.seq (.block 1 (sO [oX 13 1 9 11,oL 14 1 13,oM 5 14] (sO [oM 15 3,oM 16 5,oN 17 16,oB 18 .add (.t 15) (.t 17),oM 3 18] (sO [oM 19 3,oB 20 .lss (.t 19) (.c (.int .i64 0))] (.cond (.t 20) (.ops [oR 21 (.NW 9 (.c (.str [108,101,110,32,111,117,116,32,111,102,32,114,97,110,103,101]))),⟨none,.bad,none⟩]) .skip))))) (.ops [oB 22 .add (.t 11) (.c (.int .i64 1)),oM 11 22]))))
def Ug:AC:=(sO [oB 28 .lss (.t 27) (.t 26)] (.seq (.cond (.t 28) .skip (.exit 2)) (.seq (.block 3 (sO [oX 29 1 25 27,oL 30 1 29,oM 8 30] (.ops [oM 31 6,oM 32 8,⟨(some 33),(.n (.app 7 64 (.t 31) (.t 32))),none⟩,oM 6 33]))) (.ops [oB 34 .add (.t 27) (.c (.int .i64 1)),oM 27 34]))))
def arj:AC:=(sO [oR 2 (.AO (.c (.ah [] .nil)))] (sO [oI 3 0] (.seq (sO [oM 9 0,oN 10 9,oI 11 0] (.block 0 (.loop Uf))) (sO [oM 23 3,oC 24 321 [(.c (.ah [] .nil)),(.t 23)],oM 6 24] (.seq (sO [oM 25 0,oN 26 25,oI 27 0] (.block 2 (.loop Ug))) (sO [oM 35 6,oM 2 35] .ret))))))
theorem aCw:aM Tryz.prog dc true 291 36 [(.tmp 2)] arj:=aQ Tryz.func291
def ark:AC:=(⟨_,by cbv⟩:CF Tryz.f293 []).1
theorem aCx:aM Tryz.prog dc false 293 13 [(.tmp 4),(.tmp 5),(.tmp 6)] ark:=aQ Tryz.func293
def arl:AC:=(⟨_,by cbv⟩:CF Tryz.f318 []).1
theorem aCy:aM Tryz.prog dc false 318 8 [(.tmp 2)] arl:=aQ Tryz.func318
def arn:AC:=(⟨_,by cbv⟩:CF Tryz.f323 [(10,[])]).1
theorem aCz:aM Tryz.prog dc false 323 23 [(.tmp 4),(.tmp 5),(.tmp 6)] arn:=aQ Tryz.func323
end
end Go.VL
end
section
namespace Go.VL
structure Operator where
 text:Str
 fix:Int
 low:Int
 high:Int
 left:Bool
 least:Int
 most:Int
deriving DecidableEq
def Operator.cells (x:Operator):List PV:=[(.str x.text),(.int .i64 x.fix),(.int .i64 x.low),(.int .i64 x.high),(.bool x.left),(.int .i64 x.least),(.int .i64 x.most)]
theorem Operator.je (x:Operator):x.cells=[(.str x.text),(.int .i64 x.fix),(.int .i64 x.low),(.int .i64 x.high),(.bool x.left),(.int .i64 x.least),(.int .i64 x.most)]:=rfl
theorem Operator.pu (x:Operator): ∀c∈x.cells,Pu c:=dJ.mem (.cons (.str _) (.cons (.int _ _) (.cons (.int _ _) (.cons (.int _ _) (.cons (.bool _) (.cons (.int _ _) (.cons (.int _ _) .nil)))))))
theorem Operator.row (x:Operator):kC 7 x.cells:=row_of rfl rfl
instance:nk Operator.cells 7:=⟨fun _=>rfl,fun _=>rfl⟩
attribute [go_sem] Operator.je
structure Shape where
 names:Int×Int
 operands:Int×Int
 text:Bool
 number:Bool
deriving DecidableEq
def Shape.cells (x:Shape):List PV:=[(.int .i64 x.names.1),(.int .i64 x.names.2),(.int .i64 x.operands.1),(.int .i64 x.operands.2),(.bool x.text),(.bool x.number)]
theorem Shape.je (x:Shape):x.cells=[(.int .i64 x.names.1),(.int .i64 x.names.2),(.int .i64 x.operands.1),(.int .i64 x.operands.2),(.bool x.text),(.bool x.number)]:=rfl
theorem Shape.pu (x:Shape): ∀c∈x.cells,Pu c:=dJ.mem (.cons (.int _ _) (.cons (.int _ _) (.cons (.int _ _) (.cons (.int _ _) (.cons (.bool _) (.cons (.bool _) .nil))))))
attribute [go_sem] Shape.je
structure Scope where
 old:Str
 new:Str
deriving DecidableEq
def Scope.cells (x:Scope):List PV:=[(.str x.old),(.str x.new)]
theorem Scope.je (x:Scope):x.cells=[(.str x.old),(.str x.new)]:=rfl
theorem Scope.pu (x:Scope): ∀c∈x.cells,Pu c:=dJ.mem (.cons (.str _) (.cons (.str _) .nil))
instance:nk Scope.cells 2:=⟨fun _=>rfl,fun _=>rfl⟩
attribute [go_sem] Scope.je
end Go.VL
end
section
namespace Go.VL
open Go.Proofs Go.RowKit
def anE (s sep:Str):Option Int:=match sep with
 |[c]=>some (Lib.indexByte s c)
 |_=>none
theorem axB (s sep:Str) {r:Int} (h:anE s sep=some r):aG Tryz.prog 334 [.str s,.str sep] (.int .i64 r):=by
 match sep,h with
 |[c],h=>cases h;exact afv s c
def aci (s:Str):Option (List Str):=none
theorem aib (s:Str) {r:List Str} (h:aci s=some r):aG Tryz.prog 305 [.str s,.fn (.func 306) [] []] (.ah (r.map aF) .unk):=by cases h
theorem aic (l:List Int) (hl:l.length<=1000000) {c:Ck}:aG Tryz.prog 202 [.ah (l.map aK) c] (.ah (l.map aK) .unk):=by
 refine aG.wk (args:=[.ah (l.map aK) .unk]) ?_ (.ah .nil);refine QF ⟨_,Tryz.func202,rfl,by kernel_rfl⟩ (fun w G vs hg hi hv=> ?_) (dJ.mem (.cons (bK gV _) .nil));obtain⟨u,rfl,hu⟩: ∃u,vs=#[u]/\V G 0 (.ah (l.map aK) .unk) u:=by
  obtain⟨h1,h2⟩:=hv
  match vs,h1,h2 with
  |⟨[u]⟩,_,h2=>exact⟨u,rfl,h2 0 _ u rfl rfl⟩
 obtain⟨ad,cap,rfl,hcap,hx⟩:=apD hu;rw [J1]at*;by_cases h0:l=[]
 · subst h0;cases ad with
   |none=>
    refine(Tryz.slices_Clone_int_nil 0 cap w).mono ?_;rintro e w' ⟨rfl,rfl⟩;exact⟨_,rfl,Below.refl _ _,fun G' n _=> .ah [] .unk 1 none 0 (fun _ _=> .bool true) (fun i cs e=>by simp at e) (R0 _) (fun h=>absurd rfl h) (fun i cs j c e=>by simp at e) trivial⟩
   |some a=>
    refine(Tryz.slices_Clone_int_zero a cap w).mono ?_;rintro e w' ⟨v',rfl,⟨_,hown⟩,_,hb⟩;refine⟨_,rfl,hb,fun G' n _=> ?_⟩;rcases hown with⟨rfl,_⟩|⟨g,cp,cur,rfl,_,_,h1,_⟩
    · exact .ah [] .unk 1 none 0 (fun _ _=> .bool true) (fun i cs e=>by simp at e) (R0 _) (fun h=>absurd rfl h) (fun i cs j c e=>by simp at e) trivial
    · exact .ah [] .unk 1 (some ⟨g,0,none⟩) cp (fun _ _=> .bool true) (fun i cs e=>by simp at e) h1 (fun h=>absurd rfl h) (fun i cs j c e=>by simp at e) trivial
 · obtain⟨b,o,rfl,f,e2,h4⟩:=hx 1 (fun cs h=>by obtain⟨s,_,rfl⟩:=G3.1 h;rfl) (by simpa using h0);have hcell: ∀j,j<l.length->w.cell? ⟨b,o+j,none⟩=some (.int .i64 (l.getD j 0)):=by
    intro j hj;have hg:(l.map aK)[j]? =some (aK l[j]):=by simp [hj]
    have a:=e2 j _ hg 0 (.int .i64 l[j]) rfl;have b':=h4 j _ 0 (.int .i64 l[j]) hg rfl;generalize f j 0=v at a b';cases b';have:=hi _ _ a;rw [sA,S4]at this;rw [this];simp [List.getD,hj]
   refine(Tryz.slices_Clone_int b o l.length cap l w (by simp) (by omega) (by simpa using hcell)).mono ?_;rintro e w' ⟨v',rfl,⟨_,hown⟩,hne,hb⟩;refine⟨_,rfl,hb,fun G' n hnew=> ?_⟩;rcases hown with⟨rfl,_⟩|⟨g,cp,cur,rfl,hge,hblk,h1,h2,h3,h5⟩
   · exact absurd rfl hne
   · refine Eq.mp (by rw [J1]) (V.ah (G:=G') (n:=n) (l.map aK) .unk 1 (some ⟨g,0,none⟩) cp (fun i _=> .int .i64 (l[i]?.getD 0)) (fun i cs e=> ?_) (by simpa using h1) (fun _=>⟨g,0,rfl,fun i cs e j c ec=> ?_⟩) (fun i cs j c e ec=> ?_) trivial)
     · simp only [J0,Z1]at e;obtain⟨s,_,rfl⟩:=e;rfl
     · simp only [J0,Z1]at e;obtain⟨s,e1,rfl⟩:=e;have hj:j=0:=by
        have:=(S0.1 ec).1;simp [aK]at this;exact this
       subst hj;have hlt:=(S0.1 e1).1;refine hnew _ _ hge ?_;have hc:cur[i]? =some (.int .i64 s):=by
        have:=congrArg (·[i]?) h5
        simp only [sA,gA,hlt,A0,E7]at this;rw [<-W4,this];simp [e1,I3]
       simp only [World.cell?,hblk,V1,sA,S4,e1,E2];simpa using hc
     · simp only [J0,Z1]at e;obtain⟨s,e1,rfl⟩:=e;have hj:j=0:=by
        have:=(S0.1 ec).1;simp [aK]at this;exact this
       subst hj;simp only [aK,N2,L1]at ec;subst ec;simp only [e1,E2];exact .int .i64 s
theorem axC (n:Nd):kC 5 n.cells:=row_of rfl rfl
section
variable [Glob] {P:Program} {Q:Post} {σ:Nat->PV} {s:List Fm} {α:Type} {H:AH} {f:α->List PV} {sz:Nat}
theorem Mx {d:Option Nat} {b:Nat} {x y:AE} {l:List aD} [hr:nk f sz] (hf: ∀x,kC sz (f x)) (ys:List α) (c2:Ck)
 (hx:x.ev σ= .ah [] .exact) (hy:y.ev σ= .ah (ys.map f) c2) (hs:0<ys.length) (hb:ys.length*b<=1099511627776)
 (h: ∀(v':PV) (gD:List Nat) (H':AH),aB H' f sz ys v' gD->Nw H [] gD->HF [] H H'->(∀c3,aR H c3->aR H' c3)->WO P l s Q (upd σ d v') H'):
 WO P (⟨d,.n (.app sz b x y),none⟩::l) s Q σ H:=by
 show eZ P _ _ σ H
 rw [IB];simp only [nop,hx,hy];have h0: ¬((ys.map f).length=0):=by rw [J1];omega
 simp only [vJ,rowOf];rw [if_neg h0];split
 · intro cap hcap;simp only [J1,j0,V1,R2]at hcap⊢;refine h _ [H.next] _ (.inr ⟨H.next,cap,List.replicate ((cap -ys.length)*sz) .any,rfl,rfl,hcap,A2 _,?_,by rw [D2]⟩) (fun i hi=> .inr (by rw [P0.1 hi];exact R0 _)) (HF.new (HF.refl _ _)) (fun c3 k=>k.new);show(if H.next=H.next then some _ else _)=_;rw [if_pos rfl]
 · rename_i hno;exact(hno ⟨qO hf ([]:List α),qO hf ys,by simpa using hb⟩).elim
end
theorem anF {H:AH} {id:Nat} {cs:List PV} (h:H.obj id=some cs):H.put id cs=H:=by
 unfold AH.put;have:(fun i=>if i=id then some cs else H.obj i)=H.obj:=by
  funext i
  by_cases e:i=id
  · subst e;rw [if_pos rfl,h]
  · rw [if_neg e]
 rw [this]
theorem afw (e:List Nd) (h0:0<e.length) (hl:e.length<=1000000):Mj Tryz.prog 238 [gH e] Nd.cells 5 e:=by
 intro H;refine aL aBX (by simp) (aI ?_);unfold aqH;have h1: ¬(e.map Nd.cells).length=0:=by rw [J1];omega
 simp -implicitDefEqProofs only [go_sem,show ¬e.length=0 by omega,A0,ne_eq,W7];refine Mx (f:=Nd.cells) axC e .unk aC aC h0 (by omega) (fun v' gD H' g1 g2 g3 g4=> ?_);simp -implicitDefEqProofs only [go_sem];exact⟨gD,g1,g2,g3,g4⟩
theorem aal {C:List PV} {o:Nat} {p:PV} (ho:C[o]? =some p):putCells C o [p]=C:=by
 have hlt:=(S0.1 ho).1;have h2:=(S0.1 ho).2;unfold putCells;simp only [I0,j0,V1];rw [T1,IA,<-h2,List.getElem_cons_drop,w6]
theorem aie {σ:Nat->PV} {H:AH} {x w:AE} {id o:Nat} {p:PV} {C:List PV} (hx:x.ev σ= .ref id o) (hw:cellsOf (w.ev σ)=some [p]) (hone:p.one=true) (hC:H.obj id=some C) (ho:C[o]? =some p):jc (.store 1 x w) σ H=some (.any,H):=by
 have hlt:=(S0.1 ho).1;simp only [jc,hx,hw,hC];rw [if_pos ⟨rfl,by omega,by simp [hone]⟩,aal ho,anF hC]
theorem atE [Glob] {P:Program} {Q:Post} {σ:Nat->PV} {s:List Fm} {H:AH} {d:Option Nat} {k:DK} {l:List aD} {p:PV} (h:jc k σ H=some (p,H)) (h2:WO P l s Q (upd σ d p) H):WO P (⟨d,.d k,none⟩::l) s Q σ H:=by
 show WD P (jc k σ H) d l s Q σ
 rw [h];exact h2
end Go.VL
end
section
set_option maxRecDepth 100000
namespace Go.VL.Cn
open Go.Proofs Go.VL
def dc (n:Nat):Bool:=([284,263,181,188,258]:List Nat).contains n
def aif:AC:=(sO [oR 2 (.AO (.c (.ah [] .nil)))] (.seq (sO [oM 3 0,oR 4 (.bin .eql .sl (.t 3) (.c (.ah [] .nil)))] (.cond (.t 4) (sO [oR 2 (.AO (.c (.ah [] .nil)))] .ret) .skip)) (sO [oR 5 (.CO 1 []),oM 6 0,⟨(some 7),(.n (.app 1 16 (.t 5) (.t 6))),none⟩,oM 2 7] .ret)))
theorem aro:aM Tryz.prog dc true 181 8 [(.tmp 2)] aif:=aQ Tryz.func181
end Go.VL.Cn
namespace Go.VL.Cd
open Go.Proofs Go.VL
def dc (n:Nat):Bool:=([181,1000000]:List Nat).contains n
def MB:AC:=(sO [oB 10 .lss (.t 9) (.t 8)] (.seq (.cond (.t 10) .skip (.exit 0)) (.seq (.block 1 (sO [oM 11 9,oM 4 11] (.sV [0,0,0,0,0,0,48,112,240,496,0,0,3072,7168,15360,32752,65523,131059,262131,524287,1048575,2097151] [(oM 12 3,false),(oM 13 4,false),(oM 14 3,false),(oM 15 4,false),(oM 16 3,false),(oM 17 4,false),(oX 18 5 16 17,false),(oF 19 3 18,false),(oL 20 1 19,false),(oC 21 181 [(.t 20)],true),(oM 22 3,false),(oM 23 4,false),(oX 24 5 22 23,false),(oF 25 4 24,false),(oL 26 1 25,false),(oC 27 202 [(.t 26)],false),(oX 28 5 12 13,false),(oF 29 3 28,false),(oS 1 29 21,true)] [oX 30 5 14 15,oF 31 4 30,oS 1 31 27]))) (.ops [oB 32 .add (.t 9) (.c (.int .i64 1)),oM 9 32]))))
def arp:AC:=(sO [oR 2 (.AO (.c (.ah [] .nil)))] (sO [oM 5 0,oC 6 238 [(.t 5)],oM 3 6] (.seq (sO [oM 7 3,oN 8 7,oI 9 0] (.block 0 (.loop MB))) (sO [oM 33 3,oM 2 33] .ret))))
theorem aCA:aM Tryz.prog dc false 188 34 [(.tmp 2)] arp:=aQ Tryz.func188
end Go.VL.Cd
end
section
namespace Go.VL
open Go.Proofs Go.RowKit
inductive NV where
 |p (l:List Str)
 |m (id len cap:Nat)
def NV.pv:NV->PV
 | .p l=> .ah (l.map aF) .unk
 | .m id len cap=> .bP id 0 len cap 1
def NV.ids:NV->List Nat
 | .p _=>[]
 | .m id _ _=>[id]
def kD (x:Nd×NV):List PV:=[.int .i64 x.1.kind,.int .i64 x.1.n,.str x.1.text,x.2.pv,.ah (x.1.args.map aK) .unk]
instance:nk kD 5:=⟨fun _=>rfl,fun x=>by obtain⟨n,v⟩:=x;cases v<;>rfl⟩
def jF (H:AH) (x:Nd×NV):Prop:=match x.2 with
 | .p l=>l=[]/\x.1.names=[]
 | .m id len cap=>x.1.names≠[]/\aB H aF 1 x.1.names (.bP id 0 len cap 1) [id]
theorem jF.hf {M:List Nat} {H H':AH} {x:Nd×NV} (h:jF H x) (hf:HF M H H') (hd:Dj x.2.ids M):jF H' x:=by
 obtain⟨n,v⟩:=x;cases v with
 |p l=>exact h
 |m id len cap=>exact⟨h.1,h.2.hf hf hd⟩
theorem jF.lt {H:AH} {x:Nd×NV} (h:jF H x): ∀j∈x.2.ids,j<H.next:=by
 obtain⟨n,v⟩:=x;cases v with
 |p l=>intro j hj;cases hj
 |m id len cap=>exact h.2.lt
structure OI (H:AH) (l:List (Nd×NV)) (v:PV) (id:Nat) (k lo:Nat):Prop where
 row:aB H kD 5 l v [id]
 Cj: ∀(i:Nat) (x:Nd×NV),l[i]? =some x->if i<k then jF H x else x.2= .p x.1.names
 dj: ∀(i j:Nat) (x y:Nd×NV),l[i]? =some x->l[j]? =some y->i≠j->Dj x.2.ids y.2.ids
 ne: ∀(i:Nat) (x:Nd×NV),l[i]? =some x->id∉x.2.ids
 lob: ∀(i:Nat) (x:Nd×NV),l[i]? =some x-> ∀j∈x.2.ids,lo<=j
 X0:lo<=id
theorem aii (l:List Str) (h0:l≠[]) (hl:l.length<=1000000):Mj Tryz.prog 181 [.ah (l.map aF) .unk] aF 1 l:=by
 intro H;refine aL Cn.aro (by simp) (aI ?_);unfold Cn.aif;have hp:0<l.length:=List.length_pos_iff.2 h0;have h1: ¬(l.map aF).length=0:=by rw [J1];omega
 simp -implicitDefEqProofs only [go_sem,show ¬l.length=0 by omega,A0,ne_eq,W7];refine Mx (f:=aF) lG l .unk aC aC hp (by omega) (fun v' gD H' g1 g2 g3 g4=> ?_);simp -implicitDefEqProofs only [go_sem];exact⟨gD,g1,g2,g3,g4⟩
theorem QG (n:Nd) (hl:n.names.length<=1000000) (H:AH):aW Tryz.prog 181 [.ah (n.names.map aF) .unk] H fun v H'=> ∃y:NV,v=y.pv/\jF H' (n,y)/\(∀j∈y.ids,H.next<=j)/\HF [] H H'/\ ∀c,aR H c->aR H' c:=by
 by_cases h0:n.names=[]
 · refine aW.mono (Ov n.names hl H) fun v H' ⟨h1,h2⟩=>⟨.p [],?_,(show jF H' (n,.p [])from⟨rfl,h0⟩),fun j hj=>absurd hj D0,?_,?_⟩
   · rw [h1,h0];rfl
   · subst h2;exact HF.refl _ _
   · subst h2;exact fun _ h=>h
 · refine aW.mono (aii n.names h0 hl H) fun v H' ⟨ids,h1,h2,h3,h4⟩=> ?_;have h1':=h1;rcases h1 with⟨_,h,_⟩|⟨id,cap,junk,rfl,rfl,_⟩
   · exact absurd h h0
   · refine⟨.m id n.names.length cap,rfl,⟨h0,h1'⟩,fun j hj=> ?_,h3,h4⟩;rcases h2 j hj with q|q
     · cases q
     · exact q
section
variable {α:Type} {f:α->List PV} {sz:Nat} {σ:Nat->PV} {H:AH}
theorem aij {n:Nat} {x w:AE} [hr:nk f sz] {xs:List α} {v:PV} {ids:List Nat} {id o i j:Nat} {a y:α} {vs:List PV}
 (hx:x.ev σ= .ref id o) (hid:ids=[id]) (ho:o=i*sz+j) (hrow:aB H f sz xs v ids) (ha:xs[i]? =some a) (hv:cellsOf (w.ev σ)=some vs) (hl:vs.length=n) (hone:vs.all PV.one=true) (hj:j+n<=sz) (hy:putCells (f a) j vs=f y):
 ∃H',jc (.store n x w) σ H=some (.any,H')/\aB H' f sz (xs.set i y) v ids/\HF ids H H'/\ ∀c,aR H c->aR H' c:=by
 have h:=qd (P:=Tryz.prog) (s:=[]) (Q:=fun e σ' H'=>aB H' f sz (xs.set i y) v ids/\HF ids H H'/\ ∀c,aR H c->aR H' c) (d:=none) (n:=n) (x:=x) (w:=w) (l:=[]) hx hid ho hrow ha hv hl hone hj hy (fun H' h1 h2 h3=>⟨h1,h2,h3⟩);have h2:WD Tryz.prog (jc (.store n x w) σ H) none [] [] (fun e σ' H'=>aB H' f sz (xs.set i y) v ids/\HF ids H H'/\ ∀c,aR H c->aR H' c) σ:=h;have key: ∀q,jc (.store n x w) σ H=some q->q.1= .any:=by
  intro q hq;simp only [jc,hx,hv]at hq;split at hq
  · split at hq
    · cases hq;rfl
    · cases hq
  · cases hq
 cases hd:jc (.store n x w) σ H with
 |none=>rw [hd]at h2;exact h2.elim
 |some q=>
  rw [hd]at h2;obtain⟨p,H'⟩:=q;have:=key _ hd;simp only at this;subst this;exact⟨H',rfl,h2⟩
end
def yI:List (aD×Bool):=[(oM 12 3,false),(oM 13 4,false),(oM 14 3,false),(oM 15 4,false),(oM 16 3,false),(oM 17 4,false),(oX 18 5 16 17,false),(oF 19 3 18,false),(oL 20 1 19,false),(oC 21 181 [(.t 20)],true),(oM 22 3,false),(oM 23 4,false),(oX 24 5 22 23,false),(oF 25 4 24,false),(oL 26 1 25,false),(oC 27 202 [(.t 26)],false),(oX 28 5 12 13,false),(oF 29 3 28,false),(oS 1 29 21,true)]
def ars:List Nat:=[0,0,0,0,0,0,48,112,240,496,0,0,3072,7168,15360,32752,65523,131059,262131,524287,1048575,2097151]
def tO (v:PV) (i:Nat) (id:Nat) (n:Nd) (y:PV):Nat->PV
 |0|2|4|10=>v
 |1|3|5|11=> .int .i64 i
 |6|12|16=> .ref id (i*5)
 |7|17=> .ref id (i*5+3)
 |8=> .ah (n.names.map aF) .unk
 |9=>y
 |13=> .ref id (i*5+4)
 |14|15=> .ah (n.args.map aK) .unk
 |18=> .any
 |_=>ud
theorem aik (n:Nd) (h1:n.names.length<=1000000) (h2:n.args.length<=1000000) {l:List (Nd×NV)} {i id:Nat} {v:PV} {σ:Nat->PV} {H:AH} {K:(Nat->PV)->AH->Prop}
 (hrow:aB H kD 5 l v [id]) (hx:l[i]? =some (n,.p n.names)) (s3:σ 3=v) (s4:σ 4= .int .i64 i)
 (hK: ∀(y:NV) (σ':Nat->PV) (H':AH),jF H' (n,y)->(∀j∈y.ids,H.next<=j)->aB H' kD 5 (l.set i (n,y)) v [id]->HF [id] H H'->(∀c,aR H c->aR H' c)->σ'=bV yI (tO v i id n y.pv) σ 19->K σ' H'):
 ∃val:Nat->PV,yT Tryz.prog ars yI K σ (wZ yI).length (wZ yI) val H:=by
 obtain⟨id',C,e1,hid,hC,hcell,hle,hdrop,hI⟩:=aB.content hrow hx;obtain rfl:id=id':=by simpa using e1
 have hI':jS 5 v (.int .i64 i)=some (.ref id (i*5)):=hI .i64 i (by omega) (by omega);have c3:C[i*5+3]? =some (.ah (n.names.map aF) .unk):=hcell 3 _ rfl;have c4:C[i*5+4]? =some (.ah (n.args.map aK) .unk):=hcell 4 _ rfl;have aru:wZ yI=[9,18]:=by kernel_rfl
 refine⟨tO v i id n ud,?_⟩
 refine atD (fun rem val H'=>(rem=[9,18]/\val=tO v i id n ud/\H'=H)\/
  (rem=[18]/\ ∃y:NV,val=tO v i id n y.pv/\jF H' (n,y)/\(∀j∈y.ids,H.next<=j)/\HF [] H H'/\ ∀c,aR H c->aR H' c)\/
  (rem=[]/\ ∃y:NV,val=tO v i id n y.pv/\jF H' (n,y)/\(∀j∈y.ids,H.next<=j)/\aB H' kD 5 (l.set i (n,y)) v [id]/\HF [id] H H'/\ ∀c,aR H c->aR H' c)) ?_ ?_ ?_ _ _ _ _ (R0 _) (.inl ⟨aru,rfl,rfl⟩)
 ·
   have key: ∀(y:PV) (H':AH),H'.obj id=some C->Ac Tryz.prog H' (fun _=>false) 0 yI (tO v i id n y) σ:=by
    intro y H' hC';unfold yI;refine⟨.inr (.inr ⟨rfl,?_⟩),.inr (.inr ⟨rfl,?_⟩),.inr (.inr ⟨rfl,?_⟩),.inr (.inr ⟨rfl,?_⟩),.inr (.inr ⟨rfl,?_⟩),.inr (.inr ⟨rfl,?_⟩),.inr (.inr ⟨rfl,?_⟩),.inr (.inr ⟨rfl,?_⟩),.inr (.inr ⟨rfl,?_⟩),.inl rfl,.inr (.inr ⟨rfl,?_⟩),.inr (.inr ⟨rfl,?_⟩),.inr (.inr ⟨rfl,?_⟩),.inr (.inr ⟨rfl,?_⟩),.inr (.inr ⟨rfl,?_⟩),.inr (.inr ⟨rfl,?_⟩),.inr (.inr ⟨rfl,?_⟩),.inr (.inr ⟨rfl,?_⟩),.inl rfl,trivial⟩
    all_goals simp -implicitDefEqProofs only [dQ,go_sem,tO,s3,s4,hI',hC',c3,c4,Nat.reduceAdd,C7]
    exact aic n.args h2 H'
   rintro rem val H' (⟨rfl,rfl,rfl⟩|⟨rfl,y,rfl,g1,g2,g3,g4⟩|⟨rfl,y,rfl,g1,g2,g3,g4,g5⟩)
   · exact⟨fun _=>false,key _ _ hC,fun i h=>by cases h⟩
   · exact⟨fun _=>false,key _ _ ((g3.2 id hid D0).trans hC),fun i h=>by cases h⟩
   · refine⟨fun k=>decide (k<18/\k≠2/\k≠3),?_,fun k h=> .inr ⟨18,by rw [aru];simp,by simp,?_⟩⟩
     · unfold yI;refine⟨.inr (.inl rfl),.inr (.inl rfl),.inr (.inr ⟨rfl,?_⟩),.inr (.inr ⟨rfl,?_⟩),.inr (.inl rfl),.inr (.inl rfl),.inr (.inl rfl),.inr (.inl rfl),.inr (.inl rfl),.inl rfl,.inr (.inl rfl),.inr (.inl rfl),.inr (.inl rfl),.inr (.inl rfl),.inr (.inl rfl),.inr (.inl rfl),.inr (.inl rfl),.inr (.inl rfl),.inl rfl,trivial⟩
       all_goals simp -implicitDefEqProofs only [dQ,go_sem,tO,s3,s4,Nat.reduceAdd,C7]
     · have h:=W5 h;have hall:(List.range 18).all (fun k=>decide (k=2)||decide (k=3)||dS ars k 18)=true:=by kernel_rfl
       have:=S3.1 hall k (B5.2 h.1);simpa [h.2.1,h.2.2]using this
 · have hvf: ∀(a b:PV) (k:Nat),k≠9->tO v i id n a k=tO v i id n b k:=by
    intro a b k hk;unfold tO;split<;>first|rfl|exact absurd rfl hk
   rintro rem val H' j o (⟨rfl,rfl,rfl⟩|⟨rfl,y,rfl,g1,g2,g3,g4⟩|⟨rfl,y,rfl,g1,g2,g3,g4,g5⟩) hj ho hb
   · have hj9:j=9:=by
      simp only [M1,D0,B7]at hj;rcases hj with rfl|rfl
      · rfl
      · rcases hb 9 (by simp)with h|h
        · exact absurd h (by decide+kernel)
        · cases h
     subst hj9;have ho':o=oC 21 181 [(.t 20)]:=by
      have:yI[9]? =some (oC 21 181 [(.t 20)],true):=rfl;rw [this]at ho;exact(B9 (V2 ho)).1.symm
     subst ho';refine⟨trivial,?_⟩;show aW Tryz.prog 181 [bV yI (tO v i id n ud) σ 9 20] H' _;have e20:bV yI (tO v i id n ud) σ 9 20= .ah (n.names.map aF) .unk:=rfl;rw [e20];refine aW.mono (QG n h1 H') fun r H1 ⟨y,k1,k2,k3,k4,k5⟩=>⟨tO v i id n y.pv,fun k hk _=>hvf _ _ k (fun h=>hk (by rw [h];simp)),k1.symm,.inr (.inl ⟨by rfl,y,rfl,k2,k3,k4,k5⟩)⟩
   · have aFL:j=18:=by simpa using hj
     subst aFL;have ho':o=oS 1 29 21:=by
      have:yI[18]? =some (oS 1 29 21,true):=rfl;rw [this]at ho;exact(B9 (V2 ho)).1.symm
     subst ho';refine⟨trivial,?_⟩;have hrow':aB H' kD 5 l v [id]:=hrow.hf g3 (fun _ _ h=>by cases h);obtain⟨H2,d1,d2,d3,d4⟩:=aij (f:=kD) (σ:=bV yI (tO v i id n y.pv) σ 18) (H:=H') (x:= .t 29) (w:= .t 21) (n:=1) (id:=id) (o:=i*5+3) (i:=i) (j:=3) (a:=(n,.p n.names)) (y:=(n,y)) (vs:=[y.pv]) rfl rfl rfl hrow' hx (by cases y<;>rfl) rfl (by cases y<;>rfl) (by decide) (by cases y<;>rfl);show(match jc (.store 1 (.t 29) (.t 21)) (bV yI (tO v i id n y.pv) σ 18) H' with|some (p,H2)=>_|none=>False);rw [d1];refine⟨tO v i id n y.pv,fun _ _ _=>rfl,rfl,.inr (.inr ⟨by rfl,y,rfl,g1.hf d3 (fun a ha hm=> ?_),g2,d2,?_,fun c h=>d4 c (g4 c h)⟩)⟩
     · have:=P0.1 hm;have:=g2 a ha;omega
     · exact⟨E1 g3.1 d3.1,fun a ha hm=>(d3.2 a (K0 ha g3.1) hm).trans (g3.2 a ha D0)⟩
   · cases hj
 · rintro val H' (⟨h,_⟩|⟨h,_⟩|⟨_,y,rfl,g1,g2,g3,g4,g5⟩)
   · cases h
   · cases h
   · exact hK y _ H' g1 g2 g3 g4 g5 rfl
theorem anG {H H':AH} {l:List (Nd×NV)} {v:PV} {id i lo:Nat} {n:Nd} {w:NV} (hO:OI H l v id i lo) (hx:l[i]? =some (n,w)) {y:NV} (g1:jF H' (n,y)) (g2: ∀j∈y.ids,H.next<=j) (g3:aB H' kD 5 (l.set i (n,y)) v [id]) (g4:HF [id] H H') (hlo:lo<=H.next):OI H' (l.set i (n,y)) v id (i+1) lo:=by
 have hi:=(S0.1 hx).1;have hget: ∀k x,(l.set i (n,y))[k]? =some x->(k=i/\x=(n,y))\/(k≠i/\l[k]? =some x):=by
  intro k x h;rw [r8]at h;by_cases hk:i=k
  · subst hk;rw [if_pos rfl,if_pos hi]at h;exact .inl ⟨rfl,(V2 h).symm⟩
  · rw [if_neg hk]at h;exact .inr ⟨fun e=>hk e.symm,h⟩
 have hold: ∀k x,k≠i->l[k]? =some x-> ∀j∈x.2.ids,j<H.next:=by
  intro k x hk h j hj;have:=hO.Cj k x h;by_cases hlt:k<i
  · rw [if_pos hlt]at this;exact this.lt j hj
  · rw [if_neg hlt]at this;rw [this]at hj;cases hj
 refine⟨g3,?_,?_,?_,?_,hO.X0⟩
 · intro k x h;rcases hget k x h with⟨rfl,rfl⟩|⟨hk,h⟩
   · rw [if_pos (A2 _)];exact g1
   · have:=hO.Cj k x h;by_cases hlt:k<i
     · rw [if_pos hlt]at this;rw [if_pos (by omega)];refine this.hf g4 fun a ha hm=>hO.ne k x h ?_;rw [<-P0.1 hm];exact ha
     · rw [if_neg hlt]at this;rw [if_neg (by omega)];exact this
 · intro k k' x x' h h' hne a ha ha';rcases hget k x h with⟨q1,q2⟩|⟨hk,hx1⟩<;>rcases hget k' x' h' with⟨q3,q4⟩|⟨hk',hx2⟩
   · exact hne (q1.trans q3.symm)
   · subst q2;have:=g2 a ha;have:=hold k' x' hk' hx2 a ha';omega
   · subst q4;have:=g2 a ha';have:=hold k x hk hx1 a ha;omega
   · exact hO.dj k k' x x' hx1 hx2 hne a ha ha'
 · intro k x h hm;rcases hget k x h with⟨rfl,rfl⟩|⟨hk,h⟩
   · have:=g2 id hm;have:=hO.row.lt id (P0.2 rfl);omega
   · exact hO.ne k x h hm
 · intro k x h j hj;rcases hget k x h with⟨rfl,rfl⟩|⟨hk,h⟩
   · have:=g2 j hj;omega
   · exact hO.lob k x h j hj
theorem akE (e:List Nd) (hn: ∀(i:Nat) n,e[i]? =some n->n.names.length<=1000000/\n.args.length<=1000000) (hl:e.length<=1000000) (lo:Nat): ∀(m i:Nat) (σ:Nat->PV) (H:AH) (v:PV) (id:Nat) (l:List (Nd×NV)) (Q:Post),i+m=e.length->σ 3=v->σ 8= .int .i64 e.length->σ 9= .int .i64 i->l.map Prod.fst=e->OI H l v id i lo->lo<=H.next->
 (∀σ' H' l',σ' 3=v->l'.map Prod.fst=e->OI H' l' v id e.length lo->HF [id] H H'->(∀c,aR H c->aR H' c)->Q (.exit 0) σ' H')->W Tryz.prog (.loop Cd.MB) Q σ H:=by
 intro m
 induction m with
 |zero=>
  intro i σ H v id l Q hi s3 s8 s9 he hO hlo q0;refine bB (fun K hK=>aI ?_);unfold Cd.MB;have hd:decide ((i:Int)<(e.length:Int))=false:=B0 (by omega);simp -implicitDefEqProofs only [go_sem,s3,s8,s9,hd];have hi':i=e.length:=by omega
  subst hi';exact q0 _ _ l aC he hO (HF.refl _ _) (fun _ h=>h)
 |succ m ih=>
  intro i σ H v id l Q hi s3 s8 s9 he hO hlo q0;have hlt:i<e.length:=by omega
  have hll:l.length=e.length:=by rw [<-he,J1]
  obtain⟨⟨n,w⟩,hx0⟩: ∃x,l[i]? =some x:=⟨_,W2 (by omega)⟩;have hxe:e[i]? =some n:=by
   have:=congrArg (·[i]?) he
   simp only [J0,hx0,X2]at this;exact this.symm
  obtain⟨h1,h2⟩:=hn i _ hxe;have hp:=hO.Cj i _ hx0;rw [if_neg (d8 _)]at hp;have hx:l[i]? =some (n,.p n.names):=by rw [hx0];simp only at hp;rw [hp]
  refine bB (fun K hK=>aI ?_);unfold Cd.MB;have hd:decide ((i:Int)<(e.length:Int))=true:=g0 (by omega);simp -implicitDefEqProofs only [go_sem,s3,s8,s9,hd];refine Xu (aik n h1 h2 hO.row hx aC aC fun y σ' H' g1 g2 g3 g4 g5 hσ=> ?_);have hO':=anG hO hx g1 g2 g3 g4 hlo;have hx2:(l.set i (n,y))[i]? =some (n,y):=by rw [r8,if_pos rfl,if_pos (by omega)]
  obtain⟨id',C,e1,hid,hC,hcell,hle,hdrop,hI⟩:=aB.content g3 hx2;obtain rfl:id=id':=by simpa using e1
  have hI':jS 5 v (.int .i64 i)=some (.ref id (i*5)):=hI .i64 i (by omega) (by omega);have c4:C[i*5+4]? =some (.ah (n.args.map aK) .unk):=hcell 4 _ (by cases y<;>rfl);have t14:σ' 14=v:=by rw [hσ];rfl
  have t15:σ' 15= .int .i64 i:=by rw [hσ];rfl
  have t27:σ' 27= .ah (n.args.map aK) .unk:=by rw [hσ];rfl
  have t3:σ' 3=v:=by rw [hσ];exact s3
  have t8:σ' 8= .int .i64 e.length:=by rw [hσ];exact s8
  have t9:σ' 9= .int .i64 i:=by rw [hσ];exact s9
  clear hσ;simp -implicitDefEqProofs only [go_sem,t14,t15,t27,hI',hC,c4];refine atE (aie (id:=id) (o:=i*5+4) (p:= .ah (n.args.map aK) .unk) (C:=C) (by simp -implicitDefEqProofs only [go_sem,t14,t15,t27,hI',hC,c4]) (by simp -implicitDefEqProofs only [go_sem,t14,t15,t27,hI',hC,c4]) rfl hC c4) ?_;have hw:IntKind.wrap .i64 ((i:Int)+1)=((i+1:Nat):Int):=by rw [IntKind.wrap_i64];omega
  simp -implicitDefEqProofs only [go_sem,t9];refine hK _ _ (ih (i+1) _ H' v id _ Q (by omega) aC aC (by simp -implicitDefEqProofs only [go_sem];rw [hw]) ?_ hO' (E1 hlo g4.1) fun σ2 H2 l2 k1 k2 k3 k4 k5=>q0 σ2 H2 l2 k1 k2 k3 ?_ (fun c h=>k5 c (g5 c h)))
  · rw [HA,he];exact(by obtain⟨h,rfl⟩:=S0.1 hxe;exact m7 h)
  · exact⟨E1 g4.1 k4.1,fun a ha hm=>(k4.2 a (K0 ha g4.1) hm).trans (g4.2 a ha hm)⟩
theorem ail (e:List Nd) (h0:0<e.length) (hn: ∀(i:Nat) n,e[i]? =some n->n.names.length<=1000000/\n.args.length<=1000000) (hl:e.length<=1000000) (H:AH):
 aW Tryz.prog 188 [gH e] H fun v H'=> ∃id l,l.map Prod.fst=e/\OI H' l v id e.length H.next/\HF [] H H'/\ ∀c,aR H c->aR H' c:=by
 refine aL Cd.aCA (by simp) (aI ?_);unfold Cd.arp;simp -implicitDefEqProofs only [go_sem];refine akz (afw e h0 hl) fun v ids H' g1 g2 g3 g4=> ?_;have hlen:=g1.Ow;obtain⟨id,rfl⟩: ∃id,ids=[id]:=by
  rcases g1 with⟨_,h,_⟩|⟨id,_,_,h,_⟩
  · rw [h]at h0;simp at h0
  · exact⟨id,h⟩
 have aFM:H.next<=id:=by
  rcases g2 id (P0.2 rfl)with h|h
  · cases h
  · exact h
 have hmap:(e.map fun n=>((n,NV.p n.names):Nd×NV)).map kD=e.map Nd.cells:=by
  rw [E7];rfl
 have hO:OI H' (e.map fun n=>(n,NV.p n.names)) v id 0 H.next:=by
  refine⟨?_,fun i x hx=> ?_,fun i j x y hx hy _=> ?_,fun i x hx=> ?_,fun i x hx=> ?_,aFM⟩
  · rcases g1 with⟨_,h,_⟩|⟨id',cap,junk,h1,h2,h3,h4,h5,h6⟩
    · rw [h]at h0;simp at h0
    · exact .inr ⟨id',cap,junk,h1,by rw [J1];exact h2,by rw [J1];exact h3,h4,by rw [hmap];exact h5,by rw [J1];exact h6⟩
  all_goals
   rw [J0,Z1]at hx;obtain⟨n,hn',rfl⟩:=hx
  · rfl
  · intro a ha;cases ha
  · intro hm;cases hm
  · intro a ha;cases ha
 simp -implicitDefEqProofs only [go_sem,hlen];refine akE e hn hl H.next e.length 0 _ H' v id _ _ (by omega) aC aC aC (by rw [E7];exact List.map_id _) hO g3.1 fun σ' H2 l2 s3 k2 k3 k4 k5=> ?_;simp -implicitDefEqProofs only [go_sem,s3];exact⟨id,l2,k2,k3,⟨E1 g3.1 k4.1,fun a ha hm=>(k4.2 a (K0 ha g3.1) (fun q=>by have:=P0.1 q;omega)).trans (g3.2 a ha hm)⟩,fun c h=>k5 c (g4 c h)⟩
end Go.VL
end
section
namespace Go.VL
open Go.Proofs Go.RowKit Go.Sort
theorem atF {w:World} (hw:WH (fun b=>w.heap.size<=b) w):Lib.TabIs Tryz.prog w "internal/strconv.uint64pow10" .u64 Lib.pow10Tab:=by
 obtain⟨_,t,fr,h⟩:=hw 3 _ (by kernel_rfl:Glob.wb 3=some (Rx.map (Value.int .u64)).toArray);unfold Lib.TabIs World.var?;rw [show Tryz.prog.globalNamed "internal/strconv.uint64pow10" =some 3 by kernel_rfl,W0,h];exact congrArg some (by kernel_rfl)
theorem below_grow (w:World) (os:Array Obj):Below w.heap.size w (grow w os):=⟨rfl,rfl,rfl,by simp [grow],fun k hk=>by
 show(w.heap++os)[k]? =_
 rw [B6 hk]⟩
theorem axE (n:Int) (h: -9223372036854775808<=n/\n<=9223372036854775807):aG Tryz.prog 320 [.int .i64 n] (.str (Lib.itoa n)):=by
 refine Ou ⟨_,Tryz.func320,rfl,by kernel_rfl⟩ (fun w G vs hg hi hw hv=> ?_) (dJ.mem (.cons (.int _ _) .nil));rw [Vs.aFj hv];refine(Tryz.strconv_Itoa n h.1 h.2 w (atF hw)).mono ?_;rintro e w' ⟨rfl,k,os,rfl⟩;exact⟨_,rfl,(below_drewN w k).trans ((below_grow (w.drewN k) os).mono (below_drewN w k).size),fun G n=> .str _⟩
end Go.VL
end
section
namespace Go.VL
variable [Glob]
def anH:PV->Nat
 | .ref i _=>i
 |_=>0
theorem anI {i o:Nat}:anH (.ref i o)=i:=rfl
def GI (σ:Nat->PV):List (Nat×List PV)->List Nat
 |[]=>[]
 |(s,_)::l=>anH (σ s)::GI σ l
def Nes (i:Nat):List Nat->Prop
 |[]=>True
 |j::l=>(i=j)=False/\(j=i)=False/\Nes i l
def Gu (σ:Nat->PV) (H:AH):List (Nat×List PV)->List Nat->List Nat->Prop
 |[],[],_=>True
 |(s,cs)::l,i::r,prev=>(σ s= .ref i 0/\H.obj i=some cs)/\i<H.next/\Nes i prev/\Gu σ H l r (i::prev)
 |_,_,_=>False
def Zi (H:AH):List (List PV)->List Nat->Prop
 |[],[]=>True
 |cs::l,i::r=>H.obj i=some cs/\Zi H l r
 |_,_=>False
def Nxs (H:AH):List Nat->Prop
 |[]=>True
 |i::r=>(i<H.next/\(i=H.next)=False/\(∀j,(i=H.next+j)=False)/\(H.next=i)=False/\ ∀j,(H.next+j=i)=False)/\Nxs H r
section
variable {σ:Nat->PV} {H H':AH} {s i j:Nat} {cs:List PV} {l:List (Nat×List PV)} {is prev r:List Nat} {c:List (List PV)}
theorem agH:Nes i []=True:=rfl
theorem acn:Nes i (j::r)=((i=j)=False/\(j=i)=False/\Nes i r):=rfl
theorem atG:Zi H [] []=True:=rfl
theorem anJ:Zi H (cs::c) (i::r)=(H.obj i=some cs/\Zi H c r):=rfl
theorem anK (h:Gu σ H ((s,cs)::l) is prev): ∃i r,is=i::r/\σ s= .ref i 0/\H.obj i=some cs/\i<H.next/\(i=H.next)=False/\(∀j,(i=H.next+j)=False)/\(H.next=i)=False/\(∀j,(H.next+j=i)=False)/\Nes i prev/\Gu σ H l r (i::prev):=by
 cases is with
 |nil=>exact h.elim
 |cons i r=>exact⟨i,r,rfl,h.1.1,h.1.2,h.2.1,ne_next h.2.1,bA h.2.1,S2 (Nat.ne_of_gt h.2.1),fun j=>S2 (by have:=h.2.1;omega),h.2.2.1,h.2.2.2⟩
theorem atH (h:Gu σ H [] is prev):is=[]:=by
 cases is with
 |nil=>rfl
 |cons i r=>exact h.elim
theorem aco: ∀{l:List (Nat×List PV)} {is prev:List Nat},Gu σ H l is prev-> ∀i∈is,i<H.next
 |[],[],_,_=>fun i hi=>by cases hi
 |(s,cs)::l,i::r,prev,h=>fun j hj=>by
   rcases M1.1 hj with rfl|hj
   · exact h.2.1
   · exact aco h.2.2.2 j hj
 |[],_::_,_,h=>h.elim
 |_::_,[],_,h=>h.elim
theorem acp: ∀{is:List Nat},(∀i∈is,i<H.next)->Nxs H is
 |[],_=>trivial
 |i::r,h=>⟨have g:=h i (A1 ..);⟨g,ne_next g,bA g,S2 (Nat.ne_of_gt g),fun j=>S2 (by omega)⟩,acp fun j hj=>h j (I1 _ hj)⟩
theorem axF (h1:σ s= .ref i 0/\H.obj i=some cs) (h2:i<H.next) (h3:Nes i prev) (h4:Gu σ H l r (i::prev)):Gu σ H ((s,cs)::l) (i::r) prev:=⟨h1,h2,h3,h4⟩
end
def Nin (i:Nat):List Nat->Prop
 |[]=>True
 |j::l=>(i=j)=False/\Nin i l
theorem atI {i:Nat}:Nin i []=True:=rfl
theorem anL {i j:Nat} {l:List Nat}:Nin i (j::l)=((i=j)=False/\Nin i l):=rfl
theorem agJ: ∀{l:List Nat} {i:Nat},Nin i l->i∉l
 |[],_,_=>D0
 |j::l,i,h=>fun hm=>by
  rcases M1.1 hm with e|e
  · rw [e]at h;exact absurd h.1 (by simp)
  · exact agJ h.2 e
theorem atJ {i n k:Nat} (h:i<n):(i<n+k)=True:=eq_true (by omega)
theorem anM {n k:Nat}:(n<n+(k+1))=True:=eq_true (by omega)
theorem atK {n j k:Nat}:(n+j<n+k)=(j<k):=propext (by omega)
attribute [go_sem] atI anL atJ anM atK Nat.reduceLT
attribute [go_sem] anI agH acn atG anJ
def QH:List (Nat×List PV)->List (List PV)
 |[]=>[]
 |(_,cs)::l=>cs::QH l
theorem atL:QH []=[]:=rfl
theorem anN {s:Nat} {cs:List PV} {l:List (Nat×List PV)}:QH ((s,cs)::l)=cs::QH l:=rfl
attribute [go_sem] atL anN Option.getD_some Option.getD_none
def Qj (L:List (Nat×Nat)) (ob:List (Nat×List PV)) (is:List Nat) (H0:AH) (e:Ex×List (Nat×PV)×Option (List (List PV))) (Q:Post) (aH:Nat->PV):Prop:=
 ∀σ' H',Fv L aH σ'->wN σ' e.2.1->Zi H' (e.2.2.getD (QH ob)) is->HF is H0 H'->Q e.1 σ' H'
class Lo (P:Program) (a:AC) {α:Type} (o:Option α) (L:outParam (List (Nat×Nat))) (sl:outParam (List (Nat×PV))) (ob:outParam (List (Nat×List PV))) (ex:outParam (α->Ex×List (Nat×PV)×Option (List (List PV)))):Prop where
 c: ∀σ H is,wN σ sl->Gu σ H ob is []-> ∀r,o=some r-> ∀Q,Qj L ob is H (ex r) Q σ->W P a Q σ H
section
variable {P:Program} {a b:AC} {α β:Type} {o:Option α} {L L0:List (Nat×Nat)} {sl:List (Nat×PV)} {ob:List (Nat×List PV)} {ex:α->Ex×List (Nat×PV)×Option (List (List PV))} {f:α->Option β} {r:α} {Q:Post} {σ aH:Nat->PV} {H H0:AH} {is:List Nat}
theorem HF.tro {M:List Nat} {H H' fu:AH} (h:HF M H H') (h':HF M H' fu):HF M H fu:=HF.via h' (fun i hi=> .inl hi) h
theorem arw {is:List Nat} {H H':AH} (hh:HF is H H'): ∀i,i<H.next->i<H'.next/\(i=H'.next)=False/\(∀j,(i=H'.next+j)=False)/\(H'.next=i)=False/\ ∀j,(H'.next+j=i)=False:=
 fun i hi=>have h:=K0 hi hh.1;⟨h,ne_next h,bA h,S2 (Nat.ne_of_gt h),fun j=>S2 (by omega)⟩
theorem arx {is:List Nat} {H H':AH} (hh:HF is H H'): ∀i,i<H.next->Nin i is->H'.obj i=H.obj i:=fun i hi hn=>hh.2 i hi (agJ hn)
theorem axG {s:List Fm} [C:Lo P a o L sl ob ex] {r:β} (hs:wN σ sl) (ho:Gu σ H ob (GI σ ob) []) (h: ∀p σ' H',Fv L σ σ'->wN σ' (ex p).2.1->Zi H' ((ex p).2.2.getD (QH ob)) (GI σ ob)->Nxs H' (GI σ ob)->HF (GI σ ob) H H'->f p=some r->WE P (ex p).1 s Q σ' H'):Option.bind o f=some r->WS P a s Q σ H:=fun e=>
 let ⟨p,e1,e2⟩:=aj e
 C.c σ H _ hs ho p e1 (BP P s Q) fun σ' H' hf hx ht hh=>h p σ' H' hf hx ht (acp fun i hi=>K0 (aco ho i hi) hh.1) hh e2
theorem arz {l:List aD} {s:List Fm} [C:Lo P (.ops l) o L sl ob ex] {r:β} (hs:wN σ sl) (ho:Gu σ H ob (GI σ ob) []) (h: ∀p σ' H',Fv L σ σ'->wN σ' (ex p).2.1->Zi H' ((ex p).2.2.getD (QH ob)) (GI σ ob)->Nxs H' (GI σ ob)->HF (GI σ ob) H H'->f p=some r->WE P (ex p).1 s Q σ' H'):Option.bind o f=some r->WO P l s Q σ H:=fun e=>
 let ⟨p,e1,e2⟩:=aj e
 C.c σ H _ hs ho p e1 (BP P s Q) fun σ' H' hf hx ht hh=>h p σ' H' hf hx ht (acp fun i hi=>K0 (aco ho i hi) hh.1) hh e2
theorem lo0 (h:o=none):Lo P a o L sl ob ex:=⟨fun _ _ _ _ _ _ e=>by rw [h]at e;cases e⟩
theorem loS (ea:a=b) (h: ∀σ H is,wN σ sl->Gu σ H ob is []-> ∀r Q,Qj L ob is H (ex r) Q σ-> ∀K,Nxt P (.loop a) Q K->o=some r->W P b (Ab K Q) σ H):Lo P (.loop a) o L sl ob ex:=
 ⟨fun σ H is hs ho r e Q hQ=>bB fun K hK=>by rw [show W P a=W P b from congrArg _ ea];exact h σ H is hs ho r Q hQ K hK e⟩
theorem anO (ea:a=b) (h: ∀σ H is,wN σ sl->Gu σ H ob is []-> ∀r Q,Qj L ob is H (ex r) Q σ->o=some r->W P b Q σ H):Lo P a o L sl ob ex:=
 ⟨fun σ H is hs ho r e Q hQ=>by rw [show W P a=W P b from congrArg _ ea];exact h σ H is hs ho r Q hQ e⟩
theorem IU {l m:List aD} (ea:l=m) (h: ∀σ H is,wN σ sl->Gu σ H ob is []-> ∀r Q,Qj L ob is H (ex r) Q σ->o=some r->W P (.ops m) Q σ H):Lo P (.ops l) o L sl ob ex:=
 ⟨fun σ H is hs ho r e Q hQ=>by subst ea;exact h σ H is hs ho r Q hQ e⟩
theorem loN {ob0:List (Nat×List PV)} [C:Lo P (.loop a) o L sl ob ex] {K:(Nat->PV)->AH->Prop} (e:o=some r) (hK:Nxt P (.loop a) Q K) (hQ:Qj L ob0 is H0 (ex r) Q aH) (hs:wN σ sl) (ho:Gu σ H ob is []) (hf:Fv L aH σ) (hh:HF is H0 H)
 (he: ∀x,(ex x).2.2.getD (QH ob0)=(ex x).2.2.getD (QH ob):=by intro x;first|rfl|(rcases x with x|x<;>first|rfl|(rcases x with x|x<;>first|rfl|(rcases x with x|x<;>rfl)))):K σ H:=
 hK _ _ (C.c σ H is hs ho r e Q fun σ' H' f s t g=>hQ σ' H' (hf.trans f) s (by rw [he];exact t) (hh.tro g))
theorem loE {e:Ex×List (Nat×PV)×Option (List (List PV))} {x:Ex} (hQ:Qj L ob is H0 e Q aH) (hx:e.1=x) (hf:Fv L aH σ) (hs:wN σ e.2.1) (ho:Zi H (e.2.2.getD (QH ob)) is) (hh:HF is H0 H):Q x σ H:=hx▸hQ σ H hf hs ho hh
end
def Qk:List (aD×Bool)->Nat->Nat
 |[],x=>x
 |(⟨some d,.r (.Qz _ (.t s)),_⟩,_)::l,x=>if d=x then s else Qk l x
 |(⟨some d,.r (.Gf _ _ (.t s) _),_⟩,_)::l,x=>if d=x then s else Qk l x
 |_::l,x=>Qk l x
def ain (all:List (aD×Bool)) (σ:Nat->PV) (H:AH):List (aD×Bool)->Nat
 |[]=>0
 |(⟨_,.d (.store _ (.t x) _),_⟩,true)::_=>anH (σ (Qk all (Qk all x)))
 |(⟨_,.d _,_⟩,true)::_=>H.next
 |_::l=>ain all σ H l
theorem akF {A:Prop} {P:Program} {pr:List (aD×Bool)} {post:List aD} {s:List Fm} {Q:Post} {σ:Nat->PV} {H:AH} {m:Nat} (ht:(pr.any fun o=>o.2)=true:=by rfl) (hm:ain pr σ H pr=m:=by(simp -implicitDefEqProofs only [ain,Qk,go_sem, *]);rfl) (h:A->IE P m pr post s Q σ H):A->WS P (.par pr post) s Q σ H:=fun e=>agD m (h e)
theorem anP {M:List Nat} {H H':AH} (h:HF M H H':=by
 repeat' first
  |exact HF.refl _ _
  |assumption
  |refine HF.new ?_
  |refine HF.put (by first|(left;simp only [M1,w8,q7];done)|(right;(try simp only [AH.aN,AH.aO]);omega)) ?_
  |refine HF.via (by assumption) (by first|exact fun i hi=>absurd hi D0|exact fun i hi=> .inl hi|(intro i hi;(try simp only [AH.aN,AH.aO]);simp only [M1,D0,B7]at hi⊢;omega)) ?_):HF M H H':=h
theorem BQ {A:Prop} (h:A:=by first|exact trivial|simp -implicitDefEqProofs (maxDischargeDepth:=16) only [go_sem,dB,AH.aN,AH.aO,C7, *]):A:=h
theorem akG {G A B:Prop} (k:G->B) (h:A=B:=by simp -implicitDefEqProofs (maxDischargeDepth:=16) only [go_sem,dB,AH.aN,AH.aO, *];rfl):G->A:=fun g=>h▸k g
theorem acu {σ:Nat->PV} {H:AH} {ob:List (Nat×List PV)} {is:List Nat} (h:Gu σ H ob is []:=by
 repeat' first
  |exact trivial
  |refine axF BQ (by(try simp -implicitDefEqProofs (maxDischargeDepth:=16) only [go_sem,AH.aN,AH.aO, *])<;>exact aLq) BQ ?_):Gu σ H ob is []:=h
theorem FK {A:Prop} (h:A:=by
 intro r
 repeat' first
  |(with_reducible refine Vm (fun _=> ?_) (fun _=> ?_))
  |(with_reducible refine aaX (fun _=> ?_))
  |(with_reducible refine aa2 (fun _ _=> ?_))
  |(refine akG ?_;first|refine ahW Zd (fun _=> ?_)|refine aa1 BQ ?_|refine ahX BQ ?_|refine arz BQ acu ?_|refine axG BQ acu ?_|refine akF (h:= ?_)|refine aaY ?_|refine aaZ Zd (fun _=> ?_)|refine aa0 Ze ?_|refine abY Ze ?_|refine ahZ RB ?_|refine abZ RB ?_|(intro h;cases h;exact fz_))
  |(with_reducible refine Ot (fun _ _=> ?_))
  |(with_reducible exact Vn)
  |(with_reducible refine Vo ?_)
  |(with_reducible refine ab0 ?_)
  |(with_reducible refine ahY ?_ ?_)
  |(intro p σ' H' f s t n g;have f':=f.on;have hle:=g.1;simp only [go_sem,AH.aN,AH.aO, *]at s t n g;have x:=arw g;have y:=arx g;try simp only [AH.aN,AH.aO]at x;try simp only [AH.aN,AH.aO]at hle)
  |(intro p σ' f s;simp only [go_sem]at s;have f':=f.on)
  |(intro h;cases h;exact fz_)):A:=h
theorem iI {A:Prop} (h:A:=by
 intro σ H is s o r Q hQ;simp only [Xr,RA]at s
 repeat (obtain⟨i,is,rfl,h1,h2,h3,h4,h5,h7,h8,h6,o⟩:=anK o;try simp only [agH,acn,and_true]at h6)
 obtain rfl:=atH o;try intro K hK
 refine fun h=>aI ?_;revert h
 repeat' first
  |(with_reducible refine Vm (fun _=> ?_) (fun _=> ?_))
  |(with_reducible refine aaX (fun _=> ?_))
  |(with_reducible refine aa2 (fun _ _=> ?_))
  |(refine akG ?_;first|refine ahW Zd (fun _=> ?_)|refine aa1 BQ ?_|refine ahX BQ ?_|refine arz BQ acu ?_|refine axG BQ acu ?_|refine akF (h:= ?_)|refine aaY ?_|refine aaZ Zd (fun _=> ?_)|refine aa0 Ze ?_|refine abY Ze ?_|refine ahZ RB ?_|refine abZ RB ?_|(intro h;exact loN h hK hQ BQ acu Db anP)|(intro h;cases h;exact loE hQ rfl Db BQ BQ anP))
  |(with_reducible refine Ot (fun _ _=> ?_))
  |(with_reducible exact Vn)
  |(with_reducible refine Vo ?_)
  |(with_reducible refine ab0 ?_)
  |(with_reducible refine ahY ?_ ?_)
  |(intro p σ' H' f s t n g;have f':=f.on;have hle:=g.1;simp only [go_sem,AH.aN,AH.aO, *]at s t n g;have x:=arw g;have y:=arx g;try simp only [AH.aN,AH.aO]at x;try simp only [AH.aN,AH.aO]at hle)
  |(intro p σ' f s;simp only [go_sem]at s;have f':=f.on)
  |(intro h;cases h;exact loE hQ rfl Db BQ BQ anP)):A:=h
end Go.VL
end
section
namespace Go.VL
instance:K6 Nd.cells:=⟨Nd.pu⟩
instance:K6 Operator.cells:=⟨Operator.pu⟩
instance:K6 Shape.cells:=⟨Shape.pu⟩
end Go.VL
end
section
set_option maxHeartbeats 4000000
namespace Go.VL
open Go.Proofs
def ME (BR:Bool):Option Int:=
 cond BR (some 1) (some 0)
instance atM (BR:Bool):bY Tryz.prog 87 [(.bool BR)] (ME BR) (fun r=>(.int .i64 r)):=bM aFF (by unfold ME awU;exact bE)
theorem atN {BR:Bool} {r:Int} (h:ME BR=some r):aG Tryz.prog 87 [(.bool BR)] (.int .i64 r):=(atM _).c _ h
def dw (aU:Int) (MF:Int) (IV:Int):Option Bool:=
 cond (decide (aU>=MF)) (some (decide (aU<=IV))) (some false)
instance afx (aU:Int) (MF:Int) (IV:Int):bY Tryz.prog 29 [(.int .i64 aU),(.int .i64 MF),(.int .i64 IV)] (dw aU MF IV) (fun r=>(.bool r)):=bM aFo (by unfold dw awt;exact bE)
theorem uV {aU:Int} {MF:Int} {IV:Int} {r:Bool} (h:dw aU MF IV=some r):aG Tryz.prog 29 [(.int .i64 aU),(.int .i64 MF),(.int .i64 IV)] (.bool r):=(afx _ _ _).c _ h
def nP:Nat->(List Str)->Str->Int->Option (Unit⊕Bool)
 |0,_,_,_=>none
 |k+1,aZ,s_1,iK=>
  cond (decide (iK<(aZ.length:Int))) (if 0<=iK then (aZ[iK.toNat]?).bind fun x3=>cond (x3==s_1) (some (.inr (true))) (nP k aZ s_1 (IntKind.wrap .i64 (iK+1)))else none) (some (.inl ()))
instance arA (k:Nat): ∀(aZ:List Str) (s_1:Str) (iK:Int),Lp Tryz.prog (.loop XV) (nP k aZ s_1 iK) [(4,18)] [(0,(.ah (aZ.map aF) .unk)),(1,(.str s_1)),(5,(.int .i64 iK))] (Sum.elim (fun p=>(.exit 0,[])) (fun p=>(.ret,[(4,(.bool p))]))):=by
 induction k with
 |zero=>exact fun _ _ _=>rP rfl
 |succ k ih=>exact fun _ _ _=>rQ XV.eq_1 (by unfold nP;exact bZ)
def lW (k:Nat) (aZ:List Str) (s_1:Str):Option Bool:=
 Option.bind (nP k aZ s_1 0) (fun o=>Sum.elim (fun p8=>some false) (fun rT=>some rT) o)
instance acv (k:Nat) (aZ:List Str) (s_1:Str):bY Tryz.prog 85 [(.ah (aZ.map aF) .unk),(.str s_1)] (lW k aZ s_1) (fun r=>(.bool r)):=bM aFD (by unfold lW awS;exact bE)
theorem IW {k:Nat} {aZ:List Str} {s_1:Str} {c0:Ck} {r:Bool} (h:lW k aZ s_1=some r):aG Tryz.prog 85 [(.ah (aZ.map aF) c0),(.str s_1)] (.bool r):=((acv _ _ _).c _ h).wk (.ah (.same .nil))
def pJ:Nat->(List Operator)->(List Operator)->Int->Option (List Operator)
 |0,_,_,_=>none
 |k+1,yJ,Dc,fA=>
  cond (decide (fA<(Dc.length:Int))) (if 0<=fA then (Dc[fA.toNat]?).bind fun x3=>(ME (x3.fix==1)).bind fun p6=>cond (x3.text==([92,88]:Str)) (if(yJ.length+1)*64<=1099511627776 then pJ k (yJ++[(Operator.mk x3.text x3.fix x3.low x3.high x3.left (IntKind.wrap .i64 (1+p6)) 4)]) Dc (IntKind.wrap .i64 (fA+1))else none) (if(yJ.length+1)*64<=1099511627776 then pJ k (yJ++[(Operator.mk x3.text x3.fix x3.low x3.high x3.left (IntKind.wrap .i64 (1+p6)) (IntKind.wrap .i64 (1+p6)))]) Dc (IntKind.wrap .i64 (fA+1))else none)else none) (some (yJ))
def QI:List Nat:=[1,3,4]++List.range' 48 27
theorem acw: ∀(k:Nat) (yJ:List Operator) (Dc:List Operator) (fA:Int) (xg:Ck) (Df:Ck) (aH σ:Nat->PV) (H0 H:AH) (f0:Fr QI aH σ) (hf0:HF [] H0 H) (sl:σ 1=(.ah (yJ.map Operator.cells) xg)/\σ 2=(.ah (Dc.map Operator.cells) Df)/\σ 3=(.int .i64 fA)) (acy:aR H xg) (o:List Operator) (h:pJ k yJ Dc fA=some o) (Q:Post) (q0: ∀(p:List Operator) (c0:Ck) (σ':Nat->PV) (H':AH),o=p->Fr QI aH σ'->HF [] H0 H'->(σ' 1=(.ah (p.map Operator.cells) c0))->Q (.exit 0) σ' H'),W Tryz.prog (.loop Sv) Q σ H:=by
 intro k
 induction k with
 |zero=>intro yJ Dc fA xg Df aH σ H0 H f0 hf0 sl acy o h Q q0;simp only [pJ,reduceCtorEq]at h
 |succ k ih=>
  intro yJ Dc fA xg Df aH σ H0 H f0 hf0 sl acy o h Q q0;obtain⟨s1,s2,s3⟩:=sl;have hle0:=hf0.1;unfold pJ at h;refine bB (fun K hK=>aI ?_);unfold Sv;obtain⟨e1,h⟩|⟨e1,h⟩:=aJ h
  ·obtain⟨e2,h⟩:=aX h;obtain⟨x3,e4,h⟩:=aj h;obtain⟨p6,e5,h⟩:=aj h;refine ak ?_;refine av (atN e5) ?_;obtain⟨e7,h⟩|⟨e7,h⟩:=aJ h
   ·obtain⟨e12,h⟩:=aX h;refine ak ?_;refine gI (f:=Operator.cells) Operator.row yJ ([(Operator.mk x3.text x3.fix x3.low x3.high x3.left (IntKind.wrap .i64 (1+p6)) 4)]:List Operator) xg .exact aA aA eG (by first|exact e12|(simp only [I0,j0];exact e12)) (fun c8 H9 aLr le aFN aLs=> ?_);have axH:HF [] _ H9:=⟨le,fun i _ _=>aFN i⟩;try simp only [AH.aN,AH.aO,AH.aS,AH.aT]at le
    have n22:=ne_next (show H.next<H9.next from aY);have m23:=bA (show H.next<H9.next from aY);refine ak ?_;refine hK _ _ ?_;exact ih (yJ++[(Operator.mk x3.text x3.fix x3.low x3.high x3.left (IntKind.wrap .i64 (1+p6)) 4)]) Dc (IntKind.wrap .i64 (fA+1)) c8 Df _ _ _ _ bG II aA eG _ h _ q0
   ·obtain⟨e19,h⟩:=aX h;refine ak ?_;refine gI (f:=Operator.cells) Operator.row yJ ([(Operator.mk x3.text x3.fix x3.low x3.high x3.left (IntKind.wrap .i64 (1+p6)) (IntKind.wrap .i64 (1+p6)))]:List Operator) xg .exact aA aA eG (by first|exact e19|(simp only [I0,j0];exact e19)) (fun c15 H16 aLt le aFO aLu=> ?_);have aLv:HF [] _ H16:=⟨le,fun i _ _=>aFO i⟩;try simp only [AH.aN,AH.aO,AH.aS,AH.aT]at le
    have n24:=ne_next (show H.next<H16.next from aY);have m25:=bA (show H.next<H16.next from aY);refine ak ?_;refine hK _ _ ?_;exact ih (yJ++[(Operator.mk x3.text x3.fix x3.low x3.high x3.left (IntKind.wrap .i64 (1+p6)) (IntKind.wrap .i64 (1+p6)))]) Dc (IntKind.wrap .i64 (fA+1)) c15 Df _ _ _ _ bG II aA eG _ h _ q0
  ·cases h;refine ak ?_;exact q0 _ xg _ _ rfl bG yH aA
def ED (k:Nat):Option (List Operator):=
 Option.bind (pJ k ([]:List Operator) [(Operator.mk ([126]:Str) 0 4 4 false 0 0),(Operator.mk ([69,78,65,66,76,69,68]:Str) 0 4 15 false 0 0),(Operator.mk ([85,78,67,72,65,78,71,69,68]:Str) 0 4 15 false 0 0),(Operator.mk ([91,93]:Str) 0 4 15 false 0 0),(Operator.mk ([60,62]:Str) 0 4 15 false 0 0),(Operator.mk ([83,85,66,83,69,84]:Str) 0 8 8 false 0 0),(Operator.mk ([85,78,73,79,78]:Str) 0 8 8 false 0 0),(Operator.mk ([68,79,77,65,73,78]:Str) 0 9 9 false 0 0),(Operator.mk ([45,46]:Str) 0 12 12 false 0 0),(Operator.mk ([61,62]:Str) 1 1 1 false 0 0),(Operator.mk ([60,61,62]:Str) 1 2 2 false 0 0),(Operator.mk ([126,62]:Str) 1 2 2 false 0 0),(Operator.mk ([47,92]:Str) 1 3 3 true 0 0),(Operator.mk ([92,47]:Str) 1 3 3 true 0 0),(Operator.mk ([61]:Str) 1 5 5 false 0 0),(Operator.mk ([35]:Str) 1 5 5 false 0 0),(Operator.mk ([60]:Str) 1 5 5 false 0 0),(Operator.mk ([60,61]:Str) 1 5 5 false 0 0),(Operator.mk ([62]:Str) 1 5 5 false 0 0),(Operator.mk ([62,61]:Str) 1 5 5 false 0 0),(Operator.mk ([92,105,110]:Str) 1 5 5 false 0 0),(Operator.mk ([92,110,111,116,105,110]:Str) 1 5 5 false 0 0),(Operator.mk ([92,115,117,98,115,101,116,101,113]:Str) 1 5 5 false 0 0),(Operator.mk ([92,115,113,115,117,98,115,101,116,101,113]:Str) 1 5 5 false 0 0),(Operator.mk ([64,64]:Str) 1 6 6 true 0 0),(Operator.mk ([58,62]:Str) 1 7 7 false 0 0),(Operator.mk ([92,99,100,111,116]:Str) 1 5 14 true 0 0),(Operator.mk ([92,99,117,112]:Str) 1 8 8 true 0 0),(Operator.mk ([92,99,97,112]:Str) 1 8 8 true 0 0),(Operator.mk ([92]:Str) 1 8 8 false 0 0),(Operator.mk ([46,46]:Str) 1 9 9 false 0 0),(Operator.mk ([43]:Str) 1 10 10 true 0 0),(Operator.mk ([40,43,41]:Str) 1 10 10 true 0 0),(Operator.mk ([37]:Str) 1 10 11 false 0 0),(Operator.mk ([92,88]:Str) 1 10 13 false 0 0),(Operator.mk ([45]:Str) 1 11 11 true 0 0),(Operator.mk ([40,45,41]:Str) 1 11 11 true 0 0),(Operator.mk ([42]:Str) 1 13 13 true 0 0),(Operator.mk ([92,100,105,118]:Str) 1 13 13 false 0 0),(Operator.mk ([92,111]:Str) 1 13 13 true 0 0),(Operator.mk ([94]:Str) 1 14 14 false 0 0),(Operator.mk ([39]:Str) 2 15 15 false 0 0)] 0) (fun p28=>some p28)
theorem akH {k:Nat} {r:List Operator} (h:ED k=some r):aG Tryz.prog 173 [] (.ah (r.map Operator.cells) .unk):=by
 refine aG.bX (dJ.mem .nil) (aL aBp (by simp) (aI ?_)) (bK Operator.pu _);unfold ED at h;unfold ap8;refine ak ?_;obtain⟨o26,h27,h⟩:=aj h;refine acw k ([]:List Operator) [(Operator.mk ([126]:Str) 0 4 4 false 0 0),(Operator.mk ([69,78,65,66,76,69,68]:Str) 0 4 15 false 0 0),(Operator.mk ([85,78,67,72,65,78,71,69,68]:Str) 0 4 15 false 0 0),(Operator.mk ([91,93]:Str) 0 4 15 false 0 0),(Operator.mk ([60,62]:Str) 0 4 15 false 0 0),(Operator.mk ([83,85,66,83,69,84]:Str) 0 8 8 false 0 0),(Operator.mk ([85,78,73,79,78]:Str) 0 8 8 false 0 0),(Operator.mk ([68,79,77,65,73,78]:Str) 0 9 9 false 0 0),(Operator.mk ([45,46]:Str) 0 12 12 false 0 0),(Operator.mk ([61,62]:Str) 1 1 1 false 0 0),(Operator.mk ([60,61,62]:Str) 1 2 2 false 0 0),(Operator.mk ([126,62]:Str) 1 2 2 false 0 0),(Operator.mk ([47,92]:Str) 1 3 3 true 0 0),(Operator.mk ([92,47]:Str) 1 3 3 true 0 0),(Operator.mk ([61]:Str) 1 5 5 false 0 0),(Operator.mk ([35]:Str) 1 5 5 false 0 0),(Operator.mk ([60]:Str) 1 5 5 false 0 0),(Operator.mk ([60,61]:Str) 1 5 5 false 0 0),(Operator.mk ([62]:Str) 1 5 5 false 0 0),(Operator.mk ([62,61]:Str) 1 5 5 false 0 0),(Operator.mk ([92,105,110]:Str) 1 5 5 false 0 0),(Operator.mk ([92,110,111,116,105,110]:Str) 1 5 5 false 0 0),(Operator.mk ([92,115,117,98,115,101,116,101,113]:Str) 1 5 5 false 0 0),(Operator.mk ([92,115,113,115,117,98,115,101,116,101,113]:Str) 1 5 5 false 0 0),(Operator.mk ([64,64]:Str) 1 6 6 true 0 0),(Operator.mk ([58,62]:Str) 1 7 7 false 0 0),(Operator.mk ([92,99,100,111,116]:Str) 1 5 14 true 0 0),(Operator.mk ([92,99,117,112]:Str) 1 8 8 true 0 0),(Operator.mk ([92,99,97,112]:Str) 1 8 8 true 0 0),(Operator.mk ([92]:Str) 1 8 8 false 0 0),(Operator.mk ([46,46]:Str) 1 9 9 false 0 0),(Operator.mk ([43]:Str) 1 10 10 true 0 0),(Operator.mk ([40,43,41]:Str) 1 10 10 true 0 0),(Operator.mk ([37]:Str) 1 10 11 false 0 0),(Operator.mk ([92,88]:Str) 1 10 13 false 0 0),(Operator.mk ([45]:Str) 1 11 11 true 0 0),(Operator.mk ([40,45,41]:Str) 1 11 11 true 0 0),(Operator.mk ([42]:Str) 1 13 13 true 0 0),(Operator.mk ([92,100,105,118]:Str) 1 13 13 false 0 0),(Operator.mk ([92,111]:Str) 1 13 13 true 0 0),(Operator.mk ([94]:Str) 1 14 14 false 0 0),(Operator.mk ([39]:Str) 2 15 15 false 0 0)] 0 .nil .exact _ _ _ _ (Fr.refl _ _) (HF.refl _ _) aA eG _ h27 _ ?_
 ·rintro p28 c32 σ' H31 eo aFP anQ s33;rw [eo]at h;have le:=anQ.1;try simp only [AH.aN,AH.aO,AH.aS,AH.aT]at le
  cases h;refine ak ?_;exact(jV Operator.pu _ _)
instance aDG (k:Nat):bY Tryz.prog 173 [] (ED k) (fun r=>(.ah (r.map Operator.cells) .unk)):=⟨fun _ h=>akH h⟩
def lu:Nat->Str->Str->Int->Int->Int->Bool->Int->Int->(List Operator)->Int->Option ((Str×Int×Int×Int×Bool×Int×Int)⊕(Bool×Str×Int×Int×Int×Bool×Int×Int))
 |0,_,_,_,_,_,_,_,_,_,_=>none
 |k+1,oo,Vu,Vv,Vw,Vx,Vy,Vz,VA,fG,iK=>
  cond (decide (iK<(fG.length:Int))) (if 0<=iK then (fG[iK.toNat]?).bind fun x5=>cond (x5.text==oo) (some (.inr ((true,x5.text,x5.fix,x5.low,x5.high,x5.left,x5.least,x5.most)))) (lu k oo Vu Vv Vw Vx Vy Vz VA fG (IntKind.wrap .i64 (iK+1)))else none) (some (.inl (Vu,Vv,Vw,Vx,Vy,Vz,VA)))
instance amy (k:Nat): ∀(oo:Str) (Vu:Str) (Vv:Int) (Vw:Int) (Vx:Int) (Vy:Bool) (Vz:Int) (VA:Int) (fG:List Operator) (iK:Int),Lo Tryz.prog (.loop RD) (lu k oo Vu Vv Vw Vx Vy Vz VA fG iK) [(3,4),(5,6),(7,24)] [(0,(.str oo)),(4,(.ah (fG.map Operator.cells) .unk)),(5,(.int .i64 iK))] [(2,[(.str Vu),(.int .i64 Vv),(.int .i64 Vw),(.int .i64 Vx),(.bool Vy),(.int .i64 Vz),(.int .i64 VA)])] (Sum.elim (fun p=>(.exit 0,[],some [[(.str p.1),(.int .i64 p.2.1),(.int .i64 p.2.2.1),(.int .i64 p.2.2.2.1),(.bool p.2.2.2.2.1),(.int .i64 p.2.2.2.2.2.1),(.int .i64 p.2.2.2.2.2.2)]])) (fun p=>(.ret,[(3,(.bool p.1))],some [[(.str p.2.1),(.int .i64 p.2.2.1),(.int .i64 p.2.2.2.1),(.int .i64 p.2.2.2.2.1),(.bool p.2.2.2.2.2.1),(.int .i64 p.2.2.2.2.2.2.1),(.int .i64 p.2.2.2.2.2.2.2)]]))):=by
 induction k with
 |zero=>exact fun _ _ _ _ _ _ _ _ _ _=>lo0 rfl
 |succ k ih=>exact fun _ _ _ _ _ _ _ _ _ _=>loS RD.eq_1 (by unfold lu;exact iI)
def vN (k:Nat) (oo:Str):Option (Operator×Bool):=
 (ED k).bind fun p2=>Option.bind (lu k oo ([]:Str) 0 0 0 false 0 0 p2 0) (fun o=>Sum.elim (fun mH=>some ((Operator.mk [] 0 0 0 false 0 0),false)) (fun Bc=>some ((Operator.mk Bc.2.1 Bc.2.2.1 Bc.2.2.2.1 Bc.2.2.2.2.1 Bc.2.2.2.2.2.1 Bc.2.2.2.2.2.2.1 Bc.2.2.2.2.2.2.2),Bc.1)) o)
instance atO (k:Nat) (oo:Str):bY Tryz.prog 112 [(.str oo)] (vN k oo) (fun r=>(.dn [(.agg (Operator.cells r.1)),(.bool r.2)])):=bM aA1 (by unfold vN apL;exact FK)
def Ad:Option (List Str):=
 some [([65,83,83,85,77,69]:Str),([65,83,83,85,77,80,84,73,79,78]:Str),([65,88,73,79,77]:Str),([66,89]:Str),([67,65,83,69]:Str),([67,72,79,79,83,69]:Str),([67,79,78,83,84,65,78,84]:Str),([67,79,78,83,84,65,78,84,83]:Str),([68,69,70]:Str),([68,69,70,73,78,69]:Str),([68,69,70,83]:Str),([68,79,77,65,73,78]:Str),([69,76,83,69]:Str),([69,78,65,66,76,69,68]:Str),([69,88,67,69,80,84]:Str),([69,88,84,69,78,68,83]:Str),([70,65,76,83,69]:Str),([72,65,86,69]:Str),([72,73,68,69]:Str),([73,70]:Str),([73,78]:Str),([73,78,83,84,65,78,67,69]:Str),([76,65,77,66,68,65]:Str),([76,69,77,77,65]:Str),([76,69,84]:Str),([76,79,67,65,76]:Str),([77,79,68,85,76,69]:Str),([78,69,87]:Str),([79,66,86,73,79,85,83]:Str),([79,77,73,84,84,69,68]:Str),([79,84,72,69,82]:Str),([80,73,67,75]:Str),([80,82,79,79,70]:Str),([80,82,79,80,79,83,73,84,73,79,78]:Str),([80,82,79,86,69]:Str),([81,69,68]:Str),([82,69,67,85,82,83,73,86,69]:Str),([83,85,66,83,69,84]:Str),([83,85,70,70,73,67,69,83]:Str),([84,65,75,69]:Str),([84,72,69,78]:Str),([84,72,69,79,82,69,77]:Str),([84,82,85,69]:Str),([85,78,67,72,65,78,71,69,68]:Str),([85,78,73,79,78]:Str),([85,83,69]:Str),([86,65,82,73,65,66,76,69]:Str),([86,65,82,73,65,66,76,69,83]:Str),([87,73,84,72]:Str),([87,73,84,78,69,83,83]:Str)]
instance acz:bY Tryz.prog 246 [] (Ad) (fun r=>(.ah (r.map aF) .unk)):=bM aB2 (by unfold Ad aqM;exact bE)
theorem acA {r:List Str} (h:Ad=some r):aG Tryz.prog 246 [] (.ah (r.map aF) .unk):=(acz).c _ h
def Ae (sG:Int):Option Bool:=
 cond (decide (sG>=97)) (cond (decide (sG<=122)) (some true) (cond (decide (sG>=65)) (some (decide (sG<=90))) (some false))) (cond (decide (sG>=65)) (some (decide (sG<=90))) (some false))
instance acB (sG:Int):bY Tryz.prog 247 [(.int .u8 sG)] (Ae sG) (fun r=>(.bool r)):=bM aB3 (by unfold Ae aqN;exact bE)
theorem OJ {sG:Int} {r:Bool} (h:Ae sG=some r):aG Tryz.prog 247 [(.int .u8 sG)] (.bool r):=(acB _).c _ h
def Cm (sG:Int):Option Bool:=
 cond (decide (sG>=48)) (some (decide (sG<=57))) (some false)
instance afy (sG:Int):bY Tryz.prog 248 [(.int .u8 sG)] (Cm sG) (fun r=>(.bool r)):=bM aB4 (by unfold Cm aqO;exact bE)
theorem afz {sG:Int} {r:Bool} (h:Cm sG=some r):aG Tryz.prog 248 [(.int .u8 sG)] (.bool r):=(afy _).c _ h
def Fa (k:Nat) (s_0:Str):Option (Unit⊕Bool):=
 (dw (s_0.length:Int) 1 24).bind fun p2=>cond p2 ((Ad).bind fun p5=>(lW k p5 s_0).bind fun p7=>cond p7 (some (.inr (false))) (some (.inl ()))) (some (.inr (false)))
def IX:List Nat:=[2]++List.range' 5 9
theorem aam (k:Nat): ∀(s_0:Str) (aH σ:Nat->PV) (H:AH) (f0:Fr IX aH σ) (sl:σ 0=(.str s_0)) (o:Unit⊕Bool) (h:Fa k s_0=some o) (Q:Post) (q0: ∀(p:Unit) (σ':Nat->PV),o= .inl p->Fr IX aH σ'->Q .normal σ' H) (q1: ∀(p:Bool) (σ':Nat->PV),o= .inr (p)->Fr IX aH σ'->(σ' 2=(.bool p))->Q .ret σ' H),W Tryz.prog Ta Q σ H:=by
 intro s_0 aH σ H f0 sl o h Q q0 q1;have s0:=sl;unfold Fa at h;refine aI ?_;unfold Ta;obtain⟨p2,e1,h⟩:=aj h;refine ak ?_;refine av (uV e1) ?_;obtain⟨e3,h⟩|⟨e3,h⟩:=aJ h
 ·obtain⟨p5,e4,h⟩:=aj h;refine ak ?_;refine av (acA e4) ?_;obtain⟨p7,e6,h⟩:=aj h;refine ak ?_;refine av (IW e6) ?_;obtain⟨e8,h⟩|⟨e8,h⟩:=aJ h
  ·cases h;refine ak ?_;exact q1 _ _ rfl bG aA
  ·cases h;refine ak ?_;exact q0 _ _ rfl bG
 ·cases h;refine ak ?_;exact q1 _ _ rfl bG aA
def Bd (s_0:Str) (gW:Int) (jQ:Bool):Option Bool:=
 cond jQ (if 0<=gW then (s_0[gW.toNat]?).bind fun x24=>(Cm (x24.toNat:Int)).bind fun p27=>cond p27 (some (false)) (some (((x24.toNat:Int) !=95)))else none) (some (false))
def OL:List Nat:=List.range' 26 12
theorem aan: ∀(s_0:Str) (gW:Int) (jQ:Bool) (aH σ:Nat->PV) (H:AH) (f0:Fr OL aH σ) (sl:σ 0=(.str s_0)/\σ 4=(.int .i64 gW)/\σ 25=(.bool jQ)) (o:Bool) (h:Bd s_0 gW jQ=some o) (Q:Post) (q0: ∀(p:Bool) (σ':Nat->PV),o=p->Fr OL aH σ'->(σ' 37=(.bool p))->Q .normal σ' H),eZ Tryz.prog Tc (Q .normal) σ H:=by
 intro s_0 gW jQ aH σ H f0 sl o h Q q0;obtain⟨s0,s4,s25⟩:=sl;unfold Bd at h;refine oG ?_;unfold Tc;obtain⟨e22,h⟩|⟨e22,h⟩:=aJ h
 ·obtain⟨e23,h⟩:=aX h;obtain⟨x24,e25,h⟩:=aj h;obtain⟨p27,e26,h⟩:=aj h;refine ak ?_;refine av (afz e26) ?_;obtain⟨e28,h⟩|⟨e28,h⟩:=aJ h
  ·cases h;refine ak ?_;exact q0 _ _ rfl bG aA
  ·cases h;refine ak ?_;exact q0 _ _ rfl bG aA
 ·cases h;refine ak ?_;exact q0 _ _ rfl bG aA
def ny:Nat->Str->Bool->Int->Option (Bool⊕Bool)
 |0,_,_,_=>none
 |k+1,s_0,yX,gW=>
  cond (decide (gW<(s_0.length:Int))) (if 0<=gW then (s_0[gW.toNat]?).bind fun x18=>(Ae (x18.toNat:Int)).bind fun yY=>Option.bind (Bd s_0 gW (!yY)) (fun p31=>cond p31 (some (.inr (false))) (cond yX (ny k s_0 true (IntKind.wrap .i64 (gW+1))) (ny k s_0 yY (IntKind.wrap .i64 (gW+1)))))else none) (some (.inl yX))
def IY:List Nat:=[2,3,4]++List.range' 14 31
theorem aao: ∀(k:Nat) (s_0:Str) (yX:Bool) (gW:Int) (aH σ:Nat->PV) (H:AH) (f0:Fr IY aH σ) (sl:σ 0=(.str s_0)/\σ 3=(.bool yX)/\σ 4=(.int .i64 gW)) (o:Bool⊕Bool) (h:ny k s_0 yX gW=some o) (Q:Post) (q0: ∀(p:Bool) (σ':Nat->PV),o= .inl p->Fr IY aH σ'->(σ' 3=(.bool p))->Q (.exit 0) σ' H) (q1: ∀(p:Bool) (σ':Nat->PV),o= .inr (p)->Fr IY aH σ'->(σ' 2=(.bool p))->Q .ret σ' H),W Tryz.prog (.loop Td) Q σ H:=by
 intro k
 induction k with
 |zero=>intro s_0 yX gW aH σ H f0 sl o h Q q0 q1;simp only [ny,reduceCtorEq]at h
 |succ k ih=>
  intro s_0 yX gW aH σ H f0 sl o h Q q0 q1;obtain⟨s0,s3,s4⟩:=sl;unfold ny at h;refine bB (fun K hK=>aI ?_);unfold Td;obtain⟨e16,h⟩|⟨e16,h⟩:=aJ h
  ·obtain⟨e17,h⟩:=aX h;obtain⟨x18,e19,h⟩:=aj h;obtain⟨yY,e20,h⟩:=aj h;refine ak ?_;refine av (OJ e20) ?_;refine ak ?_;obtain⟨o29,h30,h⟩:=aj h;refine aan s_0 gW (!yY) _ _ _ (Fr.refl _ _) aA _ h30 _ ?_
   ·rintro p31 σ' eo anR s35;rw [eo]at h;have s36:σ' 0=(.str s_0):=(anR 0 (by decide)).trans aA;have s37:σ' 3=(.bool yX):=(anR 3 (by decide)).trans aA;have s38:σ' 4=(.int .i64 gW):=(anR 4 (by decide)).trans aA;obtain⟨e39,h⟩|⟨e39,h⟩:=aJ h
    ·cases h;refine ak ?_;exact q1 _ _ rfl FJ aA
    ·obtain⟨e40,h⟩|⟨e40,h⟩:=aJ h
     ·refine ak ?_;refine hK _ _ ?_;exact ih s_0 true (IntKind.wrap .i64 (gW+1)) _ _ _ FJ aA _ h _ q0 q1
     ·refine ak ?_;refine av (OJ e20) ?_;refine ak ?_;refine hK _ _ ?_;exact ih s_0 yY (IntKind.wrap .i64 (gW+1)) _ _ _ FJ aA _ h _ q0 q1
  ·cases h;refine ak ?_;exact q0 _ _ rfl bG aA
def EF (k:Nat) (s_0:Str):Option Bool:=
 Option.bind (Fa k s_0) (fun o=>Sum.elim (fun vO=>Option.bind (ny k s_0 false 0) (fun o=>Sum.elim (fun p45=>some p45) (fun p50=>some p50) o)) (fun p55=>some p55) o)
theorem aio {k:Nat} {s_0:Str} {r:Bool} (h:EF k s_0=some r):aG Tryz.prog 197 [(.str s_0)] (.bool r):=by
 refine aG.bX (dJ.mem (.cons (.str _) .nil)) (aL aBF (by simp) (aI ?_)) (.bool _);unfold EF at h;unfold aqo;refine ak ?_;obtain⟨o9,h10,h⟩:=aj h;refine aam k s_0 _ _ _ (Fr.refl _ _) aA _ h10 _ ?_ ?_
 ·rintro vO σ' eo IZ;subst eo;rw [eH]at h;have s15:σ' 0=(.str s_0):=(IZ 0 (by decide)).trans aA;refine ak ?_;obtain⟨o43,h44,h⟩:=aj h;refine aao k s_0 false 0 _ _ _ (Fr.refl _ _) aA _ h44 _ ?_ ?_
  ·rintro p45 σ' eo aLw s49;subst eo;rw [eH]at h;cases h;refine ak ?_;exact(.pure _ (.bool _))
  ·rintro p50 σ' eo aLx s54;subst eo;rw [fP]at h;cases h;refine ak ?_;exact(.pure _ (.bool _))
 ·rintro p55 σ' eo axJ s59;subst eo;rw [fP]at h;cases h;refine ak ?_;exact(.pure _ (.bool _))
instance aCB (k:Nat) (s_0:Str):bY Tryz.prog 197 [(.str s_0)] (EF k s_0) (fun r=>(.bool r)):=⟨fun _ h=>aio h⟩
def yZ (s_0:Str):Option Bool:=
 cond (s_0==([84,82,85,69]:Str)) (some true) (cond (s_0==([70,65,76,83,69]:Str)) (some true) (cond (s_0==([66,79,79,76,69,65,78]:Str)) (some true) (some (s_0==([83,84,82,73,78,71]:Str)))))
instance aAt (s_0:Str):bY Tryz.prog 111 [(.str s_0)] (yZ s_0) (fun r=>(.bool r)):=bM aA0 (by unfold yZ apK;exact bE)
def xk (k:Nat) (s_0:Str):Option Bool:=
 (EF k s_0).bind fun p2=>cond p2 ((yZ s_0).bind fun p5=>cond p5 (some false) (cond (decide ((s_0.length:Int)>2)) (if 3<=s_0.length then cond ((s_0.take 3)==([87,70,95]:Str)) (some false) (some (!((s_0.take 3)==([83,70,95]:Str))))else none) (some true))) (some false)
instance aCC (k:Nat) (s_0:Str):bY Tryz.prog 137 [(.str s_0)] (xk k s_0) (fun r=>(.bool r)):=bM aBb (by unfold xk apV;exact bE)
def pK:Nat->Str->Int->Option (Unit⊕Bool)
 |0,_,_=>none
 |k+1,s_0,fA=>
  cond (decide (fA<(s_0.length:Int))) (if 0<=fA then (s_0[fA.toNat]?).bind fun x3=>cond ((x3.toNat:Int)==33) (if 0<=fA/\fA.toNat<=s_0.length then (xk k (s_0.take fA.toNat)).bind fun p8=>cond p8 (if 0<=(IntKind.wrap .i64 (fA+1))/\(IntKind.wrap .i64 (fA+1)).toNat<=s_0.length then (xk k (s_0.drop (IntKind.wrap .i64 (fA+1)).toNat)).bind fun rT=>some (.inr (rT))else none) (some (.inr (false)))else none) (pK k s_0 (IntKind.wrap .i64 (fA+1)))else none) (some (.inl ()))
instance au8 (k:Nat): ∀(s_0:Str) (fA:Int),Lp Tryz.prog (.loop Sb) (pK k s_0 fA) [(2,25)] [(0,(.str s_0)),(3,(.int .i64 fA))] (Sum.elim (fun p=>(.exit 0,[])) (fun p=>(.ret,[(2,(.bool p))]))):=by
 induction k with
 |zero=>exact fun _ _=>rP rfl
 |succ k ih=>exact fun _ _=>rQ Sb.eq_1 (by unfold pK;exact bZ)
def xq (k:Nat) (s_0:Str):Option Bool:=
 Option.bind (pK k s_0 0) (fun o=>Sum.elim (fun K7=>(xk k s_0).bind fun yY=>some yY) (fun y5=>some y5) o)
instance aCD (k:Nat) (s_0:Str):bY Tryz.prog 135 [(.str s_0)] (xq k s_0) (fun r=>(.bool r)):=bM aA9 (by unfold xq apT;exact bE)
def xu (fG:Int):Option Bool:=
 cond (fG==0) (some ((fG==0))) (cond (fG==1) (some ((fG==1))) (cond (fG==2) (some ((fG==2))) (some ((fG==20)))))
instance axK (fG:Int):Lp Tryz.prog (SK) (xu fG) [(5,10)] [(4,(.int .i64 fG))] (fun p=>(.normal,[(5,(.bool p))])):=Gt SK.eq_1 (by unfold xu;exact bZ)
def Dh (fG:Int):Option Bool:=
 cond (fG==4) (some ((fG==4))) (some ((fG==5)))
instance axL (fG:Int):Lp Tryz.prog (SL) (Dh fG) [(14,17)] [(4,(.int .i64 fG))] (fun p=>(.normal,[(14,(.bool p))])):=Gt SL.eq_1 (by unfold Dh;exact bZ)
def Di (fG:Int):Option Bool:=
 cond (fG==6) (some ((fG==6))) (some ((fG==12)))
instance axM (fG:Int):Lp Tryz.prog (SN) (Di fG) [(18,21)] [(4,(.int .i64 fG))] (fun p=>(.normal,[(18,(.bool p))])):=Gt SN.eq_1 (by unfold Di;exact bZ)
def Dk (fG:Int):Option Bool:=
 cond (fG==7) (some ((fG==7))) (cond (fG==8) (some ((fG==8))) (cond (fG==9) (some ((fG==9))) (some ((fG==13)))))
instance axN (fG:Int):Lp Tryz.prog (SQ) (Dk fG) [(22,27)] [(4,(.int .i64 fG))] (fun p=>(.normal,[(22,(.bool p))])):=Gt SQ.eq_1 (by unfold Dk;exact bZ)
def Dl (fG:Int):Option Bool:=
 cond (fG==10) (some ((fG==10))) (some ((fG==11)))
instance axO (fG:Int):Lp Tryz.prog (SS) (Dl fG) [(28,31)] [(4,(.int .i64 fG))] (fun p=>(.normal,[(28,(.bool p))])):=Gt SS.eq_1 (by unfold Dl;exact bZ)
def Dm (fG:Int):Option Bool:=
 cond (fG==15) (some ((fG==15))) (cond (fG==25) (some ((fG==25))) (cond (fG==26) (some ((fG==26))) (cond (fG==27) (some ((fG==27))) (some ((fG==28))))))
instance axP (fG:Int):Lp Tryz.prog (SV) (Dm fG) [(35,41)] [(4,(.int .i64 fG))] (fun p=>(.normal,[(35,(.bool p))])):=Gt SV.eq_1 (by unfold Dm;exact bZ)
def Dn (fG:Int):Option Bool:=
 cond (fG==16) (some ((fG==16))) (some ((fG==17)))
instance axQ (fG:Int):Lp Tryz.prog (SX) (Dn fG) [(42,45)] [(4,(.int .i64 fG))] (fun p=>(.normal,[(42,(.bool p))])):=Gt SX.eq_1 (by unfold Dn;exact bZ)
def vP (jo:Int):Option ((Int×Int×Int×Int)×Bool):=
 Option.bind (xu jo) (fun p6=>cond p6 (some ((0,0,0,0),false)) (cond (jo==3) (some ((0,0,1,4),false)) (Option.bind (Dh jo) (fun AQ=>cond AQ (some ((0,0,0,30),false)) (Option.bind (Di jo) (fun p29=>cond p29 (some ((1,1,2,2),false)) (Option.bind (Dk jo) (fun p42=>cond p42 (some ((1,4,1,1),true)) (Option.bind (Dl jo) (fun p53=>cond p53 (some ((1,4,1,1),false)) (cond (jo==14) (some ((0,0,2,5),false)) (Option.bind (Dm jo) (fun p68=>cond p68 (some ((0,0,2,2),false)) (Option.bind (Dn jo) (fun p79=>cond p79 (some ((1,30,0,0),true)) (cond (jo==18) (some ((0,0,1,1),false)) (cond (jo==19) (some ((0,0,3,3),false)) (cond (jo==21) (some ((0,0,3,3),false)) (cond (jo==22) (some ((0,0,2,30),false)) (cond (jo==23) (some ((1,5,2,2),false)) (some ((1,4,1,1),false))))))))))))))))))))))
instance aDI (jo:Int):bY Tryz.prog 194 [(.int .i64 jo)] (vP jo) (fun r=>(.dn [(.agg [(.int .i64 r.1.1),(.int .i64 r.1.2.1),(.int .i64 r.1.2.2.1),(.int .i64 r.1.2.2.2)]),(.bool r.2)])):=bM aBC (by unfold vP aql;exact bE)
def rD:Nat->(List Nd)->Int->Option (Int⊕Int)
 |0,_,_=>none
 |k+1,au,dx=>
  if 0<=dx then (au[dx.toNat]?).bind fun x3=>cond (decide ((x3.args.length:Int)>0)) ((x3.args[0]?).bind fun x6=>(dw x6 0 (IntKind.wrap .i64 (dx -1))).bind fun p9=>cond p9 (rD k au x6) (some (.inr ((-1))))) (some (.inl dx))else none
instance axR (k:Nat): ∀(au:List Nd) (dx:Int),Lp Tryz.prog (.loop Sd) (rD k au dx) [(1,2),(4,6),(8,28)] [(0,(.ah (au.map Nd.cells) .unk)),(1,(.int .i64 dx))] (Sum.elim (fun p=>(.exit 0,[(1,(.int .i64 p))])) (fun p=>(.ret,[(4,(.int .i64 p))]))):=by
 induction k with
 |zero=>exact fun _ _=>rP rfl
 |succ k ih=>exact fun _ _=>rQ Sd.eq_1 (by unfold rD;exact bZ)
def vQ (k:Nat) (au:List Nd) (dx:Int):Option Int:=
 cond (decide (dx<0)) (some (-1)) (Option.bind (rD k au dx) (fun o=>Sum.elim (fun tQ=>some tQ) (fun AQ=>some AQ) o))
instance akJ (k:Nat) (au:List Nd) (dx:Int):bY Tryz.prog 136 [(.ah (au.map Nd.cells) .unk),(.int .i64 dx)] (vQ k au dx) (fun r=>(.int .i64 r)):=bM aBa (by unfold vQ apU;exact bE)
theorem akK {k:Nat} {au:List Nd} {dx:Int} {c0:Ck} {r:Int} (h:vQ k au dx=some r):aG Tryz.prog 136 [(.ah (au.map Nd.cells) c0),(.int .i64 dx)] (.int .i64 r):=((akJ _ _ _).c _ h).wk (.ah (.same .nil))
def uW:Nat->(List Nd)->Int->Int->Int->Option (Unit⊕Bool)
 |0,_,_,_,_=>none
 |k+1,au,eB,K8,AU=>
  cond (decide (AU>=0)) (if 0<=eB then (au[eB.toNat]?).bind fun x6=>if 0<=AU then (x6.args[AU.toNat]?).bind fun x9=>cond (x9 !=(IntKind.wrap .i64 (K8 -1))) (some (.inr (false))) (cond (decide (K8<1)) (some (.inr (false))) ((vQ k au (IntKind.wrap .i64 (K8 -1))).bind fun nG=>uW k au eB nG (IntKind.wrap .i64 (AU -1))))else none else none) (some (.inl ()))
instance au9 (k:Nat): ∀(au:List Nd) (eB:Int) (K8:Int) (AU:Int),Lp Tryz.prog (.loop SY) (uW k au eB K8 AU) [(4,7),(15,38)] [(0,(.ah (au.map Nd.cells) .unk)),(1,(.int .i64 eB)),(5,(.int .i64 K8)),(6,(.int .i64 AU))] (Sum.elim (fun p=>(.exit 0,[])) (fun p=>(.ret,[(4,(.bool p))]))):=by
 induction k with
 |zero=>exact fun _ _ _ _=>rP rfl
 |succ k ih=>exact fun _ _ _ _=>rQ SY.eq_1 (by unfold uW;exact bZ)
def EG (k:Nat) (au:List Nd) (eB:Int):Option Bool:=
 if 0<=eB then (au[eB.toNat]?).bind fun x2=>Option.bind (uW k au eB eB (IntKind.wrap .i64 ((x2.args.length:Int) -1))) (fun o=>Sum.elim (fun K9=>some true) (fun yY=>some yY) o)else none
instance aCE (k:Nat) (au:List Nd) (eB:Int):bY Tryz.prog 195 [(.ah (au.map Nd.cells) .unk),(.int .i64 eB)] (EG k au eB) (fun r=>(.bool r)):=bM aBD (by unfold EG aqm;exact bE)
def qg:Nat->Str->Int->Option (Unit⊕Bool)
 |0,_,_=>none
 |k+1,s_0,iK=>
  cond (decide (iK<(s_0.length:Int))) (if 0<=iK then (s_0[iK.toNat]?).bind fun x4=>cond (decide ((x4.toNat:Int)<32)) (some (.inr (false))) (cond (decide ((x4.toNat:Int)>126)) (some (.inr (false))) (qg k s_0 (IntKind.wrap .i64 (iK+1))))else none) (some (.inl ()))
instance atP (k:Nat): ∀(s_0:Str) (iK:Int),Lp Tryz.prog (.loop TJ) (qg k s_0 iK) [(4,6),(10,26)] [(0,(.str s_0)),(5,(.int .i64 iK))] (Sum.elim (fun p=>(.exit 0,[])) (fun p=>(.ret,[(4,(.bool p))]))):=by
 induction k with
 |zero=>exact fun _ _=>rP rfl
 |succ k ih=>exact fun _ _=>rQ TJ.eq_1 (by unfold qg;exact bZ)
def FL (k:Nat) (s_0:Str) (VB:Int):Option Bool:=
 cond (decide ((s_0.length:Int)>VB)) (some false) (Option.bind (qg k s_0 0) (fun o=>Sum.elim (fun mH=>some true) (fun nG=>some nG) o))
instance aAu (k:Nat) (s_0:Str) (VB:Int):bY Tryz.prog 245 [(.str s_0),(.int .i64 VB)] (FL k s_0 VB) (fun r=>(.bool r)):=bM aB1 (by unfold FL aqL;exact bE)
def tT:Nat->Str->Int->Option (Unit⊕Bool)
 |0,_,_=>none
 |k+1,s_0,fA=>
  cond (decide (fA<(s_0.length:Int))) (if 0<=fA then (s_0[fA.toNat]?).bind fun x6=>cond ((x6.toNat:Int)==34) (some (.inr (false))) (cond ((x6.toNat:Int)==92) (some (.inr (false))) (tT k s_0 (IntKind.wrap .i64 (fA+1))))else none) (some (.inl ()))
instance axS (k:Nat): ∀(s_0:Str) (fA:Int),Lp Tryz.prog (.loop S9) (tT k s_0 fA) [(2,4),(7,23)] [(0,(.str s_0)),(3,(.int .i64 fA))] (Sum.elim (fun p=>(.exit 0,[])) (fun p=>(.ret,[(2,(.bool p))]))):=by
 induction k with
 |zero=>exact fun _ _=>rP rfl
 |succ k ih=>exact fun _ _=>rQ S9.eq_1 (by unfold tT;exact bZ)
def jf (k:Nat) (s_0:Str):Option Bool:=
 (FL k s_0 40).bind fun p2=>cond p2 (Option.bind (tT k s_0 0) (fun o=>Sum.elim (fun rT=>some true) (fun p16=>some p16) o)) (some false)
instance aDJ (k:Nat) (s_0:Str):bY Tryz.prog 196 [(.str s_0)] (jf k s_0) (fun r=>(.bool r)):=bM aBE (by unfold jf aqn;exact bE)
def Dp (bJ:Int) (dI:Int) (dh:Str) (dN:List Str) (dU:List Int) (aip:Bool):Option Bool:=
 cond aip (some ((bJ==3))) (some (false))
instance atQ (bJ:Int) (dI:Int) (dh:Str) (dN:List Str) (dU:List Int) (aip:Bool):Lo Tryz.prog (.ops RS) (Dp bJ dI dh dN dU aip) [(38,42)] [(37,(.bool aip))] [(5,Nd.cells ⟨bJ,dI,dh,dN,dU⟩)] (fun p=>(.normal,[(41,(.bool p))],none)):=IU RS.eq_1 (by unfold Dp;exact iI)
def y7 (k:Nat) (bJ:Int) (dI:Int) (dh:Str) (dN:List Str) (dU:List Int) (GJ:Int) (GK:Int) (GL:Int) (GN:Int):Option ((Int×Int×Int×Int)):=
 (vN k dh).bind fun mH=>Option.bind (Dp bJ dI dh dN dU mH.2) (fun nG=>cond nG (some ((GJ,GK,0,(dU.length:Int)))) (some ((GJ,GK,GL,GN))))
instance atS (k:Nat) (bJ:Int) (dI:Int) (dh:Str) (dN:List Str) (dU:List Int) (GJ:Int) (GK:Int) (GL:Int) (GN:Int):Lo Tryz.prog (RU) (y7 k bJ dI dh dN dU GJ GK GL GN) [(8,10),(30,47)] [] [(5,Nd.cells ⟨bJ,dI,dh,dN,dU⟩),(6,[(.int .i64 GJ),(.int .i64 GK),(.int .i64 GL),(.int .i64 GN)])] (fun p=>(.normal,[],some [Nd.cells ⟨bJ,dI,dh,dN,dU⟩,[(.int .i64 p.1),(.int .i64 p.2.1),(.int .i64 p.2.2.1),(.int .i64 p.2.2.2)]])):=anO RU.eq_1 (by unfold y7;exact iI)
def y8 (GJ:Int) (GK:Int) (GL:Int) (GN:Int) (Ql:Int) (MG:Bool):Option Bool:=
 cond MG (some (true)) ((dw Ql GL GN).bind fun p46=>some ((!p46)))
instance atT (GJ:Int) (GK:Int) (GL:Int) (GN:Int) (Ql:Int) (MG:Bool):Lo Tryz.prog (.ops RX) (y8 GJ GK GL GN Ql MG) [(67,75)] [(10,(.int .i64 Ql)),(66,(.bool MG))] [(6,[(.int .i64 GJ),(.int .i64 GK),(.int .i64 GL),(.int .i64 GN)])] (fun p=>(.normal,[(74,(.bool p))],none)):=IU RX.eq_1 (by unfold y8;exact iI)
def y9 (bJ:Int) (dI:Int) (dh:Str) (dN:List Str) (dU:List Int) (aiq:Bool):Option Bool:=
 cond aiq (some (true)) (cond (bJ==2) (some (true)) (cond (bJ==3) (some (true)) (some ((bJ==18)))))
instance atU (bJ:Int) (dI:Int) (dh:Str) (dN:List Str) (dU:List Int) (aiq:Bool):Lo Tryz.prog (.ops RY) (y9 bJ dI dh dN dU aiq) [(79,93)] [(78,(.bool aiq))] [(5,Nd.cells ⟨bJ,dI,dh,dN,dU⟩)] (fun p=>(.normal,[(92,(.bool p))],none)):=IU RY.eq_1 (by unfold y9;exact iI)
def za (k:Nat) (bJ:Int) (dI:Int) (dh:Str) (dN:List Str) (dU:List Int) (Qm:Bool) (air:Bool):Option Bool:=
 cond air (some (true)) (cond Qm (cond (bJ !=0) (cond (bJ !=23) (cond (dI !=0) (some (true)) (cond (bJ==23) ((dw dI 0 1).bind fun yK=>cond yK (cond (bJ==1) ((jf k dh).bind fun Zj=>some ((!Zj))) (some (false))) (some (true))) (cond (bJ==1) ((jf k dh).bind fun Zk=>some ((!Zk))) (some (false))))) (cond (bJ==23) ((dw dI 0 1).bind fun p90=>cond p90 (cond (bJ==1) ((jf k dh).bind fun VD=>some ((!VD))) (some (false))) (some (true))) (cond (bJ==1) ((jf k dh).bind fun p97=>some ((!p97))) (some (false))))) (cond (bJ==23) ((dw dI 0 1).bind fun ais=>cond ais (cond (bJ==1) ((jf k dh).bind fun anS=>some ((!anS))) (some (false))) (some (true))) (cond (bJ==1) ((jf k dh).bind fun aFQ=>some ((!aFQ))) (some (false))))) (cond (dh==[]) (cond (bJ !=0) (cond (bJ !=23) (cond (dI !=0) (some (true)) (cond (bJ==23) ((dw dI 0 1).bind fun ait=>cond ait (cond (bJ==1) ((jf k dh).bind fun aiu=>some ((!aiu))) (some (false))) (some (true))) (cond (bJ==1) ((jf k dh).bind fun aFR=>some ((!aFR))) (some (false))))) (cond (bJ==23) ((dw dI 0 1).bind fun aFS=>cond aFS (cond (bJ==1) ((jf k dh).bind fun aFT=>some ((!aFT))) (some (false))) (some (true))) (cond (bJ==1) ((jf k dh).bind fun aFU=>some ((!aFU))) (some (false))))) (cond (bJ==23) ((dw dI 0 1).bind fun aFV=>cond aFV (cond (bJ==1) ((jf k dh).bind fun aFW=>some ((!aFW))) (some (false))) (some (true))) (cond (bJ==1) ((jf k dh).bind fun aiv=>some ((!aiv))) (some (false))))) (some (true))))
instance atV (k:Nat) (bJ:Int) (dI:Int) (dh:Str) (dN:List Str) (dU:List Int) (Qm:Bool) (air:Bool):Lo Tryz.prog (.ops RZ) (za k bJ dI dh dN dU Qm air) [(98,143)] [(11,(.bool Qm)),(97,(.bool air))] [(5,Nd.cells ⟨bJ,dI,dh,dN,dU⟩)] (fun p=>(.normal,[(142,(.bool p))],none)):=IU RZ.eq_1 (by unfold za;exact iI)
def ze (bJ:Int) (dI:Int) (dh:Str) (dN:List Str) (dU:List Int) (aa4:Bool):Option Bool:=
 cond aa4 ((dw dI 0 10000).bind fun aiw=>some ((!aiw))) (some (false))
instance atW (bJ:Int) (dI:Int) (dh:Str) (dN:List Str) (dU:List Int) (aa4:Bool):Lo Tryz.prog (.ops R3) (ze bJ dI dh dN dU aa4) [(147,152)] [(146,(.bool aa4))] [(5,Nd.cells ⟨bJ,dI,dh,dN,dU⟩)] (fun p=>(.normal,[(151,(.bool p))],none)):=IU R3.eq_1 (by unfold ze;exact iI)
def qh:Nat->Int->Int->Str->(List Str)->(List Int)->Int->Option (Unit⊕Int)
 |0,_,_,_,_,_,_=>none
 |k+1,bJ,dI,dh,dN,dU,Uh=>
  cond (decide (Uh<(dN.length:Int))) (if 0<=Uh then (dN[Uh.toNat]?).bind fun aFX=>(xk k aFX).bind fun aix=>cond aix (qh k bJ dI dh dN dU (IntKind.wrap .i64 (Uh+1))) (some (.inr (7)))else none) (some (.inl ()))
instance atX (k:Nat): ∀(bJ:Int) (dI:Int) (dh:Str) (dN:List Str) (dU:List Int) (Uh:Int),Lo Tryz.prog (.loop R4) (qh k bJ dI dh dN dU Uh) [(4,5),(12,13),(152,166)] [(12,(.int .i64 Uh))] [(5,Nd.cells ⟨bJ,dI,dh,dN,dU⟩)] (Sum.elim (fun p=>(.exit 0,[],none)) (fun p=>(.ret,[(4,(.int .i64 p))],none))):=by
 induction k with
 |zero=>exact fun _ _ _ _ _ _=>lo0 rfl
 |succ k ih=>exact fun _ _ _ _ _ _=>loS R4.eq_1 (by unfold qh;exact iI)
def Dq (k:Nat) (bJ:Int) (dI:Int) (dh:Str) (dN:List Str) (dU:List Int) (aa5:Bool):Option Bool:=
 cond aa5 ((xq k dh).bind fun aFY=>some ((!aFY))) (some (false))
instance atY (k:Nat) (bJ:Int) (dI:Int) (dh:Str) (dN:List Str) (dU:List Int) (aa5:Bool):Lo Tryz.prog (.ops R5) (Dq k bJ dI dh dN dU aa5) [(197,202)] [(196,(.bool aa5))] [(5,Nd.cells ⟨bJ,dI,dh,dN,dU⟩)] (fun p=>(.normal,[(201,(.bool p))],none)):=IU R5.eq_1 (by unfold Dq;exact iI)
def zf (k:Nat) (bJ:Int) (dI:Int) (dh:Str) (dN:List Str) (dU:List Int) (X3:Str) (X4:Int) (X5:Int) (X6:Int) (X7:Bool) (Qn:Int) (Qo:Int) (VE:Bool):Option (Unit⊕Int):=
 cond (bJ==2) ((xq k dh).bind fun aFZ=>cond aFZ (some (.inl ())) ((yZ dh).bind fun aF0=>cond aF0 (some (.inl ())) (some (.inr (7))))) (cond (bJ==18) ((xk k dh).bind fun aF1=>cond aF1 (some (.inl ())) (some (.inr (7)))) (cond (bJ==3) (Option.bind (Dq k bJ dI dh dN dU (!VE)) (fun aF2=>cond aF2 (some (.inr (7))) (cond VE ((dw (dU.length:Int) Qn Qo).bind fun aF3=>cond aF3 (some (.inl ())) (some (.inr (17)))) (some (.inl ()))))) (some (.inl ()))))
instance atZ (k:Nat) (bJ:Int) (dI:Int) (dh:Str) (dN:List Str) (dU:List Int) (X3:Str) (X4:Int) (X5:Int) (X6:Int) (X7:Bool) (Qn:Int) (Qo:Int) (VE:Bool):Lo Tryz.prog (R6) (zf k bJ dI dh dN dU X3 X4 X5 X6 X7 Qn Qo VE) [(4,5),(172,214)] [(14,(.bool VE))] [(5,Nd.cells ⟨bJ,dI,dh,dN,dU⟩),(13,[(.str X3),(.int .i64 X4),(.int .i64 X5),(.int .i64 X6),(.bool X7),(.int .i64 Qn),(.int .i64 Qo)])] (Sum.elim (fun p=>(.normal,[],none)) (fun p=>(.ret,[(4,(.int .i64 p))],none))):=anO R6.eq_1 (by unfold zf;exact iI)
def nH:Nat->Int->Int->Str->(List Str)->(List Int)->Int->Option (Unit⊕Int)
 |0,_,_,_,_,_,_=>none
 |k+1,bJ,dI,dh,dN,dU,KC=>
  cond (decide (KC<(dN.length:Int))) (if 0<=KC/\KC.toNat<=dN.length then if 0<=KC then (dN[KC.toNat]?).bind fun aF4=>(lW k (dN.take KC.toNat) aF4).bind fun aF5=>cond aF5 (some (.inr (12))) (nH k bJ dI dh dN dU (IntKind.wrap .i64 (KC+1)))else none else none) (some (.inl ()))
instance at0 (k:Nat): ∀(bJ:Int) (dI:Int) (dh:Str) (dN:List Str) (dU:List Int) (KC:Int),Lo Tryz.prog (.loop R7) (nH k bJ dI dh dN dU KC) [(4,5),(15,16),(214,231)] [(15,(.int .i64 KC))] [(5,Nd.cells ⟨bJ,dI,dh,dN,dU⟩)] (Sum.elim (fun p=>(.exit 3,[],none)) (fun p=>(.ret,[(4,(.int .i64 p))],none))):=by
 induction k with
 |zero=>exact fun _ _ _ _ _ _=>lo0 rfl
 |succ k ih=>exact fun _ _ _ _ _ _=>loS R7.eq_1 (by unfold nH;exact iI)
def FM (k:Nat) (au:List Nd) (eB:Int):Option Int:=
 if 0<=eB then (au[eB.toNat]?).bind fun x2=>(dw x2.kind 0 28).bind fun p5=>cond p5 ((vP x2.kind).bind fun p8=>Option.bind (y7 k x2.kind x2.n x2.text x2.names x2.args p8.1.1 p8.1.2.1 p8.1.2.2.1 p8.1.2.2.2) (fun Gv=>(ME p8.2).bind fun p41=>(dw (x2.names.length:Int) Gv.1 Gv.2.1).bind fun p43=>Option.bind (y8 Gv.1 Gv.2.1 Gv.2.2.1 Gv.2.2.2 (IntKind.wrap .i64 ((x2.args.length:Int) -(IntKind.wrap .i64 ((x2.names.length:Int)*p41)))) (!p43)) (fun p49=>cond p49 (some 6) (Option.bind (y9 x2.kind x2.n x2.text x2.names x2.args (x2.kind==1)) (fun p63=>(EG k au eB).bind fun p72=>Option.bind (za k x2.kind x2.n x2.text x2.names x2.args p63 (!p72)) (fun aF6=>cond aF6 (some 5) (Option.bind (ze x2.kind x2.n x2.text x2.names x2.args (x2.kind==0)) (fun aiy=>cond aiy (some 3) (Option.bind (qh k x2.kind x2.n x2.text x2.names x2.args 0) (fun o=>Sum.elim (fun anT=>(vN k x2.text).bind fun OM=>Option.bind (zf k x2.kind x2.n x2.text x2.names x2.args OM.1.text OM.1.fix OM.1.low OM.1.high OM.1.left OM.1.least OM.1.most OM.2) (fun o=>Sum.elim (fun aLy=>Option.bind (nH k x2.kind x2.n x2.text x2.names x2.args 1) (fun o=>Sum.elim (fun aLz=>some 0) (fun aF7=>some aF7) o)) (fun aF8=>some aF8) o)) (fun aF9=>some aF9) o)))))))))) (some 4)else none
instance aAv (k:Nat) (au:List Nd) (eB:Int):bY Tryz.prog 133 [(.ah (au.map Nd.cells) .unk),(.int .i64 eB)] (FM k au eB) (fun r=>(.int .i64 r)):=bM aA7 (by unfold FM apR;exact FK)
def uX:Nat->(List Nd)->Int->Int->Int->Option (Unit⊕(Int×Int))
 |0,_,_,_,_=>none
 |k+1,au,eB,AU,Zl=>
  if 0<=AU then (au[AU.toNat]?).bind fun x3=>cond (decide (Zl<(x3.args.length:Int))) (if 0<=Zl then (x3.args[Zl.toNat]?).bind fun x7=>cond (x7==eB) (some (.inr ((AU,Zl)))) (uX k au eB AU (IntKind.wrap .i64 (Zl+1)))else none) (some (.inl ()))else none
instance ava (k:Nat): ∀(au:List Nd) (eB:Int) (AU:Int) (Zl:Int),Lp Tryz.prog (.loop R8) (uX k au eB AU Zl) [(4,6),(7,8),(16,38)] [(0,(.ah (au.map Nd.cells) .unk)),(1,(.int .i64 eB)),(6,(.int .i64 AU)),(7,(.int .i64 Zl))] (Sum.elim (fun p=>(.exit 2,[])) (fun p=>(.ret,[(4,(.int .i64 p.1)),(5,(.int .i64 p.2))]))):=by
 induction k with
 |zero=>exact fun _ _ _ _=>rP rfl
 |succ k ih=>exact fun _ _ _ _=>rQ R8.eq_1 (by unfold uX;exact bZ)
def uY:Nat->(List Nd)->Int->Int->Option (Unit⊕(Int×Int))
 |0,_,_,_=>none
 |k+1,au,eB,AU=>
  cond (decide (AU<(au.length:Int))) (Option.bind (uX k au eB AU 0) (fun o=>Sum.elim (fun rT=>uY k au eB (IntKind.wrap .i64 (AU+1))) (fun Bc=>some (.inr ((Bc.1,Bc.2)))) o)) (some (.inl ()))
instance avb (k:Nat): ∀(au:List Nd) (eB:Int) (AU:Int),Lp Tryz.prog (.loop R9) (uY k au eB AU) [(4,8),(10,38)] [(0,(.ah (au.map Nd.cells) .unk)),(1,(.int .i64 eB)),(6,(.int .i64 AU))] (Sum.elim (fun p=>(.exit 0,[])) (fun p=>(.ret,[(4,(.int .i64 p.1)),(5,(.int .i64 p.2))]))):=by
 induction k with
 |zero=>exact fun _ _ _=>rP rfl
 |succ k ih=>exact fun _ _ _=>rQ R9.eq_1 (by unfold uY;exact bZ)
def qP (k:Nat) (au:List Nd) (eB:Int):Option (Int×Int):=
 Option.bind (uY k au eB (IntKind.wrap .i64 (eB+1))) (fun o=>Sum.elim (fun p27=>some ((-1),0)) (fun p31=>some (p31.1,p31.2)) o)
instance aiz (k:Nat) (au:List Nd) (eB:Int):bY Tryz.prog 134 [(.ah (au.map Nd.cells) .unk),(.int .i64 eB)] (qP k au eB) (fun r=>(.dn [(.int .i64 r.1),(.int .i64 r.2)])):=bM aA8 (by unfold qP apS;exact bE)
theorem VF {k:Nat} {au:List Nd} {eB:Int} {c0:Ck} {r:Int×Int} (h:qP k au eB=some r):aG Tryz.prog 134 [(.ah (au.map Nd.cells) c0),(.int .i64 eB)] (.dn [(.int .i64 r.1),(.int .i64 r.2)]):=((aiz _ _ _).c _ h).wk (.ah (.same .nil))
def tV:Nat->(List Nd)->Int->Option (Unit⊕(Int×Int))
 |0,_,_=>none
 |k+1,au,gW=>
  cond (decide (gW<(au.length:Int))) ((FM k au gW).bind fun p5=>cond (p5 !=0) (some (.inr ((gW,p5)))) (tV k au (IntKind.wrap .i64 (gW+1)))) (some (.inl ()))
instance axT (k:Nat): ∀(au:List Nd) (gW:Int),Lp Tryz.prog (.loop XJ) (tV k au gW) [(2,6),(17,30)] [(0,(.ah (au.map Nd.cells) .unk)),(4,(.int .i64 gW))] (Sum.elim (fun p=>(.exit 0,[])) (fun p=>(.ret,[(2,(.int .i64 p.1)),(3,(.int .i64 p.2))]))):=by
 induction k with
 |zero=>exact fun _ _=>rP rfl
 |succ k ih=>exact fun _ _=>rQ XJ.eq_1 (by unfold tV;exact bZ)
def Dr (k:Nat) (au:List Nd) (yA:Int) (MH:Bool):Option Bool:=
 cond MH (if 0<=yA then (au[yA.toNat]?).bind fun vR=>cond (vR.kind==3) ((xq k vR.text).bind fun FN=>some (FN)) (some (false))else none) (some (false))
instance axU (k:Nat) (au:List Nd) (yA:Int) (MH:Bool):Lp Tryz.prog (.ops XK) (Dr k au yA MH) [(45,60)] [(0,(.ah (au.map Nd.cells) .unk)),(7,(.int .i64 yA)),(44,(.bool MH))] (fun p=>(.normal,[(59,(.bool p))])):=lpO XK.eq_1 (by unfold Dr;exact bZ)
def GQ (MI:Bool) (MG:Bool):Option Bool:=
 cond MG (some ((!MI))) (some (false))
instance axV (MI:Bool) (MG:Bool):Lp Tryz.prog (.ops XL) (GQ MI MG) [(67,70)] [(9,(.bool MI)),(66,(.bool MG))] (fun p=>(.normal,[(69,(.bool p))])):=lpO XL.eq_1 (by unfold GQ;exact bZ)
def GR (au:List Nd) (yA:Int) (Af:Int) (aiA:Bool):Option Bool:=
 cond aiA (some (true)) (if 0<=yA then (au[yA.toNat]?).bind fun x54=>cond (x54.kind==19) (some ((Af==2))) (some (false))else none)
instance axW (au:List Nd) (yA:Int) (Af:Int) (aiA:Bool):Lp Tryz.prog (.ops XM) (GR au yA Af aiA) [(75,86)] [(0,(.ah (au.map Nd.cells) .unk)),(7,(.int .i64 yA)),(8,(.int .i64 Af)),(74,(.bool aiA))] (fun p=>(.normal,[(85,(.bool p))])):=lpO XM.eq_1 (by unfold GR;exact bZ)
def xw:Nat->(List Nd)->Int->Int->Bool->Option Bool
 |0,_,_,_,_=>none
 |k+1,au,yA,Af,OO=>
  cond (decide (yA>=0)) (Option.bind (GR au yA Af OO) (fun p59=>(qP k au yA).bind fun p67=>xw k au p67.1 p67.2 p59)) (some (OO))
instance axX (k:Nat): ∀(au:List Nd) (yA:Int) (Af:Int) (OO:Bool),Lp Tryz.prog (.loop XO) (xw k au yA Af OO) [(7,9),(10,11),(71,92)] [(0,(.ah (au.map Nd.cells) .unk)),(7,(.int .i64 yA)),(8,(.int .i64 Af)),(10,(.bool OO))] (fun p=>(.exit 4,[(10,(.bool p))])):=by
 induction k with
 |zero=>exact fun _ _ _ _=>rP rfl
 |succ k ih=>exact fun _ _ _ _=>rQ XO.eq_1 (by unfold xw;exact bZ)
def rE:Nat->(List Nd)->Int->Option (Unit⊕(Int×Int))
 |0,_,_=>none
 |k+1,au,mo=>
  cond (decide (mo<(au.length:Int))) ((qP k au mo).bind fun p16=>Option.bind (Dr k au p16.1 (decide (p16.1>=0))) (fun p26=>if 0<=mo then (au[mo.toNat]?).bind fun OP=>Option.bind (GQ p26 (OP.kind==24)) (fun p41=>cond p41 (some (.inr ((mo,30)))) (Option.bind (xw k au p16.1 p16.2 false) (fun p70=>cond (OP.kind==20) (cond p70 (rE k au (IntKind.wrap .i64 (mo+1))) (some (.inr ((mo,30))))) (rE k au (IntKind.wrap .i64 (mo+1))))))else none)) (some (.inl ()))
instance axY (k:Nat): ∀(au:List Nd) (mo:Int),Lp Tryz.prog (.loop XP) (rE k au mo) [(2,4),(6,11),(30,103)] [(0,(.ah (au.map Nd.cells) .unk)),(6,(.int .i64 mo))] (Sum.elim (fun p=>(.exit 2,[])) (fun p=>(.ret,[(2,(.int .i64 p.1)),(3,(.int .i64 p.2))]))):=by
 induction k with
 |zero=>exact fun _ _=>rP rfl
 |succ k ih=>exact fun _ _=>rQ XP.eq_1 (by unfold rE;exact bZ)
def Cq (k:Nat) (au:List Nd):Option (Int×Int):=
 cond ((au.length:Int)==0) (some (0,1)) (cond (decide ((au.length:Int)>160)) (some (0,2)) (Option.bind (tV k au 0) (fun o=>Sum.elim (fun p9=>Option.bind (rE k au 0) (fun o=>Sum.elim (fun p81=>(vQ k au (IntKind.wrap .i64 ((au.length:Int) -1))).bind fun Zk=>cond (Zk !=0) (some ((IntKind.wrap .i64 ((au.length:Int) -1)),15)) (some (0,0))) (fun QJ=>some (QJ.1,QJ.2)) o)) (fun Zm=>some (Zm.1,Zm.2)) o)))
instance aDK (k:Nat) (au:List Nd):bY Tryz.prog 63 [(.ah (au.map Nd.cells) .unk)] (Cq k au) (fun r=>(.dn [(.int .i64 r.1),(.int .i64 r.2)])):=bM aFt (by unfold Cq awC;exact bE)
def yL (k:Nat) (au:List Nd):Option Int:=
 (Cq k au).bind fun p2=>some p2.2
instance at1 (k:Nat) (au:List Nd):bY Tryz.prog 19 [(.ah (au.map Nd.cells) .unk)] (yL k au) (fun r=>(.int .i64 r)):=bM ah2 (by unfold yL awj;exact bE)
theorem at5 {k:Nat} {au:List Nd} {c0:Ck} {r:Int} (h:yL k au=some r):aG Tryz.prog 19 [(.ah (au.map Nd.cells) c0)] (.int .i64 r):=((at1 _ _).c _ h).wk (.ah .nil)
def I4 (fA:Int) (La:Bool):Option Bool:=
 cond La (some ((decide (fA<172)))) (some (false))
instance aCF (fA:Int) (La:Bool):Lp Tryz.prog (.ops Xz) (I4 fA La) [(10,13)] [(3,(.int .i64 fA)),(9,(.bool La))] (fun p=>(.normal,[(12,(.bool p))])):=lpO Xz.eq_1 (by unfold I4;exact bZ)
def I5 (au:List Nd) (fA:Int) (aiB:Bool):Option Bool:=
 cond aiB (some (true)) (if 0<=fA then (au[fA.toNat]?).bind fun JW=>cond (decide ((JW.names.length:Int)>34)) (some (true)) (some ((decide ((JW.text.length:Int)>80))))else none)
instance aCG (au:List Nd) (fA:Int) (aiB:Bool):Lp Tryz.prog (.ops XA) (I5 au fA aiB) [(23,40)] [(0,(.ah (au.map Nd.cells) .unk)),(3,(.int .i64 fA)),(22,(.bool aiB))] (fun p=>(.normal,[(39,(.bool p))])):=lpO XA.eq_1 (by unfold I5;exact bZ)
def zh:Nat->(List Nd)->Int->Int->Option (Unit⊕Bool)
 |0,_,_,_=>none
 |k+1,au,fA,k_4=>
  if 0<=fA then (au[fA.toNat]?).bind fun x31=>cond (decide (k_4<(x31.names.length:Int))) (if 0<=k_4 then (x31.names[k_4.toNat]?).bind fun x35=>cond (decide ((x35.length:Int)>80)) (some (.inr (false))) (zh k au fA (IntKind.wrap .i64 (k_4+1)))else none) (some (.inl ()))else none
instance aCH (k:Nat): ∀(au:List Nd) (fA:Int) (k_4:Int),Lp Tryz.prog (.loop XB) (zh k au fA k_4) [(2,3),(4,5),(40,60)] [(0,(.ah (au.map Nd.cells) .unk)),(3,(.int .i64 fA)),(4,(.int .i64 k_4))] (Sum.elim (fun p=>(.exit 2,[])) (fun p=>(.ret,[(2,(.bool p))]))):=by
 induction k with
 |zero=>exact fun _ _ _=>rP rfl
 |succ k ih=>exact fun _ _ _=>rQ XB.eq_1 (by unfold zh;exact bZ)
def zi:Nat->(List Nd)->Int->Option (Unit⊕Bool)
 |0,_,_=>none
 |k+1,au,fA=>
  Option.bind (I4 fA (decide (fA<(au.length:Int)))) (fun p4=>cond p4 (if 0<=fA then (au[fA.toNat]?).bind fun x13=>Option.bind (I5 au fA (decide ((x13.args.length:Int)>34))) (fun y5=>cond y5 (some (.inr (false))) (Option.bind (zh k au fA 0) (fun o=>Sum.elim (fun p40=>zi k au (IntKind.wrap .i64 (fA+1))) (fun p46=>some (.inr (p46))) o)))else none) (some (.inl ())))
instance aCI (k:Nat): ∀(au:List Nd) (fA:Int),Lp Tryz.prog (.loop XC) (zi k au fA) [(2,60)] [(0,(.ah (au.map Nd.cells) .unk)),(3,(.int .i64 fA))] (Sum.elim (fun p=>(.exit 0,[])) (fun p=>(.ret,[(2,(.bool p))]))):=by
 induction k with
 |zero=>exact fun _ _=>rP rfl
 |succ k ih=>exact fun _ _=>rQ XC.eq_1 (by unfold zi;exact bZ)
def JX (k:Nat) (au:List Nd):Option Bool:=
 Option.bind (zi k au 0) (fun o=>Sum.elim (fun p53=>some (decide ((au.length:Int)<=170))) (fun p58=>some p58) o)
instance at6 (k:Nat) (au:List Nd):bY Tryz.prog 27 [(.ah (au.map Nd.cells) .unk)] (JX k au) (fun r=>(.bool r)):=bM anw (by unfold JX awq;exact bE)
theorem at7 {k:Nat} {au:List Nd} {c0:Ck} {r:Bool} (h:JX k au=some r):aG Tryz.prog 27 [(.ah (au.map Nd.cells) c0)] (.bool r):=((at6 _ _).c _ h).wk (.ah .nil)
def rV (aZ:List Int):Option (List Int):=
 if(([]:List Int).length+aZ.length)*8<=1099511627776 then some (([]:List Int)++aZ)else none
theorem QK {aZ:List Int} {c0:Ck} {r:List Int} (h:rV aZ=some r):aG Tryz.prog 24 [(.ah (aZ.map aK) c0)] (.ah (r.map aK) .unk):=by
 refine aG.lw (.ah .nil) (aG.bX (dJ.mem (.cons (bK gV _) .nil)) (aL anv (by simp) (aI ?_)) (bK gV _));unfold rV at h;unfold awp;obtain⟨e5,h⟩:=aX h;refine ak ?_;refine gI (f:=aK) tJ ([]:List Int) (aZ:List Int) .exact .unk aA aA eG (by first|exact e5|(simp only [I0,j0];exact e5)) (fun c1 H2 ok3 le ob6 rl4=> ?_);have hf7:HF [] _ H2:=⟨le,fun i _ _=>ob6 i⟩;try simp only [AH.aN,AH.aO,AH.aS,AH.aT]at le
 cases h;refine ak ?_;exact(jV gV _ _)
def jX (aZ:List Str):Option (List Str):=
 if(([]:List Str).length+aZ.length)*16<=1099511627776 then some (([]:List Str)++aZ)else none
theorem Dt {aZ:List Str} {c0:Ck} {r:List Str} (h:jX aZ=some r):aG Tryz.prog 62 [(.ah (aZ.map aF) c0)] (.ah (r.map aF) .unk):=by
 refine aG.lw (.ah .nil) (aG.bX (dJ.mem (.cons (bK gu _) .nil)) (aL ace (by simp) (aI ?_)) (bK gu _));unfold jX at h;unfold XI;obtain⟨e5,h⟩:=aX h;refine ak ?_;refine gI (f:=aF) lG ([]:List Str) (aZ:List Str) .exact .unk aA aA eG (by first|exact e5|(simp only [I0,j0];exact e5)) (fun c1 H2 ok3 le ob6 rl4=> ?_);have hf7:HF [] _ H2:=⟨le,fun i _ _=>ob6 i⟩;try simp only [AH.aN,AH.aO,AH.aS,AH.aT]at le
 cases h;refine ak ?_;exact(jV gu _ _)
def kJ:Nat->(List Nd)->(List Nd)->Int->Option (List Nd)
 |0,_,_,_=>none
 |k+1,au,gL,gW=>
  cond (decide (gW<(au.length:Int))) (if 0<=gW then (au[gW.toNat]?).bind fun x3=>(jX x3.names).bind fun p6=>(rV x3.args).bind fun p8=>if(gL.length+1)*80<=1099511627776 then kJ k au (gL++[(Nd.mk x3.kind x3.n x3.text p6 p8)]) (IntKind.wrap .i64 (gW+1))else none else none) (some (gL))
def Nc:List Nat:=List.range' 3 25
theorem X8: ∀(k:Nat) (au:List Nd) (gL:List Nd) (gW:Int) (kW:Ck) (aH σ:Nat->PV) (H0 H:AH) (f0:Fr Nc aH σ) (hf0:HF [] H0 H) (sl:σ 0=(.ah (au.map Nd.cells) .unk)/\σ 3=(.ah (gL.map Nd.cells) kW)/\σ 4=(.int .i64 gW)) (acH:aR H kW) (o:List Nd) (h:kJ k au gL gW=some o) (Q:Post) (q0: ∀(p:List Nd) (c0:Ck) (σ':Nat->PV) (H':AH),o=p->Fr Nc aH σ'->HF [] H0 H'->(σ' 3=(.ah (p.map Nd.cells) c0))->Q (.exit 0) σ' H'),W Tryz.prog (.loop Xv) Q σ H:=by
 intro k
 induction k with
 |zero=>intro au gL gW kW aH σ H0 H f0 hf0 sl acH o h Q q0;simp only [kJ,reduceCtorEq]at h
 |succ k ih=>
  intro au gL gW kW aH σ H0 H f0 hf0 sl acH o h Q q0;obtain⟨s0,s3,s4⟩:=sl;have hle0:=hf0.1;unfold kJ at h;refine bB (fun K hK=>aI ?_);unfold Xv;obtain⟨e1,h⟩|⟨e1,h⟩:=aJ h
  ·obtain⟨e2,h⟩:=aX h;obtain⟨x3,e4,h⟩:=aj h;refine ak ?_;refine oH ?_;obtain⟨p6,e5,h⟩:=aj h;refine ak ?_;refine PC.mk (Dt e5) ?_;obtain⟨p8,e7,h⟩:=aj h;refine ak ?_;refine PC.mk (QK e7) ?_;obtain⟨e13,h⟩:=aX h;refine ak ?_;refine gI (f:=Nd.cells) Nd.row gL ([(Nd.mk x3.kind x3.n x3.text p6 p8)]:List Nd) kW .exact aA aA eG (by first|exact e13|(simp only [I0,j0];exact e13)) (fun c9 VG aGa le anU aGb=> ?_);have OQ:HF [] _ VG:=⟨le,fun i _ _=>anU i⟩;try simp only [AH.aN,AH.aO,AH.aS,AH.aT]at le
   have n16:=ne_next (show H.next<VG.next from aY);have m17:=bA (show H.next<VG.next from aY);refine ak ?_;refine hK _ _ ?_;exact ih au (gL++[(Nd.mk x3.kind x3.n x3.text p6 p8)]) (IntKind.wrap .i64 (gW+1)) c9 _ _ _ _ bG II aA eG _ h _ q0
  ·cases h;refine ak ?_;exact q0 _ kW _ _ rfl bG yH aA
def tX (k:Nat) (au:List Nd):Option (List Nd):=
 Option.bind (kJ k au ([]:List Nd) 0) (fun I6=>some I6)
theorem QL {k:Nat} {au:List Nd} {c0:Ck} {r:List Nd} (h:tX k au=some r):aG Tryz.prog 18 [(.ah (au.map Nd.cells) c0)] (.ah (r.map Nd.cells) .unk):=by
 refine aG.lw (.ah .nil) (aG.bX (dJ.mem (.cons (bK Nd.pu _) .nil)) (aL awi (by simp) (aI ?_)) (bK Nd.pu _));unfold tX at h;unfold awh;refine ak ?_;obtain⟨o18,h19,h⟩:=aj h;refine X8 k au ([]:List Nd) 0 .nil _ _ _ _ (Fr.refl _ _) (HF.refl _ _) aA eG _ h19 _ ?_
 ·rintro I6 c24 σ' H23 eo aLA aGc s25;rw [eo]at h;have le:=aGc.1;try simp only [AH.aN,AH.aO,AH.aS,AH.aT]at le
  cases h;refine ak ?_;exact(jV Nd.pu _ _)
def gX (aU:Int) (I7:Int) (Ui:Int):Option Bool:=
 cond (decide (I7<=aU)) (some (decide (aU<=Ui))) (some false)
instance akL (aU:Int) (I7:Int) (Ui:Int):bY Tryz.prog 224 [(.int .i64 aU),(.int .i64 I7),(.int .i64 Ui)] (gX aU I7 Ui) (fun r=>(.bool r)):=bM aBO (by unfold gX aqy;exact bE)
theorem jq {aU:Int} {I7:Int} {Ui:Int} {r:Bool} (h:gX aU I7 Ui=some r):aG Tryz.prog 224 [(.int .i64 aU),(.int .i64 I7),(.int .i64 Ui)] (.bool r):=(akL _ _ _).c _ h
def oJ (BR:Bool) (I8:Int):Option Int:=
 cond BR (some I8) (some 0)
instance akM (BR:Bool) (I8:Int):bY Tryz.prog 176 [(.bool BR),(.int .i64 I8)] (oJ BR I8) (fun r=>(.int .i64 r)):=bM aBs (by unfold oJ aqb;exact bE)
theorem wO {BR:Bool} {I8:Int} {r:Int} (h:oJ BR I8=some r):aG Tryz.prog 176 [(.bool BR),(.int .i64 I8)] (.int .i64 r):=(akM _ _).c _ h
def jN:Nat->(List Int)->Int->Int->Option (Unit⊕Int)
 |0,_,_,_=>none
 |k+1,rW,jY,iD=>
  cond (decide (iD<jY)) (if 0<=iD then (rW[iD.toNat]?).bind fun x3=>cond (x3 !=0) (some (.inr (x3))) (jN k rW jY (IntKind.wrap .i64 (iD+1)))else none) (some (.inl ()))
instance ajP (k:Nat): ∀(rW:List Int) (jY:Int) (iD:Int),Lp Tryz.prog (.loop Sy) (jN k rW jY iD) [(2,3),(5,6),(8,17)] [(3,(.int .i64 0)),(6,(.ah (rW.map aK) .unk)),(7,(.int .i64 jY)),(8,(.int .i64 iD))] (Sum.elim (fun p=>(.exit 0,[])) (fun p=>(.ret,[(2,(.int .i64 p))]))):=by
 induction k with
 |zero=>exact fun _ _ _=>rP rfl
 |succ k ih=>exact fun _ _ _=>rQ Sy.eq_1 (by unfold jN;exact bZ)
def gJ (k:Nat) (FP:List Int):Option Int:=
 Option.bind (jN k FP (FP.length:Int) 0) (fun o=>Sum.elim (fun p8=>some 0) (fun tQ=>some tQ) o)
instance Uj (k:Nat) (FP:List Int):bY Tryz.prog 175 [(.ah (FP.map aK) .unk)] (gJ k FP) (fun r=>(.int .i64 r)):=bM aBr (by unfold gJ aqa;exact bE)
theorem oK {k:Nat} {FP:List Int} {c0:Ck} {r:Int} (h:gJ k FP=some r):aG Tryz.prog 175 [(.ah (FP.map aK) c0)] (.int .i64 r):=((Uj _ _).c _ h).wk (.ah .nil)
def vS (VH:Operator) (t_1:Str):Option Bool:=
 some (VH.text==t_1)
instance anV (VH:Operator) (t_1:Str):bY Tryz.prog 266 [(.agg (Operator.cells VH)),(.cK [(.str t_1)] 0)] (vS VH t_1) (fun r=>(.bool r)):=bM aCg (by unfold vS aq0;exact bE)
def bf:Nat->(List Operator)->Str->Int->Int->Option (Unit⊕Int)
 |0,_,_,_,_=>none
 |k+1,s_0,ji,jY,iD=>
  cond (decide (iD<jY)) (if 0<=iD then (s_0[iD.toNat]?).bind fun x3=>(vS x3 ji).bind fun p6=>cond p6 (some (.inr (iD))) (bf k s_0 ji jY (IntKind.wrap .i64 (iD+1)))else none) (some (.inl ()))
instance I9 (k:Nat): ∀(s_0:List Operator) (ji:Str) (jY:Int) (iD:Int),Lp Tryz.prog (.loop TU) (bf k s_0 ji jY iD) [(4,6),(8,19)] [(0,(.ah (s_0.map Operator.cells) .unk)),(1,(.fn (.func 266) [] [(.cK [(.str ji)] 0)])),(7,(.int .i64 jY)),(8,(.int .i64 iD))] (Sum.elim (fun p=>(.exit 0,[])) (fun p=>(.ret,[(4,(.int .i64 p))]))):=by
 induction k with
 |zero=>exact fun _ _ _ _=>rP rfl
 |succ k ih=>exact fun _ _ _ _=>rQ TU.eq_1 (by unfold bf;exact bZ)
def dL (k:Nat) (s_0:List Operator) (ji:Str):Option Int:=
 Option.bind (bf k s_0 ji (s_0.length:Int) 0) (fun o=>Sum.elim (fun mH=>some (-1)) (fun nG=>some nG) o)
instance tY (k:Nat) (s_0:List Operator) (ji:Str):bY Tryz.prog 265 [(.ah (s_0.map Operator.cells) .unk),(.fn (.func 266) [] [(.cK [(.str ji)] 0)])] (dL k s_0 ji) (fun r=>(.int .i64 r)):=bM aCf (by unfold dL aqZ;exact bE)
theorem tZ {k:Nat} {s_0:List Operator} {ji:Str} {c0:Ck} {r:Int} (h:dL k s_0 ji=some r):aG Tryz.prog 265 [(.ah (s_0.map Operator.cells) c0),(.fn (.func 266) [] [(.cK [(.str ji)] 0)])] (.int .i64 r):=((tY _ _ _).c _ h).wk (.ah (.same .nil))
def Du (sG:Int):Option Bool:=
 (gX (IntKind.wrap .i64 sG) 32 126).bind fun p2=>cond p2 (cond (sG==34) (some true) (some (sG==92))) (some true)
instance acI (sG:Int):bY Tryz.prog 269 [(.int .i32 sG)] (Du sG) (fun r=>(.bool r)):=bM aCi (by unfold Du aq2;exact bE)
theorem acJ {sG:Int} {r:Bool} (h:Du sG=some r):aG Tryz.prog 269 [(.int .i32 sG)] (.bool r):=(acI _).c _ h
def dV:Nat->(List Str)->Str->Int->Int->Option (Unit⊕Int)
 |0,_,_,_,_=>none
 |k+1,s_0,v_1,jY,iD=>
  cond (decide (iD<jY)) (if 0<=iD then (s_0[iD.toNat]?).bind fun x3=>cond (v_1==x3) (some (.inr (iD))) (dV k s_0 v_1 jY (IntKind.wrap .i64 (iD+1)))else none) (some (.inl ()))
instance aap (k:Nat): ∀(s_0:List Str) (v_1:Str) (jY:Int) (iD:Int),Lp Tryz.prog (.loop Sr) (dV k s_0 v_1 jY iD) [(4,6),(8,19)] [(0,(.ah (s_0.map aF) .unk)),(1,(.str v_1)),(7,(.int .i64 jY)),(8,(.int .i64 iD))] (Sum.elim (fun p=>(.exit 0,[])) (fun p=>(.ret,[(4,(.int .i64 p))]))):=by
 induction k with
 |zero=>exact fun _ _ _ _=>rP rfl
 |succ k ih=>exact fun _ _ _ _=>rQ Sr.eq_1 (by unfold dV;exact bZ)
def mI (k:Nat) (s_0:List Str) (v_1:Str):Option Int:=
 Option.bind (dV k s_0 v_1 (s_0.length:Int) 0) (fun o=>Sum.elim (fun p8=>some (-1)) (fun rT=>some rT) o)
instance afe (k:Nat) (s_0:List Str) (v_1:Str):bY Tryz.prog 165 [(.ah (s_0.map aF) .unk),(.str v_1)] (mI k s_0 v_1) (fun r=>(.int .i64 r)):=bM aBo (by unfold mI ap7;exact bE)
def bO (k:Nat) (s_0:List Str) (v_1:Str):Option Bool:=
 (mI k s_0 v_1).bind fun p2=>some (decide (p2>=0))
instance Gm (k:Nat) (s_0:List Str) (v_1:Str):bY Tryz.prog 100 [(.ah (s_0.map aF) .unk),(.str v_1)] (bO k s_0 v_1) (fun r=>(.bool r)):=bM aAZ (by unfold bO apJ;exact bE)
theorem jD {k:Nat} {s_0:List Str} {v_1:Str} {c0:Ck} {r:Bool} (h:bO k s_0 v_1=some r):aG Tryz.prog 100 [(.ah (s_0.map aF) c0),(.str v_1)] (.bool r):=((Gm _ _ _).c _ h).wk (.ah (.same .nil))
def yM (s_0:Str) (mD:Str):Option Bool:=
 cond (decide ((s_0.length:Int)>=(mD.length:Int))) (if mD.length<=s_0.length then some ((s_0.take mD.length)==mD)else none) (some false)
instance amA (s_0:Str) (mD:Str):bY Tryz.prog 277 [(.str s_0),(.str mD)] (yM s_0 mD) (fun r=>(.bool r)):=bM aCn (by unfold yM aq7;exact bE)
def lC (s_0:Str) (mD:Str):Option Bool:=
 (yM s_0 mD).bind fun p2=>some p2
instance Qx (s_0:Str) (mD:Str):bY Tryz.prog 236 [(.str s_0),(.str mD)] (lC s_0 mD) (fun r=>(.bool r)):=bM aBV (by unfold lC aqF;exact bE)
theorem Gw {s_0:Str} {mD:Str} {r:Bool} (h:lC s_0 mD=some r):aG Tryz.prog 236 [(.str s_0),(.str mD)] (.bool r):=(Qx _ _).c _ h
def FQ (s_0:Str):Option Bool:=
 cond (s_0==([84,82,85,69]:Str)) (some true) (cond (s_0==([70,65,76,83,69]:Str)) (some true) (cond (s_0==([66,79,79,76,69,65,78]:Str)) (some true) (some (s_0==([83,84,82,73,78,71]:Str)))))
instance aAw (s_0:Str):bY Tryz.prog 241 [(.str s_0)] (FQ s_0) (fun r=>(.bool r)):=bM aBZ (by unfold FQ aqJ;exact bE)
def Lb (au:List Nd) (eB:Int) (oO:List Int):Option Int:=
 if 0<=eB then (au[eB.toNat]?).bind fun x2=>cond ((x2.args.length:Int)==0) (some eB) ((x2.args[0]?).bind fun x5=>if 0<=x5 then (oO[x5.toNat]?).bind fun x8=>some x8 else none)else none
instance akN (au:List Nd) (eB:Int) (oO:List Int):bY Tryz.prog 178 [(.ah (au.map Nd.cells) .unk),(.int .i64 eB),(.ah (oO.map aK) .unk)] (Lb au eB oO) (fun r=>(.int .i64 r)):=bM aBu (by unfold Lb aqd;exact bE)
theorem akO {au:List Nd} {eB:Int} {oO:List Int} {c0 c2:Ck} {r:Int} (h:Lb au eB oO=some r):aG Tryz.prog 178 [(.ah (au.map Nd.cells) c0),(.int .i64 eB),(.ah (oO.map aK) c2)] (.int .i64 r):=((akN _ _ _).c _ h).wk (.ah (.same (.ah .nil)))
def yg (Lc:Int) (bT:Int):Option Shape:=
 some (Shape.mk (Lc,Lc) (bT,bT) false false)
instance avc (Lc:Int) (bT:Int):bY Tryz.prog 267 [(.int .i64 Lc),(.int .i64 bT)] (yg Lc bT) (fun r=>(.agg (Shape.cells r))):=bM aCh (by unfold yg aq1;exact bE)
def lD:Nat->(List Str)->(List Str)->Int->Option (Unit⊕Bool)
 |0,_,_,_=>none
 |k+1,a_0,b_1,iK=>
  cond (decide (iK<(a_0.length:Int))) (if 0<=iK then (a_0[iK.toNat]?).bind fun x4=>(b_1[iK.toNat]?).bind fun x6=>cond (x4==x6) (lD k a_0 b_1 (IntKind.wrap .i64 (iK+1))) (some (.inr (false)))else none) (some (.inl ()))
instance amB (k:Nat): ∀(a_0:List Str) (b_1:List Str) (iK:Int),Lp Tryz.prog (.loop Sj) (lD k a_0 b_1 iK) [(4,6),(11,26)] [(0,(.ah (a_0.map aF) .unk)),(1,(.ah (b_1.map aF) .unk)),(5,(.int .i64 iK))] (Sum.elim (fun p=>(.exit 0,[])) (fun p=>(.ret,[(4,(.bool p))]))):=by
 induction k with
 |zero=>exact fun _ _ _=>rP rfl
 |succ k ih=>exact fun _ _ _=>rQ Sj.eq_1 (by unfold lD;exact bZ)
def zk (k:Nat) (a_0:List Str) (b_1:List Str):Option Bool:=
 cond ((a_0.length:Int) !=(b_1.length:Int)) (some false) (Option.bind (lD k a_0 b_1 0) (fun o=>Sum.elim (fun vO=>some true) (fun K7=>some K7) o))
instance aua (k:Nat) (a_0:List Str) (b_1:List Str):bY Tryz.prog 141 [(.ah (a_0.map aF) .unk),(.ah (b_1.map aF) .unk)] (zk k a_0 b_1) (fun r=>(.bool r)):=bM aBe (by unfold zk apX;exact bE)
def VI (aU:Int):Option Int:=
 cond (decide (aU<0)) (some (IntKind.wrap .i64 (0 -aU))) (some aU)
instance aHU (aU:Int):bY Tryz.prog 318 [(.int .i64 aU)] (VI aU) (fun r=>(.int .i64 r)):=bM aCy (by unfold VI arl;exact bE)
def Cr:Nat->Int->Str->Option Str
 |0,_,_=>none
 |k+1,aU,s_3=>
  (VI (aU.tmod 10)).bind fun p2=>if 0<=p2/\p2<=(IntKind.wrap .i64 (p2+1))/\(IntKind.wrap .i64 (p2+1)).toNat<=10 then if((([48,49,50,51,52,53,54,55,56,57]:Str).take (IntKind.wrap .i64 (p2+1)).toNat).drop p2.toNat).length+s_3.length<=4611686018427387904 then cond ((IntKind.wrap .i64 (aU.tdiv 10))==0) (some ((((([48,49,50,51,52,53,54,55,56,57]:Str).take (IntKind.wrap .i64 (p2+1)).toNat).drop p2.toNat)++s_3))) (Cr k (IntKind.wrap .i64 (aU.tdiv 10)) (((([48,49,50,51,52,53,54,55,56,57]:Str).take (IntKind.wrap .i64 (p2+1)).toNat).drop p2.toNat)++s_3))else none else none
instance aAx (k:Nat): ∀(aU:Int) (s_3:Str),Lp Tryz.prog (.loop Ub) (Cr k aU s_3) [(0,1),(3,4),(5,6),(8,21)] [(0,(.int .i64 aU)),(3,(.str s_3))] (fun p=>(.exit 0,[(3,(.str p))])):=by
 induction k with
 |zero=>exact fun _ _=>rP rfl
 |succ k ih=>exact fun _ _=>rQ Ub.eq_1 (by unfold Cr;exact bZ)
def FR (k:Nat) (aU:Int):Option Str:=
 Option.bind (Cr k aU ([]:Str)) (fun p8=>cond (decide (aU<0)) (if([45]:Str).length+p8.length<=4611686018427387904 then some (45::p8)else none) (some p8))
instance anW (k:Nat) (aU:Int):bY Tryz.prog 281 [(.int .i64 aU)] (FR k aU) (fun r=>(.str r)):=bM aCp (by unfold FR aq9;exact bE)
theorem anX {k:Nat} {aU:Int} {r:Str} (h:FR k aU=some r):aG Tryz.prog 281 [(.int .i64 aU)] (.str r):=(anW _ _).c _ h
def mJ:Nat->(List Int)->(List Int)->Int->Option (Unit⊕Bool)
 |0,_,_,_=>none
 |k+1,a_0,b_1,iK=>
  cond (decide (iK<(a_0.length:Int))) (if 0<=iK then (a_0[iK.toNat]?).bind fun x4=>(b_1[iK.toNat]?).bind fun x6=>cond (x4 !=x6) (some (.inr (false))) (mJ k a_0 b_1 (IntKind.wrap .i64 (iK+1)))else none) (some (.inl ()))
instance anY (k:Nat): ∀(a_0:List Int) (b_1:List Int) (iK:Int),Lp Tryz.prog (.loop Sk) (mJ k a_0 b_1 iK) [(4,6),(11,26)] [(0,(.ah (a_0.map aK) .unk)),(1,(.ah (b_1.map aK) .unk)),(5,(.int .i64 iK))] (Sum.elim (fun p=>(.exit 0,[])) (fun p=>(.ret,[(4,(.bool p))]))):=by
 induction k with
 |zero=>exact fun _ _ _=>rP rfl
 |succ k ih=>exact fun _ _ _=>rQ Sk.eq_1 (by unfold mJ;exact bZ)
def Bf (k:Nat) (a_0:List Int) (b_1:List Int):Option Bool:=
 cond ((a_0.length:Int) !=(b_1.length:Int)) (some false) (Option.bind (mJ k a_0 b_1 0) (fun o=>Sum.elim (fun vO=>some true) (fun K7=>some K7) o))
instance avd (k:Nat) (a_0:List Int) (b_1:List Int):bY Tryz.prog 142 [(.ah (a_0.map aK) .unk),(.ah (b_1.map aK) .unk)] (Bf k a_0 b_1) (fun r=>(.bool r)):=bM aBf (by unfold Bf apY;exact bE)
def Dv (k:Nat) (a_0:Nd) (b_1:Nd):Option Bool:=
 cond (a_0.kind==b_1.kind) (cond (a_0.n==b_1.n) (cond (a_0.text==b_1.text) ((zk k a_0.names b_1.names).bind fun p5=>cond p5 ((Bf k a_0.args b_1.args).bind fun p8=>some p8) (some false)) (some false)) (some false)) (some false)
instance ax0 (k:Nat) (a_0:Nd) (b_1:Nd):bY Tryz.prog 75 [(.agg (Nd.cells a_0)),(.agg (Nd.cells b_1))] (Dv k a_0 b_1) (fun r=>(.bool r)):=bM aFy (by unfold Dv awI;exact bE)
def nQ:Nat->(List Nd)->(List Nd)->Int->Option (Unit⊕Bool)
 |0,_,_,_=>none
 |k+1,a_0,b_1,iK=>
  cond (decide (iK<(a_0.length:Int))) (if 0<=iK then (a_0[iK.toNat]?).bind fun x4=>(b_1[iK.toNat]?).bind fun x6=>(Dv k x4 x6).bind fun p9=>cond p9 (nQ k a_0 b_1 (IntKind.wrap .i64 (iK+1))) (some (.inr (false)))else none) (some (.inl ()))
instance arC (k:Nat): ∀(a_0:List Nd) (b_1:List Nd) (iK:Int),Lp Tryz.prog (.loop Xw) (nQ k a_0 b_1 iK) [(4,6),(11,27)] [(0,(.ah (a_0.map Nd.cells) .unk)),(1,(.ah (b_1.map Nd.cells) .unk)),(5,(.int .i64 iK))] (Sum.elim (fun p=>(.exit 0,[])) (fun p=>(.ret,[(4,(.bool p))]))):=by
 induction k with
 |zero=>exact fun _ _ _=>rP rfl
 |succ k ih=>exact fun _ _ _=>rQ Xw.eq_1 (by unfold nQ;exact bZ)
def Ag (k:Nat) (a_0:List Nd) (b_1:List Nd):Option Bool:=
 cond ((a_0.length:Int) !=(b_1.length:Int)) (some false) (Option.bind (nQ k a_0 b_1 0) (fun o=>Sum.elim (fun tQ=>some true) (fun K9=>some K9) o))
instance acK (k:Nat) (a_0:List Nd) (b_1:List Nd):bY Tryz.prog 21 [(.ah (a_0.map Nd.cells) .unk),(.ah (b_1.map Nd.cells) .unk)] (Ag k a_0 b_1) (fun r=>(.bool r)):=bM awl (by unfold Ag awk;exact bE)
theorem acL {k:Nat} {a_0:List Nd} {b_1:List Nd} {c0 c1:Ck} {r:Bool} (h:Ag k a_0 b_1=some r):aG Tryz.prog 21 [(.ah (a_0.map Nd.cells) c0),(.ah (b_1.map Nd.cells) c1)] (.bool r):=((acK _ _ _).c _ h).wk (.ah (.ah .nil))
def fB:Nat->(List Str)->(List Str)->Int->Int->Option (Unit⊕Bool)
 |0,_,_,_,_=>none
 |k+1,qQ,sH,mE,fE=>
  cond (decide (fE<mE)) (if 0<=fE then (qQ[fE.toNat]?).bind fun x4=>(sH[fE.toNat]?).bind fun x6=>cond (x4==x6) (fB k qQ sH mE (IntKind.wrap .i64 (fE+1))) (some (.inr (false)))else none) (some (.inl ()))
instance aaq (k:Nat): ∀(qQ:List Str) (sH:List Str) (mE:Int) (fE:Int),Lp Tryz.prog (.loop TL) (fB k qQ sH mE fE) [(4,6),(13,26)] [(0,(.ah (qQ.map aF) .unk)),(1,(.ah (sH.map aF) .unk)),(12,(.int .i64 mE)),(13,(.int .i64 fE))] (Sum.elim (fun p=>(.exit 0,[])) (fun p=>(.ret,[(4,(.bool p))]))):=by
 induction k with
 |zero=>exact fun _ _ _ _=>rP rfl
 |succ k ih=>exact fun _ _ _ _=>rQ TL.eq_1 (by unfold fB;exact bZ)
def mK (k:Nat) (qQ:List Str) (sH:List Str):Option Bool:=
 cond ((qQ.length:Int) !=(sH.length:Int)) (some false) (Option.bind (fB k qQ sH (qQ.length:Int) 0) (fun o=>Sum.elim (fun vO=>some true) (fun K7=>some K7) o))
instance aff (k:Nat) (qQ:List Str) (sH:List Str):bY Tryz.prog 256 [(.ah (qQ.map aF) .unk),(.ah (sH.map aF) .unk)] (mK k qQ sH) (fun r=>(.bool r)):=bM aB9 (by unfold mK aqT;exact bE)
def jr:Nat->(List Int)->(List Int)->Int->Int->Option (Unit⊕Bool)
 |0,_,_,_,_=>none
 |k+1,qQ,sH,mE,fE=>
  cond (decide (fE<mE)) (if 0<=fE then (qQ[fE.toNat]?).bind fun x4=>(sH[fE.toNat]?).bind fun x6=>cond (x4 !=x6) (some (.inr (false))) (jr k qQ sH mE (IntKind.wrap .i64 (fE+1)))else none) (some (.inl ()))
instance aiC (k:Nat): ∀(qQ:List Int) (sH:List Int) (mE:Int) (fE:Int),Lp Tryz.prog (.loop TM) (jr k qQ sH mE fE) [(4,6),(13,26)] [(0,(.ah (qQ.map aK) .unk)),(1,(.ah (sH.map aK) .unk)),(12,(.int .i64 mE)),(13,(.int .i64 fE))] (Sum.elim (fun p=>(.exit 0,[])) (fun p=>(.ret,[(4,(.bool p))]))):=by
 induction k with
 |zero=>exact fun _ _ _ _=>rP rfl
 |succ k ih=>exact fun _ _ _ _=>rQ TM.eq_1 (by unfold jr;exact bZ)
def uh (k:Nat) (qQ:List Int) (sH:List Int):Option Bool:=
 cond ((qQ.length:Int) !=(sH.length:Int)) (some false) (Option.bind (jr k qQ sH (qQ.length:Int) 0) (fun o=>Sum.elim (fun vO=>some true) (fun K7=>some K7) o))
instance amC (k:Nat) (qQ:List Int) (sH:List Int):bY Tryz.prog 257 [(.ah (qQ.map aK) .unk),(.ah (sH.map aK) .unk)] (uh k qQ sH) (fun r=>(.bool r)):=bM aCa (by unfold uh aqU;exact bE)
def EH (k:Nat) (x_0:Nd) (y_1:Nd):Option Bool:=
 cond (x_0.kind==y_1.kind) (cond (x_0.n==y_1.n) (cond (x_0.text==y_1.text) ((mK k x_0.names y_1.names).bind fun p5=>cond p5 ((uh k x_0.args y_1.args).bind fun p8=>some p8) (some false)) (some false)) (some false)) (some false)
instance aiD (k:Nat) (x_0:Nd) (y_1:Nd):bY Tryz.prog 255 [(.agg (Nd.cells x_0)),(.agg (Nd.cells y_1))] (EH k x_0 y_1) (fun r=>(.bool r)):=bM aB8 (by unfold EH aqS;exact bE)
theorem aiE {k:Nat} {x_0:Nd} {y_1:Nd} {r:Bool} (h:EH k x_0 y_1=some r):aG Tryz.prog 255 [(.agg (Nd.cells x_0)),(.agg (Nd.cells y_1))] (.bool r):=(aiD _ _ _).c _ h
def uj (au:List Nd):Option Nd:=
 if 0<=(IntKind.wrap .i64 ((au.length:Int) -1))then (au[(IntKind.wrap .i64 ((au.length:Int) -1)).toNat]?).bind fun x2=>some x2 else none
instance anZ (au:List Nd):bY Tryz.prog 72 [(.ah (au.map Nd.cells) .unk)] (uj au) (fun r=>(.agg (Nd.cells r))):=bM aFw (by unfold uj awG;exact bE)
theorem an0 {au:List Nd} {c0:Ck} {r:Nd} (h:uj au=some r):aG Tryz.prog 72 [(.ah (au.map Nd.cells) c0)] (.agg (Nd.cells r)):=((anZ _).c _ h).wk (.ah .nil)
def Ah (k:Nat) (aU:Nd):Option Bool:=
 cond (aU.kind==2) ((yZ aU.text).bind fun p3=>cond p3 (cond (aU.kind==3) ((xq k aU.text).bind fun p7=>some p7) (some false)) (some true)) (cond (aU.kind==3) ((xq k aU.text).bind fun mH=>some mH) (some false))
instance akP (k:Nat) (aU:Nd):bY Tryz.prog 249 [(.agg (Nd.cells aU))] (Ah k aU) (fun r=>(.bool r)):=bM aB5 (by unfold Ah aqP;exact bE)
theorem Zn {k:Nat} {aU:Nd} {r:Bool} (h:Ah k aU=some r):aG Tryz.prog 249 [(.agg (Nd.cells aU))] (.bool r):=(akP _ _).c _ h
def MJ (rW:Int):Option Bool:=
 cond (rW==6) (some ((rW==6))) (cond (rW==12) (some ((rW==12))) (cond (rW==7) (some ((rW==7))) (cond (rW==8) (some ((rW==8))) (cond (rW==9) (some ((rW==9))) (cond (rW==13) (some ((rW==13))) (cond (rW==10) (some ((rW==10))) (cond (rW==11) (some ((rW==11))) (some ((rW==24))))))))))
instance ax1 (rW:Int):Lp Tryz.prog (Sw) (MJ rW) [(7,17)] [(6,(.int .i64 rW))] (fun p=>(.normal,[(7,(.bool p))])):=Gt Sw.eq_1 (by unfold MJ;exact bZ)
def vT (aU:Nd) (mM:Int):Option (List Str):=
 Option.bind (MJ aU.kind) (fun vO=>cond vO (cond (mM==(IntKind.wrap .i64 ((aU.args.length:Int) -1))) (some aU.names) (some [])) (cond (aU.kind==23) (cond (mM==1) (if 1<=aU.names.length then some (aU.names.take 1)else none) (cond (aU.n==1) (some aU.names) (if 1<=aU.names.length then some (aU.names.drop 1)else none))) (some [])))
instance akQ (aU:Nd) (mM:Int):bY Tryz.prog 174 [(.agg (Nd.cells aU)),(.int .i64 mM)] (vT aU mM) (fun r=>(.ah (r.map aF) .unk)):=bM aBq (by unfold vT ap9;exact bE)
theorem Zo {aU:Nd} {mM:Int} {r:List Str} (h:vT aU mM=some r):aG Tryz.prog 174 [(.agg (Nd.cells aU)),(.int .i64 mM)] (.ah (r.map aF) .unk):=(akQ _ _).c _ h
def kX (fE:Int):Option Bool:=
 cond (fE==6) (some ((fE==6))) (cond (fE==12) (some ((fE==12))) (cond (fE==7) (some ((fE==7))) (cond (fE==8) (some ((fE==8))) (cond (fE==9) (some ((fE==9))) (cond (fE==13) (some ((fE==13))) (cond (fE==10) (some ((fE==10))) (cond (fE==11) (some ((fE==11))) (some ((fE==24))))))))))
instance OT (fE:Int):Lp Tryz.prog (TI) (kX fE) [(14,24)] [(13,(.int .i64 fE))] (fun p=>(.normal,[(14,(.bool p))])):=Gt TI.eq_1 (by unfold kX;exact bZ)
def iJ (aU:Nd) (mM:Int):Option (List Str):=
 Option.bind (kX aU.kind) (fun vO=>cond vO (cond (mM==(IntKind.wrap .i64 ((aU.args.length:Int) -1))) (some aU.names) (some [])) (cond (aU.kind==23) (cond (mM==(IntKind.wrap .i64 ((aU.args.length:Int) -1))) (if 1<=aU.names.length then some (aU.names.take 1)else none) (cond (aU.n==1) (some aU.names) (if 1<=aU.names.length then some (aU.names.drop 1)else none))) (some [])))
instance akR (aU:Nd) (mM:Int):bY Tryz.prog 240 [(.agg (Nd.cells aU)),(.int .i64 mM)] (iJ aU mM) (fun r=>(.ah (r.map aF) .unk)):=bM aia (by unfold iJ aa3;exact bE)
theorem akS {aU:Nd} {mM:Int} {r:List Str} (h:iJ aU mM=some r):aG Tryz.prog 240 [(.agg (Nd.cells aU)),(.int .i64 mM)] (.ah (r.map aF) .unk):=(akR _ _).c _ h
end Go.VL
end
