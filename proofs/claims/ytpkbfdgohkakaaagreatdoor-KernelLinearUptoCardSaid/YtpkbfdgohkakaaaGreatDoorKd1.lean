/- Part 1. -/
import Derived.Tactics
import Derived.Orders
import Derived.OrdersIn
import Derived.TacticsIn
import Derived.RangeFuncOwn
import Derived.RangeFuncLeaves
import Derived.Laws.Entries
import Derived.Laws.Cells
import Derived.Laws.Rows
import Derived.Laws.Append
import Derived.Laws.AppendOwn
import Derived.Laws.StructEq
import Derived.Laws.CopyRow
import Derived.Laws.MakeOwn
import Derived.Laws.IdiomStrings
import Derived.Lib.AppendZeros
set_option linter.defProp false
namespace Go
def W0:=@Option.bind_some
def V0:=@Int.toNat_natCast
def S0:=@List.getElem?_eq_some_iff
def R0:=@Nat.le_refl
def P0:=@List.mem_singleton
def O0:=@beq_eq_false_iff_ne
def N0:=@List.getElem?_append_right
def K0:=@Nat.lt_of_lt_of_le
def J0:=@List.getElem?_map
def I0:=@List.length_cons
def D0:=@List.not_mem_nil
def C0:=@List.getElem?_append_left
def B0:=@decide_eq_false
def A0:=@if_true
def j0:=@List.length_nil
def g0:=@decide_eq_true
def Z1:=@Option.map_eq_some_iff
def X1:=@List.length_append
def V1:=@Nat.zero_add
def T1:=@List.append_assoc
def S1:=@cond_true
def R1:=@List.getElem?_eq_none
def P1:=@List.drop_zero
def N1:=@List.drop_eq_getElem_cons
def M1:=@List.mem_cons
def L1:=@Option.some.injEq
def J1:=@List.length_map
def I1:=@List.mem_cons_of_mem
def E1:=@Nat.le_trans
def D1:=@Nat.lt_or_ge
def C1:=@Bool.true_and
def B1:=@List.mem_of_getElem?
def A1:=@List.mem_cons_self
def z1:=@Bool.and_eq_true
def Z2:=@Array.getElem?_eq_some_iff
def X2:=@Option.map_some
def W2:=@List.getElem?_eq_getElem
def V2:=@Option.some.inj
def S2:=@eq_false
def R2:=@List.nil_append
def P2:=@List.mem_append
def O2:=@cond_false
def N2:=@List.getElem?_cons_zero
def M2:=@List.take_succ_eq_append_getElem
def L2:=@if_false
def I2:=@Bool.false_eq_true
def E2:=@Option.getD_some
def D2:=@List.length_replicate
def B2:=@decide_eq_true_eq
def A2:=@Nat.lt_succ_self
def Z3:=@Nat.mul_le_mul_right
def W3:=@List.append_nil
def S3:=@List.all_eq_true
def Q3:=@List.getElem?_drop
def P3:=@List.length_take
def O3:=@Bool.false_and
def N3:=@Nat.zero_le
def M3:=@List.map_cons
def L3:=@List.getElem_mem
def I3:=@List.take_of_length_le
def G3:=@List.mem_map
def E3:=@beq_iff_eq
def D3:=@List.getElem?_take_of_lt
def C3:=@Nat.add_mul
def B3:=@Ne.symm
def A3:=@Array.getElem?_eq_getElem
def W4:=@Array.getElem?_toList
def T4:=@List.eq_nil_of_length_eq_zero
def S4:=@Nat.add_zero
def Q4:=@Bool.false_or
def P4:=@List.drop_of_length_le
def N4:=@List.mem_append_left
def L4:=@decide_false
def G4:=@Nat.add_assoc
def E4:=@List.length_drop
def D4:=@decide_true
def B4:=@List.cons_append
def A4:=@List.flatten_cons
def W5:=@of_decide_eq_true
def T5:=@List.mem_append_right
def S5:=@bne_iff_ne
def N5:=@List.all_cons
def L5:=@Nat.sub_self
def C5:=@Bool.or_eq_true
def B5:=@List.mem_range
def A5:=@List.map_append
def u5:=@List.length_eq_zero_iff
def d5:=@List.getElem?_cons_succ
def W6:=@Nat.le_succ
def T6:=@Array.getD_eq_getD_getElem?
def S6:=@List.mem_iff_getElem?
def N6:=@Nat.one_mul
def E6:=@decide_eq_false_iff_not
def C6:=@Bool.not_false
def B6:=@Array.getElem?_append_left
def A6:=@Bool.or_eq_false_iff
def z6:=@List.take_length
def y6:=@Bool.not_true
def w6:=@List.take_append_drop
def m6:=@List.foldl_cons
def i6:=@List.mem_filter
def W7:=@not_false_eq_true
def T7:=@Nat.lt_succ_of_lt
def S7:=@List.cons.injEq
def L7:=@Option.isSome_iff_exists
def E7:=@List.map_map
def C7:=@and_self
def B7:=@or_false
def A7:=@Bool.true_eq_false
def z7:=@Bool.not_eq_true'
def v7:=@List.drop_eq_nil_of_le
def r7:=@List.forall_mem_append
def q7:=@or_true
def m7:=@List.set_getElem_self
def j7:=@List.set_append_right
def i7:=@Classical.byContradiction
def f7:=@Nat.mul_comm
def d7:=@Nat.add_comm
def W8:=@List.length_set
def T8:=@true_and
def S8:=@Bool.true_or
def B8:=@List.size_toArray
def w8:=@true_or
def r8:=@List.getElem?_set
def n8:=@List.replicate_succ
def m8:=@Nat.pow_le_pow_left
def k8:=@Bool.not_eq_false'
def j8:=@List.length_zip
def f8:=@List.getD_eq_getElem?_getD
def d8:=@Nat.lt_irrefl
def b8:=@List.any_cons
def a8:=@List.getElem?_of_mem
def B9:=@Prod.mk.inj
def n9:=@List.any_eq_true
def m9:=@List.take_succ_cons
def k9:=@Prod.mk.injEq
def j9:=@eq_iff_iff
def f9:=@Array.getElem?_eq_none
def b9:=@Nat.div_lt_iff_lt_mul
def PA:=@List.drop_left
def MA:=@List.map_nil
def IA:=@List.singleton_append
def HA:=@List.map_set
def FA:=@Array.getElem?_append_right
def DA:=@Nat.mod_eq_of_lt
def CA:=@List.mem_of_mem_take
def wA:=@List.drop_length
def vA:=@List.le_antisymm
def uA:=@List.exists_cons_of_ne_nil
def tA:=@List.length_filter_lt_length_iff_exists
def sA:=@Nat.mul_one
def pA:=@List.flatten_append
def mA:=@Option.eq_none_or_eq_some
def lA:=@List.nodup_cons
def kA:=@List.pairwise_iff_getElem
def gA:=@List.getElem?_take
def eA:=@List.countP_append
def UB:=@Array.getElem?_replicate
def PB:=@List.zip_cons_cons
def NB:=@decide_eq_true_iff
def KB:=@Nat.mod_lt
def HB:=@List.take_zero
def GB:=@Nat.le_mul_of_pos_right
def DB:=@List.pairwise_singleton
def BB:=@Nat.div_eq_of_lt
def uB:=@List.mem_flatten
def tB:=@Nat.le_add_right
def sB:=@Classical.choose_spec
def pB:=@List.eq_nil_or_concat
def mB:=@List.concat_eq_append
def kB:=@Bool.and_eq_false_iff
def VC:=@Nat.div_add_mod
def TC:=@Nat.pow_le_pow_right
def RC:=@Array.length_toList
def HC:=@List.map_congr_left
def GC:=@List.drop_succ_cons
def CC:=@List.drop_drop
def BC:=@List.foldl_nil
def uC:=@Nat.eq_zero_or_pos
def sC:=@List.mem_replicate
def pC:=@List.map_replicate
def mC:=@List.pairwise_cons
def gC:=@List.cons.inj
end Go
set_option linter.unusedVariables false
set_option linter.unusedSectionVars false
set_option linter.unusedSimpArgs false
section
namespace Go.VL
inductive Ck where
 |nil|exact|unk|tok (k:Nat)
inductive PV where
 |any
 |bool (b:Bool)
 |int (k:IntKind) (n:Int)
 |str (s:List UInt8)
 |nW
 |ref (id off:Nat)
 |cK (cs:List PV) (off:Nat)
 |ah (es:List (List PV)) (c:Ck)
 |bP (id off len cap:Nat) (sz:Nat)
 |agg (cs:List PV)
 |dn (vs:List PV)
 |fn (f:Fn) (first caps:List PV)
 |lq
 |iface (t:TypeId) (v:PV)
 |nA
structure Gh where
 F:Addr->Option Value
 m:Nat->Option Nat
 τ:Nat->Option (Nat×Nat×Nat)
def Rf (G:Gh) (n:Nat) (c:Ck) (ad:Option Addr) (len sz cap:Nat):Prop:=
 match c with
 | .nil=>ad=none/\len=0/\cap=0
 | .exact=>cap=len
 | .unk=>True
 | .tok k=>cap=len\/(len≠0/\k<n/\ ∃b,ad=some ⟨b,0,none⟩/\G.τ k=some (b,len*sz,cap*sz))
inductive V (G:Gh) (n:Nat):PV->Value->Prop where
 |any (v:Value):V G n .any v
 |bool (b:Bool):V G n (.bool b) (.bool b)
 |int (k:IntKind) (x:Int):V G n (.int k x) (.int k x)
 |str (s:List UInt8):V G n (.str s) (.string ⟨s.toArray⟩)
 |nW:V G n .nW (.pointer none)
 |ref (id off b:Nat) (h1:id<n) (h2:G.m id=some b):V G n (.ref id off) (.pointer (some ⟨b,off,none⟩))
 |cK (cs:List PV) (off b o:Nat) (f:Nat->Value) (h1: ∀(j:Nat) (c:PV),cs[j]? =some c->G.F ⟨b,o+j,none⟩=some (f j))
  (h2: ∀(j:Nat) (c:PV),cs[j]? =some c->V G n c (f j)):V G n (.cK cs off) (.pointer (some ⟨b,o+off,none⟩))
 |ah (es:List (List PV)) (c:Ck) (sz:Nat) (ad:Option Addr) (cap:Nat) (f:Nat->Nat->Value)
  (h1: ∀(i:Nat) (cs:List PV),es[i]? =some cs->cs.length=sz) (h2:es.length<=cap)
  (h3:es≠[]-> ∃b o,ad=some ⟨b,o,none⟩/\ ∀(i:Nat) (cs:List PV),es[i]? =some cs-> ∀(j:Nat) (c:PV),cs[j]? =some c->G.F ⟨b,o+i*sz+j,none⟩=some (f i j))
  (h4: ∀(i:Nat) (cs:List PV) (j:Nat) (c:PV),es[i]? =some cs->cs[j]? =some c->V G n c (f i j))
  (h5:Rf G n c ad es.length sz cap):V G n (.ah es c) (.slice ad es.length cap)
 |bP (id off len cap sz b:Nat) (h1:id<n) (h2:G.m id=some b):V G n (.bP id off len cap sz) (.slice (some ⟨b,off,none⟩) len cap)
 |agg (cs:List PV) (vs:Array Value) (h1:vs.size=cs.length) (h2: ∀(j:Nat) (c:PV) (x:Value),cs[j]? =some c->vs[j]? =some x->V G n c x):V G n (.agg cs) (.agg vs)
 |dn (cs:List PV) (vs:Array Value) (h1:vs.size=cs.length) (h2: ∀(j:Nat) (c:PV) (x:Value),cs[j]? =some c->vs[j]? =some x->V G n c x):V G n (.dn cs) (.tuple vs)
 |fn (g:Fn) (cs ds:List PV) (vs us:Array Value) (h1:vs.size=cs.length) (h2: ∀(j:Nat) (c:PV) (x:Value),cs[j]? =some c->vs[j]? =some x->V G n c x)
  (h3:us.size=ds.length) (h4: ∀(j:Nat) (c:PV) (x:Value),ds[j]? =some c->us[j]? =some x->V G n c x):V G n (.fn g cs ds) (.func g vs us)
 |lq:V G n .lq .nilFunc
 |iface (t:TypeId) (p:PV) (v:Value) (h:V G n p v):V G n (.iface t p) (.iface t v)
 |nA:V G n .nA .nilIface
def Vs (G:Gh) (n:Nat) (cs:List PV) (vs:Array Value):Prop:=vs.size=cs.length/\ ∀(j:Nat) (c:PV) (x:Value),cs[j]? =some c->vs[j]? =some x->V G n c x
structure Ext (B:Nat->Prop) (n:Nat) (G G':Gh):Prop where
 F: ∀a x,G.F a=some x->G'.F a=some x
 m: ∀i,i<n->G'.m i=G.m i
 τ: ∀k,k<n->G'.τ k=G.τ k
 new: ∀a,G.F a=none->G'.F a≠none->B a.block
theorem Ext.refl (B:Nat->Prop) (n:Nat) (G:Gh):Ext B n G G:=⟨fun _ _ h=>h,fun _ _=>rfl,fun _ _=>rfl,fun _ h h'=>absurd h h'⟩
theorem Ext.trans {B:Nat->Prop} {n n':Nat} {G G' G'':Gh} (h:Ext B n G G') (h':Ext B n' G' G'') (hn:n<=n'):Ext B n G G'':=
 ⟨fun a x e=>h'.F a x (h.F a x e),fun i hi=>(h'.m i (by omega)).trans (h.m i hi),fun i hi=>(h'.τ i (by omega)).trans (h.τ i hi),fun a e e'=>by
  by_cases hm:G'.F a=none
  · exact h'.new a hm e'
  · exact h.new a e hm⟩
theorem Rf.mono {B:Nat->Prop} {n n':Nat} {G G':Gh} (h:Ext B n G G') (hn:n<=n') {c:Ck} {ad:Option Addr} {len sz cap:Nat}
 (k:Rf G n c ad len sz cap):Rf G' n' c ad len sz cap:=by
 cases c with
 |nil=>exact k
 |exact=>exact k
 |unk=>exact k
 |tok t=>
  rcases k with k|⟨k0,k1,b,k2,k3⟩
  · exact .inl k
  · exact .inr ⟨k0,by omega,b,k2,(h.τ t k1).trans k3⟩
theorem V.mono {B:Nat->Prop} {n n':Nat} {G G':Gh} (h:Ext B n G G') (hn:n<=n') {p:PV} {v:Value} (k:V G n p v):V G' n' p v:=by
 induction k with
 |any v=>exact .any v
 |bool b=>exact .bool b
 |int k x=>exact .int k x
 |str s=>exact .str s
 |nW=>exact .nW
 |ref id off b h1 h2=>exact .ref id off b (by omega) ((h.m id h1).trans h2)
 |cK cs off b o f h1 _ ih=>exact .cK cs off b o f (fun j c e=>h.F _ _ (h1 j c e)) ih
 |ah es c sz ad cap f h1 h2 h3 _ h5 ih=>
  exact .ah es c sz ad cap f h1 h2 (fun e=>let ⟨b,o,e1,e2⟩:=h3 e;⟨b,o,e1,fun i cs hi j c hj=>h.F _ _ (e2 i cs hi j c hj)⟩) ih (h5.mono h hn)
 |bP id off len cap sz b h1 h2=>exact .bP id off len cap sz b (by omega) ((h.m id h1).trans h2)
 |agg cs vs h1 _ ih=>exact .agg cs vs h1 ih
 |dn cs vs h1 _ ih=>exact .dn cs vs h1 ih
 |fn g cs ds vs us h1 _ h3 _ ih1 ih2=>exact .fn g cs ds vs us h1 ih1 h3 ih2
 |lq=>exact .lq
 |iface t p v _ ih=>exact .iface t p v ih
 |nA=>exact .nA
theorem Vs.mono {B:Nat->Prop} {n n':Nat} {G G':Gh} (h:Ext B n G G') (hn:n<=n') {cs:List PV} {vs:Array Value} (k:Vs G n cs vs):Vs G' n' cs vs:=
 ⟨k.1,fun j c x hc hx=>(k.2 j c x hc hx).mono h hn⟩
structure AH where
 next:Nat
 obj:Nat->Option (List PV)
 live:Nat->Bool
def AH.empty:AH:=⟨0,fun _=>none,fun _=>false⟩
class Glob where
 gc:Addr->Option Value
 gv:Nat->Option PV
 wb:Nat->Option (Array Value)
 ok: ∀g p,gv g=some p-> ∀(G:Gh) (n:Nat),(∀a x,gc a=some x->G.F a=some x)->V G n p (.pointer (some ⟨g,0,none⟩))
variable [Glob]
def NU (G:Gh):Prop:= ∀a x,Glob.gc a=some x->G.F a=some x
theorem NU.mono {G G':Gh} (h:NU G) (hF: ∀a x,G.F a=some x->G'.F a=some x):NU G':=fun a x e=>hF a x (h a x e)
def WH (B:Nat->Prop) (w:World):Prop:= ∀b arr,Glob.wb b=some arr-> ¬B b/\ ∃t fr,w.heap[b]? =some (.cells arr t fr)
theorem WH.keep {B:Nat->Prop} {w w':World} (h:WH B w) (hk: ∀b,¬B b->b<w.heap.size->w'.heap[b]? =w.heap[b]?):WH B w':=fun b arr e=>
 let ⟨h1,t,fr,h2⟩:=h b arr e
 ⟨h1,t,fr,(hk b h1 (Z2.1 h2).1).trans h2⟩
theorem WH.old {B:Nat->Prop} {w:World} (h:WH B w):WH (fun b=>w.heap.size<=b) w:=fun b arr e=>
 let ⟨_,t,fr,h2⟩:=h b arr e
 ⟨Nat.not_le_of_lt (Z2.1 h2).1,t,fr,h2⟩
structure HM (B:Nat->Prop) (H:AH) (G:Gh) (w:World):Prop where
 glob:NU G
 su: ∀a x,G.F a=some x->w.cell? a=some x
 obj: ∀id cs,H.obj id=some cs->id<H.next/\ ∃b arr t,G.m id=some b/\B b/\w.heap[b]? =some (.cells arr t (0,0))/\Vs G H.next cs arr/\ ∀off,G.F ⟨b,off,none⟩=none
 inj: ∀i j b,(H.obj i).isSome->(H.obj j).isSome->G.m i=some b->G.m j=some b->i=j
 tok: ∀k,H.live k=true->k<H.next/\ ∃b o arr t,G.τ k=some (b,o,arr.size)/\B b/\w.heap[b]? =some (.cells arr t (0,0))/\ ∀off,o<=off->G.F ⟨b,off,none⟩=none
 sS: ∀k l b o e o' e',H.live k=true->H.live l=true->G.τ k=some (b,o,e)->G.τ l=some (b,o',e')->k=l
 tobj: ∀k i b o e,H.live k=true->(H.obj i).isSome->G.τ k=some (b,o,e)->G.m i≠some b
 wh:WH B w
structure Tr (B:Nat->Prop) (w w':World):Prop where
 size:w.heap.size<=w'.heap.size
 same: ∀b,b<w.heap.size-> ¬B b->w'.heap[b]? =w.heap[b]?
 os:w'.os=w.os
 tape:w'.tape=w.tape
 output:w'.output=w.output
 JG: ∀(b:Nat) (o:Obj),w.heap[b]? =some o->o.isCells=false->w'.heap[b]? =some o
theorem Tr.refl (B:Nat->Prop) (w:World):Tr B w w:=⟨R0 _,fun _ _ _=>rfl,rfl,rfl,rfl,fun _ _ h _=>h⟩
theorem Tr.trans {B:Nat->Prop} {w w' w'':World} (h:Tr B w w') (h':Tr B w' w''):Tr B w w'':=
 ⟨E1 h.size h'.size,fun b hb hB=>(h'.same b (K0 hb h.size) hB).trans (h.same b hb hB),h'.os.trans h.os,h'.tape.trans h.tape,h'.output.trans h.output,fun b o e k=>h'.JG b o (h.JG b o e k) k⟩
def Up (B:Nat->Prop) (w:World):Prop:= ∀b,w.heap.size<=b->B b
theorem Up.tr {B:Nat->Prop} {w w':World} (h:Up B w) (k:Tr B w w'):Up B w':=fun b hb=>h b (E1 k.size hb)
def Enters (P:Program) (f:FuncId):Prop:= ∃fn,P.funcs[f]? =some fn/\fn.body.isSome=true/\(fn.name== "runtime.NumGoroutine")=false
structure aW (P:Program) (f:FuncId) (args:List PV) (H:AH) (K:PV->AH->Prop):Prop where
 enters:Enters P f
 call: ∀B G w vs,Up B w->HM B H G w->Vs G H.next args vs->Calls P f vs w fun e w'=>
  ∃r v H' G',e= .returned v/\Tr B w w'/\Ext B H.next G G'/\H.next<=H'.next/\HM B H' G' w'/\V G' H'.next r v/\K r H'
theorem aW.mono {P:Program} {f:FuncId} {args:List PV} {H:AH} {K K':PV->AH->Prop} (h:aW P f args H K) (hk: ∀r H',K r H'->K' r H'):aW P f args H K':=
 ⟨h.enters,fun B G w vs hU hM hv=>(h.call B G w vs hU hM hv).mono fun _ _ ⟨r,v,H',G',h1,h2,h3,h4,h5,h6,h7⟩=>⟨r,v,H',G',h1,h2,h3,h4,h5,h6,hk _ _ h7⟩⟩
end Go.VL
end
section
namespace Go.VL
inductive Pu:PV->Prop where
 |any:Pu .any
 |bool (b:Bool):Pu (.bool b)
 |int (k:IntKind) (x:Int):Pu (.int k x)
 |str (s:List UInt8):Pu (.str s)
 |nW:Pu .nW
 |cK (cs:List PV) (off:Nat) (h: ∀c∈cs,Pu c):Pu (.cK cs off)
 |ah (es:List (List PV)) (c:Ck) (h: ∀cs∈es,∀c∈cs,Pu c) (hc: ∀k,c≠ .tok k):Pu (.ah es c)
 |agg (cs:List PV) (h: ∀c∈cs,Pu c):Pu (.agg cs)
 |dn (cs:List PV) (h: ∀c∈cs,Pu c):Pu (.dn cs)
 |fn (g:Fn) (cs ds:List PV) (h: ∀c∈cs,Pu c) (h': ∀c∈ds,Pu c):Pu (.fn g cs ds)
 |lq:Pu .lq
 |iface (t:TypeId) (p:PV) (h:Pu p):Pu (.iface t p)
 |nA:Pu .nA
theorem V.pure {G G':Gh} {n n':Nat} (hF: ∀a x,G.F a=some x->G'.F a=some x) {p:PV} {v:Value} (k:V G n p v) (hp:Pu p):V G' n' p v:=by
 induction k with
 |any v=>exact .any v
 |bool b=>exact .bool b
 |int k x=>exact .int k x
 |str s=>exact .str s
 |nW=>exact .nW
 |ref=>cases hp
 |cK cs off b o f h1 _ ih=>
  cases hp with
  |cK _ _ h=>exact .cK cs off b o f (fun j c e=>hF _ _ (h1 j c e)) (fun j c e=>ih j c e (h c (B1 e)))
 |ah es c sz ad cap f h1 h2 h3 _ h5 ih=>
  cases hp with
  |ah _ _ h hc=>
   refine .ah es c sz ad cap f h1 h2 (fun e=>let ⟨b,o,e1,e2⟩:=h3 e;⟨b,o,e1,fun i cs hi j c hj=>hF _ _ (e2 i cs hi j c hj)⟩)
    (fun i cs j c hi hj=>ih i cs j c hi hj (h cs (B1 hi) c (B1 hj))) ?_
   cases c with
   |nil=>exact h5
   |exact=>exact h5
   |unk=>exact h5
   |tok t=>exact absurd rfl (hc t)
 |bP=>cases hp
 |agg cs vs h1 _ ih=>
  cases hp with
  |agg _ h=>exact .agg cs vs h1 (fun j c x hc hx=>ih j c x hc hx (h c (B1 hc)))
 |dn cs vs h1 _ ih=>
  cases hp with
  |dn _ h=>exact .dn cs vs h1 (fun j c x hc hx=>ih j c x hc hx (h c (B1 hc)))
 |fn g cs ds vs us h1 _ h3 _ ih1 ih2=>
  cases hp with
  |fn _ _ _ h h'=>exact .fn g cs ds vs us h1 (fun j c x hc hx=>ih1 j c x hc hx (h c (B1 hc))) h3 (fun j c x hc hx=>ih2 j c x hc hx (h' c (B1 hc)))
 |lq=>exact .lq
 |iface t p v _ ih=>
  cases hp with
  |iface _ _ h=>exact .iface t p v (ih h)
 |nA=>exact .nA
inductive Fz (H:AH):PV->PV->Prop where
 |pure (p:PV) (h:Pu p):Fz H p p
 |any (p:PV):Fz H p .any
 |cK (cs cs':List PV) (off:Nat) (hl:cs'.length=cs.length) (h: ∀(j:Nat) (c c':PV),cs[j]? =some c->cs'[j]? =some c'->Fz H c c'):Fz H (.cK cs off) (.cK cs' off)
 |ref (id off:Nat) (cs cs':List PV) (ho:H.obj id=some cs) (hl:cs'.length=cs.length) (h: ∀(j:Nat) (c c':PV),cs[j]? =some c->cs'[j]? =some c'->Fz H c c'):
  Fz H (.ref id off) (.cK cs' off)
 |ah (es es':List (List PV)) (c c':Ck) (hc:c'= .unk\/c'=c/\ ∀k,c≠ .tok k) (hl:es'.length=es.length)
  (hl': ∀(i:Nat) (cs cs':List PV),es[i]? =some cs->es'[i]? =some cs'->cs'.length=cs.length)
  (h: ∀(i:Nat) (cs cs':List PV),es[i]? =some cs->es'[i]? =some cs'-> ∀(j:Nat) (c c':PV),cs[j]? =some c->cs'[j]? =some c'->Fz H c c'):Fz H (.ah es c) (.ah es' c')
 |bP (id off len cap sz:Nat) (cs:List PV) (es':List (List PV)) (g:Nat->Nat->PV) (ho:H.obj id=some cs) (hl:es'.length=len) (hcap:len<=cap)
  (hl': ∀(i:Nat) (cs':List PV),es'[i]? =some cs'->cs'.length=sz)
  (hg: ∀(i:Nat) (cs':List PV),es'[i]? =some cs'-> ∀(j:Nat) (c':PV),cs'[j]? =some c'->cs[off+i*sz+j]? =some (g i j))
  (h: ∀(i:Nat) (cs':List PV),es'[i]? =some cs'-> ∀(j:Nat) (c':PV),cs'[j]? =some c'->Fz H (g i j) c'):Fz H (.bP id off len cap sz) (.ah es' .unk)
 |agg (cs cs':List PV) (hl:cs'.length=cs.length) (h: ∀(j:Nat) (c c':PV),cs[j]? =some c->cs'[j]? =some c'->Fz H c c'):Fz H (.agg cs) (.agg cs')
 |dn (cs cs':List PV) (hl:cs'.length=cs.length) (h: ∀(j:Nat) (c c':PV),cs[j]? =some c->cs'[j]? =some c'->Fz H c c'):Fz H (.dn cs) (.dn cs')
 |iface (t:TypeId) (p p':PV) (h:Fz H p p'):Fz H (.iface t p) (.iface t p')
 |fn (g:Fn) (cs cs' ds ds':List PV) (hl:cs'.length=cs.length) (h: ∀(j:Nat) (c c':PV),cs[j]? =some c->cs'[j]? =some c'->Fz H c c')
  (hm:ds'.length=ds.length) (k: ∀(j:Nat) (c c':PV),ds[j]? =some c->ds'[j]? =some c'->Fz H c c'):Fz H (.fn g cs ds) (.fn g cs' ds')
open Classical in
noncomputable def Gh.froze (G:Gh) (H:AH) (w:World):Gh:=
 ⟨fun a=>match G.F a with
  |some x=>some x
  |none=>if∃id,(H.obj id).isSome/\G.m id=some a.block then w.cell? a else none,fun _=>none,fun _=>none⟩
theorem Ic {G:Gh} {H:AH} {w:World} {a:Addr} {x:Value} (h:G.F a=some x):(G.froze H w).F a=some x:=by
 simp [Gh.froze,h]
variable [Glob]
theorem Y3 {B:Nat->Prop} {G:Gh} {H:AH} {w:World} (hM:HM B H G w) {id b off:Nat} {cs:List PV} {x:Value} (ho:H.obj id=some cs) (hm:G.m id=some b)
 (hc:w.cell? ⟨b,off,none⟩=some x):(G.froze H w).F ⟨b,off,none⟩=some x:=by
 obtain⟨_,b',arr,t,h1,_,_,_,h5⟩:=hM.obj id cs ho;have:b'=b:=by rw [h1]at hm;exact V2 hm
 subst this;have hx: ∃i,(H.obj i).isSome/\G.m i=some (⟨b',off,none⟩:Addr).block:=⟨id,by simp [ho],h1⟩;simp only [Gh.froze,h5 off];rw [if_pos hx];exact hc
theorem wY {w:World} {b:Nat} {arr:Array Value} {t:TypeId} {fr:Nat×Nat} (h:w.heap[b]? =some (.cells arr t fr)) (off:Nat):w.cell? ⟨b,off,none⟩=arr[off]? :=by
 simp [World.cell?,h]
theorem Fz.reads {B:Nat->Prop} {G:Gh} {H:AH} {w:World} (hM:HM B H G w) {p q:PV} (h:Fz H p q): ∀(v:Value),V G H.next p v->V (G.froze H w) 0 q v:=by
 induction h with
 |pure p hp=>exact fun v hv=>hv.pure (fun a x e=>Ic e) hp
 |any p=>exact fun v _=> .any v
 |cK cs cs' off hl _ ih=>
  intro v hv;cases hv with
  |cK _ _ b o f h1 h2=>
   have hcs: ∀(j:Nat) (c:PV),cs'[j]? =some c-> ∃d,cs[j]? =some d:=fun j c e=>by
    have hj:j<cs'.length:=by
     rcases D1 j cs'.length with hlt|hge
     · exact hlt
     · rw [R1 hge]at e;cases e
    exact⟨cs[j]'(by omega),by simp⟩
   exact .cK cs' off b o f (fun j c e=>let ⟨d,hd⟩:=hcs j c e;Ic (h1 j d hd)) (fun j c e=>let ⟨d,hd⟩:=hcs j c e;ih j d c hd e _ (h2 j d hd))
 |ref id off cs cs' ho hl _ ih=>
  intro v hv;cases hv with
  |ref _ _ b h1 h2=>
   obtain⟨_,b',arr,t,k1,_,k3,⟨k4,k5⟩,k6⟩:=hM.obj id cs ho;have:b'=b:=by rw [k1]at h2;exact V2 h2
   subst this;have hcs: ∀(j:Nat) (c:PV),cs'[j]? =some c-> ∃d x,cs[j]? =some d/\arr[j]? =some x:=fun j c e=>by
    have hj:j<cs'.length:=by
     rcases D1 j cs'.length with hlt|hge
     · exact hlt
     · rw [R1 hge]at e;cases e
    exact⟨cs[j]'(by omega),arr[j]'(by omega),by simp,by simp⟩
   have key:=V.cK (G:=G.froze H w) (n:=0) cs' off b' 0 (fun j=>arr[j]?.getD default)
    (fun j c e=>by obtain⟨d,x,hd,hx⟩:=hcs j c e;rw [V1];exact Y3 hM ho k1 (by rw [wY k3,hx];rfl))
    (fun j c e=>by obtain⟨d,x,hd,hx⟩:=hcs j c e;rw [hx];exact ih j d c hd e _ (k5 j d x hd hx))
   rw [V1]at key;exact key
 |ah es es' c c' hc hl hl' _ ih=>
  intro v hv;cases hv with
  |ah _ _ sz ad cap f h1 h2 h3 h4 h5=>
   have hes: ∀(i:Nat) (cs':List PV),es'[i]? =some cs'-> ∃cs,es[i]? =some cs:=fun i cs' e=>by
    have hj:i<es'.length:=by
     rcases D1 i es'.length with hlt|hge
     · exact hlt
     · rw [R1 hge]at e;cases e
    exact⟨es[i]'(by omega),by simp⟩
   have hcs: ∀(i:Nat) (cs cs':List PV),es[i]? =some cs->es'[i]? =some cs'-> ∀(j:Nat) (c:PV),cs'[j]? =some c-> ∃d,cs[j]? =some d:=fun i cs cs' e e' j c ec=>by
    have:=hl' i cs cs' e e';have hj:j<cs'.length:=by
     rcases D1 j cs'.length with hlt|hge
     · exact hlt
     · rw [R1 hge]at ec;cases ec
    exact⟨cs[j]'(by omega),by simp⟩
   have e1:es'.length=es.length:=hl;rw [<-e1];refine .ah es' c' sz ad cap f (fun i cs' e=> ?_) (by omega) (fun hne=> ?_) (fun i cs' j d e ed=> ?_) ?_
   · obtain⟨cs,hcs1⟩:=hes i cs' e;rw [hl' i cs cs' hcs1 e];exact h1 i cs hcs1
   · have hne':es≠[]:=fun e=>hne (T4 (by rw [e1,e];rfl));obtain⟨b,o,e2,e3⟩:=h3 hne';refine⟨b,o,e2,fun i cs' e j d ed=> ?_⟩;obtain⟨cs,hcs1⟩:=hes i cs' e;obtain⟨d',hd'⟩:=hcs i cs cs' hcs1 e j d ed;exact Ic (e3 i cs hcs1 j d' hd')
   · obtain⟨cs,hcs1⟩:=hes i cs' e;obtain⟨d',hd'⟩:=hcs i cs cs' hcs1 e j d ed;exact ih i cs cs' hcs1 e j d' d hd' ed _ (h4 i cs j d' hcs1 hd')
   · rcases hc with rfl|⟨rfl,hk⟩
     · trivial
     · cases c' with
       |nil=>exact⟨h5.1,by rw [e1];exact h5.2.1,h5.2.2⟩
       |exact=>show cap=es'.length;rw [e1];exact h5
       |unk=>trivial
       |tok t=>exact absurd rfl (hk t)
 |bP id off len cap sz cs es' g ho hl hcap hl' hg _ ih=>
  intro v hv;cases hv with
  |bP _ _ _ _ _ b h1 h2=>
   obtain⟨_,b',arr,t,k1,_,k3,⟨k4,k5⟩,k6⟩:=hM.obj id cs ho;have:b'=b:=by rw [k1]at h2;exact V2 h2
   subst this;have harr: ∀(i:Nat) (cs':List PV),es'[i]? =some cs'-> ∀(j:Nat) (c':PV),cs'[j]? =some c'-> ∃x,arr[off+i*sz+j]? =some x:=fun i cs' e j c' e'=>by
    have:=hg i cs' e j c' e';have hj:off+i*sz+j<cs.length:=by
     rcases D1 (off+i*sz+j) cs.length with hlt|hge
     · exact hlt
     · rw [R1 hge]at this;cases this
    exact⟨arr[off+i*sz+j]'(by omega),by simp⟩
   subst hl
   exact .ah es' .unk sz (some ⟨b',off,none⟩) cap (fun i j=>arr[off+i*sz+j]?.getD default) hl' hcap
    (fun _=>⟨b',off,rfl,fun i cs' e j c' e'=>by obtain⟨x,hx⟩:=harr i cs' e j c' e';exact Y3 hM ho k1 (by rw [wY k3,hx];rfl)⟩)
    (fun i cs' j c' e e'=>by obtain⟨x,hx⟩:=harr i cs' e j c' e';rw [hx];exact ih i cs' e j c' e' _ (k5 _ _ x (hg i cs' e j c' e') hx)) trivial
 |agg cs cs' hl _ ih=>
  intro v hv;cases hv with
  |agg _ vs h1 h2=>
   refine .agg cs' vs (by omega) fun j c x e ex=> ?_;have hj:j<cs'.length:=by
    rcases D1 j cs'.length with hlt|hge
    · exact hlt
    · rw [R1 hge]at e;cases e
   exact ih j (cs[j]'(by omega)) c (by simp) e _ (h2 j _ x (by simp) ex)
 |dn cs cs' hl _ ih=>
  intro v hv;cases hv with
  |dn _ vs h1 h2=>
   refine .dn cs' vs (by omega) fun j c x e ex=> ?_;have hj:j<cs'.length:=by
    rcases D1 j cs'.length with hlt|hge
    · exact hlt
    · rw [R1 hge]at e;cases e
   exact ih j (cs[j]'(by omega)) c (by simp) e _ (h2 j _ x (by simp) ex)
 |iface t p p' _ ih=>
  intro v hv;cases hv with
  |iface _ _ x h=>exact .iface t p' x (ih x h)
 |fn g cs cs' ds ds' hl _ hm _ ih1 ih2=>
  intro v hv;cases hv with
  |fn _ _ _ vs us h1 h2 h3 h4=>
   have lt: ∀(l l':List PV) (j:Nat) (c:PV),l'.length=l.length->l'[j]? =some c->j<l.length:=fun l l' j c e e'=>e▸(S0.1 e').1;refine .fn g cs' ds' vs us (by omega) (fun j c x e ex=> ?_) (by omega) (fun j c x e ex=> ?_)
   · have hj:=lt cs cs' j c hl e;exact ih1 j (cs[j]'hj) c (by simp) e _ (h2 j _ x (by simp) ex)
   · have hj:=lt ds ds' j c hm e;exact ih2 j (ds[j]'hj) c (by simp) e _ (h4 j _ x (by simp) ex)
def aG (P:Program) (f:FuncId) (args:List PV) (r:PV):Prop:= ∀H,aW P f args H fun v H'=>v=r/\H'=H
theorem HM.empty {B:Nat->Prop} {F:Addr->Option Value} {w:World} (hg: ∀a x,Glob.gc a=some x->F a=some x) (h: ∀a x,F a=some x->w.cell? a=some x) (hw:WH B w):HM B AH.empty ⟨F,fun _=>none,fun _=>none⟩ w where
 glob:=hg
 su:=h
 obj:=fun id cs e=>by cases e
 inj:=fun i j b e=>by cases e
 tok:=fun k e=>by cases e
 sS:=fun k l b o e o' e' h=>by cases h
 tobj:=fun k i b o e h=>by cases h
 wh:=hw
theorem aG.bX {P:Program} {f:FuncId} {args:List PV} {r:PV} (ha: ∀a∈args,Pu a) (h:aW P f args AH.empty fun v H'=>Fz H' v r) (hr:Pu r):aG P f args r:=by
 intro H;refine⟨h.enters,fun B G w vs hU hM hv=> ?_⟩;have hF0: ∀(a:Addr) (x:Value),G.F a=some x->(⟨G.F,fun _=>none,fun _=>none⟩:Gh).F a=some x:=fun _ _ e=>e;have hv':Vs ⟨G.F,fun _=>none,fun _=>none⟩ 0 args vs:=⟨hv.1,fun j c x hc hx=>V.pure hF0 (hv.2 j c x hc hx) (ha c (B1 hc))⟩;refine(h.call (fun b=>w.heap.size<=b) _ w vs (fun b hb=>hb) (HM.empty hM.glob hM.su hM.wh.old) hv').mono ?_;rintro e w' ⟨q,v,H',G',h1,h2,h3,h4,h5,h6,h7⟩;have hval:=h7.reads h5 v h6;have hold: ∀b,b<w.heap.size->w'.heap[b]? =w.heap[b]? :=fun b hb=>h2.same b hb (by omega);have hfr: ∀a x,(G'.froze H' w').F a=some x->w'.cell? a=some x:=by
  intro a x e;simp only [Gh.froze]at e;split at e
  · rename_i y hy;cases e;exact h5.su a x hy
  · split at e
    · exact e
    · cases e
 have hnew: ∀a,G.F a=none->(G'.froze H' w').F a≠none->w.heap.size<=a.block:=by
  intro a e1 e2;simp only [Gh.froze]at e2;split at e2
  · rename_i y hy;exact h3.new a e1 (by rw [hy];simp)
  · split at e2
    · rename_i hx;obtain⟨id,hi,hm⟩:=hx;obtain⟨cs,hcs⟩:=L7.1 hi;obtain⟨_,b,arr,t,k1,k2,_⟩:=h5.obj id cs hcs;have:b=a.block:=by rw [k1]at hm;exact V2 hm
      exact this▸k2
    · exact absurd rfl e2
 let G2:Gh:=⟨(G'.froze H' w').F,G.m,G.τ⟩
 have avk:Ext B H.next G G2:=⟨fun a x e=>Ic (h3.F a x e),fun _ _=>rfl,fun _ _=>rfl,fun a e1 e2=>hU _ (hnew a e1 e2)⟩;have hkeep: ∀b off,b<w.heap.size->G.F ⟨b,off,none⟩=none->G2.F ⟨b,off,none⟩=none:=by
  intro b off hb e;rcases mA ((G'.froze H' w').F ⟨b,off,none⟩)with hn|⟨x,hx⟩
  · exact hn
  · have:=hnew _ e (by rw [hx];simp);simp at this;omega
 have hlt: ∀b arr t fr,w.heap[b]? =some (.cells arr t fr)->b<w.heap.size:=fun b arr t fr e=>by
  rcases D1 b w.heap.size with h'|h'
  · exact h'
  · rw [f9 h']at e;cases e
 have hM2:HM B H G2 w':={
  glob:=fun a x e=>Ic (h3.F a x (hM.glob a x e))
  su:=hfr
  obj:=fun id cs e=>by
   obtain⟨k0,b,arr,t,k1,k2,k3,k4,k5⟩:=hM.obj id cs e;have hb:=hlt _ _ _ _ k3;exact⟨k0,b,arr,t,k1,k2,(hold b hb).trans k3,k4.mono avk (R0 _),fun off=>hkeep b off hb (k5 off)⟩
  inj:=hM.inj
  tok:=fun k e=>by
   obtain⟨k0,b,o,arr,t,k1,k2,k3,k5⟩:=hM.tok k e;have hb:=hlt _ _ _ _ k3;exact⟨k0,b,o,arr,t,k1,k2,(hold b hb).trans k3,fun off ho=>hkeep b off hb (k5 off ho)⟩
  sS:=hM.sS
  tobj:=hM.tobj
  wh:=hM.wh.keep fun b _ hb=>hold b hb}
 exact⟨r,v,H,G2,h1,⟨h2.size,fun b hb _=>hold b hb,h2.os,h2.tape,h2.output,h2.JG⟩,avk,R0 _,hM2,V.pure (G:=G'.froze H' w') (n:=0) (G':=G2) (n':=H.next) (fun(_:Addr) (_:Value) e=>e) hval hr,rfl,rfl⟩
end Go.VL
end
section
namespace Go.VL
inductive AE where
 |t (n:Nat)
 |c (v:PV)
def AE.ev (σ:Nat->PV):AE->PV
 | .t n=>σ n
 | .c v=>v
inductive EqK where
 |b
 |sl
 |fn
 |pt
 |st (fs:List (Nat×Nat))
 |no
def wk:PV->PV
 | .ah es _=> .ah es .unk
 |p=>p
def KS:PV->PV
 | .ah es c=> .ah (es.map fun cs=>cs.map wk) c
 |p=>p
theorem V.wk {G:Gh} {n:Nat} {p:PV} {v:Value} (h:V G n p v):V G n (wk p) v:=by
 cases h with
 |ah es c sz ad cap f h1 h2 h3 h4 h5=>exact .ah es .unk sz ad cap f h1 h2 h3 h4 trivial
 |any v=>exact .any v
 |bool b=>exact .bool b
 |int k x=>exact .int k x
 |str s=>exact .str s
 |nW=>exact .nW
 |ref id off b h1 h2=>exact .ref id off b h1 h2
 |cK cs off b o f h1 h2=>exact .cK cs off b o f h1 h2
 |bP id off len cap sz b h1 h2=>exact .bP id off len cap sz b h1 h2
 |agg cs vs h1 h2=>exact .agg cs vs h1 h2
 |dn cs vs h1 h2=>exact .dn cs vs h1 h2
 |fn g cs ds vs us h1 h2 h3 h4=>exact .fn g cs ds vs us h1 h2 h3 h4
 |lq=>exact .lq
 |iface t p v h=>exact .iface t p v h
 |nA=>exact .nA
theorem V.KS {G:Gh} {n:Nat} {p:PV} {v:Value} (h:V G n p v):V G n (KS p) v:=by
 cases h with
 |ah es c sz ad cap f h1 h2 h3 h4 h5=>
  have get: ∀(i:Nat) (cs:List PV),(es.map fun cs=>cs.map VL.wk)[i]? =some cs-> ∃ds,es[i]? =some ds/\cs=ds.map VL.wk:=fun i cs e=>by
   simp only [J0,Z1]at e;obtain⟨ds,e1,e2⟩:=e;exact⟨ds,e1,e2.symm⟩
  have get': ∀(ds:List PV) (j:Nat) (c:PV),(ds.map VL.wk)[j]? =some c-> ∃d,ds[j]? =some d/\c=VL.wk d:=fun ds j c e=>by
   simp only [J0,Z1]at e;obtain⟨d,e1,e2⟩:=e;exact⟨d,e1,e2.symm⟩
  have hl:(es.map fun cs=>cs.map VL.wk).length=es.length:=by simp
  show V G n (.ah (es.map fun cs=>cs.map VL.wk) c) (.slice ad es.length cap)
  rw [<-hl];refine .ah _ c sz ad cap f (fun i cs e=> ?_) (by rw [hl];exact h2) (fun hne=> ?_) (fun i cs j d e ed=> ?_) (by rw [hl];exact h5)
  · obtain⟨ds,e1,rfl⟩:=get i cs e;rw [J1];exact h1 i ds e1
  · obtain⟨b,o,e1,e2⟩:=h3 (fun e=>hne (by rw [e];rfl));refine⟨b,o,e1,fun i cs e j d ed=> ?_⟩;obtain⟨ds,e3,rfl⟩:=get i cs e;obtain⟨d',e4,rfl⟩:=get' ds j d ed;exact e2 i ds e3 j d' e4
  · obtain⟨ds,e3,rfl⟩:=get i cs e;obtain⟨d',e4,rfl⟩:=get' ds j d ed;exact(h4 i ds j d' e3 e4).wk
 |any v=>exact .any v
 |bool b=>exact .bool b
 |int k x=>exact .int k x
 |str s=>exact .str s
 |nW=>exact .nW
 |ref id off b h1 h2=>exact .ref id off b h1 h2
 |cK cs off b o f h1 h2=>exact .cK cs off b o f h1 h2
 |bP id off len cap sz b h1 h2=>exact .bP id off len cap sz b h1 h2
 |agg cs vs h1 h2=>exact .agg cs vs h1 h2
 |dn cs vs h1 h2=>exact .dn cs vs h1 h2
 |fn g cs ds vs us h1 h2 h3 h4=>exact .fn g cs ds vs us h1 h2 h3 h4
 |lq=>exact .lq
 |iface t p v h=>exact .iface t p v h
 |nA=>exact .nA
inductive RK where
 |AO (x:AE)
 |pick (c a b:AE)
 |bin (op:BinOp) (e:EqK) (x y:AE)
 |not (x:AE)
 |neg (x:AE)
 |cpl (x:AE)
 |Qz (off:Nat) (x:AE)
 |abp (off sz:Nat) (agg:Bool) (x:AE)
 |idx (sz:Nat) (x i:AE)
 |Gf (n sz:Nat) (x i:AE)
 |load (sz:Nat) (agg:Bool) (x:AE)
 |len (x:AE)
 |Kv (x:AE)
 |cap (x:AE)
 |mmx (m:Bool) (x y:AE)
 |L8 (x i:AE)
 |slc (sz:Nat) (x:AE) (lo hi mx:Option AE)
 |Rh (x:AE) (lo hi:Option AE)
 |Xi (f:Fn) (first caps:List AE)
 |U2 (x:AE)
 |ext (x:AE) (i:Nat)
 |conv (k:IntKind) (x:AE)
 |same (x:AE)
 |NW (t:TypeId) (x:AE)
 |build (zero:List PV) (parts:List (Nat×Nat×AE))
 |CO (sz:Nat) (parts:List AE)
inductive DK where
 |alloc (zero:List PV)
 |box (sz:Nat) (x:AE)
 |store (sz:Nat) (x v:AE)
 |app (sz bytes:Nat) (x y:AE)
 |yP (sz bytes:Nat) (zero:List PV) (n c:AE)
inductive NK where
 |app (sz bytes:Nat) (x y:AE)
 |NY (zero:List PV) (parts:List (Nat×Nat×AE))
 |Y4 (x:AE)
 |copy (sz:Nat) (x y:AE)
 |clr (sz:Nat) (zero:List PV) (x:AE)
 |Ri (sz bytes:Nat) (zero:List PV) (x n:AE)
 |NZ (sz:Nat) (parts:List AE)
inductive AK where
 |r (k:RK)
 |d (k:DK)
 |n (k:NK)
 |call (f:AE) (args:List AE)
 |bad
def strLt:List UInt8->List UInt8->Bool
 |_,[]=>false
 |[],_::_=>true
 |a::x,b::y=>a<b||(a==b&&strLt x y)
def KT (op:BinOp) (k:IntKind) (a b:Int):Option PV:=
 match op with
 | .add=>some (.int k (k.wrap (a+b)))
 | .sub=>some (.int k (k.wrap (a -b)))
 | .mul=>some (.int k (k.wrap (a*b)))
 | .quo=>if b=0 then none else some (.int k (k.wrap (a.tdiv b)))
 | .rem=>if b=0 then none else some (.int k (a.tmod b))
 | .eql=>some (.bool (a==b))
 | .neq=>some (.bool (a !=b))
 | .lss=>some (.bool (decide (a<b)))
 | .leq=>some (.bool (decide (a<=b)))
 | .gtr=>some (.bool (decide (a>b)))
 | .geq=>some (.bool (decide (a>=b)))
 | .and=>some (.int k (k.wrap ((BitVec.ofInt k.bits a&&&BitVec.ofInt k.bits b).toNat)))
 | .or=>some (.int k (k.wrap ((BitVec.ofInt k.bits a|||BitVec.ofInt k.bits b).toNat)))
 | .xor=>some (.int k (k.wrap ((BitVec.ofInt k.bits a^^^BitVec.ofInt k.bits b).toNat)))
 |_=>none
def Rj (op:BinOp) (k:IntKind) (a b:Int):Option PV:=
 if b<0 then none else match op with
 | .shl=>some (.int k (k.wrap (a*2^(min b.toNat k.bits))))
 | .shr=>some (.int k (a.fdiv (2^(min b.toNat k.bits))))
 |_=>none
def CP (op:BinOp) (a b:List UInt8):Option PV:=
 match op with
 | .add=>if a.length+b.length<=4611686018427387904 then some (.str (a++b))else none
 | .eql=>some (.bool (a==b))
 | .neq=>some (.bool (!(a==b)))
 | .lss=>some (.bool (strLt a b))
 | .leq=>some (.bool (strLt a b||a==b))
 | .gtr=>some (.bool (!(strLt a b||a==b)))
 | .geq=>some (.bool (!(strLt a b)))
 |_=>none
def U3:Nat->PV->PV->Option Bool
 |0,.bool a,.bool b=>some (a==b)
 |1,.int k a,.int k' b=>if k=k' then some (a==b)else none
 |2,.str a,.str b=>some (a==b)
 |_,_,_=>none
def Ie:List (Nat×Nat)->List PV->List PV->Option Bool
 |[],_,_=>some true
 |(o,n)::l,xs,ys=>match xs[o]?,ys[o]? with
   |some x,some y=>match U3 n x y with
    |some true=>Ie l xs ys
    |some false=>some false
    |none=>none
   |_,_=>none
def isEq:BinOp->Option Bool
 | .eql=>some true
 | .neq=>some false
 |_=>none
def aht (e:EqK) (x y:PV):Option Bool:=
 match e,x,y with
 | .b,.bool a,.bool b=>some (a==b)
 | .sl,.ah es c,.ah [] .nil=>match c with
  | .nil=>some true
  |_=>if es.length≠0 then some false else none
 | .sl,.bP ..,.ah [] .nil=>some false
 | .pt,.nW,.nW=>some true
 | .pt,.ref ..,.nW=>some false
 | .pt,.cK ..,.nW=>some false
 | .fn,.lq,.lq=>some true
 | .fn,.fn ..,.lq=>some false
 | .st fs,.agg xs,.agg ys=>Ie fs xs ys
 |_,_,_=>none
def aaR (op:BinOp) (e:EqK) (x y:PV):Option PV:=
 match x,y with
 | .int k a,.int k' b=>
  match op with
  | .shl| .shr=>Rj op k a b
  |_=>if k=k' then KT op k a b else none
 | .str a,.str b=>CP op a b
 |x,y=>match isEq op,aht e x y with
  |some true,some b=>some (.bool b)
  |some false,some b=>some (.bool (!b))
  |_,_=>none
def Gz (off:Nat):PV->Option PV
 | .ref id o=>some (.ref id (o+off))
 | .cK cs o=>some (.cK cs (o+off))
 |_=>none
def zZ (sz:Nat) (agg:Bool) (cs:List PV) (o:Nat):Option PV:=
 if agg then(if o+sz<=cs.length then some (.agg ((cs.drop o).take sz))else none)else cs[o]?
def CQ (H:AH) (sz:Nat) (agg:Bool):PV->Option PV
 | .ref id o=>match H.obj id with
  |some cs=>zZ sz agg cs o
  |none=>none
 | .cK cs o=>zZ sz agg cs o
 |_=>none
def jS (sz:Nat) (x i:PV):Option PV:=
 match x,i with
 | .ah es _,.int _ n=>if 0<=n then(match es[n.toNat]? with
  |some cs=>if cs.length=sz then some (.cK cs 0)else none
  |none=>none)else none
 | .bP id off len _ s,.int _ n=>if 0<=n/\n<len/\s=sz then some (.ref id (off+n.toNat*sz))else none
 |_,_=>none
def z8:PV->Option PV
 | .ah es _=>some (.int .i64 es.length)
 | .bP _ _ len _ _=>some (.int .i64 len)
 |_=>none
def pI:Option PV->Nat->Option Nat
 |none,d=>some d
 |some (.int _ n),_=>if 0<=n then some n.toNat else none
 |_,_=>none
def L9 (sz:Nat) (es:List (List PV)):Prop:= ∀cs∈es,cs.length=sz
instance (sz:Nat) (es:List (List PV)):Decidable (L9 sz es):=inferInstanceAs (Decidable (∀cs∈es,cs.length=sz))
def qE (sz:Nat) (x:PV) (lo hi mx:Option PV):Option PV:=
 match x with
 | .ah es c=>match pI lo 0,pI hi es.length with
  |some l,some h=>if l<=h/\h<=es.length/\L9 sz es then
        (match mx with
         |none=>some (.ah ((es.take h).drop l) .unk)
         |some (.int _ m)=>if m=h/\hi.isSome then some (.ah ((es.take h).drop l) (match c with| .nil=> .nil|_=> .exact))else none
         |_=>none)
   else none
  |_,_=>none
 | .bP id off len cap s=>match pI lo 0,pI hi len,mx with
  |some l,some h,none=>if l<=h/\h<=len/\s=sz/\l<cap/\h<=cap then some (.bP id (off+l*sz) (h -l) (cap -l) sz)else if l=cap/\l=h/\h<=len/\s=sz then some (.ah [] .unk)else none
  |_,_,_=>none
 |_=>none
def Ba (x:PV) (lo hi:Option PV):Option PV:=
 match x with
 | .str s=>match pI lo 0,pI hi s.length with
  |some l,some h=>if l<=h/\h<=s.length then some (.str ((s.take h).drop l))else none
  |_,_=>none
 |_=>none
def cellsOf:PV->Option (List PV)
 | .agg cs=>some cs
 | .any| .dn _=>none
 |v=>some [v]
def putCells (cs:List PV) (o:Nat) (vs:List PV):List PV:=cs.take o++vs++cs.drop (o+vs.length)
def kU (σ:Nat->PV):List PV->List (Nat×Nat×AE)->Option (List PV)
 |cs,[]=>some cs
 |cs,(o,sz,x)::l=>match cellsOf (x.ev σ)with
  |some vs=>if vs.length=sz/\o+sz<=cs.length then kU σ (putCells cs o vs) l else none
  |none=>none
def Aa (sz:Nat) (σ:Nat->PV):List AE->Option (List (List PV))
 |[]=>some []
 |x::l=>match cellsOf (x.ev σ),Aa sz σ l with
  |some cs,some es=>if cs.length=sz then some (cs::es)else none
  |_,_=>none
def rop (k:RK) (σ:Nat->PV) (H:AH):Option PV:=
 match k with
 | .AO x=>some (x.ev σ)
 | .pick c a b=>match c.ev σ with
  | .bool t=>some (if t then a.ev σ else b.ev σ)
  |_=>none
 | .bin op e x y=>aaR op e (x.ev σ) (y.ev σ)
 | .not x=>match x.ev σ with
  | .bool b=>some (.bool (!b))
  |_=>none
 | .neg x=>match x.ev σ with
  | .int k n=>some (.int k (k.wrap (0 -n)))
  |_=>none
 | .cpl x=>match x.ev σ with
  | .int k n=>KT .xor k (if k.signed then -1 else k.max) n
  |_=>none
 | .Qz off x=>Gz off (x.ev σ)
 | .abp off sz agg x=>match x.ev σ with
  | .agg cs=>zZ sz agg cs off
  |_=>none
 | .idx sz x i=>jS sz (x.ev σ) (i.ev σ)
 | .Gf n sz x i=>match i.ev σ with
  | .int _ j=>if 0<=j/\j<n then Gz (j.toNat*sz) (x.ev σ)else none
  |_=>none
 | .load sz agg x=>CQ H sz agg (x.ev σ)
 | .len x=>z8 (x.ev σ)
 | .Kv x=>match x.ev σ with
  | .str s=>some (.int .i64 s.length)
  |_=>none
 | .cap x=>match x.ev σ with
  | .bP _ _ _ c _=>some (.int .i64 c)
  | .ah es .exact=>some (.int .i64 es.length)
  | .ah es .nil=>some (.int .i64 es.length)
  |_=>none
 | .mmx m x y=>match x.ev σ,y.ev σ with
  | .int k a,.int _ b=>some (.int k (if m then(if b>a then b else a)else if b<a then b else a))
  |_,_=>none
 | .L8 x i=>match x.ev σ,i.ev σ with
  | .str s,.int _ n=>if 0<=n then(match s[n.toNat]? with
   |some b=>some (.int .u8 b.toNat)
   |none=>none)else none
  |_,_=>none
 | .slc sz x lo hi mx=>qE sz (x.ev σ) (lo.map (·.ev σ)) (hi.map (·.ev σ)) (mx.map (·.ev σ))
 | .Rh x lo hi=>Ba (x.ev σ) (lo.map (·.ev σ)) (hi.map (·.ev σ))
 | .Xi f first caps=>some (.fn f (first.map (·.ev σ)) (caps.map (·.ev σ)))
 | .U2 x=>match x.ev σ with
  | .ref id o=>some (.ref id o)
  | .cK cs o=>some (.cK cs o)
  |_=>none
 | .ext x i=>match x.ev σ with
  | .dn vs=>vs[i]?
  |_=>none
 | .conv k x=>match x.ev σ with
  | .int _ n=>some (.int k (k.wrap n))
  |_=>none
 | .same x=>match x.ev σ with
  | .str s=>some (.str s)
  |_=>none
 | .NW t x=>some (.iface t (x.ev σ))
 | .build zero parts=>(kU σ zero parts).map .agg
 | .CO sz parts=>(Aa sz σ parts).map fun es=>KS (.ah es .exact)
def AH.put (H:AH) (id:Nat) (cs:List PV):AH:={H with obj:=fun i=>if i=id then some cs else H.obj i}
def AH.new (H:AH) (cs:List PV):AH:={H with next:=H.next+1,obj:=fun i=>if i=H.next then some cs else H.obj i}
def AH.tok (H:AH):AH:={H with next:=H.next+1,live:=fun i=>if i=H.next then true else H.live i}
def AH.use (H:AH) (k:Nat):AH:={H with live:=fun i=>if i=k then false else H.live i}
def PV.one:PV->Bool
 | .any| .agg _| .dn _=>false
 |_=>true
def rC (sz:Nat) (es:List (List PV)):Prop:= ∀cs∈es,cs.length=sz/\ ∀c∈cs,c.one=true
instance (sz:Nat) (es:List (List PV)):Decidable (rC sz es):=inferInstanceAs (Decidable (∀cs∈es,cs.length=sz/\ ∀c∈cs,c.one=true))
def Ma (sz bytes:Nat) (H:AH) (x y:PV):Option (PV×AH):=
 match x,y with
 | .ah es c,.ah fs _=>
  if fs.length=0 then some (.ah es c,H)
  else if rC sz es/\rC sz fs/\(es.length+fs.length)*bytes<=1099511627776 then
   match c with
   | .unk=>none
   | .tok k=>if H.live k then some (.ah (es++fs) (.tok H.next),(H.use k).tok)else none
   |_=>some (.ah (es++fs) (.tok H.next),H.tok)
  else none
 |_,_=>none
def jc (k:DK) (σ:Nat->PV) (H:AH):Option (PV×AH):=
 match k with
 | .alloc zero=>some (.ref H.next 0,H.new zero)
 | .box sz x=>match cellsOf (x.ev σ)with
  |some cs=>some (.ref H.next 0,H.new cs)
  |none=>none
 | .store sz x v=>match x.ev σ,cellsOf (v.ev σ)with
  | .ref id o,some vs=>(match H.obj id with
   |some cs=>if vs.length=sz/\o+sz<=cs.length/\(vs.all PV.one)=true then some (.any,H.put id (putCells cs o vs))else none
   |none=>none)
  |_,_=>none
 | .app sz bytes x y=>Ma sz bytes H (x.ev σ) (KS (y.ev σ))
 | .yP sz bytes zero n c=>match n.ev σ,c.ev σ with
  | .int _ a,.int _ b=>if 0<=a/\a<=b/\b<=1099511627776/\bytes*b<=1099511627776/\sz=zero.length/\0<sz then some (.bP H.next 0 a.toNat b.toNat sz,H.new (List.replicate b.toNat zero).flatten)else none
  |_,_=>none
def chunks (sz len:Nat) (l:List PV):List (List PV):=(List.range len).map fun i=>(l.drop (i*sz)).take sz
def rowOf (sz:Nat) (H:AH):PV->Option (List (List PV))
 | .ah es _=>some es
 | .bP id off len _ s=>match H.obj id with
  |some cs=>if s=sz/\off+len*sz<=cs.length then some (chunks sz len (cs.drop off))else none
  |none=>none
 |_=>none
def BN (sz bytes:Nat) (H:AH) (es fs:List (List PV)) (K:PV->AH->Prop):Prop:=
 ∀cap,es.length+fs.length<=cap->K (.bP H.next 0 (es.length+fs.length) cap sz) (H.new ((es++fs).flatten++List.replicate ((cap -(es.length+fs.length))*sz) .any))
def vJ (sz bytes:Nat) (H:AH) (x y:PV) (K:PV->AH->Prop):Prop:=
 match rowOf sz H x,rowOf sz H y with
 |some es,some fs=>
  if fs.length=0 then(match x with
   | .bP _ _ len cap _=>if len<=cap then K x H else False
   |_=>K x H)
  else if rC sz es/\rC sz fs/\(es.length+fs.length)*bytes<=1099511627776 then
   match x with
   | .bP id off len cap _=>if len+fs.length<=cap then(match H.obj id with
    |some cs=>if off+(len+fs.length)*sz<=cs.length then K (.bP id off (len+fs.length) cap sz) (H.put id (putCells cs (off+len*sz) fs.flatten))else False
    |none=>False)
        else if len<=cap then BN sz bytes H es fs K else False
   | .ah _ .nil=>BN sz bytes H es fs K
   | .ah _ .exact=>BN sz bytes H es fs K
   |_=>False
  else False
 |_,_=>False
def nop (k:NK) (K:PV->AH->Prop) (σ:Nat->PV) (H:AH):Prop:=
 match k with
 | .app sz bytes x y=>vJ sz bytes H (x.ev σ) (y.ev σ) K
 | .NY zero parts=>match kU σ zero parts with
  |some cs=>K (.agg cs) H
  |none=>False
 | .Y4 x=>match x.ev σ with
  | .str s=>K (.ah (s.map fun b=>[.int .u8 b.toNat]) .unk) H
  |_=>False
 | .copy sz x y=>match x.ev σ,rowOf sz H (y.ev σ)with
  | .bP id off len cap s,some fs=>(match H.obj id with
   |some cs=>if s=sz/\rC sz fs/\off+len*sz<=cs.length then K (.int .i64 (min fs.length len:Nat)) (H.put id (putCells cs off (fs.take len).flatten))else False
   |none=>False)
  |_,_=>False
 | .clr sz zero x=>match x.ev σ with
  | .bP id off len cap s=>(match H.obj id with
   |some cs=>if s=sz/\zero.length=sz/\(zero.all PV.one)=true/\off+len*sz<=cs.length/\0<len then K .any (H.put id (putCells cs off (List.replicate len zero).flatten))else False
   |none=>False)
  |_=>False
 | .Ri sz bytes zero x n=>match x.ev σ,n.ev σ with
  | .ah [] .nil,.int .i64 m=>if 0<m/\m*bytes<=1099511627776 then
   ∀cap,m.toNat<=cap->K (.bP H.next 0 m.toNat cap sz) (H.new ((List.replicate m.toNat zero).flatten++List.replicate ((cap -m.toNat)*sz) .any))else False
  |_,_=>False
 | .NZ sz parts=>match Aa sz σ parts with
  |some es=>if rC sz es then K (.bP H.next 0 es.length es.length sz) (H.new es.flatten)else False
  |none=>False
def cpv:Value->Option PV
 | .bool b=>some (.bool b)
 | .int k n=>some (.int k n)
 | .string s=>some (.str s.data.toList)
 | .pointer none=>some .nW
 | .slice none 0 0=>some (.ah [] .nil)
 | .nilFunc=>some .lq
 | .nilIface=>some .nA
 |_=>none
variable [Glob]
def cop:Operand->Option AE
 | .tmp t=>some (.t t)
 | .const v=>(cpv v).map .c
 | .func f=>some (.c (.fn (.func f) [] []))
 | .global g=>(Glob.gv g).map .c
def nC:List Operand->Option (List AE)
 |[]=>some []
 |x::l=>match cop x,nC l with
  |some a,some b=>some (a::b)
  |_,_=>none
def abt:List Value->Option (List PV)
 |[]=>some []
 |x::l=>match cpv x,abt l with
  |some a,some b=>some (a::b)
  |_,_=>none
def Ew (P:Program) (t:TypeId):Bool:=match P.underlying t with
 |some (.struct _)|some (.array _ _)=>true
 |_=>false
def sizeT (P:Program) (t:TypeId):Option Nat:=(P.info? t).map (·.size)
def xQ (P:Program) (t:TypeId):Option Nat:=(P.info? t).map (·.bytes)
def mY (P:Program) (t:TypeId):Option (List PV):=match P.info? t with
 |some i=>match i.zero with
  |some z=>if z.cells.size=i.size then abt z.cells.toList else none
  |none=>none
 |none=>none
def KU (P:Program) (t:TypeId):Option Nat:=match P.underlying t with
 |some .bool=>some 0
 |some (.int _)=>some 1
 |some .string=>some 2
 |_=>none
def Ey (P:Program):List Field->Option (List (Nat×Nat))
 |[]=>some []
 |f::l=>match KU P f.type,Ey P l with
  |some n,some r=>if f.name= "_" then none else some ((f.offset,n)::r)
  |_,_=>none
def yF (P:Program) (t:TypeId):EqK:=match P.underlying t with
 |some .bool=> .b
 |some (.slice _)=> .sl
 |some (.pointer _)=> .pt
 |some (.func _ _ _)=> .fn
 |some (.struct fs)=>match Ey P fs.toList with
  |some l=>if P.eqGuardType P.depth t=false/\P.stoodInHeld t=false then .st l else .no
  |none=> .no
 |_=> .no
def KV (P:Program) (fs:Array Field):List (Nat×Operand)->Option (List (Nat×Nat×AE))
 |[]=>some []
 |(i,x)::l=>match fs[i]?,cop x,KV P fs l with
   |some f,some a,some r=>(sizeT P f.type).map fun s=>(f.offset,s,a)::r
   |_,_,_=>none
def CS:Nat->List (Nat×Operand)->Option (List AE)
 |_,[]=>some []
 |n,(i,x)::l=>if i=n then(match cop x,CS (n+1) l with
  |some a,some r=>some (a::r)
  |_,_=>none)else none
def N7:Option Operand->Option (Option AE)
 |none=>some none
 |some x=>(cop x).map some
def iC (P:Program) (o:Oper):AK:=
 match o.op with
 | .move x| .assign x=>match cop x with
  |some a=> .r (.AO a)
  |none=> .bad
 | .pick c a b=>match cop c,cop a,cop b with
  |some c,some a,some b=> .r (.pick c a b)
  |_,_,_=> .bad
 | .alloc t=>match mY P t with
  |some z=> .d (.alloc z)
  |none=> .bad
 | .box t x=>match cop x,sizeT P t with
  |some a,some s=> .d (.box s a)
  |_,_=> .bad
 | .build t parts=>match P.underlying t,mY P t with
  |some (.struct fs),some z=>if(fs.toList.all fun f=>(sizeT P f.type).isSome)=true then(match KV P fs parts.toList with
   |some ps=> .r (.build z ps)
   |none=> .bad)else .bad
  |_,_=> .bad
 | .buildSlice t n parts=>match P.underlying t with
  |some (.slice e)=>match sizeT P e,mY P e,CS 0 parts.toList with
   |some s,some _,some ps=>if ps.length=n/\n*s<=65536/\0<s then .r (.CO s ps)else .bad
   |_,_,_=> .bad
  |_=> .bad
 | .load t x=>match P.underlying t,cop x,sizeT P t with
  |some _,some a,some s=> .r (.load s (Ew P t) a)
  |_,_,_=> .bad
 | .store t x v=>match cop x,cop v,sizeT P t with
  |some a,some b,some s=> .d (.store s a b)
  |_,_,_=> .bad
 | .nilCheck x=>match cop x with
  |some a=> .r (.U2 a)
  |none=> .bad
 | .binOp op t x y _=>match cop x,cop y with
  |some a,some b=> .r (.bin op (yF P t) a b)
  |_,_=> .bad
 | .unOp op _ x=>match op,cop x with
  | .not,some a=> .r (.not a)
  | .neg,some a=> .r (.neg a)
  | .xor,some a=> .r (.cpl a)
  |_,_=> .bad
 | .convert src dst x=>match P.underlying src,P.underlying dst,cop x with
  |some (.int _),some (.int k),some a=> .r (.conv k a)
  |some .string,some .string,some a=> .r (.same a)
  |_,_,_=> .bad
 | .makeInterface t x=>match P.underlying t,cop x with
  |some (.interface _),_=> .bad
  |some _,some a=> .r (.NW t a)
  |_,_=> .bad
 | .makeFunc f first caps=>match nC first.toList,nC caps.toList with
  |some a,some b=> .r (.Xi f a b)
  |_,_=> .bad
 | .makeSlice t n c=>match P.underlying t with
  |some (.slice e)=>match sizeT P e,xQ P e,mY P e,cop n,cop c with
   |some s,some b,some z,some x,some y=>if 0<b then .d (.yP s b z x y)else .bad
   |_,_,_,_,_=> .bad
  |_=> .bad
 | .slice t x lo hi mx=>match P.underlying t,cop x,N7 lo,N7 hi,N7 mx with
  |some .string,some a,some l,some h,some none=> .r (.Rh a l h)
  |some (.slice e),some a,some l,some h,some m=>match sizeT P e with
   |some s=> .r (.slc s a l h m)
   |none=> .bad
  |_,_,_,_,_=> .bad
 | .fieldAddr s x f=>match P.underlying s,cop x with
  |some (.struct fs),some a=>match fs[f]? with
   |some fd=>if sizeT P fd.type=some 0\/sizeT P fd.type=none then .bad else .r (.Qz fd.offset a)
   |none=> .bad
  |_,_=> .bad
 | .field t x f=>match P.underlying t,cop x with
  |some (.struct fs),some a=>match fs[f]? with
   |some fd=>match P.underlying fd.type,sizeT P fd.type with
        |some _,some s=> .r (.abp fd.offset s (Ew P fd.type) a)
        |_,_=> .bad
   |none=> .bad
  |_,_=> .bad
 | .indexAddr t x i=>match P.underlying t,cop x,cop i with
  |some (.slice e),some a,some b=>match sizeT P e with
   |some s=> .r (.idx s a b)
   |none=> .bad
  |some (.array n e),some a,some b=>match sizeT P e with
   |some s=> .r (.Gf n s a b)
   |none=> .bad
  |_,_,_=> .bad
 | .index t x i=>match P.underlying t,cop x,cop i with
  |some .string,some a,some b=> .r (.L8 a b)
  |_,_,_=> .bad
 | .extract x i=>match cop x with
  |some a=> .r (.ext a i)
  |none=> .bad
 | .call c=>match c.callee with
  | .value f=>match cop f,nC c.args.toList with
   |some a,some l=> .call a l
   |_,_=> .bad
  | .builtin b=>match b,c.argTypes.toList,nC c.args.toList with
   | .len,[t],some [a]=>match P.underlying t with
        |some .string=> .r (.Kv a)
        |some (.slice _)=> .r (.len a)
        |_=> .bad
   | .cap,[t],some [a]=>match P.underlying t with
        |some (.slice _)=> .r (.cap a)
        |_=> .bad
   | .append,[t,u],some [a,b]=>match P.underlying t with
        |some (.slice e)=>match sizeT P e,xQ P e,mY P e with
         |some s,some y,some _=>if 0<s/\0<y/\u=t then .d (.app s y a b)else .bad
         |_,_,_=> .bad
        |_=> .bad
   | .max,[_,_],some [a,b]=> .r (.mmx true a b)
   | .min,[_,_],some [a,b]=> .r (.mmx false a b)
   |_,_,_=> .bad
  |_=> .bad
 |_=> .bad
def Ig (s:Nat):List (Nat×Operand)->Option (List (Nat×Nat×AE))
 |[]=>some []
 |(i,x)::l=>match cop x,Ig s l with
   |some a,some r=>some ((i*s,s,a)::r)
   |_,_=>none
def Ih (P:Program) (o:Oper):AK:=
 match o.op with
 | .build t parts=>match P.underlying t,mY P t with
  |some (.array _ e),some z=>match sizeT P e with
   |some s=>match Ig s parts.toList with
        |some ps=> .n (.NY z ps)
        |none=> .bad
   |none=> .bad
  |_,_=> .bad
 | .convert src dst x=>match P.underlying src,P.underlying dst,cop x with
  |some .string,some (.slice e),some a=>match P.underlying e with
   |some (.int .u8)=> .n (.Y4 a)
   |_=> .bad
  |_,_,_=> .bad
 | .call c=>match c.callee,c.argTypes.toList,nC c.args.toList with
  | .builtin .copy,[t,u],some [a,b]=>match P.underlying t with
   |some (.slice e)=>match sizeT P e with
        |some s=>if 0<s/\u=t then .n (.copy s a b)else .bad
        |none=> .bad
   |_=> .bad
  | .builtin .append,[t,u],some [a,b]=>match P.underlying t,P.underlying u with
   |some (.slice e),some (.int _)=>match sizeT P e,xQ P e,mY P e with
        |some s,some y,some z=>if 0<s/\0<y/\z.length=s then .n (.Ri s y z a b)else .bad
        |_,_,_=> .bad
   |_,_=> .bad
  | .builtin .clear,[t],some [a]=>match P.underlying t with
   |some (.slice e)=>match sizeT P e,mY P e with
        |some s,some z=>if 0<s then .n (.clr s z a)else .bad
        |_,_=> .bad
   |_=> .bad
  |_,_,_=> .bad
 |_=> .bad
def JH (P:Program) (rm:Bool) (o:Oper):AK:=
 match iC P o with
 | .bad=>Ih P o
 | .d (.app s b x y)=>if rm then .n (.app s b x y)else .d (.app s b x y)
 | .r (.CO s ps)=>if(rm&&s==7&& !ps.isEmpty)=true then .n (.NZ s ps)else .r (.CO s ps)
 |k=>k
end Go.VL
end
section
namespace Go.VL
variable [Glob]
theorem ajS (s:ByteArray):(⟨s.data.toList.toArray⟩:ByteArray)=s:=by cases s;simp
theorem apq {G:Gh} {n:Nat} {v:Value} {p:PV} (h:cpv v=some p):V G n p v:=by
 unfold cpv at h;split at h
 all_goals first|cases h|skip
 · exact .bool _
 · exact .int _ _
 · rename_i s;have:=V.str (G:=G) (n:=n) s.data.toList
   rwa [ajS]at this
 · exact .nW
 · exact .ah [] .nil 0 none 0 (fun _ _=>default) (fun i cs e=>by simp at e) (R0 _) (fun e=>absurd rfl e) (fun i cs j c e=>by simp at e) ⟨rfl,rfl,rfl⟩
 · exact .lq
 · exact .nA
theorem ajT {G:Gh} {n:Nat}: ∀{vs:List Value} {ps:List PV},abt vs=some ps->ps.length=vs.length/\ ∀(j:Nat) (c:PV) (x:Value),ps[j]? =some c->vs[j]? =some x->V G n c x
 |[],ps,h=>by simp [abt]at h;subst h;simp
 |v::vs,ps,h=>by
  unfold abt at h;split at h
  · rename_i a b ha hb;cases h;obtain⟨h1,h2⟩:=ajT (G:=G) (n:=n) hb;refine⟨by simp [h1],fun j c x e e'=> ?_⟩;cases j with
    |zero=>simp at e e';subst e;subst e';exact apq ha
    |succ j=>simp at e e';exact h2 j c x e e'
  · cases h
section
variable {P:Program} {B:Nat->Prop} {G:Gh} {H:AH} {σ:Nat->PV} {a:Act} {w:World}
def Sl (G:Gh) (n:Nat) (σ:Nat->PV) (a:Act):Prop:=NU G/\ ∀t,V G n (σ t) (a.tmps.getD t undef)
theorem fO (hs:Sl G H.next σ a) {x:Operand} {e:AE} (h:cop x=some e):V G H.next (e.ev σ) (a.eval x):=by
 cases x with
 |tmp t=>simp [cop]at h;subst h;exact hs.2 t
 |const v=>
  simp only [cop,Z1]at h;obtain⟨p,hp,rfl⟩:=h;exact apq hp
 |global g=>
  simp only [cop,Z1]at h;obtain⟨p,hp,rfl⟩:=h;exact Glob.ok g p hp G H.next hs.1
 |func f=>simp [cop]at h;subst h;exact .fn _ [] [] #[] #[] rfl (by simp) rfl (by simp)
theorem nD (hs:Sl G H.next σ a): ∀{xs:List Operand} {es:List AE},nC xs=some es->Vs G H.next (es.map (·.ev σ)) (xs.map a.eval).toArray
 |[],es,h=>by simp [nC]at h;subst h;exact⟨rfl,by simp⟩
 |x::xs,es,h=>by
  unfold nC at h;split at h
  · rename_i u v hu hv;cases h;obtain⟨h1,h2⟩:=nD hs hv;refine⟨by simpa using h1,fun j c y e e'=> ?_⟩;cases j with
    |zero=>simp at e e';subst e;subst e';exact fO hs hu
    |succ j=>simp at e e';exact h2 j c y (by simpa using e) (by simpa using e')
  · cases h
theorem avl (hs:Sl G H.next σ a) {x:Option Operand} {e:Option AE} (h:N7 x=some e):(x=none/\e=none)\/ ∃y f,x=some y/\e=some f/\V G H.next (f.ev σ) (a.eval y):=by
 cases x with
 |none=>simp [N7]at h;exact .inl ⟨rfl,h.symm⟩
 |some y=>
  simp only [N7,Z1]at h;obtain⟨f,hf,rfl⟩:=h;exact .inr ⟨y,f,rfl,rfl,fO hs hf⟩
theorem gU {t:TypeId} {s:Nat} (h:sizeT P t=some s) (w:World):(sizeOf t).run P w= .ok s w:=by
 unfold sizeT at h;cases hi:P.info? t with
 |none=>simp [hi]at h
 |some i=>simp [hi]at h;simp [sizeOf,typeInfo,hi,h]
theorem Im {t:TypeId} (h:(P.underlying t).isSome) (w:World):(isAgg t).run P w= .ok (Ew P t) w:=by
 obtain⟨d,hd⟩:=L7.1 h;unfold isAgg Ew;rw [Sem.run_bind,run_underlying hd w,hd];cases d<;>rfl
theorem add_lit (b o j:Nat):(⟨b,o,none⟩:Addr).add j=⟨b,o+j,none⟩:=by unfold Addr.add;split<;>simp_all
def At (G:Gh) (n:Nat) (w:World) (b o:Nat) (cs:List PV):Prop:=
 ∃f:Nat->Value,(∀(j:Nat) (c:PV),cs[j]? =some c->w.cell? ⟨b,o+j,none⟩=some (f j))/\ ∀(j:Nat) (c:PV),cs[j]? =some c->V G n c (f j)
theorem QA {t:TypeId} {sz:Nat} {b o off:Nat} {cs:List PV} {p:PV} (hsz:sizeT P t=some sz) (hu:(P.underlying t).isSome) (hat:At G H.next w b o cs)
 (h:zZ sz (Ew P t) cs off=some p): ∃x,(loadVar t ⟨b,o+off,none⟩).run P w= .ok x w/\V G H.next p x:=by
 obtain⟨f,hf1,hf2⟩:=hat;unfold zZ at h;by_cases hg:Ew P t=true
 · rw [if_pos hg]at h;split at h
   · rename_i hle;cases h;have hl:=run_loadCells_list (P:=P) w ⟨b,o+off,none⟩ ((List.range sz).map fun j=>f (off+j)) (fun j v hv=>by
      rw [add_lit];rw [J0,Z1]at hv;obtain⟨i,hi,rfl⟩:=hv;have hj:j<sz:=by
       rcases D1 j sz with h'|h'
       · exact h'
       · rw [R1 (by simpa using h')]at hi;cases hi
      have:i=j:=by simp [hj]at hi;omega
      subst this;have:=hf1 (off+i) (cs[off+i]'(by omega)) (by simp)
      rwa [<-G4]at this)
     refine⟨.agg ((List.range sz).map fun j=>f (off+j)).toArray,?_,?_⟩
     · have hlen:((List.range sz).map fun j=>f (off+j)).length=sz:=by simp
       rw [hlen]at hl;simp [loadVar,Im hu,hg,gU hsz,hl]
     · refine .agg _ _ (by simp;omega) fun j c x e e'=> ?_;have hj:j<sz:=by
        rcases D1 j sz with h'|h'
        · exact h'
        · rw [R1 (by simp;omega)]at e;cases e
       have e1:cs[off+j]? =some c:=by rw [D3 hj,Q3]at e;exact e
       have e2:x=f (off+j):=by simp [hj]at e';exact e'.symm
       subst e2;exact hf2 _ _ e1
   · cases h
 · rw [if_neg hg]at h;refine⟨f off,?_,hf2 off p h⟩;have hg':Ew P t=false:=by simpa using hg
   simp [loadVar,Im hu,hg',hf1 off p h]
theorem At.asQ {b o:Nat} {cs:List PV} (hM:HM B H G w) {f:Nat->Value} (h1: ∀(j:Nat) (c:PV),cs[j]? =some c->G.F ⟨b,o+j,none⟩=some (f j))
 (h2: ∀(j:Nat) (c:PV),cs[j]? =some c->V G H.next c (f j)):At G H.next w b o cs:=⟨f,fun j c e=>hM.su _ _ (h1 j c e),h2⟩
theorem At.avm {id b:Nat} {cs:List PV} (hM:HM B H G w) (ho:H.obj id=some cs) (hm:G.m id=some b):At G H.next w b 0 cs:=by
 obtain⟨_,b',arr,t,k1,_,k3,⟨k4,k5⟩,k6⟩:=hM.obj id cs ho;have:b'=b:=by rw [k1]at hm;exact V2 hm
 subst this;have harr: ∀(j:Nat) (c:PV),cs[j]? =some c-> ∃x,arr[j]? =some x:=fun j c e=>by
  have hj:j<cs.length:=by
   rcases D1 j cs.length with hlt|hge
   · exact hlt
   · rw [R1 hge]at e;cases e
  exact⟨arr[j]'(by omega),by simp⟩
 exact⟨fun j=>arr[j]?.getD default,fun j c e=>by obtain⟨x,hx⟩:=harr j c e;show _=some (arr[j]?.getD default);rw [V1,wY k3,hx];rfl,
  fun j c e=>by obtain⟨x,hx⟩:=harr j c e;show V G H.next c (arr[j]?.getD default);rw [hx];exact k5 j c x e hx⟩
theorem U4 {t:TypeId} {sz:Nat} {p q:PV} {v:Value} (hM:HM B H G w) (hsz:sizeT P t=some sz) (hu:(P.underlying t).isSome) (hv:V G H.next p v)
 (h:CQ H sz (Ew P t) p=some q): ∃x,(Instr.loadAt t v).run P w= .ok x w/\V G H.next q x:=by
 cases hv with
 |ref id off b h1 h2=>
  simp only [CQ]at h;split at h
  · rename_i cs ho;obtain⟨x,hx,hV⟩:=QA (P:=P) hsz hu (At.avm hM ho h2) h;rw [V1]at hx;exact⟨x,by simp [Instr.loadAt,Instr.sureAddr,hx],hV⟩
  · cases h
 |cK cs off b o f h1 h2=>
  obtain⟨x,hx,hV⟩:=QA (P:=P) hsz hu (At.asQ hM h1 h2) h;exact⟨x,by simp [Instr.loadAt,Instr.sureAddr,hx],hV⟩
 |_=>simp [CQ]at h
theorem agn {off:Nat} {p q:PV} {v:Value} (hv:V G H.next p v) (h:Gz off p=some q): ∃b o,v= .pointer (some ⟨b,o,none⟩)/\V G H.next q (.pointer (some ⟨b,o+off,none⟩)):=by
 cases hv with
 |ref id o b h1 h2=>
  simp only [Gz,L1]at h;subst h;exact⟨b,o,rfl,.ref id (o+off) b h1 h2⟩
 |cK cs o b o' f h1 h2=>
  simp only [Gz,L1]at h;subst h;have:=V.cK (G:=G) (n:=H.next) cs (o+off) b o' f h1 h2;rw [<-G4]at this;exact⟨b,o'+o,rfl,this⟩
 |_=>simp [Gz]at h
theorem asR {sz:Nat} {x i q:PV} {u v:Value} (hu:V G H.next x u) (hv:V G H.next i v) (h:jS sz x i=some q):
 ∃b o len cap k n,u= .slice (some ⟨b,o,none⟩) len cap/\v= .int k n/\0<=n/\n<len/\V G H.next q (.pointer (some ⟨b,o+n.toNat*sz,none⟩)):=by
 cases hu with
 |ah es c s ad cap f h1 h2 h3 h4 h5=>
  cases hv with
  |int k n=>
   simp only [jS]at h;split at h
   · rename_i hn;split at h
     · rename_i cs hcs;split at h
       · rename_i hl;cases h;have hne:es≠[]:=fun e=>by rw [e]at hcs;simp at hcs
         obtain⟨b,o,rfl,hF⟩:=h3 hne;have hs:=h1 _ _ hcs;have hlt:n.toNat<es.length:=by
          rcases D1 n.toNat es.length with h'|h'
          · exact h'
          · rw [R1 h']at hcs;cases hcs
         have:s=sz:=by omega
         subst this;have key:=V.cK (G:=G) (n:=H.next) cs 0 b (o+n.toNat*s) (f n.toNat) (hF _ _ hcs) (fun j c e=>h4 _ _ j c hcs e);exact⟨b,o,es.length,cap,k,n,rfl,rfl,hn,by omega,key⟩
       · cases h
     · cases h
   · cases h
  |_=>simp [jS]at h
 |bP id off len cap s b h1 h2=>
  cases hv with
  |int k n=>
   simp only [jS]at h;split at h
   · rename_i hn;cases h;obtain⟨hn0,hn1,rfl⟩:=hn;exact⟨b,off,len,cap,k,n,rfl,rfl,hn0,hn1,.ref id _ b h1 h2⟩
   · cases h
  |_=>simp [jS]at h
 |_=>simp [jS]at h
end
end Go.VL
end
section
namespace Go.VL
variable [Glob]
section
variable {P:Program} {B:Nat->Prop} {G:Gh} {H:AH} {σ:Nat->PV} {a:Act} {w:World}
theorem abu: ∀(a b:List UInt8),strLt a b=Op.bytesLess a b
 |a,[]=>by cases a<;>rfl
 |[],b::l=>rfl
 |a::x,b::y=>by simp only [strLt,Op.bytesLess,abu x y]
theorem ahu {op:BinOp} {k:IntKind} {x y:Int} {q:PV} (t:TypeId) (hsh:op≠ .shl) (hsr:op≠ .shr) (h:KT op k x y=some q):
 ∃v,(binOp op t (.int k x) (.int k y)).run P w= .ok v w/\V G H.next q v:=by
 cases op<;>simp only [KT,L1,reduceCtorEq]at h<;>(try subst h)
 case quo=>
  split at h
  · cases h
  · rename_i hy;cases h;exact⟨_,by simp [binOp,Op.intDiv,hy],.int _ _⟩
 case rem=>
  split at h
  · cases h
  · rename_i hy;cases h;exact⟨_,by simp [binOp,Op.intDiv,hy],.int _ _⟩
 case add=>exact⟨_,by simp [binOp,Op.intArith],.int _ _⟩
 case sub=>exact⟨_,by simp [binOp,Op.intArith],.int _ _⟩
 case mul=>exact⟨_,by simp [binOp,Op.intArith],.int _ _⟩
 case and=>exact⟨_,by simp only [binOp,Op.intBits];simp,.int _ _⟩
 case or=>exact⟨_,by simp only [binOp,Op.intBits];simp,.int _ _⟩
 case xor=>exact⟨_,by simp only [binOp,Op.intBits];simp,.int _ _⟩
 case eql=>exact⟨_,by simp [binOp,Op.intCmp],.bool _⟩
 case neq=>exact⟨_,by simp [binOp,Op.intCmp],.bool _⟩
 case lss=>exact⟨_,by simp [binOp,Op.intCmp],.bool _⟩
 case leq=>exact⟨_,by simp [binOp,Op.intCmp],.bool _⟩
 case gtr=>exact⟨_,by simp [binOp,Op.intCmp],.bool _⟩
 case geq=>exact⟨_,by simp [binOp,Op.intCmp],.bool _⟩
theorem N8 {op:BinOp} {k k':IntKind} {x y:Int} {q:PV} (t:TypeId) (hop:op= .shl\/op= .shr) (h:Rj op k x y=some q):
 ∃v,(binOp op t (.int k x) (.int k' y)).run P w= .ok v w/\V G H.next q v:=by
 unfold Rj at h;split at h
 · cases h
 · rename_i hy;rcases hop with rfl|rfl<;>cases h<;>exact⟨_,by simp only [binOp,Op.shift];rw [if_neg hy];rfl,.int _ _⟩
theorem N9 (l:List UInt8):(⟨l.toArray⟩:ByteArray).toList=l:=by rw [ByteArray.toList_eq]
theorem ahv {op:BinOp} {x y:List UInt8} {q:PV} (t:TypeId) (h:CP op x y=some q):
 ∃v,(binOp op t (.string ⟨x.toArray⟩) (.string ⟨y.toArray⟩)).run P w= .ok v w/\V G H.next q v:=by
 cases op<;>simp only [CP,L1,reduceCtorEq]at h<;>(try subst h)
 case add=>
  split at h
  · rename_i hl;cases h;have hsz: ¬(((⟨x.toArray⟩:ByteArray).size+(⟨y.toArray⟩:ByteArray).size:Nat):Int)>IntKind.i64.max:=by
     show ¬(((x.toArray.size+y.toArray.size:Nat):Int)>9223372036854775807)
     simp only [B8];omega
    refine⟨.string (⟨x.toArray⟩++⟨y.toArray⟩),?_,?_⟩
    · simp only [binOp,Op.stringOp];rw [if_neg hsz];rfl
    · have:(⟨x.toArray⟩:ByteArray)++⟨y.toArray⟩=⟨(x++y).toArray⟩:=by
       apply ByteArray.ext
       simp [ByteArray.data_append]
      rw [this];exact .str _
  · cases h
 all_goals exact⟨_,by simp only [binOp,Op.stringOp,N9,<-abu];rfl,.bool _⟩
theorem iw (op:BinOp) (t:TypeId) (x y:Operand) (u v:Value) (h:u≠ .nilIface) (h': ∀xs,u≠ .agg xs):(eqGuard op t x y u v).run P w= .ok () w:=by
 unfold eqGuard;cases op<;>simp<;>(cases u<;>simp_all)
theorem U5 {t:TypeId} {c d:PV} {u v:Value} {b:Bool} {m:Nat} (n:Nat) (ht:KU P t=some m) (hu:V G H.next c u) (hv:V G H.next d v) (h:U3 m c d=some b):
 (Op.equalIn (n+1) t u v).run P w= .ok b w:=by
 unfold KU at ht;unfold U3 at h;split at h
 · cases hu;cases hv;cases h;split at ht<;>cases ht;rename_i h1;exact run_equalIn_bool' w n t _ _ h1
 · split at h
   · rename_i hk;subst hk;cases hu;cases hv;cases h;split at ht<;>cases ht;rename_i h1;exact run_equalIn_int w n t _ _ _ _ h1
   · cases h
 · cases hu;cases hv;cases h;split at ht<;>cases ht;rename_i h1;rw [run_equalIn_string w n t _ _ h1,N9,N9]
 · cases h
theorem Oa {xs ys:List PV} {us vs:Array Value} (hu:Vs G H.next xs us) (hv:Vs G H.next ys vs): ∀{fs:List Field} {l:List (Nat×Nat)} {b:Bool} (n:Nat),
 Ey P fs=some l->Ie l xs ys=some b->(Op.eqFields (n+1) us vs fs).run P w= .ok b w
 |[],l,b,n,h,hb=>by
  simp [Ey]at h;subst h;simp [Ie]at hb;subst hb;simp [Op.eqFields]
 |f::fs,l,b,n,h,hb=>by
  unfold Ey at h;split at h
  · rename_i m r hm hr;split at h
    · cases h
    · rename_i hname;cases h;unfold Ie at hb;split at hb
      · rename_i x y hx hy;have hlx:f.offset<us.size:=by
         rw [hu.1];rcases D1 f.offset xs.length with h'|h'
         · exact h'
         · rw [R1 h']at hx;cases hx
        have hly:f.offset<vs.size:=by
         rw [hv.1];rcases D1 f.offset ys.length with h'|h'
         · exact h'
         · rw [R1 h']at hy;cases hy
        have hagg:(isAgg f.type).run P w= .ok false w:=by
         have hsome:(P.underlying f.type).isSome:=by
          unfold KU at hm;split at hm<;>first|(rename_i h1;simp [h1])|cases hm
         rw [Im hsome];unfold Ew;unfold KU at hm;split at hm
         · rename_i h1;simp [h1]
         · rename_i h1;simp [h1]
         · rename_i h1;simp [h1]
         · cases hm
        have hpx:(part f.type us f.offset).run P w= .ok us[f.offset] w:=by
         simp [part,hagg,A3 hlx]
        have hpy:(part f.type vs f.offset).run P w= .ok vs[f.offset] w:=by
         simp [part,hagg,A3 hly]
        have ux:=hu.2 _ _ us[f.offset] hx (by simp);have uy:=hv.2 _ _ vs[f.offset] hy (by simp);split at hb
        · rename_i he;have hq:=U5 (w:=w) n hm ux uy he;simp only [Op.eqFields,hname,ne_eq,W7,A0,Sem.run_bind,hpx,hpy,Result.andThen_ok,hq,y6,I2,L2];exact Oa hu hv n hr hb
        · rename_i he;cases hb;have hq:=U5 (w:=w) n hm ux uy he;simp only [Op.eqFields,hname,ne_eq,W7,A0,Sem.run_bind,hpx,hpy,Result.andThen_ok,hq,C6,Sem.run_pure]
        · cases hb
      · cases hb
  · cases h
theorem CU {op:BinOp} {t:TypeId} {u v:Value} {b s:Bool} (X Y:Operand) (hop:isEq op=some s)
 (h1:binOp .eql t u v=(do pure (.bool (<-Op.equal t u v)))) (h2:binOp .neq t u v=(do pure (.bool (!(<-Op.equal t u v)))))
 (hg:(eqGuard op t X Y u v).run P w= .ok () w) (he:(Op.equalIn (9999+1) t u v).run P w= .ok b w):
 (do eqGuard op t X Y u v;binOp op t u v:Sem Value).run P w= .ok (.bool (if s then b else !b)) w:=by
 have hops:op= .eql/\s=true\/op= .neq/\s=false:=by
  cases op<;>simp [isEq]at hop<;>simp [hop]
 have he':(Op.equal t u v).run P w= .ok b w:=he;rw [Sem.run_bind,hg,Result.andThen_ok];rcases hops with⟨rfl,rfl⟩|⟨rfl,rfl⟩
 · rw [h1,Sem.run_bind,he'];rfl
 · rw [h2,Sem.run_bind,he'];rfl
theorem Gs {t e:TypeId} (n:Nat) (ad:Option Addr) (l c l' c':Nat) (h:P.underlying t=some (.slice e)):(Op.equalIn (n+1) t (.slice ad l c) (.slice none l' c')).run P w= .ok ad.isNone w:=by
 cases ad<;>simp [Op.equalIn,run_underlying h]
theorem CV {t e:TypeId} (n:Nat) (ad:Option Addr) (h:P.underlying t=some (.pointer e)):(Op.equalIn (n+1) t (.pointer ad) (.pointer none)).run P w= .ok ad.isNone w:=by
 cases ad<;>simp [Op.equalIn,run_underlying h]
theorem Rk {t:TypeId} {a b:Array TypeId} {c:Bool} (n:Nat) (g:Fn) (x y:Array Value) (h:P.underlying t=some (.func a b c)):(Op.equalIn (n+1) t (.func g x y) .nilFunc).run P w= .ok false w:=by
 simp [Op.equalIn,run_underlying h]
theorem U6 {t:TypeId} {a b:Array TypeId} {c:Bool} (n:Nat) (h:P.underlying t=some (.func a b c)):(Op.equalIn (n+1) t .nilFunc .nilFunc).run P w= .ok true w:=by
 simp [Op.equalIn,run_underlying h]
theorem asS {t:TypeId} (h:yF P t= .b):P.underlying t=some .bool:=by
 unfold yF at h;split at h<;>first|assumption|(cases h;done)|(split at h<;>first|(cases h;done)|(split at h<;>cases h))
theorem abv {t:TypeId} (h:yF P t= .sl): ∃e,P.underlying t=some (.slice e):=by
 unfold yF at h;split at h<;>first|exact⟨_,by assumption⟩|(cases h;done)|(split at h<;>first|(cases h;done)|(split at h<;>cases h))
theorem Rm {t:TypeId} (h:yF P t= .pt): ∃e,P.underlying t=some (.pointer e):=by
 unfold yF at h;split at h<;>first|exact⟨_,by assumption⟩|(cases h;done)|(split at h<;>first|(cases h;done)|(split at h<;>cases h))
theorem abw {t:TypeId} (h:yF P t= .fn): ∃a b c,P.underlying t=some (.func a b c):=by
 unfold yF at h;split at h<;>first|exact⟨_,_,_,by assumption⟩|(cases h;done)|(split at h<;>first|(cases h;done)|(split at h<;>cases h))
theorem amJ {t:TypeId} {l:List (Nat×Nat)} (h:yF P t= .st l): ∃fs,P.underlying t=some (.struct fs)/\Ey P fs.toList=some l/\P.eqGuardType P.depth t=false/\P.stoodInHeld t=false:=by
 unfold yF at h;split at h<;>(try (cases h;done));rename_i fs hf;split at h
 · rename_i l' hl;split at h
   · rename_i hg;cases h;exact⟨fs,hf,hl,hg⟩
   · cases h
 · cases h
theorem abx {op:BinOp} {t:TypeId} {x y:PV} {u v:Value} {b s:Bool} (X Y:Operand) (hop:isEq op=some s) (hu:V G H.next x u) (hv:V G H.next y v) (h:aht (yF P t) x y=some b):
 (do eqGuard op t X Y u v;binOp op t u v:Sem Value).run P w= .ok (.bool (if s then b else !b)) w:=by
 generalize he:yF P t=e at h;unfold aht at h;split at h
 · cases hu;cases hv;cases h;exact CU X Y hop rfl rfl (iw _ _ _ _ _ _ (by simp) (by simp)) (run_equalIn_bool' w 9999 t _ _ (asS he))
 · rename_i es c;obtain⟨e1,h1⟩:=abv he;cases hv with
   |ah _ _ sz' AP cap' f' g1 g2 g3 g4 g5=>
    obtain⟨rfl,_,rfl⟩:=g5;cases hu with
    |ah _ _ sz ad cap f k1 k2 k3 k4 k5=>
     have key:=CU (w:=w) X Y hop (u:= .slice ad es.length cap) (v:= .slice none ([]:List (List PV)).length 0) rfl rfl (iw _ _ _ _ _ _ (by simp) (by simp)) (Gs 9999 ad es.length cap _ _ h1);split at h
     · cases h;obtain⟨rfl,_,_⟩:=k5;exact key
     · split at h
       · rename_i hne;cases h;obtain⟨b0,o0,rfl,_⟩:=k3 (fun e=>hne (by rw [e];rfl));exact key
       · cases h
 · cases h;obtain⟨e1,h1⟩:=abv he;cases hv with
   |ah _ _ sz' AP cap' f' g1 g2 g3 g4 g5=>
    obtain⟨rfl,_,rfl⟩:=g5;cases hu;exact CU X Y hop rfl rfl (iw _ _ _ _ _ _ (by simp) (by simp)) (Gs 9999 _ _ _ _ _ h1)
 · cases h;cases hu;cases hv;obtain⟨e1,h1⟩:=Rm he;exact CU X Y hop rfl rfl (iw _ _ _ _ _ _ (by simp) (by simp)) (CV 9999 _ h1)
 · cases h;cases hu;cases hv;obtain⟨e1,h1⟩:=Rm he;exact CU X Y hop rfl rfl (iw _ _ _ _ _ _ (by simp) (by simp)) (CV 9999 _ h1)
 · cases h;cases hu;cases hv;obtain⟨e1,h1⟩:=Rm he;exact CU X Y hop rfl rfl (iw _ _ _ _ _ _ (by simp) (by simp)) (CV 9999 _ h1)
 · cases h;cases hu;cases hv;obtain⟨_,_,_,h1⟩:=abw he;exact CU X Y hop rfl rfl (iw _ _ _ _ _ _ (by simp) (by simp)) (U6 9999 h1)
 · cases h;cases hu;cases hv;obtain⟨_,_,_,h1⟩:=abw he;exact CU X Y hop rfl rfl (iw _ _ _ _ _ _ (by simp) (by simp)) (Rk 9999 _ _ _ h1)
 · rename_i fs xs ys;obtain⟨aEY,h1,hl,hg1,hg2⟩:=amJ he;cases hu with
   |agg _ us u1 u2=>
    cases hv with
    |agg _ vs v1 v2=>
     have hff:P.fieldsOf t=aEY:=by simp [Program.fieldsOf,h1]
     have hfo:P.underlying t=some (.struct (P.fieldsOf t)):=by rw [hff];exact h1
     have hr:=Oa (P:=P) (w:=w) ⟨u1,u2⟩ ⟨v1,v2⟩ 9998 hl h;have hq:=run_equalIn_struct w 9999 t us vs hfo hg2;rw [hff,hr]at hq;exact CU X Y hop rfl rfl (run_eqGuard_agg w op t X Y us vs hg1) hq
 · cases h
theorem ajU {op:BinOp} {t:TypeId} {x y q:PV} {u v:Value} (X Y:Operand) (hu:V G H.next x u) (hv:V G H.next y v) (h:aaR op (yF P t) x y=some q):
 ∃r,(do eqGuard op t X Y u v;binOp op t u v:Sem Value).run P w= .ok r w/\V G H.next q r:=by
 unfold aaR at h;split at h
 · rename_i k a k' b;cases hu;cases hv;rw [Sem.run_bind,iw _ _ _ _ _ _ (by simp) (by simp),Result.andThen_ok];split at h
   · exact N8 t (.inl rfl) h
   · exact N8 t (.inr rfl) h
   · rename_i hne1 hne2;split at h
     · rename_i hk;subst hk;exact ahu t (fun e=>hne1 e) (fun e=>hne2 e) h
     · cases h
 · cases hu;cases hv;rw [Sem.run_bind,iw _ _ _ _ _ _ (by simp) (by simp),Result.andThen_ok];exact ahv t h
 · split at h
   · rename_i hop he;cases h;exact⟨_,abx X Y hop hu hv he,.bool _⟩
   · rename_i hop he;cases h;exact⟨_,abx X Y hop hu hv he,.bool _⟩
   · cases h
end
end Go.VL
end
section
namespace Go.VL
variable [Glob]
section
variable {P:Program} {B:Nat->Prop} {G:Gh} {H:AH} {σ:Nat->PV} {a:Act} {w:World}
theorem FB {p:PV} {v:Value} {cs:List PV} (hv:V G H.next p v) (h:cellsOf p=some cs):Vs G H.next cs v.cells:=by
 have one: ∀{q:PV} {u:Value},V G H.next q u->u.cells=#[u]->Vs G H.next [q] u.cells:=by
  intro q u hq hu;rw [hu];refine⟨rfl,fun j c x e e'=> ?_⟩;cases j with
  |zero=>simp at e e';subst e;subst e';exact hq
  |succ j=>simp at e
 cases hv<;>simp only [cellsOf,L1,reduceCtorEq]at h<;>(try subst h)
 case agg vs h1 h2=>exact⟨h1,h2⟩
 case ah f h1 h2 h3 h4 h5=>exact one (.ah _ _ _ _ _ f h1 h2 h3 h4 h5) rfl
 case cK f h1 h2=>exact one (.cK _ _ _ _ f h1 h2) rfl
 case ref h1 h2=>exact one (.ref _ _ _ h1 h2) rfl
 case bP h1 h2=>exact one (.bP _ _ _ _ _ _ h1 h2) rfl
 case fn h1 h2 h3 h4=>exact one (.fn _ _ _ _ _ h1 h2 h3 h4) rfl
 case iface h=>exact one (.iface _ _ _ h) rfl
 all_goals exact one (by constructor) rfl
theorem Cc {x:Option PV} {d n:Nat} {e:Option Value} (h:pI x d=some n) (hx:x=none/\e=none\/ ∃p v,x=some p/\e=some v/\V G H.next p v):
 (e=none/\n=d)\/ ∃k i,e=some (.int k i)/\0<=i/\n=i.toNat:=by
 rcases hx with⟨rfl,rfl⟩|⟨p,v,rfl,rfl,hv⟩
 · simp [pI]at h;exact .inl ⟨rfl,h.symm⟩
 · cases hv<;>simp only [pI,reduceCtorEq]at h;split at h
   · rename_i h0;cases h;exact .inr ⟨_,_,rfl,h0,rfl⟩
   · cases h
theorem kV {k:IntKind} {i:Int} {y:Nat} {code:BoundsCode} (h0:0<=i) (h1:i.toNat<=y):(Instr.sliceBound (.int k i) y code).run P w= .ok i.toNat w:=by
 simp [Instr.sliceBound,asIntOf,h0,show i<=(y:Int) by omega]
theorem yG {ah:Bool} {len cap l h:Nat} {lo hi:Option Value} (hlo:(lo=none/\l=0)\/ ∃k i,lo=some (.int k i)/\0<=i/\l=i.toNat)
 (hhi:(hi=none/\h=len)\/ ∃k i,hi=some (.int k i)/\0<=i/\h=i.toNat) (hl:l<=h) (hh:h<=cap):(Instr.sliceBounds ah len cap lo hi none).run P w= .ok (l,h,cap) w:=by
 rcases hhi with⟨rfl,rfl⟩|⟨k,i,rfl,h0,rfl⟩<;>rcases hlo with⟨rfl,rfl⟩|⟨k',i',rfl,h0',rfl⟩
 · simp [Instr.sliceBounds]
 · simp [Instr.sliceBounds,kV h0' hl]
 · simp [Instr.sliceBounds,kV h0 hh]
 · simp [Instr.sliceBounds,kV h0 hh,kV h0' hl]
theorem Rn {len cap l h:Nat} {lo hi:Option Value} {k0:IntKind} {m:Int} (hlo:(lo=none/\l=0)\/ ∃k i,lo=some (.int k i)/\0<=i/\l=i.toNat)
 (hhi: ∃k i,hi=some (.int k i)/\0<=i/\h=i.toNat) (hm0:0<=m) (hl:l<=h) (hh:h<=m.toNat) (hm:m.toNat<=cap):
 (Instr.sliceBounds true len cap lo hi (some (.int k0 m))).run P w= .ok (l,h,m.toNat) w:=by
 obtain⟨k,i,rfl,h0,rfl⟩:=hhi;rcases hlo with⟨rfl,rfl⟩|⟨k',i',rfl,h0',rfl⟩
 · simp [Instr.sliceBounds,kV hm0 hm,kV h0 hh]
 · simp [Instr.sliceBounds,kV hm0 hm,kV h0 hh,kV h0' hl]
theorem aby {es:List (List PV)} {sz l h cap':Nat} {ad:Option Addr} {f:Nat->Nat->Value} {c:Ck}
 (h1: ∀(i:Nat) (cs:List PV),es[i]? =some cs->cs.length=sz)
 (h3:es≠[]-> ∃b o,ad=some ⟨b,o,none⟩/\ ∀(i:Nat) (cs:List PV),es[i]? =some cs-> ∀(j:Nat) (c:PV),cs[j]? =some c->G.F ⟨b,o+i*sz+j,none⟩=some (f i j))
 (h4: ∀(i:Nat) (cs:List PV) (j:Nat) (c:PV),es[i]? =some cs->cs[j]? =some c->V G H.next c (f i j))
 (hl:l<=h) (hh:h<=es.length) (hcap:h -l<=cap') (AP:Option Addr) (hne:l<h->AP=ad.map (·.add (l*sz)))
 (hc:Rf G H.next c AP (h -l) sz cap'):V G H.next (.ah ((es.take h).drop l) c) (.slice AP (h -l) cap'):=by
 have hlen:((es.take h).drop l).length=h -l:=by simp;omega
 have hget: ∀(i:Nat) (cs:List PV),((es.take h).drop l)[i]? =some cs->i<h -l/\es[l+i]? =some cs:=by
  intro i cs e;rw [Q3,gA]at e;split at e
  · exact⟨by omega,e⟩
  · cases e
 have key:V G H.next (.ah ((es.take h).drop l) c) (.slice AP ((es.take h).drop l).length cap'):=by
  refine .ah _ c sz AP cap' (fun i j=>f (l+i) j) (fun i cs e=>h1 _ _ (hget i cs e).2) (by omega) (fun hne'=> ?_) (fun i cs j c e ec=>h4 _ _ _ _ (hget i cs e).2 ec) (by rw [hlen];exact hc);have hlt:l<h:=by
   rcases D1 l h with hx|hx
   · exact hx
   · exact absurd (T4 (by omega)) hne'
  have hes:es≠[]:=fun e=>by rw [e]at hh;simp at hh;omega
  obtain⟨b,o,rfl,hF⟩:=h3 hes;refine⟨b,o+l*sz,by rw [hne hlt];simp [add_lit],fun i cs e j c ec=> ?_⟩;have:=hF (l+i) cs (hget i cs e).2 j c ec;rw [C3]at this
  rwa [G4 o (l*sz)]
 rwa [hlen]at key
theorem ajV {t e:TypeId} {sz:Nat} {x q:PV} {lo hi mx:Option PV} {u:Value} {lo' hi' mx':Option Value} (ht:P.underlying t=some (.slice e)) (hsz:sizeT P e=some sz) (hu:V G H.next x u)
 (hlo:lo=none/\lo'=none\/ ∃p v,lo=some p/\lo'=some v/\V G H.next p v) (hhi:hi=none/\hi'=none\/ ∃p v,hi=some p/\hi'=some v/\V G H.next p v)
 (hmx:mx=none/\mx'=none\/ ∃p v,mx=some p/\mx'=some v/\V G H.next p v) (h:qE sz x lo hi mx=some q):
 ∃r,(Instr.sliceAt t u lo' hi' mx').run P w= .ok r w/\V G H.next q r:=by
 cases hu with
 |ah es c s ad cap f h1 h2 h3 h4 h5=>
  simp only [qE]at h;split at h
  · rename_i l hh hl Xj;split at h
    · rename_i hb;obtain⟨hb1,hb2,hb3⟩:=hb;have Y5:=Cc hl hlo;have Y6:=Cc Xj hhi;have hss:es≠[]->s=sz:=fun he=>by
       obtain⟨c0,l0,rfl⟩:=uA he;have:=h1 0 c0 rfl;have:=hb3 c0 (by simp);omega
      have avn: ∀m,l<hh->m≠l->(if m=l then ad else ad.map (·.add (l*sz)))=ad.map (·.add (l*s)):=fun m hlt hm=>by
       rw [if_neg hm,hss (fun e=>by rw [e]at hb2;simp at hb2;omega)]
      cases mx with
      |none=>
       obtain⟨_,rfl⟩:none=(none:Option PV)/\mx'=none:=by rcases hmx with h'|⟨_,_,h',_⟩;exact h';cases h'
       have hrun:(Instr.sliceAt t (.slice ad es.length cap) lo' hi' none).run P w= .ok (.slice (if cap=l then ad else ad.map (·.add (l*sz))) (hh -l) (cap -l)) w:=by
        simp [Instr.sliceAt,Instr.slice,run_underlying ht,yG Y5 Y6 hb1 (E1 hb2 h2),gU hsz]
       refine⟨_,hrun,?_⟩
       have part: ∀c',Rf G H.next c' (if cap=l then ad else ad.map (·.add (l*sz))) (hh -l) s (cap -l)->V G H.next (.ah ((es.take hh).drop l) c') (.slice (if cap=l then ad else ad.map (·.add (l*sz))) (hh -l) (cap -l)):=
        fun c' hc'=>aby h1 h3 h4 hb1 hb2 (by omega) _ (fun hlt=>avn cap hlt (by omega)) hc'
       cases h;exact part .unk trivial
      |some mv=>
       obtain⟨p,v,e1,rfl,hv⟩: ∃p v,some mv=some p/\mx'=some v/\V G H.next p v:=by rcases hmx with⟨h',_⟩|h';cases h';exact h'
       cases e1;cases hv with
       |int k m=>
        simp only at h;split at h
        · rename_i hm;obtain⟨hm1,hm2⟩:=hm;cases h;have aEZ: ∃k i,hi'=some (.int k i)/\0<=i/\hh=i.toNat:=by
           rcases Y6 with⟨rfl,_⟩|h'
           · rcases hhi with⟨rfl,_⟩|⟨_,_,_,h',_⟩
             · simp at hm2
             · cases h'
           · exact h'
          have hmn:m.toNat=hh:=by omega
          have hrun:(Instr.sliceAt t (.slice ad es.length cap) lo' hi' (some (.int k m))).run P w= .ok (.slice (if hh=l then ad else ad.map (·.add (l*sz))) (hh -l) (hh -l)) w:=by
           have:=Rn (P:=P) (w:=w) (len:=es.length) (cap:=cap) (k0:=k) (m:=m) Y5 aEZ (by omega) hb1 (by omega) (by omega);simp [Instr.sliceAt,Instr.slice,run_underlying ht,this,hmn,gU hsz]
          refine⟨_,hrun,?_⟩;refine aby h1 h3 h4 hb1 hb2 (R0 _) _ (fun hlt=>avn hh hlt (by omega)) ?_;cases c with
          |nil=>
           obtain⟨rfl,e2,rfl⟩:=h5;refine⟨by split<;>simp,by omega,by omega⟩
          |exact=>rfl
          |unk=>rfl
          |tok k=>rfl
        · cases h
       |_=>simp at h
    · cases h
  · cases h
 |bP id off len cap s b h1 h2=>
  simp only [qE]at h;split at h
  · rename_i l hh hl Xj;split at h
    · rename_i hb;obtain⟨hb1,hb2,rfl,hb4,hb5⟩:=hb;cases h;obtain⟨_,rfl⟩:none=(none:Option PV)/\mx'=none:=by rcases hmx with h'|⟨_,_,h',_⟩;exact h';cases h'
      have Y5:=Cc hl hlo;have Y6:=Cc Xj hhi;refine⟨.slice (some ⟨b,off+l*s,none⟩) (hh -l) (cap -l),?_,.bP id _ _ _ _ b h1 h2⟩;have hne: ¬(cap=l):=by omega
      simp [Instr.sliceAt,Instr.slice,run_underlying ht,yG Y5 Y6 hb1 hb5,gU hsz,hne,add_lit]
    · split at h
      · rename_i hb;obtain⟨hb1,hb2,hb3,rfl⟩:=hb;cases h;obtain⟨_,rfl⟩:none=(none:Option PV)/\mx'=none:=by rcases hmx with h'|⟨_,_,h',_⟩;exact h';cases h'
        have Y5:=Cc hl hlo;have Y6:=Cc Xj hhi;subst hb1;subst hb2;refine⟨.slice (some ⟨b,off,none⟩) 0 0,?_,.ah [] .unk s (some ⟨b,off,none⟩) 0 (fun _ _=>undef) (fun i cs e=>by simp at e) (R0 _) (fun e=>absurd rfl e) (fun i cs j c e=>by simp at e) trivial⟩;simp [Instr.sliceAt,Instr.slice,run_underlying ht,yG Y5 Y6 (R0 _) (R0 _),gU hsz]
      · cases h
  · cases h
 |_=>simp [qE]at h
theorem ahw {t:TypeId} {x q:PV} {lo hi:Option PV} {u:Value} {lo' hi':Option Value} (ht:P.underlying t=some .string) (hu:V G H.next x u)
 (hlo:lo=none/\lo'=none\/ ∃p v,lo=some p/\lo'=some v/\V G H.next p v) (hhi:hi=none/\hi'=none\/ ∃p v,hi=some p/\hi'=some v/\V G H.next p v)
 (h:Ba x lo hi=some q): ∃r,(Instr.sliceAt t u lo' hi' none).run P w= .ok r w/\V G H.next q r:=by
 cases hu with
 |str s=>
  simp only [Ba]at h;split at h
  · rename_i l hh hl Xj;split at h
    · rename_i hb;cases h;have Y5:=Cc hl hlo;have Y6:=Cc Xj hhi;have hsz:(⟨s.toArray⟩:ByteArray).size=s.length:=by simp [ByteArray.size]
      have hex:(⟨s.toArray⟩:ByteArray).extract l hh=⟨((s.take hh).drop l).toArray⟩:=by
       apply ByteArray.ext
       simp [ByteArray.data_extract,List.extract_eq_take_drop,List.drop_take]
      refine⟨.string ((⟨s.toArray⟩:ByteArray).extract l hh),?_,by rw [hex];exact .str _⟩;have hbd:=yG (P:=P) (w:=w) (ah:=false) (len:=s.length) (cap:=s.length) Y5 Y6 hb.1 hb.2;simp [Instr.sliceAt,Instr.slice,run_underlying ht,hsz,hbd]
    · cases h
  · cases h
 |_=>simp [Ba]at h
theorem Xk (hs:Sl G H.next σ a) {sz:Nat}: ∀{xs:List (Nat×Operand)} {az:List AE} {es:List (List PV)} (n:Nat),CS n xs=some az->Aa sz σ az=some es->
 es.length=xs.length/\ ∀i cs,es[i]? =some cs->cs.length=sz/\ ∃x,xs[i]? =some (n+i,x)/\Vs G H.next cs (a.eval x).cells
 |[],az,es,n,h,hb=>by
  simp [CS]at h;subst h;simp [Aa]at hb;subst hb;simp
 |(i,x)::xs,az,es,n,h,hb=>by
   unfold CS at h;split at h
   · rename_i hi;split at h
     · rename_i u r hu hr;cases h;unfold Aa at hb;split at hb
       · rename_i cs es' hc he;split at hb
         · rename_i hl;cases hb;obtain⟨h1,h2⟩:=Xk hs (n+1) hr he;refine⟨by simp [h1],fun k cs' e=> ?_⟩;cases k with
           |zero=>
            simp at e;subst e;exact⟨hl,x,by simp [hi],FB (fO hs hu) hc⟩
           |succ k=>
            simp at e;obtain⟨g1,y,g2,g3⟩:=h2 k cs' e;exact⟨g1,y,by simp [g2];omega,g3⟩
         · cases hb
       · cases hb
     · cases h
   · cases h
end
end Go.VL
end
section
namespace Go.VL
variable [Glob]
theorem QB (off:Nat): ∀(l:List Value) (s:Nat) (cells:Array Value),
 ((l.zipIdx s).foldl (fun cs (x:Value×Nat)=>cs.setIfInBounds (off+x.2) x.1) cells).size=cells.size/\
 ∀k,((l.zipIdx s).foldl (fun cs (x:Value×Nat)=>cs.setIfInBounds (off+x.2) x.1) cells)[k]? =
  if off+s<=k/\k<off+s+l.length/\k<cells.size then l[k -(off+s)]? else cells[k]?
 |[],s,cells=>⟨rfl,fun k=>by simp;intro h1 h2;omega⟩
 |v::l,s,cells=>by
  simp only [List.zipIdx_cons,m6];obtain⟨h1,h2⟩:=QB off l (s+1) (cells.setIfInBounds (off+s) v);refine⟨by rw [h1];simp,fun k=> ?_⟩;rw [h2 k];simp only [Array.size_setIfInBounds,I0];by_cases hk:k=off+s
  · subst hk;by_cases hlt:off+s<cells.size
    · rw [if_neg (by omega),if_pos (by omega)];simp [hlt]
    · rw [if_neg (by omega),if_neg (by omega)];simp [Nat.not_lt.1 hlt]
  · by_cases hc:off+(s+1)<=k/\k<off+(s+1)+l.length/\k<cells.size
    · rw [if_pos hc,if_pos (by omega)];rw [show k -(off+s)=(k -(off+(s+1)))+1 by omega];simp
    · rw [if_neg hc,if_neg (by omega)];rw [Array.getElem?_setIfInBounds_ne (by omega)]
theorem Ob (off:Nat) (vs cells:Array Value):
 (vs.zipIdx.foldl (fun cs (x:Value×Nat)=>cs.setIfInBounds (off+x.2) x.1) cells).size=cells.size/\
 ∀k,(vs.zipIdx.foldl (fun cs (x:Value×Nat)=>cs.setIfInBounds (off+x.2) x.1) cells)[k]? =
  if off<=k/\k<off+vs.size/\k<cells.size then vs[k -off]? else cells[k]? :=by
 rw [<-Array.foldl_toList];have h:=QB off vs.toList 0 cells;simp only [S4,RC,W4]at h;have e:vs.zipIdx.toList=vs.toList.zipIdx:=by simp
 rw [e];exact h
theorem Ro (size:Nat): ∀(l:List (Nat×Value)) (n:Nat) (cells:Array Value),(∀i x,l[i]? =some x->x.1=n+i/\x.2.cells.size=size)->(n+l.length)*size<=cells.size->
 ∃out,Instr.fill (fun i=>some (i*size,size)) cells l=some out/\out.size=cells.size/\
  ∀k,out[k]? =if n*size<=k/\k<(n+l.length)*size then(l[k/size -n]?).bind (fun x=>x.2.cells[k% size]?)else cells[k]?
 |[],n,cells,_,_=>⟨cells,rfl,rfl,fun k=>by simp;intro h1 h2;omega⟩
 |(i,v)::l,n,cells,h,hsz=>by
   obtain⟨h1,h2⟩:=h 0 (i,v) rfl;simp only [S4]at h1 h2;subst h1;have hs:(i+1)*size<=cells.size:=E1 (Z3 _ (by simp)) hsz;rw [C3,N6]at hs;obtain⟨s1,s2⟩:=Ob (i*size) v.cells cells
   obtain⟨out,h3,h4,h5⟩:=Ro size l (i+1) (v.cells.zipIdx.foldl (fun cs (x:Value×Nat)=>cs.setIfInBounds (i*size+x.2) x.1) cells)
    (fun j x e=>by have:=h (j+1) x (by simpa using e);exact⟨by omega,this.2⟩) (by rw [s1];refine E1 (Z3 _ ?_) hsz;simp;omega)
   refine⟨out,?_,by rw [h4,s1],fun k=> ?_⟩
   · simp only [Instr.fill];rw [if_neg (by simp [h2];omega)];exact h3
   · rw [h5 k];simp only [I0];by_cases hk:i*size<=k/\k<(i+(l.length+1))*size
     · rw [if_pos hk];have hpos:0<size:=by
        rcases uC size with h0|h0
        · subst h0;simp at hk
        · exact h0
       by_cases hk1:(i+1)*size<=k
       · rw [if_pos ⟨hk1,by rw [show i+1+l.length=i+(l.length+1) by omega];exact hk.2⟩];have:i+1<=k/size:=(Nat.le_div_iff_mul_le hpos).2 hk1;rw [show k/size -i=(k/size -(i+1))+1 by omega];simp
       · rw [if_neg (by intro hc;exact hk1 hc.1)];have hdiv:k/size=i:=by
            have h6:i<=k/size:=(Nat.le_div_iff_mul_le hpos).2 hk.1;have h7:k/size<i+1:=(b9 hpos).2 (by omega);omega
         have hkc:k<cells.size:=K0 hk.2 (by simpa using hsz);rw [s2 k,if_pos ⟨hk.1,by rw [h2];rw [C3,N6]at hk1;omega,hkc⟩];rw [hdiv,L5];simp only [N2,W0];congr 1;have:=VC k size;rw [hdiv,f7]at this;omega
     · rw [if_neg hk];have hk2: ¬((i+1)*size<=k/\k<(i+1+l.length)*size):=by
        intro hc;refine hk ⟨E1 (Z3 _ (by omega)) hc.1,?_⟩;rw [show i+(l.length+1)=i+1+l.length by omega];exact hc.2
       rw [if_neg hk2,s2 k,if_neg];rintro⟨c1,c2,_⟩;rw [h2]at c2;refine hk ⟨c1,K0 c2 ?_⟩;rw [show i+(l.length+1)=(i+1)+l.length by omega,C3,C3,N6];omega
section
variable {P:Program} {B:Nat->Prop} {G:Gh} {H:AH} {σ:Nat->PV} {a:Act} {w:World}
theorem HM.newF (hU:Up B w) (hM:HM B H G w) (arr:Array Value) (t:TypeId) (fr:Nat×Nat:=(0,0)):
 ∃G',Ext B H.next G G'/\HM B H G' (w.alloc (.cells arr t fr))/\ ∀j x,arr[j]? =some x->G'.F ⟨w.heap.size,j,none⟩=some x:=by
 have hnone: ∀(a:Addr),w.heap.size<=a.block->G.F a=none:=fun a ha=>by
  rcases mA (G.F a)with h|⟨x,hx⟩
  · exact h
  · have:=World.block_lt_of_cell? w a (hM.su _ _ hx);omega
 have hlt: ∀b arr t fr,w.heap[b]? =some (.cells arr t fr)->b<w.heap.size:=fun b arr t fr e=>by
  rcases D1 b w.heap.size with h'|h'
  · exact h'
  · rw [f9 h']at e;cases e
 let G':Gh:={G with F:=fun a=>if a.block=w.heap.size/\a.spot=none then arr[a.off]? else G.F a}
 have hE1: ∀a x,G.F a=some x->G'.F a=some x:=by
  intro a x e;show(if a.block=w.heap.size/\a.spot=none then arr[a.off]? else G.F a)=some x;rw [if_neg]
  · exact e
  · rintro⟨h1,_⟩;rw [hnone a (by omega)]at e;cases e
 have hE2: ∀a,G.F a=none->G'.F a≠none->B a.block:=by
  intro a e1 e2;by_cases h:a.block=w.heap.size/\a.spot=none
  · exact hU _ (by omega)
  · exact absurd (by show(if a.block=w.heap.size/\a.spot=none then arr[a.off]? else G.F a)=none;rw [if_neg h];exact e1) e2
 have hE:Ext B H.next G G':=⟨hE1,fun _ _=>rfl,fun _ _=>rfl,hE2⟩;have hold: ∀b off,b<w.heap.size->G.F ⟨b,off,none⟩=none->G'.F ⟨b,off,none⟩=none:=fun b off hb e=>by
  show(if b=w.heap.size/\(none:Option Nat)=none then arr[off]? else G.F ⟨b,off,none⟩)=none
  rw [if_neg (by omega)];exact e
 refine⟨G',hE,⟨hM.glob.mono hE.F,fun a x e=> ?_,fun id cs e=> ?_,hM.inj,fun k e=> ?_,hM.sS,hM.tobj,hM.wh.keep fun b _ hb=>heap_alloc_old w _ b hb⟩,fun j x e=> ?_⟩
 · have e':(if a.block=w.heap.size/\a.spot=none then arr[a.off]? else G.F a)=some x:=e;by_cases h:a.block=w.heap.size/\a.spot=none
   · rw [if_pos h]at e';obtain⟨b,o,s⟩:=a;obtain⟨rfl,rfl⟩:=h;exact(wY (heap_alloc_new w _) o).trans e'
   · rw [if_neg h]at e';have hc:=hM.su a x e';rw [World.cell?_alloc_lt w _ a (World.block_lt_of_cell? w a hc)];exact hc
 · obtain⟨k0,b,ar,t',k1,k2,k3,k4,k5⟩:=hM.obj id cs e;have hb:=hlt _ _ _ _ k3;exact⟨k0,b,ar,t',k1,k2,by rw [heap_alloc_old w _ b hb];exact k3,k4.mono hE (R0 _),fun off=>hold b off hb (k5 off)⟩
 · obtain⟨k0,b,o,ar,t',k1,k2,k3,k5⟩:=hM.tok k e;have hb:=hlt _ _ _ _ k3;exact⟨k0,b,o,ar,t',k1,k2,by rw [heap_alloc_old w _ b hb];exact k3,fun off ho=>hold b off hb (k5 off ho)⟩
 · show(if w.heap.size=w.heap.size/\(none:Option Nat)=none then arr[j]? else G.F ⟨w.heap.size,j,none⟩)=some x
   rw [if_pos ⟨rfl,rfl⟩];exact e
theorem Tr.alloc (w:World) (o:Obj):Tr B w (w.alloc o):=
 ⟨by simp,fun b hb _=>heap_alloc_old w o b hb,rfl,rfl,rfl,fun b x e _=>(heap_alloc_old w o b (Z2.1 e).1).trans e⟩
theorem amK (hs:Sl G H.next σ a) (hU:Up B w) (hM:HM B H G w) {t e:TypeId} {sz n:Nat} {z:List PV} {parts:Array (Nat×Operand)} {az:List AE} {es:List (List PV)} (ht:P.underlying t=some (.slice e))
 (hsz:sizeT P e=some sz) (hz:mY P e=some z) (hp:CS 0 parts.toList=some az) (hn:az.length=n) (hle:n*sz<=65536) (hpos:0<sz) (hb:Aa sz σ az=some es):
 ∃out:Array Value,(Instr.buildSlice t n (parts.map fun(i,x)=>(i,a.eval x))).run P w= .ok (.slice (some ⟨w.heap.size,0,none⟩) n n) (w.alloc (.cells out e))/\out.size=n*sz/\es.length=n/\ ∀i j,i<n->j<sz-> ∃cs x,es[i]? =some cs/\cs.length=sz/\out[i*sz+j]? =some x/\ ∀c,cs[j]? =some c->V G H.next c x:=by
 have abz:az.length=parts.toList.length:=by
  have: ∀(n:Nat) (xs:List (Nat×Operand)) (az:List AE),CS n xs=some az->az.length=xs.length:=by
   intro n xs
   induction xs generalizing n with
   |nil=>intro az h;simp [CS]at h;subst h;rfl
   |cons x xs ih=>
    intro az h;unfold CS at h;split at h
    · split at h
      · rename_i hr;cases h;simp [ih _ _ hr]
      · cases h
    · cases h
  exact this 0 _ _ hp
 obtain⟨h1,h2⟩:=Xk hs 0 hp hb;obtain⟨ti,zv,hi,hzv,hzs⟩: ∃ti zv,P.info? e=some ti/\ti.zero=some zv/\zv.cells.size=ti.size:=by
  unfold mY at hz;split at hz
  · rename_i ti hi;split at hz
    · rename_i zv hzv;split at hz
      · rename_i hh;exact⟨ti,zv,hi,hzv,hh⟩
      · cases hz
    · cases hz
  · cases hz
 have hts:ti.size=sz:=by simpa [sizeT,hi]using hsz
 let L:List (Nat×Value):=parts.toList.map fun x=>(x.1,a.eval x.2)
 have U7:L.length=n:=by simp [L];simp at abz;omega
 have hL: ∀i x,L[i]? =some x->x.1=0+i/\x.2.cells.size=sz/\ ∃cs,es[i]? =some cs/\cs.length=sz/\Vs G H.next cs x.2.cells:=by
  intro i x e;have hlt:i<es.length:=by
   rw [h1];rcases D1 i parts.toList.length with h'|h'
   · exact h'
   · rw [R1 (by simpa [L]using h')]at e;cases e
  obtain⟨g1,y,g2,g3⟩:=h2 i es[i] (by simp);simp only [L,J0,g2,X2,L1]at e;subst e;exact⟨by simp,by rw [g3.1];exact g1,es[i],by simp,g1,g3⟩
 let init:Array Value:=(Array.range (n*sz)).map (fun j=>zv.cells[j% zv.cells.size]!)
 obtain⟨out,o1,o2,o3⟩:=Ro sz L 0 init (fun i x e=>⟨(hL i x e).1,(hL i x e).2.1⟩) (by simp [init,U7]);have avo:out.size=n*sz:=by rw [o2];simp [init]
 have hrun:(Instr.buildSlice t n (parts.map fun(i,x)=>(i,a.eval x))).run P w= .ok (.slice (some ⟨w.heap.size,0,none⟩) n n) (w.alloc (.cells out e)):=by
  have hL':(parts.map fun(i,x)=>(i,a.eval x)).toList=L:=by simp [L]
  have hbig: ¬(n*sz>2^24):=by omega
  by_cases h0:n*sz=0
  · have hinit:init=#[]:=by simp [init,h0]
    rw [hinit]at o1;simp only [Instr.buildSlice,Sem.run_bind,run_underlying ht,Result.andThen_ok,gU hsz];simp only [h0,hL',show Array.range 0=#[]from rfl];simp [newRow,o1]
  · simp only [Instr.buildSlice,Sem.run_bind,run_underlying ht,Result.andThen_ok,gU hsz];rw [if_neg hbig];simp only [h0,L2,hL',zeroValue,typeInfo,hi,hzv,Sem.run_bind,Sem.run_pure,Result.andThen_ok,run_program];have o1':Instr.fill (fun i=>some (i*sz,sz)) ((Array.range (n*sz)).map (fun j=>zv.cells[j% zv.cells.size]!)) L=some out:=o1;simp [o1',newRow]
 have hes:es.length=n:=by rw [h1];simp at abz⊢;omega
 refine⟨out,hrun,avo,hes,fun i j hi' hj=> ?_⟩;have hlt:i<L.length:=by omega
 obtain⟨q1,q2,cs,q3,q4,q5⟩:=hL i L[i] (by simp);have hdiv:(i*sz+j)/sz=i:=by
  rw [f7,Nat.mul_add_div hpos,BB hj];omega
 have hmod:(i*sz+j)% sz=j:=by
  rw [f7,Nat.mul_add_mod,DA hj]
 have hlt2:i*sz+j<(0+L.length)*sz:=by
  rw [U7,V1];have:(i+1)*sz<=n*sz:=Z3 _ hi';rw [C3,N6]at this;omega
 have hc:out[i*sz+j]? =L[i].2.cells[j]? :=by
  rw [o3,if_pos ⟨by omega,hlt2⟩,hdiv,hmod,Nat.sub_zero,show L[i]? =some L[i] by simp];rfl
 have hjs:j<L[i].2.cells.size:=by rw [q2];exact hj
 refine⟨cs,L[i].2.cells[j],q3,q4,by rw [hc];simp [hjs],fun c ec=>q5.2 j c _ ec (by simp [hjs])⟩
theorem asT (hs:Sl G H.next σ a) (hU:Up B w) (hM:HM B H G w) {t e:TypeId} {sz n:Nat} {z:List PV} {parts:Array (Nat×Operand)} {az:List AE} {es:List (List PV)} (ht:P.underlying t=some (.slice e))
 (hsz:sizeT P e=some sz) (hz:mY P e=some z) (hp:CS 0 parts.toList=some az) (hn:az.length=n) (hle:n*sz<=65536) (hpos:0<sz) (hb:Aa sz σ az=some es):
 ∃x w' G',(Instr.buildSlice t n (parts.map fun(i,x)=>(i,a.eval x))).run P w= .ok x w'/\Tr B w w'/\Ext B H.next G G'/\HM B H G' w'/\V G' H.next (.ah es .exact) x:=by
 have abz:az.length=parts.toList.length:=by
  have: ∀(n:Nat) (xs:List (Nat×Operand)) (az:List AE),CS n xs=some az->az.length=xs.length:=by
   intro n xs
   induction xs generalizing n with
   |nil=>intro az h;simp [CS]at h;subst h;rfl
   |cons x xs ih=>
    intro az h;unfold CS at h;split at h
    · split at h
      · rename_i hr;cases h;simp [ih _ _ hr]
      · cases h
    · cases h
  exact this 0 _ _ hp
 obtain⟨h1,h2⟩:=Xk hs 0 hp hb;obtain⟨ti,zv,hi,hzv,hzs⟩: ∃ti zv,P.info? e=some ti/\ti.zero=some zv/\zv.cells.size=ti.size:=by
  unfold mY at hz;split at hz
  · rename_i ti hi;split at hz
    · rename_i zv hzv;split at hz
      · rename_i hh;exact⟨ti,zv,hi,hzv,hh⟩
      · cases hz
    · cases hz
  · cases hz
 have hts:ti.size=sz:=by simpa [sizeT,hi]using hsz
 let L:List (Nat×Value):=parts.toList.map fun x=>(x.1,a.eval x.2)
 have U7:L.length=n:=by simp [L];simp at abz;omega
 have hL: ∀i x,L[i]? =some x->x.1=0+i/\x.2.cells.size=sz/\ ∃cs,es[i]? =some cs/\cs.length=sz/\Vs G H.next cs x.2.cells:=by
  intro i x e;have hlt:i<es.length:=by
   rw [h1];rcases D1 i parts.toList.length with h'|h'
   · exact h'
   · rw [R1 (by simpa [L]using h')]at e;cases e
  obtain⟨g1,y,g2,g3⟩:=h2 i es[i] (by simp);simp only [L,J0,g2,X2,L1]at e;subst e;exact⟨by simp,by rw [g3.1];exact g1,es[i],by simp,g1,g3⟩
 let init:Array Value:=(Array.range (n*sz)).map (fun j=>zv.cells[j% zv.cells.size]!)
 obtain⟨out,o1,o2,o3⟩:=Ro sz L 0 init (fun i x e=>⟨(hL i x e).1,(hL i x e).2.1⟩) (by simp [init,U7]);have avo:out.size=n*sz:=by rw [o2];simp [init]
 have hrun:(Instr.buildSlice t n (parts.map fun(i,x)=>(i,a.eval x))).run P w= .ok (.slice (some ⟨w.heap.size,0,none⟩) n n) (w.alloc (.cells out e)):=by
  have hL':(parts.map fun(i,x)=>(i,a.eval x)).toList=L:=by simp [L]
  have hbig: ¬(n*sz>2^24):=by omega
  by_cases h0:n*sz=0
  · have hinit:init=#[]:=by simp [init,h0]
    rw [hinit]at o1;simp only [Instr.buildSlice,Sem.run_bind,run_underlying ht,Result.andThen_ok,gU hsz];simp only [h0,hL',show Array.range 0=#[]from rfl];simp [newRow,o1]
  · simp only [Instr.buildSlice,Sem.run_bind,run_underlying ht,Result.andThen_ok,gU hsz];rw [if_neg hbig];simp only [h0,L2,hL',zeroValue,typeInfo,hi,hzv,Sem.run_bind,Sem.run_pure,Result.andThen_ok,run_program];have o1':Instr.fill (fun i=>some (i*sz,sz)) ((Array.range (n*sz)).map (fun j=>zv.cells[j% zv.cells.size]!)) L=some out:=o1;simp [o1',newRow]
 obtain⟨G',e1,e2,e3⟩:=HM.newF hU hM out e;refine⟨_,_,G',hrun,Tr.alloc w _,e1,e2,?_⟩;have hes:es.length=n:=by rw [h1];simp at abz⊢;omega
 have hcell: ∀i j,i<n->j<sz-> ∀x,L[i]? =some x->out[i*sz+j]? =x.2.cells[j]? :=by
  intro i j hi' hj x hx;have hdiv:(i*sz+j)/sz=i:=by
   rw [f7,Nat.mul_add_div hpos,BB hj];omega
  have hmod:(i*sz+j)% sz=j:=by
   rw [f7,Nat.mul_add_mod,DA hj]
  have hlt:i*sz+j<(0+L.length)*sz:=by
   rw [U7,V1];have:(i+1)*sz<=n*sz:=Z3 _ hi';rw [C3,N6]at this;omega
  rw [o3,if_pos ⟨by omega,hlt⟩,hdiv,hmod,Nat.sub_zero,hx];rfl
 have key:=V.ah (G:=G') (n:=H.next) es .exact sz (some ⟨w.heap.size,0,none⟩) n (fun i j=>out[i*sz+j]?.getD default) (fun i cs e=>(h2 i cs e).1) (by omega)
  (fun _=>⟨w.heap.size,0,rfl,fun i cs e j c ec=>by
   obtain⟨g1,y,g2,g3⟩:=h2 i cs e;have hi':i<n:=by
    rcases D1 i es.length with h'|h'
    · omega
    · rw [R1 h']at e;cases e
   have hj:j<sz:=by
    rcases D1 j cs.length with h'|h'
    · omega
    · rw [R1 h']at ec;cases ec
   have hx:L[i]? =some (0+i,a.eval y):=by simp [L,g2]
   have hc:=hcell i j hi' hj _ hx;have hjs:j<(a.eval y).cells.size:=by rw [g3.1];omega
   have hsome:out[i*sz+j]? =some ((a.eval y).cells[j]):=by rw [hc];simp [hjs]
   rw [V1];show G'.F ⟨w.heap.size,i*sz+j,none⟩=some (out[i*sz+j]?.getD default);rw [hsome];exact e3 _ _ hsome⟩)
  (fun i cs j c e ec=>by
   obtain⟨g1,y,g2,g3⟩:=h2 i cs e;have hi':i<n:=by
    rcases D1 i es.length with h'|h'
    · omega
    · rw [R1 h']at e;cases e
   have hj:j<sz:=by
    rcases D1 j cs.length with h'|h'
    · omega
    · rw [R1 h']at ec;cases ec
   have hx:L[i]? =some (0+i,a.eval y):=by simp [L,g2]
   have hc:=hcell i j hi' hj _ hx;have hjs:j<(a.eval y).cells.size:=by rw [g3.1];omega
   have hsome:out[i*sz+j]? =some ((a.eval y).cells[j]):=by rw [hc];simp [hjs]
   show V G' H.next c (out[i*sz+j]?.getD default)
   rw [hsome];exact(g3.2 j c _ ec (by simp [hjs])).mono e1 (R0 _))
  (by show n=es.length;omega)
 rw [hes]at key;exact key
end
end Go.VL
end
section
namespace Go.VL
variable [Glob]
theorem CW {cs vs:List PV} {o:Nat} (h:o+vs.length<=cs.length):(putCells cs o vs).length=cs.length:=by
 simp [putCells];omega
theorem Io {cs vs:List PV} {o:Nat} (h:o+vs.length<=cs.length) (j:Nat):(putCells cs o vs)[j]? =if o<=j/\j<o+vs.length then vs[j -o]? else cs[j]? :=by
 unfold putCells;by_cases h1:j<o
 · rw [if_neg (by omega),T1,C0 (by simp;omega),D3 h1]
 · by_cases h2:j<o+vs.length
   · rw [if_pos ⟨by omega,h2⟩,T1,N0 (by simp;omega),C0 (by simp;omega)];congr 1;simp;omega
   · rw [if_neg (by omega),N0 (by simp;omega),Q3];congr 1;simp;omega
section
variable {P:Program} {B:Nat->Prop} {G:Gh} {H:AH} {σ:Nat->PV} {a:Act} {w:World}
theorem Vs.put {n:Nat} {cs vs:List PV} {arr us:Array Value} {o:Nat} (h:Vs G n cs arr) (h':Vs G n vs us) (hle:o+vs.length<=cs.length):
 Vs G n (putCells cs o vs) (us.zipIdx.foldl (fun cs (x:Value×Nat)=>cs.setIfInBounds (o+x.2) x.1) arr):=by
 obtain⟨s1,s2⟩:=Ob o us arr;refine⟨by rw [s1,CW hle];exact h.1,fun j c x e e'=> ?_⟩;rw [Io hle]at e;rw [s2]at e';have:=h.1;have:=h'.1;by_cases hj:o<=j/\j<o+vs.length
 · rw [if_pos hj]at e;rw [if_pos (by omega)]at e';exact h'.2 _ _ _ e e'
 · rw [if_neg hj]at e;rw [if_neg (by omega)]at e';exact h.2 _ _ _ e e'
theorem Y7 (hs:Sl G H.next σ a) {fs:Array Field} {places:Array (Nat×Nat)} (hp: ∀(i:Nat) (f:Field) (s:Nat),fs[i]? =some f->sizeT P f.type=some s->places[i]? =some (f.offset,s)):
 ∀{xs:List (Nat×Operand)} {az:List (Nat×Nat×AE)} {cs out:List PV} {arr:Array Value},KV P fs xs=some az->kU σ cs az=some out->Vs G H.next cs arr->
  ∃arr',Instr.fill (fun i=>places[i]?) arr (xs.map fun x=>(x.1,a.eval x.2))=some arr'/\Vs G H.next out arr'
 |[],az,cs,out,arr,h,hb,hv=>by
  simp [KV]at h;subst h;simp [kU]at hb;subst hb;exact⟨arr,rfl,hv⟩
 |(i,x)::xs,az,cs,out,arr,h,hb,hv=>by
   unfold KV at h;split at h
   · rename_i f u r hf hu hr;simp only [Z1]at h;obtain⟨s,hsz,rfl⟩:=h;unfold kU at hb;split at hb
     · rename_i vs hvs;split at hb
       · rename_i hc;obtain⟨hc1,hc2⟩:=hc;have hV:=FB (fO hs hu) hvs;obtain⟨arr',e1,e2⟩:=Y7 hs hp hr hb (hv.put hV (by omega));refine⟨arr',?_,e2⟩;simp only [M3,Instr.fill,hp i f s hf hsz];have h1:=hV.1;have h2:=hv.1;rw [if_neg (by simp;omega)];exact e1
       · cases hb
     · cases hb
   · cases h
theorem afg {fs:List Field} (h: ∀f∈fs,∃s,sizeT P f.type=some s): ∃l:List (Nat×Nat),
 (fs.mapM (fun f=>do pure (f.offset,<-sizeOf f.type):Field->Sem (Nat×Nat))).run P w= .ok l w/\ ∀(i:Nat) (f:Field) (s:Nat),fs[i]? =some f->sizeT P f.type=some s->l[i]? =some (f.offset,s):=by
 induction fs with
 |nil=>exact⟨[],by simp,by simp⟩
 |cons f fs ih=>
  obtain⟨s,hs⟩:=h f (by simp);obtain⟨l,h1,h2⟩:=ih (fun g hg=>h g (by simp [hg]));refine⟨(f.offset,s)::l,?_,fun i g s' e e'=> ?_⟩
  · simp only [List.mapM_cons,Sem.run_bind,gU hs,Result.andThen_ok,Sem.run_pure,h1]
  · cases i with
    |zero=>simp at e;subst e;rw [hs]at e';cases e';rfl
    |succ i=>simp at e;simpa using h2 i g s' e e'
theorem Ce {t:TypeId} {z:List PV} (h:mY P t=some z): ∃ti zv,P.info? t=some ti/\ti.zero=some zv/\zv.cells.size=ti.size/\Vs G H.next z zv.cells/\z.length=ti.size:=by
 unfold mY at h;split at h
 · rename_i ti hi;split at h
   · rename_i zv hzv;split at h
     · rename_i hh;obtain⟨h1,h2⟩:=ajT (G:=G) (n:=H.next) h;exact⟨ti,zv,hi,hzv,hh,⟨by simp at h1;omega,fun j c x e e'=>h2 j c x e (by simpa using e')⟩,by simp at h1;omega⟩
     · cases h
   · cases h
 · cases h
theorem ajW (hs:Sl G H.next σ a) {t:TypeId} {fs:Array Field} {z:List PV} {parts:Array (Nat×Operand)} {az:List (Nat×Nat×AE)} {out:List PV} (ht:P.underlying t=some (.struct fs)) (hz:mY P t=some z)
 (hall:(fs.toList.all fun f=>(sizeT P f.type).isSome)=true) (hp:KV P fs parts.toList=some az) (hb:kU σ z az=some out):
 ∃x,(Instr.build t (parts.map fun(i,x)=>(i,a.eval x))).run P w= .ok x w/\V G H.next (.agg out) x:=by
 obtain⟨ti,zv,hi,hzv,hzs,Cg,_⟩:=Ce (P:=P) (G:=G) (H:=H) hz;obtain⟨l,h1,h2⟩:=afg (P:=P) (w:=w) (fs:=fs.toList) (fun f hf=>by
  have:=S3.1 hall f hf;exact L7.1 this)
 have hpl: ∀(i:Nat) (f:Field) (s:Nat),fs[i]? =some f->sizeT P f.type=some s->l.toArray[i]? =some (f.offset,s):=fun i f s e e'=>by
  have:=h2 i f s (by simpa using e) e';simpa using this
 obtain⟨arr',e1,e2⟩:=Y7 hs hpl hp hb Cg;refine⟨.agg arr',?_,.agg _ _ e2.1 e2.2⟩;have hmap:(fs.mapM (fun f=>do pure (f.offset,<-sizeOf f.type):Field->Sem (Nat×Nat))).run P w= .ok l.toArray w:=by
  rw [Array.mapM_eq_mapM_toList,Sem.run_map,h1];rfl
 have hL':(parts.map fun(i,x)=>(i,a.eval x)).toList=parts.toList.map fun x=>(x.1,a.eval x.2):=by simp
 simp only [Instr.build,zeroValue,typeInfo,Sem.run_bind,run_program,Result.andThen_ok,hi,hzv,Sem.run_pure,run_underlying ht,hmap,hL'];rw [e1];rfl
theorem Oc {x:Option Operand} {e:Option AE} (h:N7 x=some e) (hs:Sl G H.next σ a):
 (e.map (·.ev σ))=none/\(x.map a.eval)=none\/ ∃p v,(e.map (·.ev σ))=some p/\(x.map a.eval)=some v/\V G H.next p v:=by
 rcases avl hs h with⟨rfl,rfl⟩|⟨y,f,rfl,rfl,hV⟩
 · exact .inl ⟨rfl,rfl⟩
 · exact .inr ⟨_,_,rfl,rfl,hV⟩
def iQ (P:Program) (B:Nat->Prop) (G:Gh) (H:AH) (w:World) (s:Sem Next) (p:PV):Prop:=
 ∃x w' G',s.run P w= .ok (.value x) w'/\Tr B w w'/\Ext B H.next G G'/\HM B H G' w'/\V G' H.next p x
theorem iQ.same (hM:HM B H G w) {s:Sem Next} {p:PV} {x:Value} (h:s.run P w= .ok (.value x) w) (hV:V G H.next p x):iQ P B G H w s p:=
 ⟨x,w,G,h,Tr.refl B w,Ext.refl B _ G,hM,hV⟩
theorem iQ.of_run (hM:HM B H G w) {s:Sem Value} {p:PV} (h: ∃x,s.run P w= .ok x w/\V G H.next p x):iQ P B G H w (do pure (.value (<-s))) p:=by
 obtain⟨x,h1,h2⟩:=h;exact iQ.same hM (by simp [h1]) h2
theorem ajX {t ty e:TypeId} {x q:PV} {u:Value} (he:P.underlying t=some (.slice e)) (hu:V G H.next x u) (h:z8 x=some q):
 ∃r,(Builtin.len_ #[t] ty #[u]).run P w= .ok r w/\V G H.next q r:=by
 cases hu with
 |ah es c s ad cap f h1 h2 h3 h4 h5=>
  simp only [z8,L1]at h;subst h;exact⟨.int .i64 es.length,by simp [Builtin.len_,run_underlying he];rfl,.int _ _⟩
 |bP id off len cap s b h1 h2=>
  simp only [z8,L1]at h;subst h;exact⟨.int .i64 len,by simp [Builtin.len_,run_underlying he];rfl,.int _ _⟩
 |_=>simp [z8]at h
theorem ajY {t ty e:TypeId} {x q:PV} {u:Value} (he:P.underlying t=some (.slice e)) (hu:V G H.next x u) (h:rop (.cap (.c x)) σ H=some q):
 ∃r,(Builtin.cap_ #[t] ty #[u]).run P w= .ok r w/\V G H.next q r:=by
 simp only [rop,AE.ev]at h;cases hu with
 |ah es c s ad cap f h1 h2 h3 h4 h5=>
  cases c with
  |nil=>
   obtain⟨rfl,e2,rfl⟩:=h5;simp only [L1]at h;subst h;exact⟨.int .i64 es.length,by simp [Builtin.cap_,run_underlying he,e2];rfl,.int _ _⟩
  |exact=>
   have:cap=es.length:=h5;subst this;simp only [L1]at h;subst h;exact⟨.int .i64 es.length,by simp [Builtin.cap_,run_underlying he];rfl,.int _ _⟩
  |unk=>simp at h
  |tok k=>simp at h
 |bP id off len cap s b h1 h2=>
  simp only [L1]at h;subst h;exact⟨.int .i64 cap,by simp [Builtin.cap_,run_underlying he];rfl,.int _ _⟩
 |_=>simp at h
theorem amL {t:TypeId} {fs:Array Field} {i:Nat} {fd:Field} {s:Nat} {cs:List PV} {q:PV} {u:Value} (ht:P.underlying t=some (.struct fs)) (hf:fs[i]? =some fd) (hsz:sizeT P fd.type=some s)
 (hsu:(P.underlying fd.type).isSome) (hu:V G H.next (.agg cs) u) (h:zZ s (Ew P fd.type) cs fd.offset=some q): ∃r,(Instr.field t u i).run P w= .ok r w/\V G H.next q r:=by
 cases hu with
 |agg _ vs h1 h2=>
  unfold zZ at h;by_cases hg:Ew P fd.type=true
  · rw [if_pos hg]at h;split at h
    · rename_i hle;cases h;refine⟨.agg (vs.extract fd.offset (fd.offset+s)),by simp [Instr.field,run_underlying ht,hf,asAgg,part,Im hsu,hg,gU hsz],.agg _ _ (by simp;omega) fun j c x e e'=> ?_⟩;have hj:j<s:=by
       rcases D1 j s with h'|h'
       · exact h'
       · rw [R1 (by simp;omega)]at e;cases e
      rw [D3 hj,Q3]at e;rw [Array.getElem?_extract]at e';split at e'
      · exact h2 _ _ _ e e'
      · cases e'
    · cases h
  · rw [if_neg hg]at h;have hg':Ew P fd.type=false:=by simpa using hg
    have hlt:fd.offset<vs.size:=by
     rw [h1];rcases D1 fd.offset cs.length with h'|h'
     · exact h'
     · rw [R1 h']at h;cases h
    exact⟨vs[fd.offset],by simp [Instr.field,run_underlying ht,hf,asAgg,part,Im hsu,hg',A3 hlt],h2 _ _ _ h (by simp)⟩
theorem afh {t:TypeId} {fs:Array Field} {i:Nat} {fd:Field} {p q:PV} {u:Value} (ht:P.underlying t=some (.struct fs)) (hf:fs[i]? =some fd) (hsz: ¬(sizeT P fd.type=some 0\/sizeT P fd.type=none))
 (hu:V G H.next p u) (h:Gz fd.offset p=some q): ∃r,(Instr.fieldAt t u i).run P w= .ok r w/\V G H.next q r:=by
 obtain⟨b,o,rfl,hV⟩:=agn hu h;obtain⟨s,hs⟩: ∃s,sizeT P fd.type=some s:=by
  cases hq:sizeT P fd.type with
  |none=>exact absurd (.inr hq) hsz
  |some s=>exact⟨s,rfl⟩
 have hs0:s≠0:=fun e=>hsz (.inl (by rw [hs,e]));exact⟨_,by simp [Instr.fieldAt,run_underlying ht,hf,Instr.sureAddr,fieldPlace,gU hs,hs0,add_lit],hV⟩
theorem afi {t e:TypeId} {sz:Nat} {x i q:PV} {u v:Value} (ht:P.underlying t=some (.slice e)) (hsz:sizeT P e=some sz) (hu:V G H.next x u) (hv:V G H.next i v) (h:jS sz x i=some q):
 ∃r,(Instr.indexAt t u v).run P w= .ok r w/\V G H.next q r:=by
 obtain⟨b,o,len,cap,k,n,rfl,rfl,h0,h1,hV⟩:=asR hu hv h;exact⟨_,by simp [Instr.indexAt,asIntOf,run_underlying ht,h0,h1,gU hsz,add_lit],hV⟩
theorem abA {t e:TypeId} {n sz:Nat} {x q:PV} {k:IntKind} {j:Int} {u:Value} (ht:P.underlying t=some (.array n e)) (hsz:sizeT P e=some sz) (hu:V G H.next x u) (h0:0<=j) (h1:j<n) (h:Gz (j.toNat*sz) x=some q):
 ∃r,(Instr.indexAt t u (.int k j)).run P w= .ok r w/\V G H.next q r:=by
 obtain⟨b,o,rfl,hV⟩:=agn hu h;exact⟨_,by simp [Instr.indexAt,asIntOf,run_underlying ht,Instr.sureAddr,h0,h1,gU hsz,add_lit],hV⟩
end
end Go.VL
end
section
namespace Go.VL
variable [Glob]
section
variable {P:Program} {B:Nat->Prop} {G:Gh} {H:AH} {σ:Nat->PV} {a:Act} {w:World}
theorem ajZ {o:Oper} {k:RK} {p:PV} (hc:iC P o= .r k) (hs:Sl G H.next σ a) (hU:Up B w) (hM:HM B H G w) (hr:rop k σ H=some p):iQ P B G H w (execOp a.eval o) p:=by
 obtain⟨dst,op,ty,pos,after,guard⟩:=o;unfold iC at hc;split at hc
 · rename_i x hx;simp only at hx;subst hx;split at hc
   · rename_i e he;cases hc;simp only [rop,L1]at hr;subst hr;exact iQ.same hM rfl (fO hs he)
   · cases hc
 · rename_i x hx;simp only at hx;subst hx;split at hc
   · rename_i e he;cases hc;simp only [rop,L1]at hr;subst hr;exact iQ.same hM rfl (fO hs he)
   · cases hc
 · rename_i c x y hx;simp only at hx;subst hx;split at hc
   · rename_i e1 e2 e3 h1 h2 h3;cases hc;simp only [rop]at hr;split at hr
     · rename_i t ht;cases hr;have hV:=fO hs h1;rw [ht]at hV;generalize hv:a.eval c=v at hV;cases hV;refine iQ.same hM (x:=if t then a.eval x else a.eval y) (by simp [execOp,hv,asBool]) ?_;cases t
       · exact fO hs h3
       · exact fO hs h2
     · cases hr
   · cases hc
 · split at hc<;>cases hc
 · split at hc<;>cases hc
 · rename_i t parts hx;simp only at hx;subst hx;split at hc
   · rename_i fs z hf hz;split at hc
     · rename_i hall;split at hc
       · rename_i ps hp;cases hc;simp only [rop,Z1]at hr;obtain⟨out,ho,rfl⟩:=hr;exact iQ.of_run hM (ajW hs hf hz hall hp ho)
       · cases hc
     · cases hc
   · cases hc
 · rename_i t n parts hx;simp only at hx;subst hx;split at hc
   · rename_i e ht;split at hc
     · rename_i s z ps hsz hz hp;split at hc
       · rename_i hcond;cases hc;simp only [rop,Z1]at hr;obtain⟨es,ho,rfl⟩:=hr;obtain⟨x,w',G',h1,h2,h3,h4,h5⟩:=asT hs hU hM ht hsz hz hp hcond.1 hcond.2.1 hcond.2.2 ho;exact⟨x,w',G',by simp [execOp,h1],h2,h3,h4,h5.KS⟩
       · cases hc
     · cases hc
   · cases hc
 · rename_i t x hx;simp only at hx;subst hx;split at hc
   · rename_i d e s hd he hsz;cases hc;simp only [rop]at hr;exact iQ.of_run hM (U4 hM hsz (by simp [hd]) (fO hs he) hr)
   · cases hc
 · split at hc<;>cases hc
 · rename_i x hx;simp only at hx;subst hx;split at hc
   · rename_i e he;cases hc;have hV:=fO hs he;simp only [rop]at hr;split at hr
     · rename_i id off hq;cases hr;rw [hq]at hV;generalize hv:a.eval x=v at hV;cases hV with
       |ref _ _ b h1 h2=>exact iQ.same hM (by simp [execOp,hv]) (.ref id off b h1 h2)
     · rename_i cs off hq;cases hr;rw [hq]at hV;generalize hv:a.eval x=v at hV;cases hV with
       |cK _ _ b o f h1 h2=>exact iQ.same hM (by simp [execOp,hv]) (.cK cs off b o f h1 h2)
     · cases hr
   · cases hc
 · rename_i op t x y yt hx;simp only at hx;subst hx;split at hc
   · rename_i e1 e2 h1 h2;cases hc;simp only [rop]at hr;exact iQ.of_run hM (ajU x y (fO hs h1) (fO hs h2) hr)
   · cases hc
 · rename_i op t x hx;simp only at hx;subst hx;split at hc
   · rename_i e he;cases hc;have hV:=fO hs he;simp only [rop]at hr;split at hr
     · rename_i b hq;cases hr;rw [hq]at hV;generalize hv:a.eval x=v at hV;cases hV;exact iQ.same hM (by simp [execOp,hv,Op.unary]) (.bool _)
     · cases hr
   · rename_i e he;cases hc;have hV:=fO hs he;simp only [rop]at hr;split at hr
     · rename_i k n hq;cases hr;rw [hq]at hV;generalize hv:a.eval x=v at hV;cases hV;exact iQ.same hM (by simp [execOp,hv,Op.unary,Op.intArith]) (.int _ _)
     · cases hr
   · rename_i e he;cases hc;have hV:=fO hs he;simp only [rop]at hr;split at hr
     · rename_i k n hq;rw [hq]at hV;generalize hv:a.eval x=v at hV;cases hV;simp only [KT,L1]at hr;subst hr;exact iQ.same hM (by simp only [execOp,hv,Op.unary,Op.intBits];simp) (.int _ _)
     · cases hr
   · cases hc
 · rename_i src dst x hx;simp only at hx;subst hx;split at hc
   · rename_i k0 k e hsrc hdst he;cases hc;have hV:=fO hs he;simp only [rop]at hr;split at hr
     · rename_i k1 n hq;cases hr;rw [hq]at hV;generalize hv:a.eval x=v at hV;cases hV;exact iQ.same hM (by simp [execOp,hv,convert,run_underlying hsrc,run_underlying hdst,Conv.intToInt]) (.int _ _)
     · cases hr
   · rename_i e hsrc hdst he;cases hc;have hV:=fO hs he;simp only [rop]at hr;split at hr
     · rename_i s hq;cases hr;rw [hq]at hV;generalize hv:a.eval x=v at hV;cases hV;exact iQ.same hM (by simp [execOp,hv,convert,run_underlying hsrc,run_underlying hdst]) (.str _)
     · cases hr
   · cases hc
 · rename_i t x hx;simp only at hx;subst hx;split at hc
   · cases hc
   · rename_i d e hne hd he;cases hc;simp only [rop,L1]at hr;subst hr;refine iQ.same hM (x:= .iface t (a.eval x)) ?_ (.iface _ _ _ (fO hs he));simp only [execOp,Instr.makeInterface,Sem.run_bind,run_underlying hd];cases d<;>first|rfl|(exact absurd rfl (hne _))
   · cases hc
 · rename_i f first caps hx
   simp only at hx;subst hx;split at hc
   · rename_i e1 e2 h1 h2;cases hc;simp only [rop,L1]at hr;subst hr;obtain⟨g1,g2⟩:=nD hs h1;obtain⟨g3,g4⟩:=nD hs h2;have q1:(first.toList.map a.eval).toArray=first.map a.eval:=by rw [<-Array.toList_map]
     have q2:(caps.toList.map a.eval).toArray=caps.map a.eval:=by rw [<-Array.toList_map]
     rw [q1]at g1 g2;rw [q2]at g3 g4;exact iQ.same hM (x:= .func f (first.map a.eval) (caps.map a.eval)) rfl (.fn _ _ _ _ _ g1 g2 g3 g4)
   · cases hc
 · split at hc
   · split at hc
     · split at hc<;>cases hc
     · cases hc
   · cases hc
 · rename_i t x lo hi mx hx;simp only at hx;subst hx;split at hc
   · rename_i e l h ht he hl hh hm;cases hc;simp only [rop]at hr;obtain rfl:mx=none:=by cases mx<;>simp [N7]at hm<;>rfl
     exact iQ.of_run hM (ahw ht (fO hs he) (Oc hl hs) (Oc hh hs) hr)
   · rename_i et e l h m ht he hl hh hm;split at hc
     · rename_i s hsz;cases hc;simp only [rop]at hr;exact iQ.of_run hM (ajV ht hsz (fO hs he) (Oc hl hs) (Oc hh hs) (Oc hm hs) hr)
     · cases hc
   · cases hc
 · rename_i s x f hx;simp only at hx;subst hx;split at hc
   · rename_i fs e ht he;split at hc
     · rename_i fd hf;split at hc
       · cases hc
       · rename_i hsz;cases hc;simp only [rop]at hr;exact iQ.of_run hM (afh ht hf hsz (fO hs he) hr)
     · cases hc
   · cases hc
 · rename_i t x f hx;simp only at hx;subst hx;split at hc
   · rename_i fs e ht he;split at hc
     · rename_i fd hf;split at hc
       · rename_i d s hd hsz;cases hc;simp only [rop]at hr;split at hr
         · rename_i cs hq;have hV:=fO hs he;rw [hq]at hV;exact iQ.of_run hM (amL ht hf hsz (by simp [hd]) hV hr)
         · cases hr
       · cases hc
     · cases hc
   · cases hc
 · rename_i t x i hx;simp only at hx;subst hx;split at hc
   · rename_i et e1 e2 ht h1 h2;split at hc
     · rename_i s hsz;cases hc;simp only [rop]at hr;exact iQ.of_run hM (afi ht hsz (fO hs h1) (fO hs h2) hr)
     · cases hc
   · rename_i n et e1 e2 ht h1 h2;split at hc
     · rename_i s hsz;cases hc;simp only [rop]at hr;split at hr
       · rename_i k j hq;split at hr
         · rename_i hj;have hV:=fO hs h2;rw [hq]at hV;generalize hv:a.eval i=v at hV;cases hV;have:=abA (P:=P) (w:=w) (k:=k) ht hsz (fO hs h1) hj.1 hj.2 hr;have key:=iQ.of_run (P:=P) hM this;rw [<-hv]at key;exact key
         · cases hr
       · cases hr
     · cases hc
   · cases hc
 · rename_i t x i hx;simp only at hx;subst hx;split at hc
   · rename_i e1 e2 ht h1 h2;cases hc;simp only [rop]at hr;split at hr
     · rename_i s k n hq1 hq2;have hV1:=fO hs h1;have hV2:=fO hs h2;rw [hq1]at hV1;rw [hq2]at hV2;generalize hv1:a.eval x=v1 at hV1;generalize hv2:a.eval i=v2 at hV2;cases hV1;cases hV2;split at hr
       · rename_i h0;split at hr
         · rename_i b hb;cases hr;have hb':(⟨s.toArray⟩:ByteArray)[n.toNat]? =some b:=by
            have hlt:n.toNat<s.length:=by
             rcases D1 n.toNat s.length with h'|h'
             · exact h'
             · rw [R1 h']at hb;cases hb
            have hsz:(⟨s.toArray⟩:ByteArray).size=s.length:=by simp [ByteArray.size]
            rw [getElem?_pos _ _ (by rw [hsz];exact hlt)];rw [W2 hlt]at hb;cases hb;rfl
           exact iQ.same hM (x:= .int .u8 b.toNat) (by simp [execOp,hv1,hv2,Instr.index,asIntOf,run_underlying ht,h0,hb']) (.int _ _)
         · cases hr
       · cases hr
     · cases hr
   · cases hc
 · rename_i x i hx;simp only at hx;subst hx;split at hc
   · rename_i e he;cases hc;simp only [rop]at hr;split at hr
     · rename_i vs hq;have hV:=fO hs he;rw [hq]at hV;generalize hv:a.eval x=v at hV;cases hV with
       |dn _ us h1 h2=>
        have hlt:i<us.size:=by
         rw [h1];rcases D1 i vs.length with h'|h'
         · exact h'
         · rw [R1 h']at hr;cases hr
        exact iQ.same hM (x:=us[i]) (by simp [execOp,hv,Instr.extract,A3 hlt]) (h2 _ _ _ hr (by simp))
     · cases hr
   · cases hc
 · rename_i c hx;simp only at hx;subst hx;obtain⟨callee,args,argTypes⟩:=c;split at hc
   · split at hc<;>cases hc
   · rename_i f b hb;simp only at hb;subst hb;split at hc
     · rename_i t e hat hargs;have hat':argTypes=#[t]:=by simpa using congrArg List.toArray hat
       obtain⟨x,hx⟩: ∃x,args=#[x]:=by
        have:args.toList.length=1:=by
         have: ∀(l:List Operand) (es:List AE),nC l=some es->l.length=es.length:=by
          intro l
          induction l with
          |nil=>intro es h;simp [nC]at h;subst h;rfl
          |cons y l ih=>
           intro es h;unfold nC at h;split at h;·rename_i hh;cases h;simp [ih _ hh]
           · cases h
         simpa using this _ _ hargs
        match args,this with
        |⟨[x]⟩,_=>exact⟨x,rfl⟩
       subst hat';subst hx;have hV:V G H.next (e.ev σ) (a.eval x):=by
        have:=(nD hs hargs).2 0 (e.ev σ) (a.eval x) rfl rfl;exact this
       split at hc
       · rename_i ht;cases hc;simp only [rop]at hr;split at hr
         · rename_i s hq;cases hr;rw [hq]at hV;generalize hv:a.eval x=v at hV;cases hV;have hsz:(⟨s.toArray⟩:ByteArray).size=s.length:=by simp [ByteArray.size]
           exact iQ.same hM (x:= .int .i64 s.length) (by simp [execOp,resolve,invoke,builtin,hv,Builtin.len_,run_underlying ht,hsz];rfl) (.int _ _)
         · cases hr
       · rename_i et ht;cases hc;simp only [rop]at hr;obtain⟨r,hr1,hr2⟩:=ajX (P:=P) (w:=w) (ty:=ty) ht hV hr;exact iQ.same hM (by simp [execOp,resolve,invoke,builtin,hr1]) hr2
       · cases hc
     · rename_i t e hat hargs;have hat':argTypes=#[t]:=by simpa using congrArg List.toArray hat
       obtain⟨x,hx⟩: ∃x,args=#[x]:=by
        have:args.toList.length=1:=by
         have: ∀(l:List Operand) (es:List AE),nC l=some es->l.length=es.length:=by
          intro l
          induction l with
          |nil=>intro es h;simp [nC]at h;subst h;rfl
          |cons y l ih=>
           intro es h;unfold nC at h;split at h;·rename_i hh;cases h;simp [ih _ hh]
           · cases h
         simpa using this _ _ hargs
        match args,this with
        |⟨[x]⟩,_=>exact⟨x,rfl⟩
       subst hat';subst hx;have hV:V G H.next (e.ev σ) (a.eval x):=by
        have:=(nD hs hargs).2 0 (e.ev σ) (a.eval x) rfl rfl;exact this
       split at hc
       · rename_i et ht;cases hc;obtain⟨r,hr1,hr2⟩:=ajY (P:=P) (w:=w) (ty:=ty) (σ:=σ) ht hV (x:=e.ev σ) hr;exact iQ.same hM (by simp [execOp,resolve,invoke,builtin,hr1]) hr2
       · cases hc
     · split at hc
       · split at hc
         · split at hc<;>cases hc
         · cases hc
       · cases hc
     · rename_i t1 t2 e1 e2 hat hargs;cases hc;obtain⟨x,y,hx⟩: ∃x y,args=#[x,y]:=by
        have:args.toList.length=2:=by
         have: ∀(l:List Operand) (es:List AE),nC l=some es->l.length=es.length:=by
          intro l
          induction l with
          |nil=>intro es h;simp [nC]at h;subst h;rfl
          |cons y l ih=>
           intro es h;unfold nC at h;split at h;·rename_i hh;cases h;simp [ih _ hh]
           · cases h
         simpa using this _ _ hargs
        match args,this with
        |⟨[x,y]⟩,_=>exact⟨x,y,rfl⟩
       subst hx;have hV:=(nD hs hargs).2 0 (e1.ev σ) (a.eval x) rfl rfl;have hV2:=(nD hs hargs).2 1 (e2.ev σ) (a.eval y) rfl rfl;simp only [rop]at hr;split at hr
       · rename_i k n k' n' hq1 hq2;cases hr;rw [hq1]at hV;rw [hq2]at hV2;generalize hv:a.eval x=v at hV;generalize hv2:a.eval y=v2 at hV2;cases hV;cases hV2;exact iQ.same hM (x:= .int k (if n'>n then n' else n)) (by simp [execOp,resolve,invoke,builtin,hv,hv2,Builtin.max_,Builtin.max2]) (.int _ _)
       · cases hr
     · rename_i t1 t2 e1 e2 hat hargs;cases hc;obtain⟨x,y,hx⟩: ∃x y,args=#[x,y]:=by
        have:args.toList.length=2:=by
         have: ∀(l:List Operand) (es:List AE),nC l=some es->l.length=es.length:=by
          intro l
          induction l with
          |nil=>intro es h;simp [nC]at h;subst h;rfl
          |cons y l ih=>
           intro es h;unfold nC at h;split at h;·rename_i hh;cases h;simp [ih _ hh]
           · cases h
         simpa using this _ _ hargs
        match args,this with
        |⟨[x,y]⟩,_=>exact⟨x,y,rfl⟩
       subst hx;have hV:=(nD hs hargs).2 0 (e1.ev σ) (a.eval x) rfl rfl;have hV2:=(nD hs hargs).2 1 (e2.ev σ) (a.eval y) rfl rfl;simp only [rop]at hr;split at hr
       · rename_i k n k' n' hq1 hq2;cases hr;rw [hq1]at hV;rw [hq2]at hV2;generalize hv:a.eval x=v at hV;generalize hv2:a.eval y=v2 at hV2;cases hV;cases hV2;exact iQ.same hM (x:= .int k (if n'<n then n' else n)) (by simp [execOp,resolve,invoke,builtin,hv,hv2,Builtin.min_,Builtin.min2]) (.int _ _)
       · cases hr
     · cases hc
   · cases hc
 · cases hc
end
end Go.VL
end
section
namespace Go.VL
variable [Glob]
section
variable {P:Program} {B:Nat->Prop} {G:Gh} {H:AH} {σ:Nat->PV} {a:Act} {w:World}
theorem HM.lt (hM:HM B H G w) {b:Nat} {arr:Array Value} {t:TypeId} {fr:Nat×Nat} (e:w.heap[b]? =some (.cells arr t fr)):b<w.heap.size:=by
 rcases D1 b w.heap.size with h'|h'
 · exact h'
 · rw [f9 h']at e;cases e
theorem HM.ahx (hM:HM B H G w) (a:Addr) (ha:w.heap.size<=a.block):G.F a=none:=by
 rcases mA (G.F a)with h|⟨x,hx⟩
 · exact h
 · have:=World.block_lt_of_cell? w a (hM.su _ _ hx);omega
theorem HM.newObj (hU:Up B w) (hM:HM B H G w) {cs:List PV} {arr:Array Value} (t:TypeId) (hV:Vs G H.next cs arr):
 ∃G',Ext B H.next G G'/\HM B (H.new cs) G' (w.alloc (.cells arr t))/\G'.m H.next=some w.heap.size:=by
 let G':Gh:={G with m:=fun i=>if i=H.next then some w.heap.size else G.m i}
 have hE:Ext B H.next G G':=⟨fun _ _ e=>e,fun i hi=>by show(if i=H.next then some w.heap.size else G.m i)=G.m i;rw [if_neg (by omega)],fun _ _=>rfl,fun _ e e'=>absurd e e'⟩;have hm: ∀i,i≠H.next->G'.m i=G.m i:=fun i hi=>by show(if i=H.next then some w.heap.size else G.m i)=G.m i;rw [if_neg hi]
 have hmn:G'.m H.next=some w.heap.size:=by show(if H.next=H.next then some w.heap.size else G.m H.next)=_;rw [if_pos rfl]
 have hon: ∀i,i≠H.next->(H.new cs).obj i=H.obj i:=fun i hi=>by show(if i=H.next then some cs else H.obj i)=H.obj i;rw [if_neg hi]
 have hoe:(H.new cs).obj H.next=some cs:=by show(if H.next=H.next then some cs else H.obj H.next)=_;rw [if_pos rfl]
 have hne: ∀i,(H.obj i).isSome->i≠H.next:=fun i hi=>by
  obtain⟨c,hc⟩:=L7.1 hi;have:=(hM.obj i c hc).1;omega
 have hblk: ∀i b,(H.obj i).isSome->G.m i=some b->b<w.heap.size:=fun i b hi hb=>by
  obtain⟨c,hc⟩:=L7.1 hi;obtain⟨_,b',arr',t',k1,_,k3,_⟩:=hM.obj i c hc;have:b'=b:=by rw [k1]at hb;exact V2 hb
  subst this;exact hM.lt k3
 refine⟨G',hE,⟨hM.glob.mono hE.F,fun a x e=> ?_,fun id c e=> ?_,fun i j b hi hj h1 h2=> ?_,fun k e=> ?_,hM.sS,fun k i b o e hk hi ht hmi=> ?_,hM.wh.keep fun b _ hb=>heap_alloc_old w _ b hb⟩,hmn⟩
 · have hc:=hM.su a x e;rw [World.cell?_alloc_lt w _ a (World.block_lt_of_cell? w a hc)];exact hc
 · by_cases hid:id=H.next
   · subst hid;rw [hoe]at e;cases e;refine⟨A2 _,w.heap.size,arr,t,hmn,hU _ (R0 _),heap_alloc_new w _,hV.mono hE (W6 _),fun off=>hM.ahx _ (R0 _)⟩
   · rw [hon id hid]at e;obtain⟨k0,b,ar,t',k1,k2,k3,k4,k5⟩:=hM.obj id c e;exact⟨T7 k0,b,ar,t',(hm id hid).trans k1,k2,by rw [heap_alloc_old w _ b (hM.lt k3)];exact k3,k4.mono hE (W6 _),k5⟩
 · by_cases h3:i=H.next
   · by_cases h4:j=H.next
     · omega
     · subst h3;rw [hmn]at h1;cases h1;rw [hon j h4]at hj;rw [hm j h4]at h2;have:=hblk j _ hj h2;omega
   · by_cases h4:j=H.next
     · subst h4;rw [hmn]at h2;cases h2;rw [hon i h3]at hi;rw [hm i h3]at h1;have:=hblk i _ hi h1;omega
     · rw [hon i h3]at hi;rw [hon j h4]at hj;rw [hm i h3]at h1;rw [hm j h4]at h2;exact hM.inj i j b hi hj h1 h2
 · obtain⟨k0,b,o,ar,t',k1,k2,k3,k5⟩:=hM.tok k e;exact⟨T7 k0,b,o,ar,t',k1,k2,by rw [heap_alloc_old w _ b (hM.lt k3)];exact k3,k5⟩
 · by_cases h3:i=H.next
   · subst h3;rw [hmn]at hmi;cases hmi;obtain⟨_,b',o',ar,t',k1,_,k3,_⟩:=hM.tok k hk;rw [k1]at ht;cases ht;have:=hM.lt k3;omega
   · rw [hon i h3]at hi;rw [hm i h3]at hmi;exact hM.tobj k i b o e hk hi ht hmi
theorem HM.putObj (hM:HM B H G w) {id b:Nat} {cs cs':List PV} {arr arr':Array Value} {t:TypeId} (ho:H.obj id=some cs) (hm:G.m id=some b) (hb:w.heap[b]? =some (.cells arr t (0,0))) (hV:Vs G H.next cs' arr'):
 HM B (H.put id cs') G (w.setRow b arr')/\B b:=by
 obtain⟨q0,b0,abB,t0,q1,q2,q3,q4,q5⟩:=hM.obj id cs ho;have:b0=b:=by rw [q1]at hm;exact V2 hm
 subst this;have hon: ∀i,i≠id->(H.put id cs').obj i=H.obj i:=fun i hi=>by show(if i=id then some cs' else H.obj i)=H.obj i;rw [if_neg hi]
 have hoe:(H.put id cs').obj id=some cs':=by show(if id=id then some cs' else H.obj id)=_;rw [if_pos rfl]
 have hsome: ∀i,((H.put id cs').obj i).isSome->(H.obj i).isSome:=fun i hi=>by
  by_cases h:i=id
  · subst h;simp [ho]
  · rwa [hon i h]at hi
 refine⟨⟨hM.glob,fun a x e=> ?_,fun i c e=> ?_,fun i j b' hi hj=>hM.inj i j b' (hsome i hi) (hsome j hj),fun k e=> ?_,hM.sS,fun k i b' o e hk hi=>hM.tobj k i b' o e hk (hsome i hi),hM.wh.keep fun b hB _=>setRow_other w b0 b arr' fun e=>hB (e▸q2)⟩,q2⟩
 · have hc:=hM.su a x e;by_cases h:a.block=b0
   · obtain⟨ab,ao,az⟩:=a;simp only at h;subst h;have hs:az=none:=by
      cases az with
      |none=>rfl
      |some s=>simp [World.cell?,q3]at hc
     subst hs;rw [q5 ao]at e;cases e
   · rw [cell_setRow_other w b0 arr' a h];exact hc
 · by_cases h:i=id
   · subst h;rw [hoe]at e;cases e;exact⟨q0,b0,arr',t0,q1,q2,setRow_heap w b0 abB arr' t0 (0,0) q3,hV,q5⟩
   · rw [hon i h]at e;obtain⟨k0,b,ar,t',k1,k2,k3,k4,k5⟩:=hM.obj i c e;have hne:b≠b0:=fun hb=>h (hM.inj i id b (by simp [e]) (by simp [ho]) k1 (by rw [q1,hb]));exact⟨k0,b,ar,t',k1,k2,by rw [setRow_other w b0 b arr' hne];exact k3,k4,k5⟩
 · obtain⟨k0,b,o,ar,t',k1,k2,k3,k5⟩:=hM.tok k e;have hne:b≠b0:=fun hb=>hM.tobj k id b o _ e (by simp [ho]) k1 (by rw [q1,hb]);exact⟨k0,b,o,ar,t',k1,k2,by rw [setRow_other w b0 b arr' hne];exact k3,k5⟩
theorem Tr.setRow {b:Nat} (hB:B b) (arr:Array Value):Tr B w (w.setRow b arr):=
 ⟨by simp,fun k hk hn=>setRow_other w b k arr (fun e=>hn (e▸hB)),rfl,rfl,rfl,fun k o e ho=>by
  by_cases hk:k=b
  · subst hk;obtain⟨hlt,hk'⟩:=Z2.1 e;show(w.heap.modify k _)[k]? =some o;rw [A3 (by rw [Array.size_modify];exact hlt),Array.getElem_modify_self,hk'];cases o<;>first|rfl|(simp [Obj.isCells]at ho)
  · rw [setRow_other w b k arr hk];exact e⟩
theorem Tr.FC (w:World) (o:Obj):Tr B w (w.drew.alloc o):=
 ⟨by simp,fun b hb _=>heap_alloc_old w.drew o b hb,rfl,rfl,rfl,fun b x e _=>(heap_alloc_old w.drew o b (Z2.1 e).1).trans e⟩
theorem HM.drew (hM:HM B H G w):HM B H G w.drew:=⟨hM.glob,hM.su,hM.obj,hM.inj,hM.tok,hM.sS,hM.tobj,hM.wh⟩
theorem HM.avq (hU:Up B w) (hM:HM B H G w) (arr:Array Value) (t:TypeId) (n:Nat) (hn:n<=arr.size):
 ∃G',Ext B H.next G G'/\HM B H.tok G' (w.alloc (.cells arr t))/\G'.τ H.next=some (w.heap.size,n,arr.size)/\ ∀j x,j<n->arr[j]? =some x->G'.F ⟨w.heap.size,j,none⟩=some x:=by
 let G':Gh:=⟨fun a=>if a.block=w.heap.size/\a.spot=none/\a.off<n then arr[a.off]? else G.F a,G.m,fun k=>if k=H.next then some (w.heap.size,n,arr.size)else G.τ k⟩
 have hF1: ∀a x,G.F a=some x->G'.F a=some x:=by
  intro a x e;show(if a.block=w.heap.size/\a.spot=none/\a.off<n then arr[a.off]? else G.F a)=some x;rw [if_neg]
  · exact e
  · rintro⟨h1,_⟩;rw [hM.ahx a (by omega)]at e;cases e
 have hF2: ∀a,G.F a=none->G'.F a≠none->B a.block:=by
  intro a e1 e2;by_cases h:a.block=w.heap.size/\a.spot=none/\a.off<n
  · exact hU _ (by omega)
  · exact absurd (by show(if a.block=w.heap.size/\a.spot=none/\a.off<n then arr[a.off]? else G.F a)=none;rw [if_neg h];exact e1) e2
 have hold: ∀b off,b<w.heap.size->G.F ⟨b,off,none⟩=none->G'.F ⟨b,off,none⟩=none:=fun b off hb e=>by
  show(if b=w.heap.size/\(none:Option Nat)=none/\off<n then arr[off]? else G.F ⟨b,off,none⟩)=none
  rw [if_neg (by omega)];exact e
 have Bb: ∀k,k≠H.next->G'.τ k=G.τ k:=fun k hk=>by show(if k=H.next then some (w.heap.size,n,arr.size)else G.τ k)=G.τ k;rw [if_neg hk]
 have Ip:G'.τ H.next=some (w.heap.size,n,arr.size):=by show(if H.next=H.next then some (w.heap.size,n,arr.size)else G.τ H.next)=_;rw [if_pos rfl]
 have hE:Ext B H.next G G':=⟨hF1,fun _ _=>rfl,fun k hk=>Bb k (by omega),hF2⟩;have hln: ∀k,k≠H.next->H.tok.live k=H.live k:=fun k hk=>by show(if k=H.next then true else H.live k)=H.live k;rw [if_neg hk]
 have hblk: ∀k b o e,H.live k=true->G.τ k=some (b,o,e)->b<w.heap.size:=fun k b o e hk ht=>by
  obtain⟨_,b',o',ar,t',k1,_,k3,_⟩:=hM.tok k hk;rw [k1]at ht;cases ht;exact hM.lt k3
 refine⟨G',hE,⟨hM.glob.mono hE.F,fun a x e=> ?_,fun id c e=> ?_,hM.inj,fun k e=> ?_,fun k l b o e o' e' hk hl h1 h2=> ?_,fun k i b o e hk hi h1 h2=> ?_,hM.wh.keep fun b _ hb=>heap_alloc_old w _ b hb⟩,Ip,fun j x hj e=> ?_⟩
 · have e':(if a.block=w.heap.size/\a.spot=none/\a.off<n then arr[a.off]? else G.F a)=some x:=e;by_cases h:a.block=w.heap.size/\a.spot=none/\a.off<n
   · rw [if_pos h]at e';obtain⟨b,o,s⟩:=a;obtain⟨rfl,rfl,_⟩:=h;rw [World.cell?_alloc_new];exact e'
   · rw [if_neg h]at e';have hc:=hM.su a x e';rw [World.cell?_alloc_lt w _ a (World.block_lt_of_cell? w a hc)];exact hc
 · obtain⟨k0,b,ar,t',k1,k2,k3,k4,k5⟩:=hM.obj id c e;have hb:=hM.lt k3;exact⟨T7 k0,b,ar,t',k1,k2,by rw [heap_alloc_old w _ b hb];exact k3,k4.mono hE (W6 _),fun off=>hold b off hb (k5 off)⟩
 · by_cases hk:k=H.next
   · subst hk;refine⟨A2 _,w.heap.size,n,arr,t,Ip,hU _ (R0 _),heap_alloc_new w _,fun off ho=> ?_⟩;show(if w.heap.size=w.heap.size/\(none:Option Nat)=none/\off<n then arr[off]? else G.F ⟨w.heap.size,off,none⟩)=none;rw [if_neg (by omega)];exact hM.ahx _ (R0 _)
   · rw [hln k hk]at e;obtain⟨k0,b,o,ar,t',k1,k2,k3,k5⟩:=hM.tok k e;have hb:=hM.lt k3;exact⟨T7 k0,b,o,ar,t',(Bb k hk).trans k1,k2,by rw [heap_alloc_old w _ b hb];exact k3,fun off ho=>hold b off hb (k5 off ho)⟩
 · by_cases h3:k=H.next
   · by_cases h4:l=H.next
     · omega
     · subst h3;rw [Ip]at h1;cases h1;rw [hln l h4]at hl;rw [Bb l h4]at h2;have:=hblk l _ _ _ hl h2;omega
   · by_cases h4:l=H.next
     · subst h4;rw [Ip]at h2;cases h2;rw [hln k h3]at hk;rw [Bb k h3]at h1;have:=hblk k _ _ _ hk h1;omega
     · rw [hln k h3]at hk;rw [hln l h4]at hl;rw [Bb k h3]at h1;rw [Bb l h4]at h2;exact hM.sS k l b o e o' e' hk hl h1 h2
 · by_cases h3:k=H.next
   · subst h3;rw [Ip]at h1;cases h1;obtain⟨c,hc⟩:=L7.1 hi;obtain⟨_,b',arr',t',k1,_,k3,_⟩:=hM.obj i c hc;have:b'=w.heap.size:=by rw [k1]at h2;exact V2 h2
     have:=hM.lt k3;omega
   · rw [hln k h3]at hk;rw [Bb k h3]at h1;exact hM.tobj k i b o e hk hi h1 h2
 · show(if w.heap.size=w.heap.size/\(none:Option Nat)=none/\j<n then arr[j]? else G.F ⟨w.heap.size,j,none⟩)=some x
   rw [if_pos ⟨rfl,rfl,hj⟩];exact e
theorem HM.avr (hM:HM B H G w) {k b o:Nat} {arr arr':Array Value} {t:TypeId} (n:Nat) (hk:H.live k=true) (amM:G.τ k=some (b,o,arr.size)) (hb:w.heap[b]? =some (.cells arr t (0,0))) (hs:arr'.size=arr.size)
 (hon:o<=n) (hn:n<=arr.size) (hsame: ∀j,j<o->arr'[j]? =arr[j]?):
 ∃G',Ext B H.next G G'/\HM B (H.use k).tok G' (w.setRow b arr')/\G'.τ H.next=some (b,n,arr'.size)/\(∀j x,o<=j->j<n->arr'[j]? =some x->G'.F ⟨b,j,none⟩=some x)/\B b:=by
 obtain⟨q0,b0,o0,abB,t0,q1,q2,q3,q5⟩:=hM.tok k hk;rw [q1]at amM;simp only [L1,k9]at amM;obtain⟨rfl,rfl,hz⟩:=amM;rw [q3]at hb;simp only [L1,Obj.cells.injEq]at hb;obtain⟨rfl,rfl,_⟩:=hb
 let G':Gh:=⟨fun a=>if a.block=b0/\a.spot=none/\o0<=a.off/\a.off<n then arr'[a.off]? else G.F a,G.m,fun k=>if k=H.next then some (b0,n,arr'.size)else G.τ k⟩
 have hFo: ∀a,¬(a.block=b0/\a.spot=none/\o0<=a.off/\a.off<n)->G'.F a=G.F a:=fun a h=>by
  show(if a.block=b0/\a.spot=none/\o0<=a.off/\a.off<n then arr'[a.off]? else G.F a)=_
  rw [if_neg h]
 have hF1: ∀a x,G.F a=some x->G'.F a=some x:=by
  intro a x e;rw [hFo]
  · exact e
  · obtain⟨ab,ao,az⟩:=a;rintro⟨h1,h2,h3,_⟩;simp only at h1 h2 h3;subst h1;subst h2;rw [q5 ao h3]at e;cases e
 have hF2: ∀a,G.F a=none->G'.F a≠none->B a.block:=by
  intro a e1 e2;by_cases h:a.block=b0/\a.spot=none/\o0<=a.off/\a.off<n
  · rw [h.1];exact q2
  · exact absurd (by rw [hFo a h];exact e1) e2
 have Bb: ∀k,k≠H.next->G'.τ k=G.τ k:=fun k hk=>by show(if k=H.next then some (b0,n,arr'.size)else G.τ k)=G.τ k;rw [if_neg hk]
 have Ip:G'.τ H.next=some (b0,n,arr'.size):=by show(if H.next=H.next then some (b0,n,arr'.size)else G.τ H.next)=_;rw [if_pos rfl]
 have hE:Ext B H.next G G':=⟨hF1,fun _ _=>rfl,fun k hk=>Bb k (by omega),hF2⟩;have hln: ∀l,l≠H.next->(H.use k).tok.live l=true->l≠k/\H.live l=true:=fun l hl e=>by
  have e':(if l=H.next then true else(if l=k then false else H.live l))=true:=e;rw [if_neg hl]at e';split at e'
  · cases e'
  · rename_i h;exact⟨h,e'⟩
 refine⟨G',hE,⟨hM.glob.mono hE.F,fun a x e=> ?_,fun id c e=> ?_,hM.inj,fun l e=> ?_,fun l l' b o e o' e' hl hl' h1 h2=> ?_,fun l i b o e hl hi h1 h2=> ?_,hM.wh.keep fun b hB _=>setRow_other w b0 b arr' fun e=>hB (e▸q2)⟩,Ip,fun j x hj hj' e=> ?_,q2⟩
 · by_cases h:a.block=b0/\a.spot=none/\o0<=a.off/\a.off<n
   · have e':(if a.block=b0/\a.spot=none/\o0<=a.off/\a.off<n then arr'[a.off]? else G.F a)=some x:=e;rw [if_pos h]at e';obtain⟨ab,ao,az⟩:=a;obtain⟨rfl,rfl,_⟩:=h;rw [cell_setRow_same w ab ao abB arr' t0 (0,0) q3];exact e'
   · rw [hFo a h]at e;have hc:=hM.su a x e;by_cases hab:a.block=b0
     · obtain⟨ab,ao,az⟩:=a;simp only at hab;subst hab;have hs':az=none:=by
        cases az with
        |none=>rfl
        |some s=>simp [World.cell?,q3]at hc
       subst hs';have hlt:ao<o0:=by
        rcases D1 ao o0 with h'|h'
        · exact h'
        · rw [q5 ao h']at e;cases e
       rw [cell_setRow_same w ab ao abB arr' t0 (0,0) q3,hsame ao hlt,<-wY q3];exact hc
     · rw [cell_setRow_other w b0 arr' a hab];exact hc
 · obtain⟨k0,b,ar,t',k1,k2,k3,k4,k5⟩:=hM.obj id c e;have hne:b≠b0:=fun hb=>hM.tobj k id b0 o0 _ hk (by have e':H.obj id=some c:=e;rw [e'];rfl) q1 (by rw [k1,hb]);refine⟨T7 k0,b,ar,t',k1,k2,by rw [setRow_other w b0 b arr' hne];exact k3,k4.mono hE (W6 _),fun off=> ?_⟩;rw [hFo _ (fun h=>hne h.1)];exact k5 off
 · by_cases hl:l=H.next
   · subst hl;refine⟨A2 _,b0,n,arr',t0,Ip,q2,setRow_heap w b0 abB arr' t0 (0,0) q3,fun off ho=> ?_⟩;rw [hFo _ (by rintro⟨_,_,_,h⟩;simp only at h;omega)];exact q5 off (by omega)
   · obtain⟨hlk,e2⟩:=hln l hl e;obtain⟨k0,b,o,ar,t',k1,k2,k3,k5⟩:=hM.tok l e2;have hne:b≠b0:=fun hb=>hlk (hM.sS l k b0 o _ o0 _ e2 hk (by rw [<-hb];exact k1) q1);refine⟨T7 k0,b,o,ar,t',(Bb l hl).trans k1,k2,by rw [setRow_other w b0 b arr' hne];exact k3,fun off ho=> ?_⟩;rw [hFo _ (fun h=>hne h.1)];exact k5 off ho
 · by_cases h3:l=H.next
   · by_cases h4:l'=H.next
     · omega
     · subst h3;rw [Ip]at h1;cases h1;obtain⟨hlk,e2⟩:=hln l' h4 hl';rw [Bb l' h4]at h2;exact absurd (hM.sS l' k _ _ _ _ _ e2 hk h2 q1) hlk
   · by_cases h4:l'=H.next
     · subst h4;rw [Ip]at h2;cases h2;obtain⟨hlk,e2⟩:=hln l h3 hl;rw [Bb l h3]at h1;exact absurd (hM.sS l k _ _ _ _ _ e2 hk h1 q1) hlk
     · rw [Bb l h3]at h1;rw [Bb l' h4]at h2;exact hM.sS l l' b o e o' e' (hln l h3 hl).2 (hln l' h4 hl').2 h1 h2
 · by_cases h3:l=H.next
   · subst h3;rw [Ip]at h1;cases h1;exact hM.tobj k i b0 o0 _ hk hi q1 h2
   · rw [Bb l h3]at h1;exact hM.tobj l i b o e (hln l h3 hl).2 hi h1 h2
 · show(if b0=b0/\(none:Option Nat)=none/\o0<=j/\j<n then arr'[j]? else G.F ⟨b0,j,none⟩)=some x
   rw [if_pos ⟨rfl,rfl,hj,hj'⟩];exact e
end
end Go.VL
end
section
namespace Go.VL
variable [Glob]
section
variable {P:Program} {B:Nat->Prop} {G:Gh} {H H':AH} {σ:Nat->PV} {a:Act} {w:World}
def GA (P:Program) (B:Nat->Prop) (G:Gh) (H H':AH) (w:World) (s:Sem Next) (p:PV):Prop:=
 ∃x w' G',(s.run P w= .ok (.value x) w'\/s.run P w= .ok .skip w'/\x=undef)/\Tr B w w'/\Ext B H.next G G'/\H.next<=H'.next/\HM B H' G' w'/\V G' H'.next p x
theorem GA.Iq {s:Sem Value} {p:PV} (h: ∃x w' G',s.run P w= .ok x w'/\Tr B w w'/\Ext B H.next G G'/\H.next<=H'.next/\HM B H' G' w'/\V G' H'.next p x):GA P B G H H' w (do pure (.value (<-s))) p:=by
 obtain⟨x,w',G',h1,h2⟩:=h;exact⟨x,w',G',.inl (by simp [h1]),h2⟩
theorem aj0 (hU:Up B w) (hM:HM B H G w) {t:TypeId} {z:List PV} (hz:mY P t=some z):
 ∃x w' G',(Instr.alloc t true (.tuple #[])).run P w= .ok x w'/\Tr B w w'/\Ext B H.next G G'/\H.next<=(H.new z).next/\HM B (H.new z) G' w'/\V G' (H.new z).next (.ref H.next 0) x:=by
 obtain⟨ti,zv,hi,hzv,hzs,Cg,_⟩:=Ce (P:=P) (G:=G) (H:=H) hz;obtain⟨G',e1,e2,e3⟩:=HM.newObj hU hM t Cg;exact⟨.pointer (some ⟨w.heap.size,0,none⟩),w.alloc (.cells zv.cells t),G',by simp [Instr.alloc,zeroValue,typeInfo,hi,hzv,newVar,newRow],Tr.alloc w _,e1,W6 _,e2,.ref _ _ _ (A2 _) e3⟩
theorem asU (hU:Up B w) (hM:HM B H G w) {t:TypeId} {cs:List PV} {v:Value} (hV:Vs G H.next cs v.cells):
 ∃x w' G',(Instr.box t v).run P w= .ok x w'/\Tr B w w'/\Ext B H.next G G'/\H.next<=(H.new cs).next/\HM B (H.new cs) G' w'/\V G' (H.new cs).next (.ref H.next 0) x:=by
 obtain⟨G',e1,e2,e3⟩:=HM.newObj hU hM t hV;exact⟨.pointer (some ⟨w.heap.size,0,none⟩),w.alloc (.cells v.cells t),G',by simp [Instr.box,newVar,newRow],Tr.alloc w _,e1,W6 _,e2,.ref _ _ _ (A2 _) e3⟩
theorem aaS {n:Nat} {c:PV} {v:Value} (h:V G n c v) (h1:c.one=true):v.oneCell'=true:=by
 cases h<;>first|rfl|(simp [PV.one]at h1)
theorem aj1 (hM:HM B H G w) {t:TypeId} {sz id o:Nat} {cs vs:List PV} {u v:Value} (hsz:sizeT P t=some sz) (hu:V G H.next (.ref id o) u) (hv:Vs G H.next vs v.cells) (ho:H.obj id=some cs)
 (hl:vs.length=sz) (hle:o+sz<=cs.length) (h1:(vs.all PV.one)=true):
 ∃w',(Instr.storeAt t u v).run P w= .ok () w'/\Tr B w w'/\HM B (H.put id (putCells cs o vs)) G w':=by
 cases hu with
 |ref _ _ b h2 h3=>
  obtain⟨q0,b0,arr,t0,q1,q2,q3,q4,q5⟩:=hM.obj id cs ho;have:b0=b:=by rw [q1]at h3;exact V2 h3
  subst this;have hsize:v.cells.size=sz:=by rw [hv.1];exact hl
  have hst:=run_storeCells_at P b0 o t0 v.cells.toList 0 arr w q3 (by have:=q4.1;simp;omega) (fun x hx=>by
   obtain⟨j,hj⟩:=a8 hx;rw [W4]at hj;have hlt:j<vs.length:=by
    rw [hl,<-hsize];rcases D1 j v.cells.size with h'|h'
    · exact h'
    · rw [f9 h']at hj;cases hj
   exact aaS (hv.2 j vs[j] x (by simp) hj) (S3.1 h1 _ (L3 hlt)))
  simp only [S4]at hst;have hV:Vs G H.next (putCells cs o vs) (arr.toList.take o++v.cells.toList++arr.toList.drop (o+v.cells.toList.length)).toArray:=by
   have hlen:=q4.1;refine⟨by rw [CW (by omega)];simp;omega,fun j c x e e'=> ?_⟩;rw [Io (by omega)]at e;have e2:(arr.toList.take o++v.cells.toList++arr.toList.drop (o+v.cells.toList.length))[j]? =some x:=by simpa using e'
   by_cases hj:o<=j/\j<o+vs.length
   · rw [if_pos hj]at e;rw [T1,N0 (by simp;omega),C0 (by simp;omega)]at e2;have:j -(List.take o arr.toList).length=j -o:=by simp;omega
     rw [this,W4]at e2;exact hv.2 _ _ _ e e2
   · rw [if_neg hj]at e;by_cases h4:j<o
     · rw [T1,C0 (by simp;omega),D3 h4,W4]at e2;exact q4.2 _ _ _ e e2
     · rw [N0 (by simp;omega),Q3,W4]at e2;have:o+v.cells.toList.length+(j -(List.take o arr.toList++v.cells.toList).length)=j:=by simp;omega
       rw [this]at e2;exact q4.2 _ _ _ e e2
  obtain⟨k1,k2⟩:=hM.putObj ho q1 q3 hV;refine⟨_,?_,Tr.setRow k2 _,k1⟩;simp [Instr.storeAt,Instr.sureAddr,storeVar,hsize,gU hsz];rw [RC,T1,hsize]at hst;exact hst
theorem Qh {es:List (List PV)} {sz n:Nat} {b o:Nat} {f:Nat->Nat->Value} (hM:HM B H G w) (hlen:es.length=n)
 (h1: ∀(i:Nat) (cs:List PV),es[i]? =some cs->cs.length=sz)
 (h3: ∀(i:Nat) (cs:List PV),es[i]? =some cs-> ∀(j:Nat) (c:PV),cs[j]? =some c->G.F ⟨b,o+i*sz+j,none⟩=some (f i j)):
 ∃l:List Value,l.length=n*sz/\(∀i j,i<n->j<sz->l[i*sz+j]? =some (f i j))/\(∀j v,l[j]? =some v->w.cell? ((⟨b,o,none⟩:Addr).add j)=some v)/\ ∀v∈l,∃i j,i<n/\j<sz/\v=f i j:=by
 rcases uC sz with h0|hpos
 · subst h0;exact⟨[],by simp,by simp,by simp,by simp⟩
 · refine⟨(List.range (n*sz)).map fun k=>f (k/sz) (k% sz),by simp,fun i j hi hj=> ?_,fun j v e=> ?_,fun v hv=> ?_⟩
   · have hdiv:(i*sz+j)/sz=i:=by rw [f7,Nat.mul_add_div hpos,BB hj];omega
     have hmod:(i*sz+j)% sz=j:=by rw [f7,Nat.mul_add_mod,DA hj]
     have hlt:i*sz+j<n*sz:=by
      have:(i+1)*sz<=n*sz:=Z3 _ hi;rw [C3,N6]at this;omega
     simp [hlt,hdiv,hmod]
   · have hlt:j<n*sz:=by
      rcases D1 j (n*sz)with h'|h'
      · exact h'
      · rw [R1 (by simpa using h')]at e;cases e
     simp [hlt]at e;subst e;have hi:j/sz<n:=(b9 hpos).2 hlt;have hj:j% sz<sz:=KB _ hpos;have hcs:es[j/sz]? =some (es[j/sz]'(by omega)):=by simp
     have hcl:=h1 _ _ hcs;have hF:=h3 _ _ hcs (j% sz) ((es[j/sz]'(by omega))[j% sz]'(by omega)) (by simp);have hadd:=VC j sz;rw [f7]at hadd;rw [add_lit];have:=hM.su _ _ hF
     rwa [show o+j/sz*sz+j% sz=o+j by omega]at this
   · obtain⟨k,hk,rfl⟩:=G3.1 hv;have hlt:k<n*sz:=by simpa using hk
     exact⟨_,_,(b9 hpos).2 hlt,KB _ hpos,rfl⟩
theorem abC {G':Gh} {n:Nat} {es fs:List (List PV)} {sz b cap:Nat} {f g:Nat->Nat->Value} {c:Ck} (hsz:rC sz es) (hsz':rC sz fs)
 (hf: ∀(i:Nat) (cs:List PV) (j:Nat) (c:PV),es[i]? =some cs->cs[j]? =some c->V G' n c (f i j)) (hg: ∀(i:Nat) (cs:List PV) (j:Nat) (c:PV),fs[i]? =some cs->cs[j]? =some c->V G' n c (g i j))
 (hF: ∀i j,i<es.length->j<sz->G'.F ⟨b,i*sz+j,none⟩=some (f i j)) (hF': ∀i j,i<fs.length->j<sz->G'.F ⟨b,(es.length+i)*sz+j,none⟩=some (g i j))
 (hcap:es.length+fs.length<=cap) (hc:Rf G' n c (some ⟨b,0,none⟩) (es.length+fs.length) sz cap):V G' n (.ah (es++fs) c) (.slice (some ⟨b,0,none⟩) (es.length+fs.length) cap):=by
 have hlen:(es++fs).length=es.length+fs.length:=by simp
 have hget: ∀(i:Nat) (cs:List PV),(es++fs)[i]? =some cs->(i<es.length/\es[i]? =some cs)\/(es.length<=i/\i -es.length<fs.length/\fs[i -es.length]? =some cs):=fun i cs e=>by
  rcases D1 i es.length with h|h
  · rw [C0 h]at e;exact .inl ⟨h,e⟩
  · rw [N0 h]at e;refine .inr ⟨h,?_,e⟩;rcases D1 (i -es.length) fs.length with h'|h'
    · exact h'
    · rw [R1 h']at e;cases e
 have hl: ∀(i:Nat) (cs:List PV),(es++fs)[i]? =some cs->cs.length=sz:=fun i cs e=>by
  rcases hget i cs e with⟨_,h⟩|⟨_,_,h⟩
  · exact(hsz _ (B1 h)).1
  · exact(hsz' _ (B1 h)).1
 have key:=V.ah (G:=G') (n:=n) (es++fs) c sz (some ⟨b,0,none⟩) cap (fun i j=>if i<es.length then f i j else g (i -es.length) j) hl (by omega)
  (fun _=>⟨b,0,rfl,fun i cs e j c ec=>by
   have hj:j<sz:=by
    rw [<-hl i cs e];rcases D1 j cs.length with h'|h'
    · exact h'
    · rw [R1 h']at ec;cases ec
   rw [V1];rcases hget i cs e with⟨h,h'⟩|⟨h,h',h''⟩
   · rw [if_pos h];exact hF i j h hj
   · rw [if_neg (by omega)];have:=hF' (i -es.length) j h' hj
     rwa [show es.length+(i -es.length)=i by omega]at this⟩)
  (fun i cs j c e ec=>by
   rcases hget i cs e with⟨h,h'⟩|⟨h,h',h''⟩
   · show V G' n c (if i<es.length then f i j else g (i -es.length) j);rw [if_pos h];exact hf i cs j c h' ec
   · show V G' n c (if i<es.length then f i j else g (i -es.length) j);rw [if_neg (by omega)];exact hg _ cs j c h'' ec)
  (by rw [hlen];exact hc)
 rwa [hlen]at key
theorem Mc (hU:Up B w) (hM:HM B H G w) {t ty e:TypeId} {sz bytes cap cap':Nat} {es fs:List (List PV)} {ad AP:Option Addr} {f g:Nat->Nat->Value} {ti:TypeInfo} {z:Value} (ht:P.underlying t=some (.slice e))
 (hi:P.info? e=some ti) (hz:ti.zero=some z) (hsize:ti.size=sz) (hzs:z.cells.size=sz) (hby:ti.bytes=bytes) (hb0:0<bytes) (hs0:0<sz)
 (hsz:rC sz es) (hsz':rC sz fs) (hlim:(es.length+fs.length)*bytes<=1099511627776)
 (h3:es≠[]-> ∃b o,ad=some ⟨b,o,none⟩/\ ∀(i:Nat) (cs:List PV),es[i]? =some cs-> ∀(j:Nat) (c:PV),cs[j]? =some c->G.F ⟨b,o+i*sz+j,none⟩=some (f i j))
 (h4: ∀(i:Nat) (cs:List PV) (j:Nat) (c:PV),es[i]? =some cs->cs[j]? =some c->V G H.next c (f i j))
 (g3: ∃b o,AP=some ⟨b,o,none⟩/\ ∀(i:Nat) (cs:List PV),fs[i]? =some cs-> ∀(j:Nat) (c:PV),cs[j]? =some c->G.F ⟨b,o+i*sz+j,none⟩=some (g i j))
 (g4: ∀(i:Nat) (cs:List PV) (j:Nat) (c:PV),fs[i]? =some cs->cs[j]? =some c->V G H.next c (g i j))
 (hcap:cap<es.length+fs.length) (hcap2:es.length<=cap) (hnil:ad=none->cap=0) (hne:0<fs.length):
 ∃x w' G',(Builtin.append_ #[t,t] ty #[.slice ad es.length cap,.slice AP fs.length cap']).run P w= .ok x w'/\Tr B w w'/\Ext B H.next G G'/\H.next<=H.tok.next/\HM B H.tok G' w'/\
  V G' H.tok.next (.ah (es++fs) (.tok H.next)) x:=by
 subst hsize;subst hby;obtain⟨b',o',rfl,hF'⟩:=g3;have hlen1: ∀(i:Nat) (cs:List PV),fs[i]? =some cs->cs.length=ti.size:=fun i cs e=>(hsz' _ (B1 e)).1;have aps: ∀(i:Nat) (cs:List PV),es[i]? =some cs->cs.length=ti.size:=fun i cs e=>(hsz _ (B1 e)).1;obtain⟨news,n1,n2,n3,n4⟩:=Qh hM rfl hlen1 hF';have hsmall:es.length+fs.length<=1099511627776:=E1 (GB _ hb0) hlim;have hfit: ∀old,old<es.length+fs.length->Builtin.nextslicecap (es.length+fs.length) old*ti.bytes<=281474976710656:=fun old ho=>growslice_fits ho (by omega)
 have fin: ∀(olds:List Value) (rest:Array Value) (N:Nat),olds.length=es.length*ti.size->(∀i j,i<es.length->j<ti.size->olds[i*ti.size+j]? =some (f i j))->es.length+fs.length<=N->
  rest.size=(N -(es.length+fs.length))*ti.size->
  ∃G',Tr B w (w.drew.alloc (.cells (olds.toArray++news.toArray++rest) e))/\Ext B H.next G G'/\H.next<=H.tok.next/\HM B H.tok G' (w.drew.alloc (.cells (olds.toArray++news.toArray++rest) e))/\
   V G' H.tok.next (.ah (es++fs) (.tok H.next)) (.slice (some ⟨w.heap.size,0,none⟩) (es.length+fs.length) N):=by
  intro olds rest N ho1 ho2 hN hrest;have avs:(olds.toArray++news.toArray++rest).size=N*ti.size:=by
   simp only [Array.size_append,B8,ho1,n1,hrest];rw [<-C3,<-C3];congr 1;omega
  have hle:(es.length+fs.length)*ti.size<=(olds.toArray++news.toArray++rest).size:=by rw [avs];exact Z3 _ hN
  obtain⟨G',e1,e2,e3,e4⟩:=HM.avq (w:=w.drew) hU hM.drew (olds.toArray++news.toArray++rest) e ((es.length+fs.length)*ti.size) hle;refine⟨G',Tr.FC w _,e1,W6 _,e2,?_⟩;have hmul: ∀i j n,i<n->j<ti.size->i*ti.size+j<n*ti.size:=fun i j n h h'=>by
   have:(i+1)*ti.size<=n*ti.size:=Z3 _ h;rw [C3,N6]at this;omega
  refine abC hsz hsz' (fun i cs j c e ec=>(h4 i cs j c e ec).mono e1 (W6 _)) (fun i cs j c e ec=>(g4 i cs j c e ec).mono e1 (W6 _)) (fun i j hi' hj=> ?_) (fun i j hi' hj=> ?_) hN ?_
  · have h1:=hmul i j _ hi' hj;refine e4 _ _ (K0 h1 (Z3 _ (by omega))) ?_;rw [B6 (by simp;omega),B6 (by simp;omega)];simpa using ho2 i j hi' hj
  · have h1:=hmul i j _ hi' hj;have h2:(es.length+i)*ti.size+j=es.length*ti.size+(i*ti.size+j):=by rw [C3];omega
    have h3':(es.length+i)*ti.size+j<(es.length+fs.length)*ti.size:=hmul _ _ _ (by omega) hj;refine e4 _ _ h3' ?_;rw [h2,B6 (by simp [n1];omega),FA (by simp;omega)];have:=n2 i j hi' hj;simp only [B8,ho1];rw [show es.length*ti.size+(i*ti.size+j) -es.length*ti.size=i*ti.size+j by omega];simpa using this
  · refine .inr ⟨by omega,A2 _,w.heap.size,rfl,?_⟩;rw [e3,avs];rfl
 cases ad with
 |none=>
  have hc0:=hnil rfl;subst hc0;have hes:es=[]:=T4 (by omega);subst hes;have hr:=run_append_nil (P:=P) w t ty e ti z ht hi hz ⟨b',o',none⟩ fs.length cap' news n1 n3 hne (by simp at hsmall;omega) (by simp at hlim;omega);have hge:=grownCap_ge w fs.length 0 e;obtain⟨G',q1,q2,q3,q4,q5⟩:=fin [] (Builtin.zeroCells z.cells (grownCap w fs.length 0 e -fs.length)) (grownCap w fs.length 0 e) (by simp) (by simp) (by simpa using hge) (by rw [size_zeroCells,hzs];simp);simp only [j0,V1,Array.empty_append]at q1 q4 q5;exact⟨_,_,G',hr,q1,q2,q3,q4,q5⟩
 |some ad0=>
  have hold: ∃olds:List Value,olds.length=es.length*ti.size/\(∀i j,i<es.length->j<ti.size->olds[i*ti.size+j]? =some (f i j))/\ ∀j v,olds[j]? =some v->w.cell? (ad0.add j)=some v:=by
   by_cases he:es=[]
   · subst he;exact⟨[],by simp,by simp,by simp⟩
   · obtain⟨b,o,JI,hF⟩:=h3 he;cases JI;obtain⟨l,l1,l2,l3,_⟩:=Qh hM rfl aps hF;exact⟨l,l1,l2,l3⟩
  obtain⟨olds,o1,o2,o3⟩:=hold;have hr:=run_append_grow (P:=P) w t ty e ti z ht hi hz ad0 es.length cap olds o1 o3 ⟨b',o',none⟩ fs.length cap' news n1 n3 hcap (by omega) (hfit cap hcap);have hge:=grownCap_ge w (es.length+fs.length) cap e;obtain⟨G',q1,q2,q3,q4,q5⟩:=fin olds (Builtin.zeroCells z.cells (grownCap w (es.length+fs.length) cap e -(es.length+fs.length))) _ o1 o2 hge (by rw [size_zeroCells,hzs]);exact⟨_,_,G',hr,q1,q2,q3,q4,q5⟩
theorem Rp {t ty e:TypeId} {sz len cap cap':Nat} {ad AP:Option Addr} (ht:P.underlying t=some (.slice e)) (hsz:sizeT P e=some sz) (hle:len<=cap):
 (Builtin.append_ #[t,t] ty #[.slice ad len cap,.slice AP 0 cap']).run P w= .ok (.slice ad len cap) w:=by
 have hl: ∀(x:Addr),(loadCells x 0).run P w= .ok #[] w:=fun x=>by simpa using run_loadCells_list (P:=P) w x [] (by simp)
 cases ad<;>cases AP<;>simp [Builtin.append_,run_underlying ht,gU hsz,Builtin.lenOf,Builtin.firstCells,hle,storeCells,hl]
end
end Go.VL
end
section
namespace Go.VL
variable [Glob]
section
variable {P:Program} {B:Nat->Prop} {G:Gh} {H H':AH} {σ:Nat->PV} {a:Act} {w:World}
theorem amO (hM:HM B H G w) {t ty e:TypeId} {sz cap cap' k b:Nat} {es fs:List (List PV)} {AP:Option Addr} {f g:Nat->Nat->Value} (ht:P.underlying t=some (.slice e))
 (hse:sizeT P e=some sz) (hsz:rC sz es) (hsz':rC sz fs) (hk:H.live k=true) (Bb:G.τ k=some (b,es.length*sz,cap*sz)) (he:es≠[])
 (h3: ∀(i:Nat) (cs:List PV),es[i]? =some cs-> ∀(j:Nat) (c:PV),cs[j]? =some c->G.F ⟨b,0+i*sz+j,none⟩=some (f i j))
 (h4: ∀(i:Nat) (cs:List PV) (j:Nat) (c:PV),es[i]? =some cs->cs[j]? =some c->V G H.next c (f i j))
 (g3: ∃b o,AP=some ⟨b,o,none⟩/\ ∀(i:Nat) (cs:List PV),fs[i]? =some cs-> ∀(j:Nat) (c:PV),cs[j]? =some c->G.F ⟨b,o+i*sz+j,none⟩=some (g i j))
 (g4: ∀(i:Nat) (cs:List PV) (j:Nat) (c:PV),fs[i]? =some cs->cs[j]? =some c->V G H.next c (g i j))
 (hroom:es.length+fs.length<=cap):
 ∃x w' G',(Builtin.append_ #[t,t] ty #[.slice (some ⟨b,0,none⟩) es.length cap,.slice AP fs.length cap']).run P w= .ok x w'/\Tr B w w'/\Ext B H.next G G'/\H.next<=(H.use k).tok.next/\HM B (H.use k).tok G' w'/\
  V G' (H.use k).tok.next (.ah (es++fs) (.tok H.next)) x:=by
 obtain⟨b',o',rfl,hF'⟩:=g3;have hlen1: ∀(i:Nat) (cs:List PV),fs[i]? =some cs->cs.length=sz:=fun i cs e=>(hsz' _ (B1 e)).1;obtain⟨news,n1,n2,n3,n4⟩:=Qh hM rfl hlen1 hF';obtain⟨q0,b0,o0,arr,t0,q1,q2,q3,q5⟩:=hM.tok k hk;rw [q1]at Bb;simp only [L1,k9]at Bb;obtain⟨rfl,rfl,hsize⟩:=Bb;have hone: ∀v∈news,v.oneCell'=true:=fun v hv=>by
  obtain⟨i,j,hi,hj,rfl⟩:=n4 v hv;have hc:fs[i]? =some fs[i]:=by simp
  have hcl:=hlen1 i _ hc;exact aaS (g4 i fs[i] j (fs[i][j]'(by omega)) hc (by simp)) ((hsz' _ (L3 hi)).2 _ (L3 (by omega)))
 have hfit:es.length*sz+news.length<=arr.size:=by
  rw [n1,hsize,<-C3];exact Z3 _ hroom
 have hst:=run_storeCells_at P b0 (es.length*sz) t0 news 0 arr w q3 (by simpa using hfit) hone;simp only [S4]at hst;have hfc:=run_firstCells_some (P:=P) w sz fs.length ⟨b',o',none⟩ fs.length cap' news n1 n3
 have hrun:(Builtin.append_ #[t,t] ty #[.slice (some ⟨b0,0,none⟩) es.length cap,.slice (some ⟨b',o',none⟩) fs.length cap']).run P w=
  .ok (.slice (some ⟨b0,0,none⟩) (es.length+fs.length) cap) (w.setRow b0 (arr.toList.take (es.length*sz)++news++arr.toList.drop (es.length*sz+news.length)).toArray):=by
  simp [Builtin.append_,run_underlying ht,gU hse,Builtin.lenOf,hroom,hfc,Addr.add_lit,hst]
 have hlen:(arr.toList.take (es.length*sz)++news++arr.toList.drop (es.length*sz+news.length)).toArray.size=arr.size:=by simp;omega
 have hmul: ∀i j n,i<n->j<sz->i*sz+j<n*sz:=fun i j n h h'=>by
  have:(i+1)*sz<=n*sz:=Z3 _ h;rw [C3,N6]at this;omega
 obtain⟨G',e1,e2,e3,e4,e5⟩:=hM.avr (arr':=(arr.toList.take (es.length*sz)++news++arr.toList.drop (es.length*sz+news.length)).toArray) ((es.length+fs.length)*sz) hk q1 q3 hlen
  (Z3 _ (by omega)) (by rw [hsize];exact Z3 _ hroom) (fun j hj=>by
   have:(arr.toList.take (es.length*sz)++news++arr.toList.drop (es.length*sz+news.length))[j]? =arr[j]? :=by
    rw [T1,C0 (by simp;omega),D3 hj,W4]
   simpa using this)
 refine⟨_,_,G',hrun,Tr.setRow e5 _,e1,W6 _,e2,?_⟩;refine abC hsz hsz' (fun i cs j c e ec=>(h4 i cs j c e ec).mono e1 (W6 _)) (fun i cs j c e ec=>(g4 i cs j c e ec).mono e1 (W6 _)) (fun i j hi hj=> ?_) (fun i j hi hj=> ?_) hroom ?_
 · have hc:es[i]? =some es[i]:=by simp
   have hcl:=(hsz _ (L3 hi)).1;have:=e1.F _ _ (h3 i _ hc j (es[i][j]'(by omega)) (by simp))
   rwa [V1]at this
 · have h1:=hmul i j _ hi hj;have h2:(es.length+i)*sz+j=es.length*sz+(i*sz+j):=by rw [C3];omega
   refine e4 _ _ (by omega) (hmul _ _ _ (by omega) hj) ?_;rw [h2];have:(arr.toList.take (es.length*sz)++news++arr.toList.drop (es.length*sz+news.length))[es.length*sz+(i*sz+j)]? =some (g i j):=by
    rw [T1,N0 (by simp;omega),C0 (by simp;omega)];have:es.length*sz+(i*sz+j) -(List.take (es.length*sz) arr.toList).length=i*sz+j:=by simp;omega
    rw [this];exact n2 i j hi hj
   simpa using this
 · refine .inr ⟨?_,A2 _,b0,rfl,?_⟩
   · have:es.length≠0:=fun h=>he (T4 h);omega
   · rw [e3,hlen,hsize]
theorem abD {es:List (List PV)} {s sz:Nat} (h1: ∀(i:Nat) (cs:List PV),es[i]? =some cs->cs.length=s) (h2:rC sz es) (hne:es≠[]):s=sz:=by
 obtain⟨c0,l0,rfl⟩:=uA hne;have:=h1 0 c0 rfl;have:=(h2 c0 (by simp)).1;omega
theorem aj2 (hU:Up B w) (hM:HM B H G w) {t ty e:TypeId} {sz bytes:Nat} {z:List PV} {x y q:PV} {u v:Value} (ht:P.underlying t=some (.slice e)) (hse:sizeT P e=some sz) (hbe:xQ P e=some bytes)
 (hz:mY P e=some z) (hs0:0<sz) (hb0:0<bytes) (hu:V G H.next x u) (hv:V G H.next y v) (h:Ma sz bytes H x y=some (q,H')):
 ∃r w' G',(Builtin.append_ #[t,t] ty #[u,v]).run P w= .ok r w'/\Tr B w w'/\Ext B H.next G G'/\H.next<=H'.next/\HM B H' G' w'/\V G' H'.next q r:=by
 obtain⟨ti,zv,hi,hzv,hzs,Cg,_⟩:=Ce (P:=P) (G:=G) (H:=H) hz;have hsi:ti.size=sz:=by simpa [sizeT,hi]using hse
 have hbi:ti.bytes=bytes:=by simpa [xQ,hi]using hbe
 cases hu with
 |ah es c s ad cap f h1 h2 h3 h4 h5=>
  cases hv with
  |ah fs c' s' AP cap' g k1 k2 k3 k4 k5=>
   simp only [Ma]at h;split at h
   · rename_i h0;cases h;rw [h0];exact⟨_,w,G,Rp ht hse h2,Tr.refl B w,Ext.refl B _ G,R0 _,hM,.ah es c s ad cap f h1 h2 h3 h4 h5⟩
   · rename_i h0;split at h
     · rename_i hcond;obtain⟨hc1,hc2,hc3⟩:=hcond;have Od:fs≠[]:=fun e=>h0 (by rw [e];rfl);have hs':s'=sz:=abD k1 hc2 Od;subst hs';have hss:es≠[]->s=s':=fun hne=>abD h1 hc1 hne;have h3':es≠[]-> ∃b o,ad=some ⟨b,o,none⟩/\ ∀(i:Nat) (cs:List PV),es[i]? =some cs-> ∀(j:Nat) (c:PV),cs[j]? =some c->G.F ⟨b,o+i*s'+j,none⟩=some (f i j):=fun hne=>by
        have:=hss hne;subst this;exact h3 hne
       cases c with
       |unk=>cases h
       |nil=>
        cases h;obtain⟨rfl,e2,rfl⟩:=h5;exact Mc hU hM ht hi hzv hsi (by omega) hbi hb0 hs0 hc1 hc2 hc3 h3' h4 (k3 Od) k4 (by omega) h2 (fun _=>rfl) (by omega)
       |exact=>
        cases h;have hce:cap=es.length:=h5;refine Mc hU hM ht hi hzv hsi (by omega) hbi hb0 hs0 hc1 hc2 hc3 h3' h4 (k3 Od) k4 (by omega) h2 (fun hn=> ?_) (by omega);by_cases hes:es=[]
        · rw [hce,hes];rfl
        · obtain⟨b,o,JI,_⟩:=h3 hes;rw [hn]at JI;cases JI
       |tok k=>
        simp only at h;split at h
        · rename_i hlive;cases h;rcases h5 with hce|⟨hne,hkn,b,rfl,Bb⟩
          ·
            have hgr:=Mc (B:=B) (t:=t) (ty:=ty) (cap':=cap') (cap:=cap) hU hM ht hi hzv hsi (by omega) hbi hb0 hs0 hc1 hc2 hc3 h3' h4 (k3 Od) k4 (by omega) h2 (fun hn=>by
             by_cases hes:es=[]
             · rw [hce,hes];rfl
             · obtain⟨b,o,JI,_⟩:=h3 hes;rw [hn]at JI;cases JI) (by omega)
            obtain⟨r,w',G',r1,r2,r3,r4,r5,r6⟩:=hgr;refine⟨r,w',G',r1,r2,r3,r4,?_,r6⟩;have hk0:k≠H.next:=by have:=(hM.tok k hlive).1;omega
            exact⟨r5.glob,r5.su,r5.obj,r5.inj,fun l e=>by
                 have e':(if l=H.next then true else(if l=k then false else H.live l))=true:=e;refine r5.tok l ?_;show(if l=H.next then true else H.live l)=true;split at e'
                 · rename_i hh;rw [if_pos hh]
                 · rename_i hh;rw [if_neg hh];split at e'
                   · cases e'
                   · exact e',
             fun l l' b o e o' e' hl hl'=>r5.sS l l' b o e o' e' (by
                 have e':(if l=H.next then true else(if l=k then false else H.live l))=true:=hl;show(if l=H.next then true else H.live l)=true;split at e'
                 · rename_i hh;rw [if_pos hh]
                 · rename_i hh;rw [if_neg hh];split at e'
                   · cases e'
                   · exact e') (by
                 have e':(if l'=H.next then true else(if l'=k then false else H.live l'))=true:=hl';show(if l'=H.next then true else H.live l')=true;split at e'
                 · rename_i hh;rw [if_pos hh]
                 · rename_i hh;rw [if_neg hh];split at e'
                   · cases e'
                   · exact e'),
             fun l i b o e hl=>r5.tobj l i b o e (by
                 have e':(if l=H.next then true else(if l=k then false else H.live l))=true:=hl;show(if l=H.next then true else H.live l)=true;split at e'
                 · rename_i hh;rw [if_pos hh]
                 · rename_i hh;rw [if_neg hh];split at e'
                   · cases e'
                   · exact e'),r5.wh⟩
          · have hes:es≠[]:=fun e=>hne (by rw [e];rfl);have:=hss hes;subst this;obtain⟨b1,o1,JI,hF⟩:=h3 hes;cases JI;by_cases hroom:es.length+fs.length<=cap
            · exact amO hM ht hse hc1 hc2 hlive Bb hes hF h4 (k3 Od) k4 hroom
            · have hgr:=Mc (B:=B) (t:=t) (ty:=ty) (cap':=cap') (cap:=cap) hU hM ht hi hzv hsi (by omega) hbi hb0 hs0 hc1 hc2 hc3 h3' h4 (k3 Od) k4 (by omega) h2 (fun hn=>by cases hn) (by omega);obtain⟨r,w',G',r1,r2,r3,r4,r5,r6⟩:=hgr;refine⟨r,w',G',r1,r2,r3,r4,?_,r6⟩;have hsub: ∀l,(H.use k).tok.live l=true->H.tok.live l=true:=fun l e=>by
                 have e':(if l=H.next then true else(if l=k then false else H.live l))=true:=e;show(if l=H.next then true else H.live l)=true;split at e'
                 · rename_i hh;rw [if_pos hh]
                 · rename_i hh;rw [if_neg hh];split at e'
                   · cases e'
                   · exact e'
              exact⟨r5.glob,r5.su,r5.obj,r5.inj,fun l e=>r5.tok l (hsub l e),fun l l' b o e o' e' hl hl'=>r5.sS l l' b o e o' e' (hsub l hl) (hsub l' hl'),fun l i b o e hl=>r5.tobj l i b o e (hsub l hl),r5.wh⟩
        · cases h
     · cases h
  |_=>simp [Ma]at h
 |_=>simp [Ma]at h
theorem Me (z:List PV) (hz:0<z.length): ∀(n:Nat),((List.replicate n z).flatten).length=n*z.length/\ ∀j,j<n*z.length->((List.replicate n z).flatten)[j]? =z[j% z.length]?
 |0=>⟨by simp,by simp⟩
 |n+1=>by
  obtain⟨h1,h2⟩:=Me z hz n;refine⟨by rw [n8,A4,X1,h1,C3,N6,d7],fun j hj=> ?_⟩;rw [n8,A4];rcases D1 j z.length with h|h
  · rw [C0 h,DA h]
  · rw [C3,N6]at hj;rw [N0 h,h2 _ (by omega)];congr 1;rw [Nat.mod_eq_sub_mod h]
theorem amP (hU:Up B w) (hM:HM B H G w) {t e:TypeId} {sz bytes:Nat} {z:List PV} {k k':IntKind} {l c:Int} (ht:P.underlying t=some (.slice e)) (hse:sizeT P e=some sz) (hbe:xQ P e=some bytes) (hz:mY P e=some z)
 (h0:0<=l) (hlc:l<=c) (hc:c<=1099511627776) (hb:bytes*c<=1099511627776) (hs:sz=z.length) (hs0:0<sz):
 ∃x w' G',(Instr.makeSlice t (.int k l) (.int k' c)).run P w= .ok x w'/\Tr B w w'/\Ext B H.next G G'/\H.next<=(H.new (List.replicate c.toNat z).flatten).next/\HM B (H.new (List.replicate c.toNat z).flatten) G' w'/\
  V G' (H.new (List.replicate c.toNat z).flatten).next (.bP H.next 0 l.toNat c.toNat sz) x:=by
 obtain⟨ti,zv,hi,hzv,hzs,Cg,hzl⟩:=Ce (P:=P) (G:=G) (H:=H) hz;have hsi:ti.size=sz:=by simpa [sizeT,hi]using hse
 have hbi:ti.bytes=bytes:=by simpa [xQ,hi]using hbe
 have hr:=run_make (P:=P) w t e ti zv ht hi hzv k k' l c h0 hlc (by rw [hbi];omega) (by omega);obtain⟨f1,f2⟩:=Me z (by omega) c.toNat;have hV:Vs G H.next (List.replicate c.toNat z).flatten (madeCells zv.cells (c.toNat*ti.size)):=by
  refine⟨by rw [f1];simp [madeCells,hsi,hs],fun j p x e e'=> ?_⟩;have hj:j<c.toNat*z.length:=by
   rw [<-f1];rcases D1 j ((List.replicate c.toNat z).flatten).length with h'|h'
   · exact h'
   · rw [R1 h']at e;cases e
  rw [f2 j hj]at e;have hm:j% z.length<zv.cells.size:=by rw [Cg.1];exact KB _ (by omega)
  have hx:x=zv.cells[j% z.length]:=by
   have hj':j<c.toNat*ti.size:=by rw [hsi,hs];exact hj
   simp [madeCells,hj',Cg.1]at e';rw [<-e'];simp [hm]
  rw [hx];exact Cg.2 _ _ _ e (by simp)
 obtain⟨G',e1,e2,e3⟩:=HM.newObj hU hM e hV;exact⟨_,_,G',hr,Tr.alloc w _,e1,W6 _,e2,.bP _ _ _ _ _ _ (A2 _) e3⟩
theorem aj3 {o:Oper} {k:DK} {p:PV} (hc:iC P o= .d k) (hs:Sl G H.next σ a) (hU:Up B w) (hM:HM B H G w) (hr:jc k σ H=some (p,H')):GA P B G H H' w (execOp a.eval o) p:=by
 obtain⟨dst,op,ty,pos,after,guard⟩:=o;unfold iC at hc;split at hc
 · split at hc<;>cases hc
 · split at hc<;>cases hc
 · split at hc<;>cases hc
 · rename_i t hx;simp only at hx;subst hx;split at hc
   · rename_i z hz;cases hc;simp only [jc,L1,k9]at hr;obtain⟨rfl,rfl⟩:=hr;exact GA.Iq (aj0 hU hM hz)
   · cases hc
 · rename_i t x hx;simp only at hx;subst hx;split at hc
   · rename_i e s he hsz;cases hc;simp only [jc]at hr;split at hr
     · rename_i cs hcs;simp only [L1,k9]at hr;obtain⟨rfl,rfl⟩:=hr;exact GA.Iq (asU hU hM (FB (fO hs he) hcs))
     · cases hr
   · cases hc
 · split at hc
   · split at hc
     · split at hc<;>cases hc
     · cases hc
   · cases hc
 · split at hc
   · split at hc
     · split at hc<;>cases hc
     · cases hc
   · cases hc
 · split at hc<;>cases hc
 · rename_i t x v hx;simp only at hx;subst hx;split at hc
   · rename_i e1 e2 s h1 h2 hsz;cases hc;simp only [jc]at hr;split at hr
     · rename_i id off vs hq hv;split at hr
       · rename_i cs ho;split at hr
         · rename_i hcond;simp only [L1,k9]at hr;obtain⟨rfl,rfl⟩:=hr;have hV1:=fO hs h1;rw [hq]at hV1;obtain⟨w',r1,r2,r3⟩:=aj1 hM hsz hV1 (FB (fO hs h2) hv) ho hcond.1 hcond.2.1 hcond.2.2;exact⟨undef,w',G,.inr ⟨by simp [execOp,r1],rfl⟩,r2,Ext.refl B _ G,R0 _,r3,.any _⟩
         · cases hr
       · cases hr
     · cases hr
   · cases hc
 · split at hc<;>cases hc
 · split at hc<;>cases hc
 · split at hc<;>cases hc
 · split at hc<;>cases hc
 · split at hc<;>cases hc
 · split at hc<;>cases hc
 · rename_i t n c hx;simp only at hx;subst hx;split at hc
   · rename_i e ht;split at hc
     · rename_i s b z x y hse hbe hz hn hcap;split at hc
       · rename_i hb0;cases hc;simp only [jc]at hr;split at hr
         · rename_i k1 l k2 m hq1 hq2;split at hr
           · rename_i hcond;simp only [L1,k9]at hr;obtain⟨rfl,rfl⟩:=hr;have hV1:=fO hs hn;have hV2:=fO hs hcap;rw [hq1]at hV1;rw [hq2]at hV2;generalize hv1:a.eval n=v1 at hV1;generalize hv2:a.eval c=v2 at hV2;cases hV1;cases hV2;have:=amP (P:=P) (k:=k1) (k':=k2) hU hM ht hse hbe hz hcond.1 hcond.2.1 hcond.2.2.1 hcond.2.2.2.1 hcond.2.2.2.2.1 hcond.2.2.2.2.2;have key:=GA.Iq this;rw [<-hv1,<-hv2]at key;exact key
           · cases hr
         · cases hr
       · cases hc
     · cases hc
   · cases hc
 · split at hc
   · cases hc
   · split at hc<;>cases hc
   · cases hc
 · split at hc
   · split at hc
     · split at hc<;>cases hc
     · cases hc
   · cases hc
 · split at hc
   · split at hc
     · split at hc<;>cases hc
     · cases hc
   · cases hc
 · split at hc
   · split at hc<;>cases hc
   · split at hc<;>cases hc
   · cases hc
 · split at hc<;>cases hc
 · split at hc<;>cases hc
 · rename_i c hx;simp only at hx;subst hx;obtain⟨callee,args,argTypes⟩:=c;split at hc
   · split at hc<;>cases hc
   · rename_i f b hb;simp only at hb;subst hb;split at hc
     · split at hc<;>cases hc
     · split at hc<;>cases hc
     · rename_i t u e1 e2 hat hargs;split at hc
       · rename_i e ht;split at hc
         · rename_i s y z hse hbe hz;split at hc
           · rename_i hcond;cases hc;obtain⟨hs0,hb0,rfl⟩:=hcond;have hat':argTypes=#[u,u]:=by simpa using congrArg List.toArray hat
             obtain⟨x1,x2,hx⟩: ∃x1 x2,args=#[x1,x2]:=by
              have:args.toList.length=2:=by
                 have: ∀(l:List Operand) (es:List AE),nC l=some es->l.length=es.length:=by
                  intro l
                  induction l with
                  |nil=>intro es h;simp [nC]at h;subst h;rfl
                  |cons y l ih=>
                     intro es h;unfold nC at h;split at h;·rename_i hh;cases h;simp [ih _ hh]
                     · cases h
                 simpa using this _ _ hargs
              match args,this with
              |⟨[x1,x2]⟩,_=>exact⟨x1,x2,rfl⟩
             subst hat';subst hx;have hV1:V G H.next (e1.ev σ) (a.eval x1):=(nD hs hargs).2 0 (e1.ev σ) (a.eval x1) rfl rfl;have hV2:V G H.next (e2.ev σ) (a.eval x2):=(nD hs hargs).2 1 (e2.ev σ) (a.eval x2) rfl rfl;simp only [jc]at hr;obtain⟨r,w',G',r1,r2⟩:=aj2 (P:=P) (ty:=ty) hU hM ht hse hbe hz hs0 hb0 hV1 hV2.KS hr;exact⟨r,w',G',.inl (by simp [execOp,resolve,invoke,builtin,r1]),r2⟩
           · cases hc
         · cases hc
       · cases hc
     · cases hc
     · cases hc
     · cases hc
   · cases hc
 · cases hc
end
end Go.VL
end
section
namespace Go.VL
variable [Glob]
section
variable {P:Program} {B:Nat->Prop} {G:Gh} {H H':AH} {σ:Nat->PV} {a:Act} {w:World}
theorem vK {sz:Nat}: ∀{es:List (List PV)},(∀cs∈es,cs.length=sz)->es.flatten.length=es.length*sz
 |[],_=>by simp
 |c::es,h=>by
  rw [A4,X1,vK fun cs hc=>h cs (I1 _ hc),h c (A1 ..),I0,C3,N6,d7]
theorem Kw {sz:Nat} (hpos:0<sz): ∀{es:List (List PV)},(∀cs∈es,cs.length=sz)-> ∀(k:Nat) (c:PV),es.flatten[k]? =some c-> ∃cs,es[k/sz]? =some cs/\cs[k% sz]? =some c
 |[],_,k,c,e=>by simp at e
 |x::es,h,k,c,e=>by
  have hx:=h x (A1 ..);rw [A4]at e;rcases D1 k sz with hk|hk
  · rw [C0 (by omega)]at e;rw [BB hk,DA hk];exact⟨x,rfl,e⟩
  · rw [N0 (by omega),hx]at e;obtain⟨cs,h1,h2⟩:=Kw hpos (fun cs hc=>h cs (I1 _ hc)) _ _ e;have hd:k/sz=(k -sz)/sz+1:=Nat.div_eq_sub_div hpos hk;rw [hd,Nat.mod_eq_sub_mod hk];exact⟨cs,by simpa using h1,h2⟩
theorem Gg (sz len:Nat) (l:List PV):(chunks sz len l).length=len:=by simp [chunks]
theorem chunks_flatten (sz:Nat): ∀(len:Nat) (l:List PV),len*sz<=l.length->(chunks sz len l).flatten=l.take (len*sz)
 |0,l,_=>by simp [chunks]
 |len+1,l,h=>by
  have hle:len*sz+sz<=l.length:=by rw [C3,N6]at h;exact h
  have:chunks sz (len+1) l=chunks sz len l++[(l.drop (len*sz)).take sz]:=by simp [chunks,List.range_succ]
  rw [this,pA,chunks_flatten sz len l (by omega)];simp only [A4,List.flatten_nil,W3];rw [C3,N6,List.take_add]
theorem JJ (hM:HM B H G w) {sz:Nat} (hpos:0<sz) {y:PV} {v:Value} {fs:List (List PV)} (hv:V G H.next y v) (h:rowOf sz H y=some fs) (hsz:rC sz fs):
 ∃(ad:Option Addr) (cap:Nat) (news:List Value),v= .slice ad fs.length cap/\news.length=fs.length*sz/\Vs G H.next fs.flatten news.toArray/\(∀v∈news,v.oneCell'=true)/\(fs≠[]-> ∃a0,ad=some a0/\ ∀j x,news[j]? =some x->w.cell? (a0.add j)=some x):=by
 have hlen: ∀cs∈fs,cs.length=sz:=fun cs hc=>(hsz cs hc).1;have hfl:=vK hlen;have aj4: ∀news:List Value,news.length=fs.length*sz->Vs G H.next fs.flatten news.toArray-> ∀v∈news,v.oneCell'=true:=fun news hl hV v hv=>by
  obtain⟨j,hj,rfl⟩:=List.mem_iff_getElem.1 hv;have hj':j<fs.flatten.length:=by rw [hfl,<-hl];exact hj
  have h1:=hV.2 j (fs.flatten[j]) news[j] (by simp) (by simp);obtain⟨cs,hc,hc'⟩:=uB.1 (L3 hj');exact aaS h1 ((hsz cs hc).2 _ hc')
 cases hv with
 |ah es c s ad cap f h1 h2 h3 h4 h5=>
  simp only [rowOf,L1]at h;subst h;by_cases hes:es=[]
  · subst hes;exact⟨ad,cap,[],rfl,by simp,⟨by simp,by simp⟩,by simp,fun h=>absurd rfl h⟩
  · obtain⟨b,o,rfl,hF⟩:=h3 hes;have hs:s=sz:=abD h1 hsz hes;subst hs;obtain⟨l,l1,l2,l3,l4⟩:=Qh hM rfl h1 hF;have hV:Vs G H.next es.flatten l.toArray:=by
     refine⟨by simp [hfl,l1],fun j c x e e'=> ?_⟩;obtain⟨cs,g1,g2⟩:=Kw hpos hlen j c e;have hi:j/s<es.length:=(S0.1 g1).1;have hx:=l2 (j/s) (j% s) hi (KB _ hpos);have hadd:=VC j s;rw [f7]at hadd;rw [hadd]at hx;have:x=f (j/s) (j% s):=by simpa [hx]using e'.symm
     subst this;exact h4 _ _ _ _ g1 g2
    exact⟨_,cap,l,rfl,l1,hV,aj4 l l1 hV,fun _=>⟨_,rfl,l3⟩⟩
 |bP id off len cap s b h1 h2=>
  simp only [rowOf]at h;split at h
  · rename_i cs ho;split at h
    · rename_i hc;cases h;obtain⟨rfl,hle⟩:=hc;obtain⟨_,b',arr,t,k1,_,k3,k4,_⟩:=hM.obj id cs ho;have:b'=b:=by rw [k1]at h2;exact V2 h2
      subst this;have hk:=k4.1;have hfe:(chunks s len (cs.drop off)).flatten=(cs.drop off).take (len*s):=chunks_flatten s len _ (by simp;omega);have hV:Vs G H.next (chunks s len (cs.drop off)).flatten ((arr.toList.drop off).take (len*s)).toArray:=by
       rw [hfe];refine⟨by simp;omega,fun j c x e e'=> ?_⟩;have hj:j<len*s:=by
            rcases D1 j (len*s)with h'|h'
            · exact h'
            · rw [R1 (by simp;omega)]at e;cases e
       rw [D3 hj,Q3]at e;have e2:((arr.toList.drop off).take (len*s))[j]? =some x:=by simpa using e'
       rw [D3 hj,Q3,W4]at e2;exact k4.2 _ _ _ e e2
      have hl:((arr.toList.drop off).take (len*s)).length=(chunks s len (cs.drop off)).length*s:=by rw [Gg];simp;omega
      refine⟨_,cap,(arr.toList.drop off).take (len*s),by rw [Gg],hl,hV,aj4 _ hl hV,fun _=>⟨_,rfl,fun j x e=> ?_⟩⟩;have hj:j<len*s:=by
       rcases D1 j (len*s)with h'|h'
       · exact h'
       · rw [R1 (by simp;omega)]at e;cases e
      rw [D3 hj,Q3,W4]at e;rw [add_lit,wY k3];exact e
    · cases h
  · cases h
 |_=>simp [rowOf]at h
theorem Vs.app {n:Nat} {xs ys:List PV} {us vs:Array Value} (h:Vs G n xs us) (h':Vs G n ys vs):Vs G n (xs++ys) (us++vs):=by
 refine⟨by simp [h.1,h'.1],fun j c x e e'=> ?_⟩;have:=h.1;rcases D1 j xs.length with hj|hj
 · rw [C0 hj]at e;rw [B6 (by omega)]at e';exact h.2 j c x e e'
 · rw [N0 hj]at e;rw [FA (by omega),this]at e';exact h'.2 _ c x e e'
theorem Vs.Xl (n m:Nat) (arr:Array Value) (h:arr.size=m):Vs G n (List.replicate m .any) arr:=by
 refine⟨by simp [h],fun j c x e e'=> ?_⟩;have:c= .any:=by
  have:=B1 e;exact(sC.1 this).2
 subst this;exact .any x
theorem Xm (hM:HM B H G w) {id b off:Nat} {cs vs:List PV} {news:List Value} (ho:H.obj id=some cs) (hm:G.m id=some b) (hV:Vs G H.next vs news.toArray) (hone: ∀v∈news,v.oneCell'=true) (hle:off+vs.length<=cs.length):
 ∃w',(storeCells ⟨b,off,none⟩ news).run P w= .ok () w'/\Tr B w w'/\HM B (H.put id (putCells cs off vs)) G w':=by
 obtain⟨_,b',arr,t,k1,k2,k3,k4,_⟩:=hM.obj id cs ho;have:b'=b:=by rw [k1]at hm;exact V2 hm
 subst this;have hs:=k4.1;have hvl:news.length=vs.length:=by have:=hV.1;simpa using this
 have hst:=run_storeCells_at P b' off t news 0 arr w k3 (by rw [hs,hvl];omega) hone;simp only [S4]at hst;refine⟨_,hst,?_⟩;have hV':Vs G H.next (putCells cs off vs) (arr.toList.take off++news++arr.toList.drop (off+news.length)).toArray:=by
  refine⟨by rw [CW (by omega)];simp;omega,fun j c x e e'=> ?_⟩;rw [Io (by omega)]at e;have e2:(arr.toList.take off++news++arr.toList.drop (off+news.length))[j]? =some x:=by simpa using e'
  by_cases hj:off<=j/\j<off+vs.length
  · rw [if_pos hj]at e;rw [T1,N0 (by simp;omega),C0 (by simp;omega)]at e2;have:j -(List.take off arr.toList).length=j -off:=by simp;omega
    rw [this]at e2;exact hV.2 _ _ _ e (by simpa using e2)
  · rw [if_neg hj]at e;by_cases h4:j<off
    · rw [T1,C0 (by simp;omega),D3 h4,W4]at e2;exact k4.2 _ _ _ e e2
    · rw [N0 (by simp;omega),Q3,W4]at e2;have:off+news.length+(j -(List.take off arr.toList++news).length)=j:=by simp;omega
      rw [this]at e2;exact k4.2 _ _ _ e e2
 obtain⟨g1,g2⟩:=hM.putObj ho k1 k3 hV';exact⟨Tr.setRow g2 _,g1⟩
set_option maxHeartbeats 1600000 in
theorem ahy (hU:Up B w) (hM:HM B H G w) {t ty e:TypeId} {sz bytes:Nat} {z:List PV} {x y:PV} {u v:Value} {K:PV->AH->Prop} (ht:P.underlying t=some (.slice e)) (hse:sizeT P e=some sz) (hbe:xQ P e=some bytes)
 (hz:mY P e=some z) (hs0:0<sz) (hb0:0<bytes) (hu:V G H.next x u) (hv:V G H.next y v) (h:vJ sz bytes H x y K):
 ∃q H',K q H'/\ ∃r w' G',(Builtin.append_ #[t,t] ty #[u,v]).run P w= .ok r w'/\Tr B w w'/\Ext B H.next G G'/\H.next<=H'.next/\HM B H' G' w'/\V G' H'.next q r:=by
 obtain⟨ti,zv,hi,hzv,hzs,Cg,_⟩:=Ce (P:=P) (G:=G) (H:=H) hz;have hsi:ti.size=sz:=by simpa [sizeT,hi]using hse
 have hbi:ti.bytes=bytes:=by simpa [xQ,hi]using hbe
 unfold vJ at h;split at h
 · rename_i es fs hes hfs;split at h
   · rename_i h0;have hf0:fs=[]:=T4 h0;subst hf0;obtain⟨AP,cap',news',rfl,_⟩:=JJ hM hs0 hv hfs (by intro c hc;cases hc);have hux:=hu;cases hu with
     |ah es' c s ad cap f h1 h2 h3 h4 h5=>exact⟨_,H,h,_,w,G,Rp ht hse h2,Tr.refl B w,Ext.refl B _ G,R0 _,hM,hux⟩
     |bP id off len cap s b h1 h2=>
      simp only at h;split at h
      · rename_i hlc;exact⟨_,H,h,_,w,G,Rp ht hse hlc,Tr.refl B w,Ext.refl B _ G,R0 _,hM,hux⟩
      · cases h
     |_=>simp [rowOf]at hes
   · rename_i h0;split at h
     · rename_i hcond;obtain⟨hc1,hc2,hc3⟩:=hcond;have aps: ∀cs∈es,cs.length=sz:=fun cs hc=>(hc1 cs hc).1;have hlen1: ∀cs∈fs,cs.length=sz:=fun cs hc=>(hc2 cs hc).1;have Od:fs≠[]:=fun e=>h0 (by rw [e];rfl);obtain⟨AP,cap',news,rfl,n1,nV,none',n5⟩:=JJ hM hs0 hv hfs hc2;obtain⟨a',rfl,n6⟩:=n5 Od;obtain⟨ad,cap0,olds,hu0,o1,oV,_,o5⟩:=JJ hM hs0 hu hes hc1;have hsmall:es.length+fs.length<=1099511627776:=E1 (GB _ hb0) hc3;have hfit: ∀old,old<es.length+fs.length->Builtin.nextslicecap (es.length+fs.length) old*ti.bytes<=281474976710656:=fun old ho=>growslice_fits ho (by rw [hbi];omega);have fin: ∀cap,cap<es.length+fs.length->(ad=none->es=[]/\cap=0)->BN sz bytes H es fs K-> ∃q H',K q H'/\ ∃r w' G',(Builtin.append_ #[t,t] ty #[.slice ad es.length cap,.slice (some a') fs.length cap']).run P w= .ok r w'/\Tr B w w'/\Ext B H.next G G'/\H.next<=H'.next/\HM B H' G' w'/\V G' H'.next q r:=by
        intro cap hcap hnil hK
        have mk: ∀(N:Nat) (rest:Array Value) (os:List Value),es.length+fs.length<=N->rest.size=(N -(es.length+fs.length))*sz->Vs G H.next es.flatten os.toArray->
         ∃q H',K q H'/\ ∃G',Tr B w (w.drew.alloc (.cells (os.toArray++news.toArray++rest) e))/\Ext B H.next G G'/\H.next<=H'.next/\HM B H' G' (w.drew.alloc (.cells (os.toArray++news.toArray++rest) e))/\
          V G' H'.next q (.slice (some ⟨w.heap.size,0,none⟩) (es.length+fs.length) N):=by
         intro N rest os hN hrest hos;have hV:Vs G H.next ((es++fs).flatten++List.replicate ((N -(es.length+fs.length))*sz) .any) (os.toArray++news.toArray++rest):=by
          rw [pA];exact(hos.app nV).app (Vs.Xl _ _ _ hrest)
         obtain⟨G',e1,e2,e3⟩:=HM.newObj (w:=w.drew) hU hM.drew e hV;exact⟨_,_,hK N hN,G',Tr.FC w _,e1,W6 _,e2,.bP _ _ _ _ _ _ (A2 _) e3⟩
        cases ad with
        |none=>
         obtain⟨rfl,rfl⟩:=hnil rfl;have hr:=run_append_nil (P:=P) w t ty e ti zv ht hi hzv a' fs.length cap' news (by rw [hsi];exact n1) n6 (by omega) (by simp at hsmall;omega) (by simp at hc3;rw [hbi];omega);have hge:=grownCap_ge w fs.length 0 e;obtain⟨q,H',q1,G',q2,q3,q4,q5,q6⟩:=mk (grownCap w fs.length 0 e) (Builtin.zeroCells zv.cells (grownCap w fs.length 0 e -fs.length)) [] (by simpa using hge) (by rw [size_zeroCells,hzs,hsi];simp) ⟨by simp,by simp⟩;simp only [j0,V1,Array.empty_append]at q2 q5 q6;exact⟨q,H',q1,_,_,G',by simpa using hr,q2,q3,q4,q5,q6⟩
        |some a0=>
         have holds: ∃os:List Value,os.length=es.length*ti.size/\(∀j v,os[j]? =some v->w.cell? (a0.add j)=some v)/\Vs G H.next es.flatten os.toArray:=by
          by_cases he:es=[]
          · subst he;exact⟨[],by simp,by simp,⟨by simp,by simp⟩⟩
          · obtain⟨a1,h1,h2⟩:=o5 he;cases h1;exact⟨olds,by rw [hsi];exact o1,h2,oV⟩
         obtain⟨os,s1,s2,s3⟩:=holds;have hr:=run_append_grow (P:=P) w t ty e ti zv ht hi hzv a0 es.length cap os s1 s2 a' fs.length cap' news (by rw [hsi];exact n1) n6 hcap (by omega) (hfit cap hcap);have hge:=grownCap_ge w (es.length+fs.length) cap e;obtain⟨q,H',q1,G',q2,q3,q4,q5,q6⟩:=mk _ (Builtin.zeroCells zv.cells (grownCap w (es.length+fs.length) cap e -(es.length+fs.length))) os hge (by rw [size_zeroCells,hzs,hsi]) s3;exact⟨q,H',q1,_,_,G',hr,q2,q3,q4,q5,q6⟩
       cases hu with
       |ah es' c s ad1 avt f h1 h2 h3 h4 h5=>
        simp only [rowOf,L1]at hes;subst hes;simp only [Value.slice.injEq]at hu0;obtain⟨rfl,_,rfl⟩:=hu0;cases c with
        |nil=>
         obtain⟨rfl,e2,rfl⟩:=h5;exact fin 0 (by omega) (fun _=>⟨T4 e2,rfl⟩) h
        |exact=>
         have hce:avt=es'.length:=h5;refine fin avt (by have:fs.length≠0:=h0;omega) (fun hn=> ?_) h;by_cases hes:es'=[]
         · exact⟨hes,by rw [hce,hes];rfl⟩
         · obtain⟨b,o,JI,_⟩:=h3 hes;rw [hn]at JI;cases JI
        |unk=>cases h
        |tok k=>cases h
       |bP id off len cap s b h1 h2=>
        have hlen:es.length=len:=by
         simp only [rowOf]at hes;split at hes
         · split at hes
           · cases hes;exact Gg _ _ _
           · cases hes
         · cases hes
        subst hlen;simp only at h;split at h
        · rename_i hroom;split at h
          · rename_i cs ho;split at h
            · rename_i hle;have hfl:=vK hlen1;obtain⟨w',r1,r2,r3⟩:=Xm (P:=P) (off:=off+es.length*sz) hM ho h2 nV none' (by rw [hfl];rw [C3]at hle;omega);have hfc:=run_firstCells_some (P:=P) w sz fs.length a' fs.length cap' news n1 n6;refine⟨_,_,h,.slice (some ⟨b,off,none⟩) (es.length+fs.length) cap,w',G,?_,r2,Ext.refl B _ G,R0 _,r3,.bP _ _ _ _ _ _ h1 h2⟩;simp [Builtin.append_,run_underlying ht,gU hse,Builtin.lenOf,hroom,hfc,Addr.add_lit,r1]
            · cases h
          · cases h
        · rename_i hroom;split at h
          · rename_i hlc;simp only [Value.slice.injEq]at hu0;obtain⟨rfl,_,rfl⟩:=hu0;exact fin cap (by omega) (fun hn=>by cases hn) h
          · cases h
       |_=>simp [rowOf]at hes
     · cases h
 · cases h
end
end Go.VL
end
section
namespace Go.VL
variable [Glob]
section
variable {P:Program} {B:Nat->Prop} {G:Gh} {H H':AH} {σ:Nat->PV} {a:Act} {w:World}
theorem Ir {o:Oper}:Ih P o= .bad\/ ∃k,Ih P o= .n k:=by
 unfold Ih
 repeat' split
 all_goals first|exact .inl rfl|exact .inr ⟨_,rfl⟩
theorem ahz {o:Oper} {s:Nat} {ps:List AE} (h:iC P o= .r (.CO s ps)): ∃t n parts e z,o.op= .buildSlice t n parts/\P.underlying t=some (.slice e)/\sizeT P e=some s/\mY P e=some z/\CS 0 parts.toList=some ps/\ps.length=n/\n*s<=65536/\0<s:=by
 obtain⟨dst,op,ty,pos,after,guard⟩:=o;cases op with
 |buildSlice t n parts=>
  simp only [iC]at h;split at h
  · rename_i e ht;split at h
    · rename_i s' z ps' h1 h2 h3;split at h
      · rename_i hh;cases h;exact⟨t,n,parts,e,z,rfl,ht,h1,h2,h3,hh.1,hh.2.1,hh.2.2⟩
      · cases h
    · cases h
  · cases h
 |call c=>
  obtain⟨callee,args,argTypes⟩:=c;cases callee with
  |value f=>simp only [iC]at h;(repeat' split at h)<;>cases h
  |builtin b=>simp only [iC]at h;(repeat' split at h)<;>cases h
  |invoke r m=>simp only [iC]at h;cases h
 |_=>simp only [iC]at h;(try (repeat' split at h))<;>cases h
theorem aAC {rm:Bool} {o:Oper} {k:RK} (h:JH P rm o= .r k):iC P o= .r k:=by
 unfold JH at h;split at h
 · rcases Ir (P:=P) (o:=o)with e|⟨k',e⟩<;>rw [e]at h<;>cases h
 · split at h<;>cases h
 · rename_i e;split at h
   · cases h
   · cases h;exact e
 · exact h
theorem aAD {rm:Bool} {o:Oper} {k:DK} (h:JH P rm o= .d k):iC P o= .d k:=by
 unfold JH at h;split at h
 · rcases Ir (P:=P) (o:=o)with e|⟨k',e⟩<;>rw [e]at h<;>cases h
 · rename_i e;split at h
   · cases h
   · cases h;exact e
 · split at h<;>cases h
 · exact h
theorem amQ {rm:Bool} {o:Oper} {f:AE} {l:List AE} (h:JH P rm o= .call f l):iC P o= .call f l:=by
 unfold JH at h;split at h
 · rcases Ir (P:=P) (o:=o)with e|⟨k',e⟩<;>rw [e]at h<;>cases h
 · split at h<;>cases h
 · split at h<;>cases h
 · exact h
theorem Iu: ∀{l:List Operand} {es:List AE},nC l=some es->l.length=es.length
 |[],es,h=>by simp [nC]at h;subst h;rfl
 |y::l,es,h=>by
  unfold nC at h;split at h
  · rename_i hh;cases h;simp [Iu hh]
  · cases h
theorem U8 (hs:Sl G H.next σ a) {s:Nat}: ∀{xs:List (Nat×Operand)} {az:List (Nat×Nat×AE)} {cs out:List PV} {arr:Array Value},Ig s xs=some az→kU σ cs az=some out→Vs G H.next cs arr→
 ∃arr',Instr.fill (fun i=>some (i*s,s)) arr (xs.map fun x=>(x.1,a.eval x.2))=some arr'/\Vs G H.next out arr'
 |[],az,cs,out,arr,h,hb,hv=>by
  simp [Ig]at h;subst h;simp [kU]at hb;subst hb;exact⟨arr,rfl,hv⟩
 |(i,x)::xs,az,cs,out,arr,h,hb,hv=>by
   unfold Ig at h;split at h
   · rename_i u r hu hr;cases h;unfold kU at hb;split at hb
     · rename_i vs hvs;split at hb
       · rename_i hc;obtain⟨hc1,hc2⟩:=hc;have hV:=FB (fO hs hu) hvs;obtain⟨arr',e1,e2⟩:=U8 hs hr hb (hv.put hV (by omega));refine⟨arr',?_,e2⟩;simp only [M3,Instr.fill];have h1:=hV.1;have h2:=hv.1;rw [if_neg (by simp;omega)];exact e1
       · cases hb
     · cases hb
   · cases h
theorem amR (hs:Sl G H.next σ a) {t e:TypeId} {n s:Nat} {z:List PV} {parts:Array (Nat×Operand)} {az:List (Nat×Nat×AE)} {out:List PV} (ht:P.underlying t=some (.array n e)) (hz:mY P t=some z) (hse:sizeT P e=some s)
 (hp:Ig s parts.toList=some az) (hb:kU σ z az=some out):
 ∃x,(Instr.build t (parts.map fun(i,x)=>(i,a.eval x))).run P w= .ok x w/\V G H.next (.agg out) x:=by
 obtain⟨ti,zv,hi,hzv,hzs,Cg,_⟩:=Ce (P:=P) (G:=G) (H:=H) hz;obtain⟨arr',e1,e2⟩:=U8 hs hp hb Cg;refine⟨.agg arr',?_,.agg _ _ e2.1 e2.2⟩;have hL':(parts.map fun(i,x)=>(i,a.eval x)).toList=parts.toList.map fun x=>(x.1,a.eval x.2):=by simp
 simp only [Instr.build,zeroValue,typeInfo,Sem.run_bind,run_program,Result.andThen_ok,hi,hzv,Sem.run_pure,run_underlying ht,gU hse,hL'];rw [e1];rfl
theorem asV {n:Nat} (s:List UInt8) (arr:Array Value) (b cap:Nat) (hle:s.length<=cap) (hF: ∀j x,arr[j]? =some x->G.F ⟨b,j,none⟩=some x) (ha: ∀j (hj:j<s.length),arr[j]? =some (.int .u8 (s[j].toNat:Int))):
 V G n (.ah (s.map fun c=>[.int .u8 c.toNat]) .unk) (.slice (some ⟨b,0,none⟩) s.length cap):=by
 have key:=V.ah (G:=G) (n:=n) (s.map fun c=>[PV.int .u8 c.toNat]) .unk 1 (some ⟨b,0,none⟩) cap (fun i _=> .int .u8 ((s[i]?.getD 0).toNat:Int)) (fun i cs e=>by
  simp only [J0,Z1]at e;obtain⟨y,_,rfl⟩:=e;rfl) (by simpa using hle)
  (fun _=>⟨b,0,rfl,fun i cs e j c ec=>by
   simp only [J0,Z1]at e;obtain⟨y,hy,rfl⟩:=e;cases j with
   |succ j=>simp at ec
   |zero=>
    have hi:=(S0.1 hy).1;rw [V1,sA,S4];refine hF _ _ ?_;rw [ha i hi];simp [hi]⟩)
  (fun i cs j c e ec=>by
   simp only [J0,Z1]at e;obtain⟨y,hy,rfl⟩:=e;cases j with
   |succ j=>simp at ec
   |zero=>
    simp only [N2,L1]at ec;subst ec;simp only [hy,E2];exact .int _ _) trivial
 rw [J1]at key;exact key
theorem asW (hU:Up B w) (hM:HM B H G w) {src dst e:TypeId} {s:List UInt8} (h1:P.underlying src=some .string) (h2:P.underlying dst=some (.slice e)) (h3:P.underlying e=some (.int .u8)):
 ∃x w' G',(convert src dst (.string ⟨s.toArray⟩)).run P w= .ok x w'/\Tr B w w'/\Ext B H.next G G'/\H.next<=H.next/\HM B H G' w'/\V G' H.next (.ah (s.map fun c=>[.int .u8 c.toNat]) .unk) x:=by
 have hr:=run_bytes_of_string (P:=P) w src dst e ⟨s.toArray⟩ h1 h2 h3;have hsz:(ByteArray.mk s.toArray).size=s.length:=by simp [ByteArray.size]
 rw [hsz]at hr;obtain⟨G',e1,e2,e3⟩:=HM.newF (w:=w.drew) hU hM.drew (bytesRow ⟨s.toArray⟩ (grownCap w s.length 0 e)) e ((bytesRow ⟨s.toArray⟩ (grownCap w s.length 0 e)).size,(bytesRow ⟨s.toArray⟩ (grownCap w s.length 0 e)).size+1);refine⟨_,_,G',hr,Tr.FC w _,e1,R0 _,e2,?_⟩;refine asV s _ w.heap.size _ (grownCap_ge w _ _ _) e3 fun j hj=> ?_;simp [bytesRow,Array.getElem?_append,hj]
theorem amS (hM:HM B H G w) {t ty e:TypeId} {sz:Nat} {y:PV} {u v:Value} {id off len cap:Nat} {fs:List (List PV)} {cs:List PV} (ht:P.underlying t=some (.slice e)) (hse:sizeT P e=some sz) (hs0:0<sz)
 (hu:V G H.next (.bP id off len cap sz) u) (hv:V G H.next y v) (hf:rowOf sz H y=some fs) (hsz:rC sz fs) (ho:H.obj id=some cs) (hle:off+len*sz<=cs.length):
 ∃x w',(Builtin.copy_ #[t,t] ty #[u,v]).run P w= .ok x w'/\Tr B w w'/\HM B (H.put id (putCells cs off (fs.take len).flatten)) G w'/\V G H.next (.int .i64 (min fs.length len:Nat)) x:=by
 have hsz':rC sz (fs.take len):=fun cs hc=>hsz cs (CA hc);have hlen1: ∀cs∈fs,cs.length=sz:=fun cs hc=>(hsz cs hc).1;obtain⟨AP,cap',news,rfl,n1,nV,n4,n5⟩:=JJ hM hs0 hv hf hsz;cases hu with
 |bP _ _ _ _ _ b h1 h2=>
  have aAE:(fs.take len).flatten=fs.flatten.take (min fs.length len*sz):=by
   have: ∀(l:List (List PV)) (n:Nat),(∀cs∈l,cs.length=sz)->(l.take n).flatten=l.flatten.take (min l.length n*sz):=by
    intro l
    induction l with
    |nil=>intro n _;simp
    |cons c l ih=>
     intro n hl;cases n with
     |zero=>simp
     |succ n=>
      have hc:=hl c (A1 ..);rw [m9,A4,A4,ih n fun cs h=>hl cs (I1 _ h),I0,Nat.add_min_add_right,C3,N6,d7,<-hc,List.take_length_add_append]
   exact this fs len hlen1
  let ns:=news.take (min fs.length len*sz)
  have abE:ns.length=min fs.length len*sz:=by
   simp only [ns,P3,n1];exact Nat.min_eq_left (Z3 _ (Nat.min_le_left _ _))
  have hfl:=vK hlen1;have hV:Vs G H.next (fs.take len).flatten ns.toArray:=by
   rw [aAE]
   refine⟨by
    have:=Nat.min_eq_left (Z3 sz (Nat.min_le_left fs.length len));simp only [B8,abE,P3,hfl];exact this.symm,fun j c x e e'=> ?_⟩
   have hj:j<min fs.length len*sz:=by
    rcases D1 j (min fs.length len*sz)with h'|h'
    · exact h'
    · rw [R1 (by simp;omega)]at e;cases e
   rw [D3 hj]at e;have e2:ns[j]? =some x:=by simpa using e'
   simp only [ns]at e2;rw [D3 hj]at e2;exact nV.2 j c x e (by simpa using e2)
  have hvl:(fs.take len).flatten.length=min fs.length len*sz:=by
   have:=hV.1;simp only [B8,abE]at this;exact this.symm
  have hmin:min fs.length len*sz<=len*sz:=Z3 _ (Nat.min_le_right _ _);obtain⟨w',r1,r2,r3⟩:=Xm (P:=P) (off:=off) hM ho h2 hV (fun x hx=>n4 x (CA hx)) (by rw [hvl];omega);have hcells:(Builtin.firstCells sz (min fs.length len) (.slice AP fs.length cap')).run P w= .ok ns.toArray w:=by
   by_cases hne:fs=[]
   · subst hne;have:ns=[]:=T4 (by rw [abE];simp);rw [this];cases AP with
     |none=>simp [Builtin.firstCells]
     |some a0=>simpa [Builtin.firstCells]using run_loadCells_list (P:=P) w a0 [] (by simp)
   · obtain⟨a0,rfl,n6⟩:=n5 hne;refine run_firstCells_some (P:=P) w sz _ a0 _ _ ns abE fun j x e=>n6 j x ?_;have hj:j<min fs.length len*sz:=by
      rw [<-abE];exact(S0.1 e).1
     simp only [ns]at e
     rwa [D3 hj]at e
  refine⟨.int .i64 (min fs.length len:Nat),w',?_,r2,r3,.int _ _⟩;have hmn:Nat.min fs.length len=min fs.length len:=rfl;simp [Builtin.copy_,run_underlying ht,gU hse,Builtin.lenOf,hmn,hcells,r1,goInt]
theorem asX (hM:HM B H G w) {t ty e:TypeId} {sz:Nat} {z:List PV} {u:Value} {id off len cap:Nat} {cs:List PV} (ht:P.underlying t=some (.slice e)) (hse:sizeT P e=some sz) (hz:mY P e=some z) (hs0:0<sz)
 (hu:V G H.next (.bP id off len cap sz) u) (hzl:z.length=sz) (hone:(z.all PV.one)=true) (ho:H.obj id=some cs) (hle:off+len*sz<=cs.length) (h0:0<len):
 ∃x w',(Builtin.clear_ #[t] ty #[u]).run P w= .ok x w'/\Tr B w w'/\HM B (H.put id (putCells cs off (List.replicate len z).flatten)) G w'/\V G H.next .any x:=by
 obtain⟨ti,zv,hi,hzv,hzs,Cg,aLm⟩:=Ce (P:=P) (G:=G) (H:=H) hz;have hsi:ti.size=sz:=by simpa [sizeT,hi]using hse
 cases hu with
 |bP _ _ _ _ _ b h1 h2=>
  obtain⟨f1,f2⟩:=Me z (by omega) len;have hzc:(Builtin.zeroCells zv.cells len).size=len*sz:=by rw [size_zeroCells,hzs,hsi]
  have hV:Vs G H.next (List.replicate len z).flatten (Builtin.zeroCells zv.cells len):=by
   refine⟨by rw [hzc,f1,hzl],fun j p x e e'=> ?_⟩;have hj:j<len*z.length:=by
    rw [<-f1];exact(S0.1 e).1
   rw [f2 j hj]at e;have hm:j% z.length<zv.cells.size:=by rw [Cg.1];exact KB _ (by omega)
   have hx:x=zv.cells[j% z.length]:=by
    have hj':j<len*zv.cells.size:=by rw [Cg.1];exact hj
    have hsz:j<(Builtin.zeroCells zv.cells len).size:=by rw [hzc,<-hzl];exact hj
    rw [A3 hsz]at e';simp only [L1]at e';rw [<-e'];simp only [Builtin.zeroCells,Cg.1,Array.getElem_map,Array.getElem_range];exact getElem!_pos zv.cells _ hm
   rw [hx];exact Cg.2 _ _ _ e (by simp)
  have hV':Vs G H.next (List.replicate len z).flatten (Builtin.zeroCells zv.cells len).toList.toArray:=by simpa using hV
  obtain⟨w',r1,r2,r3⟩:=Xm (P:=P) (off:=off) (news:=(Builtin.zeroCells zv.cells len).toList) hM ho h2 hV' (fun x hx=>by
   obtain⟨j,hj,rfl⟩:=List.mem_iff_getElem.1 hx;have hj2:j<(List.replicate len z).flatten.length:=by rw [f1,hzl,<-hzc];simpa using hj
   have hv:=hV.2 j ((List.replicate len z).flatten[j]) ((Builtin.zeroCells zv.cells len).toList[j]) (by simp) (by simp);obtain⟨c,hc,hc'⟩:=uB.1 (L3 hj2);rw [(sC.1 hc).2]at hc';exact aaS hv (S3.1 hone _ hc')) (by rw [f1,hzl];exact hle)
  refine⟨.tuple #[],w',?_,r2,r3,.any _⟩;have hl:len≠0:=by omega
  have hzr:(zeroValue e).run P w= .ok zv w:=by simp [zeroValue,typeInfo,hi,hzv]
  obtain⟨m,rfl⟩: ∃m,len=m+1:=⟨len -1,by omega⟩;simp [Builtin.clear_,run_underlying ht,hzr,r1]
theorem amU (hU:Up B w) (hM:HM B H G w) {t u ty e:TypeId} {sz bytes:Nat} {z:List PV} {kn:IntKind} {m:Int} {K:PV->AH->Prop} (ht:P.underlying t=some (.slice e)) (hu:P.underlying u=some (.int kn)) (hse:sizeT P e=some sz) (hbe:xQ P e=some bytes)
 (hz:mY P e=some z) (hs0:0<sz) (hb0:0<bytes) (hzl:z.length=sz) (hm:0<m) (hmb:m*bytes<=1099511627776)
 (hK: ∀cap,m.toNat<=cap->K (.bP H.next 0 m.toNat cap sz) (H.new ((List.replicate m.toNat z).flatten++List.replicate ((cap -m.toNat)*sz) .any))):
 ∃q H',K q H'/\ ∃r w' G',(Builtin.append_ #[t,u] ty #[.slice none 0 0,.int .i64 m]).run P w= .ok r w'/\Tr B w w'/\Ext B H.next G G'/\H.next<=H'.next/\HM B H' G' w'/\V G' H'.next q r:=by
 obtain⟨ti,zv,hi,hzv,hzs,Cg,_⟩:=Ce (P:=P) (G:=G) (H:=H) hz;have hsi:ti.size=sz:=by simpa [sizeT,hi]using hse
 have hbi:ti.bytes=bytes:=by simpa [xQ,hi]using hbe
 obtain⟨n,rfl⟩: ∃n:Nat,m=n:=⟨m.toNat,by omega⟩
 have aE0:n*bytes≤1099511627776:=by
  have:((n*bytes:Nat):Int)≤1099511627776:=by simpa using hmb
  omega
 have hn:n<=1099511627776:=E1 (GB _ hb0) aE0;have hr:=Lib.run_append_nil_zeros (P:=P) w t u ty e ti zv .i64 kn ht hu hi hzv n (by omega) (by omega) (by omega) (by rw [hbi];omega);have hge:=grownCap_ge w n 0 e;have hcells: ∀k,Vs G H.next (List.replicate k z).flatten (Builtin.zeroCells zv.cells k):=by
  intro k;obtain⟨f1,f2⟩:=Me z (by omega) k;have hzc:(Builtin.zeroCells zv.cells k).size=k*sz:=by rw [size_zeroCells,hzs,hsi]
  refine⟨by rw [hzc,f1,hzl],fun j p x e e'=> ?_⟩;have hj:j<k*z.length:=by
   rw [<-f1];exact(S0.1 e).1
  rw [f2 j hj]at e;have hmz:j% z.length<zv.cells.size:=by rw [Cg.1];exact KB _ (by omega)
  have hx:x=zv.cells[j% z.length]:=by
   have hsz:j<(Builtin.zeroCells zv.cells k).size:=by rw [hzc,<-hzl];exact hj
   rw [A3 hsz]at e';simp only [L1]at e';rw [<-e'];simp only [Builtin.zeroCells,Cg.1,Array.getElem_map,Array.getElem_range];exact getElem!_pos zv.cells _ hmz
  rw [hx];exact Cg.2 _ _ _ e (by simp)
 have hV:Vs G H.next ((List.replicate n z).flatten++List.replicate ((grownCap w n 0 e -n)*sz) .any) (Builtin.zeroCells zv.cells n++Builtin.zeroCells zv.cells (grownCap w n 0 e -n)):=
  (hcells n).app (Vs.Xl _ _ _ (by rw [size_zeroCells,hzs,hsi]))
 obtain⟨G',e1,e2,e3⟩:=HM.newObj (w:=w.drew) hU hM.drew e hV;have hK':=hK (grownCap w n 0 e) (by simpa using hge);simp only [V0]at hK';exact⟨_,_,hK',_,_,G',hr,Tr.FC w _,e1,W6 _,e2,.bP _ _ _ _ _ _ (A2 _) e3⟩
theorem amV {o:Oper} {k:NK}:iC P o≠ .n k:=by
 obtain⟨dst,op,ty,pos,after,guard⟩:=o;intro h;cases op with
 |call c=>
  obtain⟨callee,args,argTypes⟩:=c;cases callee with
  |value f=>simp only [iC]at h;(repeat' split at h)<;>cases h
  |builtin b=>simp only [iC]at h;(repeat' split at h)<;>cases h
  |invoke r m=>simp only [iC]at h;cases h
 |_=>simp only [iC]at h;(try (repeat' split at h))<;>cases h
theorem ahA {o:Oper} {s y:Nat} {e1 e2:AE} (h:iC P o= .d (.app s y e1 e2)): ∃c t e z,o.op= .call c/\c.callee= .builtin .append/\c.argTypes=#[t,t]/\nC c.args.toList=some [e1,e2]/\P.underlying t=some (.slice e)/\
 sizeT P e=some s/\xQ P e=some y/\mY P e=some z/\0<s/\0<y:=by
 obtain⟨dst,op,ty,pos,after,guard⟩:=o;cases op with
 |call c=>
  obtain⟨callee,args,argTypes⟩:=c;cases callee with
  |value f=>simp only [iC]at h;(repeat' split at h)<;>cases h
  |builtin b=>
   simp only [iC]at h;split at h
   · split at h<;>cases h
   · split at h<;>cases h
   · rename_i t u a1 a2 hat hargs;split at h
     · rename_i e ht;split at h
       · rename_i s' y' z hse hbe hz;split at h
         · rename_i hcond;cases h;obtain⟨hs0,hb0,rfl⟩:=hcond;exact⟨_,_,e,z,rfl,rfl,by simpa using congrArg List.toArray hat,hargs,ht,hse,hbe,hz,hs0,hb0⟩
         · cases h
       · cases h
     · cases h
   · cases h
   · cases h
   · cases h
  |invoke r m=>simp only [iC]at h;cases h
 |_=>simp only [iC]at h;(try (repeat' split at h))<;>cases h
theorem aj5 {rm:Bool} {o:Oper} {k:NK} {K:PV->AH->Prop} (hc:JH P rm o= .n k) (hs:Sl G H.next σ a) (hU:Up B w) (hM:HM B H G w) (h:nop k K σ H): ∃p H',K p H'/\GA P B G H H' w (execOp a.eval o) p:=by
 obtain⟨dst,op,ty,pos,after,guard⟩:=o;unfold JH at hc;split at hc
 ·
   unfold Ih at hc;split at hc
   · rename_i t parts hx;simp only at hx;subst hx;split at hc
     · rename_i n e z ht hz;split at hc
       · rename_i s hse;split at hc
         · rename_i ps hp;cases hc;simp only [nop]at h;split at h
           · rename_i out hb;obtain⟨x,r1,r2⟩:=amR (P:=P) (w:=w) hs ht hz hse hp hb;exact⟨_,_,h,GA.Iq ⟨x,w,G,r1,Tr.refl B w,Ext.refl B _ G,R0 _,hM,r2⟩⟩
           · cases h
         · cases hc
       · cases hc
     · cases hc
   · rename_i src dst' x hx;simp only at hx;subst hx;split at hc
     · rename_i e ae h1 h2 he;split at hc
       · rename_i h3;cases hc;simp only [nop]at h;split at h
         · rename_i s hq;have hV:=fO hs he;rw [hq]at hV;generalize hv:a.eval x=v at hV;cases hV;have:=asW (P:=P) (s:=s) hU hM h1 h2 h3;refine⟨_,_,h,?_⟩;have key:=GA.Iq this;rw [<-hv]at key;exact key
         · cases h
       · cases hc
     · cases hc
   · rename_i c hx;simp only at hx;subst hx;obtain⟨callee,args,argTypes⟩:=c;split at hc
     · rename_i t u e1 e2 Iw hat hargs;simp only at Iw;subst Iw;split at hc
       · rename_i e ht;split at hc
         · rename_i s hse;split at hc
           · rename_i hcond;cases hc;obtain⟨hs0,rfl⟩:=hcond;have hat':argTypes=#[u,u]:=by simpa using congrArg List.toArray hat
             obtain⟨x1,x2,hx⟩: ∃x1 x2,args=#[x1,x2]:=by
              have:args.toList.length=2:=by simpa using Iu hargs
              match args,this with
              |⟨[x1,x2]⟩,_=>exact⟨x1,x2,rfl⟩
             subst hat';subst hx;have hV1:V G H.next (e1.ev σ) (a.eval x1):=(nD hs hargs).2 0 (e1.ev σ) (a.eval x1) rfl rfl;have hV2:V G H.next (e2.ev σ) (a.eval x2):=(nD hs hargs).2 1 (e2.ev σ) (a.eval x2) rfl rfl;simp only [nop]at h;split at h
             · rename_i id off len cap s' fs hq hf;split at h
               · rename_i cs ho;split at h
                 · rename_i hh;obtain⟨rfl,hsz,hle⟩:=hh;rw [hq]at hV1;obtain⟨x,w',r1,r2,r3,r4⟩:=amS (P:=P) (ty:=ty) hM ht hse hs0 hV1 hV2 hf hsz ho hle;exact⟨_,_,h,x,w',G,.inl (by simp [execOp,resolve,invoke,builtin,r1]),r2,Ext.refl B _ G,R0 _,r3,r4⟩
                 · cases h
               · cases h
             · cases h
           · cases hc
         · cases hc
       · cases hc
     · rename_i t u e1 e2 Iw hat hargs;simp only at Iw;subst Iw;split at hc
       · rename_i e kn ht hu;split at hc
         · rename_i s y z hse hbe hz;split at hc
           · rename_i hcond;cases hc;obtain⟨hs0,hb0,hzl⟩:=hcond;have hat':argTypes=#[t,u]:=by simpa using congrArg List.toArray hat
             obtain⟨x1,x2,hx⟩: ∃x1 x2,args=#[x1,x2]:=by
              have:args.toList.length=2:=by simpa using Iu hargs
              match args,this with
              |⟨[x1,x2]⟩,_=>exact⟨x1,x2,rfl⟩
             subst hat';subst hx;have hV1:V G H.next (e1.ev σ) (a.eval x1):=(nD hs hargs).2 0 (e1.ev σ) (a.eval x1) rfl rfl;have hV2:V G H.next (e2.ev σ) (a.eval x2):=(nD hs hargs).2 1 (e2.ev σ) (a.eval x2) rfl rfl;simp only [nop]at h;split at h
             · rename_i m hq1 hq2;split at h
               · rename_i hh;rw [hq1]at hV1;rw [hq2]at hV2;generalize hv1:a.eval x1=v1 at hV1;generalize hv2:a.eval x2=v2 at hV2;cases hV2;cases hV1 with
                 |ah _ _ s' ad cap f h1 h2 h3 h4 h5=>
                   obtain⟨rfl,_,rfl⟩:=h5;obtain⟨q,H',hK,r,w',G',r1,r2⟩:=amU (P:=P) (ty:=ty) hU hM ht hu hse hbe hz hs0 hb0 hzl hh.1 hh.2 h;refine⟨q,H',hK,r,w',G',.inl ?_,r2⟩;simp only [j0]at hv1;simp [execOp,resolve,invoke,builtin,hv1,hv2,r1]
               · cases h
             · cases h
           · cases hc
         · cases hc
       · cases hc
     · rename_i t e1 Iw hat hargs;simp only at Iw;subst Iw;split at hc
       · rename_i e ht;split at hc
         · rename_i s z hse hz;split at hc
           · rename_i hs0;cases hc;have hat':argTypes=#[t]:=by simpa using congrArg List.toArray hat
             obtain⟨x1,hx⟩: ∃x1,args=#[x1]:=by
              have:args.toList.length=1:=by simpa using Iu hargs
              match args,this with
              |⟨[x1]⟩,_=>exact⟨x1,rfl⟩
             subst hat';subst hx;have hV1:V G H.next (e1.ev σ) (a.eval x1):=(nD hs hargs).2 0 (e1.ev σ) (a.eval x1) rfl rfl;simp only [nop]at h;split at h
             · rename_i id off len cap s' hq;split at h
               · rename_i cs ho;split at h
                 · rename_i hh;obtain⟨rfl,hzl,hone,hle,h0⟩:=hh;rw [hq]at hV1;obtain⟨x,w',r1,r2,r3,r4⟩:=asX (P:=P) (ty:=ty) hM ht hse hz hs0 hV1 hzl hone ho hle h0;exact⟨_,_,h,x,w',G,.inl (by simp [execOp,resolve,invoke,builtin,r1]),r2,Ext.refl B _ G,R0 _,r3,r4⟩
                 · cases h
               · cases h
             · cases h
           · cases hc
         · cases hc
       · cases hc
     · cases hc
   · cases hc
 ·
   rename_i s y e1 e2 hco;split at hc
   · cases hc;obtain⟨c,t,e,z,hop,Iw,hat,hargs,ht,hse,hbe,hz,hs0,hb0⟩:=ahA hco;simp only at hop;subst hop;obtain⟨callee,args,argTypes⟩:=c;simp only at Iw hat hargs;subst Iw;subst hat;obtain⟨x1,x2,hx⟩: ∃x1 x2,args=#[x1,x2]:=by
      have:args.toList.length=2:=by simpa using Iu hargs
      match args,this with
      |⟨[x1,x2]⟩,_=>exact⟨x1,x2,rfl⟩
     subst hx;have hV1:V G H.next (e1.ev σ) (a.eval x1):=(nD hs hargs).2 0 (e1.ev σ) (a.eval x1) rfl rfl;have hV2:V G H.next (e2.ev σ) (a.eval x2):=(nD hs hargs).2 1 (e2.ev σ) (a.eval x2) rfl rfl;simp only [nop]at h;obtain⟨q,H',hK,r,w',G',r1,r2⟩:=ahy (P:=P) (ty:=ty) hU hM ht hse hbe hz hs0 hb0 hV1 hV2 h;exact⟨q,H',hK,r,w',G',.inl (by simp [execOp,resolve,invoke,builtin,r1]),r2⟩
   · cases hc
 ·
   rename_i s ps hco;split at hc
   · cases hc;obtain⟨t,n,parts,e,z,hop,ht,hse,hz,hcs,hpl,hle,hs0⟩:=ahz hco;simp only at hop;subst hop;simp only [nop]at h;split at h
     · rename_i es hes;split at h
       · rename_i hsz;obtain⟨out,r1,r2,r3,r4⟩:=amK hs hU hM ht hse hz hcs hpl hle hs0 hes;have hlen: ∀cs∈es,cs.length=s:=fun cs hc=>(hsz cs hc).1;have hV:Vs G H.next es.flatten out:=by
          refine⟨by rw [r2,vK hlen,r3],fun j c x ec ex=> ?_⟩;obtain⟨cs,g1,g2⟩:=Kw hs0 hlen j c ec;have hj:j<n*s:=by
           rw [<-r2];exact(Z2.1 ex).1
          have hd:j/s<n:=(b9 hs0).2 hj;obtain⟨cs',x',q1,q2,q3,q4⟩:=r4 (j/s) (j% s) hd (KB _ hs0);rw [g1]at q1;cases q1;rw [show j/s*s+j% s=j by rw [f7];exact VC j s,ex]at q3;cases q3;exact q4 c g2
         obtain⟨G',e1,e2,e3⟩:=HM.newObj hU hM e hV;refine⟨_,_,h,.slice (some ⟨w.heap.size,0,none⟩) n n,w.alloc (.cells out e),G',.inl (by simp [execOp,r1]),Tr.alloc w _,e1,W6 _,e2,?_⟩;rw [r3];exact .bP _ _ _ _ _ _ (A2 _) e3
       · cases h
     · cases h
   · cases hc
 · exact absurd hc amV
end
end Go.VL
end
section
namespace Go.VL
variable [Glob]
structure aD where
 dst:Option Nat
 k:AK
 g:Option (Nat×Bool)
abbrev ud:PV:= .dn []
theorem V.ud {G:Gh} {n:Nat}:V G n ud undef:= .dn [] #[] rfl (by simp)
def upd (σ:Nat->PV) (d:Option Nat) (v:PV):Nat->PV:=
 match d with
 |some d=>fun t=>if t=d then v else σ t
 |none=>σ
def evs (σ:Nat->PV) (l:List AE):List PV:=l.map (·.ev σ)
def dQ (P:Program) (k:AK) (K:PV->AH->Prop) (σ:Nat->PV) (H:AH):Prop:=
 match k with
 | .r k=>match rop k σ H with
  |some p=>K p H
  |none=>False
 | .d k=>match jc k σ H with
  |some (p,H')=>K p H'
  |none=>False
 | .n k=>nop k K σ H
 | .call f args=>match f.ev σ with
  | .fn (.func g) first caps=>aW P g (first++evs σ args++caps) H K
  |_=>False
 | .bad=>False
def eZ (P:Program):List aD->((Nat->PV)->AH->Prop)->(Nat->PV)->AH->Prop
 |[],K,σ,H=>K σ H
 |o::l,K,σ,H=>
  match o.g with
  |none=>dQ P o.k (fun p H'=>eZ P l K (upd σ o.dst p) H') σ H
  |some (s,want)=>match σ s with
   | .bool b=>if b=want then dQ P o.k (fun p H'=>eZ P l K (upd σ o.dst p) H') σ H else eZ P l K (upd σ o.dst ud) H
   | .dn []=>eZ P l K (upd σ o.dst ud) H
   |_=>False
def Mf (N:Nat):Option Nat->Bool
 |none=>true
 |some d=>decide (d<N)
def vL (P:Program) (rm:Bool) (N:Nat) (ops:Array Oper) (o:Oper):Option aD:=
 if Mf N o.dst=true then
  match o.guard with
  |none=>some ⟨o.dst,JH P rm o,none⟩
  |some (j,want)=>match (ops[j]?).bind (·.dst)with
   |some s=>some ⟨o.dst,JH P rm o,some (s,want)⟩
   |none=>none
 else none
def oD (P:Program) (rm:Bool) (N:Nat) (ops:Array Oper):List Oper->Option (List aD)
 |[]=>some []
 |o::l=>match vL P rm N ops o,oD P rm N ops l with
  |some a,some r=>some (a::r)
  |_,_=>none
abbrev Wd (ro:Option Nat):Fence:={Fence.wide with round:=ro}
theorem U9 {ro:Option Nat} {n:Nat} {P:Program} {f:FuncId} {args:Array Value} {w:World} {R:Ending->World->Prop}:CallsIn (Wd ro) n P f args w R↔Calls P f args w R:=callsIn_wide (n:=n)
def Marks (k0:Nat) (ds:List Deferred) (w:World):Prop:=
 k0<=w.heap.size/\ ∃rs:List Nat,rs.Nodup/\ds=rs.map (fun r=>{target:= .collected r,args:=#[]})/\ ∀r∈rs,k0<=r/\w.heap[r]? =some (.deferred (some []))
theorem Marks.tr {k0:Nat} {ds:List Deferred} {B:Nat->Prop} {w w':World} (h:Marks k0 ds w) (k:Tr B w w'):Marks k0 ds w':=
 let ⟨h0,rs,h1,h2,h3⟩:=h;⟨E1 h0 k.size,rs,h1,h2,fun r hr=>⟨(h3 r hr).1,k.JG _ _ (h3 r hr).2 rfl⟩⟩
structure Rl (B:Nat->Prop) (k0 N:Nat) (σ:Nat->PV) (H:AH) (G:Gh) (a:Act) (w:World):Prop where
 sl:Sl G H.next σ a
 sz:a.tmps.size=N
 df:Marks k0 a.defers w
 up:Up B w
 hm:HM B H G w
structure Since (B:Nat->Prop) (w0:World) (G0:Gh) (n0:Nat) (H:AH) (G:Gh) (w:World):Prop where
 tr:Tr B w0 w
 ex:Ext B n0 G0 G
 le:n0<=H.next
theorem Since.refl (B:Nat->Prop) (w:World) (G:Gh) (H:AH):Since B w G H.next H G w:=⟨Tr.refl B w,Ext.refl B _ G,R0 _⟩
theorem Since.step {B:Nat->Prop} {w0 w w':World} {G0 G G':Gh} {n0:Nat} {H H':AH} (h:Since B w0 G0 n0 H G w) (h1:Tr B w w') (h2:Ext B H.next G G') (h3:H.next<=H'.next):Since B w0 G0 n0 H' G' w':=
 ⟨h.tr.trans h1,h.ex.trans h2 h.le,E1 h.le h3⟩
theorem Sl.upd {G G':Gh} {n n' N:Nat} {B:Nat->Prop} {σ:Nat->PV} {a:Act} (h:Sl G n σ a) (hE:Ext B n G G') (hn:n<=n') (hsz:a.tmps.size=N) {d:Option Nat} (hd:Mf N d=true) {p:PV} {x:Value} (hV:V G' n' p x):
 Sl G' n' (upd σ d p) (a.put d x):=by
 refine⟨h.1.mono hE.F,fun t=> ?_⟩;cases d with
 |none=>exact(h.2 t).mono hE hn
 |some d=>
  simp only [Mf,B2]at hd;simp only [Go.VL.upd,Act.put];by_cases ht:t=d
  · subst ht;rw [if_pos rfl];have:(a.tmps.setIfInBounds t x).getD t undef=x:=by simp [hsz,hd]
    rw [this];exact hV
  · rw [if_neg ht];have:(a.tmps.setIfInBounds d x).getD t undef=a.tmps.getD t undef:=by
     simp [Array.getElem?_setIfInBounds_ne (B3 ht)]
    rw [this];exact(h.2 t).mono hE hn
theorem abF (a:Act) (d:Option Nat) (x:Value):(a.put d x).tmps.size=a.tmps.size:=by cases d<;>simp [Act.put]
theorem avu (a:Act) (d:Option Nat) (x:Value):(a.put d x).defers=a.defers:=by cases d<;>rfl
theorem Rl.step {B:Nat->Prop} {k0 N:Nat} {σ:Nat->PV} {H H':AH} {G G':Gh} {a:Act} {w w':World} (h:Rl B k0 N σ H G a w) (h1:Tr B w w') (h2:Ext B H.next G G') (h3:H.next<=H'.next) (h4:HM B H' G' w') {d:Option Nat} (hd:Mf N d=true)
 {p:PV} {x:Value} (hV:V G' H'.next p x):Rl B k0 N (upd σ d p) H' G' (a.put d x) w':=
 ⟨h.sl.upd h2 h3 h.sz hd hV,(abF a d x).trans h.sz,(avu a d x)▸h.df.tr h1,h.up.tr h1,h4⟩
section
variable {P:Program} {rm:Bool} {B:Nat->Prop} {k0 N m:Nat} {ro:Option Nat}
theorem afj {o:Oper} {f:AE} {l:List AE} (h:iC P o= .call f l): ∃c fo,o.op= .call c/\c.callee= .value fo/\cop fo=some f/\nC c.args.toList=some l:=by
 obtain⟨dst,op,ty,pos,after,guard⟩:=o;cases op with
 |call c=>
  obtain⟨callee,args,argTypes⟩:=c;cases callee with
  |value fo=>
   simp only [iC]at h;split at h
   · rename_i e r he hr;cases h;exact⟨_,fo,rfl,rfl,he,hr⟩
   · cases h
  |builtin b=>simp only [iC]at h;(repeat' split at h)<;>cases h
  |invoke r m=>simp only [iC]at h;cases h
 |_=>simp only [iC]at h;(try (repeat' split at h))<;>cases h
theorem Vs.append {G:Gh} {n:Nat} {xs ys:List PV} {us vs:Array Value} (h:Vs G n xs us) (h':Vs G n ys vs):Vs G n (xs++ys) (us++vs):=by
 refine⟨by simp [h.1,h'.1],fun j c x e e'=> ?_⟩;have:=h.1;rcases D1 j xs.length with hj|hj
 · rw [C0 hj]at e;rw [B6 (by omega)]at e';exact h.2 j c x e e'
 · rw [N0 hj]at e;rw [FA (by omega),this]at e';exact h'.2 _ c x e e'
theorem yQ {o:Oper} {σ:Nat->PV} {H:AH} {G:Gh} {a:Act} {w:World} {K:PV->AH->Prop} (h:dQ P (JH P rm o) K σ H) (hR:Rl B k0 N σ H G a w) {next:Act->World->Prop} {Q:Exit->Act->World->Prop}
 (hn: ∀p H' G' x w',K p H'->Tr B w w'->Ext B H.next G G'->H.next<=H'.next->HM B H' G' w'->V G' H'.next p x->next (a.put o.dst x) w'):o.wpIn (Wd ro) m P a w next Q:=by
 refine⟨fun _ _=>trivial,?_⟩;have aE1:o.semAt (Wd ro).round a.eval=execOp a.eval o:=by
  refine Oper.semAt_eq _ _ _ fun c hop=> ?_;have:JH P rm o= .bad:=by simp [JH,iC,Ih,hop]
  rw [this]at h;exact h
 rw [aE1];unfold dQ at h;split at h
 · rename_i k hk;split at h
   · rename_i p hr;obtain⟨x,w',G',h1,h2,h3,h4,h5⟩:=ajZ (aAC hk) hR.sl hR.up hR.hm hr;rw [h1,Oper.uponIn_value];exact hn p H G' x w' h h2 h3 (R0 _) h4 h5
   · cases h
 · rename_i k hk;split at h
   · rename_i p H' hr;obtain⟨x,w',G',h1,h2,h3,h4,h5,h6⟩:=aj3 (aAD hk) hR.sl hR.up hR.hm hr;rcases h1 with h1|⟨h1,rfl⟩
     · rw [h1,Oper.uponIn_value];exact hn p H' G' x w' h h2 h3 h4 h5 h6
     · rw [h1,Oper.uponIn_skip];exact hn p H' G' undef w' h h2 h3 h4 h5 h6
   · cases h
 · rename_i k hk;obtain⟨p,H',h,x,w',G',h1,h2,h3,h4,h5,h6⟩:=aj5 hk hR.sl hR.up hR.hm h;rcases h1 with h1|⟨h1,rfl⟩
   · rw [h1,Oper.uponIn_value];exact hn p H' G' x w' h h2 h3 h4 h5 h6
   · rw [h1,Oper.uponIn_skip];exact hn p H' G' undef w' h h2 h3 h4 h5 h6
 · rename_i f args hk;split at h
   · rename_i g first caps hf
     obtain⟨c,fo,hop,asY,hcf,hca⟩:=afj (amQ hk);have hV:=fO hR.sl hcf;rw [hf]at hV;obtain⟨a1,a2⟩:=nD hR.sl hca;have q1:(c.args.toList.map a.eval).toArray=c.args.map a.eval:=by rw [<-Array.toList_map]
     rw [q1]at a1 a2;generalize hv:a.eval fo=v at hV;cases hV with
     |fn _ _ _ us vs v1 v2 v3 v4=>
      obtain⟨fn,hfn,hbody,hname⟩:=h.enters;have hrun:(execOp a.eval o).run P w= .ok (.enter g ((us++c.args.map a.eval)++vs)) w:=by
       have hb: ¬(fn.body=none):=by
        intro hq;rw [hq]at hbody;cases hbody
       have hn: ¬(fn.name= "runtime.NumGoroutine"):=by simpa using hname
       simp [execOp,hop,resolve,asY,hv,Deferred.ofValue,invoke,callFunc,hfn,hn,hb]
      rw [hrun,Oper.uponIn_enter];have hargs:Vs G H.next (first++evs σ args++caps) ((us++c.args.map a.eval)++vs):=(Vs.append ⟨v1,v2⟩ ⟨a1,a2⟩).append ⟨v3,v4⟩;refine⟨fun hd=>absurd hd (by simp [Fence.wide]),U9.2 ?_⟩;refine(h.call B G w _ hR.up hR.hm hargs).mono ?_;rintro e w' ⟨r,v,H',G',rfl,h2,h3,h4,h5,h6,h7⟩;exact hn r H' G' v w' h7 h2 h3 h4 h5 h6
   · cases h
 · cases h
theorem Ky {ops:Array Oper} {o:Oper} {a:Act} (h:o.guard=none):Region.wanted o (yielded ops a.tmps)=true:=by simp [Region.wanted,h]
theorem E8 {ops:Array Oper} {o:Oper} {a:Act} {j s:Nat} {want b:Bool} {G:Gh} {n:Nat} {σ:Nat->PV} (h:o.guard=some (j,want)) (hj:(ops[j]?).bind (·.dst)=some s) (hs:Sl G n σ a) (hb:σ s= .bool b):
 Region.wanted o (yielded ops a.tmps)=(b==want):=by
 have hV:=hs.2 s;rw [hb]at hV;have:a.tmps.getD s undef= .bool b:=by
  generalize hq:a.tmps.getD s undef=q at hV;cases hV;rfl
 have h2:a.tmps[s]? =some (.bool b):=by
  rw [T6]at this;cases hq:a.tmps[s]? with
  |none=>rw [hq]at this;cases this
  |some v=>rw [hq]at this;simp at this;rw [this]
 simp [Region.wanted,h,yielded,hj,h2]
theorem Oe {ops:Array Oper} {o:Oper} {a:Act} {j s:Nat} {want:Bool} {G:Gh} {n:Nat} {σ:Nat->PV} (h:o.guard=some (j,want)) (hj:(ops[j]?).bind (·.dst)=some s) (hs:Sl G n σ a) (hb:σ s= .dn []):
 Region.wanted o (yielded ops a.tmps)=false:=by
 have hV:=hs.2 s;rw [hb]at hV;have: ∃vs,a.tmps.getD s undef= .tuple vs:=by
  generalize hq:a.tmps.getD s undef=q at hV;cases hV;exact⟨_,rfl⟩
 obtain⟨vs,this⟩:=this;simp only [Region.wanted,h,yielded,hj,W0];cases hq:a.tmps[s]? with
 |none=>rfl
 |some v=>
  rw [T6,hq]at this;simp at this;subst this;rfl
theorem CX {ops:Array Oper} {w0:World} {G0:Gh} {n0:Nat} {K:(Nat->PV)->AH->Prop} {Q:Exit->Act->World->Prop}
 (hQ: ∀σ H G a w,K σ H->Rl B k0 N σ H G a w->Since B w0 G0 n0 H G w->Q .normal a w):
 ∀(l:List Oper) (az:List aD) (σ:Nat->PV) (H:AH) (G:Gh) (a:Act) (w:World),oD P rm N ops l=some az->eZ P az K σ H->Rl B k0 N σ H G a w->Since B w0 G0 n0 H G w->wpListIn (Wd ro) m P ops Q l a w
 |[],az,σ,H,G,a,w,hc,hW,hR,hS=>by
  simp [oD]at hc;subst hc;exact hQ σ H G a w hW hR hS
 |o::l,az,σ,H,G,a,w,hc,hW,hR,hS=>by
  unfold oD at hc;split at hc
  · rename_i ao r ho hr;cases hc;unfold vL at ho;split at ho
    · rename_i hd;unfold wpListIn;split at ho
      · rename_i hg;cases ho;rw [if_pos (Ky hg)];simp only [eZ]at hW;exact(yQ hW hR fun p H' G' x w' hK h1 h2 h3 h4 h5=>CX hQ l r _ _ _ _ _ hr hK (hR.step h1 h2 h3 h4 hd h5) (hS.step h1 h2 h3))
      · rename_i j want hg;split at ho
        · rename_i s hs;cases ho;simp only [eZ]at hW;split at hW
          · rename_i b hb;rw [E8 hg hs hR.sl hb];by_cases hbw:b=want
            · rw [if_pos (by simp [hbw])];rw [if_pos hbw]at hW;exact(yQ hW hR fun p H' G' x w' hK h1 h2 h3 h4 h5=>CX hQ l r _ _ _ _ _ hr hK (hR.step h1 h2 h3 h4 hd h5) (hS.step h1 h2 h3))
            · rw [if_neg (by simpa using hbw)];rw [if_neg hbw]at hW;refine⟨fun _ _=>trivial,?_⟩;exact CX hQ l r _ _ _ _ _ hr hW (hR.step (Tr.refl B w) (Ext.refl B _ G) (R0 _) hR.hm hd V.ud) hS
          · rename_i hb;rw [Oe hg hs hR.sl hb];refine⟨fun _ _=>trivial,?_⟩;exact CX hQ l r _ _ _ _ _ hr hW (hR.step (Tr.refl B w) (Ext.refl B _ G) (R0 _) hR.hm hd V.ud) hS
          · cases hW
        · cases ho
    · cases ho
  · cases hc
end
end Go.VL
end
section
namespace Go.VL
variable [Glob]
def AE.slots:AE->List Nat
 | .t n=>[n]
 | .c _=>[]
def KW:Option AE->List Nat
 |none=>[]
 |some x=>x.slots
def CY (l:List AE):List Nat:=l.flatMap AE.slots
def RK.slots:RK->List Nat
 | .AO x| .not x| .neg x| .cpl x| .Qz _ x| .abp _ _ _ x| .load _ _ x| .len x| .Kv x| .cap x| .U2 x| .ext x _| .conv _ x| .same x| .NW _ x=>x.slots
 | .pick c a b=>c.slots++a.slots++b.slots
 | .bin _ _ x y| .mmx _ x y| .idx _ x y| .Gf _ _ x y| .L8 x y=>x.slots++y.slots
 | .slc _ x lo hi mx=>x.slots++KW lo++KW hi++KW mx
 | .Rh x lo hi=>x.slots++KW lo++KW hi
 | .Xi _ l r=>CY l++CY r
 | .build _ ps=>ps.flatMap fun p=>p.2.2.slots
 | .CO _ ps=>CY ps
def DK.slots:DK->List Nat
 | .alloc _=>[]
 | .box _ x=>x.slots
 | .store _ x v| .app _ _ x v| .yP _ _ _ x v=>x.slots++v.slots
def NK.slots:NK->List Nat
 | .app _ _ x v| .copy _ x v| .Ri _ _ _ x v=>x.slots++v.slots
 | .NZ _ ps=>CY ps
 | .NY _ ps=>ps.flatMap fun p=>p.2.2.slots
 | .Y4 x| .clr _ _ x=>x.slots
def AK.slots:AK->List Nat
 | .n k=>k.slots
 | .r k=>k.slots
 | .d k=>k.slots
 | .call f l=>f.slots++CY l
 | .bad=>[]
def aD.slots (o:aD):List Nat:=o.k.slots++(match o.g with|some (s,_)=>[s]|none=>[])
section
variable {σ σ':Nat->PV}
theorem AE.bF {x:AE} (h: ∀t∈x.slots,σ t=σ' t):x.ev σ=x.ev σ':=by
 cases x with
 |t n=>exact h n (by simp [AE.slots])
 |c v=>rfl
theorem FD {x:Option AE} (h: ∀t∈KW x,σ t=σ' t):x.map (·.ev σ)=x.map (·.ev σ'):=by
 cases x with
 |none=>rfl
 |some x=>simp only [X2];rw [AE.bF h]
theorem Og {l:List AE} (h: ∀t∈CY l,σ t=σ' t):l.map (·.ev σ)=l.map (·.ev σ'):=
 HC fun x hx=>AE.bF fun t ht=>h t (List.mem_flatMap.2 ⟨x,hx,ht⟩)
theorem Gi: ∀{l:List (Nat×Nat×AE)} {cs:List PV},(∀t∈l.flatMap (fun p=>p.2.2.slots),σ t=σ' t)->kU σ cs l=kU σ' cs l
 |[],cs,h=>rfl
 |(o,sz,x)::l,cs,h=>by
   have hx:x.ev σ=x.ev σ':=AE.bF fun t ht=>h t (by simp [ht]);unfold kU;rw [hx];split
   · split
     · exact Gi fun t ht=>h t (by simp only [List.flatMap_cons,P2];exact .inr ht)
     · rfl
   · rfl
theorem Kz {sz:Nat}: ∀{l:List AE},(∀t∈CY l,σ t=σ' t)->Aa sz σ l=Aa sz σ' l
 |[],h=>rfl
 |x::l,h=>by
  have hx:x.ev σ=x.ev σ':=AE.bF fun t ht=>h t (by simp [CY,ht]);unfold Aa;rw [hx,Kz fun t ht=>h t (by simp only [CY,List.flatMap_cons,P2];exact .inr ht)]
theorem aj6 {k:RK} {H:AH} (h: ∀t∈k.slots,σ t=σ' t):rop k σ H=rop k σ' H:=by
 cases k<;>simp only [RK.slots,P2]at h<;>simp only [rop]
 case AO x=>rw [AE.bF h]
 case pick c a b=>rw [AE.bF (x:=c) fun t ht=>h t (.inl (.inl ht)),AE.bF (x:=a) fun t ht=>h t (.inl (.inr ht)),AE.bF (x:=b) fun t ht=>h t (.inr ht)]
 case bin op e x y=>rw [AE.bF (x:=x) fun t ht=>h t (.inl ht),AE.bF (x:=y) fun t ht=>h t (.inr ht)]
 case not x=>rw [AE.bF h]
 case neg x=>rw [AE.bF h]
 case cpl x=>rw [AE.bF h]
 case Qz o x=>rw [AE.bF h]
 case abp a b c x=>rw [AE.bF h]
 case idx s x y=>rw [AE.bF (x:=x) fun t ht=>h t (.inl ht),AE.bF (x:=y) fun t ht=>h t (.inr ht)]
 case Gf n s x y=>rw [AE.bF (x:=x) fun t ht=>h t (.inl ht),AE.bF (x:=y) fun t ht=>h t (.inr ht)]
 case load s a x=>rw [AE.bF h]
 case len x=>rw [AE.bF h]
 case Kv x=>rw [AE.bF h]
 case cap x=>rw [AE.bF h]
 case mmx m x y=>rw [AE.bF (x:=x) fun t ht=>h t (.inl ht),AE.bF (x:=y) fun t ht=>h t (.inr ht)]
 case L8 x y=>rw [AE.bF (x:=x) fun t ht=>h t (.inl ht),AE.bF (x:=y) fun t ht=>h t (.inr ht)]
 case slc s x lo hi mx=>
  rw [AE.bF (x:=x) fun t ht=>h t (.inl (.inl (.inl ht))),FD (x:=lo) fun t ht=>h t (.inl (.inl (.inr ht))),FD (x:=hi) fun t ht=>h t (.inl (.inr ht)),FD (x:=mx) fun t ht=>h t (.inr ht)]
 case Rh x lo hi=>rw [AE.bF (x:=x) fun t ht=>h t (.inl (.inl ht)),FD (x:=lo) fun t ht=>h t (.inl (.inr ht)),FD (x:=hi) fun t ht=>h t (.inr ht)]
 case Xi f l r=>rw [Og (l:=l) fun t ht=>h t (.inl ht),Og (l:=r) fun t ht=>h t (.inr ht)]
 case U2 x=>rw [AE.bF h]
 case ext x i=>rw [AE.bF h]
 case conv k x=>rw [AE.bF h]
 case same x=>rw [AE.bF h]
 case NW t x=>rw [AE.bF h]
 case build z ps=>rw [Gi h]
 case CO s ps=>rw [Kz h]
theorem aj7 {k:DK} {H:AH} (h: ∀t∈k.slots,σ t=σ' t):jc k σ H=jc k σ' H:=by
 cases k<;>simp only [DK.slots,P2]at h<;>simp only [jc]
 case box s x=>rw [AE.bF h]
 case store s x v=>rw [AE.bF (x:=x) fun t ht=>h t (.inl ht),AE.bF (x:=v) fun t ht=>h t (.inr ht)]
 case app s b x v=>rw [AE.bF (x:=x) fun t ht=>h t (.inl ht),AE.bF (x:=v) fun t ht=>h t (.inr ht)]
 case yP s b z x v=>rw [AE.bF (x:=x) fun t ht=>h t (.inl ht),AE.bF (x:=v) fun t ht=>h t (.inr ht)]
theorem aj8 {k:NK} {K:PV->AH->Prop} {H:AH} (h: ∀t∈k.slots,σ t=σ' t):nop k K σ H=nop k K σ' H:=by
 cases k<;>simp only [NK.slots,P2]at h<;>simp only [nop]
 case app s b x v=>rw [AE.bF (x:=x) fun t ht=>h t (.inl ht),AE.bF (x:=v) fun t ht=>h t (.inr ht)]
 case NY z ps=>rw [Gi h]
 case Y4 x=>rw [AE.bF h]
 case copy s x v=>rw [AE.bF (x:=x) fun t ht=>h t (.inl ht),AE.bF (x:=v) fun t ht=>h t (.inr ht)]
 case clr s z x=>rw [AE.bF h]
 case Ri s b z x v=>rw [AE.bF (x:=x) fun t ht=>h t (.inl ht),AE.bF (x:=v) fun t ht=>h t (.inr ht)]
 case NZ s ps=>rw [Kz h]
theorem Oh {P:Program} {k:AK} {K:PV->AH->Prop} {H:AH} (h: ∀t∈k.slots,σ t=σ' t) (hW:dQ P k K σ H):dQ P k K σ' H:=by
 cases k with
 |r k=>simp only [dQ]at hW⊢;rwa [<-aj6 (σ:=σ) (σ':=σ') h]
 |d k=>simp only [dQ]at hW⊢;rwa [<-aj7 (σ:=σ) (σ':=σ') h]
 |n k=>simp only [dQ]at hW⊢;rwa [<-aj8 (σ:=σ) (σ':=σ') h]
 |call f l=>
  simp only [AK.slots,P2]at h;simp only [dQ,evs]at hW⊢
  rwa [<-AE.bF (σ:=σ) (σ':=σ') (x:=f) fun t ht=>h t (.inl ht),<-Og (σ:=σ) (σ':=σ') (l:=l) fun t ht=>h t (.inr ht)]
 |bad=>exact hW
end
def pX (o:aD) (σ:Nat->PV):Prop:=match o.g with
 |none=>True
 |some (s,want)=>σ s= .bool want
def sU (o:aD) (σ:Nat->PV):Prop:=match o.g with
 |none=>False
 |some (s,want)=>σ s= .bool (!want)\/σ s= .dn []
def jd (P:Program) (C:AH->Prop):List (aD×Bool)->((Nat->PV)->AH->Prop)->(Nat->PV)->AH->Prop
 |[],K,σ,H=>K σ H
 |(o,d)::l,K,σ,H=>
   (sU o σ/\jd P C l K (upd σ o.dst ud) H)\/
   (pX o σ/\match d with
    |true=> ∃p H',dQ P o.k (fun r fu=>r=p/\fu=H') σ H/\C H'/\jd P C l K (upd σ o.dst p) H'
    |false=> ∃p,(∀H',C H'->dQ P o.k (fun r fu=>r=p/\fu=H') σ H')/\jd P C l K (upd σ o.dst p) H)
def bV:List (aD×Bool)->(Nat->PV)->(Nat->PV)->Nat->Nat->PV
 |[],_,σ,_=>σ
 |_::_,_,σ,0=>σ
 |(o,_)::l,val,σ,j+1=>bV l (fun i=>val (i+1)) (upd σ o.dst (val 0)) j
open Classical in
noncomputable def nE:List (aD×Bool)->(Nat->PV)->(Nat->Prop)->(Nat->PV)->Nat->PV
 |[],_,_,σ=>σ
 |(o,_)::l,val,E,σ=>nE l (fun i=>val (i+1)) (fun i=>E (i+1)) (if E 0 then upd σ o.dst (val 0)else σ)
theorem aj9 {σ σ':Nat->PV} {d:Option Nat} {v:PV} {t:Nat} (h:σ t=σ' t):upd σ d v t=upd σ' d v t:=by
 cases d with
 |none=>exact h
 |some d=>
  simp only [upd];split
  · rfl
  · exact h
theorem upd_ne {σ:Nat->PV} {d:Option Nat} {v:PV} {t:Nat} (h:d≠some t):upd σ d v t=σ t:=by
 cases d with
 |none=>rfl
 |some d=>simp only [upd];rw [if_neg (fun e=>h (by rw [e]))]
theorem Va {σ:Nat->PV} {v:PV} {t:Nat}:upd σ (some t) v t=v:=by simp [upd]
theorem Rq (l:List (aD×Bool)) (val σ:Nat->PV):bV l val σ 0=σ:=by cases l<;>rfl
theorem akb: ∀(l:List (aD×Bool)) (val:Nat->PV) (σ σ':Nat->PV) (j t:Nat),σ t=σ' t->bV l val σ j t=bV l val σ' j t
 |[],_,_,_,_,_,h=>h
 |_::_,_,_,_,0,_,h=>h
 |(o,_)::l,val,σ,σ',j+1,t,h=>akb l _ _ _ j t (aj9 h)
open Classical in
theorem yc: ∀(l:List (aD×Bool)) (val:Nat->PV) (E:Nat->Prop) (σ:Nat->PV) (j t:Nat),(∀(i:Nat) (o:aD×Bool),l[i]? =some o->o.1.dst=some t->(E i↔i<j))->nE l val E σ t=bV l val σ j t
 |[],_,_,_,_,_,_=>rfl
 |(o,d)::l,val,E,σ,0,t,h=>by
   have h0:o.dst=some t-> ¬E 0:=fun e hE=>by have:=(h 0 (o,d) rfl e).1 hE;omega
   simp only [nE,bV];rw [yc l _ _ _ 0 t (fun i o' e e'=>by have:=h (i+1) o' (by simpa using e) e';exact⟨fun h'=>by have:=this.1 h';omega,fun h'=>by omega⟩)];have hs:(if E 0 then upd σ o.dst (val 0)else σ) t=σ t:=by
    by_cases hE:E 0
    · rw [if_pos hE];exact upd_ne fun e=>h0 e hE
    · rw [if_neg hE]
   rw [Rq];exact hs
 |(o,d)::l,val,E,σ,j+1,t,h=>by
   simp only [nE,bV];rw [yc l _ _ _ j t (fun i o' e e'=>by have:=h (i+1) o' (by simpa using e) e';exact⟨fun h'=>by have:=this.1 h';omega,fun h'=>this.2 (by omega)⟩)];refine akb l _ _ _ j t ?_;by_cases hd:o.dst=some t
   · rw [if_pos ((h 0 (o,d) rfl hd).2 (by omega))]
   · by_cases hE:E 0
     · rw [if_pos hE]
     · rw [if_neg hE,upd_ne hd]
open Classical in
theorem Oi: ∀(l:List (aD×Bool)) (val:Nat->PV) (E E':Nat->Prop) (σ σ':Nat->PV) (t:Nat),σ t=σ' t->(∀(i:Nat) (o:aD×Bool),l[i]? =some o->o.1.dst=some t->(E i↔E' i))->nE l val E σ t=nE l val E' σ' t
 |[],_,_,_,_,_,_,h,_=>h
 |(o,d)::l,val,E,E',σ,σ',t,h,hE=>by
   simp only [nE];refine Oi l _ _ _ _ _ t ?_ (fun i o' e e'=>hE (i+1) o' (by simpa using e) e');by_cases hd:o.dst=some t
   · have:=hE 0 (o,d) rfl hd;by_cases h0:E 0
     · rw [if_pos h0,if_pos (this.1 h0)];exact aj9 h
     · rw [if_neg h0,if_neg (fun h'=>h0 (this.2 h'))];exact h
   · have e1:(if E 0 then upd σ o.dst (val 0)else σ) t=σ t:=by
      by_cases h0:E 0
      · rw [if_pos h0];exact upd_ne hd
      · rw [if_neg h0]
     have e2:(if E' 0 then upd σ' o.dst (val 0)else σ') t=σ' t:=by
      by_cases h0:E' 0
      · rw [if_pos h0];exact upd_ne hd
      · rw [if_neg h0]
     rw [e1,e2];exact h
theorem Rt: ∀(l:List (aD×Bool)) (val:Nat->PV) (σ:Nat->PV) (j:Nat) (o:aD×Bool),l[j]? =some o->bV l val σ (j+1)=upd (bV l val σ j) o.1.dst (val j)
 |(o,d)::l,val,σ,0,o',h=>by
   simp at h;subst h;cases l<;>rfl
 |(o,d)::l,val,σ,j+1,o',h=>Rt l _ _ j o' (by simpa using h)
theorem Vb {P:Program} {C:AH->Prop} {K:(Nat->PV)->AH->Prop}: ∀(l:List (aD×Bool)) (σ:Nat->PV) (H:AH),C H->jd P C l K σ H->
 ∃(val:Nat->PV) (hp:Nat->AH),hp 0=H/\K (bV l val σ l.length) (hp l.length)/\(∀i,i<=l.length->C (hp i))/\ ∀(i:Nat) (o:aD) (d:Bool),l[i]? =some (o,d)->
   (sU o (bV l val σ i)/\val i=ud/\hp (i+1)=hp i)\/
   (pX o (bV l val σ i)/\d=true/\dQ P o.k (fun r fu=>r=val i/\fu=hp (i+1)) (bV l val σ i) (hp i))\/
   (pX o (bV l val σ i)/\d=false/\hp (i+1)=hp i/\ ∀H',C H'->dQ P o.k (fun r fu=>r=val i/\fu=H') (bV l val σ i) H')
 |[],σ,H,hC,h=>⟨fun _=> .any,fun _=>H,rfl,h,fun i _=>hC,fun i o d e=>by simp at e⟩
 |(o,d)::l,σ,H,hC,h=>by
   have step: ∀(p:PV) (H':AH),C H'->jd P C l K (upd σ o.dst p) H'->
    ((sU o σ/\p=ud/\H'=H)\/(pX o σ/\d=true/\dQ P o.k (fun r fu=>r=p/\fu=H') σ H)\/(pX o σ/\d=false/\H'=H/\ ∀H2,C H2->dQ P o.k (fun r fu=>r=p/\fu=H2) σ H2))->
    ∃(val:Nat->PV) (hp:Nat->AH),hp 0=H/\K (bV ((o,d)::l) val σ ((o,d)::l).length) (hp ((o,d)::l).length)/\(∀i,i<=((o,d)::l).length->C (hp i))/\ ∀(i:Nat) (o':aD) (d':Bool),((o,d)::l)[i]? =some (o',d')->
      (sU o' (bV ((o,d)::l) val σ i)/\val i=ud/\hp (i+1)=hp i)\/
      (pX o' (bV ((o,d)::l) val σ i)/\d'=true/\dQ P o'.k (fun r fu=>r=val i/\fu=hp (i+1)) (bV ((o,d)::l) val σ i) (hp i))\/
      (pX o' (bV ((o,d)::l) val σ i)/\d'=false/\hp (i+1)=hp i/\ ∀H',C H'->dQ P o'.k (fun r fu=>r=val i/\fu=H') (bV ((o,d)::l) val σ i) H'):=by
    intro p H' hC' hW hhead;obtain⟨val,hp,h0,h1,h2,h3⟩:=Vb l _ _ hC' hW;refine⟨fun i=>match i with|0=>p|i+1=>val i,fun i=>match i with|0=>H|i+1=>hp i,rfl,?_,?_,?_⟩
    · exact h1
    · intro i hi;cases i with
      |zero=>exact hC
      |succ i=>exact h2 i (by simpa using hi)
    · intro i o' d' e;cases i with
      |zero=>
       simp at e;obtain⟨rfl,rfl⟩:=e;have hp0:hp 0=H':=h0;have hsl:bV ((o,d)::l) (fun i=>match i with|0=>p|i+1=>val i) σ 0=σ:=rfl;rw [hsl];simp only [hp0];exact hhead
      |succ i=>exact h3 i o' d' (by simpa using e)
   simp only [jd]at h;rcases h with⟨hg,hW⟩|⟨hg,hW⟩
   · exact step ud H hC hW (.inl ⟨hg,rfl,rfl⟩)
   · cases d with
     |true=>
      obtain⟨p,H',h1,h2,h3⟩:=hW;exact step p H' h2 h3 (.inr (.inl ⟨hg,rfl,h1⟩))
     |false=>
      obtain⟨p,h1,h3⟩:=hW;exact step p H hC h3 (.inr (.inr ⟨hg,rfl,rfl,h1⟩))
end Go.VL
end
section
namespace Go.VL
variable [Glob]
def pY (o:Oper):List Nat:=(o.after.toList.filter (Region.binds .any)).map (·.on)
def abG (o:Oper) (acc:List Nat):Nat:=(pY o).foldl (fun s e=>s|||2^e|||acc.getD e 0) 0
def masks:List Oper->List Nat->List Nat
 |[],acc=>acc
 |o::l,acc=>masks l (acc++[abG o acc])
def Closed (ops:List Oper) (E:Nat->Prop):Prop:= ∀(j:Nat) (o:Oper),ops[j]? =some o->E j-> ∀e∈pY o,E e
theorem ahB (o:Oper) (acc:List Nat) (E:Nat->Prop) (hacc: ∀(j m:Nat),acc[j]? =some m->E j-> ∀i,m.testBit i=true->E i) (hd: ∀e∈pY o,E e): ∀i,(abG o acc).testBit i=true->E i:=by
 have key: ∀(l:List Nat) (s:Nat),(∀e∈l,E e)->(∀i,s.testBit i=true->E i)-> ∀i,(l.foldl (fun s e=>s|||2^e|||acc.getD e 0) s).testBit i=true->E i:=by
  intro l
  induction l with
  |nil=>intro s _ hs i h;exact hs i h
  |cons e l ih=>
   intro s hl hs i h;refine ih _ (fun x hx=>hl x (by simp [hx])) (fun i h=> ?_) i h;rw [Nat.testBit_or,Nat.testBit_or]at h;simp only [C5]at h;rcases h with(h|h)|h
   · exact hs i h
   · rw [Nat.testBit_two_pow]at h;have:e=i:=by simpa using h
     exact this▸hl e (by simp)
   · cases hq:acc[e]? with
     |none=>simp [f8,hq]at h
     |some m=>
      simp [f8,hq]at h;exact hacc e m hq (hl e (by simp)) i h
 exact key _ 0 hd (fun i h=>by simp at h)
theorem Y8 (E:Nat->Prop): ∀(l:List Oper) (acc:List Nat),(∀(j m:Nat),acc[j]? =some m->E j-> ∀i,m.testBit i=true->E i)->(∀(j:Nat) (o:Oper),l[j]? =some o->E (acc.length+j)-> ∀e∈pY o,E e)->
 ∀(j m:Nat),(masks l acc)[j]? =some m->E j-> ∀i,m.testBit i=true->E i
 |[],acc,hacc,_=>hacc
 |o::l,acc,hacc,hl=>by
  refine Y8 E l (acc++[abG o acc]) (fun j m e hE=> ?_) (fun j o' e hE=>hl (j+1) o' (by simpa using e) (by simp at hE;rwa [show acc.length+(j+1)=acc.length+1+j by omega]));rcases D1 j acc.length with h|h
  · rw [C0 h]at e;exact hacc j m e hE
  · rw [N0 h]at e;have hj:j=acc.length:=by
     rcases D1 (j -acc.length) 1 with h'|h'
     · omega
     · rw [R1 (by simpa using h')]at e;cases e
    subst hj;simp at e;subst e;exact ahB o acc E hacc (hl 0 o rfl (by simpa using hE))
def dS (ms:List Nat) (i j:Nat):Bool:=(ms.getD j 0).testBit i
theorem uT {ops:List Oper} {E:Nat->Prop} (hE:Closed ops E) {i j:Nat} (h:dS (masks ops []) i j=true) (hj:E j):E i:=by
 unfold dS at h;cases hq:(masks ops [])[j]? with
 |none=>simp [f8,hq]at h
 |some m=>
  simp [f8,hq]at h;exact Y8 E ops [] (by simp) (fun j o e hE'=>hE j o e (by simpa using hE')) j m hq hj i h
def Qi (d:Option Nat) (l:List Nat):Bool:=match d with
 |some d=>l.contains d
 |none=>false
def Vd (d d':Option Nat):Bool:=match d,d' with
 |some a,some b=>a==b
 |_,_=>false
def clash (x y:aD):Bool:=Qi x.dst y.slots||Qi y.dst x.slots||Vd x.dst y.dst
def apt (ops:List Oper) (pr:List (aD×Bool)):Bool:=
 let ms:=masks ops []
 (List.range ops.length).all (fun j=>
  (match ops[j]? with|some o=>(pY o).all (fun e=>decide (e<j))|none=>true)&&
  (List.range j).all fun i=>
   match pr[i]?,pr[j]? with
   |some (x,d),some (y,d')=>(!(clash x y)||dS ms i j)&&(!(d&&d')||dS ms i j)
   |_,none=>dS ms i j
   |none,_=>true)
structure apu (ops:List Oper) (pr:List (aD×Bool)):Prop where
 deps: ∀(j:Nat) (o:Oper),ops[j]? =some o-> ∀e∈pY o,e<j
 clash: ∀(i j:Nat) (x y:aD×Bool),i<j->pr[i]? =some x->pr[j]? =some y->clash x.1 y.1=true->dS (masks ops []) i j=true
 d: ∀(i j:Nat) (x y:aD),i<j->pr[i]? =some (x,true)->pr[j]? =some (y,true)->dS (masks ops []) i j=true
 post: ∀(i j:Nat),i<j->j<ops.length->pr.length<=j->dS (masks ops []) i j=true
theorem ahC {ops:List Oper} {pr:List (aD×Bool)} (hl:pr.length<=ops.length) (h:apt ops pr=true):apu ops pr:=by
 have hj: ∀j,j<ops.length->(match ops[j]? with|some o=>(pY o).all (fun e=>decide (e<j))|none=>true)=true/\ ∀i,i<j->(match pr[i]?,pr[j]? with
  |some (x,d),some (y,d')=>(!(clash x y)||dS (masks ops []) i j)&&(!(d&&d')||dS (masks ops []) i j)
  |_,none=>dS (masks ops []) i j
  |none,_=>true)=true:=by
  intro j hj;have:=S3.1 h j (B5.2 hj);simp only [z1]at this;exact⟨this.1,fun i hi=>S3.1 this.2 i (B5.2 hi)⟩
 have hlt: ∀{α:Type} (l:List α) (j:Nat) (x:α),l[j]? =some x->j<l.length:=fun l j x e=>by
  rcases D1 j l.length with h'|h'
  · exact h'
  · rw [R1 h']at e;cases e
 refine⟨fun j o e x hx=> ?_,fun i j x y hij ex ey hc=> ?_,fun i j x y hij ex ey=> ?_,fun i j hij hjo hjp=> ?_⟩
 · have:=(hj j (hlt _ _ _ e)).1;rw [e]at this;simpa using S3.1 this x hx
 · obtain⟨x,d⟩:=x;obtain⟨y,d'⟩:=y;have:=(hj j (K0 (hlt _ _ _ ey) hl)).2 i hij;rw [ex,ey]at this;simp only [z1,C5,z7]at this;simp only at hc;rcases this.1 with h'|h'
   · rw [hc]at h';cases h'
   · exact h'
 · have:=(hj j (K0 (hlt _ _ _ ey) hl)).2 i hij;rw [ex,ey]at this;simp only [z1,C5,z7,Bool.and_self]at this;rcases this.2 with h'|h'
   · cases h'
   · exact h'
 · have:=(hj j hjo).2 i hij;rw [R1 hjp]at this;cases hq:pr[i]? with
   |none=>rw [hq]at this;exact this
   |some x=>rw [hq]at this;obtain⟨x,d⟩:=x;exact this
end Go.VL
end
