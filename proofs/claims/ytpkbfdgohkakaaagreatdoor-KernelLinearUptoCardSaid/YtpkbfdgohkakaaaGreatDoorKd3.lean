/- Part 3. -/
import Derived.Test.YtpkbfdgohkakaaaGreatDoorKd2
import Derived.Test.YtpkbfdgohkakaaaGreatDoorCards
import Derived.Test.YtpkbfdgohkakaaaGreatDoorTie
import Derived.WalkKit
import Derived.ProofKit
import Derived.OpenShut
import Derived.Deep.DeepHandedRow
import Derived.Deep.DeepWitnessRowRef
import Derived.Lib.LaidTab
import Derived.Carry
import Derived.RowKit
import Derived.ChangeArms
set_option linter.unusedVariables false
set_option linter.unusedSectionVars false
set_option linter.unusedSimpArgs false
section
namespace Go.Proofs.YtpkbfdgohkakaaaGreatDoor
open Go.ChangeShapes Go.WideShapes Go.ChangeAt Go.RowKit Go.VL
set_option maxRecDepth 100000
theorem own:ownKnob Tryz.prog.godebug=none:=by kernel_rfl
theorem laidOut:laidOutB Tryz.prog=true:=by kernel_rfl
abbrev EC:List (String×DataW Unit):=[("math/bits.deBruijn32tab",Rows.laid_math_bits_deBruijn32tab),("math/bits.deBruijn64tab",Rows.laid_math_bits_deBruijn64tab),("internal/strconv.uint64pow10",Rows.laid_internal_strconv_uint64pow10),("unicode.White_Space",Rows.laid_unicode_White_Space),("strings.asciiSpace",Rows.laid_strings_asciiSpace)]
theorem wM {P:Program} {x:String×DataW Unit} {l:List (String×DataW Unit)} {w:World} (h:laidMet P (x::l) w):laidMet P l w:=by
 obtain⟨ps,⟨g,t,cs,fuel,p,q,h1,h2,h3,h4,h5,rfl⟩,hn,hr⟩:=h;exact⟨q,h5,(List.nodup_append.1 hn).2.1,fun b off hp=>hr b off (T5 _ hp)⟩
theorem JQ {W:World} {name:String} {k:IntKind} {zs:List Int} {d0:DataW Unit} (hd:d0=Lib.tabData k zs) {rest:List (String×DataW Unit)} {g:Nat} {t e:TypeId} {n:Nat} (hg:Tryz.prog.globalNamed name=some g) (hty:(Tryz.prog.globals[g]?).map (·.type)=some t)
 (ht:Tryz.prog.underlying t=some (.array n e)) (he:Tryz.prog.underlying e=some (.int k)) (hce:Tryz.prog.cellsOf e=1) (hct:Tryz.prog.cellsOf t=n) (h:laidMet Tryz.prog ((name,d0)::rest) W) (i:Nat) (x:Int) (hx:zs[i]? =some x):
 W.cell? ⟨g,i,none⟩=some (.int k x):=by
 subst hd;have hi:=(S0.1 hx).1;have:=(Lib.tabIs_of_head hg hty ht he hce hct h).cell hg i hi;rw [this];simp [List.getD,hx]
theorem JR {W:World} {name:String} {k:IntKind} {zs:List Int} {d0:DataW Unit} (hd:d0=Lib.tabData k zs) {rest:List (String×DataW Unit)} {g:Nat} {t e:TypeId} {n:Nat} (hg:Tryz.prog.globalNamed name=some g) (hty:(Tryz.prog.globals[g]?).map (·.type)=some t)
 (ht:Tryz.prog.underlying t=some (.array n e)) (he:Tryz.prog.underlying e=some (.int k)) (hce:Tryz.prog.cellsOf e=1) (hct:Tryz.prog.cellsOf t=n) (h:laidMet Tryz.prog ((name,d0)::rest) W):
 ∃t fr,W.heap[g]? =some (.cells (zs.map (Value.int k)).toArray t fr):=by
 subst hd;have key:W.var? Tryz.prog name=some (zs.map fun z=>Value.int k z).toArray:=Lib.tabIs_of_head hg hty ht he hce hct h;unfold World.var? at key;rw [hg,W0]at key;cases h:W.heap[g]? with
 |none=>rw [h]at key;cases key
 |some o=>
  rw [h]at key;cases o with
  |cells cs t fr=>cases key;exact⟨t,fr,rfl⟩
  |_=>cases key
theorem abR (b:Nat):tabs.get b=if b=0 then some (.u8,C8)else if b=3 then some (.u64,Rx)else if b=4 then some (.u8,Xo)else if b=5 then some (.u8,Xp)else none:=by
 simp only [tabs,EB.get,List.find?];by_cases h0:b=0
 · subst h0;rfl
 by_cases h3:b=3
 · subst h3;rfl
 by_cases h4:b=4
 · subst h4;rfl
 by_cases h5:b=5
 · subst h5;rfl
 simp [h0,h3,h4,h5,B3 h0,B3 h3,B3 h4,B3 h5,O0.2 (B3 h0),O0.2 (B3 h3),O0.2 (B3 h4),O0.2 (B3 h5)]
theorem as4 {W:World} (h:laidMetH Tryz.prog EC W):WH (fun b=>W.heap.size<=b) W:=by
 have h:laidMet Tryz.prog EC W:=h;have h1:=wM h;have h2:=wM h1;have h4:=wM (wM h2);have e4:(Rows.laid_math_bits_deBruijn32tab:DataW Unit)=Lib.tabData .u8 Xo:=by kernel_rfl
 have e5:(Rows.laid_math_bits_deBruijn64tab:DataW Unit)=Lib.tabData .u8 Xp:=by kernel_rfl
 have e3:(Rows.laid_internal_strconv_uint64pow10:DataW Unit)=Lib.tabData .u64 Rx:=by kernel_rfl
 have e0:(Rows.laid_strings_asciiSpace:DataW Unit)=Lib.tabData .u8 C8:=by kernel_rfl
 have c4:=JR (g:=4) e4 (by kernel_rfl) (by kernel_rfl) Tryz.underlying353 Tryz.underlying5 (by kernel_rfl) (by kernel_rfl) h;have c5:=JR (g:=5) e5 (by kernel_rfl) (by kernel_rfl) Tryz.underlying354 Tryz.underlying5 (by kernel_rfl) (by kernel_rfl) h1;have c3:=JR (g:=3) e3 (by kernel_rfl) (by kernel_rfl) Tryz.underlying351 Tryz.underlying293 (by kernel_rfl) (by kernel_rfl) h2;have c0:=JR (g:=0) e0 (by kernel_rfl) (by kernel_rfl) Tryz.underlying300 Tryz.underlying5 (by kernel_rfl) (by kernel_rfl) h4;intro b arr e;have e:(tabs.get b).map (fun x=>(x.2.map (Value.int x.1)).toArray)=some arr:=e;have key: ∃t fr,W.heap[b]? =some (.cells arr t fr):=by
  rw [abR]at e;by_cases a0:b=0
  · subst a0;cases e;exact c0
  by_cases a3:b=3
  · subst a3;cases e;exact c3
  by_cases a4:b=4
  · subst a4;cases e;exact c4
  by_cases a5:b=5
  · subst a5;cases e;exact c5
  simp only [a0,a3,a4,a5,↓reduceIte,Option.map_none]at e;cases e
 obtain⟨t,fr,hk⟩:=key;exact⟨Nat.not_le_of_lt (Z2.1 hk).1,t,fr,hk⟩
theorem as5 {W:World} (h:laidMetH Tryz.prog EC W): ∀a x,as3.gc a=some x->W.cell? a=some x:=by
 have h:laidMet Tryz.prog EC W:=h;have h1:=wM h;have h2:=wM h1;have h4:=wM (wM h2);have e4:(Rows.laid_math_bits_deBruijn32tab:DataW Unit)=Lib.tabData .u8 Xo:=by kernel_rfl
 have e5:(Rows.laid_math_bits_deBruijn64tab:DataW Unit)=Lib.tabData .u8 Xp:=by kernel_rfl
 have e3:(Rows.laid_internal_strconv_uint64pow10:DataW Unit)=Lib.tabData .u64 Rx:=by kernel_rfl
 have e0:(Rows.laid_strings_asciiSpace:DataW Unit)=Lib.tabData .u8 C8:=by kernel_rfl
 have c4: ∀i x,Xo[i]? =some x->W.cell? ⟨4,i,none⟩=some (.int .u8 x):=fun i x hx=>JQ e4 (by kernel_rfl) (by kernel_rfl) Tryz.underlying353 Tryz.underlying5 (by kernel_rfl) (by kernel_rfl) h i x hx;have c5: ∀i x,Xp[i]? =some x->W.cell? ⟨5,i,none⟩=some (.int .u8 x):=fun i x hx=>JQ e5 (by kernel_rfl) (by kernel_rfl) Tryz.underlying354 Tryz.underlying5 (by kernel_rfl) (by kernel_rfl) h1 i x hx;have c3: ∀i x,Rx[i]? =some x->W.cell? ⟨3,i,none⟩=some (.int .u64 x):=fun i x hx=>JQ e3 (by kernel_rfl) (by kernel_rfl) Tryz.underlying351 Tryz.underlying293 (by kernel_rfl) (by kernel_rfl) h2 i x hx;have c0: ∀i x,C8[i]? =some x->W.cell? ⟨0,i,none⟩=some (.int .u8 x):=fun i x hx=>JQ e0 (by kernel_rfl) (by kernel_rfl) Tryz.underlying300 Tryz.underlying5 (by kernel_rfl) (by kernel_rfl) h4 i x hx;intro a x e;obtain⟨b,o,sp⟩:=a;cases sp with
 |some s=>cases e
 |none=>
  have e:(match tabs.get b with|some (k,ns)=>ns[o]?.map (Value.int k)|none=>none)=some x:=e;have hb:=abR b;rw [hb]at e;by_cases h0:b=0
  · subst h0;simp only [↓reduceIte,Z1]at e;obtain⟨y,hy,rfl⟩:=e;exact c0 o y hy
  by_cases h3:b=3
  · subst h3;simp only [↓reduceIte,Z1,Nat.reduceEqDiff]at e;obtain⟨y,hy,rfl⟩:=e;exact c3 o y hy
  by_cases h4:b=4
  · subst h4;simp only [↓reduceIte,Z1,Nat.reduceEqDiff]at e;obtain⟨y,hy,rfl⟩:=e;exact c4 o y hy
  by_cases h5:b=5
  · subst h5;simp only [↓reduceIte,Z1,Nat.reduceEqDiff]at e;obtain⟨y,hy,rfl⟩:=e;exact c5 o y hy
  simp only [h0,h3,h4,h5,↓reduceIte]at e;cases e
noncomputable def Oo (os:Os):World:=
 let N:=(World.settled Tryz.prog os).heap.size
 let w0:=World.holding Tryz.prog os ⟨#[.cells (([9,13,1,32,133,101,160,5760,5600,8192,8202,1,8232,8233,1,8239,8287,48,12288,12288,1]:List Nat).map fun(z:Nat)=>Value.int .u16 (z:Int)).toArray 335,.cells #[.slice (some ⟨N,0,none⟩) 7 7,.slice none 0 0,.int .i64 2] 332],#[],[]⟩
 let put (h:Array Obj) (g:Nat) (cs:Array Value):Array Obj:=h.modify g fun
  | .cells _ t frozen=> .cells cs t frozen
  |o=>o
 let h1:=put w0.heap 0 (C8.map fun z=>Value.int .u8 z).toArray
 let h2:=put h1 3 (Rx.map fun z=>Value.int .u64 z).toArray
 let h3:=put h2 4 (Xo.map fun z=>Value.int .u8 z).toArray
 let h4:=put h3 5 (Xp.map fun z=>Value.int .u8 z).toArray
 let h5:=put h4 1 #[.pointer (some ⟨N+1,0,none⟩)]
 {w0 with heap:=h5}
theorem am4 (os:Os) (args:Array Value):laidMet Tryz.prog EC ((Oo os).forCall (fun _ _=>0) ⟨#[],args,[]⟩).memory:=
 laidMet_of_run' 10 (by kernel_rfl) (by kernel_rfl)
theorem stays {H:Type} {enc:TypeId×Value->H} {t:TypeId} (hr:Tryz.prog.readableRec t=true) (hrow:t<Tryz.prog.types.size) {W W':World} {v:Value} {d:DataW H} {ps:List MemPlace}
 (h:DataW.Trod enc Tryz.prog W 0 (fun _=>true) true t v d ps) (hb:Below W.heap.size W W') (hlt: ∀x∈ps,x.block<W.heap.size):DataW.Trod enc Tryz.prog W' 0 (fun b=>decide (b<W.heap.size)) true t v d ps:=
 Below.trod laidOut hr hrow h hb hlt
end Go.Proofs.YtpkbfdgohkakaaaGreatDoor
end
section
namespace Go.VL
variable [Glob]
inductive Sc:PV->Prop where
 |bool (b:Bool):Sc (.bool b)
 |int (k:IntKind) (x:Int):Sc (.int k x)
 |str (s:List UInt8):Sc (.str s)
 |any:Sc .any
 |dn (cs:List PV) (h: ∀c∈cs,Sc c):Sc (.dn cs)
theorem V.sc {G G':Gh} {n n':Nat} {p:PV} {v:Value} (k:V G n p v) (hp:Sc p):V G' n' p v:=by
 induction k with
 |any v=>exact .any v
 |bool b=>exact .bool b
 |int k x=>exact .int k x
 |str s=>exact .str s
 |dn cs vs h1 _ ih=>
  cases hp with
  |dn _ h=>exact .dn cs vs h1 (fun j c x hc hx=>ih j c x hc hx (h c (B1 hc)))
 |_=>cases hp
theorem aG.frozen {P:Program} {f:FuncId} {args args':List PV} {r:PV} {H:AH} (hz:args'.length=args.length/\ ∀(j:Nat) (a a':PV),args[j]? =some a->args'[j]? =some a'->Fz H a a') (ha: ∀a∈args',Pu a)
 (h:aG P f args' r) (hr:Sc r):aW P f args H fun v H'=>v=r/\H'=H:=by
 refine⟨(h AH.empty).enters,fun B G w vs hU hM hv=> ?_⟩
 let F0:=(G.froze H w).F
 have hF0: ∀a x,G.F a=some x->F0 a=some x:=fun a x e=>Ic e;have aFb: ∀a x,F0 a=some x->w.cell? a=some x:=by
  intro a x e;simp only [F0,Gh.froze]at e;split at e
  · rename_i y hy;cases e;exact hM.su a x hy
  · split at e
    · exact e
    · cases e
 have hv':Vs ⟨F0,fun _=>none,fun _=>none⟩ 0 args' vs:=⟨hv.1.trans hz.1.symm,fun j c x hc hx=>by
  have hj:j<args.length:=by
   rw [<-hz.1];exact(S0.1 hc).1
  have hf:=hz.2 j args[j] c (by simp) hc;have:=hf.reads hM x (hv.2 j args[j] x (by simp) hx);exact V.pure (fun _ _ e=>e) this (ha c (B1 hc))⟩
 refine(((h AH.empty).call (fun b=>w.heap.size<=b) _ w vs (fun b hb=>hb) (HM.empty (fun a x e=>hF0 a x (hM.glob a x e)) aFb hM.wh.old) hv')).mono ?_;rintro e w' ⟨q,v,H',G',h1,h2,h3,h4,h5,h6,rfl,rfl⟩;have hold: ∀b,b<w.heap.size->w'.heap[b]? =w.heap[b]? :=fun b hb=>h2.same b hb (by omega);have hlt: ∀b arr t fr,w.heap[b]? =some (.cells arr t fr)->b<w.heap.size:=fun b arr t fr e=>(Z2.1 e).1
 have hM2:HM B H G w':={
  glob:=hM.glob
  su:=fun a x e=>by
   have hc:=hM.su a x e;exact(World.cell?_of_block (hold _ (World.block_lt_of_cell? w a hc))).trans hc
  obj:=fun id cs e=>by
   obtain⟨k0,b,arr,t,k1,k2,k3,k4,k5⟩:=hM.obj id cs e;exact⟨k0,b,arr,t,k1,k2,(hold b (hlt _ _ _ _ k3)).trans k3,k4,k5⟩
  inj:=hM.inj
  tok:=fun k e=>by
   obtain⟨k0,b,o,arr,t,k1,k2,k3,k5⟩:=hM.tok k e;exact⟨k0,b,o,arr,t,k1,k2,(hold b (hlt _ _ _ _ k3)).trans k3,k5⟩
  sS:=hM.sS
  tobj:=hM.tobj
  wh:=hM.wh.keep fun b _ hb=>hold b hb}
 exact⟨_,v,H,G,h1,⟨h2.size,fun b hb _=>hold b hb,h2.os,h2.tape,h2.output,h2.JG⟩,Ext.refl B _ G,R0 _,hM2,h6.sc hr,rfl,rfl⟩
end Go.VL
end
section
namespace Go.VL
variable [Glob]
section
variable {P:Program} {Q:Post} {σ:Nat->PV} {H:AH} {K:(Nat->PV)->AH->Prop}
def PC (P:Program) (g:FuncId) (args:List PV) (k:PV->Prop):Prop:= ∃p,aG P g args p/\k p
theorem PC.mk {g:FuncId} {args:List PV} {k:PV->Prop} {p:PV} (h:aG P g args p) (hk:k p):PC P g args k:=⟨p,h,hk⟩
theorem avC {pr:List (aD×Bool)} {post:List aD} (h:jd P (·=H) pr (eZ P post (Q .normal)) σ H):W P (.par pr post) Q σ H:=⟨(·=H),rfl,h⟩
theorem agw {d:Option Nat} {k:RK} {l:List (aD×Bool)} (h:match rop k σ H with|some p=>jd P (·=H) l K (upd σ d p) H|none=>False):jd P (·=H) ((⟨d,.r k,none⟩,false)::l) K σ H:=by
 cases hr:rop k σ H with
 |none=>rw [hr]at h;exact h.elim
 |some p=>
  rw [hr]at h;exact dR p (fun H' e=>by subst e;exact hr) h
theorem Xq {d:Option Nat} {k:AK} {s:Nat} {want b:Bool} {l:List (aD×Bool)}
 (h:match σ s with| .bool t=>if t=want then jd P (·=H) ((⟨d,k,none⟩,b)::l) K σ H else jd P (·=H) l K (upd σ d ud) H| .dn []=>jd P (·=H) l K (upd σ d ud) H|_=>False):jd P (·=H) ((⟨d,k,some (s,want)⟩,b)::l) K σ H:=by
 split at h
 · rename_i t ht;split at h
   · rename_i e;subst e;exact as2 ht h
   · rename_i e;refine abQ (.inl ?_) h;rw [ht];cases t<;>cases want<;>first|rfl|exact absurd rfl e
 · rename_i ht;exact abQ (.inr ht) h
 · exact h.elim
theorem GH {d:Option Nat} {g:FuncId} {fs cs:List PV} {az:List AE} {l:List (aD×Bool)} (h:PC P g (fs++evs σ az++cs) fun p=>jd P (·=H) l K (upd σ d p) H):
 jd P (·=H) ((⟨d,.call (.c (.fn (.func g) fs cs)) az,none⟩,false)::l) K σ H:=by
 obtain⟨p,h1,h2⟩:=h;exact Ch p h1 h2
theorem AH.agx (cs:List PV) (i:Nat):(H.new cs).obj i=if i=H.next then some cs else H.obj i:=rfl
theorem AH.agy (id:Nat) (cs:List PV) (i:Nat):(H.put id cs).obj i=if i=id then some cs else H.obj i:=rfl
theorem AH.aN (cs:List PV):(H.new cs).next=H.next+1:=rfl
theorem AH.aO (id:Nat) (cs:List PV):(H.put id cs).next=H.next:=rfl
theorem AH.aS:H.tok.next=H.next+1:=rfl
theorem AH.aT (k:Nat):(H.use k).next=H.next:=rfl
end
attribute [go_sem] AH.agx AH.agy AH.aN AH.aO AH.aS AH.aT
theorem as6 (k:IntKind) (x:Int):(PV.int k x).one=true:=rfl
theorem am5 (b:Bool):(PV.bool b).one=true:=rfl
theorem as7 (s:List UInt8):(PV.str s).one=true:=rfl
theorem as8 (es:List (List PV)) (c:Ck):(PV.ah es c).one=true:=rfl
theorem as9 (a b c d e:Nat):(PV.bP a b c d e).one=true:=rfl
theorem ata (a b:Nat):(PV.ref a b).one=true:=rfl
theorem afn (l:List PV):cellsOf (.agg l)=some l:=rfl
theorem afo (k:IntKind) (x:Int):cellsOf (.int k x)=some [.int k x]:=rfl
theorem abS (b:Bool):cellsOf (.bool b)=some [.bool b]:=rfl
theorem afp (s:List UInt8):cellsOf (.str s)=some [.str s]:=rfl
theorem afq (es:List (List PV)) (c:Ck):cellsOf (.ah es c)=some [.ah es c]:=rfl
theorem afr (a b c d e:Nat):cellsOf (.bP a b c d e)=some [.bP a b c d e]:=rfl
theorem afs (a b:Nat):cellsOf (.ref a b)=some [.ref a b]:=rfl
attribute [go_sem] List.length_take
attribute [go_sem] afn afo abS afp afq afr afs as6 am5 as7 as8 as9 ata Bool.true_and List.drop_zero List.drop_succ_cons List.take_succ_cons List.take_zero List.all_cons List.all_nil Bool.and_true Bool.and_self List.drop_nil Nat.zero_add Nat.add_zero Nat.le_refl and_self
end Go.VL
end
section
namespace Go.VL
section
variable {H:AH}
theorem FH {α:Type} {sz:Nat} {f:α->List PV} (hf: ∀x,(f x).length=sz) (l:List α):L9 sz (l.map f):=by
 intro cs h;obtain⟨x,_,rfl⟩:=G3.1 h;exact hf x
class nk {α:Type} (f:α->List PV) (sz:outParam Nat):Prop where
 len: ∀x,(f x).length=sz
 wkf: ∀x,(f x).map wk=f x
theorem avD {α:Type} {sz:Nat} {f:α->List PV} {l:List α} {c:Ck} {k:IntKind} {n:Int} [hr:nk f sz]:
 qE sz (.ah (l.map f) c) (some (.int k n)) none none=if 0<=n/\n.toNat<=l.length then some (.ah ((l.drop n.toNat).map f) .unk)else none:=by
 simp only [qE,pI];by_cases h1:0<=n
 · by_cases h2:n.toNat<=l.length
   · simp [h1,h2,FH hr.len,List.map_drop,I3]
   · simp [h1,h2]
 · simp [h1]
theorem avE {α:Type} {sz:Nat} {f:α->List PV} {l:List α} {c:Ck} {k:IntKind} {n:Int} [hr:nk f sz]:
 qE sz (.ah (l.map f) c) none (some (.int k n)) none=if 0<=n/\n.toNat<=l.length then some (.ah ((l.take n.toNat).map f) .unk)else none:=by
 simp only [qE,pI];by_cases h1:0<=n
 · by_cases h2:n.toNat<=l.length
   · simp [h1,h2,FH hr.len,List.map_take]
   · simp [h1,h2]
 · simp [h1]
theorem am6 {α:Type} {sz:Nat} {f:α->List PV} {l:List α} {c:Ck} {k k':IntKind} {m n:Int} [hr:nk f sz]:
 qE sz (.ah (l.map f) c) (some (.int k m)) (some (.int k' n)) none=if 0<=m/\m<=n/\n.toNat<=l.length then some (.ah (((l.take n.toNat).drop m.toNat).map f) .unk)else none:=by
 simp only [qE,pI];by_cases h0:0<=m
 · by_cases h1:0<=n
   · by_cases h4:m<=n
     · have h4':m.toNat<=n.toNat:=by omega
       by_cases h2:n.toNat<=l.length
       · simp [h0,h1,h4,h4',h2,FH hr.len,List.map_take,List.map_drop]
       · simp [h0,h1,h4,h2]
     · have h4': ¬m.toNat<=n.toNat:=by omega
       simp [h0,h1,h4,h4']
   · have h4: ¬m<=n:=by omega
     simp [h0,h1,h4]
 · simp [h0]
theorem atb {s:List UInt8} {k:IntKind} {n:Int}:Ba (.str s) (some (.int k n)) none=if 0<=n/\n.toNat<=s.length then some (.str (s.drop n.toNat))else none:=by
 simp only [Ba,pI];by_cases h1:0<=n
 · by_cases h2:n.toNat<=s.length
   · simp [h1,h2]
   · simp [h1,h2]
 · simp [h1]
theorem atc {s:List UInt8} {k:IntKind} {n:Int}:Ba (.str s) none (some (.int k n))=if 0<=n/\n.toNat<=s.length then some (.str (s.take n.toNat))else none:=by
 simp only [Ba,pI];by_cases h1:0<=n
 · by_cases h2:n.toNat<=s.length
   · simp [h1,h2]
   · simp [h1,h2]
 · simp [h1]
theorem akk {s:List UInt8} {k k':IntKind} {m n:Int}:Ba (.str s) (some (.int k m)) (some (.int k' n))=if 0<=m/\m<=n/\n.toNat<=s.length then some (.str ((s.take n.toNat).drop m.toNat))else none:=by
 simp only [Ba,pI];by_cases h0:0<=m
 · by_cases h1:0<=n
   · by_cases h4:m<=n
     · have h4':m.toNat<=n.toNat:=by omega
       simp [h0,h1,h4,h4']
     · have h4': ¬m.toNat<=n.toNat:=by omega
       simp [h0,h1,h4,h4']
   · have h4: ¬m<=n:=by omega
     simp [h0,h1,h4]
 · simp [h0]
inductive Lw:List PV->List PV->Prop where
 |nil:Lw [] []
 |same {p:PV} {l m:List PV} (h:Lw l m):Lw (p::l) (p::m)
 |ah {es:List (List PV)} {c:Ck} {l m:List PV} (h:Lw l m):Lw (.ah es c::l) (.ah es .unk::m)
theorem Lw.get {l m:List PV} (h:Lw l m):l.length=m.length/\ ∀(j:Nat) (q:PV),m[j]? =some q-> ∃p,l[j]? =some p/\ ∀(G:Gh) (n:Nat) (v:Value),V G n p v->V G n q v:=by
 induction h with
 |nil=>exact⟨rfl,fun j q e=>by simp at e⟩
 |same _ ih=>
  refine⟨by simp [ih.1],fun j q e=> ?_⟩;cases j with
  |zero=>simp at e;subst e;exact⟨_,rfl,fun _ _ _ h=>h⟩
  |succ j=>simp at e;simpa using ih.2 j q e
 |ah _ ih=>
  refine⟨by simp [ih.1],fun j q e=> ?_⟩;cases j with
  |zero=>simp at e;subst e;exact⟨_,rfl,fun _ _ _ h=>h.wk⟩
  |succ j=>simp at e;simpa using ih.2 j q e
theorem bK {α:Type} {f:α->List PV} (hf: ∀x,∀c∈f x,Pu c) (l:List α):Pu (.ah (l.map f) .unk):=by
 refine .ah _ _ (fun cs h c hc=> ?_) (by simp);obtain⟨x,_,rfl⟩:=G3.1 h;exact hf x c hc
inductive dJ:List PV->Prop where
 |nil:dJ []
 |cons {p:PV} {l:List PV} (h:Pu p) (t:dJ l):dJ (p::l)
theorem dJ.mem {l:List PV} (h:dJ l): ∀c∈l,Pu c:=by
 induction h with
 |nil=>intro c h;cases h
 |cons h _ ih=>
  intro c hc;rcases M1.1 hc with rfl|hc
  · exact h
  · exact ih c hc
inductive KZ (H:AH):List PV->List PV->Prop where
 |nil:KZ H [] []
 |cons {p q:PV} {l m:List PV} (h:Fz H p q) (t:KZ H l m):KZ H (p::l) (q::m)

theorem gB {H:AH} {k:IntKind} {n:Int} {l m:List PV} (t:KZ H l m):KZ H (.int k n::l) (.int k n::m):= .cons (.pure _ (.int _ _)) t
theorem KZ.get {l m:List PV} (h:KZ H l m):m.length=l.length/\ ∀(j:Nat) (c c':PV),l[j]? =some c->m[j]? =some c'->Fz H c c':=by
 induction h with
 |nil=>exact⟨rfl,fun j c c' e=>by simp at e⟩
 |cons h _ ih=>
  refine⟨by simp [ih.1],fun j c c' e e'=> ?_⟩;cases j with
  |zero=>simp at e e';subst e;subst e';exact h
  |succ j=>simp at e e';exact ih.2 j c c' e e'
theorem akl {id off:Nat} {cs cs':List PV} (ho:H.obj id=some cs) (h:KZ H cs cs'):Fz H (.ref id off) (.cK cs' off):= .ref id off cs cs' ho h.get.1 h.get.2
theorem apw {g:Fn} {cs cs':List PV} (h:KZ H cs cs'):Fz H (.fn g [] cs) (.fn g [] cs'):= .fn g [] [] cs cs' rfl (fun j c c' e=>by simp at e) h.get.1 h.get.2
theorem jT {l m:List PV} (h:KZ H l m):Fz H (.agg l) (.agg m):= .agg l m h.get.1 h.get.2
theorem oh {l m:List PV} (h:KZ H l m):Fz H (.dn l) (.dn m):= .dn l m h.get.1 h.get.2
theorem jV {α:Type} {f:α->List PV} (hf: ∀x,∀c∈f x,Pu c) (l:List α) (c:Ck):Fz H (.ah (l.map f) c) (.ah (l.map f) .unk):=by
 refine .ah _ _ c .unk (.inl rfl) rfl (fun i cs cs' h1 h2=>by rw [h1]at h2;cases h2;rfl) (fun i cs cs' h1 h2 j c c' h3 h4=> ?_);rw [h1]at h2;cases h2;rw [h3]at h4;cases h4;obtain⟨x,_,rfl⟩:=G3.1 (B1 h1);exact .pure _ (hf x c (B1 h3))
theorem atd {α:Type} {sz:Nat} {f:α->List PV} [hr:nk f sz] (l:List α) (c:Ck):KS (.ah (l.map f) c)= .ah (l.map f) c:=by
 simp only [KS,E7];congr 1;exact HC fun x _=>hr.wkf x
end
def u8L (n:Int):List PV:=[.int .u8 n]
def vM (s:List UInt8):List Int:=s.map fun b=>(b.toNat:Int)
variable [Glob]
section
variable {P:Program} {Q:Post} {σ σ':Nat->PV} {H H':AH} {K:(Nat->PV)->AH->Prop}
inductive Fm where
 |seq (b:AC)
 |ops (l:List aD)
 |block (id:Nat)
def BP (P:Program):List Fm->Post->Post
 |[],Q=>Q
 | .seq b::s,Q=>Ab (fun σ H=>W P b (BP P s Q) σ H) (BP P s Q)
 | .ops l::s,Q=>Ab (fun σ H=>eZ P l (BP P s Q .normal) σ H) (BP P s Q)
 | .block id::s,Q=>Ol id (BP P s Q)
variable {s:List Fm}
def WS (P:Program) (a:AC) (s:List Fm) (Q:Post) (σ:Nat->PV) (H:AH):Prop:=W P a (BP P s Q) σ H
def WO (P:Program) (l:List aD) (s:List Fm) (Q:Post) (σ:Nat->PV) (H:AH):Prop:=eZ P l (BP P s Q .normal) σ H
def WE (P:Program) (e:Ex) (s:List Fm) (Q:Post) (σ:Nat->PV) (H:AH):Prop:=BP P s Q e σ H
theorem aI {a:AC} (h:WS P a [] Q σ H):W P a Q σ H:=h
theorem oG {l:List aD} (h:WO P l [] Q σ H):eZ P l (Q .normal) σ H:=h
def WCd (P:Program):PV->AC->AC->List Fm->Post->(Nat->PV)->AH->Prop
 | .bool true,a,_,s,Q,σ,H=>WS P a s Q σ H
 | .bool false,_,b,s,Q,σ,H=>WS P b s Q σ H
 |_,_,_,_,_,_,_=>False
def WR (P:Program) (o:Option PV) (d:Option Nat) (l:List aD) (s:List Fm) (Q:Post) (σ:Nat->PV) (H:AH):Prop:=match o with
 |some p=>WO P l s Q (upd σ d p) H
 |none=>False
def WD (P:Program) (o:Option (PV×AH)) (d:Option Nat) (l:List aD) (s:List Fm) (Q:Post) (σ:Nat->PV):Prop:=match o with
 |some (p,H)=>WO P l s Q (upd σ d p) H
 |none=>False
def WG (P:Program) (v:PV) (want:Bool) (d:Option Nat) (k:AK) (l:List aD) (s:List Fm) (Q:Post) (σ:Nat->PV) (H:AH):Prop:=match v with
 | .bool b=>if b=want then WO P (⟨d,k,none⟩::l) s Q σ H else WO P l s Q (upd σ d ud) H
 | .dn []=>WO P l s Q (upd σ d ud) H
 |_=>False
def MC (P:Program) (g:FuncId) (az:List PV) (d:Option Nat) (l:List aD) (s:List Fm) (Q:Post) (σ:Nat->PV) (H:AH):Prop:=aW P g az H fun r H'=>WO P l s Q (upd σ d r) H'
def MV (P:Program) (v:PV) (az:List PV) (d:Option Nat) (l:List aD) (s:List Fm) (Q:Post) (σ:Nat->PV) (H:AH):Prop:=match v with
 | .fn (.func g) fs cs=>MC P g (fs++az++cs) d l s Q σ H
 |_=>False
theorem avF {a b:AC}:WS P (.seq a b) s Q σ H=WS P a (.seq b::s) Q σ H:=rfl
theorem am7 {id:Nat} {a:AC}:WS P (.block id a) s Q σ H=WS P a (.block id::s) Q σ H:=rfl
theorem avG {l:List aD}:WS P (.ops l) s Q σ H=WO P l s Q σ H:=rfl
theorem ate {id:Nat}:WS P (.exit id) s Q σ H=WE P (.exit id) s Q σ H:=rfl
theorem avH:WS P .ret s Q σ H=WE P .ret s Q σ H:=rfl
theorem atf:WS P .skip s Q σ H=WE P .normal s Q σ H:=rfl
theorem atg {c:AE} {a b:AC}:WS P (.cond c a b) s Q σ H=WCd P (c.ev σ) a b s Q σ H:=by
 simp only [WS,W];cases c.ev σ with
 |bool t=>cases t<;>simp [WCd,WS]
 |_=>rfl
theorem apy {f:AE} {p q:Nat} {a b:AC} {g id sz:Nat} {agg:Bool} {es:List (List PV)} {c:Ck} (hf:f.ev σ= .fn (.func g) [] [.ref id 0]) (he:Enters P g) (hb:Vg P g sz agg) (h0:0<sz) (ho:H.obj id=some [.ah es c]) (hl:es.length<=1099511627776) (hs:L9 sz es)
 (h:GD (fun Q' σ' H'=>W P a (JN (fun sF fu=>W P b Q' sF fu)) σ' H') (BP P s Q) σ id [.ah es c] p q (es.map (E9 agg)) es.length H):WS P (.rf f p q a b) s Q σ H:=aE8 hf he hb h0 ho hl hs h
theorem abT {K:(Nat->PV)->AH->Prop}:JN K .normal σ H=K σ H:=rfl
theorem abU {X:AH->Prop}:ahG Q σ X .normal σ' H=X H:=rfl
theorem ahO {X:AH->Prop} {i:Nat}:ahG Q σ X (.exit i) σ' H=Q (.exit i) σ H:=rfl
theorem aft {p:PV} {cs:List PV}:E9 false (p::cs)=p:=rfl
theorem am8 {a b:AC}:WCd P (.bool true) a b s Q σ H=WS P a s Q σ H:=rfl
theorem akn {a b:AC}:WCd P (.bool false) a b s Q σ H=WS P b s Q σ H:=rfl
theorem avI {e:Ex}:WE P e [] Q σ H=Q e σ H:=rfl
theorem am9 {b:AC}:WE P .normal (.seq b::s) Q σ H=WS P b s Q σ H:=rfl
theorem ana {i:Nat} {b:AC}:WE P (.exit i) (.seq b::s) Q σ H=WE P (.exit i) s Q σ H:=rfl
theorem anb {b:AC}:WE P .ret (.seq b::s) Q σ H=WE P .ret s Q σ H:=rfl
theorem anc {l:List aD}:WE P .normal (.ops l::s) Q σ H=WO P l s Q σ H:=rfl
theorem ahP {i:Nat}:WE P .normal (.block i::s) Q σ H=WE P .normal s Q σ H:=rfl
theorem ahQ {i:Nat}:WE P .ret (.block i::s) Q σ H=WE P .ret s Q σ H:=rfl
theorem ahR {i j:Nat}:WE P (.exit j) (.block i::s) Q σ H=if j=i then WE P .normal s Q σ H else WE P (.exit j) s Q σ H:=rfl
theorem ath {e:Ex} {f:Fm}:BP P (f::s) Q e σ H=WE P e (f::s) Q σ H:=rfl
theorem afu {l m:List aD}:eZ P (l++m) K σ H=eZ P l (fun σ' H'=>eZ P m K σ' H') σ H:=by
 induction l generalizing σ H with
 |nil=>rfl
 |cons o l ih=>
  simp only [B4,eZ];cases o.g with
  |none=>simp only [ih]
  |some sw=>
   obtain⟨s,want⟩:=sw;simp only [ih]
theorem avJ:WO P [] s Q σ H=WE P .normal s Q σ H:=rfl
theorem ako {l m:List aD}:WO P (l++m) s Q σ H=WO P l (.ops m::s) Q σ H:=afu
theorem aFc {d:Option Nat} {k:RK} {l:List aD}:WO P (⟨d,.r k,none⟩::l) s Q σ H=WR P (rop k σ H) d l s Q σ H:=rfl
theorem ati {p:PV} {d:Option Nat} {l:List aD}:WR P (some p) d l s Q σ H=WO P l s Q (upd σ d p) H:=rfl
theorem abV {x y:List UInt8} {d:Option Nat} {l:List aD} (hb:x.length+y.length<=4611686018427387904) (h:WO P l s Q (upd σ d (.str (x++y))) H):WR P (CP .add x y) d l s Q σ H:=by
 rw [CP,if_pos hb];exact h
theorem atj {p:PV} {d:Option Nat} {l:List aD}:WD P (some (p,H)) d l s Q σ=WO P l s Q (upd σ d p) H:=rfl
theorem aFd {d:Option Nat} {k:AK} {t:Nat} {want:Bool} {l:List aD}:WO P (⟨d,k,some (t,want)⟩::l) s Q σ H=WG P (σ t) want d k l s Q σ H:=rfl
section
variable {d:Option Nat} {k:AK} {l:List aD} {want:Bool}
theorem aAK:WG P (.bool true) true d k l s Q σ H=WO P (⟨d,k,none⟩::l) s Q σ H:=rfl
theorem aAL:WG P (.bool false) false d k l s Q σ H=WO P (⟨d,k,none⟩::l) s Q σ H:=rfl
theorem aAM:WG P (.bool true) false d k l s Q σ H=WO P l s Q (upd σ d ud) H:=rfl
theorem aAN:WG P (.bool false) true d k l s Q σ H=WO P l s Q (upd σ d ud) H:=rfl
theorem aAO:WG P (.dn []) want d k l s Q σ H=WO P l s Q (upd σ d ud) H:=rfl
end
theorem ane {d:Option Nat} {z:List PV} {l:List aD}:WO P (⟨d,.d (.alloc z),none⟩::l) s Q σ H=WO P l s Q (upd σ d (.ref H.next 0)) (H.new z):=rfl
theorem avK {d:Option Nat} {n:Nat} {x:AE} {l:List aD}:WO P (⟨d,.d (.box n x),none⟩::l) s Q σ H=WD P (jc (.box n x) σ H) d l s Q σ:=rfl
theorem dB {d:Option Nat} {n:Nat} {x v:AE} {l:List aD}:WO P (⟨d,.d (.store n x v),none⟩::l) s Q σ H=WD P (jc (.store n x v) σ H) d l s Q σ:=rfl
theorem atl {d:Option Nat} {z:List PV} {ps:List (Nat×Nat×AE)} {l:List aD}:WO P (⟨d,.n (.NY z ps),none⟩::l) s Q σ H=WR P ((kU σ z ps).map .agg) d l s Q σ H:=by
 show eZ P _ _ σ H=_
 rw [IB];simp only [nop];cases kU σ z ps<;>rfl
def anf (P:Program):PV->Option Nat->List aD->List Fm->Post->(Nat->PV)->AH->Prop
 | .str x,d,l,s,Q,σ,H=>WO P l s Q (upd σ d (.ah ((vM x).map u8L) .unk)) H
 |_,_,_,_,_,_,_=>False
theorem avL {d:Option Nat} {x:AE} {l:List aD}:WO P (⟨d,.n (.Y4 x),none⟩::l) s Q σ H=anf P (x.ev σ) d l s Q σ H:=by
 show eZ P _ _ σ H=_
 rw [IB,nop];cases x.ev σ with
 |str x=>
  simp only [anf,vM,E7];rfl
 |_=>rfl
theorem ang {d:Option Nat} {x:List UInt8} {l:List aD}:anf P (.str x) d l s Q σ H=WO P l s Q (upd σ d (.ah ((vM x).map u8L) .unk)) H:=rfl
theorem atm {d:Option Nat} {g:FuncId} {fs cs:List PV} {az:List AE} {l:List aD}:WO P (⟨d,.call (.c (.fn (.func g) fs cs)) az,none⟩::l) s Q σ H=MC P g (fs++evs σ az++cs) d l s Q σ H:=rfl
theorem anh {d:Option Nat} {n:Nat} {az:List AE} {l:List aD}:WO P (⟨d,.call (.t n) az,none⟩::l) s Q σ H=MV P (σ n) (evs σ az) d l s Q σ H:=rfl
theorem aAP {g:FuncId} {fs cs az:List PV} {d:Option Nat} {l:List aD}:MV P (.fn (.func g) fs cs) az d l s Q σ H=MC P g (fs++az++cs) d l s Q σ H:=rfl
def jW (P:Program):List (aD×Bool)->((Nat->PV)->AH->Prop)->(Nat->PV)->AH->Prop
 |[],K,σ,H=>K σ H
 |(⟨d,.r k,none⟩,false)::l,K,σ,H=>match rop k σ H with
   |some p=>jW P l K (upd σ d p) H
   |none=>False
 |(⟨d,.call (.c (.fn (.func g) fs cs)) az,none⟩,false)::l,K,σ,H=>PC P g (fs++evs σ az++cs) fun p=>jW P l K (upd σ d p) H
 |(⟨d,.r k,some (s,want)⟩,false)::l,K,σ,H=>match σ s with
   | .bool t=>if t=want then(match rop k σ H with
    |some p=>jW P l K (upd σ d p) H
    |none=>False)else jW P l K (upd σ d ud) H
   | .dn []=>jW P l K (upd σ d ud) H
   |_=>False
 |(⟨d,.call (.c (.fn (.func g) fs cs)) az,some (s,want)⟩,false)::l,K,σ,H=>match σ s with
   | .bool t=>if t=want then PC P g (fs++evs σ az++cs) fun p=>jW P l K (upd σ d p) H else jW P l K (upd σ d ud) H
   | .dn []=>jW P l K (upd σ d ud) H
   |_=>False
 |_,_,_,_=>False
theorem atn {d:Option Nat} {k:RK} {l:List (aD×Bool)}:jW P ((⟨d,.r k,none⟩,false)::l) K σ H=(match rop k σ H with|some p=>jW P l K (upd σ d p) H|none=>False):=rfl
theorem Vl {d:Option Nat} {g:FuncId} {fs cs:List PV} {az:List AE} {l:List (aD×Bool)}:
 jW P ((⟨d,.call (.c (.fn (.func g) fs cs)) az,none⟩,false)::l) K σ H=PC P g (fs++evs σ az++cs) fun p=>jW P l K (upd σ d p) H:=rfl
theorem ani {d:Option Nat} {k:RK} {s:Nat} {want:Bool} {l:List (aD×Bool)}:jW P ((⟨d,.r k,some (s,want)⟩,false)::l) K σ H=
 (match σ s with| .bool t=>if t=want then(match rop k σ H with|some p=>jW P l K (upd σ d p) H|none=>False)else jW P l K (upd σ d ud) H| .dn []=>jW P l K (upd σ d ud) H|_=>False):=rfl
theorem QE {d:Option Nat} {g:FuncId} {fs cs:List PV} {az:List AE} {s:Nat} {want:Bool} {l:List (aD×Bool)}:
 jW P ((⟨d,.call (.c (.fn (.func g) fs cs)) az,some (s,want)⟩,false)::l) K σ H=
 (match σ s with| .bool t=>if t=want then PC P g (fs++evs σ az++cs) fun p=>jW P l K (upd σ d p) H else jW P l K (upd σ d ud) H| .dn []=>jW P l K (upd σ d ud) H|_=>False):=rfl
theorem jI: ∀(l:List (aD×Bool)) (σ:Nat->PV),jW P l K σ H->jd P (·=H) l K σ H
 |[],σ,h=>h
 |(⟨d,.r k,none⟩,false)::l,σ,h=>by
   refine agw ?_;rw [atn]at h;cases hp:rop k σ H with
   |some p=>rw [hp]at h;exact jI l _ h
   |none=>rw [hp]at h;exact h.elim
 |(⟨d,.call (.c (.fn (.func g) fs cs)) az,none⟩,false)::l,σ,h=>by
   refine GH ?_;obtain⟨p,h1,h2⟩:=(Vl (K:=K)▸h);exact⟨p,h1,jI l _ h2⟩
 |(⟨d,.r k,some (s,want)⟩,false)::l,σ,h=>by
   refine Xq ?_;rw [ani]at h;generalize σ s=v at h;cases v with
   |bool t=>
    simp only at h⊢;by_cases hw:t=want
    · rw [if_pos hw]at h⊢;refine agw ?_;cases hp:rop k σ H with
      |some p=>rw [hp]at h;exact jI l _ h
      |none=>rw [hp]at h;exact h.elim
    · rw [if_neg hw]at h⊢;exact jI l _ h
   |dn l'=>cases l' with
    |nil=>exact jI l _ h
    |cons=>exact h.elim
   |_=>exact h.elim
 |(⟨d,.call (.c (.fn (.func g) fs cs)) az,some (s,want)⟩,false)::l,σ,h=>by
   refine Xq ?_;rw [QE]at h;generalize σ s=v at h;cases v with
   |bool t=>
    simp only at h⊢;by_cases hw:t=want
    · rw [if_pos hw]at h⊢;refine GH ?_;obtain⟨p,h1,h2⟩:=h;exact⟨p,h1,jI l _ h2⟩
    · rw [if_neg hw]at h⊢;exact jI l _ h
   |dn l'=>cases l' with
    |nil=>exact jI l _ h
    |cons=>exact h.elim
   |_=>exact h.elim
 |(_,true)::_,_,h=>by simp [jW]at h
 |(⟨_,.d _,_⟩,false)::_,_,h=>by simp [jW]at h
 |(⟨_,.n _,_⟩,false)::_,_,h=>by simp [jW]at h
 |(⟨_,.bad,_⟩,false)::_,_,h=>by simp [jW]at h
 |(⟨_,.call (.t _) _,_⟩,false)::_,_,h=>by simp [jW]at h
 |(⟨_,.call (.c v) az,g⟩,false)::l,σ,h=>by
   cases v with
   |fn f fs cs=>
    cases f with
    |func n=>cases g with
     |none=>
      refine GH ?_;obtain⟨p,h1,h2⟩:=(Vl (K:=K)▸h);exact⟨p,h1,jI l _ h2⟩
     |some sw=>
      obtain⟨s,want⟩:=sw;refine Xq ?_;rw [QE]at h;generalize σ s=v at h;cases v with
      |bool t=>
       simp only at h⊢;by_cases hw:t=want
       · rw [if_pos hw]at h⊢;refine GH ?_;obtain⟨p,h1,h2⟩:=h;exact⟨p,h1,jI l _ h2⟩
       · rw [if_neg hw]at h⊢;exact jI l _ h
      |dn l'=>cases l' with
       |nil=>exact jI l _ h
       |cons=>exact h.elim
      |_=>exact h.elim
    |_=>simp [jW]at h
   |_=>simp [jW]at h
def og (P:Program) (m:Nat):List (aD×Bool)->((Nat->PV)->AH->Prop)->(Nat->PV)->AH->Prop
 |[],K,σ,H=>K σ H
 |(⟨d,.r (.load n a x),none⟩,false)::l,K,σ,H=>(match x.ev σ with| .ref id _=>id≠m|_=>True)/\match rop (.load n a x) σ H with
   |some p=>og P m l K (upd σ d p) H
   |none=>False
 |(⟨d,.r k,none⟩,false)::l,K,σ,H=>match rop k σ H with
   |some p=>og P m l K (upd σ d p) H
   |none=>False
 |(⟨d,.call (.c (.fn (.func g) fs cs)) az,none⟩,false)::l,K,σ,H=>PC P g (fs++evs σ az++cs) fun p=>og P m l K (upd σ d p) H
 |(⟨d,.d (.store n x v),none⟩,true)::l,K,σ,H=>(match x.ev σ with| .ref id _=>id=m|_=>False)/\match jc (.store n x v) σ H with
   |some (p,H')=>og P m l K (upd σ d p) H'
   |none=>False
 |(⟨d,.d (.alloc z),none⟩,true)::l,K,σ,H=>H.next=m/\og P m l K (upd σ d (.ref H.next 0)) (H.new z)
 |_,_,_,_=>False
theorem ato {k:RK} (hk: ∀n a x,k≠ .load n a x) (H1 H2:AH):rop k σ H1=rop k σ H2:=by
 cases k<;>first|rfl|exact absurd rfl (hk _ _ _)
theorem uU {m:Nat} (H0:AH): ∀(l:List (aD×Bool)) (σ:Nat->PV) (H:AH),(∀i,i≠m->H.obj i=H0.obj i)->og P m l K σ H->jd P (fun H'=> ∀i,i≠m->H'.obj i=H0.obj i) l K σ H
 |[],σ,H,hC,h=>h
 |(⟨d,.r k,none⟩,false)::l,σ,H,hC,h=>by
   by_cases hk: ∃n a x,k= .load n a x
   · obtain⟨n,a,x,rfl⟩:=hk;obtain⟨h1,h2⟩:=h;cases hp:rop (.load n a x) σ H with
     |none=>rw [hp]at h2;exact h2.elim
     |some p=>
      rw [hp]at h2;refine dR p (fun H' hC'=> ?_) (uU H0 l _ _ hC h2);rw [<-hp];simp only [rop];generalize x.ev σ=v at*;cases v<;>first|rfl|skip
      rename_i id o;simp only at h1;simp only [CQ];rw [hC' id h1,hC id h1]
   · have h':match rop k σ H with|some p=>og P m l K (upd σ d p) H|none=>False:=by
      cases k<;>first|exact h|exact absurd ⟨_,_,_,rfl⟩ hk
     cases hp:rop k σ H with
     |none=>rw [hp]at h';exact h'.elim
     |some p=>
      rw [hp]at h';exact dR p (fun H' _=>by rw [<-hp];exact ato (fun n a x e=>hk ⟨n,a,x,e⟩) H' H) (uU H0 l _ _ hC h')
 |(⟨d,.call (.c (.fn (.func g) fs cs)) az,none⟩,false)::l,σ,H,hC,h=>by
   obtain⟨p,h1,h2⟩:=h;exact Ch p h1 (uU H0 l _ _ hC h2)
 |(⟨d,.d (.store n x v),none⟩,true)::l,σ,H,hC,h=>by
   obtain⟨h1,h2⟩:=h;cases hp:jc (.store n x v) σ H with
   |none=>rw [hp]at h2;exact h2.elim
   |some q=>
    obtain⟨p,H'⟩:=q;rw [hp]at h2;have hC': ∀i,i≠m->H'.obj i=H0.obj i:=by
     intro i hi;simp only [jc]at hp;generalize x.ev σ=u at*;cases u<;>try exact h1.elim
     rename_i id o;simp only at h1;subst h1;split at hp
     · rename_i id' o' vs e1 e2;cases e1;split at hp
       · split at hp
         · cases hp;show(if i=id then _ else H.obj i)=_;rw [if_neg hi];exact hC i hi
         · cases hp
       · cases hp
     · cases hp
    exact Vj p H' hp hC' (uU H0 l _ _ hC' h2)
 |(⟨_,.r _,some _⟩,_)::_,_,_,_,h=>by simp [og]at h
 |(⟨_,.r _,none⟩,true)::_,_,_,_,h=>by simp [og]at h
 |(⟨_,.n _,_⟩,_)::_,_,_,_,h=>by simp [og]at h
 |(⟨_,.bad,_⟩,_)::_,_,_,_,h=>by simp [og]at h
 |(⟨_,.d _,_⟩,false)::_,_,_,_,h=>by simp [og]at h
 |(⟨_,.d _,some _⟩,true)::_,_,_,_,h=>by simp [og]at h
 |(⟨d,.d (.alloc z),none⟩,true)::l,σ,H,hC,h=>by
   obtain⟨h1,h2⟩:=h;have hC': ∀i,i≠m->(H.new z).obj i=H0.obj i:=by
    intro i hi;show(if i=H.next then _ else H.obj i)=_;rw [if_neg (by rw [h1];exact hi)];exact hC i hi
   exact Vj (.ref H.next 0) (H.new z) rfl hC' (uU H0 l _ _ hC' h2)
 |(⟨_,.d (.box _ _),none⟩,true)::_,_,_,_,h=>by simp [og]at h
 |(⟨_,.d (.app _ _ _ _),none⟩,true)::_,_,_,_,h=>by simp [og]at h
 |(⟨_,.d (.yP _ _ _ _ _),none⟩,true)::_,_,_,_,h=>by simp [og]at h
 |(⟨_,.call _ _,some _⟩,_)::_,_,_,_,h=>by simp [og]at h
 |(⟨_,.call _ _,none⟩,true)::_,_,_,_,h=>by simp [og]at h
 |(⟨_,.call (.t _) _,none⟩,false)::_,_,_,_,h=>by simp [og]at h
 |(⟨d,.call (.c v) az,none⟩,false)::l,σ,H,hC,h=>by
   cases v with
   |fn f fs cs=>
    cases f with
    |func n=>
     obtain⟨p,h1,h2⟩:=h;exact Ch p h1 (uU H0 l _ _ hC h2)
    |_=>simp [og]at h
   |_=>simp [og]at h
def Et (P:Program) (pr:List (aD×Bool)) (post:List aD) (s:List Fm) (Q:Post) (σ:Nat->PV) (H:AH):Prop:=jW P pr (fun σ' H'=>WO P post s Q σ' H') σ H
def WPR (P:Program) (o:Option PV) (d:Option Nat) (l:List (aD×Bool)) (post:List aD) (s:List Fm) (Q:Post) (σ:Nat->PV) (H:AH):Prop:=match o with
 |some p=>Et P l post s Q (upd σ d p) H
 |none=>False
def WPG (P:Program) (v:PV) (want:Bool) (d:Option Nat) (k:AK) (l:List (aD×Bool)) (post:List aD) (s:List Fm) (Q:Post) (σ:Nat->PV) (H:AH):Prop:=match v with
 | .bool b=>if b=want then Et P ((⟨d,k,none⟩,false)::l) post s Q σ H else Et P l post s Q (upd σ d ud) H
 | .dn []=>Et P l post s Q (upd σ d ud) H
 |_=>False
def PCs (P:Program) (g:FuncId) (az:List PV) (d:Option Nat) (l:List (aD×Bool)) (post:List aD) (s:List Fm) (Q:Post) (σ:Nat->PV) (H:AH):Prop:=PC P g az fun p=>Et P l post s Q (upd σ d p) H
def IE (P:Program) (m:Nat) (pr:List (aD×Bool)) (post:List aD) (s:List Fm) (Q:Post) (σ:Nat->PV) (H:AH):Prop:=og P m pr (fun σ' H'=>WO P post s Q σ' H') σ H
def WTR (P:Program) (m:Nat) (o:Option PV) (d:Option Nat) (l:List (aD×Bool)) (post:List aD) (s:List Fm) (Q:Post) (σ:Nat->PV) (H:AH):Prop:=match o with
 |some p=>IE P m l post s Q (upd σ d p) H
 |none=>False
def WTD (P:Program) (m:Nat) (o:Option (PV×AH)) (d:Option Nat) (l:List (aD×Bool)) (post:List aD) (s:List Fm) (Q:Post) (σ:Nat->PV):Prop:=match o with
 |some (p,H)=>IE P m l post s Q (upd σ d p) H
 |none=>False
def noM (m:Nat):PV->Prop
 | .ref id _=>(id=m)=False
 |_=>True
def isM (m:Nat):PV->Prop
 | .ref id _=>id=m
 |_=>False
theorem agD {pr:List (aD×Bool)} {post:List aD} (m:Nat) (h:IE P m pr post s Q σ H):WS P (.par pr post) s Q σ H:=⟨_,fun _ _=>rfl,uU H _ _ _ (fun _ _=>rfl) h⟩
section
variable {m:Nat} {d:Option Nat} {l:List (aD×Bool)} {post:List aD}
theorem atp:IE P m [] post s Q σ H=WO P post s Q σ H:=rfl
theorem anj {p:PV}:WTR P m (some p) d l post s Q σ H=IE P m l post s Q (upd σ d p) H:=rfl
theorem ank {p:PV}:WTD P m (some (p,H)) d l post s Q σ=IE P m l post s Q (upd σ d p) H:=rfl
theorem anl {n:Nat} {a:Bool} {x:AE}:IE P m ((⟨d,.r (.load n a x),none⟩,false)::l) post s Q σ H=(noM m (x.ev σ)/\WTR P m (rop (.load n a x) σ H) d l post s Q σ H):=by
 show(_/\_)=_
 congr 1
 cases x.ev σ<;>simp [noM]
theorem atq {x:AE}:IE P m ((⟨d,.r (.AO x),none⟩,false)::l) post s Q σ H=WTR P m (rop (.AO x) σ H) d l post s Q σ H:=rfl
theorem atr {o:Nat} {x:AE}:IE P m ((⟨d,.r (.Qz o x),none⟩,false)::l) post s Q σ H=WTR P m (rop (.Qz o x) σ H) d l post s Q σ H:=rfl
theorem att {x:AE}:IE P m ((⟨d,.r (.len x),none⟩,false)::l) post s Q σ H=WTR P m (rop (.len x) σ H) d l post s Q σ H:=rfl
theorem anm {n z:Nat} {x i:AE}:IE P m ((⟨d,.r (.Gf n z x i),none⟩,false)::l) post s Q σ H=WTR P m (rop (.Gf n z x i) σ H) d l post s Q σ H:=rfl
theorem akp {z:List PV}:IE P m ((⟨d,.d (.alloc z),none⟩,true)::l) post s Q σ H=(H.next=m/\IE P m l post s Q (upd σ d (.ref H.next 0)) (H.new z)):=rfl
theorem akq {n:Nat} {x v:AE}:IE P m ((⟨d,.d (.store n x v),none⟩,true)::l) post s Q σ H=(isM m (x.ev σ)/\WTD P m (jc (.store n x v) σ H) d l post s Q σ):=rfl
theorem atu {id o:Nat}:noM m (.ref id o)=((id=m)=False):=rfl
theorem atv {id o:Nat}:isM m (.ref id o)=(id=m):=rfl
end
theorem oH {pr:List (aD×Bool)} {post:List aD} (h:Et P pr post s Q σ H):WS P (.par pr post) s Q σ H:=avC (jI _ _ h)
section
variable {d:Option Nat} {l:List (aD×Bool)} {post:List aD} {want:Bool} {k:AK}
theorem atw:Et P [] post s Q σ H=WO P post s Q σ H:=rfl
theorem aAQ {k:RK}:Et P ((⟨d,.r k,none⟩,false)::l) post s Q σ H=WPR P (rop k σ H) d l post s Q σ H:=rfl
theorem ano {p:PV}:WPR P (some p) d l post s Q σ H=Et P l post s Q (upd σ d p) H:=rfl
theorem anp {g:FuncId} {fs cs:List PV} {az:List AE}:Et P ((⟨d,.call (.c (.fn (.func g) fs cs)) az,none⟩,false)::l) post s Q σ H=PCs P g (fs++evs σ az++cs) d l post s Q σ H:=rfl
theorem avN {k:RK} {t:Nat}:Et P ((⟨d,.r k,some (t,want)⟩,false)::l) post s Q σ H=WPG P (σ t) want d (.r k) l post s Q σ H:=rfl
theorem akr {g:FuncId} {fs cs:List PV} {az:List AE} {t:Nat}:Et P ((⟨d,.call (.c (.fn (.func g) fs cs)) az,some (t,want)⟩,false)::l) post s Q σ H=WPG P (σ t) want d (.call (.c (.fn (.func g) fs cs)) az) l post s Q σ H:=rfl
theorem avO:WPG P (.bool true) true d k l post s Q σ H=Et P ((⟨d,k,none⟩,false)::l) post s Q σ H:=rfl
theorem avP:WPG P (.bool false) false d k l post s Q σ H=Et P ((⟨d,k,none⟩,false)::l) post s Q σ H:=rfl
theorem avQ:WPG P (.bool true) false d k l post s Q σ H=Et P l post s Q (upd σ d ud) H:=rfl
theorem avR:WPG P (.bool false) true d k l post s Q σ H=Et P l post s Q (upd σ d ud) H:=rfl
end
def aR (H:AH):Ck->Prop
 | .unk=>False
 | .tok t=>H.live t=true/\t<H.next
 |_=>True
def ku (c d:Ck):Prop:= ∀t,c= .tok t->d≠ .tok t
theorem aR.nil:aR H .nil:=trivial
theorem aR.exact:aR H .exact:=trivial
theorem aR.new {c:Ck} {cs:List PV} (h:aR H c):aR (H.new cs) c:=by
 cases c with
 |tok t=>exact⟨h.1,T7 h.2⟩
 |unk=>exact h
 |nil=>trivial
 |exact=>trivial
theorem aR.put {c:Ck} {id:Nat} {cs:List PV} (h:aR H c):aR (H.put id cs) c:=by
 cases c with
 |tok t=>exact h
 |unk=>exact h
 |nil=>trivial
 |exact=>trivial
theorem ku.nil {c:Ck}:ku .nil c:=fun _ h=>by cases h
theorem ku.exact {c:Ck}:ku .exact c:=fun _ h=>by cases h
theorem ku.symm {c d:Ck} (h:ku c d):ku d c:=fun t h1 h2=>h t h2 h1
def kC (sz:Nat) (cs:List PV):Prop:=cs.length=sz/\ ∀c∈cs,c.one=true
theorem qO {α:Type} {sz:Nat} {f:α->List PV} (hf: ∀x,kC sz (f x)) (l:List α):rC sz (l.map f):=by
 intro cs h;obtain⟨x,_,rfl⟩:=G3.1 h;exact hf x
theorem gI {α:Type} {d:Option Nat} {sz b:Nat} {x y:AE} {l:List aD} {f:α->List PV} (hf: ∀x,kC sz (f x)) (xs ys:List α) (c c2:Ck)
 (hx:x.ev σ= .ah (xs.map f) c) (hy:KS (y.ev σ)= .ah (ys.map f) c2) (hok:aR H c) (hb:(xs.length+ys.length)*b<=1099511627776)
 (h: ∀(c':Ck) (H':AH),aR H' c'->H.next<=H'.next->(∀i,H'.obj i=H.obj i)->(∀c3,aR H c3->ku c c3->aR H' c3/\ku c' c3)->WO P l s Q (upd σ d (.ah ((xs++ys).map f) c')) H'):
 WO P (⟨d,.d (.app sz b x y),none⟩::l) s Q σ H:=by
 show eZ P _ _ σ H
 simp only [aki,jc,hx,hy,Ma];by_cases h0:ys=[]
 · subst h0;simp only [MA,j0,↓reduceIte];have:=h c H hok (R0 _) (fun _=>rfl) (fun c3 h1 h2=>⟨h1,h2⟩);show WO P l s Q _ H;simpa using this
 · have h1: ¬((ys.map f).length=0):=by simpa using h0
   rw [if_neg h1,if_pos ⟨qO hf xs,qO hf ys,by simpa using hb⟩,<-A5];have fresh: ∀H1:AH,H1.next=H.next->(∀i,H1.obj i=H.obj i)->(∀t,c≠ .tok t->H.live t=true->H1.live t=true)->WO P l s Q (upd σ d (.ah ((xs++ys).map f) (.tok H.next))) H1.tok:=by
    intro H1 e1 e2 e3;refine h (.tok H.next) H1.tok ⟨?_,?_⟩ ?_ (fun i=>e2 i) (fun c3 k1 k2=> ?_)
    · show(if H.next=H1.next then true else H1.live H.next)=true
      rw [if_pos e1.symm]
    · show H.next<H1.next+1
      omega
    · show H.next<=H1.next+1
      omega
    · cases c3 with
      |tok t=>
       refine⟨⟨?_,?_⟩,fun t' h1' h2'=> ?_⟩
       · show(if t=H1.next then true else H1.live t)=true
         split
         · rfl
         · exact e3 t (fun e=>k2 t e rfl) k1.1
       · show t<H1.next+1
         have:=k1.2;omega
       · cases h1';cases h2';exact absurd k1.2 (d8 _)
      |unk=>exact k1.elim
      |nil=>exact⟨trivial,fun t h1' h2'=>by cases h2'⟩
      |exact=>exact⟨trivial,fun t h1' h2'=>by cases h2'⟩
   cases c with
   |unk=>exact hok.elim
   |nil=>exact fresh H rfl (fun _=>rfl) (fun _ _ h=>h)
   |exact=>exact fresh H rfl (fun _=>rfl) (fun _ _ h=>h)
   |tok t=>
    simp only [hok.1,↓reduceIte];refine fresh (H.use t) rfl (fun _=>rfl) (fun t' hne hl=> ?_);show(if t'=t then false else H.live t')=true;rw [if_neg (fun e=>hne (by rw [e])),hl]
theorem aW.wk {f:FuncId} {args args':List PV} {k:PV->AH->Prop} (h:aW P f args H k) (hw:Lw args' args):aW P f args' H k:=by
 obtain⟨h1,h2⟩:=hw.get;refine⟨h.enters,fun B G w vs hU hM hv=>h.call B G w vs hU hM ⟨hv.1.trans h1,fun j c x hc hx=> ?_⟩⟩;obtain⟨p,e,hp⟩:=h2 j c hc;exact hp _ _ _ (hv.2 j p x e hx)
theorem FI {f:FuncId} {args args':List PV} {r:PV} {k:PV->AH->Prop} (h:aG P f args' r) (hz:KZ H args args') (ha:dJ args') (hr:Sc r) (hk:k r H):aW P f args H k:=
 (aG.frozen hz.get ha.mem h hr).mono fun _ _ ⟨h1,h2⟩=>by subst h1;subst h2;exact hk
theorem aG.wk {f:FuncId} {args args':List PV} {r:PV} (h:aG P f args r) (hw:Lw args' args):aG P f args' r:=fun H=>(h H).wk hw
end
theorem aks (es:List (List PV)) (c:Ck):z8 (.ah es c)=some (.int .i64 es.length):=rfl
theorem akt (a b c d e:Nat):z8 (.bP a b c d e)=some (.int .i64 c):=rfl
theorem aku (sz:Nat) (es:List (List PV)) (c:Ck) (k:IntKind) (n:Int):jS sz (.ah es c) (.int k n)=if 0<=n then(match es[n.toNat]? with
 |some cs=>if cs.length=sz then some (.cK cs 0)else none
 |none=>none)else none:=rfl
theorem ahS (a b:List UInt8):CP .eql a b=some (.bool (a==b)):=rfl
theorem ahT (a b:List UInt8):CP .neq a b=some (.bool (!(a==b))):=rfl
theorem ahU (a b:List UInt8):CP .lss a b=some (.bool (strLt a b)):=rfl
theorem avS (k:IntKind) (x:Int):wk (.int k x)= .int k x:=rfl
theorem atx (b:Bool):wk (.bool b)= .bool b:=rfl
theorem avT (s:List UInt8):wk (.str s)= .str s:=rfl
theorem avU (es:List (List PV)) (c:Ck):wk (.ah es c)= .ah es .unk:=rfl
theorem aty (c:Ck):KS (.ah [] c)= .ah [] c:=rfl
theorem anq (cs:List PV) (es:List (List PV)) (c:Ck):KS (.ah (cs::es) c)= .ah (cs.map wk::es.map fun cs=>cs.map wk) c:=rfl
attribute [go_sem] avF am7 avG ate avH atf atg am8 akn avI am9 ana anb anc ahP ahQ ahR ath
attribute [go_sem] avJ ako aFc ati atj aFd aAK aAL aAM aAN aAO ane avK atl avL ang atm anh aAP
attribute [go_sem] atp anj ank anl atq atr att anm akp akq atu atv
attribute [go_sem] aks akt aku ahS ahT ahU
attribute [go_sem] abT abU ahO aft
attribute [go_sem] atw aAQ ano anp avN akr avO avP avQ avR
attribute [go_sem] avS atx avT avU aty anq atd avD avE am6 atb atc akk List.map_cons List.map_nil
end Go.VL
end
section
namespace Go.VL
theorem xR {α:Type} {b:Bool} {x y:α} (h:b=true):cond b x y=x:=by rw [h];rfl
theorem qc {α:Type} {b:Bool} {x y:α} (h:b=false):cond b x y=y:=by rw [h];rfl
theorem C9 {α β:Type} {x:Option α} {f:α->Option β} (h:x=none):Option.bind x f=none:=by rw [h];rfl
theorem Da {α β:Type} {x:Option α} {f:α->Option β} {a:α} (h:x=some a):Option.bind x f=f a:=by rw [h];rfl
theorem eH {α β γ:Type} {f:α->γ} {g:β->γ} {a:α}:Sum.elim f g (.inl a)=f a:=rfl
theorem fP {α β γ:Type} {f:α->γ} {g:β->γ} {a:β}:Sum.elim f g (.inr a)=g a:=rfl
def Fr (L:List Nat) (σ σ':Nat->PV):Prop:= ∀t,t∉L->σ' t=σ t
theorem Fr.refl (L:List Nat) (σ:Nat->PV):Fr L σ σ:=fun _ _=>rfl
theorem Fr.upd {L:List Nat} {σ σ':Nat->PV} {d:Nat} {v:PV} (hd:d∈L) (h:Fr L σ σ'):Fr L σ (upd σ' (some d) v):=fun t ht=>by
 have: ¬t=d:=fun e=>ht (e▸hd);show(if t=d then v else σ' t)=σ t;rw [if_neg this];exact h t ht
theorem Fr.via {L L':List Nat} {σ σ' sF:Nat->PV} (h':Fr L' σ' sF) (hL: ∀t∈L',t∈L) (h:Fr L σ σ'):Fr L σ sF:=fun t ht=>(h' t fun e=>ht (hL t e)).trans (h t ht)
def bR {α:Type} (f:α->List PV) (l:List α):List PV:=[.ah (l.map f) .unk]
theorem atz (s:Str):aF s=[.str s]:=rfl
theorem atA (n:Int):aK n=[.int .i64 n]:=rfl
theorem avV (n:Int):u8L n=[.int .u8 n]:=rfl
theorem avW {α:Type} (f:α->List PV) (l:List α):bR f l=[.ah (l.map f) .unk]:=rfl
theorem gu (s:Str): ∀c∈aF s,Pu c:=dJ.mem (.cons (.str _) .nil)
theorem gV (n:Int): ∀c∈aK n,Pu c:=dJ.mem (.cons (.int _ _) .nil)
theorem tN {α:Type} {f:α->List PV} (hf: ∀x,∀c∈f x,Pu c) (l:List α): ∀c∈bR f l,Pu c:=dJ.mem (.cons (bK hf l) .nil)
theorem row_of {sz:Nat} {l:List PV} (h:l.length=sz) (h':l.all PV.one=true):kC sz l:=⟨h,fun c hc=>S3.1 h' c hc⟩
theorem lG (s:Str):kC 1 (aF s):=row_of rfl rfl
theorem tJ (n:Int):kC 1 (aK n):=row_of rfl rfl
theorem IG {α:Type} {f:α->List PV} (l:List α):kC 1 (bR f l):=row_of rfl rfl
instance:nk aF 1:=⟨fun _=>rfl,fun _=>rfl⟩
instance:nk aK 1:=⟨fun _=>rfl,fun _=>rfl⟩
instance {α:Type} (f:α->List PV):nk (bR f) 1:=⟨fun _=>rfl,fun _=>rfl⟩
instance:nk Nd.cells 5:=⟨fun _=>rfl,fun _=>rfl⟩
theorem anr (n k:Nat):(n=n+k)=(k=0):=propext ⟨fun h=>by omega,fun h=>by omega⟩
theorem ant (n k:Nat):(n+k=n)=(k=0):=propext ⟨fun h=>by omega,fun h=>by omega⟩
theorem add_add (n j k:Nat):(n+j=n+k)=(j=k):=propext ⟨fun h=>by omega,fun h=>by omega⟩
theorem Nd.pu (x:Nd): ∀c∈x.cells,Pu c:=dJ.mem (.cons (.int _ _) (.cons (.int _ _) (.cons (.str _) (.cons (bK gu _) (.cons (bK gV _) .nil)))))
theorem Nd.row (x:Nd):kC 5 x.cells:=row_of rfl rfl
theorem Nd.je (x:Nd):x.cells=[.int .i64 x.kind,.int .i64 x.n,.str x.text,.ah (x.names.map aF) .unk,.ah (x.args.map aK) .unk]:=rfl
attribute [go_sem] Int.natCast_nonneg Nat.mul_one Nat.zero_le anr ant add_add Nat.add_assoc atz atA avV avW Nd.je
attribute [go_sem] Bool.not_true Bool.not_false Bool.true_eq_false Bool.false_eq_true true_implies false_implies and_true true_and implies_true if_true if_false ne_eq not_true_eq_false not_false_eq_true Int.cast_ofNat_Int Int.toNat_natCast beq_self_eq_true decide_true decide_false List.append_assoc
end Go.VL
namespace Go.VL
def HF (M:List Nat) (H H':AH):Prop:=H.next<=H'.next/\ ∀i,i<H.next->i∉M->H'.obj i=H.obj i
section
variable {M M':List Nat} {H H' fu:AH}
theorem HF.refl (M:List Nat) (H:AH):HF M H H:=⟨R0 _,fun _ _ _=>rfl⟩
theorem HF.new {cs:List PV} (h:HF M H H'):HF M H (H'.new cs):=⟨Nat.le_succ_of_le h.1,fun i hi hm=>by
 show(if i=H'.next then some cs else H'.obj i)=_
 have:i<H'.next:=K0 hi h.1;rw [if_neg (by omega)];exact h.2 i hi hm⟩
theorem HF.put {id:Nat} {cs:List PV} (hid:id∈M\/H.next<=id) (h:HF M H H'):HF M H (H'.put id cs):=⟨h.1,fun i hi hm=>by
 show(if i=id then some cs else H'.obj i)=_
 have: ¬i=id:=fun e=>by
  subst e;rcases hid with hid|hid
  · exact hm hid
  · omega
 rw [if_neg this];exact h.2 i hi hm⟩
theorem HF.via (h':HF M' H' fu) (hM: ∀i∈M',i∈M\/H.next<=i) (h:HF M H H'):HF M H fu:=⟨E1 h.1 h'.1,fun i hi hm=>by
 rw [h'.2 i (K0 hi h.1) (fun e=>by
  rcases hM i e with q|q
  · exact hm q
  · omega)]
 exact h.2 i hi hm⟩
end
theorem ne_next {o n:Nat} (h:o<n):(o=n)=False:=S2 (by omega)
theorem bA {o n:Nat} (h:o<n) (j:Nat):(o=n+j)=False:=S2 (by omega)
end Go.VL
end
section
namespace Go.VL
open Go.RowKit
theorem Za {α:Type} {f:α->List PV}: ∀(es:List (List PV)),(∀cs∈es,∃x,cs=f x)-> ∃xs:List α,es=xs.map f
 |[],_=>⟨[],rfl⟩
 |cs::es,h=>by
  obtain⟨x,hx⟩:=h cs (A1 ..);obtain⟨xs,hxs⟩:=Za es fun c hc=>h c (I1 _ hc);exact⟨x::xs,by rw [hx,hxs];rfl⟩
theorem Dec.list {P:Program} {t e:TypeId} {α:Type} {f:α->List PV} (ht:P.underlying t=some (.slice e)) (hc:decide (0<P.cellsOf e)=true) (he:Dec P e fun l=> ∃x:α,l=f x):Dec P t fun l=> ∃xs:List α,l=bR f xs:=
 (Dec.slice ht (W5 hc) he).mono fun l ⟨es,h1,_,h2⟩=>by
  obtain⟨xs,hxs⟩:=Za es fun cs hcs=>(h2 cs hcs).2;exact⟨xs,by rw [h1,hxs];rfl⟩
end Go.VL
end
section
namespace Go.VL
abbrev oM (d s:Nat):aD:=⟨some d,.r (.AO (.t s)),none⟩
abbrev sO (l:List aD) (b:AC):AC:= .seq (.ops l) b
abbrev zO:List PV:=[(.str []),(.int .i64 0),(.int .i64 0),(.int .i64 0),(.bool false),(.int .i64 0),(.int .i64 0)]
abbrev zN:List PV:=[(.int .i64 0),(.int .i64 0),(.str []),(.ah [] .nil),(.ah [] .nil)]
theorem aFe:zO=[(.str []),(.int .i64 0),(.int .i64 0),(.int .i64 0),(.bool false),(.int .i64 0),(.int .i64 0)]:=rfl
theorem aFf:zN=[(.int .i64 0),(.int .i64 0),(.str []),(.ah [] .nil),(.ah [] .nil)]:=rfl
attribute [go_sem] aFe aFf
abbrev oMg (d s g:Nat) (w:Bool):aD:=⟨some d,.r (.AO (.t s)),some (g,w)⟩
abbrev oI (d:Nat) (n:Int):aD:=⟨some d,.r (.AO (.c (.int .i64 n))),none⟩
abbrev oL (d n s:Nat):aD:=⟨some d,.r (.load n false (.t s)),none⟩
abbrev Zb (d n s g:Nat) (w:Bool):aD:=⟨some d,.r (.load n false (.t s)),some (g,w)⟩
abbrev oA (d n s:Nat):aD:=⟨some d,.r (.load n true (.t s)),none⟩
abbrev oF (d n s:Nat):aD:=⟨some d,.r (.Qz n (.t s)),none⟩
abbrev oFg (d n s g:Nat) (w:Bool):aD:=⟨some d,.r (.Qz n (.t s)),some (g,w)⟩
abbrev oX (d n s i:Nat):aD:=⟨some d,.r (.idx n (.t s) (.t i)),none⟩
abbrev oN (d s:Nat):aD:=⟨some d,.r (.len (.t s)),none⟩
abbrev oE (d s i:Nat):aD:=⟨some d,.r (.ext (.t s) i),none⟩
abbrev oB (d:Nat) (o:BinOp) (x y:AE):aD:=⟨some d,.r (.bin o .no x y),none⟩
abbrev oBg (d:Nat) (o:BinOp) (x y:AE) (g:Nat) (w:Bool):aD:=⟨some d,.r (.bin o .no x y),some (g,w)⟩
abbrev oR (d:Nat) (k:RK):aD:=⟨some d,.r k,none⟩
abbrev Zc (d:Nat) (k:RK) (g:Nat) (w:Bool):aD:=⟨some d,.r k,some (g,w)⟩
abbrev oC (d f:Nat) (l:List AE):aD:=⟨some d,.call (.c (.fn (.func f) [] [])) l,none⟩
abbrev oCg (d f:Nat) (l:List AE) (g:Nat) (w:Bool):aD:=⟨some d,.call (.c (.fn (.func f) [] [])) l,some (g,w)⟩
abbrev oS (n x v:Nat):aD:=⟨none,.d (.store n (.t x) (.t v)),none⟩
attribute [go_sem] Nat.reduceEqDiff Nat.reduceLeDiff Nat.reduceAdd Nat.reduceMul Nat.reduceSub Int.reduceLT Int.reduceLE Int.reduceToNat Int.reduceNeg Int.reduceEq reduceCtorEq
attribute [go_sem↓] reduceIte
theorem aX {α:Type} {p:Prop} [Decidable p] {x:Option α} {r:α} (h:(if p then x else none)=some r):p/\x=some r:=by
 by_cases hp:p
 · rw [if_pos hp]at h;exact⟨hp,h⟩
 · rw [if_neg hp]at h;cases h
theorem aj {α β:Type} {o:Option α} {f:α->Option β} {r:β} (h:Option.bind o f=some r): ∃x,o=some x/\f x=some r:=by
 cases o with
 |none=>cases h
 |some x=>exact⟨x,rfl,h⟩
theorem aJ {α:Type} {b:Bool} {x y:Option α} {r:α} (h:cond b x y=some r):(b=true/\x=some r)\/(b=false/\y=some r):=by
 cases b with
 |true=>exact .inl ⟨rfl,h⟩
 |false=>exact .inr ⟨rfl,h⟩
end Go.VL
namespace Go.VL
theorem aaW {α:Type} {x r:α} (h:some x=some r):x=r:=V2 h
end Go.VL
namespace Go.VL
variable [Glob]
theorem aG.lw {P:Program} {f:FuncId} {args args':List PV} {r:PV} (hw:Lw args' args) (h:aG P f args r):aG P f args' r:=h.wk hw
end Go.VL
end
section
namespace Go.VL
theorem dD {A B:Prop} (k:B) (h:A=B:=by first|(simp -implicitDefEqProofs only [go_sem, *];rfl)|rfl):A:=h▸k
theorem aC {A:Prop} (h:A:=by simp -implicitDefEqProofs only [go_sem,C7, *]):A:=h
theorem ak {A B:Prop} (k:B) (h:A=B:=by first|(simp -implicitDefEqProofs only [go_sem,dB, *];rfl)|rfl):A:=h▸k
theorem aA {A:Prop} (h:A:=by simp -implicitDefEqProofs only [go_sem,dB,C7, *]):A:=h
theorem bG {L:List Nat} {σ σ':Nat->PV} (h:Fr L σ σ':=by repeat (first|assumption|refine Fr.upd (by decide) ?_)):Fr L σ σ':=h
theorem II {M:List Nat} {H H':AH} (h:HF M H H':=by repeat (first|assumption|refine HF.new ?_|refine HF.Ry ?_|refine HF.used ?_|refine HF.put (by first|(right;omega)|(left;simp only [M1,w8,q7])) ?_|refine HF.via (by assumption) (by first|exact fun i hi=>absurd hi D0|(intro i hi;simp only [M1,D0,B7]at hi⊢;first|exact .inl hi|omega)) ?_)):HF M H H':=h
theorem FJ {L:List Nat} {σ σ':Nat→PV} (h:Fr L σ σ':=by repeat (first|assumption|refine Fr.upd (by decide) ?_|refine Fr.via (by assumption) (by decide) ?_)):Fr L σ σ':=h
theorem yH {M:List Nat} {H H':AH} (h:HF M H H':=by repeat (first|assumption|refine HF.new ?_|refine HF.Ry ?_|refine HF.used ?_|refine HF.put (by first|(right;omega)|(left;simp only [M1,w8,q7])) ?_)):HF M H H':=h
theorem aY {p:Prop} (h:p:=by first|omega|(simp only [AH.aN,AH.aO,AH.aS,AH.aT];omega)):p:=h
theorem eG {H:AH} {c:Ck} (h:aR H c:=by repeat (first|assumption|exact aR.nil|exact aR.exact|apply aR.new|apply aR.put)):aR H c:=h
inductive Lx:List PV->List PV->Prop where
 |nil:Lx [] []
 |same {p:PV} {l m:List PV} (h:Lx l m):Lx (p::l) (p::m)
 |ah {es:List (List PV)} {c:Ck} {l m:List PV} (h:Lx l m):Lx (.ah es c::l) (.ah es .unk::m)
 |agg {cs ds l m:List PV} (h0:Lx cs ds) (h:Lx l m):Lx (.agg cs::l) (.agg ds::m)
theorem Lx.get {l m:List PV} (h:Lx l m):l.length=m.length/\ ∀(j:Nat) (q:PV),m[j]? =some q-> ∃p,l[j]? =some p/\ ∀(G:Gh) (n:Nat) (v:Value),V G n p v->V G n q v:=by
 induction h with
 |nil=>exact⟨rfl,fun j q e=>by simp at e⟩
 |same _ ih=>
  refine⟨by simp [ih.1],fun j q e=> ?_⟩;cases j with
  |zero=>simp at e;subst e;exact⟨_,rfl,fun _ _ _ h=>h⟩
  |succ j=>simp at e;simpa using ih.2 j q e
 |ah _ ih=>
  refine⟨by simp [ih.1],fun j q e=> ?_⟩;cases j with
  |zero=>simp at e;subst e;exact⟨_,rfl,fun _ _ _ h=>h.wk⟩
  |succ j=>simp at e;simpa using ih.2 j q e
 | @agg cs ds _ _ _ _ ih0 ih=>
  refine⟨by simp [ih.1],fun j q e=> ?_⟩;cases j with
  |zero=>
   simp at e;subst e;refine⟨_,rfl,fun G n v h=> ?_⟩;generalize hp:PV.agg cs=p at h;cases h with
   |agg cs' vs h1 h2=>
    cases hp;refine .agg ds vs (h1.trans ih0.1) fun j c x hc hx=> ?_;obtain⟨p,e1,e2⟩:=ih0.2 j c hc;exact e2 _ _ _ (h2 j p x e1 hx)
   |_=>cases hp
  |succ j=>simp at e;simpa using ih.2 j q e
variable [Glob]
theorem aW.wx {P:Program} {H:AH} {f:FuncId} {args args':List PV} {k:PV->AH->Prop} (h:aW P f args H k) (hw:Lx args' args):aW P f args' H k:=by
 obtain⟨h1,h2⟩:=hw.get;refine⟨h.enters,fun B G w vs hU hM hv=>h.call B G w vs hU hM ⟨hv.1.trans h1,fun j c x hc hx=> ?_⟩⟩;obtain⟨p,e,hp⟩:=h2 j c hc;exact hp _ _ _ (hv.2 j p x e hx)
theorem aG.wx {P:Program} {f:FuncId} {args args':List PV} {r:PV} (h:aG P f args r) (hw:Lx args' args):aG P f args' r:=fun H=>(h H).wx hw
end Go.VL
end
section
namespace Go.VL
variable [Glob]
class bY (P:Program) (g:FuncId) (az:outParam (List PV)) {α:Type} (o:Option α) (enc:outParam (α->PV)):Prop where
 c: ∀r,o=some r->aG P g az (enc r)
def wN (σ:Nat->PV):List (Nat×PV)->Prop
 |[]=>True
 |(n,p)::l=>σ n=p/\wN σ l
theorem Xr {σ:Nat->PV}:wN σ []=True:=rfl
theorem RA {σ:Nat->PV} {n:Nat} {p:PV} {l:List (Nat×PV)}:wN σ ((n,p)::l)=(σ n=p/\wN σ l):=rfl
attribute [go_sem] Xr RA Sum.elim_inl Sum.elim_inr
def Gl:List (Nat×Nat)->Nat->Bool
 |[],_=>true
 |(a,b)::l,t=>(Nat.blt t a||Nat.ble b t)&&Gl l t
theorem anu {t:Nat}:(Gl [] t=true)=True:=by simp [Gl]
theorem Oq {a b t:Nat} {l:List (Nat×Nat)}:(Gl ((a,b)::l) t=true)=((t+1<=a\/b<=t)/\Gl l t=true):=by
 simp [Gl,Nat.blt,Nat.ble_eq]
attribute [go_sem] anu Oq true_or or_true
def Fv (L:List (Nat×Nat)) (σ σ':Nat->PV):Prop:= ∀t,Gl L t=true->σ' t=σ t
theorem Fv.refl {L:List (Nat×Nat)} {σ:Nat->PV}:Fv L σ σ:=fun _ _=>rfl
theorem Fv.upd {L:List (Nat×Nat)} {σ σ':Nat->PV} {d:Nat} {v:PV} (hd:Gl L d=false) (h:Fv L σ σ'):Fv L σ (upd σ' (some d) v):=fun t ht=>by
 show(if t=d then v else σ' t)=σ t
 rw [if_neg (fun e=>by subst e;rw [hd]at ht;cases ht)];exact h t ht
theorem Fv.trans {L:List (Nat×Nat)} {σ σ' sF:Nat->PV} (h:Fv L σ σ') (h':Fv L σ' sF):Fv L σ sF:=fun t ht=>(h' t ht).trans (h t ht)
def ahV (l m:List (Nat×Nat)):Bool:=l.all fun p=>m.any fun q=>Nat.ble q.1 p.1&&Nat.ble p.2 q.2
theorem abX: ∀{l:List (Nat×Nat)} {m:List (Nat×Nat)} {t:Nat},ahV l m=true->Gl m t=true->Gl l t=true
 |[],_,_,_,_=>rfl
 |(a,b)::l,m,t,h,ho=>by
   have h1:(m.any fun q=>Nat.ble q.1 a&&Nat.ble b q.2)=true/\ahV l m=true:=by simpa [ahV]using h
   rw [Oq];refine⟨?_,abX h1.2 ho⟩;obtain⟨q,hq,e⟩:=n9.1 h1.1;have hm: ∀{m:List (Nat×Nat)},q∈m->Gl m t=true->t<q.1\/q.2<=t:=by
    intro m
    induction m with
    |nil=>intro h;cases h
    |cons x m ih=>
     obtain⟨c,d⟩:=x;intro hx ho;rw [Oq]at ho;rcases M1.1 hx with rfl|hx
     · exact ho.1
     · exact ih hx ho.2
   simp only [z1,Nat.ble_eq]at e;have:=hm hq ho;omega
theorem Fv.via {L L':List (Nat×Nat)} {σ σ' sF:Nat->PV} (h':Fv L' σ' sF) (hL:ahV L' L=true) (h:Fv L σ σ'):Fv L σ sF:=fun t ht=>(h' t (abX hL ht)).trans (h t ht)
def Ends (L:List (Nat×Nat)) (e:Ex×List (Nat×PV)) (Q:Post) (σ:Nat->PV) (H:AH):Prop:= ∀σ',Fv L σ σ'->wN σ' e.2->Q e.1 σ' H
class Lp (P:Program) (a:AC) {α:Type} (o:Option α) (L:outParam (List (Nat×Nat))) (sl:outParam (List (Nat×PV))) (ex:outParam (α->Ex×List (Nat×PV))):Prop where
 c: ∀σ H,wN σ sl-> ∀r,o=some r-> ∀Q,Ends L (ex r) Q σ H->W P a Q σ H
def Nxt (P:Program) (a:AC) (Q:Post) (K:(Nat->PV)->AH->Prop):Prop:= ∀σ H,W P a Q σ H->K σ H
theorem Vm {α:Type} {A:Prop} {b:Bool} {x y:Option α} {r:α} (h1:b=true->x=some r->A) (h2:b=false->y=some r->A):cond b x y=some r->A:=fun h=>(aJ h).elim (fun e=>h1 e.1 e.2) fun e=>h2 e.1 e.2
theorem aaX {α:Type} {A p:Prop} [Decidable p] {x:Option α} {r:α} (h:p->x=some r->A):(if p then x else none)=some r->A:=fun e=>h (aX e).1 (aX e).2
theorem Ot {α β:Type} {A:Prop} {o:Option α} {f:α->Option β} {r:β} (h: ∀p,o=some p->f p=some r->A):Option.bind o f=some r->A:=fun e=>let ⟨p,e1,e2⟩:=aj e;h p e1 e2
theorem Vn {α:Type} {A:Prop} {r:α}:none=some r->A:=fun e=>nomatch e
theorem akw {G A B:Prop} (k:G->B) (h:A=B:=by first|(simp -implicitDefEqProofs only [go_sem,dB, *];rfl)|rfl):G->A:=fun g=>h▸k g
theorem Zd {l m:List PV} (h:Lx l m:=by
 repeat' first
  |exact .nil
  |refine .ah ?_
  |refine .same ?_
  |refine .agg ?_ ?_):Lx l m:=h
theorem ahW {P:Program} {g:FuncId} {az az':List PV} {α β:Type} {o:Option α} {enc:α->PV} [C:bY P g az' o enc] {f:α->Option β} {r:β} {d:Option Nat} {l:List aD} {s:List Fm} {Q:Post} {σ:Nat->PV} {H:AH}
 (hw:Lx az az') (h: ∀p,f p=some r->WO P l s Q (upd σ d (enc p)) H):Option.bind o f=some r->MC P g az d l s Q σ H:=fun e=>
 let ⟨p,e1,e2⟩:=aj e
 av ((C.c p e1).wx hw) (h p e2)
theorem avZ {P:Program} {g:FuncId} {az:List PV} {α:Type} {o:Option α} {enc:α->PV} (h:o=none):bY P g az o enc:=⟨fun _ e=>by rw [h]at e;cases e⟩
theorem aaY {A:Prop} {P:Program} {pr:List (aD×Bool)} {post:List aD} {s:List Fm} {Q:Post} {σ:Nat->PV} {H:AH} (h:A->Et P pr post s Q σ H):A->WS P (.par pr post) s Q σ H:=fun e=>oH (h e)
theorem aaZ {P:Program} {g:FuncId} {az az':List PV} {α β:Type} {o:Option α} {enc:α->PV} [C:bY P g az' o enc] {f:α->Option β} {r:β} {d:Option Nat} {l:List (aD×Bool)} {post:List aD} {s:List Fm} {Q:Post} {σ:Nat->PV} {H:AH}
 (hw:Lx az az') (h: ∀p,f p=some r->Et P l post s Q (upd σ d (enc p)) H):Option.bind o f=some r->PCs P g az d l post s Q σ H:=fun e=>
 let ⟨p,e1,e2⟩:=aj e
 PC.mk ((C.c p e1).wx hw) (h p e2)
theorem aa0 {A:Prop} {P:Program} {x y:List UInt8} {d:Option Nat} {l:List aD} {s:List Fm} {Q:Post} {σ:Nat->PV} {H:AH} (hb:x.length+y.length<=4611686018427387904) (h:A->WO P l s Q (upd σ d (.str (x++y))) H):A->WR P (CP .add x y) d l s Q σ H:=fun e=>abV hb (h e)
theorem Ze {x y:List UInt8} (h:x.length+y.length<=4611686018427387904:=by first|assumption|(simp only [X1,I0,j0]at*;omega)):x.length+y.length<=4611686018427387904:=h
section
variable {P:Program} {a b:AC} {α β:Type} {o:Option α} {L L0:List (Nat×Nat)} {sl:List (Nat×PV)} {ex:α->Ex×List (Nat×PV)} {f:α->Option β} {r:α} {Q:Post} {σ aH:Nat->PV} {H:AH}
theorem ahX {s:List Fm} [C:Lp P a o L sl ex] {r:β} (hs:wN σ sl) (h: ∀p σ',Fv L σ σ'->wN σ' (ex p).2->f p=some r->WE P (ex p).1 s Q σ' H):Option.bind o f=some r->WS P a s Q σ H:=fun e=>
 let ⟨p,e1,e2⟩:=aj e
 C.c σ H hs p e1 (BP P s Q) fun σ' hf hx=>h p σ' hf hx e2
theorem rP (h:o=none):Lp P a o L sl ex:=⟨fun _ _ _ _ e=>by rw [h]at e;cases e⟩
theorem rQ (ea:a=b) (h: ∀σ H,wN σ sl-> ∀r Q,Ends L (ex r) Q σ H-> ∀K,Nxt P (.loop a) Q K->o=some r->W P b (Ab K Q) σ H):Lp P (.loop a) o L sl ex:=
 ⟨fun σ H hs r e Q hQ=>bB fun K hK=>by rw [show W P a=W P b from congrArg _ ea];exact h σ H hs r Q hQ K hK e⟩
theorem Gt (ea:a=b) (h: ∀σ H,wN σ sl-> ∀r Q,Ends L (ex r) Q σ H->o=some r->W P b Q σ H):Lp P a o L sl ex:=
 ⟨fun σ H hs r e Q hQ=>by rw [show W P a=W P b from congrArg _ ea];exact h σ H hs r Q hQ e⟩
theorem lpN [C:Lp P (.loop a) o L sl ex] {K:(Nat->PV)->AH->Prop} (e:o=some r) (hK:Nxt P (.loop a) Q K) (hQ:Ends L (ex r) Q aH H) (hs:wN σ sl) (hf:Fv L aH σ):K σ H:=
 hK _ _ (C.c σ H hs r e Q fun σ' f s=>hQ σ' (hf.trans f) s)
theorem lpE {e:Ex×List (Nat×PV)} {x:Ex} (hQ:Ends L e Q aH H) (hx:e.1=x) (hf:Fv L aH σ) (hs:wN σ e.2):Q x σ H:=hx▸hQ σ hf hs
theorem lpO {l m:List aD} (ea:l=m) (h: ∀σ H,wN σ sl-> ∀r Q,Ends L (ex r) Q σ H->o=some r->W P (.ops m) Q σ H):Lp P (.ops l) o L sl ex:=
 ⟨fun σ H hs r e Q hQ=>by subst ea;exact h σ H hs r Q hQ e⟩
theorem aa1 {l:List aD} {s:List Fm} [C:Lp P (.ops l) o L sl ex] {r:β} (hs:wN σ sl) (h: ∀p σ',Fv L σ σ'->wN σ' (ex p).2->f p=some r->WE P (ex p).1 s Q σ' H):Option.bind o f=some r->WO P l s Q σ H:=fun e=>
 let ⟨p,e1,e2⟩:=aj e
 C.c σ H hs p e1 (BP P s Q) fun σ' hf hx=>h p σ' hf hx e2
theorem Fv.on (h:Fv L aH σ): ∀t,Gl L t=true->σ t=aH t:=h
end
theorem Db {L:List (Nat×Nat)} {σ σ':Nat->PV} (h:Fv L σ σ':=by repeat (first|exact Fv.refl|assumption|refine Fv.upd rfl ?_|refine Fv.via (by assumption) rfl ?_)):Fv L σ σ':=h
class K6 {α:Type} (f:α->List PV):Prop where
 pu: ∀x,∀c∈f x,Pu c
instance:K6 aF:=⟨fun x=>dJ.mem (.cons (.str _) .nil)⟩
instance:K6 aK:=⟨fun x=>dJ.mem (.cons (.int _ _) .nil)⟩
instance {α:Type} {f:α->List PV} [h:K6 f]:K6 (bR f):=⟨fun x=>tN h.pu x⟩
theorem pu_ {p:PV} (h:Pu p:=by
 repeat' first
  |exact PuO.pu
  |exact .bool _|exact .int _ _|exact .str _|exact bK K6.pu _|exact .agg _ (K6.pu _)|exact .nil
  |refine .cons ?_ ?_
  |refine .agg _ (dJ.mem ?_)
  |refine .dn _ (dJ.mem ?_)
  |refine .cK _ _ (dJ.mem ?_)
  |refine .fn _ _ _ (dJ.mem ?_) (dJ.mem ?_)):Pu p:=h
theorem aFg {l:List PV} (h:dJ l:=by
 repeat' first
  |exact .nil
  |refine .cons pu_ ?_):dJ l:=h
theorem bM {P:Program} {dc:Nat->Bool} {rm:Bool} {g:FuncId} {n:Nat} {rs:List RV} {ac:AC} {az:List PV} {α:Type} {o:Option α} {enc:α->PV} (hf:aM P dc rm g n rs ac)
 (h: ∀r,o=some r->WS P ac [] (Iy rs fun v H'=>Fz H' v (enc r)) (KX az) AH.empty) (hl:az.length<=n:=by simp) (hp:dJ az:=by exact aFg) (hr: ∀r,Pu (enc r):=by intro r;exact pu_):bY P g az o enc:=
 ⟨fun r e=>aG.bX hp.mem (aL hf hl (h r e)) (hr r)⟩
theorem av1 {α:Type} {f:α->List PV} [K6 f] {l:List α} {es:List (List PV)} {c:Ck} {H:AH} (he:es=l.map f):Fz H (.ah es c) (.ah (l.map f) .unk):=by subst he;exact jV K6.pu _ _
theorem fz_ {H:AH} {v r:PV} (h:Fz H v r:=by
 repeat' first
  |exact .pure _ pu_
  |exact av1 rfl
  |refine oh ?_
  |refine jT ?_
  |exact .nil
  |refine .cons ?_ ?_):Fz H v r:=h
theorem aa2 {α β:Type} {A:Prop} {l:List α} {i:Nat} {f:α->Option β} {r:β} (h: ∀p,l[i]? =some p->f p=some r->A):Option.bind (l[i]?) f=some r->A:=Ot h
theorem Vo {α β γ:Type} {A:Prop} {f:α->Option γ} {g:β->Option γ} {p:α} {r:γ} (h:f p=some r->A):Sum.elim f g (.inl p)=some r->A:=h
theorem ahY {α β:Type} {A:α⊕β->Prop} (h1: ∀p,A (.inl p)) (h2: ∀p,A (.inr p)): ∀p,A p:=fun p=>p.casesOn h1 h2
theorem bE {A:Prop} (h:A:=by
 intro r
 repeat' first
  |(with_reducible refine Vm (fun _=> ?_) (fun _=> ?_))
  |(with_reducible refine aaX (fun _=> ?_))
  |(with_reducible refine aa2 (fun _ _=> ?_))
  |(refine akw ?_;first|refine ahW Zd (fun _=> ?_)|refine aa1 aA ?_|refine ahX aA ?_|refine aaY ?_|refine aaZ Zd (fun _=> ?_)|refine aa0 Ze ?_|refine abY Ze ?_|refine ahZ RB ?_|refine abZ RB ?_|(intro h;cases h;exact fz_))
  |(with_reducible refine Ot (fun _ _=> ?_))
  |(with_reducible exact Vn)
  |(with_reducible refine Vo ?_)
  |(with_reducible refine ab0 ?_)
  |(with_reducible refine ahY ?_ ?_)
  |(intro p σ' f s;simp only [go_sem]at s;have f':=f.on)
  |(intro h;cases h;exact fz_)):A:=h
theorem bZ {A:Prop} (h:A:=by
 intro σ H s r Q hQ;simp only [Xr,RA]at s;try intro K hK
 refine fun h=>aI ?_;revert h
 repeat' first
  |(with_reducible refine Vm (fun _=> ?_) (fun _=> ?_))
  |(with_reducible refine aaX (fun _=> ?_))
  |(with_reducible refine aa2 (fun _ _=> ?_))
  |(refine akw ?_;first|refine ahW Zd (fun _=> ?_)|refine aa1 aA ?_|refine ahX aA ?_|refine aaY ?_|refine aaZ Zd (fun _=> ?_)|refine aa0 Ze ?_|refine abY Ze ?_|refine ahZ RB ?_|refine abZ RB ?_|(intro h;exact lpN h hK hQ aA Db)|(intro h;cases h;exact lpE hQ rfl Db aA))
  |(with_reducible refine Ot (fun _ _=> ?_))
  |(with_reducible exact Vn)
  |(with_reducible refine Vo ?_)
  |(with_reducible refine ab0 ?_)
  |(with_reducible refine ahY ?_ ?_)
  |(intro p σ' f s;simp only [go_sem]at s;have f':=f.on)
  |(intro h;cases h;exact lpE hQ rfl Db aA)):A:=h
end Go.VL
end
section
namespace Go.VL
structure Case where
 numbers:List Int
 values:Int×Int×Int×Int
deriving DecidableEq
def Case.cells (x:Case):List PV:=[(.ah (x.numbers.map aK) .unk),(.int .i64 x.values.1),(.int .i64 x.values.2.1),(.int .i64 x.values.2.2.1),(.int .i64 x.values.2.2.2)]
theorem Case.je (x:Case):x.cells=[(.ah (x.numbers.map aK) .unk),(.int .i64 x.values.1),(.int .i64 x.values.2.1),(.int .i64 x.values.2.2.1),(.int .i64 x.values.2.2.2)]:=rfl
theorem Case.pu (x:Case): ∀c∈x.cells,Pu c:=dJ.mem (.cons (bK gV _) (.cons (.int _ _) (.cons (.int _ _) (.cons (.int _ _) (.cons (.int _ _) .nil)))))
attribute [go_sem] Case.je
end Go.VL
end
section
namespace Go.VL
open Go.RowKit
theorem Dec.ah0 {P:Program} {t:TypeId} {R:List PV->Prop} (h:Dec P t R) {H:Type} {enc:TypeId×Value->H} {w:World} {v:Value} {d:DataW H} {ps:List MemPlace} (ht:DataW.Trod enc P w 0 (fun _=>true) true t v d ps): ∃q,R q/\IC w q v.cells.toList/\mG q<=blk d:=by
 obtain⟨fuel,hf⟩:=ht;obtain⟨ps,h1,h2,h3⟩:=h H enc w fuel _ _ hf;exact⟨ps,h2,h1,h3⟩
theorem trod_array {H:Type} {enc:TypeId×Value->H} {P:Program} {w:World} {base:Nat} {spare:Nat->Bool} {held:Bool} {fuel:Nat} {t:TypeId} {cs:List Value} {x:DataW H×List MemPlace} {n:Nat} {e:TypeId} (ht:P.underlying t=some (.array n e)) (h:DataW.trod enc P w base spare held fuel t cs=some x):
 ∃(xs:List (DataW H×List MemPlace)) (m:Nat),fuel=m+1/\x=(.agg (xs.map (·.1)),xs.flatMap (·.2))/\cs.length=P.cellsOf t/\xs.length=n/\
   ∀(i:Nat),i<n->DataW.trod enc P w base spare held m e ((cs.drop (i*P.cellsOf e)).take (P.cellsOf e))=xs[i]? :=by
 cases fuel with
 |zero=>simp [DataW.trod]at h
 |succ m=>
  unfold DataW.trod at h;rw [ht]at h;split at h<;>simp_all;obtain⟨hl,xs,hp,hd⟩:=h;exact⟨xs,hd.symm,by simpa using mapM_some_length hp,fun i hi=>by simpa [hi]using mapM_some_get hp i i (by simp [hi])⟩
def Vp (x:Int×Int×Int×Int):List PV:=[(.int .i64 x.1),(.int .i64 x.2.1),(.int .i64 x.2.2.1),(.int .i64 x.2.2.2)]
theorem Dec.aFh {P:Program} {t e:TypeId} (ht:P.underlying t=some (.array 4 e)) (hc:P.cellsOf e=1) (h4:P.cellsOf t=4) (he:Dec P e fun l=> ∃x:Int,l=aK x):Dec P t fun l=> ∃x:Int×Int×Int×Int,l=Vp x:=fun H enc w fuel cs x h=>by
 obtain⟨xs,m,_,rfl,hl,hn,hi⟩:=trod_array ht h;rw [h4]at hl;rw [hc]at hi
 match cs,hl,xs,hn with
 |[c0,c1,c2,c3],_,[x0,x1,x2,x3],_=>
  obtain⟨p0,v0,⟨n0,rfl⟩,b0⟩:=he H enc w m _ x0 (hi 0 (by decide));obtain⟨p1,v1,⟨n1,rfl⟩,b1⟩:=he H enc w m _ x1 (hi 1 (by decide));obtain⟨p2,v2,⟨n2,rfl⟩,b2⟩:=he H enc w m _ x2 (hi 2 (by decide));obtain⟨p3,v3,⟨n3,rfl⟩,b3⟩:=he H enc w m _ x3 (hi 3 (by decide));refine⟨Vp (n0,n1,n2,n3),((v0.app v1).app (v2.app v3)),⟨_,rfl⟩,?_⟩;simp only [Vp,mG,bk,M3,MA,blk,blks]at b0 b1 b2 b3⊢;simp only [aK,mG,bk]at b0 b1 b2 b3;omega
end Go.VL
namespace Go.Proofs.YtpkbfdgohkakaaaGreatDoor
open Go.VL
mutual
theorem Vq {H:Type}: ∀d:DataW H,blk d<=Rows.uptoBulk d
 | .slice e s=>by rw [blk,Rows.uptoBulk];have:=Xt e;omega
 | .agg p=>by rw [blk,Rows.uptoBulk];have:=Xt p;omega
 | .lit (.string b)=>by rw [blk,Rows.uptoBulk];omega;all_goals simp
 | .lit (.bool b)=>by simp [blk,Rows.uptoBulk]
 | .lit (.int k n)=>by simp [blk,Rows.uptoBulk]
 | .lit (.float k n)=>by simp [blk,Rows.uptoBulk]
 | .lit .nil=>by simp [blk,Rows.uptoBulk]
 | .nil=>by simp [blk,Rows.uptoBulk]
 | .ptr d=>by simp [blk,Rows.uptoBulk]
 | .iface t d=>by simp [blk,Rows.uptoBulk]
 | .map l=>by simp [blk,Rows.uptoBulk]
 | .held h=>by simp [blk,Rows.uptoBulk]
theorem Xt {H:Type}: ∀l:List (DataW H),blks l<=Rows.uptoBulkAll l
 |[]=>R0 _
 |d::l=>by rw [blks,Rows.uptoBulkAll];have:=Vq d;have:=Xt l;omega
end
end Go.Proofs.YtpkbfdgohkakaaaGreatDoor
end
section
namespace Go.Proofs.YtpkbfdgohkakaaaGreatDoor.kernelLinear
open Go.ChangeShapes Go.WideShapes Go.ChangeAt Go.RowKit Go.VL
set_option maxRecDepth 100000
theorem ah1:Dec Tryz.prog 3 fun l=> ∃x:Int,l=aK x:=
 (Dec.int Tryz.underlying3).mono fun l ⟨n,e,_⟩=>⟨n,e⟩
theorem av2:Dec Tryz.prog 9 fun l=> ∃x:Str,l=aF x:=
 (Dec.string Tryz.underlying9).mono fun l ⟨n,e,_⟩=>⟨n,e⟩
theorem aAR:Dec Tryz.prog 68 fun l=> ∃x:List Str,l=(bR aF) x:=
 Dec.list Tryz.underlying68 (by kernel_rfl) av2
theorem apB:Dec Tryz.prog 44 fun l=> ∃x:List Int,l=(bR aK) x:=
 Dec.list Tryz.underlying44 (by kernel_rfl) ah1
theorem aAS:Dec Tryz.prog 89 fun l=> ∃x:Nd,l=Nd.cells x:=by
 refine(Dec.struct (Rs:=[_,_,_,_,_]) Tryz.underlying89 (by kernel_rfl) ⟨rfl,ah1,by kernel_rfl,ah1,by kernel_rfl,av2,by kernel_rfl,aAR,by kernel_rfl,apB,trivial⟩).mono ?_;rintro l ⟨l0,r0,rfl,-,⟨x0,rfl⟩,l1,r1,rfl,-,⟨x1,rfl⟩,l2,r2,rfl,-,⟨x2,rfl⟩,l3,r3,rfl,-,⟨x3,rfl⟩,l4,r4,rfl,-,⟨x4,rfl⟩,rfl⟩;exact⟨⟨x0,x1,x2,x3,x4⟩,by simp [Nd.je,bR,aK,aF]⟩
theorem apC:Dec Tryz.prog 24 fun l=> ∃x:List Nd,l=(bR Nd.cells) x:=
 Dec.list Tryz.underlying24 (by kernel_rfl) aAS
theorem aAT:Dec Tryz.prog 22 fun l=> ∃x:List (List Nd),l=(bR (bR Nd.cells)) x:=
 Dec.list Tryz.underlying22 (by kernel_rfl) apC
theorem aAU:Dec Tryz.prog 51 fun l=> ∃x:Int×Int×Int×Int,l=Vp x:=
 Dec.aFh Tryz.underlying51 (by kernel_rfl) (by kernel_rfl) ah1
theorem aAV:Dec Tryz.prog 53 fun l=> ∃x:Case,l=Case.cells x:=by
 refine(Dec.struct (Rs:=[_,_]) Tryz.underlying53 (by kernel_rfl) ⟨rfl,apB,by kernel_rfl,aAU,trivial⟩).mono ?_;rintro l ⟨l0,r0,rfl,-,⟨x0,rfl⟩,l1,r1,rfl,-,⟨x1,rfl⟩,rfl⟩;exact⟨⟨x0,x1⟩,by simp [Case.je,bR,aK,aF,Vp]⟩
theorem contract (Mi: ∀(x0:List (List Nd)) (x1:Case) (x2:List Nd),mG ((bR (bR Nd.cells)) x0)<=1048576->mG (Case.cells x1)<=1048576->mG ((bR Nd.cells) x2)<=1048576->aW Tryz.prog 6 [(.ah (x0.map (bR Nd.cells)) .unk),(.agg (Case.cells x1)),(.ah (x2.map Nd.cells) .unk)] AH.empty fun v _=>v= .bool true) (H:Type) (enc:TypeId×Value->H) (W:World) (base:Nat) (args:Array Value) (ds gs:List (DataW H)) (before:List MemPlace)
 (hval: ∀(j:Nat) t v,Tryz.f6.params[j]? =some t->args[j]? =some v->Value.okWide Tryz.prog W .any base t v)
 (hW:DataW.Whole enc Tryz.prog Tryz.f6.params.toList Rows.kernelLinearSpec.vars false W args.toList ds gs before) (hsm:Rows.uptoSmall H (ds++gs)=true) (hL:laidMetH Tryz.prog EC W):
 Calls Tryz.prog 6 args W fun e W'=> ∃v,e= .returned v/\Rows.kernelLinearSpec.post enc Tryz.prog Tryz.f6 false true false false W args v W':=by
 have hW':=hW;obtain⟨p,q,hA0,hV,rfl,hfz,hnd⟩:=hW;have hA:DataW.TrodAll enc Tryz.prog W 0 (fun _=>true) true Tryz.f6.params.toList args.toList ds p:=hA0;rw [Tryz.params6]at hA hval;obtain⟨v0,vs0,d0,ds0,p0,q0,aIn,rfl,rfl,h0,r0⟩:=trodAll_cons hA;obtain⟨v1,vs1,d1,ds1,p1,q1,av3,rfl,rfl,h1,r1⟩:=trodAll_cons r0;obtain⟨v2,vs2,d2,ds2,p2,q2,av4,rfl,rfl,h2,r2⟩:=trodAll_cons r1;obtain⟨rfl,rfl,rfl⟩:=trodAll_nil r2;subst av3;subst av4;obtain rfl:args=#[v0,v1,v2]:=by cases args;simp_all
 obtain⟨rfl,rfl⟩:=trodVars_none hV;obtain⟨av5,av6,av7,rfl⟩:=okWide_slice Tryz.underlying22 (hval 0 22 v0 rfl rfl);obtain⟨cs1,rfl,_⟩:=okWide_struct Tryz.underlying53 (hval 1 53 v1 rfl rfl);obtain⟨av8,av9,awc,rfl⟩:=okWide_slice Tryz.underlying24 (hval 2 24 v2 rfl rfl);obtain⟨q0,⟨x0,rfl⟩,hq0,hk0⟩:=aAT.ah0 h0;obtain⟨q1,⟨x1,rfl⟩,hq1,hk1⟩:=aAV.ah0 h1;obtain⟨q2,⟨x2,rfl⟩,hq2,hk2⟩:=apC.ah0 h2;have hu:Rows.uptoBulkAll [d0,d1,d2]<=1048576:=by have h:=hsm;rw [W3]at h;exact W5 h
 simp only [Rows.uptoBulkAll]at hu;have hk0':=E1 hk0 (Vq d0);have aLo:=E1 hk1 (Vq d1);have aLp:=E1 hk2 (Vq d2);clear hA0;simp only [W3]at hW';have aFi: ∀x∈p0,x.block<W.heap.size:=fun x hx=>hW'.lt x (by simp [hx]);have hlt1: ∀x∈p1,x.block<W.heap.size:=fun x hx=>hW'.lt x (by simp [hx]);have hlt2: ∀x∈p2,x.block<W.heap.size:=fun x hx=>hW'.lt x (by simp [hx]);have hvs:IC W [(.ah (x0.map (bR Nd.cells)) .unk),(.agg (Case.cells x1)),(.ah (x2.map Nd.cells) .unk)] [.slice av5 av6 av7,.agg cs1,.slice av8 av9 awc]:=by
  refine⟨rfl,fun j c x hc hx=> ?_⟩
  match j,hc,hx with
  |0,hc,hx=>exact hq0.2 0 c x hc hx
  |1,hc,hx=>
   cases hc;cases hx;rw [show(Value.agg cs1).cells=cs1 from rfl]at hq1;exact .agg _ cs1 (by simpa using hq1.1.symm) fun j c x e e'=>hq1.2 j c x e (by simpa using e')
  |2,hc,hx=>exact hq2.2 0 c x hc hx
 refine((Mi x0 x1 x2 (by omega) (by omega) (by omega)).top (as5 hL) (as4 hL) hvs).mono fun e W' ⟨he,hb⟩=> ?_;subst he;refine⟨_,rfl,[d0,d1,d2],[],(p0++(p1++p2)),[],(p0++(p1++p2)),[],hW',trodAll_cons_mk (shut_bool Tryz.underlying4 _) trodAll_mk0,?_,rfl,hb.frame _,fun h=>by cases h⟩;have:=trodAll_cons_mk (stays (by kernel_rfl) (W5 (by kernel_rfl)) h0 hb aFi) (trodAll_cons_mk (stays (by kernel_rfl) (W5 (by kernel_rfl)) h1 hb hlt1) (trodAll_cons_mk (stays (by kernel_rfl) (W5 (by kernel_rfl)) h2 hb hlt2) (trodAll_mk0 (P:=Tryz.prog) (enc:=enc) (w:=W'))));have aAW:DataW.TrodAll enc Tryz.prog W' 0 (fun b=>decide (b<W.heap.size)) true [22,53,24] [.slice av5 av6 av7,.agg cs1,.slice av8 av9 awc] [d0,d1,d2] (p0++(p1++p2)):=by simpa using this
 exact aAW
theorem reads (os:Os) {H:Type} (enc:TypeId×Value->H): ∃places,DataW.whole enc Tryz.prog ((Oo os).forCall (fun _ _=>0) ⟨#[],#[.slice none 0 0,.agg #[.slice none 0 0,.int .i64 0,.int .i64 0,.int .i64 0,.int .i64 0],.slice none 0 0],[]⟩).memory Tryz.f6.params.toList Rows.kernelLinearSpec.vars false (#[.slice none 0 0,.agg #[.slice none 0 0,.int .i64 0,.int .i64 0,.int .i64 0,.int .i64 0],.slice none 0 0]:Array Value).toList 8=some ([.nil,.agg [.nil,.agg [.lit (.int .i64 0),.lit (.int .i64 0),.lit (.int .i64 0),.lit (.int .i64 0)]],.nil],[],places):=
 ⟨[],by kernel_rfl⟩
theorem lifted (Mi: ∀(x0:List (List Nd)) (x1:Case) (x2:List Nd),mG ((bR (bR Nd.cells)) x0)<=1048576->mG (Case.cells x1)<=1048576->mG ((bR Nd.cells) x2)<=1048576->aW Tryz.prog 6 [(.ah (x0.map (bR Nd.cells)) .unk),(.agg (Case.cells x1)),(.ah (x2.map Nd.cells) .unk)] AH.empty fun v _=>v= .bool true) (os:Os) (started:os.Started) (H:Type) (enc:TypeId×Value->H) (F:Stop.Interp):
 ReturnsInHanded {} Tryz.checked os 6 .any ((Rows.OpenSpec.upto Rows.kernelLinearSpec).preRow enc Tryz.prog Tryz.f6 Rows.kernelLinearUptoRow.domain false Rows.kernelLinearUptoRow.laid) (((Rows.OpenSpec.upto Rows.kernelLinearSpec).at F).post enc Tryz.prog Tryz.f6 false true false false):=by
 obtain⟨places,hx⟩:=reads os enc
 refine returnsInHanded_of_row (C:=Tryz.checked) (s:=Rows.OpenSpec.upto Rows.kernelLinearSpec) own started (by kernel_rfl) Tryz.func6
  (witness_row_atRef (enc:=enc) (C:=Tryz.checked) false (Oo os) #[.slice none 0 0,.agg #[.slice none 0 0,.int .i64 0,.int .i64 0,.int .i64 0,.int .i64 0],.slice none 0 0] rfl (by kernel_rfl) (by kernel_rfl) (by kernel_rfl)
   (OpenSpec.preRow_of_cond 8 hx (by kernel_rfl) (fun k hk=>by cases hk;kernel_rfl) (by kernel_rfl) (am4 os _))) ?_
 intro W base args ds gs before hval hW _ hsm _ hL _ _;exact contract Mi H enc W base args ds gs before hval hW (hsm _ rfl) hL
end Go.Proofs.YtpkbfdgohkakaaaGreatDoor.kernelLinear
end
