/- Part 10. -/
import Derived.Test.YtpkbfdgohkakaaaGreatDoorKa9
import Derived.Lib.SlicesCompact
import Derived.Lib.RowBridge
import Derived.Lib.ItoaNum
import Derived.KernelRfl
import Derived.Test.YtpkbfdgohkakaaaGreatDoorRows
import Derived.RangeFuncOwn
import Derived.TacticsIn
import Derived.TacticsInMore
import Derived.LoopIn
import Derived.Walk
import Derived.WalkKit
set_option maxRecDepth 8000
set_option linter.unusedVariables false
set_option linter.unusedSectionVars false
set_option linter.unusedSimpArgs false
section
namespace Go.VL
open Tm
theorem acf {e:List Nd} (hL:pO e) {acc':List Int} (h:oh [] e= .inl acc'): ∃ts,e=bC 0 ts/\acc'=rV 0 ts/\Ev (fun k=>zT k e) ((bM 0 ts).map Prod.fst,(bM 0 ts).map Prod.snd):=by
 have hlen:=hL.len;obtain⟨ts',h1,hb,h2⟩:=UR hL e [] [] acc' 0 rfl rfl rfl (Nat.zero_le _) h;refine⟨ts',by rw [h1];rfl,hb,?_⟩;unfold zT;refine Ev.lZ ⟨rfl,by omega,by omega⟩ (Ev.lZ ⟨by omega,by omega,by omega⟩ ?_);have e1:((bM 0 ([]:List Tm)++List.replicate (e.length -0) ((-1:Int),(0:Int))).map Prod.fst)=(Ki [(-1)] (e.length:Int):List Int):=by simp [bM,Ki]
 have e2:((bM 0 ([]:List Tm)++List.replicate (e.length -0) ((-1:Int),(0:Int))).map Prod.snd)=List.replicate e.length (0:Int):=by simp [bM]
 rw [e1,e2]at h2;exact Ev.bind h2 Ev.some
theorem Oe {ts:List Tm} {i:Nat} {P j:Int} (hp:(bM 0 ts)[i]? =some (P,j)):(P= -1/\j=0)\/ ∃q:Nat,P=(q:Int)/\i<q/\q<(bC 0 ts).length:=by
 rcases Lj 0 ts i P j hp with h|⟨q,j',n,h1,h2,h3,h4,h5⟩
 · exact .inl h
 · exact .inr ⟨q,by rw [h1,Nat.zero_add],h3,(List.getElem?_eq_some_iff.1 h4).1⟩
def Ll (e:List Nd) (U:List (Int×Int)):Nat->Nat->Bool
 |0,_=>false
 |m+1,i=>match U[i]? with
  |some (P,j)=>if P<0 then false else(decide ((e[P.toNat]?.map Nd.kind)=some 19)&&decide (j=2))||Ll e U m P.toNat
  |none=>false
section
variable {ts:List Tm} {e:List Nd}
theorem Xy (he:e=bC 0 ts): ∀(m i:Nat),e.length<=i+m->i<e.length->Ev (fun k=>qj k e ((bM 0 ts).map Prod.fst) ((bM 0 ts).map Prod.snd) (i:Int)) (if Ll e (bM 0 ts) m i=true then .inr false else .inl ()):=by
 intro m
 induction m with
 |zero=>intro i h1 h2;omega
 |succ m ih=>
  intro i h1 h2;have hlt:i<(bM 0 ts).length:=by rw [xE,<-dG 0 ts,<-he];exact h2
  obtain⟨P,j,hU⟩: ∃P j,(bM 0 ts)[i]? =some (P,j):=⟨_,_,bG hlt⟩;refine Ev.succ ?_;have hf:((bM 0 ts).map Prod.fst)[i]? =some P:=by rw [List.getElem?_map,hU];rfl
  have hs:((bM 0 ts).map Prod.snd)[i]? =some j:=by rw [List.getElem?_map,hU];rfl
  simp only [qj,Int.toNat_natCast,hf,hs,Option.bind_some,nn,if_true];rw [Ll,hU];simp only;rcases Oe hU with⟨rfl,rfl⟩|⟨q,rfl,hq,hq2⟩
  · exact Ev.cF (by rfl) Ev.some
  · have hqe:q<e.length:=by rw [he];exact hq2
    refine Ev.cT (by rw [bne_iff_ne];omega) (Ev.lZ (by omega) ?_);simp only [Int.toNat_natCast,bG hqe,Option.bind_some,Option.map_some,Option.some.injEq,show ¬(q:Int)<0 by omega,if_false];have ihq:=ih q (by omega) hqe;by_cases h3:e[q].kind=19
    · refine Ev.cT (by rw [h3];rfl) ?_;by_cases h4:j=2
      · refine Ev.cT (by rw [h4];rfl) (Ev.some' ?_);simp [h3,h4]
      · refine Ev.cF (by rw [beq_eq_false_iff_ne];exact h4) (ihq.to ?_);simp [h4]
    · refine Ev.cF (by rw [beq_eq_false_iff_ne];exact h3) (ihq.to ?_);simp [h3]
theorem alm (he:e=bC 0 ts) (hL:pO e): ∀(m i:Nat),e.length<=i+m->i<e.length-> ∀P j,(bM 0 ts)[i]? =some (P,j)-> ∀o:Bool,Ev (fun k=>qY k e P j o) (o||Ll e (bM 0 ts) m i):=by
 intro m
 induction m with
 |zero=>intro i h1 h2;omega
 |succ m ih=>
  intro i h1 h2 P j hU o;refine Ev.succ ?_;rw [Ll,hU];simp only;rcases Oe hU with⟨rfl,rfl⟩|⟨q,rfl,hq,hq2⟩
  · simp only [qY];exact Ev.cF (by rfl) (Ev.some' (by simp))
  · have hqe:q<e.length:=by rw [he];exact hq2
    have hlt:q<(bM 0 ts).length:=by rw [xE,<-dG 0 ts];exact hq2
    obtain⟨P',j',hU'⟩: ∃P j,(bM 0 ts)[q]? =some (P,j):=⟨_,_,bG hlt⟩;simp only [qY];refine Ev.cT (decide_eq_true (by omega)) (Ev.nD (x:=o||(decide (e[q].kind=19)&&decide (j=2))) ?_ (Ev.bind (Dw he hL hqe hU') ?_))
    · unfold EN;cases o
      · simp only [Int.toNat_natCast,bG hqe,Option.bind_some,cond_false,nn,if_true,Bool.false_or];by_cases h3:e[q].kind=19
        · rw [wo (by rw [h3];rfl)];by_cases h4:j=2
          · simp [h3,h4]
          · simp [h4]
        · rw [oQ (by rw [beq_eq_false_iff_ne];exact h3)];simp [h3]
      · rfl
    · refine(ih q (by omega) hqe P' j' hU' _).to ?_;simp only [Int.toNat_natCast,bG hqe,Option.map_some,Option.some.injEq,show ¬(q:Int)<0 by omega,if_false,Bool.or_assoc]
theorem acg (t:Str) (h:(dZ fU t).2=true):jy t=false:=by
 have h1:((fU.map (·.text)).all fun t=> !jy t)=true:=by kernel_rfl
 by_cases hm:t∈fU.map (·.text)
 · simpa using List.all_eq_true.1 h1 t hm
 · rw [Oc hm]at h;cases h
theorem ach {n:Nd} (h:dM true n=0) (hk:n.kind=3):(dZ fU n.text).2= !jy n.text:=by
 cases ho:(dZ fU n.text).2
 · unfold dM at h
   split at h;·cases h
   split at h;·cases h
   split at h;·cases h
   split at h;·cases h
   split at h
   · rename_i h1;exact absurd h h1
   · rename_i h1;have h1:sN n=0:=by omega
     unfold sN at h1
     split at h1;·cases h1
     cases hr:jy n.text
     · simp [hk,ho,hr]at h1
     · rfl
 · rw [acg _ ho];rfl
def O4 (e:List Nd) (U:List (Int×Int)) (i:Nat):Bool:=match e[i]?,U[i]? with
 |some n,some (P,j)=>if n.kind=24 then(if P<0 then true else match e[P.toNat]? with
  |some m=>if m.kind=3 then(dZ fU m.text).2 else true
  |none=>true)else if n.kind=20 then !Ll e U e.length i else false
 |_,_=>false
theorem ad9 (he:e=bC 0 ts) (hL:pO e) {i:Nat} (hi:i<e.length):Ev (fun k=>GJ k e (i:Int) ((bM 0 ts).map Prod.fst) ((bM 0 ts).map Prod.snd)) (O4 e (bM 0 ts) i):=by
 have hlt:i<(bM 0 ts).length:=by rw [xE,<-dG 0 ts,<-he];exact hi
 obtain⟨P,j,hU⟩: ∃P j,(bM 0 ts)[i]? =some (P,j):=⟨_,_,bG hlt⟩;have hf:((bM 0 ts).map Prod.fst)[i]? =some P:=by rw [List.getElem?_map,hU];rfl
 unfold GJ O4;simp only [Int.toNat_natCast,bG hi,hf,Option.bind_some,nn,if_true,hU];by_cases h1:e[i].kind=24
 · refine Ev.cT (by rw [h1];rfl) ?_;simp only [h1,if_true];rcases Oe hU with⟨rfl,rfl⟩|⟨q,rfl,hq,hq2⟩
   · exact Ev.cT (by rfl) Ev.some
   · have hqe:q<e.length:=by rw [he];exact hq2
     refine Ev.cF (by rw [beq_eq_false_iff_ne];omega) (Ev.lZ (by omega) ?_);simp only [Int.toNat_natCast,bG hqe,Option.bind_some,show ¬(q:Int)<0 by omega,if_false];by_cases h2:e[q].kind=3
     · refine Ev.cF (by rw [h2];rfl) (Ev.bind (vP _) (Ev.some' ?_));simp only [h2,if_true]
     · refine Ev.cT (by rw [bne_iff_ne];exact h2) (Ev.some' ?_);simp only [h2,if_false]
 · refine Ev.cF (by rw [beq_eq_false_iff_ne];exact h1) ?_;simp only [h1,if_false];by_cases h2:e[i].kind=20
   · refine Ev.cT (by rw [h2];rfl) (Ev.bind (Xy he e.length i (by omega) hi) ?_);simp only [h2,if_true];cases Ll e (bM 0 ts) e.length i
     · simp only [Bool.false_eq_true,if_false,bI];exact Ev.some
     · simp only [if_true,bL];exact Ev.some
   · refine Ev.cF (by rw [beq_eq_false_iff_ne];exact h2) (Ev.some' ?_);simp only [h2,if_false]
def IV (e:List Nd) (U:List (Int×Int)):Nat->Nat->Option Nat
 |0,_=>none
 |m+1,i=>if O4 e U i=true then some i else IV e U m (i+1)
theorem Pp (he:e=bC 0 ts) (hL:pO e): ∀i,i<=e.length->Ev (fun k=>jQ k e ((bM 0 ts).map Prod.fst) ((bM 0 ts).map Prod.snd) (e.length:Int) (i:Int)) (match IV e (bM 0 ts) (e.length -i) i with|some j=> .inr ((j:Int),30)|none=> .inl ()):=by
 have hlen:=hL.len;refine down ?_ fun i hi ih=> ?_
 · refine Ev.succ ?_;simp only [jQ];exact Ev.cF (iT _) (Ev.some' (by simp [IV]))
 · refine Ev.succ ?_;simp only [jQ];rw [dW hi (by omega)];refine Ev.cT (iY hi) (Ev.bind (ad9 he hL hi) ?_);rw [show e.length -i=(e.length -(i+1))+1 by omega,IV];cases O4 e (bM 0 ts) i
   · simp only [cond_false,Bool.false_eq_true,if_false];exact ih
   · exact Ev.some
theorem ZA (he:e=bC 0 ts) (hL:pO e) (hok: ∀(i:Nat) n,e[i]? =some n->dM true n=0): ∀i,i<=e.length->Ev (fun k=>nC k e (i:Int)) (match IV e (bM 0 ts) (e.length -i) i with|some j=> .inr ((j:Int),30)|none=> .inl ()):=by
 have hlen:=hL.len;refine down ?_ fun i hi ih=> ?_
 · refine Ev.succ ?_;simp only [nC];exact Ev.cF (iT _) (Ev.some' (by simp [IV]))
 · refine Ev.succ ?_;have hlt:i<(bM 0 ts).length:=by rw [xE,<-dG 0 ts,<-he];exact hi
   obtain⟨P,j,hU⟩: ∃P j,(bM 0 ts)[i]? =some (P,j):=⟨_,_,bG hlt⟩;simp only [nC,Int.toNat_natCast,bG hi,Option.bind_some,nn,if_true];rw [dW hi (by omega)];refine Ev.cT (iY hi) (Ev.bind (Dw he hL hi hU) ?_);have aAx:Ev (fun k=>A8 k e P (decide (P>=0))) (match e[P.toNat]? with|some m=>decide (0<=P)&&decide (m.kind=3)&&jy m.text|none=>false):=by
    unfold A8;rcases Oe hU with⟨rfl,rfl⟩|⟨q,rfl,hq,hq2⟩
    · refine Ev.cF (by rfl) (Ev.some' ?_);cases e[(-1:Int).toNat]? <;>rfl
    · have hqe:q<e.length:=by rw [he];exact hq2
      refine Ev.cT (decide_eq_true (by omega)) (Ev.lZ (by omega) ?_);simp only [Int.toNat_natCast,bG hqe,Option.bind_some,nn,decide_true,Bool.true_and];by_cases h2:e[q].kind=3
      · refine Ev.cT (by rw [h2];rfl) (Ev.bind (Dp _ (by have:=(hL.nd q _ (bG hqe)).1;omega)) (Ev.some' ?_));simp only [h2,decide_true,Bool.true_and]
      · refine Ev.cF (by rw [beq_eq_false_iff_ne];exact h2) (Ev.some' ?_);simp only [h2,decide_false,Bool.false_and]
   refine Ev.bind aAx ?_;have hold:=alm he hL e.length i (by omega) hi P j hU false;rw [Bool.false_or]at hold;rw [show e.length -i=(e.length -(i+1))+1 by omega,IV];have hl:O4 e (bM 0 ts) i=if e[i].kind=24 then !(match e[P.toNat]? with|some m=>decide (0<=P)&&decide (m.kind=3)&&jy m.text|none=>false)else if e[i].kind=20 then !Ll e (bM 0 ts) e.length i else false:=by
    unfold O4;simp only [bG hi,hU];rcases Oe hU with⟨rfl,rfl⟩|⟨q,rfl,hq,hq2⟩
    · simp only [show(-1:Int)<0 by omega,if_true,show ¬(0:Int)<= -1 by omega,decide_false,Bool.false_and];cases e[(-1:Int).toNat]? <;>rfl
    · have hqe:q<e.length:=by rw [he];exact hq2
      simp only [Int.toNat_natCast,bG hqe,show ¬(q:Int)<0 by omega,if_false,nn,decide_true,Bool.true_and];by_cases h2:e[q].kind=3
      · simp only [h2,if_true,decide_true,Bool.true_and,ach (hok q _ (bG hqe)) h2]
      · simp only [h2,if_false,decide_false,Bool.false_and,Bool.not_false]
   rw [hl];generalize(match e[P.toNat]? with|some m=>decide (0<=P)&&decide (m.kind=3)&&jy m.text|none=>false)=lam
   refine Ev.nD (x:=decide (e[i].kind=24)&& !lam) (by
    unfold EM;by_cases h1:e[i].kind=24
    · rw [wo (by rw [h1];rfl)];simp [h1]
    · rw [oQ (by rw [beq_eq_false_iff_ne];exact h1)];simp [h1]) ?_
   by_cases h1:e[i].kind=24
   · simp only [h1,decide_true,Bool.true_and,if_true];cases lam
     · exact Ev.some
     · refine Ev.cF rfl (Ev.bind hold ?_);exact Ev.cF (by rfl) ih
   · simp only [h1,decide_false,Bool.false_and,cond_false,if_false];refine Ev.bind hold ?_;by_cases h2:e[i].kind=20
     · refine Ev.cT (by rw [h2];rfl) ?_;simp only [h2,if_true];cases Ll e (bM 0 ts) e.length i
       · exact Ev.some
       · exact ih
     · refine Ev.cF (by rw [beq_eq_false_iff_ne];exact h2) (ih.to ?_);simp only [h2,if_false,Bool.false_eq_true]
end
structure Valid (e:List Nd):Prop where
 tree: ∃t,e=flat 0 t
 len:e.length<=160
 ok: ∀(i:Nat) n,e[i]? =some n->dM true n=0
theorem aci: ∀(l:List Nd) (acc:List Int) (p:Int×Int),oh acc l= .inr p->p.2≠0
 |[],acc,p,h=>by rw [oh]at h;cases h
 |n::l,acc,p,h=>by
  rw [oh]at h;by_cases hc:dM (tL acc acc.length n.args.reverse) n=0
  · rw [if_neg (fun k=>k hc)]at h;exact aci l _ p h
  · rw [if_pos hc]at h;cases h;exact hc
theorem agX (e:List Nd) (hL:pO e): ∃r,Ev (fun k=>lN k e) r/\Ev (fun k=>zP k e) r/\(r.2=0->Valid e):=by
 have hlen:=hL.len;by_cases h0:e.length=0
 · refine⟨(0,1),?_,?_,fun h=>by cases h⟩
   · unfold lN;simp only [Bg,Option.bind_some,h0];refine Ev.bind (FJ _ (by simp)) ?_;exact Ev.cT (by rfl) Ev.some
   · unfold zP;simp only [h0];exact Ev.cT (by rfl) Ev.some
 by_cases h1:160<e.length
 · refine⟨(0,2),?_,?_,fun h=>by cases h⟩
   · unfold lN;have a:((e.length:Int)==0)=false:=by rw [beq_eq_false_iff_ne];omega
     have b:decide ((e.length:Int)>160)=true:=decide_eq_true (by omega);simp only [Bg,Option.bind_some,a,b];refine Ev.bind (FJ _ (by simp)) ?_;exact Ev.cT (by rfl) Ev.some
   · unfold zP;refine Ev.cF (by rw [beq_eq_false_iff_ne];omega) ?_;exact Ev.cT (decide_eq_true (by omega)) Ev.some
 have a:((e.length:Int)==0)=false:=by rw [beq_eq_false_iff_ne];omega
 have b:decide ((e.length:Int)>160)=false:=decide_eq_false (by omega);have st:=Po hL 0 (Nat.zero_le _) [] (qL.zero e);have sr:=Zl hL 0 (Nat.zero_le _) [] (qL.zero e);rw [List.drop_zero]at st sr;have acj: ∀r,Ev (fun k=>Option.bind (jP k e ([]:List Int) (e.length:Int) ((0:Nat):Int)) (fun o=>Sum.elim (fun p40=>(zT k e).bind fun p51=>Option.bind (jQ k e p51.1 p51.2 (e.length:Int) ((0:Nat):Int)) (fun o=>Sum.elim (fun p58=>if 0<=(IntKind.wrap .i64 ((e.length:Int) -1))then (p40[(IntKind.wrap .i64 ((e.length:Int) -1)).toNat]?).bind fun x65=>cond (x65 !=0) (some ((IntKind.wrap .i64 ((e.length:Int) -1)),15)) (some (0,0))else none) (fun p74=>some (p74.1,p74.2)) o)) (fun AX=>some (AX.1,AX.2)) o)) r->Ev (fun k=>lN k e) r:=by
  intro r hr;unfold lN;simp only [Bg,Option.bind_some,a,b];refine Ev.bind (FJ _ (by simp)) ?_;exact Ev.cF (by rfl) hr
 have acn: ∀r,Ev (fun k=>Option.bind (pG k e ((0:Nat):Int)) (fun o=>Sum.elim (fun p9=>Option.bind (nC k e ((0:Nat):Int)) (fun o=>Sum.elim (fun Yf=>(vg k e (IntKind.wrap .i64 ((e.length:Int) -1))).bind fun PK=>cond (PK !=0) (some ((IntKind.wrap .i64 ((e.length:Int) -1)),15)) (some (0,0))) (fun Uo=>some (Uo.1,Uo.2)) o)) (fun Uq=>some (Uq.1,Uq.2)) o)) r->Ev (fun k=>zP k e) r:=by
  intro r hr;unfold zP;exact Ev.cF a (Ev.cF b hr)
 cases hs:oh [] e with
 |inr p=>
  rw [hs]at st sr;refine⟨p,acj _ (Ev.bind st ?_),acn _ (Ev.bind sr ?_),fun h=>absurd h (aci _ _ _ hs)⟩
  · simp only [bL];exact Ev.some
  · simp only [bL];exact Ev.some
 |inl acc=>
  rw [hs]at st sr;obtain⟨ts,he,hacc,hpar⟩:=acf hL hs;have hok:=afh e [] acc hs;have lt:=Pp he hL 0 (Nat.zero_le _);have lr:=ZA he hL hok 0 (Nat.zero_le _);cases hl:IV e (bM 0 ts) (e.length -0) 0 with
  |some j=>
   rw [hl]at lt lr;refine⟨((j:Int),30),acj _ (Ev.bind st ?_),acn _ (Ev.bind sr ?_),fun h=>by cases h⟩
   · simp only [bI];refine Ev.bind hpar (Ev.bind lt ?_);simp only [bL];exact Ev.some
   · simp only [bI];refine Ev.bind lr ?_;simp only [bL];exact Ev.some
  |none=>
   rw [hl]at lt lr;have hOk:qL e e.length acc:=by
    have gen: ∀(l:List Nd) (i:Nat) (a:List Int),l=e.drop i->i<=e.length->qL e i a->oh a l= .inl acc->qL e e.length acc:=by
     intro l
     induction l with
     |nil=>
      intro i a hl hi ho h;rw [oh]at h;cases h;have:=congrArg List.length hl;rw [List.length_drop,List.length_nil]at this;obtain rfl:i=e.length:=by omega
      exact ho
     |cons n l ih=>
      intro i a hl hi ho h;have hlt:i<e.length:=by
       have:=congrArg List.length hl;rw [List.length_drop,List.length_cons]at this;omega
      rw [drop_cons hlt]at hl;obtain⟨rfl,rfl⟩:=List.cons.inj hl;rw [oh,ho.len]at h;by_cases hc:dM (tL a i e[i].args.reverse) e[i]=0
      · rw [if_neg (fun k=>k hc)]at h;exact ih (i+1) _ rfl hlt (ho.succ (bG hlt) (yR hc)) h
      · rw [if_pos hc]at h;cases h
    exact gen e 0 [] rfl (Nat.zero_le _) (qL.zero e) hs
   obtain⟨n,bb,h3,h4,h5,h6,_⟩:=hOk.at_ (e.length -1) (by omega);have hw:IntKind.wrap .i64 ((e.length:Int) -1)=((e.length -1:Nat):Int):=by rw [wrap64 (by omega) (by omega)];omega
   refine⟨if bb=0 then(0,0)else(((e.length -1:Nat):Int),15),acj _ (Ev.bind st ?_),acn _ (Ev.bind sr ?_),fun hr=> ?_⟩
   · simp only [bI];refine Ev.bind hpar (Ev.bind lt ?_);simp only [bI,hw,Int.toNat_natCast,h4,Option.bind_some,nn,if_true];by_cases hb:bb=0
     · exact Ev.cF (by rw [hb];rfl) (Ev.some' (by simp [hb]))
     · exact Ev.cT (by rw [bne_iff_ne];exact hb) (Ev.some' (by simp [hb]))
   · simp only [bI];refine Ev.bind lr ?_;simp only [bI,hw];refine Ev.bind (UA hOk hlen h4) ?_;by_cases hb:bb=0
     · exact Ev.cF (by rw [hb];rfl) (Ev.some' (by simp [hb]))
     · exact Ev.cT (by rw [bne_iff_ne];exact hb) (Ev.some' (by simp [hb]))
   · by_cases hb:bb=0
     case neg=>rw [if_neg hb]at hr;cases hr
     refine⟨?_,by omega,hok⟩;rcases List.eq_nil_or_concat ts with rfl|⟨l,t,rfl⟩
     · rw [he]at h0;simp [bC]at h0
     · rw [List.concat_eq_append]at*;have hsz:e.length=sizes l+t.size:=by rw [he,dG,eF,rE]
       have hpos:=t.size_pos;have hg:=Xv (b:=0) (l:=l) (m:=[]) (t:=t);rw [<-hacc,Nat.zero_add,show sizes l+t.size -1=e.length -1 by omega,h4]at hg;have hl0:sizes l=0:=by have:=Option.some.inj hg;omega
       cases l with
       |nil=>exact⟨t,by rw [he];simp [bC]⟩
       |cons c l=>
        have:=c.size_pos;simp only [sizes]at hl0;omega
end Go.VL
end
section
namespace Go.VL
open Go.Proofs Go.RowKit
theorem aco {α:Type} (f:α->List PV) (sz:Nat) [hr:mX f sz] (l:List α):nY sz (.ak (l.map f) .unk) none (some (.int .i64 (l.length:Int))) (some (.int .i64 (l.length:Int)))=some (.ak (l.map f) .exact):=by
 have hl:KM sz (l.map f):=fun cs h=>by
  obtain⟨x,_,rfl⟩:=List.mem_map.1 h;exact hr.len x
 have h0:(0:Int)<=(l.length:Int):=by omega
 simp only [nY,nk];rw [if_pos h0];simp only [Int.toNat_natCast,List.length_map,Option.isSome_some,and_true];rw [if_pos ⟨Nat.zero_le _,Nat.le_refl _,hl⟩];simp only [if_true];rw [List.take_of_length_le (by rw [List.length_map];exact Nat.le_refl _),List.drop_zero]
theorem acp (l:List Str):Pu (.ak (l.map aH) .exact):=by
 have h:=aT bE l;cases h with
 |ak _ _ h1 h2=>exact .ak _ _ h1 (by simp)
theorem ai8 (l:List Str) {c:Ck}:aD Tryz.prog 239 [.ak (l.map aH) c] (.ak (l.map aH) .exact):=by
 refine aD.wk (args:=[.ak (l.map aH) .unk]) ?_ (.ak .nil);refine aD.aO (aX.mem (.cons (aT bE _) .nil)) (aF awo (by simp) (aC ?_)) (acp l);unfold anf;simp -implicitDefEqProofs only [go_sem,aco aH 1];first|done|exact .pure _ (acp l)
end Go.VL
end
section
namespace Go.VL
open Go.Proofs
theorem afi {α:Type} {σ:Nat->PV} {H:AH} {sz b:Nat} {x y:AE} {f:α->List PV} (hf: ∀x,kT sz (f x)) (xs ys:List α) (c c2:Ck)
 (hx:x.ev σ= .ak (xs.map f) c) (hy:JU (y.ev σ)= .ak (ys.map f) c2) (hok:bq H c) (hb:(xs.length+ys.length)*b<=1099511627776):
 ∃c' H',iH (.app sz b x y) σ H=some (.ak ((xs++ys).map f) c',H')/\bq H' c'/\H.next<=H'.next/\(∀i,H'.obj i=H.obj i)/\(∀c3,bq H c3->kr c c3->bq H' c3/\kr c' c3):=by
 have h:=gq (P:=Tryz.prog) (s:=[]) (Q:=fun e σ' H'=> ∃c',σ'=upd σ (some 0) (.ak ((xs++ys).map f) c')/\bq H' c'/\H.next<=H'.next/\(∀i,H'.obj i=H.obj i)/\(∀c3,bq H c3->kr c c3->bq H' c3/\kr c' c3)) (d:=some 0) (l:=[]) (H:=H) hf xs ys c c2 hx hy hok hb
  (fun c' H' h1 h2 h3 h4=>⟨c',rfl,h1,h2,h3,h4⟩)
 have h2:WD Tryz.prog (iH (.app sz b x y) σ H) (some 0) [] [] (fun e σ' H'=> ∃c',σ'=upd σ (some 0) (.ak ((xs++ys).map f) c')/\bq H' c'/\H.next<=H'.next/\(∀i,H'.obj i=H.obj i)/\(∀c3,bq H c3->kr c c3->bq H' c3/\kr c' c3)) σ:=by
  have h3:WO Tryz.prog (⟨some 0,.d (.app sz b x y),none⟩::[]) [] _ σ H:=h;rw [WO,ah4]at h3;revert h3;cases iH (.app sz b x y) σ H with
  |none=>intro h3;exact h3
  |some q=>intro h3;exact h3
 revert h2;cases iH (.app sz b x y) σ H with
 |none=>intro h2;exact h2.elim
 |some q=>
  intro h2;obtain⟨c',e,h3⟩:=(h2: ∃c',upd σ (some 0) q.1=upd σ (some 0) (.ak ((xs++ys).map f) c')/\bq q.2 c'/\H.next<=q.2.next/\(∀i,q.2.obj i=H.obj i)/\(∀c3,bq H c3->kr c c3->bq q.2 c3/\kr c' c3));have e2:=congrFun e 0;simp only [upd,if_true]at e2;exact⟨c',q.2,by rw [<-e2],h3⟩
section
variable {α:Type}
def IW (rec:Int->List Str->α->Option α) (n:Nd) (bound:List Str):Nat->List Int->α->Option α
 |_,[],a=>some a
 |i,op::l,a=>(iq n (i:Int)).bind fun b=>if(bound.length+b.length)*16<=1099511627776 then (rec op (bound++b) a).bind fun a'=>IW rec n bound (i+1) l a' else none
def yh (step:α->Int->List Str->Option α) (e:List Nd):Nat->Int->List Str->α->Option α
 |0,_,_,_=>none
 |k+1,at_,bound,a=>(step a at_ bound).bind fun a'=>if 0<=at_ then (e[at_.toNat]?).bind fun n=>if n.args.length<=1099511627776 then IW (yh step e k) n bound 0 n.args a' else none else none
structure Visit (g:FuncId) (caps:List PV) (S:α->AH->Prop) (step:α->Int->List Str->Option α):Prop where
 stable: ∀a H H',S a H->H.next<=H'.next->(∀i,H'.obj i=H.obj i)->(∀c,bq H c->bq H' c)->S a H'
 call: ∀a at_ bound a' H,S a H->step a at_ bound=some a'->bA Tryz.prog g (.int .i64 at_:: .ak (bound.map aH) .unk::caps) H fun _ H'=>S a' H'
theorem ai9 {g:FuncId} {caps:List PV} {S:α->AH->Prop} {step:α->Int->List Str->Option α} (hv:Visit g caps S step) (e:List Nd) (k:Nat)
 (ih: ∀(at_:Int) (bound:List Str) (a a':α) (H:AH),S a H->yh step e k at_ bound a=some a'->bA Tryz.prog 189 [fT e,.int .i64 at_,DJ bound,.fn (.func g) [] caps] H fun _ H'=>S a' H')
 (at_:Int) (bound:List Str) (n:Nd) (e2:0<=at_) (e3:e[at_.toNat]? =some n) (e4:n.args.length<=1099511627776):
 ∀(l:List Int) (i:Nat) (a a':α) (σ:Nat->PV) (H:AH),l=n.args.drop i->i<=n.args.length->σ 0=fT e->σ 1= .int .i64 at_->σ 2=DJ bound->σ 3= .fn (.func g) [] caps->σ 18=ah5 n.args->σ 19= .int .i64 n.args.length->σ 20= .int .i64 i->
   S a H->IW (yh step e k) n bound i l a=some a'-> ∀(Q:Post),(∀σ' H',S a' H'->Q (.exit 0) σ' H')->W Tryz.prog (.loop KU) Q σ H:=by
 intro l
 induction l with
 |nil=>
  intro i a a' σ H hl hi s0 s1 s2 s3 iX oW s20 hS h Q q0;have hii:i=n.args.length:=by
   have:=congrArg List.length hl;rw [List.length_drop,List.length_nil]at this;omega
  rw [IW]at h;cases h;refine aW (fun K hK=>aC ?_);unfold KU;have hd:decide ((i:Int)<(n.args.length:Int))=false:=decide_eq_false (by omega);simp -implicitDefEqProofs only [go_sem,oW,s20,hd];exact q0 _ _ hS
 |cons op l ihl=>
  intro i a a' σ H hl hi s0 s1 s2 s3 iX oW s20 hS h Q q0;have hlt:i<n.args.length:=by
   have:=congrArg List.length hl;rw [List.length_drop,List.length_cons]at this;omega
  have hop:n.args[i]? =some op:=by
   have:=congrArg (·[0]?) hl
   simpa [List.getElem?_drop]using this.symm
  have hl':l=n.args.drop (i+1):=by
   have:=congrArg List.tail hl;simpa using this
  rw [IW]at h;cases e5:iq n (i:Int)with
  |none=>rw [Aj e5]at h;cases h
  |some b=>
  rw [Ak e5]at h;by_cases e6:(bound.length+b.length)*16<=1099511627776
  case neg=>rw [if_neg e6]at h;cases h
  rw [if_pos e6]at h;cases e7:yh step e k op (bound++b) a with
  |none=>rw [Aj e7]at h;cases h
  |some a1=>
  rw [Ak e7]at h;refine aW (fun K hK=>aC ?_);unfold KU;have hd:decide ((i:Int)<(n.args.length:Int))=true:=decide_eq_true (by omega);simp -implicitDefEqProofs only [go_sem,s0,s1,s2,s3,iX,oW,s20,hd,List.getElem?_map,hop,Option.map_some];have hb:=aiG e5;have hw:IntKind.wrap .i64 ((i:Int)+1)=((i+1:Nat):Int):=by rw [IntKind.wrap_i64];omega
  refine⟨fun _=>True,trivial,?_⟩;refine dY (fT e) (fun H' _=>by simp -implicitDefEqProofs only [go_sem,s0,s1,s2,s3,iX,oW,s20,e2,e3,List.getElem?_map,Option.map_some]) ?_;refine dY (.int .i64 op) (fun H' _=>by simp -implicitDefEqProofs only [go_sem,s0,s1,s2,s3,iX,oW,s20,e2,e3,List.getElem?_map,Option.map_some]) ?_;refine dY (DJ bound) (fun H' _=>by simp -implicitDefEqProofs only [go_sem,s0,s1,s2,s3,iX,oW,s20,e2,e3,List.getElem?_map,Option.map_some]) ?_;refine zI (.ak (bound.map aH) .exact) (by simp -implicitDefEqProofs only [go_sem,s0,s1,s2,s3,iX,oW,s20,e2,e3,List.getElem?_map,Option.map_some];exact ai8 bound) ?_;refine dY (fT e) (fun H' _=>by simp -implicitDefEqProofs only [go_sem,s0,s1,s2,s3,iX,oW,s20,e2,e3,List.getElem?_map,Option.map_some]) ?_;refine dY (.int .i64 at_) (fun H' _=>by simp -implicitDefEqProofs only [go_sem,s0,s1,s2,s3,iX,oW,s20,e2,e3,List.getElem?_map,Option.map_some]) ?_;refine dY (.bS n.cells 0) (fun H' _=>by simp -implicitDefEqProofs only [go_sem,s0,s1,s2,s3,iX,oW,s20,e2,e3,List.getElem?_map,Option.map_some]) ?_;refine dY (.agg n.cells) (fun H' _=>by simp -implicitDefEqProofs only [go_sem,s0,s1,s2,s3,iX,oW,s20,e2,e3,List.getElem?_map,Option.map_some]) ?_;refine dY (.int .i64 i) (fun H' _=>by simp -implicitDefEqProofs only [go_sem,s0,s1,s2,s3,iX,oW,s20,e2,e3,List.getElem?_map,Option.map_some]) ?_;refine zI (DJ b) (by simp -implicitDefEqProofs only [go_sem,s0,s1,s2,s3,iX,oW,s20,e2,e3,List.getElem?_map,Option.map_some];exact hb) ?_;obtain⟨c',H',f1,f2,f3,f4,f5⟩:=afi (σ:=(upd (upd (upd (upd (upd (upd (upd (upd (upd (upd (upd (upd (upd (upd (upd (upd σ (some 21) (PV.bool true)) (some 22) (PV.int IntKind.i64 ↑i)) (some 23) (PV.bS [PV.int IntKind.i64 op] 0)) (some 24) (PV.int IntKind.i64 op)) (some 8) (PV.int IntKind.i64 ↑i)) (some 9) (PV.int IntKind.i64 op)) (some 25) (fT e)) (some 26) (.int .i64 op)) (some 27) (DJ bound)) (some 28) (.ak (bound.map aH) .exact)) (some 29) (fT e)) (some 30) (.int .i64 at_)) (some 31) (.bS n.cells 0)) (some 32) (.agg n.cells)) (some 33) (.int .i64 i)) (some 34) (DJ b))) (H:=H) (sz:=1) (b:=16) (x:=AE.t 28) (y:=AE.t 34) jZ bound b .exact .unk (by simp -implicitDefEqProofs only [go_sem,s0,s1,s2,s3,iX,oW,s20,e2,e3,List.getElem?_map,Option.map_some]) (by simp -implicitDefEqProofs only [go_sem,s0,s1,s2,s3,iX,oW,s20,e2,e3,List.getElem?_map,Option.map_some]) trivial e6;refine TV _ H' f1 trivial ?_;refine dY (.fn (.func g) [] caps) (fun H' _=>by simp -implicitDefEqProofs only [go_sem,s0,s1,s2,s3,iX,oW,s20,e2,e3,List.getElem?_map,Option.map_some]) ?_;have hS':S a H':=hv.stable a H H' hS f3 f4 fun c hc=>(f5 c hc .exact).1;rw [akf];refine fu ?_;simp -implicitDefEqProofs only [go_sem,s0,s1,s2,s3,iX,oW,s20,e2,e3,List.getElem?_map,Option.map_some];refine bA.mono (bA.wk (ih op (bound++b) a a1 H' hS' e7) (.same (.same (.ak (.same .nil))))) fun r H2 hS2=> ?_;simp -implicitDefEqProofs only [go_sem,s0,s1,s2,s3,iX,oW,s20,e2,e3,List.getElem?_map,Option.map_some];refine hK _ _ ?_;refine ihl (i+1) a1 a' _ H2 hl' hlt ?_ ?_ ?_ ?_ ?_ ?_ ?_ hS2 h Q q0
  all_goals (simp -implicitDefEqProofs only [go_sem,s0,s1,s2,s3,iX,oW,s20,e2,e3,List.getElem?_map,Option.map_some,hw];try rfl)
theorem atU {g:FuncId} {caps:List PV} {S:α->AH->Prop} {step:α->Int->List Str->Option α} (hv:Visit g caps S step) (e:List Nd):
 ∀(k:Nat) (at_:Int) (bound:List Str) (a a':α) (H:AH),S a H->yh step e k at_ bound a=some a'->bA Tryz.prog 189 [fT e,.int .i64 at_,DJ bound,.fn (.func g) [] caps] H fun _ H'=>S a' H':=by
 intro k
 induction k with
 |zero=>intro at_ bound a a' H hS h;simp only [yh,reduceCtorEq]at h
 |succ k ih=>
  intro at_ bound a a' H hS h
  rw [yh]at h;cases e1:step a at_ bound with
  |none=>rw [Aj e1]at h;cases h
  |some a1=>
  rw [Ak e1]at h;by_cases e2:0<=at_
  case neg=>rw [if_neg e2]at h;cases h
  rw [if_pos e2]at h;cases e3:e[at_.toNat]? with
  |none=>rw [Aj e3]at h;cases h
  |some n=>
  rw [Ak e3]at h;by_cases e4:n.args.length<=1099511627776
  case neg=>rw [if_neg e4]at h;cases h
  rw [if_pos e4]at h;refine aF avX (by simp) (aC ?_);unfold amP;simp -implicitDefEqProofs only [go_sem];refine bA.mono (hv.call a at_ bound a1 H hS e1) fun r H1 hS1=> ?_;simp -implicitDefEqProofs only [go_sem,e2,e3];refine ai9 hv e k ih at_ bound n e2 e3 e4 n.args 0 a1 a' _ H1 rfl (Nat.zero_le _) ?_ ?_ ?_ ?_ ?_ ?_ ?_ hS1 h _ ?_
  all_goals first
   |(simp -implicitDefEqProofs only [go_sem];done)
   |skip
  intro σ' H' hS';exact hS'
end
end Go.VL
end
section
set_option maxHeartbeats 4000000
namespace Go.VL
open Go.Proofs
def uF:Nat->(List Str)->Str->Int->Option Int
 |0,_,_,_=>none
 |k+1,bB,s_1,Ey=>
  cond (decide (Ey<(bB.length:Int))) (if 0<=Ey then (bB[Ey.toNat]?).bind fun x3=>cond (strLt x3 s_1) (uF k bB s_1 (IntKind.wrap .i64 (Ey+1))) (some (Ey))else none) (some (Ey))
def Yy:List Nat:=[5]++List.range' 7 14
theorem agY: ∀(k:Nat) (bB:List Str) (s_1:Str) (Ey:Int) (aB σ:Nat->PV) (H:AH) (f0:Fr Yy aB σ) (sl:σ 0=(.ak (bB.map aH) .unk)/\σ 1=(.str s_1)/\σ 5=(.int .i64 Ey)) (o:Int) (h:uF k bB s_1 Ey=some o) (Q:Post) (q0: ∀(p:Int) (σ':Nat->PV),o=p->Fr Yy aB σ'->(σ' 5=(.int .i64 p))->Q (.exit 0) σ' H),W Tryz.prog (.loop Sg) Q σ H:=by
 intro k
 induction k with
 |zero=>intro bB s_1 Ey aB σ H f0 sl o h Q q0;simp only [uF,reduceCtorEq]at h
 |succ k ih=>
  intro bB s_1 Ey aB σ H f0 sl o h Q q0;obtain⟨s0,s1,s5⟩:=sl;unfold uF at h;refine aW (fun K hK=>aC ?_);unfold Sg;obtain⟨e1,h⟩|⟨e1,h⟩:=aA h
  ·obtain⟨e2,h⟩:=aU h;obtain⟨x3,e4,h⟩:=aj h;obtain⟨e5,h⟩|⟨e5,h⟩:=aA h
   ·refine ah ?_;refine hK _ _ ?_;exact ih bB s_1 (IntKind.wrap .i64 (Ey+1)) _ _ _ aI au _ h _ q0
   ·cases h;refine ah ?_;exact q0 _ _ rfl aI au
  ·cases h;refine ah ?_;exact q0 _ _ rfl aI au
def UU (k:Nat) (bB:List Str) (s_1:Str):Option (List Str):=
 Option.bind (uF k bB s_1 0) (fun p8=>cond (decide (p8<(bB.length:Int))) (if 0<=p8 then (bB[p8.toNat]?).bind fun Gs=>cond (Gs==s_1) (some bB) (if 0<=p8/\p8.toNat<=bB.length then if(([]:List Str).length+(bB.take p8.toNat).length)*16<=1099511627776 then if((([]:List Str)++(bB.take p8.toNat)).length+1)*16<=1099511627776 then if(((([]:List Str)++(bB.take p8.toNat))++[s_1]).length+(bB.drop p8.toNat).length)*16<=1099511627776 then some (((([]:List Str)++(bB.take p8.toNat))++[s_1])++(bB.drop p8.toNat))else none else none else none else none)else none) (if 0<=p8/\p8.toNat<=bB.length then if(([]:List Str).length+(bB.take p8.toNat).length)*16<=1099511627776 then if((([]:List Str)++(bB.take p8.toNat)).length+1)*16<=1099511627776 then if(((([]:List Str)++(bB.take p8.toNat))++[s_1]).length+(bB.drop p8.toNat).length)*16<=1099511627776 then some (((([]:List Str)++(bB.take p8.toNat))++[s_1])++(bB.drop p8.toNat))else none else none else none else none))
theorem ap1 {k:Nat} {bB:List Str} {s_1:Str} {c0:Ck} {r:List Str} (h:UU k bB s_1=some r):aD Tryz.prog 250 [(.ak (bB.map aH) c0),(.str s_1)] (.ak (r.map aH) .unk):=by
 refine aD.lw (.ak (.same .nil)) (aD.aO (aX.mem (.cons (aT bE _) (.cons (.str _) .nil))) (aF awx (by simp) (aC ?_)) (aT bE _));unfold UU at h;unfold ano;refine ah ?_;obtain⟨o6,h7,h⟩:=aj h;refine agY k bB s_1 0 _ _ _ (Fr.refl _ _) au _ h7 _ ?_
 ·rintro p8 σ' eo Im s12;rw [eo]at h;have s13:σ' 0=(.ak (bB.map aH) .unk):=(Im 0 (by decide)).trans au;have J8:σ' 1=(.str s_1):=(Im 1 (by decide)).trans au;obtain⟨e15,h⟩|⟨e15,h⟩:=aA h
  ·obtain⟨e16,h⟩:=aU h;obtain⟨Gs,e18,h⟩:=aj h;obtain⟨e19,h⟩|⟨e19,h⟩:=aA h
   ·cases h;refine ah ?_;exact(dS bE _ _)
   ·obtain⟨e20,h⟩:=aU h;refine ah ?_;refine aF aaP (by simp) (aC ?_);unfold Wm;obtain⟨e26,h⟩:=aU h;refine ah ?_;refine gq (f:=aH) jZ ([]:List Str) ((bB.take p8.toNat):List Str) .exact .unk au au eZ (by first|exact e26|(simp only [List.length_cons,List.length_nil];exact e26)) (fun c22 H23 akD le aAy aFU=> ?_);have aFV:HF [] _ H23:=⟨le,fun i _ _=>aAy i⟩;try simp only [AH.aK,AH.aL,AH.aM,AH.aN]at le
    obtain⟨e33,h⟩:=aU h;refine ah ?_;refine gq (f:=aH) jZ (([]:List Str)++(bB.take p8.toNat)) ([s_1]:List Str) c22 .exact au au eZ (by first|exact e33|(simp only [List.length_cons,List.length_nil];exact e33)) (fun c29 H30 aFW le aAz aFX=> ?_);have agZ:HF [] _ H30:=⟨le,fun i _ _=>aAz i⟩;try simp only [AH.aK,AH.aL,AH.aM,AH.aN]at le
    obtain⟨e40,h⟩:=aU h;refine ah ?_;refine gq (f:=aH) jZ ((([]:List Str)++(bB.take p8.toNat))++[s_1]) ((bB.drop p8.toNat):List Str) c29 .unk au au eZ (by first|exact e40|(simp only [List.length_cons,List.length_nil];exact e40)) (fun c36 H37 ath le aAA aFY=> ?_);have atP:HF [] _ H37:=⟨le,fun i _ _=>aAA i⟩;try simp only [AH.aK,AH.aL,AH.aM,AH.aN]at le
    cases h;refine ah ?_;exact(dS bE _ _)
  ·obtain⟨e43,h⟩:=aU h;refine ah ?_;refine aF aaP (by simp) (aC ?_);unfold Wm;obtain⟨e49,h⟩:=aU h;refine ah ?_;refine gq (f:=aH) jZ ([]:List Str) ((bB.take p8.toNat):List Str) .exact .unk au au eZ (by first|exact e49|(simp only [List.length_cons,List.length_nil];exact e49)) (fun c45 H46 aAB le aln aAC=> ?_);have Xr:HF [] _ H46:=⟨le,fun i _ _=>aln i⟩;try simp only [AH.aK,AH.aL,AH.aM,AH.aN]at le
   obtain⟨e56,h⟩:=aU h;refine ah ?_;refine gq (f:=aH) jZ (([]:List Str)++(bB.take p8.toNat)) ([s_1]:List Str) c45 .exact au au eZ (by first|exact e56|(simp only [List.length_cons,List.length_nil];exact e56)) (fun c52 Yz aFZ le alo aF0=> ?_);have ag0:HF [] _ Yz:=⟨le,fun i _ _=>alo i⟩;try simp only [AH.aK,AH.aL,AH.aM,AH.aN]at le
   obtain⟨e63,h⟩:=aU h;refine ah ?_;refine gq (f:=aH) jZ ((([]:List Str)++(bB.take p8.toNat))++[s_1]) ((bB.drop p8.toNat):List Str) c52 .unk au au eZ (by first|exact e63|(simp only [List.length_cons,List.length_nil];exact e63)) (fun c59 H60 aF1 le aAD aF2=> ?_);have ag1:HF [] _ H60:=⟨le,fun i _ _=>aAD i⟩;try simp only [AH.aK,AH.aL,AH.aM,AH.aN]at le
   cases h;refine ah ?_;exact(dS bE _ _)
def nT:Nat->(List Nd)->(List Str)->Int->Int->Option (List Str)
 |0,_,_,_,_=>none
 |k+1,aG,iG,Lm,FK=>
  cond (decide (Lm>=0)) (if 0<=Lm then (aG[Lm.toNat]?).bind fun x5=>(vo x5 FK).bind fun p8=>if(([]:List Str).length+p8.length)*16<=1099511627776 then if((([]:List Str)++p8).length+iG.length)*16<=1099511627776 then (uj k aG Lm).bind fun p25=>nT k aG ((([]:List Str)++p8)++iG) p25.1 p25.2 else none else none else none) (some (iG))
def Mq:List Nat:=[5,6,7]++List.range' 14 17
theorem Xz: ∀(k:Nat) (aG:List Nd) (iG:List Str) (Lm:Int) (FK:Int) (BU:Ck) (aB σ:Nat->PV) (H0 H:AH) (f0:Fr Mq aB σ) (hf0:HF [] H0 H) (sl:σ 0=(.ak (aG.map Nd.cells) .unk)/\σ 5=(.ak (iG.map aH) BU)/\σ 6=(.int .i64 Lm)/\σ 7=(.int .i64 FK)) (o:List Str) (h:nT k aG iG Lm FK=some o) (Q:Post) (q0: ∀(p:List Str) (c0:Ck) (σ':Nat->PV) (H':AH),o=p->Fr Mq aB σ'->HF [] H0 H'->(σ' 5=(.ak (p.map aH) c0))->Q (.exit 0) σ' H'),W Tryz.prog (.loop Qz) Q σ H:=by
 intro k
 induction k with
 |zero=>intro aG iG Lm FK BU aB σ H0 H f0 hf0 sl o h Q q0;simp only [nT,reduceCtorEq]at h
 |succ k ih=>
  intro aG iG Lm FK BU aB σ H0 H f0 hf0 sl o h Q q0;obtain⟨s0,s5,s6,s7⟩:=sl;have hle0:=hf0.1;unfold nT at h;refine aW (fun K hK=>aC ?_);unfold Qz;obtain⟨e3,h⟩|⟨e3,h⟩:=aA h
  ·obtain⟨e4,h⟩:=aU h;obtain⟨x5,e6,h⟩:=aj h;obtain⟨p8,e7,h⟩:=aj h;refine ah ?_;refine av (Yj e7) ?_;refine ah ?_;refine aF aaP (by simp) (aC ?_);unfold Wm;obtain⟨e14,h⟩:=aU h;refine ah ?_;refine gq (f:=aH) jZ ([]:List Str) (p8:List Str) .exact .unk au au eZ (by first|exact e14|(simp only [List.length_cons,List.length_nil];exact e14)) (fun c10 H11 ari le aAE aF3=> ?_);have abW:HF [] _ H11:=⟨le,fun i _ _=>aAE i⟩;try simp only [AH.aK,AH.aL,AH.aM,AH.aN]at le
   obtain⟨e21,h⟩:=aU h;refine ah ?_;refine gq (f:=aH) jZ (([]:List Str)++p8) (iG:List Str) c10 BU au au eZ (by first|exact e21|(simp only [List.length_cons,List.length_nil];exact e21)) (fun c17 H18 af9 le aAF alp=> ?_);have aAG:HF [] _ H18:=⟨le,fun i _ _=>aAF i⟩;try simp only [AH.aK,AH.aL,AH.aM,AH.aN]at le
   obtain⟨p25,e24,h⟩:=aj h;refine ah ?_;refine av (EL e24) ?_;refine ah ?_;refine hK _ _ ?_;exact ih aG ((([]:List Str)++p8)++iG) p25.1 p25.2 c17 _ _ _ _ aI (by repeat (first|exact hf0|refine HF.new ?_|refine HF.qJ ?_|refine HF.used ?_|refine HF.put (by first|(right;omega)|(left;simp only [List.mem_cons,true_or,or_true])) ?_|refine HF.via abW (by first|exact fun i hi=>absurd hi List.not_mem_nil|(intro i hi;simp only [List.mem_cons,List.not_mem_nil,or_false]at hi⊢;first|exact .inl hi|omega)) ?_|refine HF.via aAG (by first|exact fun i hi=>absurd hi List.not_mem_nil|(intro i hi;simp only [List.mem_cons,List.not_mem_nil,or_false]at hi⊢;first|exact .inl hi|omega)) ?_)) au _ h _ q0
  ·cases h;refine ah ?_;exact q0 _ BU _ _ rfl aI nZ au
def xG (k:Nat) (aG:List Nd) (dP:Int):Option (List Str):=
 (uj k aG dP).bind fun p2=>Option.bind (nT k aG ([]:List Str) p2.1 p2.2) (fun p28=>some p28)
theorem aea {k:Nat} {aG:List Nd} {dP:Int} {c0:Ck} {r:List Str} (h:xG k aG dP=some r):aD Tryz.prog 113 [(.ak (aG.map Nd.cells) c0),(.int .i64 dP)] (.ak (r.map aH) .unk):=by
 refine aD.lw (.ak (.same .nil)) (aD.aO (aX.mem (.cons (aT Nd.pu _) (.cons (.int _ _) .nil))) (aF avt (by simp) (aC ?_)) (aT bE _));unfold xG at h;unfold amg;obtain⟨p2,e1,h⟩:=aj h;refine ah ?_;refine av (EL e1) ?_;refine ah ?_;obtain⟨o26,h27,h⟩:=aj h;refine Xz k aG ([]:List Str) p2.1 p2.2 .nil _ _ _ _ (Fr.refl _ _) (HF.refl _ _) au _ h27 _ ?_
 ·rintro p28 c32 σ' H31 eo SL akL s33;rw [eo]at h;have le:=akL.1;try simp only [AH.aK,AH.aL,AH.aM,AH.aN]at le
  cases h;refine ah ?_;exact(dS bE _ _)
end Go.VL
end
section
namespace Go.VL
open Tm
def yj (n:Nd) (p:Nat):List Str:=(iq n (p:Int)).getD []
theorem Te {n:Nd} (h:dM true n=0) (hk:n.kind=23):n.args.length=2/\1<=n.names.length:=by
 unfold dM at h
 split at h;·cases h
 split at h;·cases h
 rename_i _ h1;have h1:qV n=true:=by simpa using h1
 unfold qV at h1;have hs:iA 23=((1,5,2,2),false):=by kernel_rfl
 rw [hk,hs]at h1;simp [iy]at h1;omega
theorem Mr {n:Nd} (h:dM true n=0) (hl:n.args.length<=1000000) (p:Nat):iq n (p:Int)=some (yj n p):=by
 have hj: ∃b,jL n.kind=some b:=by
  unfold jL
  repeat' first
   |exact⟨_,rfl⟩
   |(generalize(n.kind==_)=b;cases b<;>simp only [cond_true,cond_false])
 obtain⟨b,hb⟩:=hj;have: ∃r,iq n (p:Int)=some r:=by
  unfold iq;rw [hb,Option.bind_some];cases b with
  |true=>rw [cond_true];cases((p:Int)==IntKind.wrap .i64 ((n.args.length:Int) -1))<;>exact⟨_,rfl⟩
  |false=>
   rw [cond_false];by_cases hk:n.kind=23
   · obtain⟨h1,h2⟩:=Te h hk;rw [wo (by rw [hk];rfl)];rw [if_pos h2,if_pos h2];cases((p:Int)==IntKind.wrap .i64 ((n.args.length:Int) -1))<;>cases(n.n==1)<;>exact⟨_,rfl⟩
   · rw [oQ (by rw [beq_eq_false_iff_ne];exact hk)];exact⟨_,rfl⟩
 obtain⟨r,hr⟩:=this;unfold yj;rw [hr];rfl
theorem Ms {n:Nd} (h:dM true n=0) (hl:n.args.length<=1000000) (p:Nat):vo n (p:Int)=some (yj n p):=by
 rw [<-Mr h hl];unfold vo iq;show Option.bind (jL n.kind) _=_;cases jL n.kind with
 |none=>rfl
 |some b=>
  rw [Option.bind_some,Option.bind_some];cases b with
  |true=>rfl
  |false=>
   rw [cond_false,cond_false];by_cases hk:n.kind=23
   · obtain⟨h1,h2⟩:=Te h hk;rw [h1];rfl
   · rw [oQ (by rw [beq_eq_false_iff_ne];exact hk),oQ (by rw [beq_eq_false_iff_ne];exact hk)]
theorem Og {n:Nd} {m:Nat} (hm:n.names.length<=m) (p:Nat):(yj n p).length<=m:=by
 have key: ∀r,iq n (p:Int)=some r->r.length<=m:=by
  intro r hr;unfold iq at hr;cases hj:jL n.kind with
  |none=>rw [hj]at hr;cases hr
  |some b=>
   rw [hj,Option.bind_some]at hr;cases b with
   |true=>
    rw [cond_true]at hr;cases e:((p:Int)==IntKind.wrap .i64 ((n.args.length:Int) -1))<;>rw [e]at hr<;>cases hr
    · exact Nat.zero_le _
    · exact hm
   |false=>
    rw [cond_false]at hr;cases e0:(n.kind==23)<;>rw [e0]at hr
    · cases hr;exact Nat.zero_le _
    · rw [cond_true]at hr;by_cases h1:1<=n.names.length
      · rw [if_pos h1,if_pos h1]at hr;cases e:((p:Int)==IntKind.wrap .i64 ((n.args.length:Int) -1))<;>rw [e]at hr
        · cases e2:(n.n==1)<;>rw [e2]at hr<;>cases hr
          · simp;omega
          · exact hm
        · cases hr;simp;omega
      · rw [if_neg h1,if_neg h1]at hr;cases e:((p:Int)==IntKind.wrap .i64 ((n.args.length:Int) -1))<;>rw [e]at hr
        · cases e2:(n.n==1)<;>rw [e2]at hr<;>cases hr;exact hm
        · cases hr
 unfold yj;cases h:iq n (p:Int)with
 |none=>exact Nat.zero_le _
 |some r=>exact key r h
mutual
def vis (b:Nat) (bd:List Str):Tm->List (Nat×List Str)
 | .mk x cs=>(b+sizes cs,bd)::Dc b bd (nd x b cs) 0 cs
def Dc (b:Nat) (bd:List Str) (n:Nd) (j:Nat):List Tm->List (Nat×List Str)
 |[]=>[]
 |c::cs=>vis b (bd++yj n j) c++Dc (b+c.size) bd n (j+1) cs
end
theorem IX {b:Nat} {bd:List Str} {n:Nd} {j:Nat} {c:Tm} {cs:List Tm}:Dc b bd n j (c::cs)=vis b (bd++yj n j) c++Dc (b+c.size) bd n (j+1) cs:=by rw [Dc]
theorem UW {b:Nat} {bd:List Str} {x:Nd} {cs:List Tm}:vis b bd (.mk x cs)=(b+sizes cs,bd)::Dc b bd (nd x b cs) 0 cs:=by rw [vis]
section
variable {α:Type}
def BX (step:α->Int->List Str->Option α):List (Nat×List Str)->α->Option α
 |[],a=>some a
 |v::l,a=>(step a (v.1:Int) v.2).bind fun a'=>BX step l a'
theorem P8 (step:α->Int->List Str->Option α): ∀(l m:List (Nat×List Str)) (a:α),BX step (l++m) a=(BX step l a).bind fun a'=>BX step m a'
 |[],m,a=>rfl
 |v::l,m,a=>by
  rw [List.cons_append,BX,BX];cases step a (v.1:Int) v.2 with
  |none=>rfl
  |some a'=>exact P8 step l m a'
structure zy (e:List Nd):Prop where
 len:e.length<=170
 ok: ∀(i:Nat) n,e[i]? =some n->dM true n=0
 few: ∀(i:Nat) n,e[i]? =some n->n.args.length<=34/\n.names.length<=34
variable {e:List Nd} (hF:zy e) (step:α->Int->List Str->Option α)
include hF
mutual
theorem acr: ∀(t:Tm) (b:Nat) (bd:List Str) (k:Nat) (a:α),Seg e b t->t.size<=k->bd.length+34*(b+t.size -1)<=10000->yh step e k ((b+t.size -1:Nat):Int) bd a=BX step (vis b bd t) a
 | .mk x cs,b,bd,k,a,hS,hk,hb=>by
  have hn:=hS.node;have hsz:b+(Tm.mk x cs).size -1=b+sizes cs:=by simp only [size];omega
  rw [hsz]at hb⊢;obtain⟨k,rfl⟩: ∃j,k=j+1:=⟨k -1,by simp only [size]at hk;omega⟩;rw [yh,UW,BX];cases step a ((b+sizes cs:Nat):Int) bd with
  |none=>rfl
  |some a'=>
   simp only [Option.bind_some,nn,if_true,Int.toNat_natCast,hn];have hl:(nd x b cs).args.length<=1099511627776:=by have:=(hF.few _ _ hn).1;omega
   rw [if_pos hl];exact YA cs x [] b bd k a' hS (by simp only [size]at hk;omega) (by simp only [List.nil_append];omega)
theorem YA: ∀(cs:List Tm) (x:Nd) (l:List Tm) (b:Nat) (bd:List Str) (k:Nat) (a:α),Seg e b (.mk x (l++cs))->sizes cs<=k->bd.length+34*(b+sizes (l++cs))<=10000->
 IW (yh step e k) (nd x b (l++cs)) bd l.length (roots (b+sizes l) cs) a=BX step (Dc (b+sizes l) bd (nd x b (l++cs)) l.length cs) a
 |[],x,l,b,bd,k,a,hS,hk,hb=>by rw [roots,IW,Dc,BX]
 |c::cs,x,l,b,bd,k,a,hS,hk,hb=>by
  have hn:=hS.node;have BZ:=hF.few _ _ hn;have hbl:=Og BZ.2 l.length;have hcp:=c.size_pos;have hsz:sizes (l++c::cs)=sizes l+(c.size+sizes cs):=by rw [eF,sizes]
  rw [hsz]at hb;rw [roots,IW,IX,P8,Mr (hF.ok _ _ hn) (by omega),Option.bind_some,if_pos (by omega)];have hk2:sizes (c::cs)=c.size+sizes cs:=by rw [sizes]
  rw [acr c (b+sizes l) (bd++yj (nd x b (l++c::cs)) l.length) k a hS.kid (by omega) (by rw [List.length_append];omega)];cases BX step (vis (b+sizes l) (bd++yj (nd x b (l++c::cs)) l.length) c) a with
  |none=>rfl
  |some a'=>
   have e1:l++c::cs=(l++[c])++cs:=by simp
   have e2:l.length+1=(l++[c]).length:=by simp
   have e3:b+sizes l+c.size=b+sizes (l++[c]):=by rw [eF,rE];omega
   rw [Option.bind_some,Option.bind_some,e1,e2,e3];exact YA cs x (l++[c]) b bd k a' (by rw [<-e1];exact hS) (by omega) (by rw [<-e1,hsz];omega)
end
end
end Go.VL
end
section
namespace Go.VL
theorem Oh: ∀a b:Str,strLt a b=true↔a<b
 |[],[]=>by simp [strLt]
 |a::x,[]=>by simp [strLt]
 |[],b::y=>by simp [strLt]
 |a::x,b::y=>by
  rw [strLt,List.cons_lt_cons_iff,Bool.or_eq_true,Bool.and_eq_true,decide_eq_true_eq,beq_iff_eq,Oh x y]
theorem tri (a b:Str):a<b\/a=b\/b<a:=by
 rcases List.le_total a b with h|h
 · by_cases e:a=b
   · exact .inr (.inl e)
   · by_cases h2:a<b
     · exact .inl h2
     · exact absurd (List.le_antisymm h (List.not_lt.1 h2)) e
 · by_cases e:a=b
   · exact .inr (.inl e)
   · by_cases h2:b<a
     · exact .inr (.inr h2)
     · exact absurd (List.le_antisymm (List.not_lt.1 h2) h) e
def uG (s:Str):List Str->List Str
 |[]=>[s]
 |x::l=>if strLt x s=true then x::uG s l else if x=s then x::l else s::x::l
def Lp (l:List Str):List Str:=l.foldl (fun a s=>uG s a) []
theorem Lr {s y:Str}: ∀{l:List Str},y∈uG s l↔y=s\/y∈l
 |[]=>by simp [uG]
 |x::l=>by
  rw [uG];split
  · simp only [List.mem_cons,Lr (l:=l)];constructor
    · rintro(h|h|h)<;>simp [h]
    · rintro(h|h|h)<;>simp [h]
  · split
    · rename_i h;subst h;simp
    · simp
theorem Tf {s:Str}: ∀{l:List Str},l.Pairwise (·< ·)->(uG s l).Pairwise (·< ·)
 |[],_=>by simp [uG]
 |x::l,h=>by
  rw [uG];obtain⟨h1,h2⟩:=List.pairwise_cons.1 h;split
  · rename_i hx;refine List.pairwise_cons.2 ⟨fun y hy=> ?_,Tf h2⟩;rcases Lr.1 hy with rfl|hy
    · exact(Oh _ _).1 hx
    · exact h1 y hy
  · rename_i hx;split
    · exact h
    · rename_i hne;have hlt:s<x:=by
       rcases tri s x with h|h|h
       · exact h
       · exact absurd h.symm hne
       · exact absurd ((Oh _ _).2 h) hx
      refine List.pairwise_cons.2 ⟨fun y hy=> ?_,h⟩;rcases List.mem_cons.1 hy with rfl|hy
      · exact hlt
      · exact List.lt_trans hlt (h1 y hy)
theorem Tg: ∀(l a:List Str),a.Pairwise (·< ·)->(l.foldl (fun a s=>uG s a) a).Pairwise (·< ·)/\ ∀y,y∈l.foldl (fun a s=>uG s a) a↔y∈l\/y∈a
 |[],a,h=>⟨h,fun y=>by simp⟩
 |s::l,a,h=>by
  obtain⟨h1,h2⟩:=Tg l (uG s a) (Tf h);refine⟨h1,fun y=> ?_⟩;rw [List.foldl_cons,h2 y,Lr,List.mem_cons];constructor
  · rintro(h|h|h)<;>simp [h]
  · rintro((h|h)|h)<;>simp [h]
theorem acs (l:List Str):(Lp l).Pairwise (·< ·):=(Tg l [] List.Pairwise.nil).1
theorem acu {l:List Str} {y:Str}:y∈Lp l↔y∈l:=by rw [Lp,(Tg l [] List.Pairwise.nil).2 y];simp
theorem acv {l m:List Str} (hl:l.Pairwise (·< ·)) (hm:m.Pairwise (·< ·)) (h: ∀y,y∈l↔y∈m):l=m:=by
 have nd: ∀{l:List Str},l.Pairwise (·< ·)->l.Nodup:=fun h=>h.imp (S:=fun a b=>a≠b) fun{a b} hab e=>List.lt_irrefl a (by rw [<-e]at hab;exact hab)
 have hp:l.Perm m:=(List.perm_ext_iff_of_nodup (nd hl) (nd hm)).2 h
 exact List.Perm.eq_of_pairwise (le:=(·< ·)) (fun a b _ _ h1 h2=>absurd (List.lt_trans h1 h2) (List.lt_irrefl a)) hl hm hp
theorem GQ (d:Array Str) (hd: ∀i j,i<j->j<d.size->d[i]! <=d[j]!): ∀m,m<=d.size->(Lib.compactUpTo d m).Pairwise (·< ·)/\(∀x∈Lib.compactUpTo d m,∃j,j<m/\x=d[j]!)/\(∀j,j<m->d[j]! ∈Lib.compactUpTo d m)
 |0,_=>⟨List.Pairwise.nil,fun x h=>(by simp [Lib.compactUpTo]at h),fun j h=>absurd h (Nat.not_lt_zero _)⟩
 |m+1,hm=>by
  obtain⟨h1,h2,h3⟩:=GQ d hd m (by omega);rw [Lib.compactUpTo_succ];cases hk:Lib.keeps d m with
  |true=>
   rw [if_pos rfl];refine⟨List.pairwise_append.2 ⟨h1,List.pairwise_singleton _ _,fun a ha b hb=> ?_⟩,fun x hx=> ?_,fun j hj=> ?_⟩
   · rw [List.mem_singleton]at hb;subst hb;obtain⟨j,hj,rfl⟩:=h2 a ha;have hne:d[m]! ≠d[m -1]! :=by
      unfold Lib.keeps at hk;rw [decide_eq_true_eq]at hk;rcases hk with h|h
      · omega
      · exact h
     have h4:d[j]! <=d[m -1]! :=by
      by_cases e:j=m -1
      · rw [e];exact List.le_refl _
      · exact hd j (m -1) (by omega) (by omega)
     have h5:d[m -1]! <=d[m]! :=hd (m -1) m (by omega) (by omega);have h6:d[m -1]! <d[m]! :=by
      rcases tri d[m -1]! d[m]! with h|h|h
      · exact h
      · exact absurd h.symm hne
      · exact absurd (List.le_antisymm h5 (List.le_of_lt h)).symm hne
     rcases tri d[j]! d[m]! with h|h|h
     · exact h
     · rw [h]at h4;exact absurd (List.le_antisymm h4 h5) hne
     · have h7:=List.lt_trans h6 h;exact absurd (List.le_antisymm h4 (List.le_of_lt h7)) (fun e=>List.lt_irrefl _ (e▸h7))
   · rcases List.mem_append.1 hx with hx|hx
     · obtain⟨j,hj,e⟩:=h2 x hx;exact⟨j,by omega,e⟩
     · rw [List.mem_singleton]at hx;exact⟨m,Nat.lt_succ_self _,hx⟩
   · by_cases e:j=m
     · subst e;exact List.mem_append_right _ (List.mem_singleton.2 rfl)
     · exact List.mem_append_left _ (h3 j (by omega))
  |false=>
   rw [if_neg (by simp),List.append_nil];refine⟨h1,fun x hx=> ?_,fun j hj=> ?_⟩
   · obtain⟨j,hj,e⟩:=h2 x hx;exact⟨j,by omega,e⟩
   · by_cases e:j=m
     · subst e;unfold Lib.keeps at hk;rw [decide_eq_false_iff_not,not_or,Decidable.not_not]at hk;rw [hk.2];exact h3 (j -1) (by omega)
     · exact h3 j (by omega)
theorem acw (l:List Str):Lib.compact (l.mergeSort fun x y=>decide (x<=y))=Lp l:=by
 have tr: ∀a b c:Str,decide (a<=b)=true->decide (b<=c)=true->decide (a<=c)=true:=fun a b c h1 h2=>by simp only [decide_eq_true_eq]at*;exact List.le_trans h1 h2
 have tot: ∀a b:Str,(decide (a<=b)||decide (b<=a))=true:=fun a b=>by simp only [Bool.or_eq_true,decide_eq_true_eq];exact List.le_total a b
 have hs:=List.pairwise_mergeSort (le:=fun x y:Str=>decide (x<=y)) tr tot l;have hp:=List.mergeSort_perm l (fun x y:Str=>decide (x<=y));generalize(l.mergeSort fun x y=>decide (x<=y))=m at hs hp;have hd: ∀i j,i<j->j<m.toArray.size->m.toArray[i]! <=m.toArray[j]! :=fun i j hij hj=>by
  have hj':j<m.length:=by simpa using hj
  have:=List.pairwise_iff_getElem.1 hs i j (by omega) hj' hij;rw [decide_eq_true_eq]at this;simp [hj',show i<m.length by omega];exact this
 obtain⟨h1,h2,h3⟩:=GQ m.toArray hd m.length (by simp);refine acv h1 (acs l) fun y=> ?_;rw [acu,<-hp.mem_iff];constructor
 · intro h;obtain⟨j,hj,rfl⟩:=h2 y h;simp [hj]
 · intro h;obtain⟨j,hj,rfl⟩:=List.getElem_of_mem h;have:=h3 j hj;unfold Lib.compact;simpa [hj]using this
end Go.VL
end
section
set_option maxHeartbeats 4000000
namespace Go.VL
open Go.Proofs
def jg:Nat->(List Nd)->(List Str)->Int->Option (List Str)
 |0,_,_,_=>none
 |k+1,aG,eT,dO=>
  cond (decide (dO<(aG.length:Int))) (if 0<=dO then (aG[dO.toNat]?).bind fun x3=>(zR k x3).bind fun p6=>cond p6 ((xG k aG dO).bind fun p9=>(nu k p9 x3.text).bind fun ni=>cond ni (jg k aG eT (IntKind.wrap .i64 (dO+1))) ((UU k eT x3.text).bind fun iQ=>jg k aG iQ (IntKind.wrap .i64 (dO+1)))) (jg k aG eT (IntKind.wrap .i64 (dO+1)))else none) (some (eT))
def Oi:List Nat:=List.range' 3 32
theorem ZB: ∀(k:Nat) (aG:List Nd) (eT:List Str) (dO:Int) (fH:Ck) (aB σ:Nat->PV) (H:AH) (f0:Fr Oi aB σ) (sl:σ 0=(.ak (aG.map Nd.cells) .unk)/\σ 3=(.ak (eT.map aH) fH)/\σ 4=(.int .i64 dO)) (o:List Str) (h:jg k aG eT dO=some o) (Q:Post) (q0: ∀(p:List Str) (c0:Ck) (σ':Nat->PV),o=p->Fr Oi aB σ'->(σ' 3=(.ak (p.map aH) c0))->Q (.exit 0) σ' H),W Tryz.prog (.loop RI) Q σ H:=by
 intro k
 induction k with
 |zero=>intro aG eT dO fH aB σ H f0 sl o h Q q0;simp only [jg,reduceCtorEq]at h
 |succ k ih=>
  intro aG eT dO fH aB σ H f0 sl o h Q q0;obtain⟨s0,s3,s4⟩:=sl;unfold jg at h;refine aW (fun K hK=>aC ?_);unfold RI;obtain⟨e1,h⟩|⟨e1,h⟩:=aA h
  ·refine ah ?_;refine iJ ?_;obtain⟨e2,h⟩:=aU h;obtain⟨x3,e4,h⟩:=aj h;obtain⟨p6,e5,h⟩:=aj h;refine ah ?_;refine PC.mk (Yi e5) ?_;obtain⟨e7,h⟩|⟨e7,h⟩:=aA h
   ·obtain⟨p9,e8,h⟩:=aj h;refine ah ?_;refine PC.mk (aea e8) ?_;obtain⟨ni,e10,h⟩:=aj h;refine ah ?_;refine av (Am e10) ?_;obtain⟨e12,h⟩|⟨e12,h⟩:=aA h
    ·refine ah ?_;refine hK _ _ ?_;exact ih aG eT (IntKind.wrap .i64 (dO+1)) fH _ _ _ aI au _ h _ q0
    ·obtain⟨iQ,e13,h⟩:=aj h;refine ah ?_;refine av (ap1 e13) ?_;refine ah ?_;refine hK _ _ ?_;exact ih aG iQ (IntKind.wrap .i64 (dO+1)) .unk _ _ _ aI au _ h _ q0
   ·refine ah ?_;refine hK _ _ ?_;exact ih aG eT (IntKind.wrap .i64 (dO+1)) fH _ _ _ aI au _ h _ q0
  ·cases h;refine ah ?_;exact q0 _ fH _ rfl aI au
def xH (k:Nat) (aG:List Nd):Option (List Str):=
 Option.bind (jg k aG ([]:List Str) 0) (fun Gi=>some Gi)
theorem ag2 {k:Nat} {aG:List Nd} {c0:Ck} {r:List Str} (h:xH k aG=some r):aD Tryz.prog 198 [(.ak (aG.map Nd.cells) c0)] (.ak (r.map aH) .unk):=by
 refine aD.lw (.ak .nil) (aD.aO (aX.mem (.cons (aT Nd.pu _) .nil)) (aF av4 (by simp) (aC ?_)) (aT bE _));unfold xH at h;unfold amW;refine ah ?_;obtain⟨o15,h16,h⟩:=aj h;refine ZB k aG ([]:List Str) 0 .nil _ _ _ (Fr.refl _ _) au _ h16 _ ?_
 ·rintro Gi c21 σ' eo vF s22;rw [eo]at h;cases h;refine ah ?_;exact(dS bE _ _)
end Go.VL
end
section
namespace Go.VL
def nB (s:Str):List Str->Nat
 |[]=>0
 |x::l=>if strLt x s=true then nB s l+1 else 0
theorem ag3 (s:Str): ∀l,nB s l<=l.length
 |[]=>Nat.le_refl _
 |x::l=>by
  rw [nB];split
  · have:=ag3 s l;simp only [List.length_cons];omega
  · omega
theorem XA (s:Str): ∀l,uG s l=if l[nB s l]? =some s then l else l.take (nB s l)++s::l.drop (nB s l)
 |[]=>by simp [uG,nB]
 |x::l=>by
  rw [uG,nB];by_cases h:strLt x s=true
  · rw [if_pos h,if_pos h,XA s l];simp only [List.getElem?_cons_succ,List.take_succ_cons,List.drop_succ_cons];split<;>rfl
  · rw [if_neg h,if_neg h];by_cases h2:x=s
    · subst h2;simp
    · simp [h2]
theorem aeb (l:List Str) (s:Str) (hl:l.length<=1000000):Ev (fun k=>uF k l s ((0:Nat):Int)) (((0+nB s (l.drop 0):Nat):Int)):=by
 refine jM (len:=l.length) (p:=fun i=>Ev (fun k=>uF k l s (i:Int)) (((i+nB s (l.drop i):Nat):Int))) ?_ fun i hi ih=> ?_
 · refine Ev.succ ?_;simp only [uF];exact Ev.cF (iT _) (Ev.some' (by simp [nB]))
 · refine Ev.succ ?_;simp only [uF,Int.toNat_natCast,bG hi,Option.bind_some,nn,if_true,iY hi,cond_true,dW hi (show l.length<=1099511627776 by omega)];rw [drop_cons hi,nB];by_cases h:strLt l[i] s=true
   · refine Ev.cT h (ih.to ?_);rw [if_pos h];omega
   · refine Ev.cF (by simpa using h) (Ev.some' ?_);rw [if_neg h];rfl
theorem alq (l:List Str) (s:Str) (hl:l.length<=1000000):Ev (fun k=>UU k l s) (uG s l):=by
 have h0:=aeb l s hl;rw [List.drop_zero,Nat.zero_add]at h0;have hle:=ag3 s l;unfold UU;refine Ev.bind h0 ?_;rw [XA];have e1:(([]:List Str).length+(l.take (nB s l)).length)*16<=1099511627776:=by simp;omega
 have e2:((([]:List Str)++(l.take (nB s l))).length+1)*16<=1099511627776:=by simp;omega
 have e3:(((([]:List Str)++(l.take (nB s l)))++[s]).length+(l.drop (nB s l)).length)*16<=1099511627776:=by simp;omega
 have e4:(0:Int)<=((nB s l:Nat):Int)/\nB s l<=l.length:=⟨by omega,hle⟩;have tail:Ev (fun _:Nat=>if(0:Int)<=((nB s l:Nat):Int)/\nB s l<=l.length then(if(([]:List Str).length+(l.take (nB s l)).length)*16<=1099511627776 then(if((([]:List Str)++(l.take (nB s l))).length+1)*16<=1099511627776 then(if(((([]:List Str)++(l.take (nB s l)))++[s]).length+(l.drop (nB s l)).length)*16<=1099511627776 then some (((([]:List Str)++(l.take (nB s l)))++[s])++(l.drop (nB s l)))else none)else none)else none)else none) (l.take (nB s l)++s::l.drop (nB s l)):=by
  rw [if_pos e4,if_pos e1,if_pos e2,if_pos e3];exact Ev.some' (by simp)
 by_cases h:nB s l<l.length
 · simp only [Int.toNat_natCast,bG h,Option.bind_some,nn,if_true];refine Ev.cT (iY h) ?_;by_cases h2:l[nB s l]=s
   · refine Ev.cT (by rw [beq_iff_eq];exact h2) (Ev.some' ?_);rw [if_pos (by rw [h2])]
   · refine Ev.cF (by rw [beq_eq_false_iff_ne];exact h2) ?_;refine Ev.to ?_ (if_neg (fun e=>h2 (Option.some.inj e))).symm;simpa only [nn,true_and]using tail
 · have h2:l[nB s l]? =none:=List.getElem?_eq_none (by omega);simp only [Int.toNat_natCast];refine Ev.cF (decide_eq_false (by omega)) ?_;exact Ev.to tail (if_neg (fun e=>by rw [h2]at e;cases e)).symm
theorem acy (s:Str) (l:List Str):(uG s l).length<=l.length+1:=by
 rw [XA];split
 · omega
 · have:=ag3 s l;simp;omega
inductive Lx:List PV->List PV->Prop where
 |nil:Lx [] []
 |same {p:PV} {l m:List PV} (h:Lx l m):Lx (p::l) (p::m)
 |ak {es:List (List PV)} {c:Ck} {l m:List PV} (h:Lx l m):Lx (.ak es c::l) (.ak es .unk::m)
 |agg {cs ds l m:List PV} (h0:Lx cs ds) (h:Lx l m):Lx (.agg cs::l) (.agg ds::m)
theorem Lx.get {l m:List PV} (h:Lx l m):l.length=m.length/\ ∀(j:Nat) (q:PV),m[j]? =some q-> ∃p,l[j]? =some p/\ ∀(G:Gh) (n:Nat) (v:Value),V G n p v->V G n q v:=by
 induction h with
 |nil=>exact⟨rfl,fun j q e=>by simp at e⟩
 |same _ ih=>
  refine⟨by simp [ih.1],fun j q e=> ?_⟩;cases j with
  |zero=>simp at e;subst e;exact⟨_,rfl,fun _ _ _ h=>h⟩
  |succ j=>simp at e;simpa using ih.2 j q e
 |ak _ ih=>
  refine⟨by simp [ih.1],fun j q e=> ?_⟩;cases j with
  |zero=>simp at e;subst e;exact⟨_,rfl,fun _ _ _ h=>h.wk⟩
  |succ j=>simp at e;simpa using ih.2 j q e
 | @agg cs ds _ _ _ _ ih0 ih=>
  refine⟨by simp [ih.1],fun j q e=> ?_⟩;cases j with
  |zero=>
   simp at e;subst e;refine⟨_,rfl,fun G n v h=> ?_⟩;generalize hp:PV.agg cs=p at h;cases h with
   |agg cs' vs h1 h2=>
    cases hp;refine .agg ds vs (h1.trans ih0.1) fun j c x hc hx=> ?_;obtain⟨p,e1,e2⟩:=ih0.2 j c hc;exact e2 _ _ _ (h2 j p x e1 hx)
   |_=>cases hp
  |succ j=>simp at e;simpa using ih.2 j q e
variable [Glob]
theorem bA.wx {P:Program} {H:AH} {f:FuncId} {args args':List PV} {k:PV->AH->Prop} (h:bA P f args H k) (hw:Lx args' args):bA P f args' H k:=by
 obtain⟨h1,h2⟩:=hw.get;refine⟨h.enters,fun B G w vs hU hM hv=>h.call B G w vs hU hM ⟨hv.1.trans h1,fun j c x hc hx=> ?_⟩⟩;obtain⟨p,e,hp⟩:=h2 j c hc;exact hp _ _ _ (hv.2 j p x e hx)
theorem aD.wx {P:Program} {f:FuncId} {args args':List PV} {r:PV} (h:aD P f args r) (hw:Lx args' args):aD P f args' r:=fun H=>(h H).wx hw
end Go.VL
end
section
set_option maxHeartbeats 4000000
namespace Go.VL
open Go.Proofs
def nW (k:Nat) (bg:Nd):Option Bool:=
 (nP k bg.text).bind fun p2=>cond (bg.kind==2) ((DY bg.text).bind fun p5=>cond p5 (cond (bg.kind==3) (some (!p2.2)) (some false)) (some true)) (cond (bg.kind==3) (some (!p2.2)) (some false))
theorem P9 {k:Nat} {bg:Nd} {r:Bool} (h:nW k bg=some r):aD Tryz.prog 191 [(.agg (Nd.cells bg))] (.bool r):=by
 refine aD.aO (aX.mem (.cons (.agg _ (Nd.pu _)) .nil)) (aF avY (by simp) (aC ?_)) (.bool _);unfold nW at h;unfold amQ;obtain⟨p2,e1,h⟩:=aj h;refine ah ?_;refine av (xY e1) ?_;obtain⟨e3,h⟩|⟨e3,h⟩:=aA h
 ·obtain⟨p5,e4,h⟩:=aj h;refine ah ?_;refine av (PW e4) ?_;obtain⟨e6,h⟩|⟨e6,h⟩:=aA h
  ·obtain⟨e7,h⟩|⟨e7,h⟩:=aA h
   ·cases h;refine ah ?_;exact(.pure _ (.bool _))
   ·cases h;refine ah ?_;exact(.pure _ (.bool _))
  ·cases h;refine ah ?_;exact(.pure _ (.bool _))
 ·obtain⟨e8,h⟩|⟨e8,h⟩:=aA h
  ·cases h;refine ah ?_;exact(.pure _ (.bool _))
  ·cases h;refine ah ?_;exact(.pure _ (.bool _))
def l8 (eX:Int):Option Bool:=
 cond (eX !=16) (some (eX !=17)) (some false)
theorem acz {eX:Int} {r:Bool} (h:l8 eX=some r):aD Tryz.prog 283 [(.int .i64 eX)] (.bool r):=by
 refine aD.aO (aX.mem (.cons (.int _ _) .nil)) (aF awU (by simp) (aC ?_)) (.bool _);unfold l8 at h;unfold anL;obtain⟨e1,h⟩|⟨e1,h⟩:=aA h
 ·cases h;refine ah ?_;exact(.pure _ (.bool _))
 ·cases h;refine ah ?_;exact(.pure _ (.bool _))
def tO:Nat->Int->Int->Int->Str->(List Str)->(List Int)->(List Int)->Int->Option (List Int)
 |0,_,_,_,_,_,_,_,_=>none
 |k+1,kE,GR,GU,GV,GX,Cc,vC,Jy=>
  cond (decide (Jy<(Cc.length:Int))) (if 0<=Jy then (Cc[Jy.toNat]?).bind fun x15=>if(vC.length+1)*8<=1099511627776 then tO k kE GR GU GV GX Cc (vC++[(IntKind.wrap .i64 (x15+kE))]) (IntKind.wrap .i64 (Jy+1))else none else none) (some (vC))
def UY:List Nat:=[11,12]++List.range' 47 17
theorem aec: ∀(k:Nat) (D6:Nat) (kE:Int) (GR:Int) (GU:Int) (GV:Str) (GX:List Str) (Cc:List Int) (vC:List Int) (Jy:Int) (nX:Ck) (lq:Ck) (yu:Ck) (aB σ:Nat->PV) (H0 H:AH) (f0:Fr UY aB σ) (hf0:HF [] H0 H) (sl:σ 8=(.int .i64 kE)/\σ 10=(.ref (D6) 0)/\σ 11=(.ak (vC.map aS) nX)/\σ 12=(.int .i64 Jy)/\H.obj D6=some [(.int .i64 GR),(.int .i64 GU),(.str GV),(.ak (GX.map aH) .unk),(.ak (Cc.map aS) .unk)]) (Ls:D6<H.next) (UZ:bq H nX) (Ce:bq H lq) (aos:bq H yu) (qM:kr nX lq) (qN:kr nX yu) (rF:kr lq yu) (o:List Int) (h:tO k kE GR GU GV GX Cc vC Jy=some o) (Q:Post) (q0: ∀(p:List Int) (c0:Ck) (σ':Nat->PV) (H':AH),o=p->Fr UY aB σ'->HF [] H0 H'->(σ' 11=(.ak (p.map aS) c0))->bq H' lq->bq H' yu->kr lq yu->Q (.exit 4) σ' H'),W Tryz.prog (.loop QB) Q σ H:=by
 intro k
 induction k with
 |zero=>intro D6 kE GR GU GV GX Cc vC Jy nX lq yu aB σ H0 H f0 hf0 sl Ls UZ Ce aos qM qN rF o h Q q0;simp only [tO,reduceCtorEq]at h
 |succ k ih=>
  intro D6 kE GR GU GV GX Cc vC Jy nX lq yu aB σ H0 H f0 hf0 sl Ls UZ Ce aos qM qN rF o h Q q0;obtain⟨s8,s10,s11,s12,aAH⟩:=sl;have aAI:=ne_next Ls;have aAJ:=aZ Ls;have hle0:=hf0.1;unfold tO at h;refine aW (fun K hK=>aC ?_);unfold QB;obtain⟨e13,h⟩|⟨e13,h⟩:=aA h
  ·obtain⟨e14,h⟩:=aU h;obtain⟨x15,e16,h⟩:=aj h;obtain⟨e21,h⟩:=aU h;refine ah ?_;refine gq (f:=aS) uZ vC ([(IntKind.wrap .i64 (x15+kE))]:List Int) nX .exact au au eZ (by first|exact e21|(simp only [List.length_cons,List.length_nil];exact e21)) (fun c17 H18 af9 le aAK alp=> ?_);have aAL:HF [] _ H18:=⟨le,fun i _ _=>aAK i⟩;try simp only [AH.aK,AH.aL,AH.aM,AH.aN]at le
   obtain⟨arw,aAM⟩:=alp lq eZ qM;obtain⟨akD,aAN⟩:=alp yu eZ qN;have n28:=ne_next (show D6<H18.next from bP);have m29:=aZ (show D6<H18.next from bP);refine ah ?_;refine hK _ _ ?_;exact ih D6 kE GR GU GV GX Cc (vC++[(IntKind.wrap .i64 (x15+kE))]) (IntKind.wrap .i64 (Jy+1)) c17 lq yu _ _ _ _ aI (by repeat (first|exact hf0|refine HF.new ?_|refine HF.qJ ?_|refine HF.used ?_|refine HF.put (by first|(right;omega)|(left;simp only [List.mem_cons,true_or,or_true])) ?_|refine HF.via aAL (by first|exact fun i hi=>absurd hi List.not_mem_nil|(intro i hi;simp only [List.mem_cons,List.not_mem_nil,or_false]at hi⊢;first|exact .inl hi|omega)) ?_)) au bP eZ eZ eZ aAM aAN rF _ h _ q0
  ·cases h;refine ah ?_;exact q0 _ nX _ _ rfl aI nZ au eZ eZ rF
def tQ:Nat->(List (List Nd))->(List Nd)->Int->Int->Int->Option (List Nd)
 |0,_,_,_,_,_=>none
 |k+1,bU,iG,gY,kE,yG=>
  if 0<=gY then (bU[gY.toNat]?).bind fun x5=>cond (decide (yG<(x5.length:Int))) (if 0<=yG then (x5[yG.toNat]?).bind fun x9=>(kJ x9.names).bind fun ng=>Option.bind (tO k kE x9.kind x9.n x9.text ng x9.args ([]:List Int) 0) (fun p32=>if(iG.length+1)*80<=1099511627776 then tQ k bU (iG++[(Nd.mk x9.kind x9.n x9.text ng p32)]) gY kE (IntKind.wrap .i64 (yG+1))else none)else none) (some (iG))else none
def U0:List Nat:=[5,9,10,11,12]++List.range' 27 43
theorem aed: ∀(k:Nat) (bU:List (List Nd)) (iG:List Nd) (gY:Int) (kE:Int) (yG:Int) (pR:Ck) (lu:Ck) (aB σ:Nat->PV) (H0 H:AH) (f0:Fr U0 aB σ) (hf0:HF [] H0 H) (sl:σ 1=(.ak (bU.map (eu Nd.cells)) .unk)/\σ 5=(.ak (iG.map Nd.cells) pR)/\σ 7=(.int .i64 gY)/\σ 8=(.int .i64 kE)/\σ 9=(.int .i64 yG)) (GY:bq H pR) (Ce:bq H lu) (oo:kr pR lu) (o:List Nd) (h:tQ k bU iG gY kE yG=some o) (Q:Post) (q0: ∀(p:List Nd) (c0:Ck) (σ':Nat->PV) (H':AH),o=p->Fr U0 aB σ'->HF [] H0 H'->(σ' 5=(.ak (p.map Nd.cells) c0))->bq H' c0->bq H' lu->kr c0 lu->Q (.exit 2) σ' H'),W Tryz.prog (.loop QC) Q σ H:=by
 intro k
 induction k with
 |zero=>intro bU iG gY kE yG pR lu aB σ H0 H f0 hf0 sl GY Ce oo o h Q q0;simp only [tQ,reduceCtorEq]at h
 |succ k ih=>
  intro bU iG gY kE yG pR lu aB σ H0 H f0 hf0 sl GY Ce oo o h Q q0;obtain⟨s1,s5,s7,s8,s9⟩:=sl;have hle0:=hf0.1;unfold tQ at h;refine aW (fun K hK=>aC ?_);unfold QC;obtain⟨e4,h⟩:=aU h;obtain⟨x5,e6,h⟩:=aj h;obtain⟨e7,h⟩|⟨e7,h⟩:=aA h
  ·obtain⟨e8,h⟩:=aU h;obtain⟨x9,e10,h⟩:=aj h;obtain⟨ng,e11,h⟩:=aj h;refine ah ?_;refine av (A9 e11) ?_;refine ah ?_;obtain⟨o30,h31,h⟩:=aj h;refine aec k (H.next) kE x9.kind x9.n x9.text ng x9.args ([]:List Int) 0 .nil pR lu _ _ _ _ (Fr.refl _ _) (HF.refl _ _) au bP eZ eZ eZ kr.nil kr.nil oo _ h31 _ ?_
   ·rintro p32 c36 σ' H35 eo vH alr s37 ath aF4 aAO;rw [eo]at h;have s41:σ' 1=(.ak (bU.map (eu Nd.cells)) .unk):=(vH 1 (by decide)).trans au;have s42:σ' 5=(.ak (iG.map Nd.cells) pR):=(vH 5 (by decide)).trans au;have s43:σ' 7=(.int .i64 gY):=(vH 7 (by decide)).trans au;have s44:σ' 8=(.int .i64 kE):=(vH 8 (by decide)).trans au;have s45:σ' 9=(.int .i64 yG):=(vH 9 (by decide)).trans au;have s46:σ' 10=(.ref (H.next) 0):=(vH 10 (by decide)).trans au;have le:=alr.1;try simp only [AH.aK,AH.aL,AH.aM,AH.aN]at le
    have g47:H35.obj (H.next)=some [(.int .i64 x9.kind),(.int .i64 x9.n),(.str x9.text),(.ak (ng.map aH) .unk),(.ak (x9.args.map aS) .unk)]:=(alr.2 _ bP (by first|exact List.not_mem_nil|(simp only [List.mem_cons,List.not_mem_nil,or_false,not_or];omega))).trans au;have n48:=ne_next (show H.next<H35.next from bP);have m49:=aZ (show H.next<H35.next from bP);obtain⟨e54,h⟩:=aU h;refine ah ?_;refine gq (f:=Nd.cells) Nd.row iG ([(Nd.mk x9.kind x9.n x9.text ng p32)]:List Nd) pR .exact au au eZ (by first|exact e54|(simp only [List.length_cons,List.length_nil];exact e54)) (fun c50 H51 arF le alo aAP=> ?_);have ag0:HF [] _ H51:=⟨le,fun i _ _=>alo i⟩;try simp only [AH.aK,AH.aL,AH.aM,AH.aN]at le
    obtain⟨atl,aAQ⟩:=aAP lu eZ aAO;have n59:=ne_next (show H.next<H51.next from bP);have m60:=aZ (show H.next<H51.next from bP);refine ah ?_;refine hK _ _ ?_;exact ih bU (iG++[(Nd.mk x9.kind x9.n x9.text ng p32)]) gY kE (IntKind.wrap .i64 (yG+1)) c50 lu _ _ _ _ (by repeat (first|exact f0|refine Fr.upd (by decide) ?_|refine Fr.via vH (by decide) ?_)) (by repeat (first|exact hf0|refine HF.new ?_|refine HF.qJ ?_|refine HF.used ?_|refine HF.put (by first|(right;omega)|(left;simp only [List.mem_cons,true_or,or_true])) ?_|refine HF.via alr (by first|exact fun i hi=>absurd hi List.not_mem_nil|(intro i hi;simp only [List.mem_cons,List.not_mem_nil,or_false]at hi⊢;first|exact .inl hi|omega)) ?_|refine HF.via ag0 (by first|exact fun i hi=>absurd hi List.not_mem_nil|(intro i hi;simp only [List.mem_cons,List.not_mem_nil,or_false]at hi⊢;first|exact .inl hi|omega)) ?_)) au eZ eZ aAQ _ h _ q0
  ·cases h;refine ah ?_;exact q0 _ pR _ _ rfl aI nZ au eZ eZ oo
def tT:Nat->(List (List Nd))->(List Nd)->Int->Int->Str->(List Str)->(List Int)->Int->Option (((List Nd)×Int×Int×Str×(List Str)×(List Int)))
 |0,_,_,_,_,_,_,_,_=>none
 |k+1,bU,iG,EY,EZ,E5,E8,Cg,gY=>
  cond (decide (gY<(bU.length:Int))) (Option.bind (tQ k bU iG gY (iG.length:Int) 0) (fun p63=>if(Cg.length+1)*8<=1099511627776 then tT k bU p63 EY EZ E5 E8 (Cg++[(IntKind.wrap .i64 ((p63.length:Int) -1))]) (IntKind.wrap .i64 (gY+1))else none)) (some ((iG,EY,EZ,E5,E8,Cg)))
def U1:List Nat:=[5,7,8,9,10,11,12]++List.range' 19 59
theorem aee: ∀(k:Nat) (uH:Nat) (bU:List (List Nd)) (iG:List Nd) (EY:Int) (EZ:Int) (E5:Str) (E8:List Str) (Cg:List Int) (gY:Int) (uI:Ck) (pU:Ck) (aB σ:Nat->PV) (H0 H:AH) (f0:Fr U1 aB σ) (hf0:HF [uH] H0 H) (sl:σ 1=(.ak (bU.map (eu Nd.cells)) .unk)/\σ 5=(.ak (iG.map Nd.cells) uI)/\σ 6=(.ref (uH) 0)/\σ 7=(.int .i64 gY)/\H.obj uH=some [(.int .i64 EY),(.int .i64 EZ),(.str E5),(.ak (E8.map aH) .unk),(.ak (Cg.map aS) pU)]) (O5:uH<H.next) (GY:bq H uI) (acA:bq H pU) (qG:kr uI pU) (o:((List Nd)×Int×Int×Str×(List Str)×(List Int))) (h:tT k bU iG EY EZ E5 E8 Cg gY=some o) (Q:Post) (q0: ∀(p:(List Nd)×Int×Int×Str×(List Str)×(List Int)) (c0:Ck) (c5:Ck) (σ':Nat->PV) (H':AH),o=p->Fr U1 aB σ'->HF [uH] H0 H'->(σ' 5=(.ak (p.1.map Nd.cells) c0)/\H'.obj uH=some [(.int .i64 p.2.1),(.int .i64 p.2.2.1),(.str p.2.2.2.1),(.ak (p.2.2.2.2.1.map aH) .unk),(.ak (p.2.2.2.2.2.map aS) c5)])->bq H' c0->Q (.exit 0) σ' H'),W Tryz.prog (.loop QD) Q σ H:=by
 intro k
 induction k with
 |zero=>intro uH bU iG EY EZ E5 E8 Cg gY uI pU aB σ H0 H f0 hf0 sl O5 GY acA qG o h Q q0;simp only [tT,reduceCtorEq]at h
 |succ k ih=>
  intro uH bU iG EY EZ E5 E8 Cg gY uI pU aB σ H0 H f0 hf0 sl O5 GY acA qG o h Q q0;obtain⟨s1,s5,s6,s7,aBD⟩:=sl;have aBE:=ne_next O5;have aBF:=aZ O5;have hle0:=hf0.1;unfold tT at h;refine aW (fun K hK=>aC ?_);unfold QD;obtain⟨e3,h⟩|⟨e3,h⟩:=aA h
  ·refine ah ?_;obtain⟨o61,h62,h⟩:=aj h;refine aed k bU iG gY (iG.length:Int) 0 uI pU _ _ _ _ (Fr.refl _ _) (HF.refl _ _) au eZ eZ qG _ h62 _ ?_
   ·rintro p63 c67 σ' H66 eo Jo ag1 s69 aAb az4 aAR;rw [eo]at h;have s72:σ' 1=(.ak (bU.map (eu Nd.cells)) .unk):=(Jo 1 (by decide)).trans au;have s73:σ' 6=(.ref (uH) 0):=(Jo 6 (by decide)).trans au;have s74:σ' 7=(.int .i64 gY):=(Jo 7 (by decide)).trans au;have le:=ag1.1;try simp only [AH.aK,AH.aL,AH.aM,AH.aN]at le
    have g75:H66.obj (uH)=some [(.int .i64 EY),(.int .i64 EZ),(.str E5),(.ak (E8.map aH) .unk),(.ak (Cg.map aS) pU)]:=(ag1.2 _ bP (by first|exact List.not_mem_nil|(simp only [List.mem_cons,List.not_mem_nil,or_false,not_or];omega))).trans au;have n76:=ne_next (show uH<H66.next from bP);have m77:=aZ (show uH<H66.next from bP);obtain⟨e82,h⟩:=aU h;refine ah ?_;refine gq (f:=aS) uZ Cg ([(IntKind.wrap .i64 ((p63.length:Int) -1))]:List Int) pU .exact au au eZ (by first|exact e82|(simp only [List.length_cons,List.length_nil];exact e82)) (fun c78 H79 az9 le aAS aAT=> ?_);have aAU:HF [] _ H79:=⟨le,fun i _ _=>aAS i⟩;try simp only [AH.aK,AH.aL,AH.aM,AH.aN]at le
    obtain⟨aF5,aAV⟩:=aAT c67 eZ (kr.symm aAR);have n87:=ne_next (show uH<H79.next from bP);have m88:=aZ (show uH<H79.next from bP);refine ah ?_;refine hK _ _ ?_;exact ih uH bU p63 EY EZ E5 E8 (Cg++[(IntKind.wrap .i64 ((p63.length:Int) -1))]) (IntKind.wrap .i64 (gY+1)) c67 c78 _ _ _ _ (by repeat (first|exact f0|refine Fr.upd (by decide) ?_|refine Fr.via Jo (by decide) ?_)) (by repeat (first|exact hf0|refine HF.new ?_|refine HF.qJ ?_|refine HF.used ?_|refine HF.put (by first|(right;omega)|(left;simp only [List.mem_cons,true_or,or_true])) ?_|refine HF.via ag1 (by first|exact fun i hi=>absurd hi List.not_mem_nil|(intro i hi;simp only [List.mem_cons,List.not_mem_nil,or_false]at hi⊢;first|exact .inl hi|omega)) ?_|refine HF.via aAU (by first|exact fun i hi=>absurd hi List.not_mem_nil|(intro i hi;simp only [List.mem_cons,List.not_mem_nil,or_false]at hi⊢;first|exact .inl hi|omega)) ?_)) au bP eZ eZ (kr.symm aAV) _ h _ q0
  ·cases h;refine ah ?_;exact q0 _ uI pU _ _ rfl aI nZ au eZ
def KA (k:Nat) (y7:Nd) (bU:List (List Nd)):Option (List Nd):=
 (kJ y7.names).bind fun p2=>Option.bind (tT k bU ([]:List Nd) y7.kind y7.n y7.text p2 ([]:List Int) 0) (fun mR=>if(mR.1.length+1)*80<=1099511627776 then some (mR.1++[(Nd.mk mR.2.1 mR.2.2.1 mR.2.2.2.1 mR.2.2.2.2.1 mR.2.2.2.2.2)])else none)
theorem als {k:Nat} {y7:Nd} {bU:List (List Nd)} {c1:Ck} {r:List Nd} (h:KA k y7 bU=some r):aD Tryz.prog 118 [(.agg (Nd.cells y7)),(.ak (bU.map (eu Nd.cells)) c1)] (.ak (r.map Nd.cells) .unk):=by
 refine aD.lw (.same (.ak .nil)) (aD.aO (aX.mem (.cons (.agg _ (Nd.pu _)) (.cons (aT (jA Nd.pu) _) .nil))) (aF avv (by simp) (aC ?_)) (aT Nd.pu _));unfold KA at h;unfold ami;obtain⟨p2,e1,h⟩:=aj h;refine ah ?_;refine av (A9 e1) ?_;refine ah ?_;obtain⟨o89,h90,h⟩:=aj h;refine aee k (AH.empty.next+1) bU ([]:List Nd) y7.kind y7.n y7.text p2 ([]:List Int) 0 .nil .nil _ _ _ _ (Fr.refl _ _) (HF.refl _ _) au bP eZ eZ kr.nil _ h90 _ ?_
 ·rintro mR c95 c98 σ' H94 eo ak1 ak2 ⟨s97,g99⟩ arW;rw [eo]at h;have ags:σ' 6=(.ref (AH.empty.next+1) 0):=(ak1 6 (by decide)).trans au;have le:=ak2.1;try simp only [AH.aK,AH.aL,AH.aM,AH.aN]at le
  have n102:=ne_next (show AH.empty.next+1<H94.next from bP);have aF6:=aZ (show AH.empty.next+1<H94.next from bP);obtain⟨e108,h⟩:=aU h;refine ah ?_;refine gq (f:=Nd.cells) Nd.row mR.1 ([(Nd.mk mR.2.1 mR.2.2.1 mR.2.2.2.1 mR.2.2.2.2.1 mR.2.2.2.2.2)]:List Nd) c95 .exact au au eZ (by first|exact e108|(simp only [List.length_cons,List.length_nil];exact e108)) (fun aF7 acB aEL le axj aEM=> ?_);have aEN:HF [] _ acB:=⟨le,fun i _ _=>axj i⟩;try simp only [AH.aK,AH.aL,AH.aM,AH.aN]at le
  have n111:=ne_next (show AH.empty.next<acB.next from bP);have aF8:=aZ (show AH.empty.next<acB.next from bP);have n113:=ne_next (show AH.empty.next+1<acB.next from bP);have aF9:=aZ (show AH.empty.next+1<acB.next from bP);cases h;refine ah ?_;exact(dS Nd.pu _ _)
end Go.VL
end
section
namespace Go.VL
open Go.Proofs
def Df (k:Nat) (e:List Nd) (out:List Str) (at_:Int) (bound:List Str):Option (List Str):=
 if 0<=at_ then (e[at_.toNat]?).bind fun n=>(nW k n).bind fun b=>cond b ((bV k bound n.text).bind fun c=>cond c (some out) (if(out.length+1)*16<=1099511627776 then some (out++[n.text])else none)) (some out)else none
def aot (e:List Nd) (o0 o1:Nat) (out:List Str) (H:AH):Prop:=o0<H.next/\o1<H.next/\o0≠o1/\H.obj o0=some [fT e]/\ ∃v ids,H.obj o1=some [v]/\aJ H aH 1 out v ids/\o0∉ids/\o1∉ids
theorem ag4 (k:Nat) (e:List Nd) (o0 o1:Nat):Visit 242 [.ref o0 0,.ref o1 0] (aot e o0 o1) (Df k e) where
 stable:=by
  rintro a H H' ⟨h1,h2,h3,h4,v,ids,h5,h6,h7,h8⟩ hn ho hc;exact⟨by omega,by omega,h3,(ho _).trans h4,v,ids,(ho _).trans h5,h6.hf (M:=[]) ⟨hn,fun i _ _=>ho i⟩ (fun _ _ h=>by cases h),h7,h8⟩
 call:=by
  rintro a at_ bound a' H ⟨h1,h2,h3,h4,v,ids,h5,h6,h7,h8⟩ h
  unfold Df at h;by_cases e1:0<=at_
  case neg=>rw [if_neg e1]at h;cases h
  rw [if_pos e1]at h;cases e2:e[at_.toNat]? with
  |none=>rw [Aj e2]at h;cases h
  |some n=>
  rw [Ak e2]at h;cases e3:nW k n with
  |none=>rw [Aj e3]at h;cases h
  |some b=>
  rw [Ak e3]at h;refine aF awq (by simp) (aC ?_);unfold anh;simp -implicitDefEqProofs only [go_sem,h4,e1,e2,List.getElem?_map,Option.map_some];refine av (P9 e3) ?_;cases b with
  |false=>
   rw [oQ rfl]at h;cases h;simp -implicitDefEqProofs only [go_sem,h4,e1,e2,List.getElem?_map,Option.map_some];exact⟨h1,h2,h3,h4,v,ids,h5,h6,h7,h8⟩
  |true=>
   rw [wo rfl]at h;cases e4:bV k bound n.text with
   |none=>rw [Aj e4]at h;cases h
   |some c=>
   rw [Ak e4]at h;simp -implicitDefEqProofs only [go_sem,h4,e1,e2,List.getElem?_map,Option.map_some];refine av (gT e4) ?_;cases c with
   |true=>
    rw [wo rfl]at h;cases h;simp -implicitDefEqProofs only [go_sem,h4,e1,e2,List.getElem?_map,Option.map_some];exact⟨h1,h2,h3,h4,v,ids,h5,h6,h7,h8⟩
   |false=>
    rw [oQ rfl]at h;by_cases e5:(a.length+1)*16<=1099511627776
    case neg=>rw [if_neg e5]at h;cases h
    rw [if_pos e5]at h;cases h;simp -implicitDefEqProofs only [go_sem,h4,e1,e2,List.getElem?_map,Option.map_some];refine iJ ?_;simp -implicitDefEqProofs only [go_sem,h4,h5,e1,e2,List.getElem?_map,Option.map_some];refine Ik (f:=aH) jZ a [n.text] .exact aP h6 aP (by simp) (by simpa using e5) (fun v' gZ H' g1 g2 g3 g4=> ?_);have k0:H'.obj o0=some [fT e]:=(g3.2 o0 h1 h7).trans h4;have k1:H'.obj o1=some [v]:=(g3.2 o1 h2 h8).trans h5;have n0: ¬o0∈gZ:=fun hm=>by
     rcases g2 o0 hm with q|q
     · exact h7 q
     · omega
    have n1: ¬o1∈gZ:=fun hm=>by
     rcases g2 o1 hm with q|q
     · exact h8 q
     · omega
    have g1':=g1;rcases g1 with⟨_,q,_⟩|⟨id,cap,junk,rfl,rfl,q1,q2,q3,q4⟩
    · simp at q
    · have hid:id≠o1:=fun e=>n1 (by rw [e];exact List.mem_singleton.2 rfl);simp -implicitDefEqProofs only [go_sem,dL,k1,Nat.le_refl];refine⟨Nat.lt_of_lt_of_le h1 g3.1,Nat.lt_of_lt_of_le h2 g3.1,h3,?_,_,[id],?_,g1'.put n1,n0,n1⟩
      · show(if o0=o1 then _ else H'.obj o0)=_
        rw [if_neg h3];exact k0
      · show(if o1=o1 then _ else H'.obj o1)=_
        rw [if_pos rfl]
end Go.VL
end
section
namespace Go.VL
open Go.Proofs Go.RowKit
section
variable {B:Nat->Prop} {G:Gh} {H:AH} {w w':World}
theorem HM.putRow (hM:HM B H G w) {id b:Nat} {cs cs':List PV} {arr:Array Value} {t:TypeId} (d:Array (List UInt8)) (n:Nat) (os:Array Obj) (ho:H.obj id=some cs) (hm:G.m id=some b) (hb:w.heap[b]? =some (.cells arr t (0,0)))
 (hV:Vs G H.next cs' (Sort.putCells encStr 0 d arr)):HM B (H.put id cs') G (Sort.grow (Sort.putRow encStr (Sort.ahead w n) b 0 d) os)/\Tr B w (Sort.grow (Sort.putRow encStr (Sort.ahead w n) b 0 d) os):=by
 obtain⟨h1,h2⟩:=hM.putObj ho hm hb hV;have hh:(Sort.putRow encStr (Sort.ahead w n) b 0 d).heap=(w.setRow b (Sort.putCells encStr 0 d arr)).heap:=by
  apply Array.ext_getElem?
  intro k;by_cases hk:k=b
  · subst hk;rw [setRow_heap w k arr _ t (0,0) hb];show(w.heap.modify k _)[k]? =_;rw [Array.getElem?_modify,if_pos rfl,hb];rfl
  · rw [setRow_other w b k _ hk];show(w.heap.modify b _)[k]? =_;rw [Array.getElem?_modify,if_neg (Ne.symm hk)]
 have hB:Below (w.setRow b (Sort.putCells encStr 0 d arr)).heap.size (w.setRow b (Sort.putCells encStr 0 d arr)) (Sort.grow (Sort.putRow encStr (Sort.ahead w n) b 0 d) os):=by
  refine⟨rfl,rfl,rfl,?_,fun k hk=> ?_⟩
  · rw [Sort.size_grow,hh];exact Nat.le_add_right _ _
  · rw [<-hh]at hk⊢;rw [Sort.heap_grow_old _ _ hk]
 exact⟨h1.below hB,(Tr.setRow h2 _).trans (Tr.below hB)⟩
theorem axk {n:Nat} {s:List UInt8} {v:Value} (h:V G n (.str s) v):v= .string ⟨s.toArray⟩:=by cases h;rfl
theorem aou {n id off len cap sz:Nat} {v:Value} (h:V G n (.bR id off len cap sz) v): ∃b,id<n/\G.m id=some b/\v= .slice (some ⟨b,off,none⟩) len cap:=by
 cases h with
 |bR _ _ _ _ _ b h1 h2=>exact⟨b,h1,h2,rfl⟩
theorem D7 (l:List Str):(l.map aH).flatten=l.map PV.str:=by
 induction l with
 |nil=>rfl
 |cons s l ih=>rw [List.map_cons,List.flatten_cons,ih];rfl
theorem YB {l:List Str} {junk:List PV} {arr:Array Value} {b:Nat} {t:TypeId} (hb:w.heap[b]? =some (.cells arr t (0,0))) (hV:Vs G H.next ((l.map aH).flatten++junk) arr):Sort.Holds encStr w b 0 l.toArray:=by
 intro j hj;have hj':j<l.length:=by simpa using hj
 have hlt:j<arr.size:=by rw [hV.1,List.length_append,D7,List.length_map];omega
 have hv:=axk (hV.2 j (.str l[j]) arr[j] (by rw [D7,List.getElem?_append_left (by simpa using hj')];simp [hj']) (by simp [hlt]));refine⟨?_,?_⟩
 · have:arr[j]? =some arr[j]:=by simp [hlt]
   simp only [World.cell?,hb,Nat.zero_add,this,hv];simp [encStr,hj']
 · simp [World.frozen?,hb]
theorem ajc {n:Nat} {l m:List Str} {junk:List PV} {arr:Array Value} (hl:m.length=l.length) (hV:Vs G n ((l.map aH).flatten++junk) arr):Vs G n ((m.map aH).flatten++junk) (Sort.putCells encStr 0 m.toArray arr):=by
 rw [D7]at hV⊢;have hs:=hV.1;rw [List.length_append,List.length_map]at hs;refine⟨by simp [Sort.putCells,hs,hl],fun j c x hc hx=> ?_⟩;simp only [Sort.putCells,Array.getElem?_mapIdx,Option.map_eq_some_iff]at hx;obtain⟨y,hy,rfl⟩:=hx;by_cases hj:j<m.length
 · rw [List.getElem?_append_left (by simpa using hj)]at hc;simp [hj]at hc;subst hc;have h2:0<=j/\j<0+m.toArray.size:=by simpa using hj
   rw [if_pos h2];simp [encStr,hj];exact .str _
 · have h2: ¬(0<=j/\j<0+m.toArray.size):=by simp;omega
   rw [if_neg h2];rw [List.getElem?_append_right (by simp;omega),List.length_map,hl]at hc;refine hV.2 j c y ?_ hy;rw [List.getElem?_append_right (by simp;omega),List.length_map];exact hc
end
def IY (l:List Str):List Str:=l.mergeSort fun x y=>decide (x<=y)
theorem atZ {H:AH} {l:List Str} {v:PV} {ids:List Nat} (h:aJ H aH 1 l v ids) (hl:l.length<4611686018427387904):bA Tryz.prog 243 [v] H fun _ H'=>aJ H' aH 1 (IY l) v ids/\HF ids H H'/\ ∀c,bq H c->bq H' c:=by
 refine⟨⟨_,Tryz.func243,rfl,by kernel_rfl⟩,fun B G w vs hU hM hv=> ?_⟩;obtain⟨u,rfl,hu⟩: ∃u,vs=#[u]/\V G H.next v u:=by
  obtain⟨h1,h2⟩:=hv
  match vs,h1,h2 with
  |⟨[u]⟩,_,h2=>exact⟨u,rfl,h2 0 v u rfl rfl⟩
 rcases h with⟨rfl,rfl,rfl⟩|⟨id,cap,junk,rfl,rfl,h2,h3,h4,h5⟩
 · rw [ZW hu];refine(Tryz.slices_Sort_string_none none 0 w).mono ?_;rintro e w' ⟨rfl,rfl⟩;exact⟨.cK [],_,H,G,rfl,Tr.refl _ _,Ext.refl _ _ _,Nat.le_refl _,hM,.cK [] #[] rfl (fun j c x e=>by simp at e),.inl ⟨rfl,by simp [IY],rfl⟩,HF.refl _ _,fun _ h=>h⟩
 · obtain⟨b,_,hm,rfl⟩:=aou hu;obtain⟨_,b',arr,t,k1,k2,k3,k4,k5⟩:=hM.obj id _ h4;obtain rfl:b'=b:=by rw [hm]at k1;exact(Option.some.inj k1).symm
   have hlt:=hM.lt k3;refine(Tryz.slices_Sort_string b' 0 cap l w (YB k3 k4) hlt hl).mono ?_;rintro e w' ⟨rfl,n,os,rfl⟩;have hlen:(IY l).length=l.length:=List.length_mergeSort _;obtain⟨e1,e2⟩:=hM.putRow (cs':=((IY l).map aH).flatten++junk) (IY l).toArray n os h4 hm k3 (ajc hlen k4);refine⟨.cK [],_,H.put id (((IY l).map aH).flatten++junk),G,rfl,e2,Ext.refl _ _ _,Nat.le_refl _,e1,.cK [] #[] rfl (fun j c x e=>by simp at e),.inr ⟨id,cap,junk,rfl,by rw [hlen],by rw [hlen];exact h2,h3,?_,by rw [hlen];exact h5⟩,HF.put (.inl (List.mem_singleton.2 rfl)) (HF.refl _ _),fun c hc=>hc.put⟩;show(if id=id then some _ else _)=_;rw [if_pos rfl]
theorem ag5 (l:List Str):(Lib.compact l).length<=l.length:=Lib.compact_length_le l
theorem ag6 {H:AH} {l:List Str} {v:PV} {ids:List Nat} (h:aJ H aH 1 l v ids) (hl:l.length<4611686018427387904):bA Tryz.prog 244 [v] H fun r H'=>aJ H' aH 1 (Lib.compact l) r ids/\HF ids H H'/\ ∀c,bq H c->bq H' c:=by
 refine⟨⟨_,Tryz.func244,rfl,by kernel_rfl⟩,fun B G w vs hU hM hv=> ?_⟩;obtain⟨u,rfl,hu⟩: ∃u,vs=#[u]/\V G H.next v u:=by
  obtain⟨h1,h2⟩:=hv
  match vs,h1,h2 with
  |⟨[u]⟩,_,h2=>exact⟨u,rfl,h2 0 v u rfl rfl⟩
 rcases h with⟨rfl,rfl,rfl⟩|⟨id,cap,junk,rfl,rfl,h2,h3,h4,h5⟩
 · rw [ZW hu];refine(Tryz.slices_Compact_string_empty none 0 w).mono ?_;rintro e w' ⟨rfl,rfl⟩;exact⟨.ak [] .nil,_,H,G,rfl,Tr.refl _ _,Ext.refl _ _ _,Nat.le_refl _,hM,ZW hu▸hu,.inl ⟨rfl,rfl,rfl⟩,HF.refl _ _,fun _ h=>h⟩
 · obtain⟨b,_,hm,rfl⟩:=aou hu;obtain⟨_,b',arr,t,k1,k2,k3,k4,k5⟩:=hM.obj id _ h4;obtain rfl:b'=b:=by rw [hm]at k1;exact(Option.some.inj k1).symm
   refine(Tryz.slices_Compact_string b' 0 cap l w (YB k3 k4) (by omega) h2).mono ?_;rintro e w' ⟨rfl,q,rfl⟩;have hc:=ag5 l;have hlen:(Lib.compact l++List.replicate (l.length -(Lib.compact l).length) []).length=l.length:=by rw [List.length_append,List.length_replicate];omega
   obtain⟨e1,e2⟩:=hM.putRow (cs':=((Lib.compact l++List.replicate (l.length -(Lib.compact l).length) []).map aH).flatten++junk) (Lib.compact l++List.replicate (l.length -(Lib.compact l).length) []).toArray q #[] h4 hm k3 (ajc hlen k4);rw [Sort.grow_empty]at e1 e2;refine⟨.bR id 0 (Lib.compact l).length cap 1,_,H.put id (((Lib.compact l++List.replicate (l.length -(Lib.compact l).length) []).map aH).flatten++junk),G,rfl,e2,Ext.refl _ _ _,Nat.le_refl _,e1,.bR _ _ _ _ _ b' h3 hm,.inr ⟨id,cap,(List.replicate (l.length -(Lib.compact l).length) ([]:Str)).map PV.str++junk,rfl,rfl,by omega,h3,?_,?_⟩,HF.put (.inl (List.mem_singleton.2 rfl)) (HF.refl _ _),fun c hc=>hc.put⟩
   · show(if id=id then some _ else _)=_
     rw [if_pos rfl,D7,List.map_append,D7,List.append_assoc]
   · rw [List.length_append,List.length_map,List.length_replicate,h5];omega
end Go.VL
end
section
namespace Go.VL
open Go.Proofs
def Ch (k:Nat) (e:List Nd):Option (List Str):=
 (yh (Df k e) e k (IntKind.wrap .i64 ((e.length:Int) -1)) [] []).bind fun out=>if out.length<4611686018427387904 then some (Lp out)else none
theorem alu (k:Nat) (e:List Nd) {c:Ck} {r:List Str} (h:Ch k e=some r):aD Tryz.prog 193 [.ak (e.map Nd.cells) c] (.ak (r.map aH) .unk):=by
 refine aD.wk (args:=[fT e]) ?_ (.ak .nil);refine aD.aO (aX.mem (.cons (aT Nd.pu _) .nil)) (aF avZ (by simp) (aC ?_)) (aT bE _);unfold Ch at h;cases e1:yh (Df k e) e k (IntKind.wrap .i64 ((e.length:Int) -1)) [] []with
 |none=>rw [Aj e1]at h;cases h
 |some out=>
 rw [Ak e1]at h;by_cases e2:out.length<4611686018427387904
 case neg=>rw [if_neg e2]at h;cases h
 rw [if_pos e2]at h;have h:=Option.some.inj h;subst h;unfold amR;simp -implicitDefEqProofs only [go_sem];have hS:aot e (AH.empty.next) (AH.empty.next+1) [] ((AH.empty.new [fT e]).new [.ak [] .nil]):=by
  refine⟨(show 0<2 by omega),(show 1<2 by omega),by decide,rfl,.ak [] .nil,[],rfl,aJ.nil,List.not_mem_nil,List.not_mem_nil⟩
 refine bA.mono (bA.wk (atU (ag4 k e _ _) e k _ [] [] out _ hS e1) (.same (.same (.ak (.same .nil))))) fun r H1 hS1=> ?_;obtain⟨h1,h2,h3,h4,v,ids,h5,h6,h7,h8⟩:=hS1;simp -implicitDefEqProofs only [go_sem,h5];refine bA.mono (atZ h6 e2) fun r2 H2 ⟨g1,g2,g3⟩=> ?_;have h5':H2.obj (AH.empty.next+1)=some [v]:=(g2.2 _ h2 h8).trans h5;simp -implicitDefEqProofs only [go_sem,h5'];refine bA.mono (ag6 g1 (by rw [show(IY out).length=out.length from List.length_mergeSort _];exact e2)) fun r3 H3 ⟨f1,f2,f3⟩=> ?_;simp -implicitDefEqProofs only [go_sem];have hc:Lib.compact (IY out)=Lp out:=acw out;rw [<-hc];exact f1.fz bE
end Go.VL
end
section
namespace Go.VL
open Tm
def acC (e:List Nd) (R:Nat) (bd:List Str):Prop:= ∃P j,Ev (fun k=>uj k e (R:Int)) (P,j)/\ ∀out:List Str,out.length<=34*R->Ev (fun k=>nT k e out P j) (bd++out)
section
variable {t0:Tm} {e:List Nd} (he:e=flat 0 t0) (hL:pO e) (hF:zy e)
include he hL hF
theorem ap2:acC e (t0.size -1) []:=by
 have hs:=t0.size_pos;refine⟨-1,0,Dw (ts:=[t0]) (by rw [xD];exact he) hL (by rw [he,dw];omega) ?_,fun out _=>Ev.succ ?_⟩
 · rw [Yt];cases t0 with
   |mk x cs=>
    rw [zV,show(Tm.mk x cs).size -1=(iO 0 ((0+sizes cs:Nat):Int) 0 cs).length by rw [jY];simp only [size];omega,List.getElem?_concat_length]
 · simp only [nT];exact Ev.cF (by rfl) Ev.some
theorem at0 {b:Nat} {bd:List Str} {x:Nd} {l m:List Tm} {c:Tm} (hS:Seg e b (.mk x (l++c::m))) (hU:acC e (b+sizes (l++c::m)) bd):acC e (b+sizes l+c.size -1) (bd++yj (nd x b (l++c::m)) l.length):=by
 have hn:=hS.node;have hlt:=(List.getElem?_eq_some_iff.1 hn).1;have BZ:=hF.few _ _ hn;have hbl:=Og BZ.2 l.length;have hcp:=c.size_pos;have hsz:sizes (l++c::m)=sizes l+(c.size+sizes m):=by rw [eF,sizes]
 obtain⟨P,j,hP,hout⟩:=hU;have ha:(nd x b (l++c::m)).args[l.length]? =some ((b+sizes l+c.size -1:Nat):Int):=IU;obtain⟨r,h1,h2,h3⟩:=Td 0 [t0] (b+sizes (l++c::m)) (nd x b (l++c::m)) l.length _ (by rw [xD,<-he];exact hn) ha;obtain rfl:r=b+sizes l+c.size -1:=by omega
 refine⟨_,_,Dw (ts:=[t0]) (by rw [xD];exact he) hL (by omega) h3,fun out ho=>Ev.succ ?_⟩;simp only [nT,Nat.zero_add];refine Ev.cT (decide_eq_true (by omega)) (Ev.lZ (by omega) ?_);simp only [Int.toNat_natCast,hn,Option.bind_some];rw [Ms (hF.ok _ _ hn) (by omega)];simp only [Option.bind_some,List.nil_append,List.length_nil,Nat.zero_add];refine Ev.lZ (by omega) (Ev.lZ (by have:=hF.len;omega) (Ev.bind hP ((hout _ ?_).to ?_)))
 · rw [List.length_append];omega
 · rw [List.append_assoc]
mutual
theorem YC: ∀(t:Tm) (b:Nat) (bd:List Str),Seg e b t->acC e (b+t.size -1) bd->bd.length+34*(b+t.size -1)<=10000-> ∀v∈vis b bd t,Ev (fun k=>xG k e (v.1:Int)) v.2/\v.2.length<=10000/\v.1<e.length
 | .mk x cs,b,bd,hS,hU,hb,v,hv=>by
  have hsz:b+(Tm.mk x cs).size -1=b+sizes cs:=by simp only [size];omega
  rw [hsz]at hb hU;rw [UW,List.mem_cons]at hv;rcases hv with rfl|hv
  · refine⟨?_,(show bd.length<=10000 by omega),(List.getElem?_eq_some_iff.1 hS.node).1⟩;obtain⟨P,j,hP,hout⟩:=hU;unfold xG;refine Ev.bind hP (Ev.bind (hout [] (Nat.zero_le _)) (Ev.some' ?_));rw [List.append_nil]
  · exact U2 cs x [] b bd hS hU (by simp only [List.nil_append];omega) v hv
theorem U2: ∀(cs:List Tm) (x:Nd) (l:List Tm) (b:Nat) (bd:List Str),Seg e b (.mk x (l++cs))->acC e (b+sizes (l++cs)) bd->bd.length+34*(b+sizes (l++cs))<=10000->
 ∀v∈Dc (b+sizes l) bd (nd x b (l++cs)) l.length cs,Ev (fun k=>xG k e (v.1:Int)) v.2/\v.2.length<=10000/\v.1<e.length
 |[],x,l,b,bd,hS,hU,hb,v,hv=>by rw [Dc]at hv;cases hv
 |c::cs,x,l,b,bd,hS,hU,hb,v,hv=>by
  have hn:=hS.node;have hbl:=Og (hF.few _ _ hn).2 l.length;have hcp:=c.size_pos;have hsz:sizes (l++c::cs)=sizes l+(c.size+sizes cs):=by rw [eF,sizes]
  rw [IX,List.mem_append]at hv;rcases hv with hv|hv
  · exact YC c _ _ hS.kid (at0 he hL hF hS hU) (by rw [hsz]at hb;rw [List.length_append];omega) v hv
  · have e1:l++c::cs=(l++[c])++cs:=by simp
    have e2:l.length+1=(l++[c]).length:=by simp
    have e3:b+sizes l+c.size=b+sizes (l++[c]):=by rw [eF,rE];omega
    rw [e1,e2,e3]at hv;rw [e1]at hS hU hb;exact U2 cs x (l++[c]) b bd hS hU hb v hv
end
end
mutual
theorem afj: ∀(t:Tm) (b:Nat) (bd:List Str) (i:Nat),b<=i->i<b+t.size-> ∃q,(i,q)∈vis b bd t
 | .mk x cs,b,bd,i,h1,h2=>by
  rw [UW];by_cases h:i=b+sizes cs
  · exact⟨bd,by rw [h];exact List.mem_cons_self⟩
  · simp only [size]at h2;obtain⟨q,hq⟩:=acD cs b bd (nd x b cs) 0 i h1 (by omega);exact⟨q,List.mem_cons_of_mem _ hq⟩
theorem acD: ∀(cs:List Tm) (b:Nat) (bd:List Str) (n:Nd) (j:Nat) (i:Nat),b<=i->i<b+sizes cs-> ∃q,(i,q)∈Dc b bd n j cs
 |[],b,bd,n,j,i,h1,h2=>by simp only [sizes]at h2;omega
 |c::cs,b,bd,n,j,i,h1,h2=>by
  rw [IX];simp only [sizes]at h2;by_cases h:i<b+c.size
  · obtain⟨q,hq⟩:=afj c b (bd++yj n j) i h1 h;exact⟨q,List.mem_append_left _ hq⟩
  · obtain⟨q,hq⟩:=acD cs (b+c.size) bd n (j+1) i (by omega) (by omega);exact⟨q,List.mem_append_right _ hq⟩
end
mutual
theorem afk: ∀(t:Tm) (b:Nat) (bd:List Str),(vis b bd t).length=t.size
 | .mk x cs,b,bd=>by rw [UW,List.length_cons,acE cs];rfl
theorem acE: ∀(cs:List Tm) (b:Nat) (bd:List Str) (n:Nd) (j:Nat),(Dc b bd n j cs).length=sizes cs
 |[],b,bd,n,j=>by rw [Dc];rfl
 |c::cs,b,bd,n,j=>by rw [IX,List.length_append,afk c,acE cs];rfl
end
def jR (n:Nd):Bool:=(decide (n.kind=2)&& !sK n.text)||(decide (n.kind=3)&& !(dZ fU n.text).2)
theorem Oj (n:Nd):Ev (fun k=>nW k n) (jR n):=by
 unfold nW jR;refine Ev.bind (vP n.text) ?_;rw [NC];by_cases h:n.kind=2
 · refine Ev.cT (by rw [h];rfl) ?_;simp only [h,decide_true,Bool.true_and,Option.bind_some];cases sK n.text
   · exact Ev.cF rfl (Ev.some' rfl)
   · exact Ev.cT rfl (Ev.cF (by rfl) (Ev.some' rfl))
 · refine Ev.cF (by rw [beq_eq_false_iff_ne];exact h) ?_;simp only [h,decide_false,Bool.false_and,Bool.false_or];by_cases h2:n.kind=3
   · exact Ev.cT (by rw [h2];rfl) (Ev.some' (by simp [h2]))
   · exact Ev.cF (by rw [beq_eq_false_iff_ne];exact h2) (Ev.some' (by simp [h2]))
theorem U3 {n:Nd} (h0:dM true n=0) (hl:n.text.length<=1000000):Ev (fun k=>zR k n) (jR n):=by
 unfold zR jR;rw [Bh];by_cases h:n.kind=2
 · refine Ev.cT (by rw [h];rfl) ?_;simp only [h,decide_true,Bool.true_and,Option.bind_some];cases sK n.text
   · exact Ev.cF rfl (Ev.some' rfl)
   · exact Ev.cT rfl (Ev.cF (by rfl) (Ev.some' rfl))
 · refine Ev.cF (by rw [beq_eq_false_iff_ne];exact h) ?_;simp only [h,decide_false,Bool.false_and,Bool.false_or];by_cases h2:n.kind=3
   · refine Ev.cT (by rw [h2];rfl) (Ev.bind (Dp _ (by omega)) (Ev.some' ?_));rw [ach h0 h2];simp [h2]
   · exact Ev.cF (by rw [beq_eq_false_iff_ne];exact h2) (Ev.some' (by simp [h2]))
def pV (e:List Nd) (v:Nat×List Str):Option Str:=match e[v.1]? with
 |some n=>if(jR n&& !decide (n.text∈v.2))=true then some n.text else none
 |none=>none
theorem acF {e:List Nd}: ∀(l:List (Nat×List Str)) (out:List Str),(∀v∈l,v.2.length<=10000/\v.1<e.length)->out.length+l.length<=10000->Ev (fun k=>BX (Df k e) l out) (out++l.filterMap (pV e))
 |[],out,h,hb=>Ev.some' (by simp)
 |v::l,out,h,hb=>by
  obtain⟨h1,h2⟩:=h v List.mem_cons_self;rw [List.length_cons]at hb;have ih:=fun o=>acF l o (fun w hw=>h w (List.mem_cons_of_mem _ hw));have hf:pV e v=if(jR e[v.1]&& !decide (e[v.1].text∈v.2))=true then some e[v.1].text else none:=by unfold pV;rw [bG h2]
  simp only [BX];refine Ev.bind (x:=out++(pV e v).toList) ?_ ?_
  · unfold Df;simp only [nn,if_true,Int.toNat_natCast,bG h2,Option.bind_some];refine Ev.bind (Oj _) ?_;rw [hf];cases jR e[v.1]
    · exact Ev.cF rfl (Ev.some' (by simp))
    · refine Ev.cT rfl (Ev.bind (ze _ _ (by omega)) ?_);by_cases h3:e[v.1].text∈v.2
      · exact Ev.cT (decide_eq_true h3) (Ev.some' (by simp [h3]))
      · refine Ev.cF (decide_eq_false h3) (Ev.lZ (by omega) (Ev.some' (by simp [h3])))
  · have hl:(pV e v).toList.length<=1:=by cases pV e v<;>simp
    refine(ih _ (by rw [List.length_append];omega)).to ?_;rw [List.filterMap_cons,List.append_assoc];cases pV e v<;>rfl
end Go.VL
end
section
namespace Go.VL
def XB (n:Nd):Bool:=decide (n.args.length<=34)&&decide (n.names.length<=34)&&decide (n.text.length<=80)&&n.names.all fun s=>decide (s.length<=80)
def qO (e:List Nd):Bool:=(e.take 172).all XB&&decide (e.length<=170)
theorem aef {e:List Nd} {i:Nat} {n:Nd} (hn:e[i]? =some n) (hl:n.names.length<=34):Ev (fun k=>um k e (i:Int) ((0:Nat):Int)) (if(n.names.drop 0).all (fun s=>decide (s.length<=80))=true then .inl ()else .inr false):=by
 refine jM (len:=n.names.length) (p:=fun j=>Ev (fun k=>um k e (i:Int) (j:Int)) (if(n.names.drop j).all (fun s=>decide (s.length<=80))=true then .inl ()else .inr false)) ?_ fun j hj ih=> ?_
 · refine Ev.succ ?_;simp only [um,Int.toNat_natCast,hn,Option.bind_some,nn,if_true];exact Ev.cF (iT _) (Ev.some' (by simp))
 · refine Ev.succ ?_;simp only [um,Int.toNat_natCast,hn,bG hj,Option.bind_some,nn,if_true,iY hj,cond_true,dW hj (show n.names.length<=1099511627776 by omega)];rw [drop_cons hj];simp only [List.all_cons,Bool.and_eq_true,decide_eq_true_eq];by_cases h:n.names[j].length<=80
   · refine Ev.cF (decide_eq_false (by omega)) (ih.to ?_);simp only [h,true_and]
   · refine Ev.cT (decide_eq_true (by omega)) (Ev.some' ?_);simp only [h,false_and,if_false]
theorem Qa (i:Nat) (m:Nat):Gp (i:Int) (decide ((i:Int)<(m:Int)))=some (decide (i<m)&&decide (i<172)):=by
 unfold Gp;by_cases h:i<m
 · rw [wo (decide_eq_true (by omega)),decide_eq_true h,Bool.true_and];by_cases h2:i<172
   · rw [decide_eq_true h2,decide_eq_true (show(i:Int)<172 by omega)]
   · rw [decide_eq_false h2,decide_eq_false (show ¬(i:Int)<172 by omega)]
 · rw [oQ (decide_eq_false (by omega)),decide_eq_false h,Bool.false_and]
theorem alv (e:List Nd):Ev (fun k=>Ur k e) (qO e):=by
 have hlen:(e.take 172).length=min 172 e.length:=List.length_take;have key:Ev (fun k=>uo k e ((0:Nat):Int)) (if((e.take 172).drop 0).all XB=true then .inl ()else .inr false):=by
  refine jM (len:=(e.take 172).length) (p:=fun i=>Ev (fun k=>uo k e (i:Int)) (if((e.take 172).drop i).all XB=true then .inl ()else .inr false)) ?_ fun i hi ih=> ?_
  · refine Ev.succ ?_;simp only [uo,Qa];refine Ev.nD rfl (Ev.cF ?_ (Ev.some' (by rw [List.drop_length];rfl)));rw [Bool.and_eq_false_iff,decide_eq_false_iff_not,decide_eq_false_iff_not];omega
  · have hie:i<e.length:=by omega
    have at1:i<172:=by omega
    have hget:(e.take 172)[i]'hi=e[i]:=by simp
    refine Ev.succ ?_;simp only [uo,Qa,Int.toNat_natCast,bG hie,Option.bind_some,nn,if_true,decide_eq_true hie,decide_eq_true at1,Bool.and_self,cond_true];rw [drop_cons hi,hget,dW at1 (by omega),List.all_cons];have hp:Gq e (i:Int) (decide ((e[i].args.length:Int)>34))=some (!(decide (e[i].args.length<=34)&&decide (e[i].names.length<=34)&&decide (e[i].text.length<=80))):=by
     unfold Gq;simp only [Int.toNat_natCast,bG hie,Option.bind_some,nn,if_true];by_cases a:e[i].args.length<=34
     · rw [oQ (decide_eq_false (by omega))];by_cases b:e[i].names.length<=34
       · rw [oQ (decide_eq_false (by omega))];by_cases c:e[i].text.length<=80
         · rw [decide_eq_false (by omega)];simp [a,b,c]
         · rw [decide_eq_true (by omega)];simp [a,b,c]
       · rw [wo (decide_eq_true (by omega))];simp [a,b]
     · rw [wo (decide_eq_true (by omega))];simp [a]
    refine Ev.nD hp ?_;unfold XB;by_cases h3:(decide (e[i].args.length<=34)&&decide (e[i].names.length<=34)&&decide (e[i].text.length<=80))=true
    · rw [h3];simp only [Bool.and_eq_true,decide_eq_true_eq]at h3;have h0:=aef (bG hie) h3.1.2;rw [List.drop_zero]at h0;refine Ev.cF rfl (Ev.bind h0 ?_);cases h4:e[i].names.all fun s=>decide (s.length<=80)
      · simp only [Bool.false_eq_true,if_false,bL];exact Ev.some' (by simp)
      · simp only [if_true,bI,Bool.true_and];exact ih
    · have h3:(decide (e[i].args.length<=34)&&decide (e[i].names.length<=34)&&decide (e[i].text.length<=80))=false:=by simpa using h3
      rw [h3];exact Ev.cT rfl (Ev.some' (by simp))
 unfold Ur;refine Ev.bind key ?_;rw [List.drop_zero];unfold qO;cases(e.take 172).all XB
 · simp only [Bool.false_eq_true,if_false,bL,Bool.false_and];exact Ev.some
 · simp only [if_true,bI,Bool.true_and];refine Ev.some' ?_;by_cases h:e.length<=170
   · rw [decide_eq_true h,decide_eq_true (show(e.length:Int)<=170 by omega)]
   · rw [decide_eq_false h,decide_eq_false (show ¬(e.length:Int)<=170 by omega)]
theorem U4 {e:List Nd} (h:qO e=true):e.length<=170/\ ∀(i:Nat) n,e[i]? =some n->n.args.length<=34/\n.names.length<=34/\n.text.length<=80/\ ∀s∈n.names,s.length<=80:=by
 unfold qO at h;rw [Bool.and_eq_true,decide_eq_true_eq]at h;refine⟨h.2,fun i n hn=> ?_⟩;rw [List.take_of_length_le (by omega)]at h;have:=List.all_eq_true.1 h.1 n (List.mem_of_getElem? hn);unfold XB at this;simp only [Bool.and_eq_true,decide_eq_true_eq,List.all_eq_true]at this;exact⟨this.1.1.1,this.1.1.2,this.1.2,this.2⟩
theorem Lu {e:List Nd} (h:qO e=true):pO e:=by
 obtain⟨h1,h2⟩:=U4 h;exact⟨by omega,fun i n hn=>by have:=h2 i n hn;omega⟩
theorem Ol {e:List Nd} (hL:pO e):Ev (fun k=>zQ k e) e:=by
 have hlen:=hL.len;have key: ∀i,i<=e.length->Ev (fun k=>nM k e (e.take i) (i:Int)) e:=by
  refine down ?_ fun i hi ih=> ?_
  · refine Ev.succ ?_;simp only [nM];exact Ev.cF (iT _) (Ev.some' (by simp))
  · refine Ev.succ ?_;obtain⟨h1,h2,h3⟩:=hL.nd i _ (bG hi);have e1:kJ e[i].names=some e[i].names:=by
     unfold kJ;rw [if_pos (by simp;omega)];rfl
    have e2:DX e[i].args=some e[i].args:=by
     unfold DX;rw [if_pos (by simp;omega)];rfl
    have e3:((e.take i).length+1)*80<=1099511627776:=by rw [List.length_take];omega
    simp only [nM,Int.toNat_natCast,bG hi,Option.bind_some,nn,if_true,iY hi,cond_true,dW hi (show e.length<=1099511627776 by omega),e1,e2,if_pos e3];rw [<-List.take_succ_eq_append_getElem hi];exact ih
 unfold zQ;exact Ev.bind (key 0 (Nat.zero_le _)) Ev.some
end Go.VL
end
section
namespace Go.VL
open Tm
section
variable {e:List Nd} (hV:Valid e) (hL:pO e) (hF:zy e)
include hV hL hF
theorem ag7: ∃(vs:List (Nat×List Str)),(∀(α:Type) (step:α->Int->List Str->Option α) (k:Nat) (a:α),1000<=k->yh step e k (IntKind.wrap .i64 ((e.length:Int) -1)) [] a=BX step vs a)/\
 (∀v∈vs,Ev (fun k=>xG k e (v.1:Int)) v.2/\v.2.length<=10000/\v.1<e.length)/\(∀i<e.length,∃q,(i,q)∈vs)/\vs.length=e.length/\0<e.length:=by
 obtain⟨t,he⟩:=hV.tree;have hlen:=hF.len;have hs:=t.size_pos;have hsz:e.length=t.size:=by rw [he,dw]
 have hS:Seg e 0 t:=by rw [he];exact Seg.whole t
 have hw:IntKind.wrap .i64 ((e.length:Int) -1)=((0+t.size -1:Nat):Int):=by rw [wrap64 (by omega) (by omega)];omega
 refine⟨vis 0 [] t,fun α step k a hk=> ?_,?_,fun i hi=>afj t 0 [] i (Nat.zero_le _) (by omega),by rw [afk,hsz],by omega⟩
 · rw [hw];exact acr hF step t 0 [] k a hS (by omega) (by simp only [List.length_nil];omega)
 · refine YC he hL hF t 0 [] hS ?_ (by simp only [List.length_nil];omega);rw [Nat.zero_add];exact ap2 he hL hF
theorem ajd: ∃r,Ev (fun k=>Ch k e) r/\Ev (fun k=>xH k e) r/\r.length<=1000:=by
 obtain⟨vs,hw,hvs,hall,hlen,hpos⟩:=ag7 hV hL hF;have hl:=hF.len;have hfr:=acF (e:=e) vs [] (fun v hv=>(hvs v hv).2) (by simp only [List.length_nil];omega);rw [List.nil_append]at hfr;have hfl:(vs.filterMap (pV e)).length<=170:=Nat.le_trans (List.length_filterMap_le _ _) (by omega);have h1:Ev (fun k=>Ch k e) (Lp (vs.filterMap (pV e))):=by
  unfold Ch;refine Ev.bind (x:=vs.filterMap (pV e)) ?_ (Ev.lZ (by omega) Ev.some);obtain⟨K,hK⟩:=hfr;exact⟨max K 1000,fun k hk=>(hw _ _ k _ (by omega)).trans (hK k (by omega))⟩
 have hsl: ∀(l a:List Str),(l.foldl (fun a s=>uG s a) a).length<=a.length+l.length:=by
  intro l
  induction l with
  |nil=>intro a;exact Nat.le_refl _
  |cons s l ih=>
   intro a;rw [List.foldl_cons];have:=ih (uG s a);have:=acy s a;simp only [List.length_cons];omega
 refine⟨_,h1,?_,by have:=hsl (vs.filterMap (pV e)) [];unfold Lp;simp only [List.length_nil]at this;omega⟩
 have key: ∀i,i<=e.length-> ∀out:List Str,out.length<=i->out.Pairwise (·< ·)-> ∃r,Ev (fun k=>jg k e out (i:Int)) r/\r.Pairwise (·< ·)/\ ∀y,y∈r↔y∈out\/ ∃v∈vs,i<=v.1/\pV e v=some y:=by
  refine down (fun out _ ha=> ?_) fun i hi ih out ho ha=> ?_
  · refine⟨out,Ev.succ ?_,ha,fun y=>⟨.inl,?_⟩⟩
    · simp only [jg];exact Ev.cF (iT _) (Ev.some' rfl)
    · rintro(h|⟨v,hv,h1,_⟩)
      · exact h
      · have:=(hvs v hv).2.2;omega
  · obtain⟨q,hq⟩:=hall i hi;have hu: ∀v∈vs,v.1=i->v.2=q:=by
     intro v hv hvi;have h2:=(hvs v hv).1;rw [hvi]at h2;exact h2.uniq (hvs _ hq).1
    have hfi:pV e (i,q)=if(jR e[i]&& !decide (e[i].text∈q))=true then some e[i].text else none:=by unfold pV;simp only [bG hi]
    have hstep: ∀(out':List Str),(∀y,y∈out'↔y∈out\/pV e (i,q)=some y)-> ∀y,(y∈out'\/ ∃v∈vs,i+1<=v.1/\pV e v=some y)↔(y∈out\/ ∃v∈vs,i<=v.1/\pV e v=some y):=by
     intro out' h y;rw [h y];constructor
     · rintro((h2|h2)|⟨v,hv,h2,h3⟩)
       · exact .inl h2
       · exact .inr ⟨_,hq,Nat.le_refl _,h2⟩
       · exact .inr ⟨v,hv,by omega,h3⟩
     · rintro(h2|⟨v,hv,h2,h3⟩)
       · exact .inl (.inl h2)
       · by_cases h4:v.1=i
         · obtain⟨v1,v2⟩:=v;have h5:=hu _ hv h4;simp only at h4 h5;subst h4 h5;exact .inl (.inr h3)
         · exact .inr ⟨v,hv,by omega,h3⟩
    have hne: ∀r,Ev (fun k=>jg k e out ((i+1:Nat):Int)) r->pV e (i,q)=none->True:=fun _ _ _=>trivial;have hnm:=U3 (hF.ok i _ (bG hi)) (by have:=(hL.nd i _ (bG hi)).1;omega);have hbd:=(hvs _ hq).1;by_cases h2:jR e[i]=true
    · by_cases h3:e[i].text∈q
      · obtain⟨r,h4,h5,h6⟩:=ih out (by omega) ha;refine⟨r,Ev.succ ?_,h5,fun y=>(h6 y).trans (hstep out (fun y=> ?_) y)⟩
        · simp only [jg,Int.toNat_natCast,bG hi,Option.bind_some,nn,if_true,iY hi,cond_true,dW hi (show e.length<=1099511627776 by omega)];refine Ev.bind hnm (Ev.cT h2 (Ev.bind hbd (Ev.bind (qU _ _ (show q.length<=1099511627776 by have:=(hvs _ hq).2.1;simp only at this;omega)) (Ev.cT (decide_eq_true h3) h4))))
        · rw [hfi,h2];simp [h3]
      · obtain⟨r,h4,h5,h6⟩:=ih (uG e[i].text out) (by have:=acy e[i].text out;omega) (Tf ha);refine⟨r,Ev.succ ?_,h5,fun y=>(h6 y).trans (hstep _ (fun y=> ?_) y)⟩
        · simp only [jg,Int.toNat_natCast,bG hi,Option.bind_some,nn,if_true,iY hi,cond_true,dW hi (show e.length<=1099511627776 by omega)];refine Ev.bind hnm (Ev.cT h2 (Ev.bind hbd (Ev.bind (qU _ _ (show q.length<=1099511627776 by have:=(hvs _ hq).2.1;simp only at this;omega)) (Ev.cF (decide_eq_false h3) (Ev.bind (alq _ _ (by omega)) h4)))))
        · rw [Lr,hfi,h2];simp [h3];constructor
          · rintro(rfl|h)
            · exact .inr rfl
            · exact .inl h
          · rintro(h|rfl)
            · exact .inr h
            · exact .inl rfl
    · have h2:jR e[i]=false:=by simpa using h2
      obtain⟨r,h4,h5,h6⟩:=ih out (by omega) ha;refine⟨r,Ev.succ ?_,h5,fun y=>(h6 y).trans (hstep out (fun y=> ?_) y)⟩
      · simp only [jg,Int.toNat_natCast,bG hi,Option.bind_some,nn,if_true,iY hi,cond_true,dW hi (show e.length<=1099511627776 by omega)];exact Ev.bind hnm (Ev.cF h2 h4)
      · rw [hfi,h2];simp
 obtain⟨r,h4,h5,h6⟩:=key 0 (Nat.zero_le _) [] (Nat.le_refl _) List.Pairwise.nil;have:Lp (vs.filterMap (pV e))=r:=by
  refine acv (acs _) h5 fun y=> ?_;rw [acu,h6 y,List.mem_filterMap];simp only [List.not_mem_nil,false_or,Nat.zero_le,true_and]
 rw [this];unfold xH;exact Ev.bind h4 Ev.some
end
theorem alx {e:List Nd} (h:qO e=true) (hV:Valid e):zy e:=⟨(U4 h).1,hV.ok,fun i n hn=>⟨((U4 h).2 i n hn).1,((U4 h).2 i n hn).2.1⟩⟩
theorem XC (a b:List Int) (hl:a.length<=1099511627776):Ev (fun k=>yP k a b) (decide (a=b)):=by
 unfold yP;by_cases hab:a.length=b.length
 · refine Ev.cF (by simp [hab]) ?_;have key:Ev (fun k=>jK k a b ((0:Nat):Int)) (if a.drop 0=b.drop 0 then .inl ()else .inr false):=by
    refine jM (len:=a.length) (p:=fun i=>Ev (fun k=>jK k a b (i:Int)) (if a.drop i=b.drop i then .inl ()else .inr false)) ?_ fun i hi ih=> ?_
    · refine Ev.succ ?_;simp only [jK];refine Ev.cF (iT _) (Ev.some' ?_);simp [hab]
    · have hi':i<b.length:=hab▸hi;refine Ev.succ ?_;simp only [jK,Int.toNat_natCast,bG hi,bG hi',Option.bind_some,nn,if_true,iY hi,cond_true,dW hi hl];have e1:List.drop i a=a[i]::List.drop (i+1) a:=List.drop_eq_getElem_cons hi;have e2:List.drop i b=b[i]::List.drop (i+1) b:=List.drop_eq_getElem_cons hi';by_cases h:a[i]=b[i]
      · refine Ev.cF (by rw [bne_eq_false_iff_eq];exact h) (ih.to ?_);rw [e1,e2];simp only [h,List.cons.injEq,true_and]
      · refine Ev.cT (by rw [bne_iff_ne];exact h) (Ev.some' ?_);rw [if_neg];intro e;rw [e1,e2,List.cons.injEq]at e;exact h e.1
   refine Ev.bind key ?_;by_cases h:a=b
   · subst h;simp only [if_true,bI,decide_true];exact Ev.some
   · simp only [List.drop_zero,h,if_false,bL,decide_false];exact Ev.some
 · refine Ev.cT (by simp;omega) (Ev.some' ?_);exact(decide_eq_false fun e=>hab (by rw [e])).symm
theorem ZC (x y:Nd) (h1:x.names.length<=1000000) (h2:x.args.length<=1000000):Ev (fun k=>Bb k x y) (decide (x=y)):=by
 unfold Bb;obtain⟨k1,n1,t1,m1,a1⟩:=x;obtain⟨k2,n2,t2,m2,a2⟩:=y;simp only at h1 h2;simp only [Nd.mk.injEq];by_cases e1:k1=k2
 · refine Ev.cT (by rw [beq_iff_eq];exact e1) ?_;by_cases e2:n1=n2
   · refine Ev.cT (by rw [beq_iff_eq];exact e2) ?_;by_cases e3:t1=t2
     · refine Ev.cT (by rw [beq_iff_eq];exact e3) (Ev.bind (Uz m1 m2 (by omega)) ?_);by_cases e4:m1=m2
       · refine Ev.cT (decide_eq_true e4) (Ev.bind (XC a1 a2 (by omega)) (Ev.some' ?_));simp [e1,e2,e3,e4]
       · exact Ev.cF (decide_eq_false e4) (Ev.some' (by simp [e4]))
     · exact Ev.cF (by rw [beq_eq_false_iff_ne];exact e3) (Ev.some' (by simp [e3]))
   · exact Ev.cF (by rw [beq_eq_false_iff_ne];exact e2) (Ev.some' (by simp [e2]))
 · exact Ev.cF (by rw [beq_eq_false_iff_ne];exact e1) (Ev.some' (by simp [e1]))
theorem ZE {a b:List Nd} (hL:pO a):Ev (fun k=>Bc k a b) (decide (a=b)):=by
 have hl:=hL.len;unfold Bc;by_cases hab:a.length=b.length
 · refine Ev.cF (by simp [hab]) ?_;have key:Ev (fun k=>kK k a b ((0:Nat):Int)) (if a.drop 0=b.drop 0 then .inl ()else .inr false):=by
    refine jM (len:=a.length) (p:=fun i=>Ev (fun k=>kK k a b (i:Int)) (if a.drop i=b.drop i then .inl ()else .inr false)) ?_ fun i hi ih=> ?_
    · refine Ev.succ ?_;simp only [kK];refine Ev.cF (iT _) (Ev.some' ?_);simp [hab]
    · have hi':i<b.length:=hab▸hi;refine Ev.succ ?_;obtain⟨_,h2,h3⟩:=hL.nd i _ (bG hi);simp only [kK,Int.toNat_natCast,bG hi,bG hi',Option.bind_some,nn,if_true,iY hi,cond_true,dW hi (show a.length<=1099511627776 by omega)];have e1:List.drop i a=a[i]::List.drop (i+1) a:=List.drop_eq_getElem_cons hi;have e2:List.drop i b=b[i]::List.drop (i+1) b:=List.drop_eq_getElem_cons hi';refine Ev.bind (ZC _ _ h2 h3) ?_;by_cases h:a[i]=b[i]
      · refine Ev.cT (decide_eq_true h) (ih.to ?_);rw [e1,e2];simp only [h,List.cons.injEq,true_and]
      · refine Ev.cF (decide_eq_false h) (Ev.some' ?_);rw [if_neg];intro e;rw [e1,e2,List.cons.injEq]at e;exact h e.1
   refine Ev.bind key ?_;by_cases h:a=b
   · subst h;simp only [if_true,bI,decide_true];exact Ev.some
   · simp only [List.drop_zero,h,if_false,bL,decide_false];exact Ev.some
 · refine Ev.cT (by simp;omega) (Ev.some' ?_);exact(decide_eq_false fun e=>hab (by rw [e])).symm
theorem acG {α:Type} [DecidableEq α]: ∀{l m:List α},l.Nodup->(∀x∈l,x∈m)->l.length<=m.length
 |[],m,_,_=>Nat.zero_le _
 |x::l,m,hd,hs=>by
  have hx:=hs x List.mem_cons_self;obtain⟨h1,h2⟩:=List.nodup_cons.1 hd;have ih:=acG (l:=l) (m:=m.erase x) h2 fun y hy=>by
   have hne:y≠x:=fun e=>h1 (e▸hy);exact(List.mem_erase_of_ne hne).2 (hs y (List.mem_cons_of_mem _ hy))
  have hl:=List.length_erase_of_mem hx;have:=List.length_pos_of_mem hx;simp only [List.length_cons];omega
end Go.VL
end
section
namespace Go.VL
def dval (s:Str):Nat:=s.foldl (fun a c=>a*10+(c.toNat -48)) 0
theorem XD {d:Nat} (h:d<10):(UInt8.ofNat (48+d)).toNat=48+d:=by
 rw [UInt8.toNat_ofNat'];omega
theorem Ti: ∀(m u:Nat),u<=m->dval (Lib.decDigits u)=u
 |0,u,h=>by
  have:u=0:=by omega
  subst this;rw [Lib.decDigits,dif_pos (by omega)];simp only [dval,List.foldl_cons,List.foldl_nil,XD (show 0<10 by omega)]
 |m+1,u,h=>by
  rw [Lib.decDigits];split
  · rename_i h1;simp only [dval,List.foldl_cons,List.foldl_nil,XD h1];omega
  · have:=Ti m (u/10) (by omega);unfold dval at this⊢;rw [List.foldl_append,this];simp only [List.foldl_cons,List.foldl_nil,XD (show u% 10<10 by omega)];omega
theorem ap3 {u v:Nat} (h:Lib.decDigits u=Lib.decDigits v):u=v:=by
 rw [<-Ti u u (Nat.le_refl _),<-Ti v v (Nat.le_refl _),h]
theorem acH (u:Nat):Lib.itoa (u:Int)=Lib.decDigits u:=by unfold Lib.itoa;rw [if_neg (by omega)];simp
def bN (n:Nat):Str:=NA (n:Int)
theorem U5 (n:Nat):bN n=98::95::Lib.decDigits n:=by unfold bN NA;rw [acH]
theorem aje {u v:Nat} (h:bN u=bN v):u=v:=by
 rw [U5,U5]at h;exact ap3 (List.cons.inj (List.cons.inj h).2).2
theorem IZ: ∀(k u:Nat),u<10^(k+1)->(Lib.decDigits u).length<=k+1
 |0,u,h=>by rw [Lib.decDigits,dif_pos (by simpa using h)];simp
 |k+1,u,h=>by
  rw [Lib.decDigits];split
  · simp
  · have:=IZ k (u/10) (by rw [Nat.pow_succ]at h;omega);simp;omega
theorem at5 {n:Nat} (h:n<10000):(bN n).length<=6:=by
 rw [U5];have:=IZ 3 n (by simpa using h);simp;omega
def cnt (left:List Str) (c:Nat):Nat:=((List.range c).filter fun j=>decide (bN (j+1)∈left)).length
theorem Dh (left:List Str) (c:Nat):cnt left (c+1)=cnt left c+if bN (c+1)∈left then 1 else 0:=by
 unfold cnt;rw [List.range_succ,List.filter_append,List.length_append];by_cases h:bN (c+1)∈left<;>simp [h]
theorem U6 (left:List Str) (c:Nat):cnt left c<=left.length:=by
 unfold cnt;have hn:(((List.range c).filter fun j=>decide (bN (j+1)∈left)).map fun j=>bN (j+1)).Nodup:=by
  refine List.Pairwise.map _ ?_ (List.Pairwise.filter _ List.nodup_range);intro a b hab h;exact hab (by have:=aje h;omega)
 have:=acG hn (m:=left) (fun x hx=>by
  obtain⟨j,hj,rfl⟩:=List.mem_map.1 hx;simpa using (List.mem_filter.1 hj).2)
 rwa [List.length_map]at this
def D8 (left:List Str):Nat->Nat->Nat
 |0,c=>c+1
 |f+1,c=>if bN (c+1)∈left then D8 left f (c+1)else c+1
def uJ (left:List Str) (c:Nat):Nat:=D8 left left.length c
theorem acI (left:List Str): ∀(f c:Nat),left.length<=f+cnt left c->bN (D8 left f c)∉left/\c<D8 left f c/\D8 left f c+cnt left c=c+1+cnt left (D8 left f c)
 |0,c,h=>by
  have h1:=Dh left c;have h2:=U6 left (c+1);have hn:bN (c+1)∉left:=fun hm=>by rw [if_pos hm]at h1;omega
  rw [if_neg hn]at h1;refine⟨hn,by unfold D8;omega,?_⟩;unfold D8;omega
 |f+1,c,h=>by
  have h1:=Dh left c;rw [D8];by_cases hm:bN (c+1)∈left
  · rw [if_pos hm]at h1⊢;obtain⟨a,b,d⟩:=acI left f (c+1) (by omega);exact⟨a,by omega,by omega⟩
  · rw [if_neg hm]at h1⊢;exact⟨hm,by omega,by omega⟩
theorem D9 (left:List Str) (c:Nat):bN (uJ left c)∉left/\c<uJ left c/\uJ left c+cnt left c=c+1+cnt left (uJ left c):=acI left _ c (by omega)
def lH (left:List Str):Nat->Nat->List Str×Nat
 |0,c=>([],c)
 |m+1,c=>(bN (uJ left c)::(lH left m (uJ left c)).1,(lH left m (uJ left c)).2)
theorem YD (left:List Str): ∀m c,(lH left m c).1.length=m
 |0,_=>rfl
 |m+1,c=>by rw [lH,List.length_cons,YD left m]
theorem YE (left:List Str): ∀m c,(lH left m c).2+cnt left c=c+m+cnt left (lH left m c).2
 |0,c=>by simp only [lH];omega
 |m+1,c=>by
  have h1:=(D9 left c).2.2;have h2:=YE left m (uJ left c);simp only [lH];omega
theorem GZ (left:List Str): ∀m c,c<=(lH left m c).2
 |0,c=>Nat.le_refl _
 |m+1,c=>by
  have h1:=(D9 left c).2.1;have h2:=GZ left m (uJ left c);simp only [lH];omega
theorem Om (left:List Str): ∀m c s,s∈(lH left m c).1->s∉left/\ ∃n,s=bN n/\c<n/\n<=(lH left m c).2
 |0,c,s,h=>by cases h
 |m+1,c,s,h=>by
  obtain⟨h1,h2,_⟩:=D9 left c;have h3:=GZ left m (uJ left c);simp only [lH]at h⊢;rcases List.mem_cons.1 h with rfl|h
  · exact⟨h1,_,rfl,h2,h3⟩
  · obtain⟨a,n,rfl,b,d⟩:=Om left m (uJ left c) s h;exact⟨a,n,rfl,by omega,d⟩
theorem Qb (left:List Str): ∀m c,(lH left m c).1.Nodup
 |0,c=>List.Pairwise.nil
 |m+1,c=>by
  simp only [lH];refine List.nodup_cons.2 ⟨fun h=> ?_,Qb left m _⟩;obtain⟨_,n,e,h1,_⟩:=Om left m _ _ h;have:=aje e;omega
theorem ajf:(List.range 10).all (fun d=>decide ((([48,49,50,51,52,53,54,55,56,57]:Str).take (d+1)).drop d=[UInt8.ofNat (48+d)]))=true:=by kernel_rfl
theorem acJ: ∀(m u:Nat) (s:Str),u<m->u<=10000->s.length+u<=1000000->Ev (fun k=>wO k (u:Int) s) (Lib.decDigits u++s):=by
 intro m
 induction m with
 |zero=>intro u s h1;omega
 |succ m ih=>
  intro u s h1 h2 h3;have e0:((u:Int)).tmod 10=((u% 10:Nat):Int):=by rw [Int.tmod_eq_emod_of_nonneg (by omega)];omega
  have e1:((u:Int)).tdiv 10=((u/10:Nat):Int):=by rw [Int.tdiv_eq_ediv_of_nonneg (by omega)];omega
  have e2:Uv ((u% 10:Nat):Int)=some ((u% 10:Nat):Int):=by
   unfold Uv;rw [decide_eq_false (by omega)];rfl
  have e3:IntKind.wrap .i64 (((u% 10:Nat):Int)+1)=((u% 10+1:Nat):Int):=by rw [wrap64 (by omega) (by omega)];omega
  have e4:IntKind.wrap .i64 ((u/10:Nat):Int)=((u/10:Nat):Int):=wrap64 (by omega) (by omega);have hd:=of_decide_eq_true (List.all_eq_true.1 ajf (u% 10) (List.mem_range.2 (by omega)));refine Ev.succ ?_;simp only [wO,e0,e1,e2,e3,e4,Option.bind_some,Int.toNat_natCast,hd];refine Ev.lZ (by omega) (Ev.lZ (by simp;omega) ?_);rw [Lib.decDigits];by_cases hu:u<10
  · rw [dif_pos hu];refine Ev.cT (by rw [beq_iff_eq];omega) (Ev.some' ?_);rw [show u% 10=u by omega]
  · rw [dif_neg hu];refine Ev.cF (by rw [beq_eq_false_iff_ne];omega) ?_;refine(ih (u/10) _ (by omega) (by omega) (by simp;omega)).to ?_;simp
theorem ajg {n:Int} (h:0<=n/\n<=10000):Ev (fun k=>Gv k n) (Lib.itoa n):=by
 obtain⟨u,rfl⟩: ∃u:Nat,n=(u:Int):=⟨n.toNat,by omega⟩;unfold Gv Lib.itoa;refine Ev.bind (acJ (u+1) u [] (by omega) (by omega) (by simp;omega)) (Ev.cF (decide_eq_false (by omega)) (Ev.some' ?_));rw [if_neg (by omega)];simp
end Go.VL
end
section
set_option maxHeartbeats 4000000
namespace Go.VL
open Go.Proofs
def qm:Nat->(List Nd)->Int->Int->Int->Int->Str->(List Str)->(List Int)->Int->Option ((Int×Int×Str×(List Str)×(List Int)))
 |0,_,_,_,_,_,_,_,_,_=>none
 |k+1,aG,bZ,gY,I4,I5,I6,I7,Dx,yG=>
  if 0<=gY then (aG[gY.toNat]?).bind fun x10=>cond (decide (yG<(x10.args.length:Int))) (if 0<=yG then (x10.args[yG.toNat]?).bind fun x14=>if(Dx.length+1)*8<=1099511627776 then qm k aG bZ gY I4 I5 I6 I7 (Dx++[(IntKind.wrap .i64 (x14 -bZ))]) (IntKind.wrap .i64 (yG+1))else none else none) (some ((I4,I5,I6,I7,Dx)))else none
def U7:List Nat:=[9]++List.range' 28 25
theorem aeg: ∀(k:Nat) (Ci:Nat) (aG:List Nd) (bZ:Int) (gY:Int) (I4:Int) (I5:Int) (I6:Str) (I7:List Str) (Dx:List Int) (yG:Int) (uK:Ck) (lq:Ck) (aB σ:Nat->PV) (H0 H:AH) (f0:Fr U7 aB σ) (hf0:HF [Ci] H0 H) (sl:σ 0=(.ak (aG.map Nd.cells) .unk)/\σ 5=(.int .i64 bZ)/\σ 7=(.int .i64 gY)/\σ 8=(.ref (Ci) 0)/\σ 9=(.int .i64 yG)/\H.obj Ci=some [(.int .i64 I4),(.int .i64 I5),(.str I6),(.ak (I7.map aH) .unk),(.ak (Dx.map aS) uK)]) (O6:Ci<H.next) (acL:bq H uK) (Ce:bq H lq) (sW:kr uK lq) (o:(Int×Int×Str×(List Str)×(List Int))) (h:qm k aG bZ gY I4 I5 I6 I7 Dx yG=some o) (Q:Post) (q0: ∀(p:Int×Int×Str×(List Str)×(List Int)) (c4:Ck) (σ':Nat->PV) (H':AH),o=p->Fr U7 aB σ'->HF [Ci] H0 H'->(H'.obj Ci=some [(.int .i64 p.1),(.int .i64 p.2.1),(.str p.2.2.1),(.ak (p.2.2.2.1.map aH) .unk),(.ak (p.2.2.2.2.map aS) c4)])->bq H' lq->Q (.exit 2) σ' H'),W Tryz.prog (.loop Q0) Q σ H:=by
 intro k
 induction k with
 |zero=>intro Ci aG bZ gY I4 I5 I6 I7 Dx yG uK lq aB σ H0 H f0 hf0 sl O6 acL Ce sW o h Q q0;simp only [qm,reduceCtorEq]at h
 |succ k ih=>
  intro Ci aG bZ gY I4 I5 I6 I7 Dx yG uK lq aB σ H0 H f0 hf0 sl O6 acL Ce sW o h Q q0;obtain⟨s0,s5,s7,s8,s9,aBG⟩:=sl;have aBH:=ne_next O6;have aBI:=aZ O6;have hle0:=hf0.1;unfold qm at h;refine aW (fun K hK=>aC ?_);unfold Q0;obtain⟨e9,h⟩:=aU h;obtain⟨x10,e11,h⟩:=aj h;obtain⟨e12,h⟩|⟨e12,h⟩:=aA h
  ·refine ah ?_;refine iJ ?_;obtain⟨e13,h⟩:=aU h;obtain⟨x14,e15,h⟩:=aj h;obtain⟨e20,h⟩:=aU h;refine ah ?_;refine gq (f:=aS) uZ Dx ([(IntKind.wrap .i64 (x14 -bZ))]:List Int) uK .exact au au eZ (by first|exact e20|(simp only [List.length_cons,List.length_nil];exact e20)) (fun c16 H17 arp le aAW aAX=> ?_);have aAY:HF [] _ H17:=⟨le,fun i _ _=>aAW i⟩;try simp only [AH.aK,AH.aL,AH.aM,AH.aN]at le
   obtain⟨aru,aAZ⟩:=aAX lq eZ sW;have n25:=ne_next (show Ci<H17.next from bP);have m26:=aZ (show Ci<H17.next from bP);refine ah ?_;refine hK _ _ ?_;exact ih Ci aG bZ gY I4 I5 I6 I7 (Dx++[(IntKind.wrap .i64 (x14 -bZ))]) (IntKind.wrap .i64 (yG+1)) c16 lq _ _ _ _ aI (by repeat (first|exact hf0|refine HF.new ?_|refine HF.qJ ?_|refine HF.used ?_|refine HF.put (by first|(right;omega)|(left;simp only [List.mem_cons,true_or,or_true])) ?_|refine HF.via aAY (by first|exact fun i hi=>absurd hi List.not_mem_nil|(intro i hi;simp only [List.mem_cons,List.not_mem_nil,or_false]at hi⊢;first|exact .inl hi|omega)) ?_)) au bP eZ eZ aAZ _ h _ q0
  ·cases h;refine ah ?_;exact q0 _ uK _ _ rfl aI nZ au eZ
def rG:Nat->(List Nd)->Int->Int->(List Nd)->Int->Option (List Nd)
 |0,_,_,_,_,_=>none
 |k+1,aG,dD,bZ,mg,gY=>
  cond (decide (gY<=dD)) (if 0<=gY then (aG[gY.toNat]?).bind fun x5=>(kJ x5.names).bind fun p8=>Option.bind (qm k aG bZ gY x5.kind x5.n x5.text p8 ([]:List Int) 0) (fun p29=>if(mg.length+1)*80<=1099511627776 then rG k aG dD bZ (mg++[(Nd.mk p29.1 p29.2.1 p29.2.2.1 p29.2.2.2.1 p29.2.2.2.2)]) (IntKind.wrap .i64 (gY+1))else none)else none) (some (mg))
def U8:List Nat:=[6,7,8,9]++List.range' 14 43
theorem aeh: ∀(k:Nat) (aG:List Nd) (dD:Int) (bZ:Int) (mg:List Nd) (gY:Int) (rH:Ck) (aB σ:Nat->PV) (H0 H:AH) (f0:Fr U8 aB σ) (hf0:HF [] H0 H) (sl:σ 0=(.ak (aG.map Nd.cells) .unk)/\σ 1=(.int .i64 dD)/\σ 5=(.int .i64 bZ)/\σ 6=(.ak (mg.map Nd.cells) rH)/\σ 7=(.int .i64 gY)) (G5:bq H rH) (o:List Nd) (h:rG k aG dD bZ mg gY=some o) (Q:Post) (q0: ∀(p:List Nd) (c0:Ck) (σ':Nat->PV) (H':AH),o=p->Fr U8 aB σ'->HF [] H0 H'->(σ' 6=(.ak (p.map Nd.cells) c0))->Q (.exit 0) σ' H'),W Tryz.prog (.loop Q5) Q σ H:=by
 intro k
 induction k with
 |zero=>intro aG dD bZ mg gY rH aB σ H0 H f0 hf0 sl G5 o h Q q0;simp only [rG,reduceCtorEq]at h
 |succ k ih=>
  intro aG dD bZ mg gY rH aB σ H0 H f0 hf0 sl G5 o h Q q0;obtain⟨s0,s1,s5,s6,s7⟩:=sl;have hle0:=hf0.1;unfold rG at h;refine aW (fun K hK=>aC ?_);unfold Q5;obtain⟨e3,h⟩|⟨e3,h⟩:=aA h
  ·obtain⟨e4,h⟩:=aU h;obtain⟨x5,e6,h⟩:=aj h;obtain⟨p8,e7,h⟩:=aj h;refine ah ?_;refine av (A9 e7) ?_;refine ah ?_;obtain⟨o27,h28,h⟩:=aj h;refine aeg k (H.next) aG bZ gY x5.kind x5.n x5.text p8 ([]:List Int) 0 .nil rH _ _ _ _ (Fr.refl _ _) (HF.refl _ _) au bP eZ eZ kr.nil _ h28 _ ?_
   ·rintro p29 c33 σ' U9 eo Jj at6 g34 aGa;rw [eo]at h;have s36:σ' 0=(.ak (aG.map Nd.cells) .unk):=(Jj 0 (by decide)).trans au;have s37:σ' 1=(.int .i64 dD):=(Jj 1 (by decide)).trans au;have s38:σ' 5=(.int .i64 bZ):=(Jj 5 (by decide)).trans au;have s39:σ' 6=(.ak (mg.map Nd.cells) rH):=(Jj 6 (by decide)).trans au;have s40:σ' 7=(.int .i64 gY):=(Jj 7 (by decide)).trans au;have s41:σ' 8=(.ref (H.next) 0):=(Jj 8 (by decide)).trans au;have le:=at6.1;try simp only [AH.aK,AH.aL,AH.aM,AH.aN]at le
    have n43:=ne_next (show H.next<U9.next from bP);have m44:=aZ (show H.next<U9.next from bP);obtain⟨e49,h⟩:=aU h;refine ah ?_;refine gq (f:=Nd.cells) Nd.row mg ([(Nd.mk p29.1 p29.2.1 p29.2.2.1 p29.2.2.2.1 p29.2.2.2.2)]:List Nd) rH .exact au au eZ (by first|exact e49|(simp only [List.length_cons,List.length_nil];exact e49)) (fun c45 H46 aAB le aln aAC=> ?_);have Xr:HF [] _ H46:=⟨le,fun i _ _=>aln i⟩;try simp only [AH.aK,AH.aL,AH.aM,AH.aN]at le
    have n52:=ne_next (show H.next<H46.next from bP);have m53:=aZ (show H.next<H46.next from bP);refine ah ?_;refine hK _ _ ?_;exact ih aG dD bZ (mg++[(Nd.mk p29.1 p29.2.1 p29.2.2.1 p29.2.2.2.1 p29.2.2.2.2)]) (IntKind.wrap .i64 (gY+1)) c45 _ _ _ _ (by repeat (first|exact f0|refine Fr.upd (by decide) ?_|refine Fr.via Jj (by decide) ?_)) (by repeat (first|exact hf0|refine HF.new ?_|refine HF.qJ ?_|refine HF.used ?_|refine HF.put (by first|(right;omega)|(left;simp only [List.mem_cons,true_or,or_true])) ?_|refine HF.via at6 (by first|exact fun i hi=>absurd hi List.not_mem_nil|(intro i hi;simp only [List.mem_cons,List.not_mem_nil,or_false]at hi⊢;first|exact .inl hi|omega)) ?_|refine HF.via Xr (by first|exact fun i hi=>absurd hi List.not_mem_nil|(intro i hi;simp only [List.mem_cons,List.not_mem_nil,or_false]at hi⊢;first|exact .inl hi|omega)) ?_)) au eZ _ h _ q0
  ·cases h;refine ah ?_;exact q0 _ rH _ _ rfl aI nZ au
def Oo (k:Nat) (aG:List Nd) (dD:Int):Option (List Nd):=
 (vg k aG dD).bind fun p2=>Option.bind (rG k aG dD p2 ([]:List Nd) p2) (fun p56=>some p56)
theorem aly {k:Nat} {aG:List Nd} {dD:Int} {c0:Ck} {r:List Nd} (h:Oo k aG dD=some r):aD Tryz.prog 139 [(.ak (aG.map Nd.cells) c0),(.int .i64 dD)] (.ak (r.map Nd.cells) .unk):=by
 refine aD.lw (.ak (.same .nil)) (aD.aO (aX.mem (.cons (aT Nd.pu _) (.cons (.int _ _) .nil))) (aF avD (by simp) (aC ?_)) (aT Nd.pu _));unfold Oo at h;unfold amt;obtain⟨p2,e1,h⟩:=aj h;refine ah ?_;refine av (Nn e1) ?_;refine ah ?_;obtain⟨o54,h55,h⟩:=aj h;refine aeh k aG dD p2 ([]:List Nd) p2 .nil _ _ _ _ (Fr.refl _ _) (HF.refl _ _) au eZ _ h55 _ ?_
 ·rintro p56 c60 σ' H59 eo aGb ag0 s61;rw [eo]at h;have le:=ag0.1;try simp only [AH.aK,AH.aL,AH.aM,AH.aN]at le
  cases h;refine ah ?_;exact(dS Nd.pu _ _)
def zW (k:Nat) (aG:List Nd) (acM:Int):Option (List Nd):=
 (Gx aG).bind fun p2=>if 0<=acM then (p2.args[acM.toNat]?).bind fun x4=>(Oo k aG x4).bind fun p7=>some p7 else none
theorem aei {k:Nat} {aG:List Nd} {acM:Int} {c0:Ck} {r:List Nd} (h:zW k aG acM=some r):aD Tryz.prog 73 [(.ak (aG.map Nd.cells) c0),(.int .i64 acM)] (.ak (r.map Nd.cells) .unk):=by
 refine aD.lw (.ak (.same .nil)) (aD.aO (aX.mem (.cons (aT Nd.pu _) (.cons (.int _ _) .nil))) (aF azm (by simp) (aC ?_)) (aT Nd.pu _));unfold zW at h;unfold arL;obtain⟨p2,e1,h⟩:=aj h;refine ah ?_;refine av (abL e1) ?_;obtain⟨e3,h⟩:=aU h;obtain⟨x4,e5,h⟩:=aj h;obtain⟨p7,e6,h⟩:=aj h;refine ah ?_;refine av (aly e6) ?_;cases h;refine ah ?_;exact(dS Nd.pu _ _)
def qo:Nat->(List Str)->(List Str)->Str->Int->Option (Unit⊕Str)
 |0,_,_,_,_=>none
 |k+1,mF,mh,s_2,gY=>
  cond (decide (gY>=0)) (if 0<=gY then (mF[gY.toNat]?).bind fun x3=>cond (x3==s_2) ((mh[gY.toNat]?).bind fun x6=>some (.inr (x6))) (qo k mF mh s_2 (IntKind.wrap .i64 (gY -1)))else none) (some (.inl ()))
def G6:List Nat:=[6,7]++List.range' 11 14
theorem ZF: ∀(k:Nat) (mF:List Str) (mh:List Str) (s_2:Str) (gY:Int) (aB σ:Nat->PV) (H:AH) (f0:Fr G6 aB σ) (sl:σ 0=(.ak (mF.map aH) .unk)/\σ 1=(.ak (mh.map aH) .unk)/\σ 2=(.str s_2)/\σ 7=(.int .i64 gY)) (o:Unit⊕Str) (h:qo k mF mh s_2 gY=some o) (Q:Post) (q0: ∀(p:Unit) (σ':Nat->PV),o= .inl p->Fr G6 aB σ'->Q (.exit 0) σ' H) (q1: ∀(p:Str) (σ':Nat->PV),o= .inr (p)->Fr G6 aB σ'->(σ' 6=(.str p))->Q .ret σ' H),W Tryz.prog (.loop Sn) Q σ H:=by
 intro k
 induction k with
 |zero=>intro mF mh s_2 gY aB σ H f0 sl o h Q q0 q1;simp only [qo,reduceCtorEq]at h
 |succ k ih=>
  intro mF mh s_2 gY aB σ H f0 sl o h Q q0 q1;obtain⟨s0,s1,s2,s7⟩:=sl;unfold qo at h;refine aW (fun K hK=>aC ?_);unfold Sn;obtain⟨e1,h⟩|⟨e1,h⟩:=aA h
  ·obtain⟨e2,h⟩:=aU h;obtain⟨x3,e4,h⟩:=aj h;obtain⟨e5,h⟩|⟨e5,h⟩:=aA h
   ·obtain⟨x6,e7,h⟩:=aj h;cases h;refine ah ?_;exact q1 _ _ rfl aI au
   ·refine ah ?_;refine hK _ _ ?_;exact ih mF mh s_2 (IntKind.wrap .i64 (gY -1)) _ _ _ aI au _ h _ q0 q1
  ·cases h;refine ah ?_;exact q0 _ _ rfl aI
def xI (k:Nat) (mF:List Str) (mh:List Str) (s_2:Str):Option Str:=
 Option.bind (qo k mF mh s_2 (IntKind.wrap .i64 ((mF.length:Int) -1))) (fun o=>Sum.elim (fun iM=>some s_2) (fun wD=>some wD) o)
theorem ag8 {k:Nat} {mF:List Str} {mh:List Str} {s_2:Str} {c0 c1:Ck} {r:Str} (h:xI k mF mh s_2=some r):aD Tryz.prog 262 [(.ak (mF.map aH) c0),(.ak (mh.map aH) c1),(.str s_2)] (.str r):=by
 refine aD.lw (.ak (.ak (.same .nil))) (aD.aO (aX.mem (.cons (aT bE _) (.cons (aT bE _) (.cons (.str _) .nil)))) (aF awF (by simp) (aC ?_)) (.str _));unfold xI at h;unfold anv;refine ah ?_;obtain⟨o8,h9,h⟩:=aj h;refine ZF k mF mh s_2 (IntKind.wrap .i64 ((mF.length:Int) -1)) _ _ _ (Fr.refl _ _) au _ h9 _ ?_ ?_
 ·rintro iM σ' eo CP;subst eo;rw [bI]at h;have J8:σ' 2=(.str s_2):=(CP 2 (by decide)).trans au;cases h;refine ah ?_;exact(.pure _ (.str _))
 ·rintro wD σ' eo Ji oW;subst eo;rw [bL]at h;cases h;refine ah ?_;exact(.pure _ (.str _))
def rJ:Nat->(List Str)->Str->Int->Option (Unit⊕Int)
 |0,_,_,_=>none
 |k+1,bB,s_1,dI=>
  cond (decide (dI<(bB.length:Int))) (if 0<=dI then (bB[dI.toNat]?).bind fun x3=>cond (x3==s_1) (some (.inr (dI))) (rJ k bB s_1 (IntKind.wrap .i64 (dI+1)))else none) (some (.inl ()))
def Jz:List Nat:=List.range' 4 15
theorem acN: ∀(k:Nat) (bB:List Str) (s_1:Str) (dI:Int) (aB σ:Nat->PV) (H:AH) (f0:Fr Jz aB σ) (sl:σ 0=(.ak (bB.map aH) .unk)/\σ 1=(.str s_1)/\σ 5=(.int .i64 dI)) (o:Unit⊕Int) (h:rJ k bB s_1 dI=some o) (Q:Post) (q0: ∀(p:Unit) (σ':Nat->PV),o= .inl p->Fr Jz aB σ'->Q (.exit 0) σ' H) (q1: ∀(p:Int) (σ':Nat->PV),o= .inr (p)->Fr Jz aB σ'->(σ' 4=(.int .i64 p))->Q .ret σ' H),W Tryz.prog (.loop QA) Q σ H:=by
 intro k
 induction k with
 |zero=>intro bB s_1 dI aB σ H f0 sl o h Q q0 q1;simp only [rJ,reduceCtorEq]at h
 |succ k ih=>
  intro bB s_1 dI aB σ H f0 sl o h Q q0 q1;obtain⟨s0,s1,s5⟩:=sl;unfold rJ at h;refine aW (fun K hK=>aC ?_);unfold QA;obtain⟨e1,h⟩|⟨e1,h⟩:=aA h
  ·obtain⟨e2,h⟩:=aU h;obtain⟨x3,e4,h⟩:=aj h;obtain⟨e5,h⟩|⟨e5,h⟩:=aA h
   ·cases h;refine ah ?_;exact q1 _ _ rfl aI au
   ·refine ah ?_;refine hK _ _ ?_;exact ih bB s_1 (IntKind.wrap .i64 (dI+1)) _ _ _ aI au _ h _ q0 q1
  ·cases h;refine ah ?_;exact q0 _ _ rfl aI
def KC (k:Nat) (bB:List Str) (s_1:Str):Option Int:=
 Option.bind (rJ k bB s_1 0) (fun o=>Sum.elim (fun p8=>some (-1)) (fun ng=>some ng) o)
theorem ajh {k:Nat} {bB:List Str} {s_1:Str} {c0:Ck} {r:Int} (h:KC k bB s_1=some r):aD Tryz.prog 114 [(.ak (bB.map aH) c0),(.str s_1)] (.int .i64 r):=by
 refine aD.lw (.ak (.same .nil)) (aD.aO (aX.mem (.cons (aT bE _) (.cons (.str _) .nil))) (aF avu (by simp) (aC ?_)) (.int _ _));unfold KC at h;unfold amh;refine ah ?_;obtain⟨o6,h7,h⟩:=aj h;refine acN k bB s_1 0 _ _ _ (Fr.refl _ _) au _ h7 _ ?_ ?_
 ·rintro p8 σ' eo Im;subst eo;rw [bI]at h;cases h;refine ah ?_;exact(.pure _ (.int _ _))
 ·rintro ng σ' eo La s16;subst eo;rw [bL]at h;cases h;refine ah ?_;exact(.pure _ (.int _ _))
end Go.VL
end
section
namespace Go.VL
open Go.Proofs Go.RowKit
def Cj (taken:List Str):Nat->Int->Option (Str×Int)
 |0,_=>none
 |k+1,c=>if 0<=c/\c<=9000 then (Gv k (c+1)).bind fun d=>if d.length<=100 then (nu k taken ([98,95]++d)).bind fun b=>cond b (Cj taken k (c+1)) (some ([98,95]++d,c+1))else none else none
theorem aej (taken:List Str) (o:Nat): ∀(k:Nat) (c:Int) (s:Str) (c':Int) (σ:Nat->PV) (H:AH) (cl:Ck) (Q:Post),Cj taken k c=some (s,c')->σ 0= .ref o 0->H.obj o=some [.ak (taken.map aH) cl,.int .i64 c]->
 (∀σ',σ' 2= .str s->Q .ret σ' (H.put o [.ak (taken.map aH) cl,.int .i64 c']))->W Tryz.prog (.loop Sr) Q σ H:=by
 intro k
 induction k with
 |zero=>intro c s c' σ H cl Q h;cases h
 |succ k ih=>
  intro c s c' σ H cl Q h s0 ho q0;rw [Cj]at h;obtain⟨hc,h⟩:=aU h;obtain⟨d,hd,h⟩:=aj h;obtain⟨hdl,h⟩:=aU h;obtain⟨b,hb,h⟩:=aj h;have hw:IntKind.wrap .i64 (c+1)=c+1:=by rw [IntKind.wrap_i64];omega
  have hg:([98,95]:Str).length+d.length<=4611686018427387904:=by simp;omega
  refine aW (fun K hK=>aC ?_);unfold Sr;simp -implicitDefEqProofs only [go_sem,dL,s0,ho,hw,Nat.le_refl];refine av (akX hd) ?_;simp -implicitDefEqProofs only [go_sem,dL,Nat.le_refl];refine TW hg ?_;have Bf:(H.put o [.ak (taken.map aH) cl,.int .i64 (c+1)]).obj o=some [.ak (taken.map aH) cl,.int .i64 (c+1)]:=by
   show(if o=o then _ else _)=_
   rw [if_pos rfl]
  simp -implicitDefEqProofs only [go_sem,dL,s0,Bf,Nat.le_refl];refine av (Am hb) ?_;obtain⟨e1,h⟩|⟨e1,h⟩:=aA h
  · subst e1;simp -implicitDefEqProofs only [go_sem,dL,Nat.le_refl];refine hK _ _ (ih (c+1) s c' _ _ cl Q h aP Bf fun σ' h2=> ?_);rw [ae2];exact q0 σ' h2
  · subst e1;cases ZU h;simp -implicitDefEqProofs only [go_sem,dL,Nat.le_refl];exact q0 _ aP
theorem ag9 {taken:List Str} {o:Nat} {k:Nat} {c:Int} {s:Str} {c':Int} {H:AH} {cl:Ck} (h:Cj taken k c=some (s,c')) (ho:H.obj o=some [.ak (taken.map aH) cl,.int .i64 c]):
 bA Tryz.prog 263 [.ref o 0] H fun v H'=>v= .str s/\H'=H.put o [.ak (taken.map aH) cl,.int .i64 c']:=by
 refine aF awG (by simp) (aC ?_);unfold anw;simp -implicitDefEqProofs only [go_sem];refine aej taken o k c s c' _ H cl _ h aP ho fun σ' h2=> ?_;simp -implicitDefEqProofs only [go_sem,h2,and_self]
structure pW (H:AH) (l:List Str) (v:PV) (ids:List Nat):Prop where
 len:xP v=some (.int .i64 l.length)
 at_: ∀(i:Nat) s,l[i]? =some s-> ∃id off C,jV 1 v (.int .i64 i)=some (.ref id off)/\id∈ids/\id<H.next/\H.obj id=some C/\C[off]? =some (.str s)
theorem pW.hf {M:List Nat} {H H':AH} {l:List Str} {v:PV} {ids:List Nat} (h:pW H l v ids) (hf:HF M H H') (hd:Dj ids M):pW H' l v ids:=
 ⟨h.len,fun i s e=>let ⟨id,off,C,h1,h2,h3,h4,h5⟩:=h.at_ i s e;⟨id,off,C,h1,h2,Nat.lt_of_lt_of_le h3 hf.1,(hf.2 id h3 (hd id h2)).trans h4,h5⟩⟩
theorem pW.nil {H:AH} {c:Ck} {ids:List Nat}:pW H [] (.ak [] c) ids:=⟨rfl,fun i s e=>by simp at e⟩
theorem jc.cells {H:AH} {n:Nd} {id len cap:Nat} (h:jc H (n,.m id len cap)):len=n.names.length/\n.names.length<=cap/\id<H.next/\ ∃C,H.obj id=some C/\C.length=cap/\ ∀(i:Nat) s,n.names[i]? =some s->C[i]? =some (.str s):=by
 obtain⟨h0,h⟩:=h;have h':aJ H aH 1 n.names (.bR id 0 len cap 1) [id]:=h;have hl:=h'.aaL;have hlen:len=n.names.length:=by
  simp only [xP,Option.some.injEq,PV.int.injEq,true_and]at hl;omega
 have h'':=h';rcases h' with⟨e,_⟩|⟨id',cap',junk,e1,e2,e3,e4,e5,e6⟩
 · cases e
 · cases e2;refine⟨hlen,e3,e4,_,e5,?_,fun i s e=> ?_⟩
   · have hfl:((n.names.map aH).flatten).length=n.names.length*1:=lJ (f:=aH) (fun _=>rfl) _;rw [List.length_append,hfl,e6];omega
   · obtain⟨id2,C,q1,q2,q3,q4,_⟩:=aJ.content h'' e;obtain rfl:id=id2:=by simpa using q1
     rw [e5]at q3;cases q3;have:=q4 0 (.str s) rfl;simpa using this
theorem pW.part {H:AH} {n:Nd} {id len cap:Nat} (h:jc H (n,.m id len cap)) {a b:Nat} (hb:a+b<=n.names.length) (cap':Nat):pW H ((n.names.drop a).take b) (.bR id a b cap' 1) [id]:=by
 obtain⟨h1,h2,h3,C,h4,h5,h6⟩:=h.cells;have hl:((n.names.drop a).take b).length=b:=by rw [List.length_take,List.length_drop];omega
 refine⟨by simp only [xP,hl],fun i s e=>⟨id,a+i,C,?_,List.mem_singleton.2 rfl,h3,h4,?_⟩⟩
 · have:=(List.getElem?_eq_some_iff.1 e).1;rw [hl]at this;simp only [jV];rw [if_pos ⟨by omega,by omega,trivial⟩];simp
 · rw [List.getElem?_take]at e;split at e
   · rw [List.getElem?_drop]at e;exact h6 _ s e
   · cases e
theorem pW.whole {H:AH} {n:Nd} {y:NV} (h:jc H (n,y)):pW H n.names y.pv y.ids:=by
 cases y with
 |p l=>
  obtain⟨h1,h2⟩:l=[]/\n.names=[]:=h;subst h1;rw [h2];exact pW.nil
 |m id len cap=>
  have h1:=h.cells.1;have:=pW.part h (a:=0) (b:=n.names.length) (by omega) cap;rw [List.drop_zero,List.take_length]at this;subst h1;exact this
theorem acO {H:AH} {n:Nd} {y:NV} {p:Nat} {r:List Str} (hy:jc H (n,y)) (h:iq n (p:Int)=some r):bA Tryz.prog 240 [.agg (jr (n,y)),.int .i64 p] H fun v H'=>pW H' r v y.ids/\HF [] H H'/\ ∀c,bq H c->bq H' c:=by
 refine aF agc (by simp) (aC ?_);have hnew:HF [] H (H.new (jr (n,y))):=HF.new (HF.refl _ _);have hok: ∀c,bq H c->bq (H.new (jr (n,y))) c:=fun c k=>k.new;have hy':=hy.hf hnew (fun _ _ h=>by cases h);unfold iq at h;unfold ZT;simp -implicitDefEqProofs only [go_sem,dL,jr,Nat.le_refl];obtain⟨o9,h10,h⟩:=aj h;have Bf:(H.new (jr (n,y))).obj H.next=some (jr (n,y)):=by
  show(if H.next=H.next then some _ else _)=_
  rw [if_pos rfl]
 refine Gy n.kind _ _ _ (Fr.refl _ _) aP _ h10 _ ?_;rintro ni σ' eo qC s15;rw [eo]at h;have s16:σ' 2=(.ref H.next 0):=(qC 2 (by decide)).trans aP;have tK:σ' 5=(.bool ((p:Int)==(IntKind.wrap .i64 ((n.args.length:Int) -1)))):=(qC 5 (by decide)).trans aP;have iX:σ' 13=(.int .i64 n.kind):=(qC 13 (by decide)).trans aP;clear qC;obtain⟨e19,h⟩|⟨e19,h⟩:=aA h
 · obtain⟨e20,h⟩|⟨e20,h⟩:=aA h
   · cases h;simp -implicitDefEqProofs only [go_sem,dL,s15,s16,tK,iX,e19,e20];exact⟨pW.whole hy',hnew,hok⟩
   · cases h;simp -implicitDefEqProofs only [go_sem,dL,s15,s16,tK,iX,e19,e20];exact⟨pW.nil,hnew,hok⟩
 · obtain⟨e21,h⟩|⟨e21,h⟩:=aA h
   · have hm:1<=n.names.length-> ∃id len cap,y= .m id len cap/\len=n.names.length/\n.names.length<=cap:=by
      intro h1;cases y with
      |p l=>have h2:n.names=[]:=hy.2;rw [h2]at h1;simp at h1
      |m id len cap=>exact⟨id,len,cap,rfl,hy.cells.1,hy.cells.2.1⟩
     obtain⟨e22,h⟩|⟨e22,h⟩:=aA h
     · obtain⟨e23,h⟩:=aU h;cases h;obtain⟨id,len,cap,rfl,rfl,hcap⟩:=hm e23;have hs:nY 1 (.bR id 0 n.names.length cap 1) none (some (.int .i64 1)) none=some (.bR id 0 1 cap 1):=by
        simp only [nY,nk];rw [if_pos (by decide)];simp only [Int.toNat_one];rw [if_pos ⟨Nat.zero_le _,e23,trivial,by omega,by omega⟩];simp
       simp -implicitDefEqProofs only [go_sem,dL,s15,s16,tK,iX,e19,e21,e22,NV.pv,hs];refine⟨?_,hnew,hok⟩;have:=pW.part hy' (a:=0) (b:=1) (by omega) cap;rw [List.drop_zero]at this;exact this
     · obtain⟨e24,h⟩|⟨e24,h⟩:=aA h
       · cases h;simp -implicitDefEqProofs only [go_sem,dL,s15,s16,tK,iX,e19,e21,e22,e24];exact⟨pW.whole hy',hnew,hok⟩
       · obtain⟨e25,h⟩:=aU h;cases h;obtain⟨id,len,cap,rfl,rfl,hcap⟩:=hm e25;by_cases h1:1<cap
         · have hs:nY 1 (.bR id 0 n.names.length cap 1) (some (.int .i64 1)) none none=some (.bR id 1 (n.names.length -1) (cap -1) 1):=by
            simp only [nY,nk];rw [if_pos (by decide)];simp only [Int.toNat_one];rw [if_pos ⟨e25,Nat.le_refl _,trivial,h1,hcap⟩]
           simp -implicitDefEqProofs only [go_sem,dL,s15,s16,tK,iX,e19,e21,e22,e24,NV.pv,hs];refine⟨?_,hnew,hok⟩;have:=pW.part hy' (a:=1) (b:=n.names.length -1) (by omega) (cap -1);rw [List.take_of_length_le (by rw [List.length_drop];omega)]at this;exact this
         · have hl1:n.names.length=1:=by omega
           have hc1:cap=1:=by omega
           subst hc1;have hs:nY 1 (.bR id 0 n.names.length 1 1) (some (.int .i64 1)) none none=some (.ak [] .unk):=by
            rw [hl1];rfl
           simp -implicitDefEqProofs only [go_sem,dL,s15,s16,tK,iX,e19,e21,e22,e24,NV.pv,hs];refine⟨?_,hnew,hok⟩;rw [List.drop_of_length_le (by omega)];exact pW.nil
   · cases h;simp -implicitDefEqProofs only [go_sem,dL,s15,s16,tK,iX,e19,e21];exact⟨pW.nil,hnew,hok⟩
section
variable [Glob] {P:Program} {Q:Post} {σ:Nat->PV} {s:List Fm} {α:Type} {H:AH} {f:α->List PV} {sz:Nat}
theorem aji {d:Option Nat} {b:Nat} {x y:AE} {l:List aR} [hr:mX f sz] (hf: ∀x,kT sz (f x)) (ys:List α) {yv:PV}
 (hx:x.ev σ= .ak [] .exact) (hy:y.ev σ=yv) (hrow:rowOf sz H yv=some (ys.map f)) (hs:0<ys.length) (hb:ys.length*b<=1099511627776)
 (h: ∀(v':PV) (gZ:List Nat) (H':AH),aJ H' f sz ys v' gZ->Nw H [] gZ->HF [] H H'->(∀c3,bq H c3->bq H' c3)->WO P l s Q (upd σ d v') H'):
 WO P (⟨d,.n (.app sz b x y),none⟩::l) s Q σ H:=by
 show dH P _ _ σ H
 rw [FZ];simp only [nop,hx,hy];have h0: ¬((ys.map f).length=0):=by rw [List.length_map];omega
 have hx0:rowOf sz H (.ak [] .exact)=some []:=rfl;simp only [vS,hrow,hx0];rw [if_neg h0];split
 · intro cap hcap;simp only [List.length_map,List.length_nil,Nat.zero_add,List.nil_append]at hcap⊢;refine h _ [H.next] _ (.inr ⟨H.next,cap,List.replicate ((cap -ys.length)*sz) .any,rfl,rfl,hcap,Nat.lt_succ_self _,?_,by rw [List.length_replicate]⟩) (fun i hi=> .inr (by rw [List.mem_singleton.1 hi];exact Nat.le_refl _)) (HF.new (HF.refl _ _)) (fun c3 k=>k.new);show(if H.next=H.next then some _ else _)=_;rw [if_pos rfl]
 · rename_i hno;exact(hno ⟨oD hf ([]:List α),oD hf ys,by simpa using hb⟩).elim
end
theorem aek {H:AH} {n:Nd} {y:NV} (hy:jc H (n,y)) (hl:n.names.length<=1000000):bA Tryz.prog 181 [y.pv] H fun v H'=> ∃z:NV,v=z.pv/\jc H' (n,z)/\(∀j∈z.ids,H.next<=j)/\HF [] H H'/\ ∀c,bq H c->bq H' c:=by
 cases y with
 |p l=>
  obtain⟨h1,h2⟩:l=[]/\n.names=[]:=hy;subst h1;have:=Pz n hl H;rw [h2]at this;exact this
 |m id len cap=>
  have hy0:=hy;obtain⟨h0,hr⟩:=hy;have hr:aJ H aH 1 n.names (.bR id 0 len cap 1) [id]:=hr;have hlen:len=n.names.length:=hy0.cells.1;subst hlen;have hpos:0<n.names.length:=List.length_pos_iff.2 h0;obtain⟨id',cap',junk,e1,e2,e3,e4,e5,e6⟩: ∃id' cap' junk,[id]=[id']/\PV.bR id 0 n.names.length cap 1= .bR id' 0 n.names.length cap' 1/\n.names.length<=cap'/\id'<H.next/\H.obj id'=some ((n.names.map aH).flatten++junk)/\junk.length=(cap' -n.names.length)*1:=by
   rcases hr with⟨e,_⟩|h
   · cases e
   · exact h
  cases e2;have hrow:rowOf 1 H (.bR id 0 n.names.length cap 1)=some (n.names.map aH):=by
   simp only [rowOf,e5];have hfl:((n.names.map aH).flatten).length=n.names.length*1:=lJ (f:=aH) (fun _=>rfl) _;rw [if_pos ⟨trivial,by rw [List.length_append,hfl];omega⟩,List.drop_zero];have:=wu (sz:=1) (n.names.map aH) junk (fun cs h=>by obtain⟨s,_,rfl⟩:=List.mem_map.1 h;rfl);rw [List.length_map]at this;rw [this]
  show bA Tryz.prog 181 [.bR id 0 n.names.length cap 1] H _
  refine aF Cn.anU (by simp) (aC ?_);unfold Cn.agi;simp -implicitDefEqProofs only [go_sem];refine aji (f:=aH) jZ n.names aP aP hrow hpos (by omega) (fun v' gZ H' g1 g2 g3 g4=> ?_);simp -implicitDefEqProofs only [go_sem];have g1':=g1;rcases g1 with⟨_,h,_⟩|⟨id2,cap2,aEO,rfl,rfl,_⟩
  · exact absurd h h0
  · refine⟨.m id2 n.names.length cap2,rfl,⟨h0,g1'⟩,fun j hj=> ?_,g3,g4⟩;rcases g2 j hj with q|q
    · cases q
    · exact q
end Go.VL
end
section
namespace Go.VL
open Go.Proofs Go.RowKit
set_option maxRecDepth 100000
theorem ajj:Enters Tryz.prog 319:=⟨_,Tryz.func319,rfl,by kernel_rfl⟩
theorem alz:TQ Tryz.prog 319 2 true:=by
 intro l m bx n J Jx W hn hc hY h0;refine callsIn_of_wp Tryz.func319 rfl trivial ?_ rfl;simp only [Tryz.ntmps319,List.size_toArray,List.length_cons,List.length_nil,Nat.reduceAdd,Nat.reduceSub,Array.replicate_succ,Array.replicate_zero,List.push_toArray,List.append_toArray,List.nil_append,List.cons_append];obtain⟨ad0,cap0,hc0⟩:=hc
 gi_wp2
 gi_loopw [3] (fun v3 wr=> ∃k:Nat,v3= .int .i64 ((k:Int) -1)/\k<=n/\J k wr) (fun v3 wr=>(RowKit.intOf v3+1).toNat)
 case atStart=>exact⟨n,rfl,Nat.le_refl _,h0⟩
 case round=>
  obtain⟨k,rfl,hk,hJ⟩:=hrel;cases k with
  |zero=>
   have c1: ¬(0:Int)<=((0:Nat):Int) -1:=by omega
   gi_wp2
   go_end0
   exact⟨⟨_,rfl⟩,.inl hJ⟩
  |succ k=>
   obtain⟨b,o,cap,vs,hb,hkn,hvs,hld,fn,tmps,assign,body,hy,hR⟩:=hY k wr hJ;have e1:((k+1:Nat):Int) -1=(k:Int):=by omega
   rw [e1];have c1:(0:Int)<=(k:Int):=by omega
   have c2:(k:Int)<(n:Int):=by omega
   obtain⟨x0,x1,rfl⟩: ∃x0 x1,vs=#[x0,x1]:=by
    match vs,hvs with
    |⟨[x0,x1]⟩,_=>exact⟨x0,x1,rfl⟩
   have l0:wr.cell? ⟨b,o+k*2,none⟩=some x0:=by simpa using hld 0 x0 rfl
   have l1:wr.cell? ⟨b,o+k*2+1,none⟩=some x1:=by simpa using hld 1 x1 rfl
   have l2:wr.cell? ⟨b,o+(k*2+1),none⟩=some x1:=by rw [<-Nat.add_assoc];exact l1
   clear hld;have hev:elemV true #[x0,x1]=Value.agg #[x0,x1]:=rfl;rw [hev]at hy
   gi_wp2
   refine⟨fun hd=>absurd hd (by simp [Fence.wide]),(Pw hR).mono ?_⟩;rintro e W' (⟨rfl,hJ'⟩|⟨rfl,hJx⟩)
   · gi_wp2
     go_roundw
     case rel=>exact⟨k,rfl,by omega,hJ'⟩
     case measure=>simp [RowKit.intOf]
   · gi_wp2
     refine bodyPost_ret (results_none rfl _ _ _) rfl ?_;exact⟨⟨_,rfl⟩,.inr hJx⟩
end Go.VL
end
section
namespace Go.VL
open Go.Proofs Go.RowKit
theorem YF {α:Type} {f:α->List PV} (hf: ∀x,∀c∈f x,Pu c) (l:List α):Pu (.ak (l.map f) .exact):=by
 have h:=aT hf l;cases h with
 |ak _ _ h1 h2=>exact .ak _ _ h1 (by simp)
theorem ajk (l:List Scope) {c:Ck}:aD Tryz.prog 285 [.ak (l.map Scope.cells) c] (.ak (l.map Scope.cells) .exact):=by
 refine aD.wk (args:=[.ak (l.map Scope.cells) .unk]) ?_ (.ak .nil);refine aD.aO (aX.mem (.cons (aT Scope.pu _) .nil)) (aF awW (by simp) (aC ?_)) (YF Scope.pu l);unfold anN;simp -implicitDefEqProofs only [go_sem,aco Scope.cells 2];first|done|exact .pure _ (YF Scope.pu l)
def kS (l:List (Nd×NV)) (id o:Nat):List Nat:=o::id::(l.map fun x=>x.2.ids).flatten
structure kF (H:AH) (l:List (Nd×NV)) (v:PV) (id o lo:Nat) (left:List Str) (cl:Ck) (c:Int):Prop where
 own:Nj H l v id l.length lo
 obj:H.obj o=some [v,.ak (left.map aH) cl,.int .i64 c]
 lt:o<H.next
 ne:o≠id
 nen: ∀(i:Nat) (x:Nd×NV),l[i]? =some x->o∉x.2.ids
theorem O7 {l:List (Nd×NV)} {i:Nat} {x:Nd×NV} (h:l[i]? =some x) {a:Nat} (ha:a∈x.2.ids):a∈(l.map fun x=>x.2.ids).flatten:=
 List.mem_flatten.2 ⟨x.2.ids,List.mem_map.2 ⟨x,List.mem_of_getElem? h,rfl⟩,ha⟩
theorem kF.hf {H H':AH} {l:List (Nd×NV)} {v:PV} {id o lo:Nat} {left:List Str} {cl:Ck} {c:Int} {M:List Nat} (h:kF H l v id o lo left cl c) (hf:HF M H H') (hd:Dj (kS l id o) M):kF H' l v id o lo left cl c:=by
 have hdo:o∉M:=fun hm=>hd o List.mem_cons_self hm;have hdi:id∉M:=fun hm=>hd id (List.mem_cons_of_mem _ List.mem_cons_self) hm;have hdn: ∀(i:Nat) (x:Nd×NV),l[i]? =some x->Dj x.2.ids M:=fun i x hx a ha hm=>hd a (List.mem_cons_of_mem _ (List.mem_cons_of_mem _ (O7 hx ha))) hm;refine⟨⟨h.own.row.hf hf (fun a ha hm=>hdi (List.mem_singleton.1 ha▸hm)),fun i x hx=> ?_,h.own.dj,h.own.ne,h.own.lob,h.own.Wx⟩,(hf.2 o h.lt hdo).trans h.obj,Nat.lt_of_lt_of_le h.lt hf.1,h.ne,h.nen⟩;have:=h.own.ED i x hx;have hi:=(List.getElem?_eq_some_iff.1 hx).1;rw [if_pos hi]at this⊢;exact this.hf hf (hdn i x hx)
theorem kF.lts {H:AH} {l:List (Nd×NV)} {v:PV} {id o lo:Nat} {left:List Str} {cl:Ck} {c:Int} (h:kF H l v id o lo left cl c): ∀a∈kS l id o,a<H.next:=by
 intro a ha;simp only [kS,List.mem_cons]at ha;rcases ha with rfl|rfl|ha
 · exact h.lt
 · exact h.own.row.lt _ (List.mem_singleton.2 rfl)
 · obtain⟨is,h1,h2⟩:=List.mem_flatten.1 ha;obtain⟨x,h3,rfl⟩:=List.mem_map.1 h1;obtain⟨i,hi⟩:=List.mem_iff_getElem?.1 h3;have:=h.own.ED i x hi;rw [if_pos (List.getElem?_eq_some_iff.1 hi).1]at this;exact this.lt a h2
theorem kF.new {H H':AH} {l:List (Nd×NV)} {v:PV} {id o lo:Nat} {left:List Str} {cl:Ck} {c:Int} (h:kF H l v id o lo left cl c) {M:List Nat} (hf:HF M H H') (hM: ∀a∈M,H.next<=a):kF H' l v id o lo left cl c:=
 h.hf hf fun a ha hm=>by have:=h.lts a ha;have:=hM a hm;omega
theorem kF.set {H H':AH} {l:List (Nd×NV)} {v:PV} {id o lo:Nat} {left:List Str} {cl:Ck} {c:Int} (h:kF H l v id o lo left cl c) {i:Nat} {n m:Nd} {y:NV} (hx:l[i]? =some (n,y)) (hn:m.names=n.names)
 (hr:aJ H' jr 5 (l.set i (m,y)) v [id]) (hf:HF [id] H H'):kF H' (l.set i (m,y)) v id o lo left cl c:=by
 have hi:=(List.getElem?_eq_some_iff.1 hx).1;have hget: ∀(k:Nat) (x:Nd×NV),(l.set i (m,y))[k]? =some x-> ∃x0,l[k]? =some x0/\x.2=x0.2/\x.1.names=x0.1.names:=by
  intro k x e;rw [List.getElem?_set]at e;by_cases hk:i=k
  · subst hk;rw [if_pos rfl,if_pos hi]at e;cases e;exact⟨_,hx,rfl,hn⟩
  · rw [if_neg hk]at e;exact⟨x,e,rfl,rfl⟩
 refine⟨⟨hr,fun k x e=> ?_,fun k k' x x' e e' hne=> ?_,fun k x e=> ?_,fun k x e=> ?_,h.own.Wx⟩,?_,Nat.lt_of_lt_of_le h.lt hf.1,h.ne,fun k x e=> ?_⟩
 · obtain⟨x0,e0,q1,q2⟩:=hget k x e;have hk:=(List.getElem?_eq_some_iff.1 e0).1;have Lv:=h.own.ED k x0 e0;rw [if_pos hk]at Lv;rw [if_pos (by rw [List.length_set];exact hk)];have:=Lv.hf hf fun a ha hm=>h.own.ne k x0 e0 (List.mem_singleton.1 hm▸ha);obtain⟨n1,y1⟩:=x;obtain⟨n0,y0⟩:=x0;simp only at q1 q2;subst q1;unfold jc at this⊢;cases y1 with
   |p l=>simp only at this⊢;rw [q2];exact this
   |m a b d=>simp only at this⊢;rw [q2];exact this
 · obtain⟨x0,e0,q1,_⟩:=hget k x e;obtain⟨x0',e0',q1',_⟩:=hget k' x' e';rw [q1,q1'];exact h.own.dj k k' x0 x0' e0 e0' hne
 · obtain⟨x0,e0,q1,_⟩:=hget k x e;rw [q1];exact h.own.ne k x0 e0
 · obtain⟨x0,e0,q1,_⟩:=hget k x e;rw [q1];exact h.own.lob k x0 e0
 · exact(hf.2 o h.lt fun hm=>h.ne (List.mem_singleton.1 hm)).trans h.obj
 · obtain⟨x0,e0,q1,_⟩:=hget k x e;rw [q1];exact h.nen k x0 e0
theorem acP {l:List (Nd×NV)} {id o i:Nat} {n m:Nd} {y:NV} (hx:l[i]? =some (n,y)):kS (l.set i (m,y)) id o=kS l id o:=by
 unfold kS;congr 3;rw [List.map_set];obtain⟨h,e⟩:=List.getElem?_eq_some_iff.1 hx;have:(l.map fun x=>x.2.ids)[i]'(by simpa using h)=y.ids:=by rw [List.getElem_map,e]
 rw [<-this,List.set_getElem_self]
theorem ajm (s:Scope):kT 2 s.cells:=row_of rfl rfl
def lI:List Scope->Str->Str
 |[],t=>t
 |s::l,t=>if(l.any fun s=>decide (s.old=t))=true then lI l t else if s.old=t then s.new else lI l t
theorem aub {H:AH} {n:Nd} {y:NV} (h:jc H (n,y)):Fz H (.agg (jr (n,y))) (.agg n.cells):=by
 have hn:Fz H y.pv (.ak (n.names.map aH) .unk):=by
  cases y with
  |p l=>
   obtain⟨h1,h2⟩:l=[]/\n.names=[]:=h;subst h1;rw [h2];exact dS bE [] .unk
  |m id len cap=>
   have hr:aJ H aH 1 n.names (.bR id 0 len cap 1) [id]:=h.2;exact aJ.fz bE hr
 exact bQ (aQ (aQ (.cons (.pure _ (.str _)) (.cons hn (.cons (dS dF n.args .unk) .nil)))))
theorem LA (b:Scope) (t:Str): ∀l:List Scope,lI (l++[b]) t=if b.old=t then b.new else lI l t
 |[]=>by simp [lI]
 |s::l=>by
  rw [List.cons_append,lI,LA b t l];by_cases h:b.old=t
  · simp [h]
  · simp only [List.any_append,List.any_cons,List.any_nil,Bool.or_false,decide_eq_false h,if_neg h];rw [lI]
section
variable {l:List (Nd×NV)} {v:PV} {id o lo:Nat} {left:List Str} {cl:Ck} {c:Int} {i:Nat} {n:Nd} {y:NV}
theorem alA (hx:l[i]? =some (n,y)) (bound:List Scope) (q bx:Nat) (Q:Post) (σ:Nat->PV) (s6:σ 6= .ref q 0) (hqb:q∉kS l id o) (hqx:q≠bx):
 ∀(k:Nat) (H:AH),k<=bound.length->kF H l v id o lo left cl c->q<H.next->bx<H.next->bx∉kS l id o->H.obj q=some [.ref id (i*5)]->H.obj bx=some [.ak (bound.map Scope.cells) .unk]->
   (∀(e:Ex) H',(e= .normal\/e= .exit 0)->kF H' (l.set i ({n with text:=lI (bound.take k) n.text},y)) v id o lo left cl c->HF [id] H H'->H'.obj q=some [.ref id (i*5)]->Q e σ H')->
   EJ (fun Q' σ' H'=>W Tryz.prog Nh (Ig (fun vZ fQ=>W Tryz.prog Ni Q' vZ fQ)) σ' H') Q σ bx [.ak (bound.map Scope.cells) .unk] 28 29 ((bound.map Scope.cells).map (Dm true)) k H:=by
 intro k
 induction k with
 |zero=>
  intro H hk hV hq hb hbm ho hbx q0;refine q0 .normal H (.inl rfl) ?_ (HF.refl _ _) ho;have e1:l.set i (({n with text:=lI (bound.take 0) n.text}:Nd),y)=l:=by
   obtain⟨h,e⟩:=List.getElem?_eq_some_iff.1 hx;have:(({n with text:=lI (bound.take 0) n.text}:Nd),y)=l[i]:=by rw [e];rfl
   rw [this,List.set_getElem_self]
  rw [e1];exact hV
 |succ k ih=>
  intro H hk hV hq hb hbm ho hbx q0;have hlt:k<bound.length:=by omega
  refine⟨hbx,.agg (Scope.cells bound[k]),?_,?_⟩
  · rw [List.getElem?_map,List.getElem?_map,List.getElem?_eq_getElem hlt];rfl
  obtain⟨id',C,e1,hid,hC,hcell,hle,hdrop,hI⟩:=aJ.content hV.own.row hx;obtain rfl:id=id':=by simpa using e1
  have c2:C[i*5+2]? =some (.str n.text):=hcell 2 _ rfl;have hqn:id≠H.next:=by omega
  have alB:q≠H.next:=by omega
  have hqi:q≠id:=fun e=>hqb (by rw [e];simp [kS]);refine aC ?_;unfold Nh;simp -implicitDefEqProofs only [go_sem,dL,Scope.jC,Nat.le_refl];obtain⟨H1,hH1⟩: ∃H1,H1=(H.new [.str [],.str []]).put H.next [.str bound[k].old,.str bound[k].new]:=⟨_,rfl⟩;rw [<-hH1];have hf1:HF [] H H1:=by
   rw [hH1];exact HF.put (.inr (Nat.le_refl _)) (HF.new (HF.refl _ _))
  have o8:H1.obj H.next=some [.str bound[k].old,.str bound[k].new]:=by
   rw [hH1];show(if H.next=H.next then some _ else _)=_;rw [if_pos rfl]
  clear hH1;have oq:H1.obj q=some [.ref id (i*5)]:=(hf1.2 q hq List.not_mem_nil).trans ho;have oid:H1.obj id=some C:=(hf1.2 id hid List.not_mem_nil).trans hC;have obx:H1.obj bx=some [.ak (bound.map Scope.cells) .unk]:=(hf1.2 bx hb List.not_mem_nil).trans hbx;have hV1:=hV.new hf1 (fun a ha=>by cases ha);have axl:bound.take (k+1)=bound.take k++[bound[k]]:=List.take_succ_eq_append_getElem hlt;have ZY:lI (bound.take (k+1)) n.text=if bound[k].old=n.text then bound[k].new else lI (bound.take k) n.text:=by rw [axl,LA]
  refine aC ?_;unfold Ni;simp -implicitDefEqProofs only [go_sem];refine iJ ?_;simp -implicitDefEqProofs only [go_sem,s6,o8,oq,oid,c2];by_cases hm:bound[k].old=n.text
  · rw [if_pos hm]at ZY;rw [ZY]at q0;have hdec:(bound[k].old==n.text)=true:=by rw [beq_iff_eq];exact hm
    simp -implicitDefEqProofs only [go_sem,s6,o8,oq,oid,c2,hdec];refine qc (f:=jr) (id:=id) (o:=i*5+2) (i:=i) (j:=2) (a:=(n,y)) (y:=({n with text:=bound[k].new},y)) (vs:=[.str bound[k].new]) aP rfl rfl hV1.own.row hx aP rfl rfl (by decide) (by cases y<;>rfl) (fun H' r' hf' ok'=> ?_);simp -implicitDefEqProofs only [go_sem];refine q0 (.exit 0) H' (.inr rfl) (hV1.set hx rfl r' hf') ⟨Nat.le_trans hf1.1 hf'.1,fun a ha hm=>(hf'.2 a (Nat.lt_of_lt_of_le ha hf1.1) hm).trans (hf1.2 a ha List.not_mem_nil)⟩ ((hf'.2 q (Nat.lt_of_lt_of_le hq hf1.1) fun hm=>hqi (List.mem_singleton.1 hm)).trans oq)
  · rw [if_neg hm]at ZY;rw [ZY]at q0;have hdec:(bound[k].old==n.text)=false:=by rw [beq_eq_false_iff_ne];exact hm
    simp -implicitDefEqProofs only [go_sem,s6,o8,oq,oid,c2,hdec];exact ih H1 (by omega) hV1 (Nat.lt_of_lt_of_le hq hf1.1) (Nat.lt_of_lt_of_le hb hf1.1) hbm oq obx fun e H' he g1 g2 g3=>q0 e H' he g1 ⟨Nat.le_trans hf1.1 g2.1,fun a ha hm=>(g2.2 a (Nat.lt_of_lt_of_le ha hf1.1) hm).trans (hf1.2 a ha List.not_mem_nil)⟩ g3
end
theorem ap4 (es:List (List PV)) (ck:Ck) (H:AH):bA Tryz.prog 282 [.ak es ck] H fun v H'=>v= .fn (.func 319) [] [.ref H.next 0]/\H'=H.new [.ak es ck]:=by
 refine aF awT (by simp) (aC ?_);unfold anK;simp -implicitDefEqProofs only [go_sem,dL,Nat.le_refl,and_self]
theorem Tj {l:List (Nd×NV)} {i:Nat} {x:Nd×NV} (hx:l[i]? =some x):l.set i x=l:=by
 obtain⟨h,e⟩:=List.getElem?_eq_some_iff.1 hx;rw [<-e,List.set_getElem_self]
theorem aue {l:List (Nd×NV)} {v:PV} {id o lo:Nat} {left:List Str} {cl:Ck} {c:Int} {i:Nat} {n:Nd} {y:NV} {H:AH} {σ:Nat->PV} {bound:List Scope} {ck:Ck} {q k:Nat} {nm:Bool} {Q:Post}
 (hV:kF H l v id o lo left cl c) (hx:l[i]? =some (n,y)) (s2:σ 2= .ak (bound.map Scope.cells) ck) (s6:σ 6= .ref q 0) (hq:q<H.next) (I8:q∉kS l id o) (ho:H.obj q=some [.ref id (i*5)]) (hnm:nW k n=some nm) (hb:bound.length<=1000000)
 (q0: ∀σ' H',(∀j,j∉([22,23,24,25,26,27]:List Nat)->σ' j=σ j)->kF H' (l.set i ({n with text:=if nm=true then lI bound n.text else n.text},y)) v id o lo left cl c->HF [id] H H'->H'.obj q=some [.ref id (i*5)]->Q .normal σ' H'):W Tryz.prog Sk Q σ H:=by
 obtain⟨id',C,e1,hid,hC,hcell,hle,hdrop,hI⟩:=aJ.content hV.own.row hx;obtain rfl:id=id':=by simpa using e1
 have hy:jc H (n,y):=by
  have:=hV.own.ED i _ hx;rw [if_pos (List.getElem?_eq_some_iff.1 hx).1]at this;exact this
 have h5:=hle 5 (Nat.le_refl _);refine aC ?_;unfold Sk;simp -implicitDefEqProofs only [go_sem,s6,ho,hC,hdrop,h5];refine zJ (P9 hnm) (.cons (aub hy) .nil) (.cons (.agg _ (Nd.pu n)) .nil) (Sc.bool _) ?_;cases nm
 case false=>
  simp -implicitDefEqProofs only [go_sem];refine q0 _ H ?_ ?_ (HF.refl _ _) ho
  · intro j hj;simp only [List.mem_cons,List.not_mem_nil,or_false,not_or]at hj;simp only [upd,hj.1,hj.2.1,hj.2.2.1,hj.2.2.2.1,↓reduceIte]
  · rw [show({n with text:=if false=true then lI bound n.text else n.text}:Nd)=n from rfl,Tj hx];exact hV
 case true=>
  simp -implicitDefEqProofs only [go_sem,s2];refine bA.wk ((ap4 (bound.map Scope.cells) .unk H).mono ?_) (.ak .nil);rintro _ _ ⟨rfl,rfl⟩;have hnew:HF [] H (H.new [.ak (bound.map Scope.cells) .unk]):=HF.new (HF.refl _ _);have hV1:=hV.new hnew (fun a ha=>by cases ha);have auf:(H.new [.ak (bound.map Scope.cells) .unk]).obj H.next=some [.ak (bound.map Scope.cells) .unk]:=by
   show(if H.next=H.next then some _ else _)=_
   rw [if_pos rfl]
  have hqx:q≠H.next:=by omega
  have hbm:H.next∉kS l id o:=fun hm=>Nat.lt_irrefl _ (hV.lts _ hm);simp -implicitDefEqProofs only [go_sem];refine al7 (g:=319) (id:=H.next) (sz:=2) (agg:=true) (es:=bound.map Scope.cells) (c:= .unk) aP ajj alz (by decide) auf (by rw [List.length_map];omega) (DL (f:=Scope.cells) (fun _=>rfl) _) ?_;rw [List.length_map];refine alA hx bound q H.next _ _ aP I8 hqx bound.length _ (Nat.le_refl _) hV1 (Nat.lt_succ_of_lt hq) (Nat.lt_succ_self _) hbm ((hnew.2 q hq List.not_mem_nil).trans ho) auf ?_;rw [List.take_length];intro e H' he g1 g2 g3;have hF:HF [id] H H':=⟨Nat.le_trans hnew.1 g2.1,fun a ha hm=>(g2.2 a (Nat.lt_of_lt_of_le ha hnew.1) hm).trans (hnew.2 a ha List.not_mem_nil)⟩
  have fin:=q0 (upd (upd (upd (upd (upd (upd σ (some 22) (PV.ref id (i*5))) (some 23) (PV.ref id (i*5))) (some 24) (PV.agg (jr (n,y)))) (some 25) (PV.bool true)) (some 26) (.ak (bound.map Scope.cells) ck)) (some 27) (.fn (.func 319) [] [.ref H.next 0])) H' (by
   intro j hj;simp only [List.mem_cons,List.not_mem_nil,or_false,not_or]at hj;simp only [upd,hj.1,hj.2.1,hj.2.2.1,hj.2.2.2.1,hj.2.2.2.2.1,hj.2.2.2.2.2,↓reduceIte]) g1 hF g3
  rcases he with rfl|rfl
  · exact fin
  · exact fin
theorem kF.aA0 {H H':AH} {l:List (Nd×NV)} {v:PV} {id o lo:Nat} {left:List Str} {cl:Ck} {c:Int} (h:kF H l v id o lo left cl c) {i:Nat} {n:Nd} {id' len cap:Nat} {ns:List Str} (hx:l[i]? =some (n,.m id' len cap)) (h0:ns≠[])
 (hr:aJ H' aH 1 ns (.bR id' 0 len cap 1) [id']) (hf:HF [id'] H H'):kF H' (l.set i ({n with names:=ns},.m id' len cap)) v id o lo left cl c:=by
 have hi:=(List.getElem?_eq_some_iff.1 hx).1;have hne:id≠id':=fun e=>h.own.ne i _ hx (by rw [e];exact List.mem_singleton.2 rfl);have hon:o≠id':=fun e=>h.nen i _ hx (by rw [e];exact List.mem_singleton.2 rfl);have hget: ∀(k:Nat) (x:Nd×NV),(l.set i (({n with names:=ns}:Nd),NV.m id' len cap))[k]? =some x->(k=i/\x=(({n with names:=ns}:Nd),NV.m id' len cap))\/(k≠i/\l[k]? =some x):=by
  intro k x e;rw [List.getElem?_set]at e;by_cases hk:i=k
  · subst hk;rw [if_pos rfl,if_pos hi]at e;cases e;exact .inl ⟨rfl,rfl⟩
  · rw [if_neg hk]at e;exact .inr ⟨fun e=>hk e.symm,e⟩
 have acQ: ∀(k:Nat) (x:Nd×NV),(l.set i (({n with names:=ns}:Nd),NV.m id' len cap))[k]? =some x-> ∃x0,l[k]? =some x0/\x.2=x0.2:=by
  intro k x e;rcases hget k x e with⟨rfl,rfl⟩|⟨_,e⟩
  · exact⟨_,hx,rfl⟩
  · exact⟨x,e,rfl⟩
 have hrow:aJ H' jr 5 (l.set i (({n with names:=ns}:Nd),NV.m id' len cap)) v [id]:=by
  have:=h.own.row.hf hf (fun a ha hm=>hne ((List.mem_singleton.1 ha).symm.trans (List.mem_singleton.1 hm)));have em:(l.set i (({n with names:=ns}:Nd),NV.m id' len cap)).map jr=l.map jr:=by
   rw [List.map_set];have:jr (({n with names:=ns}:Nd),NV.m id' len cap)=(l.map jr)[i]'(by simpa using hi):=by
    rw [List.getElem_map,(List.getElem?_eq_some_iff.1 hx).2];rfl
   rw [this,List.set_getElem_self]
  unfold aJ at this⊢;rw [em,List.length_set];rcases this with⟨h1,h2,h3⟩|h
  · subst h2;simp at hi
  · exact .inr h
 refine⟨⟨hrow,fun k x e=> ?_,fun k k' x x' e e' hne=> ?_,fun k x e=> ?_,fun k x e=> ?_,h.own.Wx⟩,(hf.2 o h.lt fun hm=>hon (List.mem_singleton.1 hm)).trans h.obj,Nat.lt_of_lt_of_le h.lt hf.1,h.ne,fun k x e=> ?_⟩
 · rw [if_pos (List.getElem?_eq_some_iff.1 e).1];rcases hget k x e with⟨rfl,rfl⟩|⟨hk,e⟩
   · exact⟨h0,hr⟩
   · have Lv:=h.own.ED k x e;rw [if_pos (List.getElem?_eq_some_iff.1 e).1]at Lv;exact Lv.hf hf fun a ha hm=>h.own.dj k i x _ e hx hk a ha hm
 · obtain⟨x0,e0,q1⟩:=acQ k x e;obtain⟨x0',e0',q1'⟩:=acQ k' x' e';rw [q1,q1'];exact h.own.dj k k' x0 x0' e0 e0' hne
 · obtain⟨x0,e0,q1⟩:=acQ k x e;rw [q1];exact h.own.ne k x0 e0
 · obtain⟨x0,e0,q1⟩:=acQ k x e;rw [q1];exact h.own.lob k x0 e0
 · obtain⟨x0,e0,q1⟩:=acQ k x e;rw [q1];exact h.nen k x0 e0
theorem kF.cnt {H:AH} {l:List (Nd×NV)} {v:PV} {id o lo:Nat} {left:List Str} {cl:Ck} {c c':Int} (h:kF H l v id o lo left cl c):kF (H.put o [v,.ak (left.map aH) cl,.int .i64 c']) l v id o lo left cl c'/\HF [o] H (H.put o [v,.ak (left.map aH) cl,.int .i64 c']):=by
 have hf:HF [o] H (H.put o [v,.ak (left.map aH) cl,.int .i64 c']):=HF.put (.inl (List.mem_singleton.2 rfl)) (HF.refl _ _);refine⟨⟨⟨h.own.row.hf hf (fun a ha hm=>h.ne ((List.mem_singleton.1 hm).symm.trans (List.mem_singleton.1 ha))),fun i x hx=> ?_,h.own.dj,h.own.ne,h.own.lob,h.own.Wx⟩,?_,h.lt,h.ne,h.nen⟩,hf⟩
 · have:=h.own.ED i x hx;have hi:=(List.getElem?_eq_some_iff.1 hx).1;rw [if_pos hi]at this⊢;exact this.hf hf fun a ha hm=>h.nen i x hx (List.mem_singleton.1 hm▸ha)
 · show(if o=o then _ else _)=_
   rw [if_pos rfl]
def G7 (left:List Str) (F:Nat):Nat->Int->Option (List Str×Int)
 |0,c=>some ([],c)
 |m+1,c=>(Bd left F c).bind fun p=>(G7 left F m p.2).bind fun r=>some (p.1::r.1,r.2)
theorem HF.up {M M':List Nat} {H H':AH} (h:HF M H H') (hs: ∀a∈M,a∈M'):HF M' H H':=⟨h.1,fun a ha hm=>h.2 a ha fun h=>hm (hs a h)⟩
theorem HF.tr {M:List Nat} {H H' fQ:AH} (h:HF M H H') (h':HF M H' fQ):HF M H fQ:=⟨Nat.le_trans h.1 h'.1,fun a ha hm=>(h'.2 a (Nat.lt_of_lt_of_le ha h.1) hm).trans (h.2 a ha hm)⟩
section
variable {l:List (Nd×NV)} {v:PV} {id o lo:Nat} {left:List Str} {cl:Ck} {i:Nat} {n:Nd} {y:NV} {F q:Nat} {ns:List Str} {c':Int} {Q:Post}
theorem ael (hx:(l[i]?).map (·.2)=some y) (I8:q∉kS l id o) (hnl:n.names.length<=1000000): ∀(m k:Nat) (done:List Str) (c:Int) (ns:List Str) (σ:Nat->PV) (H:AH),done.length=k->k+m=n.names.length->G7 left F m c=some (ns,c')->
 kF H (l.set i ({n with names:=done++n.names.drop k},y)) v id o lo left cl c->σ 0= .ref o 0->σ 6= .ref q 0->σ 60= .int .i64 n.names.length->σ 61= .int .i64 k->q<H.next->H.obj q=some [.ref id (i*5)]->
 (∀σ' H',(∀j,j≠10->j<61\/72<j->σ' j=σ j)->kF H' (l.set i ({n with names:=done++ns},y)) v id o lo left cl c'->HF (o::y.ids) H H'->H'.obj q=some [.ref id (i*5)]->Q (.exit 2) σ' H')->W Tryz.prog (.loop KY) Q σ H:=by
 obtain⟨hi,hy⟩:i<l.length/\(l[i]?).map (·.2)=some y:=by
  refine⟨?_,hx⟩;by_cases h:i<l.length
  · exact h
  · rw [List.getElem?_eq_none (by omega)]at hx;cases hx
 have hqo:q≠o:=fun e=>I8 (by rw [e];exact List.mem_cons_self);have hqi:q≠id:=fun e=>I8 (by rw [e];exact List.mem_cons_of_mem _ List.mem_cons_self);have hqy:q∉y.ids:=by
  intro hm;obtain⟨x0,e0,e1⟩: ∃x0,l[i]? =some x0/\x0.2=y:=by
   cases h:l[i]? with
   |none=>rw [h]at hx;cases hx
   |some x0=>rw [h]at hx;exact⟨x0,rfl,by simpa using hx⟩
  exact I8 (List.mem_cons_of_mem _ (List.mem_cons_of_mem _ (O7 e0 (e1▸hm))))
 intro m
 induction m with
 |zero=>
  intro k done c ns σ H hd hk hF hV s0 s6 s60 s61 hq ho q0;cases hF;have hge:decide ((k:Int)<(n.names.length:Int))=false:=decide_eq_false (by omega);refine aW (fun K hK=>aC ?_);unfold KY;simp -implicitDefEqProofs only [go_sem,s60,s61,hge];rw [List.drop_of_length_le (by omega)]at hV;refine q0 _ H (fun j h10 hj=> ?_) hV (HF.refl _ _) ho;have:j≠62:=by omega
  simp only [upd,this,↓reduceIte]
 |succ m ih=>
  intro k done c ns σ H hd hk hF hV s0 s6 s60 s61 hq ho q0;rw [G7]at hF;obtain⟨⟨s1,c1⟩,hF1,hF⟩:=aj hF;obtain⟨⟨r2,c2⟩,hF2,hF⟩:=aj hF;cases hF;have hlt:decide ((k:Int)<(n.names.length:Int))=true:=decide_eq_true (by omega);have hset:(l.set i (({n with names:=done++n.names.drop k}:Nd),y))[i]? =some (({n with names:=done++n.names.drop k}:Nd),y):=by rw [List.getElem?_set,if_pos rfl,if_pos hi]
  have Lv:=hV.own.ED i _ hset;rw [if_pos (by rw [List.length_set];exact hi)]at Lv;obtain⟨id0,C,e1,hid,hC,hcell,hle,hdrop,hI⟩:=aJ.content hV.own.row hset;obtain rfl:id=id0:=by simpa using e1
  have hmem:(done++n.names.drop k)[k]? =some (n.names[k]'(by omega)):=by
   rw [List.getElem?_append_right (by omega),hd,Nat.sub_self,List.getElem?_drop,Nat.add_zero,List.getElem?_eq_getElem]
  cases y with
  |p l0=>
   have h2:done++n.names.drop k=[]:=Lv.2;rw [h2]at hmem;cases hmem
  |m id' len cap=>
  obtain⟨h0,hr0⟩:=Lv;have hr0:aJ H aH 1 (done++n.names.drop k) (.bR id' 0 len cap 1) [id']:=hr0;have c3:C[i*5+3]? =some (.bR id' 0 len cap 1):=hcell 3 _ rfl;refine aW (fun K hK=>aC ?_);unfold KY;simp -implicitDefEqProofs only [go_sem,s60,s61,hlt];have aA1:o≠id:=hV.ne;obtain⟨H1,hH1⟩: ∃H1,H1=H.put o [v,.ak (left.map aH) cl,.int .i64 c1]:=⟨_,rfl⟩;obtain⟨hV1,hf1⟩:=hV.cnt (c':=c1);rw [<-hH1]at hV1 hf1;have ho1:H1.obj q=some [.ref id (i*5)]:=(hf1.2 q hq fun hm=>hqo (List.mem_singleton.1 hm)).trans ho;have hC1:H1.obj id=some C:=(hf1.2 id hid fun hm=>aA1 (List.mem_singleton.1 hm).symm).trans hC;refine⟨fun H'=>H'.obj q=some [.ref id (i*5)]/\H'.obj id=some C,⟨ho,hC⟩,?_⟩;refine dY (.ref id (i*5)) (fun H' hC'=>by simp -implicitDefEqProofs only [go_sem,s6,hC'.1]) ?_;refine dY (.ref id (i*5)) (fun H' hC'=>by simp -implicitDefEqProofs only [go_sem]) ?_;refine dY (.ref id (i*5+3)) (fun H' hC'=>by simp -implicitDefEqProofs only [go_sem]) ?_;refine dY (.bR id' 0 len cap 1) (fun H' hC'=>by simp -implicitDefEqProofs only [go_sem,hC'.2,c3]) ?_;refine dY (.int .i64 k) (fun H' hC'=>by simp -implicitDefEqProofs only [go_sem]) ?_;refine dY (.ref o 0) (fun H' hC'=>by simp -implicitDefEqProofs only [go_sem,s0]) ?_;refine .inr ⟨trivial,.str s1,H1,?_,⟨ho1,hC1⟩,?_⟩
  · show bA Tryz.prog 284 [_] H _
    simp -implicitDefEqProofs only [go_sem];exact(agC hF1 hV.obj).mono fun _ _ h=>⟨h.1,by rw [hH1];exact h.2⟩
  clear hH1;show WO Tryz.prog [oX 71 1 67 68,oS 1 71 70] [Fm.block 3,Fm.seq (AC.ops [oB 72 BinOp.add (AE.t 61) (AE.c (PV.int IntKind.i64 1)),oM 61 72])] (Ag K Q) _ _;have aow:(l.set i (({n with names:=done++n.names.drop k}:Nd),NV.m id' len cap))[i]? =some (({n with names:=done++n.names.drop k}:Nd),NV.m id' len cap):=hset;have aox:=hV1.own.ED i _ aow;rw [if_pos (by rw [List.length_set];exact hi)]at aox;obtain⟨_,hr1⟩:=aox;have hr1:aJ H1 aH 1 (done++n.names.drop k) (.bR id' 0 len cap 1) [id']:=hr1;obtain⟨id2,C2,e2,_,_,_,_,_,hI2⟩:=aJ.content hr1 hmem;obtain rfl:id'=id2:=by simpa using e2
  have aA2:jV 1 (.bR id' 0 len cap 1) (.int .i64 k)=some (.ref id' (k*1)):=hI2 .i64 k (by omega) (by omega);simp -implicitDefEqProofs only [go_sem,aA2];refine qc (f:=aH) (id:=id') (o:=k*1) (i:=k) (j:=0) (a:=n.names[k]) (y:=s1) (vs:=[.str s1]) aP rfl rfl hr1 hmem aP rfl rfl (by decide) rfl (fun H' r' hf' ok'=> ?_);have es:(done++n.names.drop k).set k s1=(done++[s1])++n.names.drop (k+1):=by
   rw [List.set_append_right _ _ (by omega),hd,Nat.sub_self,List.drop_eq_getElem_cons (by omega),List.set_cons_zero,List.append_assoc];rfl
  rw [es]at r';have hV2:=hV1.aA0 (ns:=(done++[s1])++n.names.drop (k+1)) aow (by simp) r' hf';rw [List.set_set]at hV2;have hV2:kF H' (l.set i (({n with names:=(done++[s1])++n.names.drop (k+1)}:Nd),NV.m id' len cap)) v id o lo left cl c1:=hV2;have aA3:q≠id':=fun e=>hqy (List.mem_singleton.2 e);have hf2:HF (o::(NV.m id' len cap).ids) H H':=(hf1.up fun a ha=>by rw [List.mem_singleton.1 ha];exact List.mem_cons_self).tr (hf'.up fun a ha=>List.mem_cons_of_mem _ ha);have hw:IntKind.wrap .i64 ((k:Int)+1)=((k+1:Nat):Int):=by rw [IntKind.wrap_i64];omega
  simp -implicitDefEqProofs only [go_sem,s61,hw];refine hK _ _ (ih (k+1) (done++[s1]) c1 r2 _ H' (by simp [hd]) (by omega) hF2 hV2 aP aP aP aP (Nat.lt_of_lt_of_le hq hf2.1) ((hf'.2 q (Nat.lt_of_lt_of_le hq hf1.1) fun hm=>aA3 (List.mem_singleton.1 hm)).trans ho1) fun σ' H3 g1 g2 g3 g4=> ?_);rw [List.append_assoc]at g2;refine q0 σ' H3 (fun j h10 hj=>(g1 j h10 hj).trans ?_) g2 (hf2.tr g3) g4;have:j≠61/\j≠62/\j≠63/\j≠64/\j≠65/\j≠66/\j≠67/\j≠68/\j≠69/\j≠70/\j≠71/\j≠72:=by omega
  simp only [upd,h10,this,↓reduceIte]
end
def acS (left:List Str) (F:Nat) (bi:Bool) (n:Nd) (c:Int):Option (Nd×Int):=
 cond bi ((G7 left F n.names.length c).bind fun p=>some ({n with names:=p.1},p.2)) (some (n,c))
theorem auh {sz id o:Nat} {x w:AE} {σ:Nat->PV} {H:AH} {vs cs:List PV} (hx:x.ev σ= .ref id o) (hw:cellsOf (w.ev σ)=some vs) (ho:H.obj id=some cs) (h1:vs.length=sz) (h2:o+sz<=cs.length) (h3:vs.all PV.one=true):
 iH (.store sz x w) σ H=some (.any,H.put id (putCells cs o vs)):=by
 simp only [iH,hx,hw,ho];rw [if_pos ⟨h1,h2,h3⟩]
theorem Va {P:Program} {Q:Post} {s:List Fm} {d:Option Nat} {l:List aR} {sz id o:Nat} {x w:AE} {σ:Nat->PV} {H:AH} {vs cs:List PV} (hx:x.ev σ= .ref id o) (hw:cellsOf (w.ev σ)=some vs) (ho:H.obj id=some cs) (h1:vs.length=sz) (h2:o+vs.length<=cs.length) (h3:vs.all PV.one=true)
 (h:WO P l s Q (upd σ d .any) (H.put id (putCells cs o vs))):WO P (⟨d,.d (.store sz x w),none⟩::l) s Q σ H:=by
 rw [dL,auh hx hw ho h1 (h1▸h2) h3];exact h
section
variable {l:List (Nd×NV)} {v:PV} {id o lo:Nat} {left:List Str} {cl:Ck} {i:Nat} {n n':Nd} {y:NV} {F q b:Nat} {c c':Int} {bi:Bool} {H:AH} {σ:Nat->PV} {Q:Post}
theorem aui (hV:kF H l v id o lo left cl c) (hx:l[i]? =some (n,y)) (hnl:n.names.length<=1000000) (I8:q∉kS l id o) (hbM:b∉kS l id o) (hqb:q≠b) (s0:σ 0= .ref o 0) (s6:σ 6= .ref q 0) (s9:σ 9= .ref b 0) (hq:q<H.next) (hbl:b<H.next)
 (ho:H.obj q=some [.ref id (i*5)]) (Bf:H.obj b=some (jr (n,y))) (hbi:l8 n.kind=some bi) (hF:acS left F bi n c=some (n',c'))
 (q0: ∀σ' H' (z:NV),(∀j,j≠10->j<45\/72<j->σ' j=σ j)->kF H' (l.set i (n',y)) v id o lo left cl c'->(bi=true->jc H' (n,z)/\ ∀a∈z.ids,H.next<=a)->HF (b::o::y.ids) H H'->H'.obj q=some [.ref id (i*5)]->H'.obj b=some (jr (n,z))->Q .normal σ' H'):W Tryz.prog Sm Q σ H:=by
 obtain⟨id0,C,e1,hid,hC,hcell,hle,hdrop,hI⟩:=aJ.content hV.own.row hx;obtain rfl:id=id0:=by simpa using e1
 have hi:=(List.getElem?_eq_some_iff.1 hx).1;have hy:jc H (n,y):=by
  have:=hV.own.ED i _ hx;rw [if_pos hi]at this;exact this
 have c0:C[i*5]? =some (.int .i64 n.kind):=hcell 0 _ rfl;have c3:C[i*5+3]? =some y.pv:=hcell 3 _ rfl;refine aC ?_;unfold Sm;simp -implicitDefEqProofs only [go_sem,s6,ho,hC,c0];refine av (acz hbi) ?_;cases bi
 case false=>
  cases hF;simp -implicitDefEqProofs only [go_sem];refine q0 _ H y (fun j h10 hj=> ?_) (by rw [Tj hx];exact hV) (fun h=>by cases h) (HF.refl _ _) ho Bf;have:j≠45/\j≠46/\j≠47/\j≠48/\j≠49:=by omega
  simp only [upd,this,↓reduceIte]
 case true=>
  obtain⟨⟨ns,c2⟩,hF1,hF⟩:=aj hF;cases hF;simp -implicitDefEqProofs only [go_sem,s6,ho,hC,c3];refine bA.mono (aek hy hnl) ?_;rintro _ H1 ⟨z,rfl,hz,hzn,hf1,hok1⟩;have aA4:b≠id:=fun e=>hbM (by rw [e];exact List.mem_cons_of_mem _ List.mem_cons_self);have ho1:H1.obj q=some [.ref id (i*5)]:=(hf1.2 q hq List.not_mem_nil).trans ho;have hC1:H1.obj id=some C:=(hf1.2 id hid List.not_mem_nil).trans hC;have aA5:H1.obj b=some (jr (n,y)):=(hf1.2 b hbl List.not_mem_nil).trans Bf;have hV1:=hV.new hf1 (fun a ha=>by cases ha);have hcz:cellsOf z.pv=some [z.pv]:=by cases z<;>rfl
  have hone:[z.pv].all PV.one=true:=by cases z<;>rfl
  have hput:putCells (jr (n,y)) 3 [z.pv]=jr (n,z):=by cases z<;>rfl
  simp -implicitDefEqProofs only [go_sem,s9];refine Va (id:=b) (o:=3) (vs:=[z.pv]) (cs:=jr (n,y)) aP (by simp -implicitDefEqProofs only [go_sem,hcz]) aA5 rfl (by show 4<=5;decide) hone ?_;rw [hput];obtain⟨H2,hH2⟩: ∃H2,H2=H1.put b (jr (n,z)):=⟨_,rfl⟩;rw [<-hH2];have hf2:HF [b] H1 H2:=by rw [hH2];exact HF.put (.inl (List.mem_singleton.2 rfl)) (HF.refl _ _)
  have aA6:H2.obj b=some (jr (n,z)):=by
   rw [hH2];show(if b=b then _ else _)=_;rw [if_pos rfl]
  clear hH2;have hb1:b<H1.next:=Nat.lt_of_lt_of_le hbl hf1.1;have ho2:H2.obj q=some [.ref id (i*5)]:=(hf2.2 q (Nat.lt_of_lt_of_le hq hf1.1) fun hm=>hqb (List.mem_singleton.1 hm)).trans ho1;have hC2:H2.obj id=some C:=(hf2.2 id (Nat.lt_of_lt_of_le hid hf1.1) fun hm=>aA4 (List.mem_singleton.1 hm).symm).trans hC1;have hV2:=hV1.hf hf2 (fun a ha hm=>hbM (List.mem_singleton.1 hm▸ha));have hz2:jc H2 (n,z):=hz.hf hf2 fun a ha hm=>by have:=hzn a ha;rw [List.mem_singleton.1 hm]at this;omega
  have hq2:q<H2.next:=Nat.lt_of_lt_of_le hq (Nat.le_trans hf1.1 hf2.1);have hb2:b<H2.next:=Nat.lt_of_lt_of_le hb1 hf2.1;have hlen:xP y.pv=some (.int .i64 n.names.length):=(pW.whole hy).len;simp -implicitDefEqProofs only [go_sem,s6,ho2,hC2,c3,hlen];have e0:(({n with names:=[]++n.names.drop 0}:Nd),y)=(n,y):=rfl;refine ael (i:=i) (n:=n) (y:=y) (F:=F) (q:=q) (l:=l) (v:=v) (id:=id) (o:=o) (lo:=lo) (left:=left) (cl:=cl) (by rw [hx];rfl) I8 hnl n.names.length 0 [] c ns _ H2 rfl (Nat.zero_add _) hF1 (by rw [e0,Tj hx];exact hV2) aP aP aP aP hq2 ho2 fun σ' H3 g1 g2 g3 g4=> ?_;have qK:HF [b] H H2:=(hf1.up fun a ha=>by cases ha).tr hf2;have hby:b∉y.ids:=fun hm=>hbM (List.mem_cons_of_mem _ (List.mem_cons_of_mem _ (O7 hx hm)));have H7:b≠o:=fun e=>hbM (by rw [e];exact List.mem_cons_self);refine q0 σ' H3 z (fun j h10 hj=>(g1 j h10 (by omega)).trans ?_) g2 (fun _=>⟨hz2.hf g3 fun a ha hm=> ?_,hzn⟩) ((qK.up fun a ha=> ?_).tr (g3.up fun a ha=>List.mem_cons_of_mem _ ha)) g4 ((g3.2 b hb2 fun hm=> ?_).trans aA6)
  · have:j≠45/\j≠46/\j≠47/\j≠48/\j≠49/\j≠50/\j≠51/\j≠52/\j≠53/\j≠54/\j≠55/\j≠56/\j≠57/\j≠58/\j≠59/\j≠60/\j≠61:=by omega
    simp only [upd,this,↓reduceIte]
  · have h1:=hzn a ha;have h2:a<H.next:=by
     rcases List.mem_cons.1 hm with rfl|hm
     · exact hV.lt
     · exact hy.lt a hm
    omega
  · rw [List.mem_singleton.1 ha];exact List.mem_cons_self
  · rcases List.mem_cons.1 hm with rfl|hm
    · exact H7 rfl
    · exact hby hm
end
section
variable {l:List (Nd×NV)} {v:PV} {id o lo:Nat} {left:List Str} {cl:Ck} {i:Nat} {n:Nd} {y:NV} {q j:Nat} {c:Int} {a b:List Str} {ids:List Nat} {v87:PV} {Q:Post}
theorem ajn (hx:l[i]? =some (n,y)) (I8:q∉kS l id o) (hb:iq n (j:Int)=some b) (hab:a.length<=b.length) (hal:a.length<=1000000): ∀(m k:Nat) (sc:List Scope) (ck:Ck) (σ:Nat->PV) (H:AH),k+m=a.length->pW H a v87 ids->kF H l v id o lo left cl c->bq H ck->
 σ 87=v87->σ 88= .int .i64 a.length->σ 89= .int .i64 k->σ 11= .int .i64 j->σ 13= .ak (sc.map Scope.cells) ck->σ 6= .ref q 0->q<H.next->H.obj q=some [.ref id (i*5)]->sc.length+m<=1000000000->
 (∀σ' H' Cx,(∀j,j≠13/\j≠14/\j≠15->j<89\/107<j->σ' j=σ j)->σ' 13= .ak ((sc++List.zipWith Scope.mk (a.drop k) (b.drop k)).map Scope.cells) Cx->HF [] H H'->Q (.exit 6) σ' H')->W Tryz.prog (.loop KZ) Q σ H:=by
 intro m
 induction m with
 |zero=>
  intro k sc ck σ H hk hB hV hok s87 s88 s89 s11 s13 s6 hq ho hsc q0;have hge:decide ((k:Int)<(a.length:Int))=false:=decide_eq_false (by omega);refine aW (fun K hK=>aC ?_);unfold KZ;simp -implicitDefEqProofs only [go_sem,s88,s89,hge];refine q0 _ H ck (fun j h10 hj=> ?_) ?_ (HF.refl _ _)
  · have:j≠90:=by omega
    simp only [upd,this,↓reduceIte]
  · rw [List.drop_of_length_le (by omega),List.zipWith_nil_left,List.append_nil];simp -implicitDefEqProofs only [go_sem,s13]
 |succ m ih=>
  intro k sc ck σ H hk hB hV hok s87 s88 s89 s11 s13 s6 hq ho hsc q0;have hlt:decide ((k:Int)<(a.length:Int))=true:=decide_eq_true (by omega);obtain⟨id0,C,e1,hid,hC,hcell,hle,hdrop,hI⟩:=aJ.content hV.own.row hx;obtain rfl:id=id0:=by simpa using e1
  have h5:=hle 5 (Nat.le_refl _);have hy:jc H (n,y):=by
   have:=hV.own.ED i _ hx;rw [if_pos (List.getElem?_eq_some_iff.1 hx).1]at this;exact this
  have hka:k<a.length:=by omega
  have hkb:k<b.length:=by omega
  obtain⟨Nc,aGc,Ca,i1,i2,i3,i4,i5⟩:=hB.at_ k a[k] (List.getElem?_eq_getElem hka);refine aW (fun K hK=>aC ?_);unfold KZ;simp -implicitDefEqProofs only [go_sem,s87,s88,s89,hlt,i1,i4,i5,s13,s6,ho,hC,hdrop,h5,s11];refine bA.mono (acO hy hb) ?_;rintro vb H1 ⟨hBb,hf1,hok1⟩;obtain⟨Il,aGd,Cb,j1,j2,j3,j4,j5⟩:=hBb.at_ k b[k] (List.getElem?_eq_getElem hkb);simp -implicitDefEqProofs only [go_sem,j1,j4,j5];refine gq (f:=Scope.cells) ajm sc [⟨a[k],b[k]⟩] ck .exact aP aP (hok1 ck hok) (by simp;omega) (fun Cx H2 g1 g2 g3 g4=> ?_);have hf2:HF [] H1 H2:=⟨g2,fun i _ _=>g3 i⟩;have qK:=hf1.tr hf2;have hw:IntKind.wrap .i64 ((k:Int)+1)=((k+1:Nat):Int):=by rw [IntKind.wrap_i64];omega
  simp -implicitDefEqProofs only [go_sem,s89,hw];refine hK _ _ (ih (k+1) (sc++[⟨a[k],b[k]⟩]) Cx _ H2 (by omega) (hB.hf qK (fun _ _ h=>by cases h)) (hV.new qK (fun _ h=>by cases h)) g1 aP aP aP aP aP aP (Nat.lt_of_lt_of_le hq qK.1) ((qK.2 q hq List.not_mem_nil).trans ho) (by simp;omega) fun σ' H3 ck3 g1 g2 g3=> ?_);refine q0 σ' H3 ck3 (fun j h10 hj=>(g1 j h10 hj).trans ?_) ?_ (qK.tr g3)
  · have:j≠89/\j≠90/\j≠91/\j≠92/\j≠93/\j≠94/\j≠95/\j≠96/\j≠97/\j≠98/\j≠99/\j≠100/\j≠101/\j≠102/\j≠103/\j≠104/\j≠105/\j≠106/\j≠107:=by omega
    simp only [upd,h10,this,↓reduceIte]
  · rw [g2,List.drop_eq_getElem_cons hka,List.drop_eq_getElem_cons hkb,List.zipWith_cons_cons,List.append_assoc];rfl
end
theorem ajo {H:AH} {n:Nd} {z:NV} {p:Nat} (hk:n.kind=16\/n.kind=17):bA Tryz.prog 240 [.agg (jr (n,z)),.int .i64 p] H fun v H'=>pW H' [] v z.ids/\HF [] H H'/\ ∀c,bq H c->bq H' c:=by
 refine aF agc (by simp) (aC ?_);have hnew:HF [] H (H.new (jr (n,z))):=HF.new (HF.refl _ _);have hok: ∀c,bq H c->bq (H.new (jr (n,z))) c:=fun c k=>k.new;have h10:jL n.kind=some false:=by rcases hk with h|h<;>rw [h]<;>rfl
 have e21:(n.kind==23)=false:=by rcases hk with h|h<;>rw [h]<;>rfl
 unfold ZT;simp -implicitDefEqProofs only [go_sem,dL,jr,Nat.le_refl];refine Gy n.kind _ _ _ (Fr.refl _ _) (by simp -implicitDefEqProofs only [go_sem]) _ h10 _ ?_;rintro ni σ' eo qC s15;subst eo;have s16:σ' 2=(.ref H.next 0):=(qC 2 (by decide)).trans (by simp -implicitDefEqProofs only [go_sem]);have tK:σ' 5=(.bool ((p:Int)==(IntKind.wrap .i64 ((n.args.length:Int) -1)))):=(qC 5 (by decide)).trans (by simp -implicitDefEqProofs only [go_sem]);have iX:σ' 13=(.int .i64 n.kind):=(qC 13 (by decide)).trans (by simp -implicitDefEqProofs only [go_sem]);clear qC;simp -implicitDefEqProofs only [go_sem,dL,s15,s16,tK,iX,e21];exact⟨pW.nil,hnew,hok⟩
theorem ajp {n:Nd} {j:Int} {r:List Str} (hk:n.kind=16\/n.kind=17) (h:iq n j=some r):r=[]:=by
 have h10:jL n.kind=some false:=by rcases hk with h|h<;>rw [h]<;>rfl
 have e21:(n.kind==23)=false:=by rcases hk with h|h<;>rw [h]<;>rfl
 unfold iq at h;rw [h10,Option.bind_some,cond_false,e21,cond_false]at h;exact(ZU h).symm
theorem YG {k:Int} (h:l8 k=some false):k=16\/k=17:=by
 unfold l8 at h;obtain⟨e,h⟩|⟨e,h⟩:=aA h
 · right;have:=ZU h;simpa using this
 · left;simpa using e
abbrev aha:=List Nd->Int->Nat->List Scope->Option (List Nd×Int)
def Oq (rec:aha) (old:Nd) (i:Nat) (bound:List Scope):List Int->Nat->List Nd->Int->Option (List Nd×Int)
 |[],_,out,c=>some (out,c)
 |a::l,j,out,c=>Option.bind out[i]? fun n=>(iq old (j:Int)).bind fun x=>(iq n (j:Int)).bind fun y=>
  if x.length<=y.length/\x.length<=1000000/\0<=a then (rec out c a.toNat (bound++List.zipWith Scope.mk x y)).bind fun p=>Oq rec old i bound l (j+1) p.1 p.2 else none
def JA (left:List Str) (F:Nat):Nat->aha
 |0=>fun _ _ _ _=>none
 |k+1=>fun out c i bound=>Option.bind out[i]? fun n=>(nW F n).bind fun nm=>(l8 n.kind).bind fun bi=>
  let n1:Nd:={n with text:=if nm=true then lI bound n.text else n.text}
  (acS left F bi n1 c).bind fun p=>if bound.length<=1000000/\n.names.length<=1000000/\n.args.length<=1000000 then Oq (JA left F k) n1 i bound n.args 0 (out.set i p.1) p.2 else none
def y8 (taken:List Str) (F:Nat) (fx:Bool):List Str->Int->Option (List Str×Int)
 |[],c=>some ([],c)
 |s::l,c=>(cond fx (some (s,c)) (Cj taken F c)).bind fun p=>(y8 taken F fx l p.2).bind fun r=>some (p.1::r.1,r.2)
def jG (n:Nd) (v:PV):List PV:=[.int .i64 n.kind,.int .i64 n.n,.str n.text,v,.ak (n.args.map aS) .unk]
section
variable {taken:List Str} {F:Nat} {fx:Bool} {n:Nd} {o p b:Nat} {cl:Ck} {Q:Post} {c':Int}
theorem ap5 (hn:n.names.length<=1000000) (hop:o≠p) (Bf:o≠b) (hpb:p≠b): ∀(m i:Nat) (done:List Str) (ck:Ck) (c:Int) (ns:List Str) (σ:Nat->PV) (H:AH),i+m=n.names.length->done.length=i->y8 taken F fx (n.names.drop i) c=some (ns,c')->
 H.obj o=some [.ak (taken.map aH) cl,.int .i64 c]->H.obj p=some (jG n (.ak (done.map aH) ck))->H.obj b=some (jG n (.ak (n.names.map aH) .unk))->o<H.next->p<H.next->b<H.next->bq H ck->
 σ 0= .ref o 0->σ 9= .ref p 0->σ 10= .ref b 0->σ 11= .bool fx->σ 12= .int .i64 i->
 (∀σ' H' Cx,(∀j,j≠12->j<39\/63<j->σ' j=σ j)->H'.obj o=some [.ak (taken.map aH) cl,.int .i64 c']->H'.obj p=some (jG n (.ak ((done++ns).map aH) Cx))->HF [o,p] H H'->(∀c3,bq H c3->kr ck c3->bq H' c3)->Q (.exit 0) σ' H')->W Tryz.prog (.loop F7) Q σ H:=by
 intro m
 induction m with
 |zero=>
  intro i done ck c ns σ H hi hd h ho hp hb lo lp lb hok s0 s9 s10 s11 s12 q0;rw [List.drop_of_length_le (by omega)]at h;cases h;have hge:decide ((i:Int)<(n.names.length:Int))=false:=decide_eq_false (by omega);refine aW (fun K hK=>aC ?_);unfold F7;have hb':=hb;unfold jG at hb';simp -implicitDefEqProofs only [go_sem,s10,s12,hb',hge];refine q0 _ H ck (fun j h12 hj=> ?_) ho (by rw [List.append_nil];exact hp) (HF.refl _ _) (fun c3 h _=>h);have:j≠39/\j≠40/\j≠41/\j≠42/\j≠43:=by omega
  simp only [upd,this,↓reduceIte]
 |succ m ih=>
  intro i done ck c ns σ H hi hd h ho hp hb lo lp lb hok s0 s9 s10 s11 s12 q0;have hin:i<n.names.length:=by omega
  rw [List.drop_eq_getElem_cons hin,y8]at h;obtain⟨⟨s1,c1⟩,h1,h2⟩:=aj h;obtain⟨⟨r2,c2⟩,h3,h4⟩:=aj h2;cases h4;clear h h2;have hlt:decide ((i:Int)<(n.names.length:Int))=true:=decide_eq_true (by omega);have hget:(n.names.map aH)[i]? =some (aH n.names[i]):=by rw [List.getElem?_map,List.getElem?_eq_getElem hin];rfl
  have hw:IntKind.wrap .i64 ((i:Int)+1)=((i+1:Nat):Int):=by rw [IntKind.wrap_i64];omega
  refine aW (fun K hK=>aC ?_);unfold F7;have hb':=hb;have hp':=hp;unfold jG at hb' hp';simp -implicitDefEqProofs only [go_sem,s10,s11,s12,hb',hlt];have hput: ∀v v':PV,putCells (jG n v) 3 [v']=jG n v':=fun _ _=>rfl;cases fx with
  |true=>
   cases h1;simp -implicitDefEqProofs only [go_sem];refine iJ ?_;simp -implicitDefEqProofs only [go_sem,s9,s10,s12,hp',hb',hget];refine gq (f:=aH) jZ done [n.names[i]] ck .exact aP aP hok (by simp;omega) (fun Cx H2 g1 g2 g3 g4=> ?_);simp -implicitDefEqProofs only [go_sem,s9];refine Va (id:=p) (o:=3) (vs:=[.ak ((done++[n.names[i]]).map aH) Cx]) (cs:=jG n (.ak (done.map aH) ck)) aP aP ((g3 p).trans hp) rfl (by show 4<=5;decide) rfl ?_;rw [hput];simp -implicitDefEqProofs only [go_sem,s12,hw];obtain⟨H3,hH3⟩: ∃H3,H3=H2.put p (jG n (.ak ((done++[n.names[i]]).map aH) Cx)):=⟨_,rfl⟩;rw [<-hH3];have op3: ∀j,j≠p->H3.obj j=H2.obj j:=fun j hj=>by rw [hH3];show(if j=p then _ else _)=_;rw [if_neg hj]
   have pp3:H3.obj p=some (jG n (.ak ((done++[n.names[i]]).map aH) Cx)):=by rw [hH3];show(if p=p then _ else _)=_;rw [if_pos rfl]
   have nx3:H3.next=H2.next:=by rw [hH3];rfl
   have Ub: ∀c3,bq H2 c3->bq H3 c3:=fun c3 h=>by rw [hH3];exact h.put
   clear hH3;have hf3:HF [o,p] H H3:=⟨by rw [nx3];exact g2,fun a ha hm=>by
    rw [op3 a (fun e=>hm (by rw [e];simp)),g3]⟩
   refine hK _ _ (ih (i+1) (done++[n.names[i]]) Cx c r2 _ H3 (by omega) (by simp [hd]) h3 ((op3 o hop).trans ((g3 o).trans ho)) pp3 ((op3 b (Ne.symm hpb)).trans ((g3 b).trans hb)) (by omega) (by omega) (by omega) (Ub _ g1) aP aP aP aP aP fun σ' H4 ck4 k1 k2 k3 k4 k5=> ?_);rw [List.append_assoc]at k3;refine q0 σ' H4 ck4 (fun j h12 hj=>(k1 j h12 hj).trans ?_) k2 k3 (hf3.tr k4) (fun c3 a1 a2=>k5 c3 (Ub _ (g4 c3 a1 a2).1) (g4 c3 a1 a2).2);have:j≠39/\j≠40/\j≠41/\j≠42/\j≠43/\j≠44/\j≠45/\j≠46/\j≠47/\j≠48/\j≠49/\j≠50/\j≠51/\j≠52/\j≠53/\j≠54/\j≠55/\j≠56:=by omega
   simp only [upd,h12,this,↓reduceIte]
  |false=>
   simp -implicitDefEqProofs only [go_sem];obtain⟨H1,hH1⟩: ∃H1,H1=H.put o [.ak (taken.map aH) cl,.int .i64 c1]:=⟨_,rfl⟩;have op1: ∀j,j≠o->H1.obj j=H.obj j:=fun j hj=>by rw [hH1];show(if j=o then _ else _)=_;rw [if_neg hj]
   have oo1:H1.obj o=some [.ak (taken.map aH) cl,.int .i64 c1]:=by rw [hH1];show(if o=o then _ else _)=_;rw [if_pos rfl]
   have nx1:H1.next=H.next:=by rw [hH1];rfl
   have ok1: ∀c3,bq H c3->bq H1 c3:=fun c3 h=>by rw [hH1];exact h.put
   have hp1:H1.obj p=some (jG n (.ak (done.map aH) ck)):=(op1 p (Ne.symm hop)).trans hp;refine⟨fun H'=>H'.obj p=some (jG n (.ak (done.map aH) ck)),hp,?_⟩;refine dY (.ref p 3) (fun H' hC'=>by simp -implicitDefEqProofs only [go_sem,s9]) ?_;refine dY (.ak (done.map aH) ck) (fun H' hC'=>by
    unfold jG at hC';simp -implicitDefEqProofs only [go_sem,hC']) ?_
   refine dY (.ref o 0) (fun H' hC'=>by simp -implicitDefEqProofs only [go_sem,s0]) ?_;refine .inr ⟨trivial,.str s1,H1,?_,hp1,?_⟩
   · show bA Tryz.prog 263 [_] H _
     simp -implicitDefEqProofs only [go_sem];exact(ag9 h1 ho).mono fun _ _ h=>⟨h.1,by rw [hH1];exact h.2⟩
   clear hH1;refine dY (.ak [[.str s1]] .exact) (fun H' hC'=>by simp -implicitDefEqProofs only [go_sem]) ?_;show WO Tryz.prog [{dst:=some 62,k:=AK.d (DK.app 1 16 (AE.t 58) (AE.t 61)),g:=none},oF 63 3 9,oS 1 63 62] [Fm.block 1,Fm.seq (AC.ops [oM 44 12,oB 45 BinOp.add (AE.t 44) (AE.c (PV.int IntKind.i64 1)),oM 12 45])] (Ag K Q) _ _;refine gq (f:=aH) jZ done [s1] ck .exact aP aP (ok1 _ hok) (by simp;omega) (fun Cx H2 g1 g2 g3 g4=> ?_);simp -implicitDefEqProofs only [go_sem,s9];refine Va (id:=p) (o:=3) (vs:=[.ak ((done++[s1]).map aH) Cx]) (cs:=jG n (.ak (done.map aH) ck)) aP aP ((g3 p).trans hp1) rfl (by show 4<=5;decide) rfl ?_;rw [hput];simp -implicitDefEqProofs only [go_sem,s12,hw];obtain⟨H3,hH3⟩: ∃H3,H3=H2.put p (jG n (.ak ((done++[s1]).map aH) Cx)):=⟨_,rfl⟩;rw [<-hH3];have op3: ∀j,j≠p->H3.obj j=H2.obj j:=fun j hj=>by rw [hH3];show(if j=p then _ else _)=_;rw [if_neg hj]
   have pp3:H3.obj p=some (jG n (.ak ((done++[s1]).map aH) Cx)):=by rw [hH3];show(if p=p then _ else _)=_;rw [if_pos rfl]
   have nx3:H3.next=H2.next:=by rw [hH3];rfl
   have Ub: ∀c3,bq H2 c3->bq H3 c3:=fun c3 h=>by rw [hH3];exact h.put
   clear hH3;have hf3:HF [o,p] H H3:=⟨by omega,fun a ha hm=>by
    rw [op3 a (fun e=>hm (by rw [e];simp)),g3,op1 a (fun e=>hm (by rw [e];simp))]⟩
   refine hK _ _ (ih (i+1) (done++[s1]) Cx c1 r2 _ H3 (by omega) (by simp [hd]) h3 ((op3 o hop).trans ((g3 o).trans oo1)) pp3 ((op3 b (Ne.symm hpb)).trans ((g3 b).trans ((op1 b (Ne.symm Bf)).trans hb))) (by omega) (by omega) (by omega) (Ub _ g1) aP aP aP aP aP fun σ' H4 ck4 k1 k2 k3 k4 k5=> ?_);rw [List.append_assoc]at k3;refine q0 σ' H4 ck4 (fun j h12 hj=>(k1 j h12 hj).trans ?_) k2 k3 (hf3.tr k4) (fun c3 a1 a2=>k5 c3 (Ub _ (g4 c3 (ok1 _ a1) a2).1) (g4 c3 (ok1 _ a1) a2).2);have:j≠39/\j≠40/\j≠41/\j≠42/\j≠43/\j≠44/\j≠45/\j≠46/\j≠57/\j≠58/\j≠59/\j≠60/\j≠61/\j≠62/\j≠63:=by omega
   simp only [upd,h12,this,↓reduceIte]
end
theorem alC {P:Program} {C:AH->Prop} {α:Type} {d:Option Nat} {l:List (aR×Bool)} {K:(Nat->PV)->AH->Prop} {σ:Nat->PV} {H:AH} {sz b:Nat} {x y:AE} {f:α->List PV} (hf: ∀x,kT sz (f x)) (xs ys:List α) (c c2:Ck)
 (hx:x.ev σ= .ak (xs.map f) c) (hy:JU (y.ev σ)= .ak (ys.map f) c2) (hok:bq H c) (hb:(xs.length+ys.length)*b<=1099511627776)
 (h: ∀c' H',bq H' c'->H.next<=H'.next->(∀i,H'.obj i=H.obj i)->(∀c3,bq H c3->kr c c3->bq H' c3/\kr c' c3)->C H'/\iI P C l K (upd σ d (.ak ((xs++ys).map f) c')) H'):
 iI P C ((⟨d,.d (.app sz b x y),none⟩,true)::l) K σ H:=by
 obtain⟨c',H',f1,f2,f3,f4,f5⟩:=afi hf xs ys c c2 hx hy hok hb;obtain⟨h1,h2⟩:=h c' H' f2 f3 f4 f5;exact TV _ H' f1 h1 h2
def Ot (F:Nat) (old nn:List Str):List Str->Option (List Str)
 |[]=>some []
 |s::l=>(KC F old s).bind fun j=>if 0<=j then Option.bind nn[j.toNat]? fun t=>(Ot F old nn l).bind fun r=>some (t::r)else none
section
variable {F:Nat} {n:Nd} {p b:Nat} {bs nn:List Str} {Vb:Ck} {Q:Post}
theorem ap6 (hbs:bs.length<=1000000): ∀(m j:Nat) (bd cd:List Str) (c16 c17:Ck) (ms:List Str) (σ:Nat->PV) (H:AH),j+m=bs.length->Ot F n.names nn (bs.drop j)=some ms->
 H.obj p=some (jG n (.ak (nn.map aH) Vb))->H.obj b=some (jG n (.ak (n.names.map aH) .unk))->bq H c16->bq H c17->kr c16 c17->bd.length+m<=100000000->cd.length+m<=100000000->
 σ 9= .ref p 0->σ 10= .ref b 0->σ 15= .ak (bs.map aH) .unk->σ 16= .ak (bd.map aH) c16->σ 17= .ak (cd.map aH) c17->σ 18= .int .i64 j->
 (∀σ' H' ahb alD,(∀j,j≠16/\j≠17/\j≠18->j<78\/104<j->σ' j=σ j)->σ' 16= .ak ((bd++bs.drop j).map aH) ahb->σ' 17= .ak ((cd++ms).map aH) alD->HF [] H H'->(∀c3,bq H c3->kr c16 c3->kr c17 c3->bq H' c3)->Q (.exit 4) σ' H')->W Tryz.prog (.loop KV) Q σ H:=by
 intro m
 induction m with
 |zero=>
  intro j bd cd c16 c17 ms σ H hj h hp hb k16 k17 hd hl1 hl2 s9 s10 s15 s16 tK iX q0;rw [List.drop_of_length_le (by omega)]at h;cases h;have hge:decide ((j:Int)<(bs.length:Int))=false:=decide_eq_false (by omega);refine aW (fun K hK=>aC ?_);unfold KV;simp -implicitDefEqProofs only [go_sem,s15,iX,hge];refine q0 _ H c16 c17 (fun i h12 hj=> ?_) ?_ ?_ (HF.refl _ _) (fun c3 h _ _=>h)
  · have:i≠78/\i≠79/\i≠80/\i≠81:=by omega
    simp only [upd,this,↓reduceIte]
  · rw [List.drop_of_length_le (by omega),List.append_nil];simp -implicitDefEqProofs only [go_sem,s16]
  · rw [List.append_nil];simp -implicitDefEqProofs only [go_sem,tK]
 |succ m ih=>
  intro j bd cd c16 c17 ms σ H hj h hp hb k16 k17 hd hl1 hl2 s9 s10 s15 s16 tK iX q0;have hjn:j<bs.length:=by omega
  rw [List.drop_eq_getElem_cons hjn,Ot]at h;obtain⟨a,ha,h1⟩:=aj h;obtain⟨ha0,h2⟩:=aU h1;obtain⟨t,ht,h3⟩:=aj h2;obtain⟨r,hr,h4⟩:=aj h3;cases h4;clear h h1 h2 h3;have hlt:decide ((j:Int)<(bs.length:Int))=true:=decide_eq_true (by omega);have hget:(bs.map aH)[j]? =some (aH bs[j]):=by rw [List.getElem?_map,List.getElem?_eq_getElem hjn];rfl
  have axn:(nn.map aH)[a.toNat]? =some (aH t):=by rw [List.getElem?_map,ht];rfl
  have hw:IntKind.wrap .i64 ((j:Int)+1)=((j+1:Nat):Int):=by rw [IntKind.wrap_i64];omega
  refine aW (fun K hK=>aC ?_);unfold KV;simp -implicitDefEqProofs only [go_sem,s15,iX,hlt];refine⟨fun H'=>H'.obj p=some (jG n (.ak (nn.map aH) Vb))/\H'.obj b=some (jG n (.ak (n.names.map aH) .unk)),⟨hp,hb⟩,?_⟩;refine dY (.ak (bd.map aH) c16) (fun H' hC'=>by simp -implicitDefEqProofs only [go_sem,s16]) ?_;refine dY (.ak (bs.map aH) .unk) (fun H' hC'=>by simp -implicitDefEqProofs only [go_sem,s15]) ?_;refine dY (.int .i64 j) (fun H' hC'=>by simp -implicitDefEqProofs only [go_sem,iX]) ?_;refine dY (.bS (aH bs[j]) 0) (fun H' hC'=>by simp -implicitDefEqProofs only [go_sem,hget]) ?_;refine dY (.str bs[j]) (fun H' hC'=>by simp -implicitDefEqProofs only [go_sem,aH]) ?_;refine dY (.ak [[.str bs[j]]] .exact) (fun H' hC'=>by simp -implicitDefEqProofs only [go_sem]) ?_;refine alC (f:=aH) jZ bd [bs[j]] c16 .exact aP aP k16 (by simp;omega) (fun ahb H2 g1 g2 g3 g4=> ?_);have hp2:=(g3 p).trans hp;have hb2:=(g3 b).trans hb;refine⟨⟨hp2,hb2⟩,?_⟩;refine dY (.ak (cd.map aH) c17) (fun H' hC'=>by simp -implicitDefEqProofs only [go_sem,tK]) ?_;refine dY (.ref p 3) (fun H' hC'=>by simp -implicitDefEqProofs only [go_sem,s9]) ?_;refine dY (.ak (nn.map aH) Vb) (fun H' hC'=>by
   have hC':=hC'.1;unfold jG at hC';simp -implicitDefEqProofs only [go_sem,hC']) ?_
  refine dY (.ref b 3) (fun H' hC'=>by simp -implicitDefEqProofs only [go_sem,s10]) ?_;refine dY (.ak (n.names.map aH) .unk) (fun H' hC'=>by
   have hC':=hC'.2;unfold jG at hC';simp -implicitDefEqProofs only [go_sem,hC']) ?_
  refine dY (.ak (bs.map aH) .unk) (fun H' hC'=>by simp -implicitDefEqProofs only [go_sem,s15]) ?_;refine dY (.int .i64 j) (fun H' hC'=>by simp -implicitDefEqProofs only [go_sem,iX]) ?_;refine dY (.bS (aH bs[j]) 0) (fun H' hC'=>by simp -implicitDefEqProofs only [go_sem,hget]) ?_;refine dY (.str bs[j]) (fun H' hC'=>by simp -implicitDefEqProofs only [go_sem,aH]) ?_;refine zI (.int .i64 a) (by simp -implicitDefEqProofs only [go_sem];exact ajh ha) ?_;refine dY (.bS (aH t) 0) (fun H' hC'=>by simp -implicitDefEqProofs only [go_sem,axn,ha0]) ?_;refine dY (.str t) (fun H' hC'=>by simp -implicitDefEqProofs only [go_sem,aH]) ?_;refine dY (.ak [[.str t]] .exact) (fun H' hC'=>by simp -implicitDefEqProofs only [go_sem]) ?_;show WO Tryz.prog [{dst:=some 104,k:=AK.d (DK.app 1 16 (AE.t 91) (AE.t 103)),g:=none},oM 16 90,oM 17 104] [Fm.block 5,Fm.seq (AC.ops [oM 82 18,oB 83 BinOp.add (AE.t 82) (AE.c (PV.int IntKind.i64 1)),oM 18 83])] (Ag K Q) _ _;obtain⟨aA7,aA8⟩:=g4 c17 k17 hd;refine gq (f:=aH) jZ cd [t] c17 .exact aP aP aA7 (by simp;omega) (fun alD H3 e1 e2 e3 e4=> ?_);simp -implicitDefEqProofs only [go_sem,iX,hw];have hf3:HF [] H H3:=⟨Nat.le_trans g2 e2,fun a _ _=>(e3 a).trans (g3 a)⟩;obtain⟨alE,aA9⟩:=e4 ahb g1 aA8.symm;refine hK _ _ (ih (j+1) (bd++[bs[j]]) (cd++[t]) ahb alD r _ H3 (by omega) hr ((e3 p).trans hp2) ((e3 b).trans hb2) alE e1 aA9.symm (by simp;omega) (by simp;omega) aP aP aP aP aP aP fun σ' H4 u16 u17 v1 v2 v3 v4 v5=> ?_);rw [List.append_assoc]at v2 v3;refine q0 σ' H4 u16 u17 (fun i h12 hj=>(v1 i h12 hj).trans ?_) ?_ v3 (hf3.tr v4) (fun c3 w1 w2 w3=> ?_)
  · have:i≠78/\i≠79/\i≠80/\i≠81/\i≠82/\i≠83/\i≠84/\i≠85/\i≠86/\i≠87/\i≠88/\i≠89/\i≠90/\i≠91/\i≠92/\i≠93/\i≠94/\i≠95/\i≠96/\i≠97/\i≠98/\i≠99/\i≠100/\i≠101/\i≠102/\i≠103/\i≠104:=by omega
    simp only [upd,h12,this,↓reduceIte]
  · rw [v2,List.drop_eq_getElem_cons hjn];rfl
  · obtain⟨x1,x2⟩:=g4 c3 w1 w2;obtain⟨y1,y2⟩:=e4 c3 x1 w3;exact v5 c3 y1 x2 y2
end
theorem afn (l:List Str) (hl:l.length<=1000000) (H:AH):bA Tryz.prog 62 [.ak (l.map aH) .unk] H fun v H'=> ∃c',v= .ak (l.map aH) c'/\bq H' c'/\HF [] H H'/\ ∀c3,bq H c3->bq H' c3/\kr c' c3:=by
 refine aF aaP (by simp) (aC ?_);unfold Wm;simp -implicitDefEqProofs only [go_sem];refine gq (f:=aH) jZ [] l .exact .unk aP aP trivial (by simp;omega) (fun c' H' g1 g2 g3 g4=> ?_);simp -implicitDefEqProofs only [go_sem];exact⟨c',rfl,g1,⟨g2,fun a _ _=>g3 a⟩,fun c3 h=>g4 c3 h (fun t e=>by cases e)⟩
abbrev ahc:=List Nd->Int->List Str->List Str->Option (List Nd×Int)
def G8 (rec:ahc) (F:Nat) (e:List Nd) (old:Nd) (nn bound called:List Str):Nat->Nat->Int->Option (List (List Nd)×Int)
 |0,_,c=>some ([],c)
 |m+1,i,c=>(vo old (i:Int)).bind fun bs=>(Ot F old.names nn bs).bind fun ms=>(zW F e (i:Int)).bind fun sub=>
  if bs.length<=1000000/\ms.length=bs.length then (rec sub c (bound++bs) (called++ms)).bind fun p=>(G8 rec F e old nn bound called m (i+1) p.2).bind fun q=>some (p.1::q.1,q.2)else none
def aul (o:Nat) (taken:List Str) (cl:Ck) (rec:ahc):Prop:=
 ∀(e:List Nd) (c:Int) (bound called:List Str) (r:List Nd) (c':Int),rec e c bound called=some (r,c')-> ∀H:AH,H.obj o=some [.ak (taken.map aH) cl,.int .i64 c]->o<H.next->
   bA Tryz.prog 222 [.ref o 0,fT e,.ak (bound.map aH) .unk,.ak (called.map aH) .unk] H fun v H'=>v=fT r/\H'.obj o=some [.ak (taken.map aH) cl,.int .i64 c']/\HF [o] H H'/\ ∀c3,bq H c3->bq H' c3
section
variable {taken:List Str} {F o p b:Nat} {cl Vb:Ck} {rec:ahc} {e:List Nd} {old:Nd} {nn bound called:List Str} {Q:Post} {c':Int}
theorem ap7 (hrec:aul o taken cl rec) (hop:o≠p) (Bf:o≠b) (ha:old.args.length<=1000000) (hb1:bound.length<=1000000) (hb2:called.length<=1000000):
 ∀(m i:Nat) (parts ps:List (List Nd)) (ck:Ck) (c:Int) (σ:Nat->PV) (H:AH),i+m=old.args.length->G8 rec F e old nn bound called m i c=some (ps,c')->
 H.obj o=some [.ak (taken.map aH) cl,.int .i64 c]->H.obj p=some (jG old (.ak (nn.map aH) Vb))->H.obj b=some (jG old (.ak (old.names.map aH) .unk))->o<H.next->p<H.next->b<H.next->bq H ck->parts.length+m<=100000000->
 σ 0= .ref o 0->σ 1=fT e->σ 2= .ak (bound.map aH) .unk->σ 3= .ak (called.map aH) .unk->σ 9= .ref p 0->σ 10= .ref b 0->σ 13= .ak (parts.map (eu Nd.cells)) ck->σ 14= .int .i64 i->
 (∀σ' H' Cx,σ' 9= .ref p 0->σ' 13= .ak ((parts++ps).map (eu Nd.cells)) Cx->H'.obj o=some [.ak (taken.map aH) cl,.int .i64 c']->HF [o] H H'->(∀c3,bq H c3->kr ck c3->bq H' c3)->Q (.exit 2) σ' H')->W Tryz.prog (.loop F8) Q σ H:=by
 intro m
 induction m with
 |zero=>
  intro i parts ps ck c σ H hi h ho hp hb lo lp lb hok hpl s0 s1 s2 s3 s9 s10 s13 J8 q0;cases h;have hge:decide ((i:Int)<(old.args.length:Int))=false:=decide_eq_false (by omega);refine aW (fun K hK=>aC ?_);unfold F8;have hb':=hb;unfold jG at hb';simp -implicitDefEqProofs only [go_sem,s10,J8,hb',hge];exact q0 _ H ck aP (by rw [List.append_nil];simp -implicitDefEqProofs only [go_sem,s13]) ho (HF.refl _ _) (fun c3 h _=>h)
 |succ m ih=>
  intro i parts ps ck c σ H hi h ho hp hb lo lp lb hok hpl s0 s1 s2 s3 s9 s10 s13 J8 q0;rw [G8]at h;obtain⟨bs,hbs,h1⟩:=aj h;obtain⟨ms,hms,h2⟩:=aj h1;obtain⟨sub,hsub,h3⟩:=aj h2;obtain⟨⟨hbl,hml⟩,h4⟩:=aU h3;obtain⟨⟨r1,c1⟩,hr,h5⟩:=aj h4;obtain⟨⟨qs,c2⟩,hq,h6⟩:=aj h5;cases h6;clear h h1 h2 h3 h4 h5;have hlt:decide ((i:Int)<(old.args.length:Int))=true:=decide_eq_true (by omega);have hw:IntKind.wrap .i64 ((i:Int)+1)=((i+1:Nat):Int):=by rw [IntKind.wrap_i64];omega
  refine aW (fun K hK=>aC ?_);unfold F8;have hb':=hb;unfold jG at hb';simp -implicitDefEqProofs only [go_sem,s10,J8,hb',hlt,Nat.zero_add,Nat.le_refl,List.take,List.drop];refine av (Yj hbs) ?_;simp -implicitDefEqProofs only [go_sem,s2];refine bA.mono (afn bound hb1 H) ?_;rintro _ H1 ⟨c16,rfl,k16,hf1,kk1⟩;simp -implicitDefEqProofs only [go_sem,s3];refine bA.mono (afn called hb2 H1) ?_;rintro _ H2 ⟨c17,rfl,k17,hf2,kk2⟩;simp -implicitDefEqProofs only [go_sem];have qK:=hf1.tr hf2;obtain⟨alE,d1⟩:=kk2 c16 k16;have hp2:=(qK.2 p lp List.not_mem_nil).trans hp;have hb2':=(qK.2 b lb List.not_mem_nil).trans hb;have ho2:=(qK.2 o lo List.not_mem_nil).trans ho;refine ap6 (n:=old) (p:=p) (b:=b) (bs:=bs) (nn:=nn) (Vb:=Vb) (F:=F) hbl bs.length 0 bound called c16 c17 ms _ H2 (Nat.zero_add _) (by rw [List.drop_zero];exact hms) hp2 hb2' alE k17 d1.symm (by omega) (by omega) aP aP aP aP aP aP fun σ' H3 u16 u17 fr e16 e17 hf3 kk3=> ?_;rw [List.drop_zero]at e16;have t0:σ' 0= .ref o 0:=(fr 0 (by decide) (by decide)).trans aP;have t1:σ' 1=fT e:=(fr 1 (by decide) (by decide)).trans aP;have t2:σ' 2= .ak (bound.map aH) .unk:=(fr 2 (by decide) (by decide)).trans aP;have t3:σ' 3= .ak (called.map aH) .unk:=(fr 3 (by decide) (by decide)).trans aP;have t9:σ' 9= .ref p 0:=(fr 9 (by decide) (by decide)).trans aP;have t10:σ' 10= .ref b 0:=(fr 10 (by decide) (by decide)).trans aP;have t13:σ' 13= .ak (parts.map (eu Nd.cells)) ck:=(fr 13 (by decide) (by decide)).trans aP;have t14:σ' 14= .int .i64 i:=(fr 14 (by decide) (by decide)).trans aP;have acV:=qK.tr hf3;have lo3:o<H3.next:=Nat.lt_of_lt_of_le lo acV.1;have ho3:=(acV.2 o lo List.not_mem_nil).trans ho;have aum: ∀c3,bq H c3->bq H3 c3:=fun c3 h=>by
   obtain⟨x1,x2⟩:=kk1 c3 h;obtain⟨y1,y2⟩:=kk2 c3 x1;exact kk3 c3 y1 x2 y2
  simp -implicitDefEqProofs only [go_sem,t0,t1,t13,t14];refine av (aei hsub) ?_;simp -implicitDefEqProofs only [go_sem,e16,e17];refine bA.mono (bA.wk (hrec _ _ _ _ _ _ hr H3 ho3 lo3) (.same (.same (.ak (.ak .nil))))) ?_;rintro _ H4 ⟨rfl,ho4,hf4,kk4⟩;simp -implicitDefEqProofs only [go_sem];refine gq (f:=eu Nd.cells) T9 parts [r1] ck .exact aP aP (kk4 _ (aum _ hok)) (by simp;omega) (fun ck5 H5 g1 g2 g3 g4=> ?_);simp -implicitDefEqProofs only [go_sem,t14,hw];have Qc:HF [] H4 H5:=⟨g2,fun a _ _=>g3 a⟩;have akJ:HF [o] H H4:=(acV.up fun a ha=>by cases ha).tr hf4;have Nz:HF [o] H H5:=akJ.tr (Qc.up fun a ha=>by cases ha);have auo: ∀c3,bq H c3->kr ck c3->bq H5 c3/\kr ck5 c3:=fun c3 w1 w2=>g4 c3 (kk4 _ (aum _ w1)) w2;have op5:H5.obj p=some (jG old (.ak (nn.map aH) Vb)):=(Nz.2 p lp (fun hm=>hop (List.mem_singleton.1 hm).symm)).trans hp;have ob5:H5.obj b=some (jG old (.ak (old.names.map aH) .unk)):=(Nz.2 b lb (fun hm=>Bf (List.mem_singleton.1 hm).symm)).trans hb;refine hK _ _ (ih (i+1) (parts++[r1]) qs ck5 c1 _ H5 (by omega) hq ((g3 o).trans ho4) op5 ob5 (Nat.lt_of_lt_of_le lo Nz.1) (Nat.lt_of_lt_of_le lp Nz.1) (Nat.lt_of_lt_of_le lb Nz.1) g1 (by simp;omega) aP aP aP aP aP aP aP aP fun σ6 H6 ck6 w1 w2 w3 w4 w5=> ?_);rw [List.append_assoc]at w2;exact q0 σ6 H6 ck6 w1 w2 w3 (Nz.tr w4) (fun c3 x1 x2=>w5 c3 (auo c3 x1 x2).1 (auo c3 x1 x2).2)
end
def JB (taken:List Str) (F:Nat):Nat->ahc
 |0=>fun _ _ _ _=>none
 |k+1=>fun e c bound called=>(Gx e).bind fun root=>(zR F root).bind fun nm=>(cond nm (xI F bound called root.text) (some root.text)).bind fun t=>
  (y8 taken F (root.kind==16||root.kind==17) root.names c).bind fun p=>
       if root.names.length<=1000000/\root.args.length<=1000000/\bound.length<=1000000/\called.length<=1000000 then
        (G8 (JB taken F k) F e {root with text:=t} p.1 bound called root.args.length 0 p.2).bind fun q=>
         (KA F {root with text:=t,names:=p.1} q.1).bind fun r=>some (r,q.2)else none
theorem ap8 {F:Nat} {root:Nd} {nm:Bool} {t:Str} {bound called:List Str} {p:Nat} {σ:Nat->PV} {H:AH} {Q:Post} (hnm:zR F root=some nm) (ht:(cond nm (xI F bound called root.text) (some root.text))=some t)
 (s2:σ 2= .ak (bound.map aH) .unk) (s3:σ 3= .ak (called.map aH) .unk) (s9:σ 9= .ref p 0) (hp:H.obj p=some (jG root (.ak (root.names.map aH) .unk)))
 (q0: ∀σ' H',(∀j,j<21->σ' j=σ j)->H'.obj p=some (jG {root with text:=t} (.ak (root.names.map aH) .unk))->HF [p] H H'->H'.next=H.next->(∀c3,bq H c3->bq H' c3)->Q .normal σ' H'):W Tryz.prog RO Q σ H:=by
 refine aC ?_;unfold RO;have hp':=hp;unfold jG at hp';simp -implicitDefEqProofs only [go_sem,s9,hp',Nat.zero_add,Nat.le_refl,List.take,List.drop];refine av (Yi hnm) ?_;cases nm with
 |false=>
  cases ht;simp -implicitDefEqProofs only [go_sem];refine q0 _ H (fun j hj=> ?_) hp (HF.refl _ _) rfl (fun _ h=>h);have:j≠21/\j≠22:=by omega
  simp only [upd,this,↓reduceIte]
 |true=>
  simp -implicitDefEqProofs only [go_sem,s2,s3,s9,hp'];refine av (ag8 ht) ?_;simp -implicitDefEqProofs only [go_sem,s9];refine Va (id:=p) (o:=2) (vs:=[.str t]) (cs:=jG root (.ak (root.names.map aH) .unk)) aP aP hp rfl (by show 3<=5;decide) rfl ?_;have hput:putCells (jG root (.ak (root.names.map aH) .unk)) 2 [.str t]=jG {root with text:=t} (.ak (root.names.map aH) .unk):=rfl;rw [hput];simp -implicitDefEqProofs only [go_sem];refine q0 _ _ (fun j hj=> ?_) (by show(if p=p then _ else _)=_;rw [if_pos rfl]) ⟨Nat.le_refl _,fun a ha hm=> ?_⟩ rfl (fun c3 h=>h.put)
  · have:j≠21/\j≠22/\j≠23/\j≠24/\j≠25/\j≠26/\j≠27/\j≠28:=by omega
    simp only [upd,this,↓reduceIte]
  · show(if a=p then _ else _)=_
    rw [if_neg (fun e=>hm (List.mem_singleton.2 e))]
theorem aup {o:Nat} {taken:List Str} {cl:Ck} {F:Nat}: ∀k,aul o taken cl (JB taken F k):=by
 intro k
 induction k with
 |zero=>intro e c bound called r c' h;cases h
 |succ k ih=>
  intro e c bound called r c' h H ho lo;rw [JB]at h;obtain⟨root,hroot,h1⟩:=aj h;obtain⟨nm,hnm,h2⟩:=aj h1;obtain⟨t,ht,h3⟩:=aj h2;obtain⟨⟨nn,c1⟩,hnn,h4⟩:=aj h3;obtain⟨⟨hb1,hb2,hb3,hb4⟩,h5⟩:=aU h4;obtain⟨⟨ps,c2⟩,hps,h6⟩:=aj h5;obtain⟨r',aoB,h7⟩:=aj h6;cases h7;clear h h1 h2 h3 h4 h5 h6;refine aF awc (by simp) (aC ?_);unfold am2;simp -implicitDefEqProofs only [go_sem];refine av (abL hroot) ?_;simp -implicitDefEqProofs only [go_sem,dL,Nat.le_refl];obtain⟨H1,hH1⟩: ∃H1,H1=(H.new [.int .i64 0,.int .i64 0,.str [],.ak [] .nil,.ak [] .nil]).put H.next (jG root (.ak (root.names.map aH) .unk)):=⟨_,rfl⟩;have e1:(H.new [.int .i64 0,.int .i64 0,.str [],.ak [] .nil,.ak [] .nil]).put H.next [.int .i64 root.kind,.int .i64 root.n,.str root.text,.ak (root.names.map aH) .unk,.ak (root.args.map aS) .unk]=H1:=hH1.symm;have hf1:HF [] H H1:=by rw [hH1];exact HF.put (.inr (Nat.le_refl _)) (HF.new (HF.refl _ _))
  have op1:H1.obj H.next=some (jG root (.ak (root.names.map aH) .unk)):=by rw [hH1];show(if H.next=H.next then _ else _)=_;rw [if_pos rfl]
  have nx1:H1.next=H.next+1:=by rw [hH1];rfl
  have ok1: ∀c3,bq H c3->bq H1 c3:=fun c3 h=>by rw [hH1];exact h.new.put
  simp only [e1];clear hH1 e1;refine ap8 (p:=H.next) hnm ht aP aP aP op1 fun σ2 H2 Vd op2 hf2 nx2 ok2=> ?_;have t0:σ2 0= .ref o 0:=(Vd 0 (by decide)).trans aP;have t1:σ2 1=fT e:=(Vd 1 (by decide)).trans aP;have t2:σ2 2= .ak (bound.map aH) .unk:=(Vd 2 (by decide)).trans aP;have t3:σ2 3= .ak (called.map aH) .unk:=(Vd 3 (by decide)).trans aP;have t9:σ2 9= .ref H.next 0:=(Vd 9 (by decide)).trans aP;obtain⟨old,hold⟩: ∃old:Nd,old={root with text:=t}:=⟨_,rfl⟩;have k1:old.kind=root.kind:=by rw [hold]
  have g1:old.args=root.args:=by rw [hold]
  have m1:old.names=root.names:=by rw [hold]
  have hj2:({root with text:=t,names:=nn}:Nd)={old with names:=nn}:=by rw [hold]
  rw [hj2]at aoB;rw [<-hold]at op2 hps;rw [<-m1]at op2 hnn;rw [<-k1]at hnn;clear hold hj2;have hop2:o≠H.next:=by omega
  have ho2:H2.obj o=some [.ak (taken.map aH) cl,.int .i64 c]:=(hf2.2 o (Nat.lt_of_lt_of_le lo hf1.1) (fun hm=>hop2 (List.mem_singleton.1 hm))).trans ((hf1.2 o lo List.not_mem_nil).trans ho);have auq:=op2;unfold jG at auq;have hne: ¬(H.next=H2.next):=by omega
  have hne': ¬(H2.next=H.next):=by omega
  simp -implicitDefEqProofs only [go_sem,dL,t9,auq,hne,hne',Nat.zero_add,Nat.le_refl,List.take,List.drop];obtain⟨H4,hH4⟩: ∃H4,H4=((H2.new [.int .i64 0,.int .i64 0,.str [],.ak [] .nil,.ak [] .nil]).put H2.next (jG old (.ak (old.names.map aH) .unk))).put H.next (jG old (.ak [] .nil)):=⟨_,rfl⟩;have e4:((H2.new [.int .i64 0,.int .i64 0,.str [],.ak [] .nil,.ak [] .nil]).put H2.next [.int .i64 old.kind,.int .i64 old.n,.str old.text,.ak (old.names.map aH) .unk,.ak (old.args.map aS) .unk]).put H.next [.int .i64 old.kind,.int .i64 old.n,.str old.text,.ak [] .nil,.ak (old.args.map aS) .unk]=H4:=hH4.symm;have op4:H4.obj H.next=some (jG old (.ak [] .nil)):=by rw [hH4];show(if H.next=H.next then _ else _)=_;rw [if_pos rfl]
  have ob4:H4.obj H2.next=some (jG old (.ak (old.names.map aH) .unk)):=by
   rw [hH4];show(if H2.next=H.next then _ else if H2.next=H2.next then _ else _)=_;rw [if_neg (fun e=>hne e.symm),if_pos rfl]
  have ot4: ∀j,j<H2.next->j≠H.next->H4.obj j=H2.obj j:=fun j h1 h2=>by
   rw [hH4];show(if j=H.next then _ else if j=H2.next then _ else if j=H2.next then _ else _)=_;rw [if_neg h2,if_neg (by omega),if_neg (by omega)]
  have nx4:H4.next=H2.next+1:=by rw [hH4];rfl
  have ok4: ∀c3,bq H2 c3->bq H4 c3:=fun c3 h=>by rw [hH4];exact h.new.put.put
  simp only [e4];clear hH4 e4;have ho4:H4.obj o=some [.ak (taken.map aH) cl,.int .i64 c]:=(ot4 o (by omega) hop2).trans ho2;have aur:=ob4;unfold jG at aur;obtain⟨fx,hfx⟩: ∃fx,fx=(old.kind==16||old.kind==17):=⟨_,rfl⟩;rw [<-hfx]at hnn
  have key: ∀σ3,(∀j,j<31->j≠11->j≠12->σ3 j=upd (upd (upd σ2 (some 29) (PV.agg (jG old (.ak (old.names.map aH) .unk)))) (some 10) (PV.ref H2.next 0)) (some 30) (PV.ref H.next 3) j)->σ3 11= .bool fx->σ3 12= .int .i64 0->
   WS Tryz.prog F7.loop [Fm.block 0,Fm.seq ((AC.ops [oR 13 (RK.aV (AE.c (PV.ak [] Ck.nil)))]).seq (((AC.ops [oI 14 0]).seq (AC.block 2 F8.loop)).seq ((AC.ops [oA 115 5 9,oM 116 13,oC 117 118 [AE.t 115,AE.t 116],oM 8 117]).seq AC.ret)))]
    (Jg [RV.tmp 8] fun v H'=>v=fT r/\H'.obj o=some [PV.ak (List.map aH taken) cl,PV.int IntKind.i64 c2]/\HF [o] H H'/\ ∀(c3:Ck),bq H c3->bq H' c3) σ3 H4:=by
   intro σ3 fr3 s11 s12;have u0:σ3 0= .ref o 0:=(fr3 0 (by decide) (by decide) (by decide)).trans aP;have u1:σ3 1=fT e:=(fr3 1 (by decide) (by decide) (by decide)).trans aP;have u2:σ3 2= .ak (bound.map aH) .unk:=(fr3 2 (by decide) (by decide) (by decide)).trans aP;have u3:σ3 3= .ak (called.map aH) .unk:=(fr3 3 (by decide) (by decide) (by decide)).trans aP;have u9:σ3 9= .ref H.next 0:=(fr3 9 (by decide) (by decide) (by decide)).trans aP;have u10:σ3 10= .ref H2.next 0:=(fr3 10 (by decide) (by decide) (by decide)).trans aP;have hnl:old.names.length<=1000000:=by rw [m1];exact hb1
   refine ap5 (n:=old) (o:=o) (p:=H.next) (b:=H2.next) (taken:=taken) (F:=F) (fx:=fx) (cl:=cl) (c':=c1) hnl hop2 (by omega) hne old.names.length 0 [] .nil c nn σ3 H4 (Nat.zero_add _) rfl (by rw [List.drop_zero];exact hnn) ho4 op4 ob4 (by omega) (by omega) (by omega) trivial u0 u9 u10 s11 s12 fun YH H5 ck5 J9 o5 p5 Qc kk5=> ?_;have b5:=(Qc.2 H2.next (by omega) (fun hm=>by
    rcases List.mem_cons.1 hm with q|q
    · omega
    · have:=List.mem_singleton.1 q;omega)).trans ob4
   have w0:YH 0= .ref o 0:=(J9 0 (by decide) (by decide)).trans u0;have w1:YH 1=fT e:=(J9 1 (by decide) (by decide)).trans u1;have w2:YH 2= .ak (bound.map aH) .unk:=(J9 2 (by decide) (by decide)).trans u2;have w3:YH 3= .ak (called.map aH) .unk:=(J9 3 (by decide) (by decide)).trans u3;have w9:YH 9= .ref H.next 0:=(J9 9 (by decide) (by decide)).trans u9;have w10:YH 10= .ref H2.next 0:=(J9 10 (by decide) (by decide)).trans u10;rw [List.nil_append]at p5;simp -implicitDefEqProofs only [go_sem];have hal:old.args.length=root.args.length:=by rw [g1]
   refine ap7 (o:=o) (p:=H.next) (b:=H2.next) (taken:=taken) (F:=F) (cl:=cl) (Vb:=ck5) (rec:=JB taken F k) (e:=e) (old:=old) (nn:=nn) (bound:=bound) (called:=called) (c':=c2) ih hop2 (by omega) (by rw [hal];exact hb2) hb3 hb4 old.args.length 0 [] ps .nil c1 _ H5 (Nat.zero_add _) (by rw [hal];exact hps) o5 p5 b5 (by have:=Qc.1;omega) (by have:=Qc.1;omega) (by have:=Qc.1;omega) trivial (by rw [List.length_nil,hal];omega) aP aP aP aP aP aP aP aP fun σ6 H6 ck6 v9 v13 o6 hf6 kk6=> ?_;have p6:=(hf6.2 H.next (by have:=Qc.1;omega) (fun hm=>hop2 (List.mem_singleton.1 hm).symm)).trans p5;have p6':=p6;unfold jG at p6';rw [List.nil_append]at v13;simp -implicitDefEqProofs only [go_sem,v9,v13,p6',Nat.zero_add,Nat.le_refl,List.take,List.drop];refine av (aD.wx (als aoB) (.agg (.same (.same (.same (.ak (.same .nil))))) (.same .nil))) ?_;simp -implicitDefEqProofs only [go_sem];refine⟨o6,?_,fun c3 h=>kk6 c3 (kk5 c3 (ok4 c3 (ok2 c3 (ok1 c3 h))) (fun t e=>by cases e)) (fun t e=>by cases e)⟩;refine⟨by have:=Qc.1;have:=hf6.1;omega,fun a ha hm=> ?_⟩;have hap:a≠H.next:=by omega
   have hao:a≠o:=fun e=>hm (List.mem_singleton.2 e);rw [hf6.2 a (by have:=Qc.1;omega) hm,Qc.2 a (by omega) (fun h=>by
    rcases List.mem_cons.1 h with q|q
    · exact hao q
    · exact hap (List.mem_singleton.1 q)),ot4 a (by omega) hap,hf2.2 a (by omega) (fun h=>hap (List.mem_singleton.1 h)),hf1.2 a ha List.not_mem_nil]
  cases h16:(old.kind==16)with
  |true=>
   rw [h16]at hfx;simp -implicitDefEqProofs only [go_sem,RP,h16];refine key _ (fun j hj h1 h2=> ?_) (by rw [hfx];simp -implicitDefEqProofs only [go_sem];try rfl) aP;have:j≠31/\j≠32/\j≠33/\j≠34/\j≠35/\j≠36/\j≠37/\j≠38:=by omega
   simp only [upd,jG,h1,h2,this,↓reduceIte]
  |false=>
   rw [h16]at hfx;simp -implicitDefEqProofs only [go_sem,RP,h16,aur];refine key _ (fun j hj h1 h2=> ?_) (by rw [hfx];simp -implicitDefEqProofs only [go_sem];try rfl) aP;have:j≠31/\j≠32/\j≠33/\j≠34/\j≠35/\j≠36/\j≠37/\j≠38:=by omega
   simp only [upd,jG,h1,h2,this,↓reduceIte]
end Go.VL
end
section
namespace Go.VL
theorem Ou {α β:Type} (f:Nat->α->Option β) (g:α->β): ∀l:List α,(∀x∈l,Ev (fun k=>f k x) (g x))-> ∃K,∀k,K<=k-> ∀x∈l,f k x=some (g x)
 |[],_=>⟨0,fun k _ x hx=>by cases hx⟩
 |a::l,h=>by
  obtain⟨K,hK⟩:=h a List.mem_cons_self;obtain⟨L,hL⟩:=Ou f g l fun x hx=>h x (List.mem_cons_of_mem _ hx);refine⟨max K L,fun k hk x hx=> ?_⟩;rcases List.mem_cons.1 hx with rfl|hx
  · exact hK k (by omega)
  · exact hL k (by omega) x hx
theorem YI (c:Nat):NA ((c:Int)+1)=bN (c+1):=rfl
section
variable {left:List Str}
theorem ajr {K:Nat} (hK: ∀k,K<=k-> ∀x∈List.range 9002,bV k left (bN x)=some (decide (bN x∈left))):
 ∀(f c F:Nat),left.length<=f+cnt left c->c+f<=9000->K+f+1<=F->Bd left F (c:Int)=some (bN (D8 left f c),((D8 left f c:Nat):Int)):=by
 intro f
 induction f with
 |zero=>
  intro c F h1 h2 h3;obtain⟨F,rfl⟩: ∃j,F=j+1:=⟨F -1,by omega⟩;have hn:bN (c+1)∉left:=fun hm=>by
   have h4:=Dh left c;have h5:=U6 left (c+1);rw [if_pos hm]at h4;omega
  rw [Bd,if_pos (by omega),YI,hK F (by omega) (c+1) (List.mem_range.2 (by omega)),Option.bind_some,decide_eq_false hn,cond_false];rfl
 |succ f ih=>
  intro c F h1 h2 h3;obtain⟨F,rfl⟩: ∃j,F=j+1:=⟨F -1,by omega⟩;rw [Bd,if_pos (by omega),YI,hK F (by omega) (c+1) (List.mem_range.2 (by omega)),Option.bind_some];by_cases hm:bN (c+1)∈left
  · have h4:=Dh left c;rw [if_pos hm]at h4;rw [decide_eq_true hm,cond_true,D8,if_pos hm];exact ih (c+1) F (by omega) (by omega) (by omega)
  · rw [decide_eq_false hm,cond_false,D8,if_neg hm];rfl
theorem ajs {K:Nat} (hK: ∀k,K<=k-> ∀x∈List.range 9002,nu k left (bN x)=some (decide (bN x∈left))) (hT: ∀k,K<=k-> ∀x∈List.range 9002,Gv k ((x:Nat):Int)=some (Lib.decDigits x)):
 ∀(f c F:Nat),left.length<=f+cnt left c->c+f<=9000->K+f+1<=F->Cj left F (c:Int)=some (bN (D8 left f c),((D8 left f c:Nat):Int)):=by
 intro f
 induction f with
 |zero=>
  intro c F h1 h2 h3;obtain⟨F,rfl⟩: ∃j,F=j+1:=⟨F -1,by omega⟩;have hn:bN (c+1)∉left:=fun hm=>by
   have h4:=Dh left c;have h5:=U6 left (c+1);rw [if_pos hm]at h4;omega
  have ht:=hT F (by omega) (c+1) (List.mem_range.2 (by omega));have hl:=IZ 3 (c+1) (by omega);rw [Cj,if_pos (by omega),show((c:Int)+1)=((c+1:Nat):Int)from rfl,ht,Option.bind_some,if_pos (by omega),show [98,95]++Lib.decDigits (c+1)=bN (c+1)from(U5 _).symm,hK F (by omega) (c+1) (List.mem_range.2 (by omega)),Option.bind_some,decide_eq_false hn,cond_false];rfl
 |succ f ih=>
  intro c F h1 h2 h3;obtain⟨F,rfl⟩: ∃j,F=j+1:=⟨F -1,by omega⟩;have ht:=hT F (by omega) (c+1) (List.mem_range.2 (by omega));have hl:=IZ 3 (c+1) (by omega);rw [Cj,if_pos (by omega),show((c:Int)+1)=((c+1:Nat):Int)from rfl,ht,Option.bind_some,if_pos (by omega),show [98,95]++Lib.decDigits (c+1)=bN (c+1)from(U5 _).symm,hK F (by omega) (c+1) (List.mem_range.2 (by omega)),Option.bind_some];by_cases hm:bN (c+1)∈left
  · have h4:=Dh left c;rw [if_pos hm]at h4;rw [decide_eq_true hm,cond_true,D8,if_pos hm];exact ih (c+1) F (by omega) (by omega) (by omega)
  · rw [decide_eq_false hm,cond_false,D8,if_neg hm]
end
structure Ve (left:List Str) (F:Nat):Prop where
 p: ∀c:Nat,c+left.length<=9000->Bd left F (c:Int)=some (bN (uJ left c),((uJ left c:Nat):Int))
 r: ∀c:Nat,c+left.length<=9000->Cj left F (c:Int)=some (bN (uJ left c),((uJ left c:Nat):Int))
theorem acX (left:List Str) (hl:left.length<=9000): ∃K,∀F,K<=F->Ve left F:=by
 obtain⟨K1,h1⟩:=Ou (fun k x=>bV k left (bN x)) (fun x=>decide (bN x∈left)) (List.range 9002) (fun x _=>ze left (bN x) (by omega));obtain⟨K2,h2⟩:=Ou (fun k x=>nu k left (bN x)) (fun x=>decide (bN x∈left)) (List.range 9002) (fun x _=>qU left (bN x) (by omega));obtain⟨K3,h3⟩:=Ou (fun k (x:Nat)=>Gv k (x:Int)) (fun x=>Lib.decDigits x) (List.range 9002) (fun x hx=>by
  have:=List.mem_range.1 hx;have h:=ajg (n:=(x:Int)) ⟨by omega,by omega⟩;rw [acH]at h;exact h)
 refine⟨K1+K2+K3+left.length+1,fun F hF=>⟨fun c hc=> ?_,fun c hc=> ?_⟩⟩
 · exact ajr (K:=K1) (fun k hk x hx=>h1 k hk x hx) left.length c F (by omega) hc (by omega)
 · exact ajs (K:=K2+K3) (fun k hk x hx=>h2 k (by omega) x hx) (fun k hk x hx=>h3 k (by omega) x hx) left.length c F (by omega) hc (by omega)
theorem YJ {left:List Str} {F:Nat} (h:Ve left F): ∀(m c:Nat),(lH left m c).2+left.length<=9000->G7 left F m (c:Int)=some ((lH left m c).1,((lH left m c).2:Int))
 |0,c,hc=>rfl
 |m+1,c,hc=>by
  have h1:=(D9 left c).2.1;have h2:=GZ left m (uJ left c);simp only [lH]at hc;rw [G7,h.p c (by omega),Option.bind_some,YJ h m (uJ left c) hc];rfl
theorem YK {left:List Str} {F:Nat} (h:Ve left F): ∀(l:List Str) (c:Nat),(lH left l.length c).2+left.length<=9000->y8 left F false l (c:Int)=some ((lH left l.length c).1,((lH left l.length c).2:Int))
 |[],c,hc=>rfl
 |s::l,c,hc=>by
  have h1:=(D9 left c).2.1;have h2:=GZ left l.length (uJ left c);simp only [List.length_cons,lH]at hc;rw [y8,cond_false,h.r c (by omega),Option.bind_some,YK h l (uJ left c) hc];rfl
theorem YL {left:List Str} {F:Nat}: ∀(l:List Str) (c:Int),y8 left F true l c=some (l,c)
 |[],c=>rfl
 |s::l,c=>by rw [y8,cond_true,Option.bind_some,YL l c];rfl
end Go.VL
end
section
namespace Go.VL
open Tm
def oP (k m:Int) (a p:Nat):Nat:=
 if(jL k).getD false=true then(if((p:Int)==IntKind.wrap .i64 ((a:Int) -1))=true then 1 else 0)
 else if k=23 then(if((p:Int)==IntKind.wrap .i64 ((a:Int) -1))=true then 2 else if m=1 then 1 else 3)else 0
def jd:Nat->List Str->List Str
 |1,l=>l
 |2,l=>l.take 1
 |3,l=>l.drop 1
 |_,_=>[]
theorem JC {n:Nd} (h:n.kind=23->1<=n.names.length) (p:Nat):iq n (p:Int)=some (jd (oP n.kind n.n n.args.length p) n.names):=by
 have hj: ∃b,jL n.kind=some b:=by
  unfold jL
  repeat' first
   |exact⟨_,rfl⟩
   |(generalize(n.kind==_)=b;cases b<;>simp only [cond_true,cond_false])
 obtain⟨b,hb⟩:=hj;unfold iq oP;rw [hb,Option.bind_some,Option.getD_some];cases b with
 |true=>
  rw [cond_true,if_pos rfl];cases((p:Int)==IntKind.wrap .i64 ((n.args.length:Int) -1))<;>rfl
 |false=>
  rw [cond_false,if_neg (show ¬(false=true) by simp)];by_cases hk:n.kind=23
  · have h2:=h hk;rw [wo (by rw [hk];rfl),if_pos hk,if_pos h2,if_pos h2];cases((p:Int)==IntKind.wrap .i64 ((n.args.length:Int) -1))with
    |true=>rfl
    |false=>
     by_cases hm:n.n=1
     · rw [hm];rfl
     · have:(n.n==1)=false:=beq_eq_false_iff_ne.2 hm;rw [this,if_neg (show ¬(false=true) by simp),if_neg hm];rfl
  · rw [oQ (by rw [beq_eq_false_iff_ne];exact hk),if_neg hk];rfl
theorem ajt {n:Nd} (h:n.kind=23->1<=n.names.length) (p:Nat):yj n p=jd (oP n.kind n.n n.args.length p) n.names:=by
 unfold yj;rw [JC h];rfl
theorem YM (s:Nat) {l m:List Str} (h:l.length=m.length):(jd s l).length=(jd s m).length:=by
 unfold jd;split<;>simp [h]
theorem acY (s:Nat) (l:List Str):(jd s l).length<=l.length:=by
 unfold jd;split<;>simp<;>omega
theorem YN {s:Nat} {l:List Str} {x:Str} (h:x∈jd s l):x∈l:=by
 unfold jd at h;split at h
 · exact h
 · exact List.mem_of_mem_take h
 · exact List.mem_of_mem_drop h
 · cases h
theorem ap9 {k m:Int} (h:k=16\/k=17) (a p:Nat):oP k m a p=0:=by
 unfold oP;rcases h with rfl|rfl
 · rw [if_neg (by decide),if_neg (by decide)]
 · rw [if_neg (by decide),if_neg (by decide)]
def fP (left:List Str) (x:Nd) (c:Nat):List Str×Nat:=if x.kind=16\/x.kind=17 then(x.names,c)else lH left x.names.length c
def Cm (bd:List Scope) (x:Nd):Str:=if jR x=true then lI bd x.text else x.text
def ou (left:List Str) (bd:List Scope) (c:Nat) (x:Nd):Nd:={x with text:=Cm bd x,names:=(fP left x c).1}
def tV (x y:Nd) (a j:Nat):List Scope:=List.zipWith Scope.mk (jd (oP x.kind x.n a j) x.names) (jd (oP x.kind x.n a j) y.names)
mutual
def can (left:List Str) (bd:List Scope) (c:Nat):Tm->Tm×Nat
 | .mk x cs=>(.mk (ou left bd c x) (fV left bd x (ou left bd c x) cs.length 0 (fP left x c).2 cs).1,(fV left bd x (ou left bd c x) cs.length 0 (fP left x c).2 cs).2)
def fV (left:List Str) (bd:List Scope) (x y:Nd) (a j c:Nat):List Tm->List Tm×Nat
 |[]=>([],c)
 |t::ts=>((can left (bd++tV x y a j) c t).1::(fV left bd x y a (j+1) (can left (bd++tV x y a j) c t).2 ts).1,(fV left bd x y a (j+1) (can left (bd++tV x y a j) c t).2 ts).2)
end
theorem G9 {left:List Str} {bd:List Scope} {c:Nat} {x:Nd} {cs:List Tm}:can left bd c (.mk x cs)=(.mk (ou left bd c x) (fV left bd x (ou left bd c x) cs.length 0 (fP left x c).2 cs).1,(fV left bd x (ou left bd c x) cs.length 0 (fP left x c).2 cs).2):=by rw [can]
theorem mI {left:List Str} {bd:List Scope} {x y:Nd} {a j c:Nat} {t:Tm} {ts:List Tm}:fV left bd x y a j c (t::ts)=((can left (bd++tV x y a j) c t).1::(fV left bd x y a (j+1) (can left (bd++tV x y a j) c t).2 ts).1,(fV left bd x y a (j+1) (can left (bd++tV x y a j) c t).2 ts).2):=by rw [fV]
mutual
theorem uL (left:List Str): ∀(t:Tm) (bd:List Scope) (c:Nat),(can left bd c t).1.size=t.size
 | .mk x cs,bd,c=>by rw [G9];simp only [size];rw [E9 left cs]
theorem E9 (left:List Str): ∀(cs:List Tm) (bd:List Scope) (x y:Nd) (a j c:Nat),sizes (fV left bd x y a j c cs).1=sizes cs
 |[],bd,x,y,a,j,c=>by rw [fV]
 |t::ts,bd,x,y,a,j,c=>by rw [mI];simp only [sizes];rw [uL left t,E9 left ts]
end
theorem acZ (left:List Str): ∀(cs:List Tm) (bd:List Scope) (x y:Nd) (a j c:Nat),(fV left bd x y a j c cs).1.length=cs.length
 |[],bd,x,y,a,j,c=>by rw [fV]
 |t::ts,bd,x,y,a,j,c=>by rw [mI,List.length_cons,List.length_cons,acZ left ts]
theorem Fa (left:List Str): ∀(cs:List Tm) (b:Nat) (bd:List Scope) (x y:Nd) (a j c:Nat),roots b (fV left bd x y a j c cs).1=roots b cs
 |[],b,bd,x,y,a,j,c=>by rw [fV]
 |t::ts,b,bd,x,y,a,j,c=>by rw [mI,roots,roots,uL,Fa left ts]
theorem XE (left:List Str): ∀(cs:List Tm) (bd:List Scope) (x y y':Nd) (a j c:Nat),y.names=y'.names->fV left bd x y a j c cs=fV left bd x y' a j c cs
 |[],bd,x,y,y',a,j,c,h=>by rw [fV,fV]
 |t::ts,bd,x,y,y',a,j,c,h=>by
  have hs:tV x y a j=tV x y' a j:=by unfold tV;rw [h]
  rw [mI,mI,hs,XE left ts bd x y y' a (j+1) _ h]
theorem He (left:List Str) (x:Nd) (c:Nat):(fP left x c).1.length=x.names.length:=by
 unfold fP;split
 · rfl
 · exact YD left _ _
theorem aqa (left:List Str) (x:Nd) (c:Nat):c<=(fP left x c).2:=by
 unfold fP;split
 · exact Nat.le_refl _
 · exact GZ left _ _
mutual
theorem aus (left:List Str): ∀(t:Tm) (bd:List Scope) (c:Nat),c<=(can left bd c t).2
 | .mk x cs,bd,c=>by rw [G9];exact Nat.le_trans (aqa left x c) (zX left cs _ _ _ _ _ _)
theorem zX (left:List Str): ∀(cs:List Tm) (bd:List Scope) (x y:Nd) (a j c:Nat),c<=(fV left bd x y a j c cs).2
 |[],bd,x,y,a,j,c=>by rw [fV];exact Nat.le_refl _
 |t::ts,bd,x,y,a,j,c=>by rw [mI];exact Nat.le_trans (aus left t _ _) (zX left ts _ _ _ _ _ _)
end
end Go.VL
end
