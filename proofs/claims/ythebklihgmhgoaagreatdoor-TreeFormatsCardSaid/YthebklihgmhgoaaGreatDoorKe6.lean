/- Part 6 of the proof: what the theorem rests on. -/
import Derived.Test.YthebklihgmhgoaaGreatDoorKe5
import Derived.Lib.IndexLaws
set_option linter.unusedVariables false
set_option linter.unusedSectionVars false
set_option linter.unusedSimpArgs false
section
namespace Go.VL
open Tm
theorem abr {e:List Nd} (hL:Cj e) {acc':List Int} (h:nZ [] e= .inl acc'): ∃ts,e=eF 0 ts/\acc'=rX 0 ts/\Ev (fun k=>zH k e) ((bQ 0 ts).map Prod.fst,(bQ 0 ts).map Prod.snd):=by
  have hlen:=hL.len;obtain⟨ts',h1,hb,h2⟩:=Tk hL e [] [] acc' 0 rfl rfl rfl (Nat.zero_le _) h;refine⟨ts',by rw [h1];rfl,hb,?_⟩;unfold zH;refine Ev.aQ ⟨rfl,by omega,by omega⟩ (Ev.aQ ⟨by omega,by omega,by omega⟩ ?_);have e1:((bQ 0 ([]:List Tm)++List.replicate (e.length -0) ((-1:Int),(0:Int))).map Prod.fst)=(Jw [(-1)] (e.length:Int):List Int):=by simp [bQ,Jw]
  have e2:((bQ 0 ([]:List Tm)++List.replicate (e.length -0) ((-1:Int),(0:Int))).map Prod.snd)=List.replicate e.length (0:Int):=by simp [bQ]
  rw [e1,e2]at h2;exact Ev.bind h2 Ev.some
theorem Nn {ts:List Tm} {i:Nat} {P j:Int} (hp:(bQ 0 ts)[i]? =some (P,j)):(P= -1/\j=0)\/ ∃q:Nat,P=(q:Int)/\i<q/\q<(eF 0 ts).length:=by
  rcases KD 0 ts i P j hp with h|⟨q,j',n,h1,h2,h3,h4,h5⟩
  · exact .inl h
  · exact .inr ⟨q,by rw [h1,Nat.zero_add],h3,(List.getElem?_eq_some_iff.1 h4).1⟩
def KE (e:List Nd) (U:List (Int×Int)):Nat->Nat->Bool
  |0,_=>false
  |m+1,i=>match U[i]? with
    |some (P,j)=>if P<0 then false else(decide ((e[P.toNat]?.map Nd.kind)=some 19)&&decide (j=2))||KE e U m P.toNat
    |none=>false
section
variable {ts:List Tm} {e:List Nd}
theorem Xm (he:e=eF 0 ts): ∀(m i:Nat),e.length<=i+m->i<e.length->Ev (fun k=>pU k e ((bQ 0 ts).map Prod.fst) ((bQ 0 ts).map Prod.snd) (i:Int)) (if KE e (bQ 0 ts) m i=true then .inr false else .inl ()):=by
  intro m
  induction m with
  |zero=>intro i h1 h2;omega
  |succ m ih=>
    intro i h1 h2;have hlt:i<(bQ 0 ts).length:=by rw [wU,<-jk 0 ts,<-he];exact h2
    obtain⟨P,j,hU⟩: ∃P j,(bQ 0 ts)[i]? =some (P,j):=⟨_,_,aZ hlt⟩;refine Ev.succ ?_;have hf:((bQ 0 ts).map Prod.fst)[i]? =some P:=by rw [List.getElem?_map,hU];rfl
    have hs:((bQ 0 ts).map Prod.snd)[i]? =some j:=by rw [List.getElem?_map,hU];rfl
    simp only [pU,Int.toNat_natCast,hf,hs,Option.bind_some,nn,if_true];rw [KE,hU];simp only;rcases Nn hU with⟨rfl,rfl⟩|⟨q,rfl,hq,hq2⟩
    · exact Ev.cF (by rfl) Ev.some
    · have hqe:q<e.length:=by rw [he];exact hq2
      refine Ev.cT (by rw [bne_iff_ne];omega) (Ev.aQ (by omega) ?_);simp only [Int.toNat_natCast,aZ hqe,Option.bind_some,Option.map_some,Option.some.injEq,show ¬(q:Int)<0 by omega,if_false];have ihq:=ih q (by omega) hqe;by_cases h3:e[q].kind=19
      · refine Ev.cT (by rw [h3];rfl) ?_;by_cases h4:j=2
        · refine Ev.cT (by rw [h4];rfl) (Ev.some' ?_);simp [h3,h4]
        · refine Ev.cF (by rw [beq_eq_false_iff_ne];exact h4) (ihq.to ?_);simp [h4]
      · refine Ev.cF (by rw [beq_eq_false_iff_ne];exact h3) (ihq.to ?_);simp [h3]
theorem ai4 (he:e=eF 0 ts) (hL:Cj e): ∀(m i:Nat),e.length<=i+m->i<e.length-> ∀P j,(bQ 0 ts)[i]? =some (P,j)-> ∀o:Bool,Ev (fun k=>qV k e P j o) (o||KE e (bQ 0 ts) m i):=by
  intro m
  induction m with
  |zero=>intro i h1 h2;omega
  |succ m ih=>
    intro i h1 h2 P j hU o;refine Ev.succ ?_;rw [KE,hU];simp only;rcases Nn hU with⟨rfl,rfl⟩|⟨q,rfl,hq,hq2⟩
    · simp only [qV];exact Ev.cF (by rfl) (Ev.some' (by simp))
    · have hqe:q<e.length:=by rw [he];exact hq2
      have hlt:q<(bQ 0 ts).length:=by rw [wU,<-jk 0 ts];exact hq2
      obtain⟨P',j',hU'⟩: ∃P j,(bQ 0 ts)[q]? =some (P,j):=⟨_,_,aZ hlt⟩;simp only [qV];refine Ev.cT (decide_eq_true (by omega)) (Ev.oP (x:=o||(decide (e[q].kind=19)&&decide (j=2))) ?_ (Ev.bind (PE he hL hqe hU') ?_))
      · unfold EC;cases o
        · simp only [Int.toNat_natCast,aZ hqe,Option.bind_some,cond_false,nn,if_true,Bool.false_or];by_cases h3:e[q].kind=19
          · rw [zZ (by rw [h3];rfl)];by_cases h4:j=2
            · simp [h3,h4]
            · simp [h4]
          · rw [uI (by rw [beq_eq_false_iff_ne];exact h3)];simp [h3]
        · rfl
      · refine(ih q (by omega) hqe P' j' hU' _).to ?_;simp only [Int.toNat_natCast,aZ hqe,Option.map_some,Option.some.injEq,show ¬(q:Int)<0 by omega,if_false,Bool.or_assoc]
theorem abt (t:Str) (h:(bY dF t).2=true):jE t=false:=by
  have h1:((dF.map (·.text)).all fun t=> !jE t)=true:=by kernel_rfl
  by_cases hm:t∈dF.map (·.text)
  · simpa using List.all_eq_true.1 h1 t hm
  · rw [Nj hm]at h;cases h
theorem ai5 {n:Nd} (h:bX true n=0) (hk:n.kind=3):(bY dF n.text).2= !jE n.text:=by
  cases ho:(bY dF n.text).2
  · unfold bX at h
    split at h;·cases h
    split at h;·cases h
    split at h;·cases h
    split at h;·cases h
    split at h
    · rename_i h1;exact absurd h h1
    · rename_i h1;have h1:qh n=0:=by omega
      unfold qh at h1
      split at h1;·cases h1
      cases hr:jE n.text
      · simp [hk,ho,hr]at h1
      · rfl
  · rw [abt _ ho];rfl
def Om (e:List Nd) (U:List (Int×Int)) (i:Nat):Bool:=match e[i]?,U[i]? with
  |some n,some (P,j)=>if n.kind=24 then(if P<0 then true else match e[P.toNat]? with
      |some m=>if m.kind=3 then(bY dF m.text).2 else true
      |none=>true)else if n.kind=20 then !KE e U e.length i else false
  |_,_=>false
theorem acS (he:e=eF 0 ts) (hL:Cj e) {i:Nat} (hi:i<e.length):Ev (fun k=>Gd k e (i:Int) ((bQ 0 ts).map Prod.fst) ((bQ 0 ts).map Prod.snd)) (Om e (bQ 0 ts) i):=by
  have hlt:i<(bQ 0 ts).length:=by rw [wU,<-jk 0 ts,<-he];exact hi
  obtain⟨P,j,hU⟩: ∃P j,(bQ 0 ts)[i]? =some (P,j):=⟨_,_,aZ hlt⟩;have hf:((bQ 0 ts).map Prod.fst)[i]? =some P:=by rw [List.getElem?_map,hU];rfl
  unfold Gd Om;simp only [Int.toNat_natCast,aZ hi,hf,Option.bind_some,nn,if_true,hU];by_cases h1:e[i].kind=24
  · refine Ev.cT (by rw [h1];rfl) ?_;simp only [h1,if_true];rcases Nn hU with⟨rfl,rfl⟩|⟨q,rfl,hq,hq2⟩
    · exact Ev.cT (by rfl) Ev.some
    · have hqe:q<e.length:=by rw [he];exact hq2
      refine Ev.cF (by rw [beq_eq_false_iff_ne];omega) (Ev.aQ (by omega) ?_);simp only [Int.toNat_natCast,aZ hqe,Option.bind_some,show ¬(q:Int)<0 by omega,if_false];by_cases h2:e[q].kind=3
      · refine Ev.cF (by rw [h2];rfl) (Ev.bind (rD _) (Ev.some' ?_));simp only [h2,if_true]
      · refine Ev.cT (by rw [bne_iff_ne];exact h2) (Ev.some' ?_);simp only [h2,if_false]
  · refine Ev.cF (by rw [beq_eq_false_iff_ne];exact h1) ?_;simp only [h1,if_false];by_cases h2:e[i].kind=20
    · refine Ev.cT (by rw [h2];rfl) (Ev.bind (Xm he e.length i (by omega) hi) ?_);simp only [h2,if_true];cases KE e (bQ 0 ts) e.length i
      · simp only [Bool.false_eq_true,if_false,dD];exact Ev.some
      · simp only [if_true,dK];exact Ev.some
    · refine Ev.cF (by rw [beq_eq_false_iff_ne];exact h2) (Ev.some' ?_);simp only [h2,if_false]
def Ia (e:List Nd) (U:List (Int×Int)):Nat->Nat->Option Nat
  |0,_=>none
  |m+1,i=>if Om e U i=true then some i else Ia e U m (i+1)
theorem OT (he:e=eF 0 ts) (hL:Cj e): ∀i,i<=e.length->Ev (fun k=>jR k e ((bQ 0 ts).map Prod.fst) ((bQ 0 ts).map Prod.snd) (e.length:Int) (i:Int)) (match Ia e (bQ 0 ts) (e.length -i) i with|some j=> .inr ((j:Int),30)|none=> .inl ()):=by
  have hlen:=hL.len;refine down ?_ fun i hi ih=> ?_
  · refine Ev.succ ?_;simp only [jR];exact Ev.cF (jl _) (Ev.some' (by simp [Ia]))
  · refine Ev.succ ?_;simp only [jR];rw [dQ hi (by omega)];refine Ev.cT (kX hi) (Ev.bind (acS he hL hi) ?_);rw [show e.length -i=(e.length -(i+1))+1 by omega,Ia];cases Om e (bQ 0 ts) i
    · simp only [cond_false,Bool.false_eq_true,if_false];exact ih
    · exact Ev.some
theorem Y8 (he:e=eF 0 ts) (hL:Cj e) (hok: ∀(i:Nat) n,e[i]? =some n->bX true n=0): ∀i,i<=e.length->Ev (fun k=>mX k e (i:Int)) (match Ia e (bQ 0 ts) (e.length -i) i with|some j=> .inr ((j:Int),30)|none=> .inl ()):=by
  have hlen:=hL.len;refine down ?_ fun i hi ih=> ?_
  · refine Ev.succ ?_;simp only [mX];exact Ev.cF (jl _) (Ev.some' (by simp [Ia]))
  · refine Ev.succ ?_;have hlt:i<(bQ 0 ts).length:=by rw [wU,<-jk 0 ts,<-he];exact hi
    obtain⟨P,j,hU⟩: ∃P j,(bQ 0 ts)[i]? =some (P,j):=⟨_,_,aZ hlt⟩;simp only [mX,Int.toNat_natCast,aZ hi,Option.bind_some,nn,if_true];rw [dQ hi (by omega)];refine Ev.cT (kX hi) (Ev.bind (PE he hL hi hU) ?_);have awh:Ev (fun k=>AA k e P (decide (P>=0))) (match e[P.toNat]? with|some m=>decide (0<=P)&&decide (m.kind=3)&&jE m.text|none=>false):=by
      unfold AA;rcases Nn hU with⟨rfl,rfl⟩|⟨q,rfl,hq,hq2⟩
      · refine Ev.cF (by rfl) (Ev.some' ?_);cases e[(-1:Int).toNat]? <;>rfl
      · have hqe:q<e.length:=by rw [he];exact hq2
        refine Ev.cT (decide_eq_true (by omega)) (Ev.aQ (by omega) ?_);simp only [Int.toNat_natCast,aZ hqe,Option.bind_some,nn,decide_true,Bool.true_and];by_cases h2:e[q].kind=3
        · refine Ev.cT (by rw [h2];rfl) (Ev.bind (IY _ (by have:=(hL.nd q _ (aZ hqe)).1;omega)) (Ev.some' ?_));simp only [h2,decide_true,Bool.true_and]
        · refine Ev.cF (by rw [beq_eq_false_iff_ne];exact h2) (Ev.some' ?_);simp only [h2,decide_false,Bool.false_and]
    refine Ev.bind awh ?_;have hold:=ai4 he hL e.length i (by omega) hi P j hU false;rw [Bool.false_or]at hold;rw [show e.length -i=(e.length -(i+1))+1 by omega,Ia];have hl:Om e (bQ 0 ts) i=if e[i].kind=24 then !(match e[P.toNat]? with|some m=>decide (0<=P)&&decide (m.kind=3)&&jE m.text|none=>false)else if e[i].kind=20 then !KE e (bQ 0 ts) e.length i else false:=by
      unfold Om;simp only [aZ hi,hU];rcases Nn hU with⟨rfl,rfl⟩|⟨q,rfl,hq,hq2⟩
      · simp only [show(-1:Int)<0 by omega,if_true,show ¬(0:Int)<= -1 by omega,decide_false,Bool.false_and];cases e[(-1:Int).toNat]? <;>rfl
      · have hqe:q<e.length:=by rw [he];exact hq2
        simp only [Int.toNat_natCast,aZ hqe,show ¬(q:Int)<0 by omega,if_false,nn,decide_true,Bool.true_and];by_cases h2:e[q].kind=3
        · simp only [h2,if_true,decide_true,Bool.true_and,ai5 (hok q _ (aZ hqe)) h2]
        · simp only [h2,if_false,decide_false,Bool.false_and,Bool.not_false]
    rw [hl];generalize(match e[P.toNat]? with|some m=>decide (0<=P)&&decide (m.kind=3)&&jE m.text|none=>false)=lam
    refine Ev.oP (x:=decide (e[i].kind=24)&& !lam) (by
      unfold EB;by_cases h1:e[i].kind=24
      · rw [zZ (by rw [h1];rfl)];simp [h1]
      · rw [uI (by rw [beq_eq_false_iff_ne];exact h1)];simp [h1]) ?_
    by_cases h1:e[i].kind=24
    · simp only [h1,decide_true,Bool.true_and,if_true];cases lam
      · exact Ev.some
      · refine Ev.cF rfl (Ev.bind hold ?_);exact Ev.cF (by rfl) ih
    · simp only [h1,decide_false,Bool.false_and,cond_false,if_false];refine Ev.bind hold ?_;by_cases h2:e[i].kind=20
      · refine Ev.cT (by rw [h2];rfl) ?_;simp only [h2,if_true];cases KE e (bQ 0 ts) e.length i
        · exact Ev.some
        · exact ih
      · refine Ev.cF (by rw [beq_eq_false_iff_ne];exact h2) (ih.to ?_);simp only [h2,if_false,Bool.false_eq_true]
end
structure Valid (e:List Nd):Prop where
  tree: ∃t,e=flat 0 t
  len:e.length<=160
  ok: ∀(i:Nat) n,e[i]? =some n->bX true n=0
theorem abu: ∀(l:List Nd) (acc:List Int) (p:Int×Int),nZ acc l= .inr p->p.2≠0
  |[],acc,p,h=>by rw [nZ]at h;cases h
  |n::l,acc,p,h=>by
    rw [nZ]at h;by_cases hc:bX (sV acc acc.length n.args.reverse) n=0
    · rw [if_neg (fun k=>k hc)]at h;exact abu l _ p h
    · rw [if_pos hc]at h;cases h;exact hc
theorem afk (e:List Nd) (hL:Cj e): ∃r,Ev (fun k=>ny k e) r/\Ev (fun k=>zC k e) r/\(r.2=0->Valid e):=by
  have hlen:=hL.len;by_cases h0:e.length=0
  · refine⟨(0,1),?_,?_,fun h=>by cases h⟩
    · unfold ny;simp only [AJ,Option.bind_some,h0];refine Ev.bind (JJ _ (by simp)) ?_;exact Ev.cT (by rfl) Ev.some
    · unfold zC;simp only [h0];exact Ev.cT (by rfl) Ev.some
  by_cases h1:160<e.length
  · refine⟨(0,2),?_,?_,fun h=>by cases h⟩
    · unfold ny;have a:((e.length:Int)==0)=false:=by rw [beq_eq_false_iff_ne];omega
      have b:decide ((e.length:Int)>160)=true:=decide_eq_true (by omega);simp only [AJ,Option.bind_some,a,b];refine Ev.bind (JJ _ (by simp)) ?_;exact Ev.cT (by rfl) Ev.some
    · unfold zC;refine Ev.cF (by rw [beq_eq_false_iff_ne];omega) ?_;exact Ev.cT (decide_eq_true (by omega)) Ev.some
  have a:((e.length:Int)==0)=false:=by rw [beq_eq_false_iff_ne];omega
  have b:decide ((e.length:Int)>160)=false:=decide_eq_false (by omega);have st:=OQ hL 0 (Nat.zero_le _) [] (qK.zero e);have sr:=YT hL 0 (Nat.zero_le _) [] (qK.zero e);rw [List.drop_zero]at st sr;have abv: ∀r,Ev (fun k=>Option.bind (jQ k e ([]:List Int) (e.length:Int) ((0:Nat):Int)) (fun o=>Sum.elim (fun p40=>Option.bind (zH k e) fun p51=>Option.bind (jR k e p51.1 p51.2 (e.length:Int) ((0:Nat):Int)) (fun o=>Sum.elim (fun p58=>if 0<=(IntKind.wrap .i64 ((e.length:Int) -1))then Option.bind (p40[(IntKind.wrap .i64 ((e.length:Int) -1)).toNat]?) fun x65=>cond (x65 !=0) (some ((IntKind.wrap .i64 ((e.length:Int) -1)),15)) (some (0,0))else none) (fun p74=>some (p74.1,p74.2)) o)) (fun Av=>some (Av.1,Av.2)) o)) r->Ev (fun k=>ny k e) r:=by
    intro r hr;unfold ny;simp only [AJ,Option.bind_some,a,b];refine Ev.bind (JJ _ (by simp)) ?_;exact Ev.cF (by rfl) hr
  have abw: ∀r,Ev (fun k=>Option.bind (oU k e ((0:Nat):Int)) (fun o=>Sum.elim (fun p9=>Option.bind (mX k e ((0:Nat):Int)) (fun o=>Sum.elim (fun xZ=>Option.bind (uS k e (IntKind.wrap .i64 ((e.length:Int) -1))) fun Aw=>cond (Aw !=0) (some ((IntKind.wrap .i64 ((e.length:Int) -1)),15)) (some (0,0))) (fun Sy=>some (Sy.1,Sy.2)) o)) (fun Sz=>some (Sz.1,Sz.2)) o)) r->Ev (fun k=>zC k e) r:=by
    intro r hr;unfold zC;exact Ev.cF a (Ev.cF b hr)
  cases hs:nZ [] e with
  |inr p=>
    rw [hs]at st sr;refine⟨p,abv _ (Ev.bind st ?_),abw _ (Ev.bind sr ?_),fun h=>absurd h (abu _ _ _ hs)⟩
    · simp only [dK];exact Ev.some
    · simp only [dK];exact Ev.some
  |inl acc=>
    rw [hs]at st sr;obtain⟨ts,he,hacc,hpar⟩:=abr hL hs;have hok:=adW e [] acc hs;have lt:=OT he hL 0 (Nat.zero_le _);have lr:=Y8 he hL hok 0 (Nat.zero_le _);cases hl:Ia e (bQ 0 ts) (e.length -0) 0 with
    |some j=>
      rw [hl]at lt lr;refine⟨((j:Int),30),abv _ (Ev.bind st ?_),abw _ (Ev.bind sr ?_),fun h=>by cases h⟩
      · simp only [dD];refine Ev.bind hpar (Ev.bind lt ?_);simp only [dK];exact Ev.some
      · simp only [dD];refine Ev.bind lr ?_;simp only [dK];exact Ev.some
    |none=>
      rw [hl]at lt lr;have hOk:qK e e.length acc:=by
        have gen: ∀(l:List Nd) (i:Nat) (a:List Int),l=e.drop i->i<=e.length->qK e i a->nZ a l= .inl acc->qK e e.length acc:=by
          intro l
          induction l with
          |nil=>
            intro i a hl hi ho h;rw [nZ]at h;cases h;have:=congrArg List.length hl;rw [List.length_drop,List.length_nil]at this;obtain rfl:i=e.length:=by omega
            exact ho
          |cons n l ih=>
            intro i a hl hi ho h;have hlt:i<e.length:=by
              have:=congrArg List.length hl;rw [List.length_drop,List.length_cons]at this;omega
            rw [drop_cons hlt]at hl;obtain⟨rfl,rfl⟩:=List.cons.inj hl;rw [nZ,ho.len]at h;by_cases hc:bX (sV a i e[i].args.reverse) e[i]=0
            · rw [if_neg (fun k=>k hc)]at h;exact ih (i+1) _ rfl hlt (ho.succ (aZ hlt) (yD hc)) h
            · rw [if_pos hc]at h;cases h
        exact gen e 0 [] rfl (Nat.zero_le _) (qK.zero e) hs
      obtain⟨n,bb,h3,h4,h5,h6,_⟩:=hOk.at_ (e.length -1) (by omega);have hw:IntKind.wrap .i64 ((e.length:Int) -1)=((e.length -1:Nat):Int):=by rw [wrap64 (by omega) (by omega)];omega
      refine⟨if bb=0 then(0,0)else(((e.length -1:Nat):Int),15),abv _ (Ev.bind st ?_),abw _ (Ev.bind sr ?_),fun hr=> ?_⟩
      · simp only [dD];refine Ev.bind hpar (Ev.bind lt ?_);simp only [dD,hw,Int.toNat_natCast,h4,Option.bind_some,nn,if_true];by_cases hb:bb=0
        · exact Ev.cF (by rw [hb];rfl) (Ev.some' (by simp [hb]))
        · exact Ev.cT (by rw [bne_iff_ne];exact hb) (Ev.some' (by simp [hb]))
      · simp only [dD];refine Ev.bind lr ?_;simp only [dD,hw];refine Ev.bind (SI hOk hlen h4) ?_;by_cases hb:bb=0
        · exact Ev.cF (by rw [hb];rfl) (Ev.some' (by simp [hb]))
        · exact Ev.cT (by rw [bne_iff_ne];exact hb) (Ev.some' (by simp [hb]))
      · by_cases hb:bb=0
        case neg=>rw [if_neg hb]at hr;cases hr
        refine⟨?_,by omega,hok⟩;rcases List.eq_nil_or_concat ts with rfl|⟨l,t,rfl⟩
        · rw [he]at h0;simp [eF]at h0
        · rw [List.concat_eq_append]at*;have hsz:e.length=sizes l+t.size:=by rw [he,jk,lX,H7]
          have hpos:=t.size_pos;have hg:=Xj (b:=0) (l:=l) (m:=[]) (t:=t);rw [<-hacc,Nat.zero_add,show sizes l+t.size -1=e.length -1 by omega,h4]at hg;have hl0:sizes l=0:=by have:=Option.some.inj hg;omega
          cases l with
          |nil=>exact⟨t,by rw [he];simp [eF]⟩
          |cons c l=>
            have:=c.size_pos;simp only [sizes]at hl0;omega
end Go.VL
end
section
namespace Go.VL
open Go.Proofs Go.RowKit
theorem ai6 {α:Type} (f:α->List PV) (sz:Nat) [hr:zh f sz] (l:List α):tC sz (.aB (l.map f) .unk) none (some (.int .i64 (l.length:Int))) (some (.int .i64 (l.length:Int)))=some (.aB (l.map f) .exact):=by
  have hl:JX sz (l.map f):=fun cs h=>by
    obtain⟨x,_,rfl⟩:=List.mem_map.1 h;exact hr.len x
  have h0:(0:Int)<=(l.length:Int):=by omega
  simp only [tC,nX];rw [if_pos h0];simp only [Int.toNat_natCast,List.length_map,Option.isSome_some,and_true];rw [if_pos ⟨Nat.zero_le _,Nat.le_refl _,hl⟩];simp only [if_true];rw [List.take_of_length_le (by rw [List.length_map];exact Nat.le_refl _),List.drop_zero]
theorem abx (l:List Str):Pu (.aB (l.map aX) .exact):=by
  have h:=bC cO l;cases h with
  |aB _ _ h1 h2=>exact .aB _ _ h1 (by simp)
theorem ag6 (l:List Str) {c:Ck}:aG Tryz.prog 120 [.aB (l.map aX) c] (.aB (l.map aX) .exact):=by
  refine aG.wk (args:=[.aB (l.map aX) .unk]) ?_ (.aB .nil);refine aG.aR (bB.mem (.cons (bC cO _) .nil)) (aI akz (by simp) (aF ?_)) (abx l);unfold aky;simp -implicitDefEqProofs only [go_sem,↓reduceIte,Nat.reduceEqDiff,List.length_map,ai6 aX 1];first|done|exact .pure _ (abx l)
end Go.VL
end
section
set_option maxRecDepth 8000
namespace Go.VL
open Go.Proofs
theorem amZ {α:Type} {σ:Nat->PV} {H:AH} {sz b:Nat} {x y:AE} {f:α->List PV} (hf: ∀x,uQ sz (f x)) (xs ys:List α) (c c2:Ck)
    (hx:x.ev σ= .aB (xs.map f) c) (hy:KW (y.ev σ)= .aB (ys.map f) c2) (hok:d9 H c) (hb:(xs.length+ys.length)*b<=1099511627776):
    ∃c' H',mQ (.app sz b x y) σ H=some (.aB ((xs++ys).map f) c',H')/\d9 H' c'/\H.next<=H'.next/\(∀i,H'.obj i=H.obj i)/\(∀c3,d9 H c3->qw c c3->d9 H' c3/\qw c' c3):=by
  have h:=jV (P:=Tryz.prog) (s:=[]) (Q:=fun e σ' H'=> ∃c',σ'=upd σ (some 0) (.aB ((xs++ys).map f) c')/\d9 H' c'/\H.next<=H'.next/\(∀i,H'.obj i=H.obj i)/\(∀c3,d9 H c3->qw c c3->d9 H' c3/\qw c' c3)) (d:=some 0) (l:=[]) (H:=H) hf xs ys c c2 hx hy hok hb
    (fun c' H' h1 h2 h3 h4=>⟨c',rfl,h1,h2,h3,h4⟩)
  have h2:WD Tryz.prog (mQ (.app sz b x y) σ H) (some 0) [] [] (fun e σ' H'=> ∃c',σ'=upd σ (some 0) (.aB ((xs++ys).map f) c')/\d9 H' c'/\H.next<=H'.next/\(∀i,H'.obj i=H.obj i)/\(∀c3,d9 H c3->qw c c3->d9 H' c3/\qw c' c3)) σ:=by
    have h3:WO Tryz.prog (⟨some 0,.d (.app sz b x y),none⟩::[]) [] _ σ H:=h;rw [WO,af8]at h3;revert h3;cases mQ (.app sz b x y) σ H with
    |none=>intro h3;exact h3
    |some q=>intro h3;exact h3
  revert h2;cases mQ (.app sz b x y) σ H with
  |none=>intro h2;exact h2.elim
  |some q=>
    intro h2;obtain⟨c',e,h3⟩:=(h2: ∃c',upd σ (some 0) q.1=upd σ (some 0) (.aB ((xs++ys).map f) c')/\d9 q.2 c'/\H.next<=q.2.next/\(∀i,q.2.obj i=H.obj i)/\(∀c3,d9 H c3->qw c c3->d9 q.2 c3/\qw c' c3));have e2:=congrFun e 0;simp only [upd,if_true]at e2;exact⟨c',q.2,by rw [<-e2],h3⟩
section
variable {α:Type}
def Tn (rec:Int->List Str->α->Option α) (n:Nd) (bound:List Str):Nat->List Int->α->Option α
  |_,[],a=>some a
  |i,op::l,a=>Option.bind (Oi n (i:Int)) fun b=>if(bound.length+b.length)*16<=1099511627776 then Option.bind (rec op (bound++b) a) fun a'=>Tn rec n bound (i+1) l a' else none
def EL (step:α->Int->List Str->Option α) (e:List Nd):Nat->Int->List Str->α->Option α
  |0,_,_,_=>none
  |k+1,at_,bound,a=>Option.bind (step a at_ bound) fun a'=>if 0<=at_ then Option.bind (e[at_.toNat]?) fun n=>if n.args.length<=1099511627776 then Tn (EL step e k) n bound 0 n.args a' else none else none
structure Visit (g:FuncId) (caps:List PV) (S:α->AH->Prop) (step:α->Int->List Str->Option α):Prop where
  stable: ∀a H H',S a H->H.next<=H'.next->(∀i,H'.obj i=H.obj i)->(∀c,d9 H c->d9 H' c)->S a H'
  call: ∀a at_ bound a' H,S a H->step a at_ bound=some a'->dS Tryz.prog g (.int .i64 at_:: .aB (bound.map aX) .unk::caps) H fun _ H'=>S a' H'
theorem ag7 {g:FuncId} {caps:List PV} {S:α->AH->Prop} {step:α->Int->List Str->Option α} (hv:Visit g caps S step) (e:List Nd) (k:Nat)
    (ih: ∀(at_:Int) (bound:List Str) (a a':α) (H:AH),S a H->EL step e k at_ bound a=some a'->dS Tryz.prog 70 [lU e,.int .i64 at_,zY bound,.fn (.func g) [] caps] H fun _ H'=>S a' H')
    (at_:Int) (bound:List Str) (n:Nd) (e2:0<=at_) (e3:e[at_.toNat]? =some n) (e4:n.args.length<=1099511627776):
    ∀(l:List Int) (i:Nat) (a a':α) (σ:Nat->PV) (H:AH),l=n.args.drop i->i<=n.args.length->σ 0=lU e->σ 1= .int .i64 at_->σ 2=zY bound->σ 3= .fn (.func g) [] caps->σ 18=ZV n.args->σ 19= .int .i64 n.args.length->σ 20= .int .i64 i->
      S a H->Tn (EL step e k) n bound i l a=some a'-> ∀(Q:Post),(∀σ' H',S a' H'->Q (.exit 0) σ' H')->W Tryz.prog (.loop N8) Q σ H:=by
  intro l
  induction l with
  |nil=>
    intro i a a' σ H hl hi s0 s1 s2 s3 pK qH s20 hS h Q q0;have hii:i=n.args.length:=by
      have:=congrArg List.length hl;rw [List.length_drop,List.length_nil]at this;omega
    rw [Tn]at h;cases h;refine bA (fun K hK=>aF ?_);unfold N8;have hd:decide ((i:Int)<(n.args.length:Int))=false:=decide_eq_false (by omega);simp -implicitDefEqProofs only [go_sem,↓reduceIte,Nat.reduceEqDiff,qH,s20,hd];exact q0 _ _ hS
  |cons op l ihl=>
    intro i a a' σ H hl hi s0 s1 s2 s3 pK qH s20 hS h Q q0;have hlt:i<n.args.length:=by
      have:=congrArg List.length hl;rw [List.length_drop,List.length_cons]at this;omega
    have hop:n.args[i]? =some op:=by
      have:=congrArg (·[0]?) hl
      simpa [List.getElem?_drop]using this.symm
    have hl':l=n.args.drop (i+1):=by
      have:=congrArg List.tail hl;simpa using this
    rw [Tn]at h;cases e5:Oi n (i:Int)with
    |none=>rw [z8 e5]at h;cases h
    |some b=>
    rw [Aa e5]at h;by_cases e6:(bound.length+b.length)*16<=1099511627776
    case neg=>rw [if_neg e6]at h;cases h
    rw [if_pos e6]at h;cases e7:EL step e k op (bound++b) a with
    |none=>rw [z8 e7]at h;cases h
    |some a1=>
    rw [Aa e7]at h;refine bA (fun K hK=>aF ?_);unfold N8;have hd:decide ((i:Int)<(n.args.length:Int))=true:=decide_eq_true (by omega);simp -implicitDefEqProofs only [go_sem,↓reduceIte,Nat.reduceEqDiff,s0,s1,s2,s3,pK,qH,s20,hd,List.getElem?_map,hop,Option.map_some];have hb:=agE e5;have hw:IntKind.wrap .i64 ((i:Int)+1)=((i+1:Nat):Int):=by rw [IntKind.wrap_i64];omega
    refine⟨fun _=>True,trivial,?_⟩;refine uH (lU e) (fun H' _=>by simp -implicitDefEqProofs only [go_sem,↓reduceIte,Nat.reduceEqDiff,s0,s1,s2,s3,pK,qH,s20,e2,e3,List.getElem?_map,Option.map_some,Nat.reduceAdd]) ?_;refine uH (.int .i64 op) (fun H' _=>by simp -implicitDefEqProofs only [go_sem,↓reduceIte,Nat.reduceEqDiff,s0,s1,s2,s3,pK,qH,s20,e2,e3,List.getElem?_map,Option.map_some,Nat.reduceAdd]) ?_;refine uH (zY bound) (fun H' _=>by simp -implicitDefEqProofs only [go_sem,↓reduceIte,Nat.reduceEqDiff,s0,s1,s2,s3,pK,qH,s20,e2,e3,List.getElem?_map,Option.map_some,Nat.reduceAdd]) ?_;refine Dk (.aB (bound.map aX) .exact) (by simp -implicitDefEqProofs only [go_sem,↓reduceIte,Nat.reduceEqDiff,s0,s1,s2,s3,pK,qH,s20,e2,e3,List.getElem?_map,Option.map_some,Nat.reduceAdd];exact ag6 bound) ?_;refine uH (lU e) (fun H' _=>by simp -implicitDefEqProofs only [go_sem,↓reduceIte,Nat.reduceEqDiff,s0,s1,s2,s3,pK,qH,s20,e2,e3,List.getElem?_map,Option.map_some,Nat.reduceAdd]) ?_;refine uH (.int .i64 at_) (fun H' _=>by simp -implicitDefEqProofs only [go_sem,↓reduceIte,Nat.reduceEqDiff,s0,s1,s2,s3,pK,qH,s20,e2,e3,List.getElem?_map,Option.map_some,Nat.reduceAdd]) ?_;refine uH (.fq n.cells 0) (fun H' _=>by simp -implicitDefEqProofs only [go_sem,↓reduceIte,Nat.reduceEqDiff,s0,s1,s2,s3,pK,qH,s20,e2,e3,List.getElem?_map,Option.map_some,Nat.reduceAdd]) ?_;refine uH (.agg n.cells) (fun H' _=>by simp -implicitDefEqProofs only [go_sem,↓reduceIte,Nat.reduceEqDiff,s0,s1,s2,s3,pK,qH,s20,e2,e3,List.getElem?_map,Option.map_some,Nat.reduceAdd]) ?_;refine uH (.int .i64 i) (fun H' _=>by simp -implicitDefEqProofs only [go_sem,↓reduceIte,Nat.reduceEqDiff,s0,s1,s2,s3,pK,qH,s20,e2,e3,List.getElem?_map,Option.map_some,Nat.reduceAdd]) ?_;refine Dk (zY b) (by simp -implicitDefEqProofs only [go_sem,↓reduceIte,Nat.reduceEqDiff,s0,s1,s2,s3,pK,qH,s20,e2,e3,List.getElem?_map,Option.map_some,Nat.reduceAdd];exact hb) ?_;obtain⟨c',H',f1,f2,f3,f4,f5⟩:=amZ (σ:=(upd (upd (upd (upd (upd (upd (upd (upd (upd (upd (upd (upd (upd (upd (upd (upd σ (some 21) (PV.bool true)) (some 22) (PV.int IntKind.i64 ↑i)) (some 23) (PV.fq [PV.int IntKind.i64 op] 0)) (some 24) (PV.int IntKind.i64 op)) (some 8) (PV.int IntKind.i64 ↑i)) (some 9) (PV.int IntKind.i64 op)) (some 25) (lU e)) (some 26) (.int .i64 op)) (some 27) (zY bound)) (some 28) (.aB (bound.map aX) .exact)) (some 29) (lU e)) (some 30) (.int .i64 at_)) (some 31) (.fq n.cells 0)) (some 32) (.agg n.cells)) (some 33) (.int .i64 i)) (some 34) (zY b))) (H:=H) (sz:=1) (b:=16) (x:=AE.t 28) (y:=AE.t 34) uR bound b .exact .unk (by simp -implicitDefEqProofs only [go_sem,↓reduceIte,Nat.reduceEqDiff,s0,s1,s2,s3,pK,qH,s20,e2,e3,List.getElem?_map,Option.map_some,Nat.reduceAdd]) (by simp -implicitDefEqProofs only [go_sem,↓reduceIte,Nat.reduceEqDiff,s0,s1,s2,s3,pK,qH,s20,e2,e3,List.getElem?_map,Option.map_some,Nat.reduceAdd]) trivial e6;refine ZR _ H' f1 trivial ?_;refine uH (.fn (.func g) [] caps) (fun H' _=>by simp -implicitDefEqProofs only [go_sem,↓reduceIte,Nat.reduceEqDiff,s0,s1,s2,s3,pK,qH,s20,e2,e3,List.getElem?_map,Option.map_some,Nat.reduceAdd]) ?_;have hS':S a H':=hv.stable a H H' hS f3 f4 fun c hc=>(f5 c hc .exact).1;rw [ahT];refine dw ?_;simp -implicitDefEqProofs only [go_sem,↓reduceIte,Nat.reduceEqDiff,s0,s1,s2,s3,pK,qH,s20,e2,e3,List.getElem?_map,Option.map_some,Nat.reduceAdd];refine dS.mono (dS.wk (ih op (bound++b) a a1 H' hS' e7) (.same (.same (.aB (.same .nil))))) fun r H2 hS2=> ?_;simp -implicitDefEqProofs only [go_sem,↓reduceIte,Nat.reduceEqDiff,s0,s1,s2,s3,pK,qH,s20,e2,e3,List.getElem?_map,Option.map_some,Nat.reduceAdd];refine hK _ _ ?_;refine ihl (i+1) a1 a' _ H2 hl' hlt ?_ ?_ ?_ ?_ ?_ ?_ ?_ hS2 h Q q0
    all_goals (simp -implicitDefEqProofs only [go_sem,↓reduceIte,Nat.reduceEqDiff,s0,s1,s2,s3,pK,qH,s20,e2,e3,List.getElem?_map,Option.map_some,Nat.reduceAdd,hw];try rfl)
theorem aq4 {g:FuncId} {caps:List PV} {S:α->AH->Prop} {step:α->Int->List Str->Option α} (hv:Visit g caps S step) (e:List Nd):
    ∀(k:Nat) (at_:Int) (bound:List Str) (a a':α) (H:AH),S a H->EL step e k at_ bound a=some a'->dS Tryz.prog 70 [lU e,.int .i64 at_,zY bound,.fn (.func g) [] caps] H fun _ H'=>S a' H':=by
  intro k
  induction k with
  |zero=>intro at_ bound a a' H hS h;simp only [EL,reduceCtorEq]at h
  |succ k ih=>
    intro at_ bound a a' H hS h
    rw [EL]at h;cases e1:step a at_ bound with
    |none=>rw [z8 e1]at h;cases h
    |some a1=>
    rw [Aa e1]at h;by_cases e2:0<=at_
    case neg=>rw [if_neg e2]at h;cases h
    rw [if_pos e2]at h;cases e3:e[at_.toNat]? with
    |none=>rw [z8 e3]at h;cases h
    |some n=>
    rw [Aa e3]at h;by_cases e4:n.args.length<=1099511627776
    case neg=>rw [if_neg e4]at h;cases h
    rw [if_pos e4]at h;refine aI aio (by simp) (aF ?_);unfold ao3;simp -implicitDefEqProofs only [go_sem,↓reduceIte,Nat.reduceEqDiff];refine dS.mono (hv.call a at_ bound a1 H hS e1) fun r H1 hS1=> ?_;simp -implicitDefEqProofs only [go_sem,↓reduceIte,Nat.reduceEqDiff,e2,e3];refine ag7 hv e k ih at_ bound n e2 e3 e4 n.args 0 a1 a' _ H1 rfl (Nat.zero_le _) ?_ ?_ ?_ ?_ ?_ ?_ ?_ hS1 h _ ?_
    all_goals first
      |(simp -implicitDefEqProofs only [go_sem,↓reduceIte,Nat.reduceEqDiff];done)
      |skip
    intro σ' H' hS';exact hS'
end
end Go.VL
end
section
namespace Go.VL
open Tm
structure bZ where
  kind:Int
  text:Str
  out:Bool->Str
def uf (k:Int) (t:Str):Operator×Bool:=if k=3 then bY dF t else(yC,false)
def bZ.op (c:bZ):Operator×Bool:=uf c.kind c.text
def mG (k:Int):Bool:=decide (k∈([8,9,10,11,12,21,22,23,24]:List Int))
def sM (c:bZ) (must f:Bool):Str:=if must=true then 40::(c.out false++[41])else c.out f
def Oo (o:Operator) (c:bZ):Bool:=c.op.2&& !(c.op.1.text==o.text)
def KF (o:Operator) (c:bZ):Bool:=c.op.2&&((decide (c.op.1.fix=0)&&decide (c.op.1.low<o.low))||(!decide (c.op.1.fix=0)&&decide (c.op.1.low<=o.high))||(decide (c.op.1.text=[45,46])&&decide (o.text=[45,46])))
def EM (o:Operator) (i:Nat) (c:bZ):Bool:=c.op.2&&decide (c.op.1.low<=o.high)&& !(decide (i=0)&&decide (c.op.1.text=o.text)&&o.left)
def Oq (o:Operator):Str:=if o.text=[45,46]then [45]else match o.text with
  |c::_=>if 65<=c.toNat/\c.toNat<=90 then o.text++[32]else o.text
  |[]=>[]
def lY (o:Operator) (f:Bool):Nat->List bZ->List Str
  |_,[]=>[]
  |i,c::l=>sM c (EM o i c) (f|| !l.isEmpty)::lY o f (i+1) l
def Xn (o:Operator) (ks:List bZ) (f:Bool):Str:=match ks with
  |[]=>[]
  |c::_=>if o.fix=2 then sM c (Oo o c) true++o.text else if o.fix=0 then Oq o++sM c (KF o c) f else Lib.join (lY o f 0 ks) (32::(o.text++[32]))
def yj (ks:List bZ):Str:=Lib.join (ks.map fun c=>c.out false) [44,32]
def qz (sign:Str) (names:List Str) (ks:List bZ):Str:=Lib.join (List.zipWith (fun s c=>s++(sign++bZ.out c false)) names ks) [44,32]
def lK:List bZ->List Str
  |[]=>[]
  |[c]=>[79::84::72::69::82::32::45::62::32::c.out false]
  |c::d::l=>(c.out false++(32::45::62::32::d.out (!l.isEmpty)))::lK l
def ug (names:List Str):Str×Str:=match names with
  |[]=>([],[])
  |[x]=>(x,x)
  |x::p=>(x++(40::(Lib.join p [44,32]++[41])),x++(40::(Lib.join (List.replicate p.length [95]) [44,32]++[41])))
def Xo (n:Int) (names:List Str) (a b:Str):Str:=
  76::69::84::32::((if n=1 then 82::69::67::85::82::83::73::86::69::32::((ug names).2++(32::(ug names).1))else(ug names).1)++(32::61::61::32::(a++(32::73::78::32::b))))
def iX (ks:List bZ) (i:Nat):Str:=match ks[i]? with|some c=>c.out false|none=>[]
def nA (ks:List bZ):Str:=iX ks (ks.length -1)
def aby (ks:List bZ):Str:=match ks with|c::_=>sM c (c.op.2||decide (c.kind=0)) true|[]=>[]
def abz (ks:List bZ):Str:=match ks[1]? with|some c=>sM c (!(decide (c.kind=2)&&rName c.text)&& !decide (c.kind=4)) false|none=>[]
def Gm (s:Str):Bool:=rName s||decide (s=[66,79,79,76,69,65,78])||decide (s=[83,84,82,73,78,71])
def Ib (s:Str):Bool:=Gm (s.takeWhile gX)&&decide ([32,92,105,110,32]<+:s.dropWhile gX)
def Np (s:Str):Str:=if Ib s=true then 40::(s++[41])else s
def yV (kind n:Int) (text:Str) (names:List Str) (ks:List bZ):Str:=
  if kind=0 then Lib.itoa n else
  if kind=1 then 34::(text++[34])else
  if kind=2 then text else
  if kind=3 then text++(40::(yj ks++[41]))else
  if kind=4 then 60::60::(yj ks++[62,62])else
  if kind=5 then 123::(yj ks++[125])else
  if kind=6 then 123::(qz [32,92,105,110,32] names ks++(32::58::32::(iX ks 1++[125])))else
  if kind=7 then 123::(Np (nA ks)++(32::58::32::(qz [32,92,105,110,32] names ks++[125])))else
  if kind=8 then 92::65::32::(qz [32,92,105,110,32] names ks++(32::58::32::nA ks))else
  if kind=9 then 92::69::32::(qz [32,92,105,110,32] names ks++(32::58::32::nA ks))else
  if kind=10 then 92::65::32::(Lib.join names [44,32]++(32::58::32::nA ks))else
  if kind=11 then 92::69::32::(Lib.join names [44,32]++(32::58::32::nA ks))else
  if kind=12 then 67::72::79::79::83::69::32::(qz [32,92,105,110,32] names ks++(32::58::32::nA ks))else
  if kind=13 then 91::(qz [32,92,105,110,32] names ks++(32::124::45::62::32::(nA ks++[93])))else
  if kind=14 then aby ks++(91::(yj (ks.drop 1)++[93]))else
  if kind=15 then 91::(iX ks 0++(32::45::62::32::(iX ks 1++[93])))else
  if kind=16 then 91::(qz [32,124,45,62,32] names ks++[93])else
  if kind=17 then 91::(qz [32,58,32] names ks++[93])else
  if kind=18 then aby ks++(46::text)else
  if kind=19 then 91::(iX ks 0++(32::69::88::67::69::80::84::32::33::91::(iX ks 1++(93::32::61::32::(iX ks 2++[93])))))else
  if kind=20 then [64]else
  if kind=21 then 73::70::32::(iX ks 0++(32::84::72::69::78::32::(iX ks 1++(32::69::76::83::69::32::iX ks 2))))else
  if kind=22 then 67::65::83::69::32::Lib.join (lK ks) [32,91,93,32]else
  if kind=23 then Xo n names (iX ks 0) (iX ks 1)else
  if kind=24 then 76::65::77::66::68::65::32::(Lib.join names [44,32]++(32::58::32::nA ks))else
  if kind=25 then 91::(iX ks 0++(93::95::abz ks))else
  if kind=26 then 60::60::(iX ks 0++(62::62::95::abz ks))else
  if kind=27 then 87::70::95::(abz ks++(40::(iX ks 0++[41])))else
  83::70::95::(abz ks++(40::(iX ks 0++[41])))
def Jb (kind n:Int) (text:Str) (names:List Str) (ks:List bZ) (f:Bool):Str:=if(uf kind text).2=true then Xn (uf kind text).1 ks f else yV kind n text names ks
def Ic (x:Nd) (ks:List bZ) (f:Bool):Str:=if(f&&mG x.kind)=true then 40::(Jb x.kind x.n x.text x.names ks false++[41])else Jb x.kind x.n x.text x.names ks f
mutual
def fm:Tm->Bool->Str
  | .mk x cs=>Ic x (BS cs)
def BS:List Tm->List bZ
  |[]=>[]
  |c::cs=>⟨c.root.kind,c.root.text,fm c⟩::BS cs
end
theorem Tp {x:Nd} {cs:List Tm}:fm (.mk x cs)=Ic x (BS cs):=by rw [fm]
theorem KG {c:Tm} {cs:List Tm}:BS (c::cs)=⟨c.root.kind,c.root.text,fm c⟩::BS cs:=by rw [BS]
theorem Xp: ∀cs:List Tm,(BS cs).length=cs.length
  |[]=>by rw [BS];rfl
  |c::cs=>by rw [KG,List.length_cons,List.length_cons,Xp cs]
theorem Nq (sep:Str): ∀(l:List Str) (m:Nat),(∀s∈l,s.length<=m)->(Lib.joinTail sep l).length<=l.length*(m+sep.length)
  |[],m,h=>by simp [Lib.joinTail]
  |a::l,m,h=>by
    have h1:=h a (by simp);have h2:=Nq sep l m fun s hs=>h s (by simp only [List.mem_cons];exact .inr hs);simp only [Lib.joinTail,List.map_cons,List.flatten_cons,List.length_append,List.length_cons]at h2⊢;rw [Nat.add_mul l.length 1,Nat.one_mul];omega
theorem Bt (a:Str) (l:List Str) (sep:Str):Lib.join (a::l) sep=a++Lib.joinTail sep l:=Lib.join_cons a l sep
theorem ai7 (l:List Str) (sep:Str) (m:Nat) (h: ∀s∈l,s.length<=m):(Lib.join l sep).length<=l.length*(m+sep.length):=by
  cases l with
  |nil=>simp [Lib.join_nil]
  |cons a l=>
    have h1:=h a (by simp);have h2:=Nq sep l m fun s hs=>h s (by simp only [List.mem_cons];exact .inr hs);rw [Bt,List.length_append,List.length_cons,Nat.add_mul l.length 1,Nat.one_mul];omega
theorem Yp (sep x:Str) (l:List Str) (h:l≠[]):Lib.join (l++[x]) sep=Lib.join l sep++(sep++x):=by
  cases l with
  |nil=>exact absurd rfl h
  |cons a l=>simp [Bt,Lib.joinTail,List.append_assoc]
end Go.VL
end
section
namespace Go.VL
open Go.Proofs Go.RowKit
theorem am0 (x:Str) (id n:Nat) (H0:AH) (Q:Post) (hn:n<=1000000)
    (hx: ∀σ' H',σ' 7= .dP id 0 n n 1->H'.obj id=some (List.replicate n (.str x))->H'.next=H0.next->(∀i,i≠id->H'.obj i=H0.obj i)->(∀k,H'.live k=H0.live k)->Q (.exit 0) σ' H'):
    ∀(d m:Nat) (σ:Nat->PV) (H:AH) (rest:List PV),n -m<=d->m<=n->(m=0->n=0)->σ 7= .dP id 0 n n 1->σ 8= .int .i64 m->H.obj id=some (List.replicate m (.str x)++rest)->rest.length=n -m->
      H.next=H0.next->(∀i,i≠id->H.obj i=H0.obj i)->(∀k,H.live k=H0.live k)->W Tryz.prog (.loop J9) Q σ H:=by
  intro d
  induction d with
  |zero=>
    intro m σ H rest hd hm h0 h7 h8 ho hr h1 h2 h3;have e:m=n:=by omega
    subst e;have c1:decide ((m:Int)<(m:Int))=false:=decide_eq_false (by omega);refine bA (fun K hK=>aF ?_);unfold J9;simp -implicitDefEqProofs only [go_sem,↓reduceIte,Nat.reduceEqDiff,h7,h8,c1];have hr0:rest=[]:=List.eq_nil_of_length_eq_zero (by omega);subst hr0;refine hx _ _ ?_ (by rw [ho,List.append_nil]) h1 h2 h3;simp only [mK,Nat.reduceEqDiff,↓reduceIte,h7]
  |succ d ih=>
    intro m σ H rest hd hm h0 h7 h8 ho hr h1 h2 h3;by_cases hmn:m=n
    · exact ih m σ H rest (by omega) hm h0 h7 h8 ho hr h1 h2 h3
    have c1:decide ((m:Int)<(n:Int))=true:=decide_eq_true (by omega);refine bA (fun K hK=>aF ?_);unfold J9;simp -implicitDefEqProofs only [go_sem,↓reduceIte,Nat.reduceEqDiff,h7,h8,c1];refine⟨fun _=>True,trivial,?_⟩;refine j6 (.int .i64 m) (fun H'=>by simp [rop,AE.ev,upd,h7,h8]) ?_;refine j6 (.dP id 0 n n 1) (fun H'=>by simp [rop,AE.ev,upd,h7,h8]) ?_;refine j6 (.int .i64 m) (fun H'=>by simp [rop,AE.ev,upd,h7,h8]) ?_;refine j6 (.dP id m (n -m) (n -m) 1) (fun H'=>by simp [rop,AE.ev,upd,tC,nX,h7,h8];omega) ?_;refine j6 (.dP id 0 n n 1) (fun H'=>by simp [rop,AE.ev,upd,h7,h8]) ?_;refine j6 (.int .i64 m) (fun H'=>by simp [rop,AE.ev,upd,h7,h8]) ?_;refine j6 (.dP id 0 m n 1) (fun H'=>by simp [rop,AE.ev,upd,tC,nX,h7,h8];omega) ?_;have hch:chunks 1 m (List.replicate m (.str x)++rest)=List.replicate m [.str x]:=by
      have h:=SQ (List.replicate m (.str x)) rest;rw [List.length_replicate,List.map_replicate]at h;exact h
    unfold iR;refine .inr ⟨trivial,.int .i64 (min m (n -m):Nat),H.put id (List.replicate (m+min m (n -m)) (.str x)++rest.drop (min m (n -m))),?_,trivial,?_⟩
    · have hy:rowOf 1 H (PV.dP id 0 m n 1)=some (List.replicate m [.str x]):=by
        have hl:0+m*1<=(List.replicate m (PV.str x)++rest).length:=by rw [List.length_append,List.length_replicate];omega
        simp only [rowOf,ho];rw [if_pos ⟨trivial,hl⟩,List.drop_zero,hch]
      have hsz:qJ 1 (List.replicate m [PV.str x]):=fun cs hcs=>by
        rw [(List.mem_replicate.1 hcs).2];exact⟨rfl,fun c hc=>by rw [List.mem_singleton.1 hc];rfl⟩
      have hle:m+(n -m)*1<=(List.replicate m (PV.str x)++rest).length:=by rw [List.length_append,List.length_replicate];omega
      have hput:putCells (List.replicate m (PV.str x)++rest) m ((List.replicate m [PV.str x]).take (n -m)).flatten=List.replicate (m+min m (n -m)) (.str x)++rest.drop (min m (n -m)):=by
        rw [List.take_replicate,wH];unfold putCells;rw [List.length_replicate];have e1:(List.replicate m (PV.str x)++rest).take m=List.replicate m (PV.str x):=by
          rw [List.take_append_of_le_length (by rw [List.length_replicate];omega),List.take_of_length_le (by rw [List.length_replicate];omega)]
        have e2:(List.replicate m (PV.str x)++rest).drop (m+min (n -m) m)=rest.drop (min m (n -m)):=by
          rw [List.drop_append,List.length_replicate,List.drop_eq_nil_of_le (by rw [List.length_replicate];omega),List.nil_append];congr 1
          omega
        rw [e1,e2,List.replicate_append_replicate,Nat.min_comm m]
      simp only [jF,nop,AE.ev,mK,Nat.reduceEqDiff,↓reduceIte,hy];simp only [ho];rw [if_pos ⟨trivial,hsz,hle⟩];refine⟨?_,by rw [hput]⟩;rw [List.length_replicate]
    · have hm2:(m:Int)+((min m (n -m):Nat):Int)=((m+min m (n -m):Nat):Int):=by omega
      have hw:IntKind.wrap .i64 ((m:Int)+((min m (n -m):Nat):Int))=((m+min m (n -m):Nat):Int):=by
        rw [hm2];exact IntWalk.i64_in _ (by omega)
      unfold iR;refine dw ?_;simp -implicitDefEqProofs only [go_sem,↓reduceIte,Nat.reduceEqDiff,h7,h8,hw];refine hK _ _ (ih (m+min m (n -m)) _ _ (rest.drop (min m (n -m))) (by omega) (by omega) (by omega) ?_ ?_ ?_ (by rw [List.length_drop];omega) h1 ?_ h3)
      · simp only [mK,Nat.reduceEqDiff,↓reduceIte,h7]
      · simp only [mK,Nat.reduceEqDiff,↓reduceIte]
      · show(if id=id then some _ else _)=_
        rw [if_pos rfl]
      · intro i hi;show(if i=id then some _ else _)=_
        rw [if_neg hi];exact h2 i hi
section
variable {P:Program} {Q:Post} {σ:Nat->PV} {s:List Fm} {H:AH}
theorem aq5 {d:Option Nat} {x y:AE} {l:List aV} {k k':IntKind} {n:Nat} (hx:x.ev σ= .int k n) (hy:y.ev σ= .int k' n) (hb:n<=1000000)
    (h:WO P l s Q (upd σ d (.dP H.next 0 n n 1)) (H.new (List.replicate n (.str [])))):WO P (⟨d,.d (.tu 1 16 [.str []] x y),none⟩::l) s Q σ H:=by
  show WD P (mQ (.tu 1 16 [.str []] x y) σ H) d l s Q σ
  simp only [mQ,hx,hy];rw [if_pos ⟨by omega,by omega,by omega,by omega,rfl,by decide⟩];rw [Int.toNat_natCast,wH];exact h
end
theorem aq6 (x:Str) (n:Int) (hn:0<=n/\n<=1000000):Ku Tryz.prog 211 [.aB [[.str x]] .exact,.int .i64 n] aX 1 (List.replicate n.toNat x):=by
  intro H;obtain⟨n,rfl⟩: ∃k:Nat,n=k:=⟨n.toNat,by omega⟩;refine aI asZ (by simp) (aF ?_);unfold ald;have c1:decide ((n:Int)<0)=false:=decide_eq_false (by omega);have c2:IntKind.wrap .u64 1=1:=by decide
  have c3:IntKind.wrap .u64 (n:Int)=n:=IntWalk.u64_in _ (by omega);have c4:IntKind.wrap .i64 (n:Int)=n:=IntWalk.i64_in _ (by omega);have hm:Ol 1 n=some ((0:Int),(n:Int)):=by
    unfold Ol Oj;rw [if_pos ⟨⟨by omega,by omega⟩,by omega,by omega⟩];have e1:((1:Int).toNat*((n:Nat):Int).toNat/18446744073709551616:Nat)=0:=by
      rw [Int.toNat_natCast];show(1*n)/_=0;omega
    have e2:((1:Int).toNat*((n:Nat):Int).toNat% 18446744073709551616:Nat)=n:=by
      rw [Int.toNat_natCast];show(1*n)% _=n;omega
    rw [e1,e2];rfl
  have hc:=adM hm;have d1:decide ((n:Int)>9223372036854775807)=false:=decide_eq_false (by omega);unfold Z4 Z5;simp -implicitDefEqProofs only [go_sem,↓reduceIte,Nat.reduceEqDiff,Nat.reduceAdd,List.length_cons,List.length_nil,c1,c2,c3,c4,d1];refine dS.mono (hc H) fun v H' hv=> ?_;obtain⟨rfl,rfl⟩:=hv;have d0:decide ((0:Int)>0)=false:=by decide
  simp -implicitDefEqProofs only [go_sem,↓reduceIte,Nat.reduceEqDiff,Nat.reduceAdd,List.length_cons,List.length_nil,c1,c2,c3,c4,d0,d1];refine aq5 (k:= .i64) (k':= .i64) (n:=n) (by simp only [go_sem,↓reduceIte,Nat.reduceEqDiff]) (by simp only [go_sem,↓reduceIte,Nat.reduceEqDiff]) (by omega) ?_;have hob:(H'.new (List.replicate n (PV.str []))).obj H'.next=some (List.replicate n (PV.str [])):=by
    show(if H'.next=H'.next then some _ else _)=_
    rw [if_pos rfl]
  simp -implicitDefEqProofs only [go_sem,↓reduceIte,Nat.reduceEqDiff,Nat.reduceAdd]
  refine adN (id:=H'.next) (off:=0) (len:=n) (cap:=n) (fs:=[[.str x]]) (cs:=List.replicate n (.str [])) (by simp only [go_sem,↓reduceIte,Nat.reduceEqDiff]) (by simp only [go_sem,↓reduceIte,Nat.reduceEqDiff];rfl) hob
    (by intro cs hcs;rw [List.mem_singleton.1 hcs];exact⟨rfl,fun c hc=>by rw [List.mem_singleton.1 hc];rfl⟩) (by rw [List.length_replicate];omega) ?_
  have hput:putCells (List.replicate n (PV.str [])) 0 (([[PV.str x]]:List (List PV)).take n).flatten=List.replicate (min 1 n) (.str x)++List.replicate (n -min 1 n) (.str []):=by
    cases n with
    |zero=>rfl
    |succ n=>
      have e:min 1 (n+1)=1:=by omega
      rw [e,List.take_of_length_le (by simp)];simp [putCells,List.replicate_succ]
  rw [hput];have e1:(min ([[PV.str x]]:List (List PV)).length n:Nat)=min 1 n:=rfl;rw [e1];simp -implicitDefEqProofs only [go_sem,↓reduceIte,Nat.reduceEqDiff,Nat.reduceAdd];have ae7: ∀cs:List PV,(((H'.new (List.replicate n (PV.str []))).put H'.next cs).obj H'.next)=some cs:=fun cs=>by
    show(if H'.next=H'.next then some _ else _)=_
    rw [if_pos rfl]
  refine am0 x H'.next n ((H'.new (List.replicate n (PV.str [])))) _ (by omega) (fun σ' H2 k7 ko kn kob kl=> ?_) n (min 1 n) _ _ (List.replicate (n -min 1 n) (.str [])) (by omega) (by omega) (by omega) ?_ ?_ (ae7 _) (by rw [List.length_replicate]) rfl
    (fun i hi=> ?_) (fun k=>rfl)
  · show WE Tryz.prog (.exit 0) _ _ σ' H2
    simp -implicitDefEqProofs only [go_sem,↓reduceIte,Nat.reduceEqDiff,Nat.reduceAdd,k7];refine⟨[H'.next],.inr ⟨H'.next,n,[],rfl,by rw [List.length_replicate],by rw [List.length_replicate];omega,by rw [kn];exact Nat.lt_succ_self _,?_,?_⟩,fun i hi=> .inr (by rw [List.mem_singleton.1 hi];exact Nat.le_refl _),⟨by rw [kn];exact Nat.le_succ _,fun i hi _=> ?_⟩,fun c3 hc=> ?_⟩
    · rw [ko,List.append_nil,List.map_replicate];exact congrArg some (wH (PV.str x) n).symm
    · rw [List.length_replicate];simp
    · rw [kob i (by omega)];show(if i=H'.next then some _ else _)=_
      rw [if_neg (by omega)]
    · cases c3 with
      |unk=>exact hc
      |tok t=>exact⟨by rw [kl];exact hc.1,by rw [kn];exact Nat.lt_succ_of_lt hc.2⟩
      |nil=>trivial
      |exact=>trivial
  · simp only [mK,Nat.reduceEqDiff,↓reduceIte]
  · simp only [mK,Nat.reduceEqDiff,↓reduceIte]
  · show(if i=H'.next then some _ else _)=_
    rw [if_neg hi]
def ag8 (l:List Str) (n:Int):List Str:=List.replicate n.toNat (l.headD [])
theorem am1 (l:List Str) (n:Int) (h:l.length=1/\0<=n/\n<=1000000):Ku Tryz.prog 211 [.aB (l.map aX) .exact,.int .i64 n] aX 1 (ag8 l n):=by
  match l,h with
  |[x],h=>exact aq6 x n h.2
def abA (l:List Str) (n:Int):Option (List Str):=if l.length=1/\0<=n/\n<=1000000 then some (ag8 l n)else none
theorem aq7 (l:List Str) (n:Int) {r:List Str} (h:abA l n=some r):aG Tryz.prog 211 [.aB (l.map aX) .exact,.int .i64 n] (.aB (r.map aX) .unk):=by
  unfold abA at h;obtain⟨h1,h⟩:=aD h;obtain rfl:=ak h;refine aG.aR (bB.mem (.cons (.aB _ _ (fun cs h c hc=>by obtain⟨x,_,rfl⟩:=List.mem_map.1 h;exact cO x c hc) (by simp)) (.cons (.int _ _) .nil))) (dS.mono (am1 l n h1 AH.empty) fun v H' hm=> ?_) (bC cO _);obtain⟨ids,g1,_⟩:=hm;exact g1.fz cO
end Go.VL
end
section
namespace Go.VL
open Go.Proofs Go.RowKit Go.Sort
theorem am2 {w:World} (hw:WH (fun b=>w.heap.size<=b) w):Lib.TabIs Tryz.prog w "internal/strconv.uint64pow10" .u64 Lib.pow10Tab:=by
  obtain⟨_,t,fr,h⟩:=hw 3 _ (by kernel_rfl:Glob.wb 3=some (Qg.map (Value.int .u64)).toArray);unfold Lib.TabIs World.var?;rw [show Tryz.prog.globalNamed "internal/strconv.uint64pow10" =some 3 by kernel_rfl,Option.bind_some,h];exact congrArg some (by kernel_rfl)
theorem below_grow (w:World) (os:Array Obj):Below w.heap.size w (grow w os):=⟨rfl,rfl,rfl,by simp [grow],fun k hk=>by
  show(w.heap++os)[k]? =_
  rw [Array.getElem?_append_left hk]⟩
theorem aq8 (n:Int) (h: -9223372036854775808<=n/\n<=9223372036854775807):aG Tryz.prog 152 [.int .i64 n] (.str (Lib.itoa n)):=by
  refine MP ⟨_,Tryz.func152,rfl,by kernel_rfl⟩ (fun w G vs hg hi hw hv=> ?_) (bB.mem (.cons (.int _ _) .nil));rw [Vs.avX hv];refine(Tryz.strconv_Itoa n h.1 h.2 w (am2 hw)).mono ?_;rintro e w' ⟨rfl,k,os,rfl⟩;exact⟨_,rfl,(below_drewN w k).trans ((below_grow (w.drewN k) os).mono (below_drewN w k).size),fun G n=> .str _⟩
end Go.VL
end
section
set_option maxRecDepth 8000
set_option maxHeartbeats 4000000
namespace Go.VL
open Go.Proofs
def nC (k:Nat) (p_0:Printer) (bH:Int):Option (Operator×Bool):=
  if 0<=bH then Option.bind (p_0.e[bH.toNat]?) fun x2=>cond (x2.kind !=3) (some ((Operator.mk [] 0 0 0 false 0 0),false)) (Option.bind (kI k x2.text) fun p6=>some (p6.1,p6.2))else none
theorem wV {k:Nat} {p_0:Printer} {bH:Int} {r:Operator×Bool} (h:nC k p_0 bH=some r):aG Tryz.prog 100 [(.agg (Printer.cells p_0)),(.int .i64 bH)] (.dN [(.agg (Operator.cells r.1)),(.bool r.2)]):=by
  refine aG.aR (bB.mem (.cons (.agg _ (Printer.pu _)) (.cons (.int _ _) .nil))) (aI ar5 (by simp) (aF ?_)) (.dN _ (bB.mem (.cons (.agg _ (Operator.pu _)) (.cons (.bool _) .nil))));unfold nC at h;unfold akf;obtain⟨e1,h⟩:=aD h;obtain⟨x2,e3,h⟩:=aj h;rcases au h with⟨e4,h⟩|⟨e4,h⟩
  ·obtain rfl:=ak h;try refine ah ?_
   exact(dG (.cons (dH (.cons (.pure _ (.str _)) (.cons (.pure _ (.int _ _)) (.cons (.pure _ (.int _ _)) (.cons (.pure _ (.int _ _)) (.cons (.pure _ (.bool _)) (.cons (.pure _ (.int _ _)) (.cons (.pure _ (.int _ _)) .nil)))))))) (.cons (.pure _ (.bool _)) .nil)))
  ·obtain⟨p6,e5,h⟩:=aj h;try refine ah ?_
   refine aA (qj e5) ?_;obtain rfl:=ak h;try refine ah ?_
   exact(dG (.cons (dH (.cons (.pure _ (.str _)) (.cons (.pure _ (.int _ _)) (.cons (.pure _ (.int _ _)) (.cons (.pure _ (.int _ _)) (.cons (.pure _ (.bool _)) (.cons (.pure _ (.int _ _)) (.cons (.pure _ (.int _ _)) .nil)))))))) (.cons (.pure _ (.bool _)) .nil)))
def Gn (k:Nat) (jy:Str):Option (Operator×Int):=
  Option.bind (kI k jy) fun p2=>Option.bind (mM (!p2.2) 10) fun p4=>some (p2.1,p4)
theorem Xq {k:Nat} {jy:Str} {r:Operator×Int} (h:Gn k jy=some r):aG Tryz.prog 26 [(.str jy)] (.dN [(.agg (Operator.cells r.1)),(.int .i64 r.2)]):=by
  refine aG.aR (bB.mem (.cons (.str _) .nil)) (aI aov (by simp) (aF ?_)) (.dN _ (bB.mem (.cons (.agg _ (Operator.pu _)) (.cons (.int _ _) .nil))));unfold Gn at h;unfold aou;obtain⟨p2,e1,h⟩:=aj h;try refine ah ?_
  refine aA (qj e1) ?_;try refine ah ?_
  refine bO ?_;obtain⟨p4,e3,h⟩:=aj h;try refine ah ?_
  refine PC.mk (mh e3) ?_;obtain rfl:=ak h;try refine ah ?_
  exact(dG (.cons (dH (.cons (.pure _ (.str _)) (.cons (.pure _ (.int _ _)) (.cons (.pure _ (.int _ _)) (.cons (.pure _ (.int _ _)) (.cons (.pure _ (.bool _)) (.cons (.pure _ (.int _ _)) (.cons (.pure _ (.int _ _)) .nil)))))))) (.cons (.pure _ (.int _ _)) .nil)))
def Dx (k:Nat) (bH:Int) (uh:List Nd) (iO:Bool):Option Bool:=
  cond iO (if 0<=bH then Option.bind (uh[bH.toNat]?) fun x3=>Option.bind (FY k x3.kind) fun p6=>some (p6)else none) (some (false))
def Tq:List Nat:=List.range' 11 8
theorem acT (k:Nat): ∀(vG:Nat) (bH:Int) (uh:List Nd) (iO:Bool) (aC σ:Nat->PV) (H:AH) (f0:Fr Tq aC σ) (sl:σ 1=(.int .i64 bH)/\σ 3=(.ref (vG) 0)/\σ 10=(.bool iO)/\H.obj vG=some [(.aB (uh.map Nd.cells) .unk)]) (zL:vG<H.next) (o:Bool) (h:Dx k bH uh iO=some o) (Q:Post) (q0: ∀(p:Bool) (σ':Nat->PV),o=p->Fr Tq aC σ'->(σ' 18=(.bool p))->Q .normal σ' H),dB Tryz.prog Vm (Q .normal) σ H:=by
  intro vG bH uh iO aC σ H f0 sl zL o h Q q0;obtain⟨s1,s3,s10,am3⟩:=sl;have am4:=ne_next zL;have am5:=aU zL;unfold Dx at h;refine dw ?_;unfold Vm;rcases au h with⟨e1,h⟩|⟨e1,h⟩
  ·obtain⟨e2,h⟩:=aD h;obtain⟨x3,e4,h⟩:=aj h;obtain⟨p6,e5,h⟩:=aj h;try refine ah ?_
   refine aA (aeX e5) ?_;obtain rfl:=ak h;try refine ah ?_
   exact q0 _ _ rfl aO av
  ·obtain rfl:=ak h;try refine ah ?_
   exact q0 _ _ rfl aO av
def wW (fI:Str) (iE:Int) (iy:Int) (gQ:Int) (iA:Bool) (iF:Int) (iG:Int) (Dy:Str) (Gp:Int) (Gq:Int) (Tt:Int) (Tv:Bool) (Tw:Int) (Tx:Int) (abB:Bool):Option Bool:=
  cond abB (cond (Gp==0) (cond (decide (Gq<iy)) (some (true)) (cond (Gp !=0) (cond (decide (Gq<=gQ)) (some (true)) (cond (Dy==([45,46]:Str)) (some ((fI==([45,46]:Str)))) (some (false)))) (cond (Dy==([45,46]:Str)) (some ((fI==([45,46]:Str)))) (some (false))))) (cond (Gp !=0) (cond (decide (Gq<=gQ)) (some (true)) (cond (Dy==([45,46]:Str)) (some ((fI==([45,46]:Str)))) (some (false)))) (cond (Dy==([45,46]:Str)) (some ((fI==([45,46]:Str)))) (some (false))))) (some (false))
def Lm:List Nat:=List.range' 71 33
theorem Xr: ∀(gH:Nat) (Nr:Nat) (fI:Str) (iE:Int) (iy:Int) (gQ:Int) (iA:Bool) (iF:Int) (iG:Int) (Dy:Str) (Gp:Int) (Gq:Int) (Tt:Int) (Tv:Bool) (Tw:Int) (Tx:Int) (abB:Bool) (aC σ:Nat->PV) (H:AH) (f0:Fr Lm aC σ) (sl:σ 6=(.ref (gH) 0)/\σ 12=(.ref (Nr) 0)/\σ 70=(.bool abB)/\H.obj gH=some [(.str fI),(.int .i64 iE),(.int .i64 iy),(.int .i64 gQ),(.bool iA),(.int .i64 iF),(.int .i64 iG)]/\H.obj Nr=some [(.str Dy),(.int .i64 Gp),(.int .i64 Gq),(.int .i64 Tt),(.bool Tv),(.int .i64 Tw),(.int .i64 Tx)]) (jC:gH<H.next) (Rp:Nr<H.next) (Cx:gH≠Nr) (o:Bool) (h:wW fI iE iy gQ iA iF iG Dy Gp Gq Tt Tv Tw Tx abB=some o) (Q:Post) (q0: ∀(p:Bool) (σ':Nat->PV),o=p->Fr Lm aC σ'->(σ' 103=(.bool p))->Q .normal σ' H),dB Tryz.prog Qj (Q .normal) σ H:=by
  intro gH Nr fI iE iy gQ iA iF iG Dy Gp Gq Tt Tv Tw Tx abB aC σ H f0 sl jC Rp Cx o h Q q0;obtain⟨s6,s12,s70,Ot,awi⟩:=sl;have Ou:=ne_next jC;have Ov:=aU jC;have awj:=ne_next Rp;have awk:=aU Rp;have am6:=eq_false Cx;have am7:=eq_false (Ne.symm Cx);unfold wW at h;refine dw ?_;unfold Qj;rcases au h with⟨e21,h⟩|⟨e21,h⟩
  ·rcases au h with⟨e22,h⟩|⟨e22,h⟩
   ·rcases au h with⟨e23,h⟩|⟨e23,h⟩
    ·obtain rfl:=ak h;try refine ah ?_
     exact q0 _ _ rfl aO av
    ·rcases au h with⟨e24,h⟩|⟨e24,h⟩
     ·rcases au h with⟨e25,h⟩|⟨e25,h⟩
      ·obtain rfl:=ak h;try refine ah ?_
       exact q0 _ _ rfl aO av
      ·rcases au h with⟨e26,h⟩|⟨e26,h⟩
       ·obtain rfl:=ak h;try refine ah ?_
        exact q0 _ _ rfl aO av
       ·obtain rfl:=ak h;try refine ah ?_
        exact q0 _ _ rfl aO av
     ·rcases au h with⟨e27,h⟩|⟨e27,h⟩
      ·obtain rfl:=ak h;try refine ah ?_
       exact q0 _ _ rfl aO av
      ·obtain rfl:=ak h;try refine ah ?_
       exact q0 _ _ rfl aO av
   ·rcases au h with⟨e28,h⟩|⟨e28,h⟩
    ·rcases au h with⟨e29,h⟩|⟨e29,h⟩
     ·obtain rfl:=ak h;try refine ah ?_
      exact q0 _ _ rfl aO av
     ·rcases au h with⟨e30,h⟩|⟨e30,h⟩
      ·obtain rfl:=ak h;try refine ah ?_
       exact q0 _ _ rfl aO av
      ·obtain rfl:=ak h;try refine ah ?_
       exact q0 _ _ rfl aO av
    ·rcases au h with⟨e31,h⟩|⟨e31,h⟩
     ·obtain rfl:=ak h;try refine ah ?_
      exact q0 _ _ rfl aO av
     ·obtain rfl:=ak h;try refine ah ?_
      exact q0 _ _ rfl aO av
  ·obtain rfl:=ak h;try refine ah ?_
   exact q0 _ _ rfl aO av
def Bu (fI:Str) (iE:Int) (iy:Int) (gQ:Int) (iA:Bool) (iF:Int) (iG:Int) (Tz:Bool):Option Bool:=
  cond Tz (Option.bind (fI[0]?) fun x47=>some ((decide ((x47.toNat:Int)<=90)))) (some (false))
def Lp:List Nat:=[116,117,118,119,120]
theorem Xt: ∀(gH:Nat) (fI:Str) (iE:Int) (iy:Int) (gQ:Int) (iA:Bool) (iF:Int) (iG:Int) (Tz:Bool) (aC σ:Nat->PV) (H:AH) (f0:Fr Lp aC σ) (sl:σ 6=(.ref (gH) 0)/\σ 115=(.bool Tz)/\H.obj gH=some [(.str fI),(.int .i64 iE),(.int .i64 iy),(.int .i64 gQ),(.bool iA),(.int .i64 iF),(.int .i64 iG)]) (jC:gH<H.next) (o:Bool) (h:Bu fI iE iy gQ iA iF iG Tz=some o) (Q:Post) (q0: ∀(p:Bool) (σ':Nat->PV),o=p->Fr Lp aC σ'->(σ' 120=(.bool p))->Q .normal σ' H),dB Tryz.prog Qk (Q .normal) σ H:=by
  intro gH fI iE iy gQ iA iF iG Tz aC σ H f0 sl jC o h Q q0;obtain⟨s6,aAk,Ot⟩:=sl;have Ou:=ne_next jC;have Ov:=aU jC;unfold Bu at h;refine dw ?_;unfold Qk;rcases au h with⟨e46,h⟩|⟨e46,h⟩
  ·obtain⟨x47,e48,h⟩:=aj h;obtain rfl:=ak h;try refine ah ?_
   exact q0 _ _ rfl aO av
  ·obtain rfl:=ak h;try refine ah ?_
   exact q0 _ _ rfl aO av
def wX (fI:Str) (iE:Int) (iy:Int) (gQ:Int) (iA:Bool) (iF:Int) (iG:Int) (zM:Str):Option Str:=
  cond (fI==([45,46]:Str)) (some (([45]:Str))) (Option.bind (fI[0]?) fun x44=>Option.bind (Bu fI iE iy gQ iA iF iG (decide ((x44.toNat:Int)>=65))) (fun p51=>cond p51 (if zM.length+([32]:Str).length<=4611686018427387904 then some ((zM++([32]:Str)))else none) (some (zM))))
def Lr:List Nat:=[15]++List.range' 106 17
theorem Xu: ∀(gH:Nat) (fI:Str) (iE:Int) (iy:Int) (gQ:Int) (iA:Bool) (iF:Int) (iG:Int) (zM:Str) (aC σ:Nat->PV) (H:AH) (f0:Fr Lr aC σ) (sl:σ 6=(.ref (gH) 0)/\σ 15=(.str zM)/\H.obj gH=some [(.str fI),(.int .i64 iE),(.int .i64 iy),(.int .i64 gQ),(.bool iA),(.int .i64 iF),(.int .i64 iG)]) (jC:gH<H.next) (o:Str) (h:wX fI iE iy gQ iA iF iG zM=some o) (Q:Post) (q0: ∀(p:Str) (σ':Nat->PV),o=p->Fr Lr aC σ'->(σ' 15=(.str p))->Q .normal σ' H),W Tryz.prog Ql Q σ H:=by
  intro gH fI iE iy gQ iA iF iG zM aC σ H f0 sl jC o h Q q0;obtain⟨s6,s15,Ot⟩:=sl;have Ou:=ne_next jC;have Ov:=aU jC;unfold wX at h;refine aF ?_;unfold Ql;rcases au h with⟨e43,h⟩|⟨e43,h⟩
  ·obtain rfl:=ak h;try refine ah ?_
   exact q0 _ _ rfl aO av
  ·obtain⟨x44,e45,h⟩:=aj h;try refine ah ?_
   obtain⟨o49,h50,h⟩:=aj h;refine Xt (gH) fI iE iy gQ iA iF iG (decide ((x44.toNat:Int)>=65)) _ _ _ (Fr.refl _ _) av bE _ h50 _ ?_
   ·rintro p51 σ' eo ai8 s55;rw [eo]at h;have s56:σ' 15=(.str zM):=(ai8 15 (by decide)).trans av;rcases au h with⟨e57,h⟩|⟨e57,h⟩
    ·obtain⟨e58,h⟩:=aD h;try refine ah ?_
     refine aN (aP e58) ?_;obtain rfl:=ak h;try refine ah ?_
     exact q0 _ _ rfl (by repeat (first|exact f0|refine Fr.upd (by decide) ?_|refine Fr.via ai8 (by decide) ?_)) av
    ·obtain rfl:=ak h;try refine ah ?_
     exact q0 _ _ rfl (by repeat (first|exact f0|refine Fr.upd (by decide) ?_|refine Fr.via ai8 (by decide) ?_)) av
def wY (fI:Str) (iE:Int) (iy:Int) (gQ:Int) (iA:Bool) (iF:Int) (iG:Int) (abC:Int) (Ns:Str) (TA:Int) (Nt:Int) (TB:Int) (TD:Bool) (TF:Int) (TG:Int) (TH:Bool):Option Bool:=
  cond TH (cond (decide (Nt<=gQ)) (cond (abC==0) (cond (Ns==fI) (some ((!iA))) (some (true))) (some (true))) (some (false))) (some (false))
def Ls:List Nat:=List.range' 153 22
theorem Xv: ∀(gH:Nat) (Nu:Nat) (fI:Str) (iE:Int) (iy:Int) (gQ:Int) (iA:Bool) (iF:Int) (iG:Int) (abC:Int) (Ns:Str) (TA:Int) (Nt:Int) (TB:Int) (TD:Bool) (TF:Int) (TG:Int) (TH:Bool) (aC σ:Nat->PV) (H:AH) (f0:Fr Ls aC σ) (sl:σ 6=(.ref (gH) 0)/\σ 18=(.int .i64 abC)/\σ 20=(.ref (Nu) 0)/\σ 152=(.bool TH)/\H.obj gH=some [(.str fI),(.int .i64 iE),(.int .i64 iy),(.int .i64 gQ),(.bool iA),(.int .i64 iF),(.int .i64 iG)]/\H.obj Nu=some [(.str Ns),(.int .i64 TA),(.int .i64 Nt),(.int .i64 TB),(.bool TD),(.int .i64 TF),(.int .i64 TG)]) (jC:gH<H.next) (Rq:Nu<H.next) (Cy:gH≠Nu) (o:Bool) (h:wY fI iE iy gQ iA iF iG abC Ns TA Nt TB TD TF TG TH=some o) (Q:Post) (q0: ∀(p:Bool) (σ':Nat->PV),o=p->Fr Ls aC σ'->(σ' 174=(.bool p))->Q .normal σ' H),dB Tryz.prog Qm (Q .normal) σ H:=by
  intro gH Nu fI iE iy gQ iA iF iG abC Ns TA Nt TB TD TF TG TH aC σ H f0 sl jC Rq Cy o h Q q0;obtain⟨s6,pK,s20,aAl,Ot,awl⟩:=sl;have Ou:=ne_next jC;have Ov:=aU jC;have awm:=ne_next Rq;have awn:=aU Rq;have am8:=eq_false Cy;have am9:=eq_false (Ne.symm Cy);unfold wY at h;refine dw ?_;unfold Qm;rcases au h with⟨e79,h⟩|⟨e79,h⟩
  ·rcases au h with⟨e80,h⟩|⟨e80,h⟩
   ·rcases au h with⟨e81,h⟩|⟨e81,h⟩
    ·rcases au h with⟨Ph,h⟩|⟨Ph,h⟩
     ·obtain rfl:=ak h;try refine ah ?_
      exact q0 _ _ rfl aO av
     ·obtain rfl:=ak h;try refine ah ?_
      exact q0 _ _ rfl aO av
    ·obtain rfl:=ak h;try refine ah ?_
     exact q0 _ _ rfl aO av
   ·obtain rfl:=ak h;try refine ah ?_
    exact q0 _ _ rfl aO av
  ·obtain rfl:=ak h;try refine ah ?_
   exact q0 _ _ rfl aO av
def Lu:List Nat:=[16,18,19,20,21,22]++List.range' 140 49
def TI:List Nat:=[5,7]++List.range' 10 11
def Nv:List Nat:=[5,6,7]++List.range' 11 19
def EN (sN:Str) (Gs:Str) (Gt:Bool):Option Bool:=
  cond Gt (Option.bind (dW Gs ([92,105,110,32]:Str)) fun ig=>some (ig)) (cond (sN==([66,79,79,76,69,65,78]:Str)) (Option.bind (dW Gs ([92,105,110,32]:Str)) fun yA=>some (yA)) (cond (sN==([83,84,82,73,78,71]:Str)) (Option.bind (dW Gs ([92,105,110,32]:Str)) fun lu=>some (lu)) (some (false))))
def PG:List Nat:=List.range' 21 11
theorem abD: ∀(sN:Str) (Gs:Str) (Gt:Bool) (aC σ:Nat->PV) (H:AH) (f0:Fr PG aC σ) (sl:σ 6=(.str sN)/\σ 7=(.str Gs)/\σ 20=(.bool Gt)) (o:Bool) (h:EN sN Gs Gt=some o) (Q:Post) (q0: ∀(p:Bool) (σ':Nat->PV),o=p->Fr PG aC σ'->(σ' 31=(.bool p))->Q .normal σ' H),dB Tryz.prog FJ (Q .normal) σ H:=by
  intro sN Gs Gt aC σ H f0 sl o h Q q0;obtain⟨s6,s7,s20⟩:=sl;unfold EN at h;refine dw ?_;unfold FJ;rcases au h with⟨e12,h⟩|⟨e12,h⟩
  ·obtain⟨ig,e13,h⟩:=aj h;try refine ah ?_
   refine aA (ji e13) ?_;obtain rfl:=ak h;try refine ah ?_
   exact q0 _ _ rfl aO av
  ·rcases au h with⟨e15,h⟩|⟨e15,h⟩
   ·obtain⟨yA,e16,h⟩:=aj h;try refine ah ?_
    refine aA (ji e16) ?_;obtain rfl:=ak h;try refine ah ?_
    exact q0 _ _ rfl aO av
   ·rcases au h with⟨e18,h⟩|⟨e18,h⟩
    ·obtain⟨lu,e19,h⟩:=aj h;try refine ah ?_
     refine aA (ji e19) ?_;obtain rfl:=ak h;try refine ah ?_
     exact q0 _ _ rfl aO av
    ·obtain rfl:=ak h;try refine ah ?_
     exact q0 _ _ rfl aO av
def Bv (sN:Str) (Gt:Bool):Option Bool:=
  cond Gt (Option.bind (dW [] ([92,105,110,32]:Str)) fun p36=>some (p36)) (cond (sN==([66,79,79,76,69,65,78]:Str)) (Option.bind (dW [] ([92,105,110,32]:Str)) fun p39=>some (p39)) (cond (sN==([83,84,82,73,78,71]:Str)) (Option.bind (dW [] ([92,105,110,32]:Str)) fun p42=>some (p42)) (some (false))))
def Lv:List Nat:=List.range' 21 11
theorem Xw: ∀(sN:Str) (Gt:Bool) (aC σ:Nat->PV) (H:AH) (f0:Fr Lv aC σ) (sl:σ 6=(.str sN)/\σ 7=(.str [])/\σ 20=(.bool Gt)) (o:Bool) (h:Bv sN Gt=some o) (Q:Post) (q0: ∀(p:Bool) (σ':Nat->PV),o=p->Fr Lv aC σ'->(σ' 31=(.bool p))->Q .normal σ' H),dB Tryz.prog FJ (Q .normal) σ H:=by
  intro sN Gt aC σ H f0 sl o h Q q0;obtain⟨s6,s7,s20⟩:=sl;unfold Bv at h;refine dw ?_;unfold FJ;rcases au h with⟨e34,h⟩|⟨e34,h⟩
  ·obtain⟨p36,e35,h⟩:=aj h;try refine ah ?_
   refine aA (ji e35) ?_;obtain rfl:=ak h;try refine ah ?_
   exact q0 _ _ rfl aO av
  ·rcases au h with⟨e37,h⟩|⟨e37,h⟩
   ·obtain⟨p39,e38,h⟩:=aj h;try refine ah ?_
    refine aA (ji e38) ?_;obtain rfl:=ak h;try refine ah ?_
    exact q0 _ _ rfl aO av
   ·rcases au h with⟨e40,h⟩|⟨e40,h⟩
    ·obtain⟨p42,e41,h⟩:=aj h;try refine ah ?_
     refine aA (ji e41) ?_;obtain rfl:=ak h;try refine ah ?_
     exact q0 _ _ rfl aO av
    ·obtain rfl:=ak h;try refine ah ?_
     exact q0 _ _ rfl aO av
def Ny:List Nat:=[7,8,9]++List.range' 13 20
def PI:List Nat:=[5,7]++List.range' 12 43
def Gu (lZ:List Str) (Gv:Str) (Cz:Str):Option ((Str×Str)):=
  cond (decide ((lZ.length:Int)>0)) (if lZ.length<=1099511627776 then if(Lib.join lZ ([44,32]:Str)).length<=140737488355328 then if([40]:Str).length+(Lib.join lZ ([44,32]:Str)).length<=4611686018427387904 then if(40::(Lib.join lZ ([44,32]:Str))).length+([41]:Str).length<=4611686018427387904 then if Gv.length+(40::((Lib.join lZ ([44,32]:Str))++([41]:Str))).length<=4611686018427387904 then Option.bind (abA [([95]:Str)] (lZ.length:Int)) fun pI=>if pI.length<=1099511627776 then if(Lib.join pI ([44,32]:Str)).length<=140737488355328 then if([40]:Str).length+(Lib.join pI ([44,32]:Str)).length<=4611686018427387904 then if(40::(Lib.join pI ([44,32]:Str))).length+([41]:Str).length<=4611686018427387904 then if Cz.length+(40::((Lib.join pI ([44,32]:Str))++([41]:Str))).length<=4611686018427387904 then some (((Gv++(40::((Lib.join lZ ([44,32]:Str))++([41]:Str)))),(Cz++(40::((Lib.join pI ([44,32]:Str))++([41]:Str))))))else none else none else none else none else none else none else none else none else none else none) (some ((Gv,Cz)))
def Yq:List Nat:=[6,7]++List.range' 19 18
theorem afl: ∀(lZ:List Str) (Gv:Str) (Cz:Str) (aC σ:Nat->PV) (H:AH) (f0:Fr Yq aC σ) (sl:σ 5=(.aB (lZ.map aX) .unk)/\σ 6=(.str Gv)/\σ 7=(.str Cz)) (o:(Str×Str)) (h:Gu lZ Gv Cz=some o) (Q:Post) (q0: ∀(p:Str×Str) (σ':Nat->PV),o=p->Fr Yq aC σ'->(σ' 6=(.str p.1)/\σ' 7=(.str p.2))->Q .normal σ' H),W Tryz.prog Q0 Q σ H:=by
  intro lZ Gv Cz aC σ H f0 sl o h Q q0;obtain⟨s5,s6,s7⟩:=sl;unfold Gu at h;refine aF ?_;unfold Q0;rcases au h with⟨e4,h⟩|⟨e4,h⟩
  ·obtain⟨e5,h⟩:=aD h;obtain⟨e6,h⟩:=aD h;try refine ah ?_
   refine aA (yE lZ ([44,32]:Str) (by assumption) (by assumption)) ?_;obtain⟨e7,h⟩:=aD h;try refine ah ?_
   refine aN (aP e7) ?_;obtain⟨e8,h⟩:=aD h;try refine ah ?_
   refine aN (aP e8) ?_;obtain⟨e9,h⟩:=aD h;try refine ah ?_
   refine aN (aP e9) ?_;obtain⟨pI,e10,h⟩:=aj h;try refine ah ?_
   refine aA (aq7 [([95]:Str)] (lZ.length:Int) e10) ?_;obtain⟨e12,h⟩:=aD h;obtain⟨e13,h⟩:=aD h;try refine ah ?_
   refine aA (yE pI ([44,32]:Str) (by assumption) (by assumption)) ?_;obtain⟨e14,h⟩:=aD h;try refine ah ?_
   refine aN (aP e14) ?_;obtain⟨e15,h⟩:=aD h;try refine ah ?_
   refine aN (aP e15) ?_;obtain⟨e16,h⟩:=aD h;try refine ah ?_
   refine aN (aP e16) ?_;obtain rfl:=ak h;try refine ah ?_
   exact q0 _ _ rfl aO av
  ·obtain rfl:=ak h;try refine ah ?_
   exact q0 _ _ rfl aO av
def xL (k:Nat) (bn:Int) (bM:Int) (bF:Str) (bP:List Str) (bS:List Int) (abE:Bool):Option Bool:=
  cond abE (Option.bind (ou k bF) fun p6=>cond p6 (Option.bind (dV k [([84,82,85,69]:Str),([70,65,76,83,69]:Str),([66,79,79,76,69,65,78]:Str),([83,84,82,73,78,71]:Str)] bF) fun p9=>some ((!p9))) (some (false))) (some (false))
def Ie:List Nat:=List.range' 16 11
theorem Rt (k:Nat): ∀(bW:Nat) (bn:Int) (bM:Int) (bF:Str) (bP:List Str) (bS:List Int) (abE:Bool) (aC σ:Nat->PV) (H:AH) (f0:Fr Ie aC σ) (sl:σ 5=(.ref (bW) 0)/\σ 15=(.bool abE)/\H.obj bW=some [(.int .i64 bn),(.int .i64 bM),(.str bF),(.aB (bP.map aX) .unk),(.aB (bS.map bI) .unk)]) (cu:bW<H.next) (o:Bool) (h:xL k bn bM bF bP bS abE=some o) (Q:Post) (q0: ∀(p:Bool) (σ':Nat->PV),o=p->Fr Ie aC σ'->(σ' 26=(.bool p))->Q .normal σ' H),dB Tryz.prog QK (Q .normal) σ H:=by
  intro bW bn bM bF bP bS abE aC σ H f0 sl cu o h Q q0;obtain⟨s5,s15,uT⟩:=sl;have uU:=ne_next cu;have uV:=aU cu;unfold xL at h;refine dw ?_;unfold QK;rcases au h with⟨e4,h⟩|⟨e4,h⟩
  ·obtain⟨p6,e5,h⟩:=aj h;try refine ah ?_
   refine aA (q8 e5) ?_;rcases au h with⟨e7,h⟩|⟨e7,h⟩
   ·obtain⟨p9,e8,h⟩:=aj h;try refine ah ?_
    refine aA (kT e8) ?_;obtain rfl:=ak h;try refine ah ?_
    exact q0 _ _ rfl aO av
   ·obtain rfl:=ak h;try refine ah ?_
    exact q0 _ _ rfl aO av
  ·obtain rfl:=ak h;try refine ah ?_
   exact q0 _ _ rfl aO av
mutual
def dY:Nat->Printer->Int->Bool->Option Str
  |0,_,_,_=>none
  |k+1,p_0,bH,ku=>
    Option.bind (Dx k bH p_0.e ku) (fun p9=>cond p9 (Option.bind (wZ k p_0 bH) fun kF=>some kF) (Option.bind (nC k p_0 bH) fun qU=>cond qU.2 (Option.bind (zN k p_0 bH qU.1 ku) fun lq=>some lq) (Option.bind (Gw k p_0 bH) fun p26=>some p26)))
def wZ:Nat->Printer->Int->Option Str
  |0,_,_=>none
  |k+1,p_0,bH=>
    Option.bind (dY k p_0 bH false) fun p2=>if([40]:Str).length+p2.length<=4611686018427387904 then if(40::p2).length+([41]:Str).length<=4611686018427387904 then some (40::(p2++([41]:Str)))else none else none
def kC:Nat->Printer->Int->Bool->Bool->Option Str
  |0,_,_,_,_=>none
  |k+1,p_0,bH,JM,cZ=>
    cond JM (Option.bind (wZ k p_0 bH) fun p3=>some p3) (Option.bind (dY k p_0 bH cZ) fun p5=>some p5)
def jG:Nat->Bool->(List Nd)->Str->Int->Int->Int->Bool->Int->Int->(List Str)->Int->(List Int)->Int->Int->Option (List Str)
  |0,_,_,_,_,_,_,_,_,_,_,_,_,_,_=>none
  |k+1,cZ,vH,fI,iE,iy,gQ,iA,iF,iG,qA,sO,Bw,Bz,rF=>
    cond (decide (rF<Bz)) (if 0<=rF then Option.bind (Bw[rF.toNat]?) fun x75=>Option.bind (nC k (Printer.mk vH) x75) fun Dz=>Option.bind (wY fI iE iy gQ iA iF iG rF Dz.1.text Dz.1.fix Dz.1.low Dz.1.high Dz.1.left Dz.1.least Dz.1.most Dz.2) (fun p85=>cond (decide (rF<sO)) (Option.bind (kC k (Printer.mk vH) x75 p85 true) fun Rm=>if(qA.length+1)*16<=1099511627776 then jG k cZ vH fI iE iy gQ iA iF iG (qA++[Rm]) sO Bw Bz (IntKind.wrap .i64 (rF+1))else none) (Option.bind (kC k (Printer.mk vH) x75 p85 cZ) fun KH=>if(qA.length+1)*16<=1099511627776 then jG k cZ vH fI iE iy gQ iA iF iG (qA++[KH]) sO Bw Bz (IntKind.wrap .i64 (rF+1))else none))else none) (some (qA))
def zN:Nat->Printer->Int->Operator->Bool->Option Str
  |0,_,_,_,_=>none
  |k+1,p_0,bH,fJ,cZ=>
    if 0<=bH then Option.bind (p_0.e[bH.toNat]?) fun x2=>cond (fJ.fix==2) (Option.bind (x2.args[0]?) fun x5=>Option.bind (nC k p_0 x5) fun p8=>cond p8.2 (Option.bind (kC k p_0 x5 (!(p8.1.text==fJ.text)) true) fun pI=>if pI.length+fJ.text.length<=4611686018427387904 then some (pI++fJ.text)else none) (Option.bind (kC k p_0 x5 false true) fun ig=>if ig.length+fJ.text.length<=4611686018427387904 then some (ig++fJ.text)else none)) (cond (fJ.fix==0) (Option.bind (x2.args[0]?) fun BR=>Option.bind (nC k p_0 BR) fun lu=>Option.bind (wW fJ.text fJ.fix fJ.low fJ.high fJ.left fJ.least fJ.most lu.1.text lu.1.fix lu.1.low lu.1.high lu.1.left lu.1.least lu.1.most lu.2) (fun p34=>Option.bind (wX fJ.text fJ.fix fJ.low fJ.high fJ.left fJ.least fJ.most fJ.text) (fun p61=>Option.bind (kC k p_0 BR p34 cZ) fun p71=>if p61.length+p71.length<=4611686018427387904 then some (p61++p71)else none))) (Option.bind (jG k cZ p_0.e fJ.text fJ.fix fJ.low fJ.high fJ.left fJ.least fJ.most ([]:List Str) (IntKind.wrap .i64 ((x2.args.length:Int) -1)) x2.args (x2.args.length:Int) 0) (fun abG=>if([32]:Str).length+fJ.text.length<=4611686018427387904 then if(32::fJ.text).length+([32]:Str).length<=4611686018427387904 then if abG.length<=1099511627776 then if(Lib.join abG (32::(fJ.text++([32]:Str)))).length<=140737488355328 then some (Lib.join abG (32::(fJ.text++([32]:Str))))else none else none else none else none)))else none
def rG:Nat->(List Nd)->(List Str)->(List Int)->Int->Int->Option (List Str)
  |0,_,_,_,_,_=>none
  |k+1,iH,dh,eY,pR,iO=>
    cond (decide (iO<pR)) (if 0<=iO then Option.bind (eY[iO.toNat]?) fun x3=>Option.bind (dY k (Printer.mk iH) x3 false) fun p6=>if(dh.length+1)*16<=1099511627776 then rG k iH (dh++[p6]) eY pR (IntKind.wrap .i64 (iO+1))else none else none) (some (dh))
def BA:Nat->Printer->(List Int)->Option Str
  |0,_,_=>none
  |k+1,p_0,l_1=>
    Option.bind (rG k p_0.e ([]:List Str) l_1 (l_1.length:Int) 0) (fun mR=>if mR.length<=1099511627776 then if(Lib.join mR ([44,32]:Str)).length<=140737488355328 then some (Lib.join mR ([44,32]:Str))else none else none)
def nD:Nat->(List Nd)->Int->Int->Str->(List Str)->(List Int)->(List Str)->(List Str)->Int->Int->Option (List Str)
  |0,_,_,_,_,_,_,_,_,_,_=>none
  |k+1,iH,fQ,fT,fB,fK,eT,dh,pR,iO,bJ=>
    cond (decide (bJ<iO)) (if 0<=bJ then Option.bind (pR[bJ.toNat]?) fun x3=>if x3.length+([32,92,105,110,32]:Str).length<=4611686018427387904 then Option.bind (eT[bJ.toNat]?) fun x6=>Option.bind (dY k (Printer.mk iH) x6 false) fun p9=>if(x3++([32,92,105,110,32]:Str)).length+p9.length<=4611686018427387904 then if(dh.length+1)*16<=1099511627776 then nD k iH fQ fT fB fK eT (dh++[(x3++(32::92::105::110::32::p9))]) pR iO (IntKind.wrap .i64 (bJ+1))else none else none else none else none) (some (dh))
def qB:Nat->Printer->Nd->Option Str
  |0,_,_=>none
  |k+1,p_0,bR=>
    Option.bind (nD k p_0.e bR.kind bR.n bR.text bR.names bR.args ([]:List Str) bR.names (bR.names.length:Int) 0) (fun lq=>if lq.length<=1099511627776 then if(Lib.join lq ([44,32]:Str)).length<=140737488355328 then some (Lib.join lq ([44,32]:Str))else none else none)
def Fe:Nat->Printer->Int->Option Str
  |0,_,_=>none
  |k+1,p_0,bH=>
    Option.bind (dY k p_0 bH false) fun p2=>Option.bind (aaX p2 ([32]:Str)) fun p6=>cond (decide (p6>=0)) (if 0<=p6/\p6.toNat<=p2.length then if 0<=(IntKind.wrap .i64 (p6+1))/\(IntKind.wrap .i64 (p6+1)).toNat<=p2.length then Option.bind (ou k (p2.take p6.toNat)) fun pI=>Option.bind (EN (p2.take p6.toNat) (p2.drop (IntKind.wrap .i64 (p6+1)).toNat) pI) (fun jL=>cond jL (if([40]:Str).length+p2.length<=4611686018427387904 then if(40::p2).length+([41]:Str).length<=4611686018427387904 then some (40::(p2++([41]:Str)))else none else none) (some p2))else none else none) (Option.bind (ou k p2) fun p33=>Option.bind (Bv p2 p33) (fun p45=>cond p45 (if([40]:Str).length+p2.length<=4611686018427387904 then if(40::p2).length+([41]:Str).length<=4611686018427387904 then some (40::(p2++([41]:Str)))else none else none) (some p2)))
def nE:Nat->Str->(List Nd)->Int->Int->Str->(List Str)->(List Int)->(List Str)->(List Str)->Int->Int->Option (List Str)
  |0,_,_,_,_,_,_,_,_,_,_,_=>none
  |k+1,lI,uh,KJ,KM,KN,KO,Ig,ni,bJ,mo,gy=>
    cond (decide (gy<mo)) (if 0<=gy then Option.bind (bJ[gy.toNat]?) fun x3=>if x3.length+lI.length<=4611686018427387904 then Option.bind (Ig[gy.toNat]?) fun x6=>Option.bind (dY k (Printer.mk uh) x6 false) fun p9=>if(x3++lI).length+p9.length<=4611686018427387904 then if(ni.length+1)*16<=1099511627776 then nE k lI uh KJ KM KN KO Ig (ni++[(x3++(lI++p9))]) bJ mo (IntKind.wrap .i64 (gy+1))else none else none else none else none) (some (ni))
def zq:Nat->Printer->Nd->Str->Option Str
  |0,_,_,_=>none
  |k+1,p_0,bR,lI=>
    Option.bind (nE k lI p_0.e bR.kind bR.n bR.text bR.names bR.args ([]:List Str) bR.names (bR.names.length:Int) 0) (fun lq=>if lq.length<=1099511627776 then if(Lib.join lq ([44,32]:Str)).length<=140737488355328 then some (Lib.join lq ([44,32]:Str))else none else none)
def nG:Nat->(List Nd)->Int->Int->Str->(List Str)->(List Int)->(List Str)->Int->Int->Option (List Str)
  |0,_,_,_,_,_,_,_,_,_=>none
  |k+1,iH,fQ,fT,fB,fK,eT,dh,w9,eU=>
    cond (decide (eU<=w9)) (cond (eU==w9) (if 0<=eU then Option.bind (eT[eU.toNat]?) fun x4=>Option.bind (dY k (Printer.mk iH) x4 false) fun p7=>if([79,84,72,69,82,32,45,62,32]:Str).length+p7.length<=4611686018427387904 then if(dh.length+1)*16<=1099511627776 then some ((dh++[(79::84::72::69::82::32::45::62::32::p7)]))else none else none else none) (if 0<=eU then Option.bind (eT[eU.toNat]?) fun BR=>Option.bind (dY k (Printer.mk iH) BR false) fun lu=>if lu.length+([32,45,62,32]:Str).length<=4611686018427387904 then if 0<=(IntKind.wrap .i64 (eU+1))then Option.bind (eT[(IntKind.wrap .i64 (eU+1)).toNat]?) fun x23=>Option.bind (dY k (Printer.mk iH) x23 (decide ((IntKind.wrap .i64 (eU+1))<w9))) fun p26=>if(lu++([32,45,62,32]:Str)).length+p26.length<=4611686018427387904 then if(dh.length+1)*16<=1099511627776 then nG k iH fQ fT fB fK eT (dh++[(lu++(32::45::62::32::p26))]) w9 (IntKind.wrap .i64 (eU+2))else none else none else none else none else none)) (some (dh))
def JN:Nat->Printer->Nd->Option Str
  |0,_,_=>none
  |k+1,p_0,bR=>
    Option.bind (nG k p_0.e bR.kind bR.n bR.text bR.names bR.args ([]:List Str) (IntKind.wrap .i64 ((bR.args.length:Int) -1)) 0) (fun p45=>if p45.length<=1099511627776 then if(Lib.join p45 ([32,91,93,32]:Str)).length<=140737488355328 then if([67,65,83,69,32]:Str).length+(Lib.join p45 ([32,91,93,32]:Str)).length<=4611686018427387904 then some (67::65::83::69::32::(Lib.join p45 ([32,91,93,32]:Str)))else none else none else none)
def Ow:Nat->Printer->Nd->Option Str
  |0,_,_=>none
  |k+1,p_0,bR=>
    if 1<=bR.names.length then Option.bind (bR.names[0]?) fun x2=>Option.bind (Gu (bR.names.drop 1) x2 x2) (fun kF=>cond (bR.n==1) (if([82,69,67,85,82,83,73,86,69,32]:Str).length+kF.2.length<=4611686018427387904 then if(82::69::67::85::82::83::73::86::69::32::kF.2).length+([32]:Str).length<=4611686018427387904 then if(82::69::67::85::82::83::73::86::69::32::(kF.2++([32]:Str))).length+kF.1.length<=4611686018427387904 then if([76,69,84,32]:Str).length+(82::69::67::85::82::83::73::86::69::32::(kF.2++(32::kF.1))).length<=4611686018427387904 then if(76::69::84::32::82::69::67::85::82::83::73::86::69::32::(kF.2++(32::kF.1))).length+([32,61,61,32]:Str).length<=4611686018427387904 then Option.bind (bR.args[0]?) fun x33=>Option.bind (dY k p_0 x33 false) fun p36=>if(76::69::84::32::82::69::67::85::82::83::73::86::69::32::(kF.2++(32::(kF.1++([32,61,61,32]:Str))))).length+p36.length<=4611686018427387904 then if(76::69::84::32::82::69::67::85::82::83::73::86::69::32::(kF.2++(32::(kF.1++(32::61::61::32::p36))))).length+([32,73,78,32]:Str).length<=4611686018427387904 then Option.bind (bR.args[1]?) fun x39=>Option.bind (dY k p_0 x39 false) fun p42=>if(76::69::84::32::82::69::67::85::82::83::73::86::69::32::(kF.2++(32::(kF.1++(32::61::61::32::(p36++([32,73,78,32]:Str))))))).length+p42.length<=4611686018427387904 then some (76::69::84::32::82::69::67::85::82::83::73::86::69::32::(kF.2++(32::(kF.1++(32::61::61::32::(p36++(32::73::78::32::p42)))))))else none else none else none else none else none else none else none else none) (if([76,69,84,32]:Str).length+kF.1.length<=4611686018427387904 then if(76::69::84::32::kF.1).length+([32,61,61,32]:Str).length<=4611686018427387904 then Option.bind (bR.args[0]?) fun x46=>Option.bind (dY k p_0 x46 false) fun p49=>if(76::69::84::32::(kF.1++([32,61,61,32]:Str))).length+p49.length<=4611686018427387904 then if(76::69::84::32::(kF.1++(32::61::61::32::p49))).length+([32,73,78,32]:Str).length<=4611686018427387904 then Option.bind (bR.args[1]?) fun x52=>Option.bind (dY k p_0 x52 false) fun p55=>if(76::69::84::32::(kF.1++(32::61::61::32::(p49++([32,73,78,32]:Str))))).length+p55.length<=4611686018427387904 then some (76::69::84::32::(kF.1++(32::61::61::32::(p49++(32::73::78::32::p55)))))else none else none else none else none else none))else none
def JO:Nat->Printer->Nd->Option Str
  |0,_,_=>none
  |k+1,p_0,bR=>
    if 0<=(IntKind.wrap .i64 ((bR.args.length:Int) -1))then Option.bind (bR.args[(IntKind.wrap .i64 ((bR.args.length:Int) -1)).toNat]?) fun x2=>Option.bind (dY k p_0 x2 false) fun p5=>cond (bR.kind==8) (Option.bind (qB k p_0 bR) fun p8=>if([92,65,32]:Str).length+p8.length<=4611686018427387904 then if(92::65::32::p8).length+([32,58,32]:Str).length<=4611686018427387904 then if(92::65::32::(p8++([32,58,32]:Str))).length+p5.length<=4611686018427387904 then some (92::65::32::(p8++(32::58::32::p5)))else none else none else none) (cond (bR.kind==9) (Option.bind (qB k p_0 bR) fun ig=>if([92,69,32]:Str).length+ig.length<=4611686018427387904 then if(92::69::32::ig).length+([32,58,32]:Str).length<=4611686018427387904 then if(92::69::32::(ig++([32,58,32]:Str))).length+p5.length<=4611686018427387904 then some (92::69::32::(ig++(32::58::32::p5)))else none else none else none) (cond (bR.kind==10) (if bR.names.length<=1099511627776 then if(Lib.join bR.names ([44,32]:Str)).length<=140737488355328 then if([92,65,32]:Str).length+(Lib.join bR.names ([44,32]:Str)).length<=4611686018427387904 then if(92::65::32::(Lib.join bR.names ([44,32]:Str))).length+([32,58,32]:Str).length<=4611686018427387904 then if(92::65::32::((Lib.join bR.names ([44,32]:Str))++([32,58,32]:Str))).length+p5.length<=4611686018427387904 then some (92::65::32::((Lib.join bR.names ([44,32]:Str))++(32::58::32::p5)))else none else none else none else none else none) (cond (bR.kind==11) (if bR.names.length<=1099511627776 then if(Lib.join bR.names ([44,32]:Str)).length<=140737488355328 then if([92,69,32]:Str).length+(Lib.join bR.names ([44,32]:Str)).length<=4611686018427387904 then if(92::69::32::(Lib.join bR.names ([44,32]:Str))).length+([32,58,32]:Str).length<=4611686018427387904 then if(92::69::32::((Lib.join bR.names ([44,32]:Str))++([32,58,32]:Str))).length+p5.length<=4611686018427387904 then some (92::69::32::((Lib.join bR.names ([44,32]:Str))++(32::58::32::p5)))else none else none else none else none else none) (cond (bR.kind==12) (Option.bind (qB k p_0 bR) fun p32=>if([67,72,79,79,83,69,32]:Str).length+p32.length<=4611686018427387904 then if(67::72::79::79::83::69::32::p32).length+([32,58,32]:Str).length<=4611686018427387904 then if(67::72::79::79::83::69::32::(p32++([32,58,32]:Str))).length+p5.length<=4611686018427387904 then some (67::72::79::79::83::69::32::(p32++(32::58::32::p5)))else none else none else none) (cond (bR.kind==21) (Option.bind (bR.args[0]?) fun x37=>Option.bind (dY k p_0 x37 false) fun p40=>if([73,70,32]:Str).length+p40.length<=4611686018427387904 then if(73::70::32::p40).length+([32,84,72,69,78,32]:Str).length<=4611686018427387904 then Option.bind (bR.args[1]?) fun x43=>Option.bind (dY k p_0 x43 false) fun p46=>if(73::70::32::(p40++([32,84,72,69,78,32]:Str))).length+p46.length<=4611686018427387904 then if(73::70::32::(p40++(32::84::72::69::78::32::p46))).length+([32,69,76,83,69,32]:Str).length<=4611686018427387904 then if(73::70::32::(p40++(32::84::72::69::78::32::(p46++([32,69,76,83,69,32]:Str))))).length+p5.length<=4611686018427387904 then some (73::70::32::(p40++(32::84::72::69::78::32::(p46++(32::69::76::83::69::32::p5)))))else none else none else none else none else none) (cond (bR.kind==22) (Option.bind (JN k p_0 bR) fun p52=>some p52) (cond (bR.kind==23) (Option.bind (Ow k p_0 bR) fun p55=>some p55) (if bR.names.length<=1099511627776 then if(Lib.join bR.names ([44,32]:Str)).length<=140737488355328 then if([76,65,77,66,68,65,32]:Str).length+(Lib.join bR.names ([44,32]:Str)).length<=4611686018427387904 then if(76::65::77::66::68::65::32::(Lib.join bR.names ([44,32]:Str))).length+([32,58,32]:Str).length<=4611686018427387904 then if(76::65::77::66::68::65::32::((Lib.join bR.names ([44,32]:Str))++([32,58,32]:Str))).length+p5.length<=4611686018427387904 then some (76::65::77::66::68::65::32::((Lib.join bR.names ([44,32]:Str))++(32::58::32::p5)))else none else none else none else none else none))))))))else none
def Gw:Nat->Printer->Int->Option Str
  |0,_,_=>none
  |k+1,p_0,bH=>
    if 0<=bH then Option.bind (p_0.e[bH.toNat]?) fun x2=>cond (x2.kind==0) (if -9223372036854775808<=x2.n/\x2.n<=9223372036854775807 then some (Lib.itoa x2.n)else none) (cond (x2.kind==1) (if([34]:Str).length+x2.text.length<=4611686018427387904 then if(34::x2.text).length+([34]:Str).length<=4611686018427387904 then some (34::(x2.text++([34]:Str)))else none else none) (cond (x2.kind==2) (some x2.text) (cond (x2.kind==3) (if x2.text.length+([40]:Str).length<=4611686018427387904 then Option.bind (BA k p_0 x2.args) fun xY=>if(x2.text++([40]:Str)).length+xY.length<=4611686018427387904 then if(x2.text++(40::xY)).length+([41]:Str).length<=4611686018427387904 then some (x2.text++(40::(xY++([41]:Str))))else none else none else none) (cond (x2.kind==4) (Option.bind (BA k p_0 x2.args) fun mR=>if([60,60]:Str).length+mR.length<=4611686018427387904 then if(60::60::mR).length+([62,62]:Str).length<=4611686018427387904 then some (60::60::(mR++([62,62]:Str)))else none else none) (cond (x2.kind==5) (Option.bind (BA k p_0 x2.args) fun jL=>if([123]:Str).length+jL.length<=4611686018427387904 then if(123::jL).length+([125]:Str).length<=4611686018427387904 then some (123::(jL++([125]:Str)))else none else none) (cond (x2.kind==6) (Option.bind (qB k p_0 x2) fun p28=>if([123]:Str).length+p28.length<=4611686018427387904 then if(123::p28).length+([32,58,32]:Str).length<=4611686018427387904 then Option.bind (x2.args[1]?) fun x31=>Option.bind (dY k p_0 x31 false) fun p34=>if(123::(p28++([32,58,32]:Str))).length+p34.length<=4611686018427387904 then if(123::(p28++(32::58::32::p34))).length+([125]:Str).length<=4611686018427387904 then some (123::(p28++(32::58::32::(p34++([125]:Str)))))else none else none else none else none) (cond (x2.kind==7) (if 0<=(IntKind.wrap .i64 ((x2.args.length:Int) -1))then Option.bind (x2.args[(IntKind.wrap .i64 ((x2.args.length:Int) -1)).toNat]?) fun x39=>Option.bind (Fe k p_0 x39) fun p42=>if([123]:Str).length+p42.length<=4611686018427387904 then if(123::p42).length+([32,58,32]:Str).length<=4611686018427387904 then Option.bind (qB k p_0 x2) fun p46=>if(123::(p42++([32,58,32]:Str))).length+p46.length<=4611686018427387904 then if(123::(p42++(32::58::32::p46))).length+([125]:Str).length<=4611686018427387904 then some (123::(p42++(32::58::32::(p46++([125]:Str)))))else none else none else none else none else none) (cond (x2.kind==13) (Option.bind (qB k p_0 x2) fun p51=>if([91]:Str).length+p51.length<=4611686018427387904 then if(91::p51).length+([32,124,45,62,32]:Str).length<=4611686018427387904 then if 0<=(IntKind.wrap .i64 ((x2.args.length:Int) -1))then Option.bind (x2.args[(IntKind.wrap .i64 ((x2.args.length:Int) -1)).toNat]?) fun x55=>Option.bind (dY k p_0 x55 false) fun p58=>if(91::(p51++([32,124,45,62,32]:Str))).length+p58.length<=4611686018427387904 then if(91::(p51++(32::124::45::62::32::p58))).length+([93]:Str).length<=4611686018427387904 then some (91::(p51++(32::124::45::62::32::(p58++([93]:Str)))))else none else none else none else none else none) (cond (x2.kind==14) (Option.bind (x2.args[0]?) fun x62=>Option.bind (CB k p_0 x62) fun p65=>if p65.length+([91]:Str).length<=4611686018427387904 then if 1<=x2.args.length then Option.bind (BA k p_0 (x2.args.drop 1)) fun p69=>if(p65++([91]:Str)).length+p69.length<=4611686018427387904 then if(p65++(91::p69)).length+([93]:Str).length<=4611686018427387904 then some (p65++(91::(p69++([93]:Str))))else none else none else none else none) (cond (x2.kind==15) (Option.bind (x2.args[0]?) fun Yf=>Option.bind (dY k p_0 Yf false) fun p76=>if([91]:Str).length+p76.length<=4611686018427387904 then if(91::p76).length+([32,45,62,32]:Str).length<=4611686018427387904 then Option.bind (x2.args[1]?) fun x79=>Option.bind (dY k p_0 x79 false) fun p82=>if(91::(p76++([32,45,62,32]:Str))).length+p82.length<=4611686018427387904 then if(91::(p76++(32::45::62::32::p82))).length+([93]:Str).length<=4611686018427387904 then some (91::(p76++(32::45::62::32::(p82++([93]:Str)))))else none else none else none else none) (cond (x2.kind==16) (Option.bind (zq k p_0 x2 ([32,124,45,62,32]:Str)) fun Aw=>if([91]:Str).length+Aw.length<=4611686018427387904 then if(91::Aw).length+([93]:Str).length<=4611686018427387904 then some (91::(Aw++([93]:Str)))else none else none) (cond (x2.kind==17) (Option.bind (zq k p_0 x2 ([32,58,32]:Str)) fun Eu=>if([91]:Str).length+Eu.length<=4611686018427387904 then if(91::Eu).length+([93]:Str).length<=4611686018427387904 then some (91::(Eu++([93]:Str)))else none else none) (cond (x2.kind==18) (Option.bind (x2.args[0]?) fun x96=>Option.bind (CB k p_0 x96) fun p99=>if p99.length+([46]:Str).length<=4611686018427387904 then if(p99++([46]:Str)).length+x2.text.length<=4611686018427387904 then some (p99++(46::x2.text))else none else none) (cond (x2.kind==19) (Option.bind (x2.args[0]?) fun x103=>Option.bind (dY k p_0 x103 false) fun Gi=>if([91]:Str).length+Gi.length<=4611686018427387904 then if(91::Gi).length+([32,69,88,67,69,80,84,32,33,91]:Str).length<=4611686018427387904 then Option.bind (x2.args[1]?) fun ai9=>Option.bind (dY k p_0 ai9 false) fun KA=>if(91::(Gi++([32,69,88,67,69,80,84,32,33,91]:Str))).length+KA.length<=4611686018427387904 then if(91::(Gi++(32::69::88::67::69::80::84::32::33::91::KA))).length+([93,32,61,32]:Str).length<=4611686018427387904 then Option.bind (x2.args[2]?) fun x115=>Option.bind (dY k p_0 x115 false) fun IK=>if(91::(Gi++(32::69::88::67::69::80::84::32::33::91::(KA++([93,32,61,32]:Str))))).length+IK.length<=4611686018427387904 then if(91::(Gi++(32::69::88::67::69::80::84::32::33::91::(KA++(93::32::61::32::IK))))).length+([93]:Str).length<=4611686018427387904 then some (91::(Gi++(32::69::88::67::69::80::84::32::33::91::(KA++(93::32::61::32::(IK++([93]:Str)))))))else none else none else none else none else none else none) (cond (x2.kind==20) (some ([64]:Str)) (cond (x2.kind==25) (Option.bind (x2.args[0]?) fun aja=>Option.bind (dY k p_0 aja false) fun abI=>if([91]:Str).length+abI.length<=4611686018427387904 then if(91::abI).length+([93,95]:Str).length<=4611686018427387904 then Option.bind (x2.args[1]?) fun ajb=>Option.bind (nH k p_0 ajb) fun Xf=>if(91::(abI++([93,95]:Str))).length+Xf.length<=4611686018427387904 then some (91::(abI++(93::95::Xf)))else none else none else none) (cond (x2.kind==26) (Option.bind (x2.args[0]?) fun ajc=>Option.bind (dY k p_0 ajc false) fun Mt=>if([60,60]:Str).length+Mt.length<=4611686018427387904 then if(60::60::Mt).length+([62,62,95]:Str).length<=4611686018427387904 then Option.bind (x2.args[1]?) fun ajd=>Option.bind (nH k p_0 ajd) fun Wx=>if(60::60::(Mt++([62,62,95]:Str))).length+Wx.length<=4611686018427387904 then some (60::60::(Mt++(62::62::95::Wx)))else none else none else none) (cond (x2.kind==27) (Option.bind (x2.args[1]?) fun aje=>Option.bind (nH k p_0 aje) fun Xx=>if([87,70,95]:Str).length+Xx.length<=4611686018427387904 then if(87::70::95::Xx).length+([40]:Str).length<=4611686018427387904 then Option.bind (x2.args[0]?) fun x153=>Option.bind (dY k p_0 x153 false) fun Q9=>if(87::70::95::(Xx++([40]:Str))).length+Q9.length<=4611686018427387904 then if(87::70::95::(Xx++(40::Q9))).length+([41]:Str).length<=4611686018427387904 then some (87::70::95::(Xx++(40::(Q9++([41]:Str)))))else none else none else none else none) (cond (x2.kind==28) (Option.bind (x2.args[1]?) fun x160=>Option.bind (nH k p_0 x160) fun Xy=>if([83,70,95]:Str).length+Xy.length<=4611686018427387904 then if(83::70::95::Xy).length+([40]:Str).length<=4611686018427387904 then Option.bind (x2.args[0]?) fun ajf=>Option.bind (dY k p_0 ajf false) fun afm=>if(83::70::95::(Xy++([40]:Str))).length+afm.length<=4611686018427387904 then if(83::70::95::(Xy++(40::afm))).length+([41]:Str).length<=4611686018427387904 then some (83::70::95::(Xy++(40::(afm++([41]:Str)))))else none else none else none else none) (Option.bind (JO k p_0 x2) fun arh=>some arh))))))))))))))))))))else none
def CB:Nat->Printer->Int->Option Str
  |0,_,_=>none
  |k+1,p_0,bH=>
    Option.bind (nC k p_0 bH) fun p2=>cond p2.2 (Option.bind (kC k p_0 bH true true) fun p5=>some p5) (if 0<=bH then Option.bind (p_0.e[bH.toNat]?) fun x7=>Option.bind (kC k p_0 bH (x7.kind==0) true) fun fE=>some fE else none)
def nH:Nat->Printer->Int->Option Str
  |0,_,_=>none
  |k+1,p_0,bH=>
    if 0<=bH then Option.bind (p_0.e[bH.toNat]?) fun x2=>Option.bind (xL k x2.kind x2.n x2.text x2.names x2.args (x2.kind==2)) (fun jW=>cond jW (Option.bind (kC k p_0 bH false false) fun zB=>some zB) (Option.bind (kC k p_0 bH (x2.kind !=4) false) fun lq=>some lq))else none
end
mutual
theorem eB (k:Nat): ∀(p_0:Printer) (bH:Int) (ku:Bool) (r:Str) (h:dY k p_0 bH ku=some r),aG Tryz.prog 59 [(.agg (Printer.cells p_0)),(.int .i64 bH),(.bool ku)] (.str r):=by
  match k with
  |0=>intro p_0 bH ku r h;rw [dY]at h;cases h
  |k+1=>
    intro p_0 bH ku r h;refine aG.aR (bB.mem (.cons (.agg _ (Printer.pu _)) (.cons (.int _ _) (.cons (.bool _) .nil)))) (aI avc (by simp) (aF ?_)) (.str _);rw [dY]at h;unfold aoV;try refine ah ?_
    obtain⟨o7,h8,h⟩:=aj h;refine acT k (AH.empty.next) bH p_0.e ku _ _ _ (Fr.refl _ _) av bE _ h8 _ ?_
    ·rintro p9 σ' eo aaI s13;rw [eo]at h;have s14:σ' 1=(.int .i64 bH):=(aaI 1 (by decide)).trans av;have s15:σ' 2=(.bool ku):=(aaI 2 (by decide)).trans av;have s16:σ' 3=(.ref (AH.empty.next) 0):=(aaI 3 (by decide)).trans av;rcases au h with⟨e17,h⟩|⟨e17,h⟩
     ·obtain⟨kF,e18,h⟩:=aj h;try refine ah ?_
      refine aA ((TJ k p_0 bH _ e18).wk (.same (.same .nil))) ?_;obtain rfl:=ak h;try refine ah ?_
      exact(.pure _ (.str _))
     ·obtain⟨qU,e20,h⟩:=aj h;try refine ah ?_
      refine aA (wV e20) ?_;rcases au h with⟨e22,h⟩|⟨e22,h⟩
      ·obtain⟨lq,e23,h⟩:=aj h;try refine ah ?_
       refine aA ((acU k p_0 bH qU.1 ku _ e23).wk (.same (.same (.same (.same .nil))))) ?_;obtain rfl:=ak h;try refine ah ?_
       exact(.pure _ (.str _))
      ·obtain⟨p26,e25,h⟩:=aj h;try refine ah ?_
       refine aA ((ajg k p_0 bH _ e25).wk (.same (.same .nil))) ?_;obtain rfl:=ak h;try refine ah ?_
       exact(.pure _ (.str _))
theorem TJ (k:Nat): ∀(p_0:Printer) (bH:Int) (r:Str) (h:wZ k p_0 bH=some r),aG Tryz.prog 99 [(.agg (Printer.cells p_0)),(.int .i64 bH)] (.str r):=by
  match k with
  |0=>intro p_0 bH r h;rw [wZ]at h;cases h
  |k+1=>
    intro p_0 bH r h;refine aG.aR (bB.mem (.cons (.agg _ (Printer.pu _)) (.cons (.int _ _) .nil))) (aI avy (by simp) (aF ?_)) (.str _);rw [wZ]at h;unfold apn;obtain⟨p2,e1,h⟩:=aj h;try refine ah ?_
    refine aA ((eB k p_0 bH false _ e1).wk (.same (.same (.same .nil)))) ?_;obtain⟨e3,h⟩:=aD h;try refine ah ?_
    refine aN (aP e3) ?_;obtain⟨e4,h⟩:=aD h;try refine ah ?_
    refine aN (aP e4) ?_;obtain rfl:=ak h;try refine ah ?_
    exact(.pure _ (.str _))
theorem nI (k:Nat): ∀(p_0:Printer) (bH:Int) (JM:Bool) (cZ:Bool) (r:Str) (h:kC k p_0 bH JM cZ=some r),aG Tryz.prog 150 [(.agg (Printer.cells p_0)),(.int .i64 bH),(.bool JM),(.bool cZ)] (.str r):=by
  match k with
  |0=>intro p_0 bH JM cZ r h;rw [kC]at h;cases h
  |k+1=>
    intro p_0 bH JM cZ r h;refine aG.aR (bB.mem (.cons (.agg _ (Printer.pu _)) (.cons (.int _ _) (.cons (.bool _) (.cons (.bool _) .nil))))) (aI asE (by simp) (aF ?_)) (.str _);rw [kC]at h;unfold akQ;rcases au h with⟨e1,h⟩|⟨e1,h⟩
    ·obtain⟨p3,e2,h⟩:=aj h;try refine ah ?_
     refine aA ((TJ k p_0 bH _ e2).wk (.same (.same .nil))) ?_;obtain rfl:=ak h;try refine ah ?_
     exact(.pure _ (.str _))
    ·obtain⟨p5,e4,h⟩:=aj h;try refine ah ?_
     refine aA ((eB k p_0 bH cZ _ e4).wk (.same (.same (.same .nil)))) ?_;obtain rfl:=ak h;try refine ah ?_
     exact(.pure _ (.str _))
theorem JQ (k:Nat): ∀(xM:Nat) (gH:Nat) (cZ:Bool) (vH:List Nd) (fI:Str) (iE:Int) (iy:Int) (gQ:Int) (iA:Bool) (iF:Int) (iG:Int) (qA:List Str) (sO:Int) (Bw:List Int) (Bz:Int) (rF:Int) (pX:Ck) (aC σ:Nat->PV) (H0 H:AH) (f0:Fr Lu aC σ) (hf0:HF [] H0 H) (sl:σ 3=(.bool cZ)/\σ 4=(.ref (xM) 0)/\σ 6=(.ref (gH) 0)/\σ 16=(.aB (qA.map aX) pX)/\σ 17=(.int .i64 sO)/\σ 138=(.aB (Bw.map bI) .unk)/\σ 139=(.int .i64 Bz)/\σ 140=(.int .i64 rF)/\H.obj xM=some [(.aB (vH.map Nd.cells) .unk)]/\H.obj gH=some [(.str fI),(.int .i64 iE),(.int .i64 iy),(.int .i64 gQ),(.bool iA),(.int .i64 iF),(.int .i64 iG)]) (Ox:xM<H.next) (jC:gH<H.next) (yX:xM≠gH) (Yr:d9 H pX) (o:List Str) (h:jG k cZ vH fI iE iy gQ iA iF iG qA sO Bw Bz rF=some o) (Q:Post) (q0: ∀(p:List Str) (c0:Ck) (σ':Nat->PV) (H':AH),o=p->Fr Lu aC σ'->HF [] H0 H'->(σ' 16=(.aB (p.map aX) c0))->Q (.exit 2) σ' H'),W Tryz.prog (.loop Qn) Q σ H:=by
  match k with
  |0=>intro xM gH cZ vH fI iE iy gQ iA iF iG qA sO Bw Bz rF pX aC σ H0 H f0 hf0 sl Ox jC yX Yr o h Q q0;rw [jG]at h;cases h
  |k+1=>
    have ih:=JQ k;intro xM gH cZ vH fI iE iy gQ iA iF iG qA sO Bw Bz rF pX aC σ H0 H f0 hf0 sl Ox jC yX Yr o h Q q0;obtain⟨s3,s4,s6,s16,s17,aqU,aqV,aAm,axi,Ot⟩:=sl;have axj:=ne_next Ox;have axk:=aU Ox;have Ou:=ne_next jC;have Ov:=aU jC;have anq:=eq_false yX;have anr:=eq_false (Ne.symm yX);have hle0:=hf0.1;rw [jG]at h;refine bA (fun K hK=>aF ?_);unfold Qn;rcases au h with⟨Jo,h⟩|⟨Jo,h⟩
    ·obtain⟨Pg,h⟩:=aD h;obtain⟨x75,Hq,h⟩:=aj h;obtain⟨Dz,Ht,h⟩:=aj h;try refine ah ?_
     refine aA (wV Ht) ?_;try refine ah ?_
     obtain⟨o83,h84,h⟩:=aj h;refine Xv (gH) (H.next) fI iE iy gQ iA iF iG rF Dz.1.text Dz.1.fix Dz.1.low Dz.1.high Dz.1.left Dz.1.least Dz.1.most Dz.2 _ _ _ (Fr.refl _ _) av bE bE bE _ h84 _ ?_
     ·rintro p85 σ' eo Ep s89;rw [eo]at h;have s90:σ' 3=(.bool cZ):=(Ep 3 (by decide)).trans av;have s91:σ' 4=(.ref (xM) 0):=(Ep 4 (by decide)).trans av;have s92:σ' 6=(.ref (gH) 0):=(Ep 6 (by decide)).trans av;have s93:σ' 16=(.aB (qA.map aX) pX):=(Ep 16 (by decide)).trans av;have s94:σ' 17=(.int .i64 sO):=(Ep 17 (by decide)).trans av;have s95:σ' 18=(.int .i64 rF):=(Ep 18 (by decide)).trans av;have s96:σ' 19=(.int .i64 x75):=(Ep 19 (by decide)).trans av;have s97:σ' 138=(.aB (Bw.map bI) .unk):=(Ep 138 (by decide)).trans av;have s98:σ' 139=(.int .i64 Bz):=(Ep 139 (by decide)).trans av;have s99:σ' 140=(.int .i64 rF):=(Ep 140 (by decide)).trans av;rcases au h with⟨e100,h⟩|⟨e100,h⟩
      ·obtain⟨Rm,D9,h⟩:=aj h;try refine ah ?_
       refine aA ((nI k (Printer.mk vH) x75 p85 true _ D9).wk (.same (.same (.same (.same .nil))))) ?_;obtain⟨Eo,h⟩:=aD h;try refine ah ?_
       refine jV (f:=aX) uR qA ([Rm]:List Str) pX .exact av av eO (by first|exact Eo|(simp only [List.length_cons,List.length_nil];exact Eo)) (fun awo Ru akl le atf azh=> ?_);have Zn:HF [] _ Ru:=⟨le,fun i _ _=>atf i⟩;try simp only [AH.aJ,AH.aK,AH.aL,AH.aM]at le
       have n119:=ne_next (show xM<Ru.next by first|omega|(simp only [AH.aJ,AH.aK,AH.aL,AH.aM];omega));have aAn:=aU (show xM<Ru.next by first|omega|(simp only [AH.aJ,AH.aK,AH.aL,AH.aM];omega));have n121:=ne_next (show gH<Ru.next by first|omega|(simp only [AH.aJ,AH.aK,AH.aL,AH.aM];omega));have aAo:=aU (show gH<Ru.next by first|omega|(simp only [AH.aJ,AH.aK,AH.aL,AH.aM];omega));have n123:=ne_next (show H.next<Ru.next by first|omega|(simp only [AH.aJ,AH.aK,AH.aL,AH.aM];omega));have aAp:=aU (show H.next<Ru.next by first|omega|(simp only [AH.aJ,AH.aK,AH.aL,AH.aM];omega));try refine ah ?_
       refine hK _ _ ?_;exact ih xM gH cZ vH fI iE iy gQ iA iF iG (qA++[Rm]) sO Bw Bz (IntKind.wrap .i64 (rF+1)) awo _ _ _ _ (by repeat (first|exact f0|refine Fr.upd (by decide) ?_|refine Fr.via Ep (by decide) ?_)) (by repeat (first|exact hf0|refine HF.new ?_|refine HF.dR ?_|refine HF.used ?_|refine HF.put (by first|(right;omega)|(left;simp only [List.mem_cons,true_or,or_true])) ?_|refine HF.via Zn (by first|exact fun i hi=>absurd hi List.not_mem_nil|(intro i hi;simp only [List.mem_cons,List.not_mem_nil,or_false]at hi⊢;first|exact .inl hi|omega)) ?_)) av bE bE bE eO _ h _ q0
      ·obtain⟨KH,IL,h⟩:=aj h;try refine ah ?_
       refine aA ((nI k (Printer.mk vH) x75 p85 cZ _ IL).wk (.same (.same (.same (.same .nil))))) ?_;obtain⟨e116,h⟩:=aD h;try refine ah ?_
       refine jV (f:=aX) uR qA ([KH]:List Str) pX .exact av av eO (by first|exact e116|(simp only [List.length_cons,List.length_nil];exact e116)) (fun awp Rv akv le atg azi=> ?_);have ath:HF [] _ Rv:=⟨le,fun i _ _=>atg i⟩;try simp only [AH.aJ,AH.aK,AH.aL,AH.aM]at le
       have n125:=ne_next (show xM<Rv.next by first|omega|(simp only [AH.aJ,AH.aK,AH.aL,AH.aM];omega));have aAq:=aU (show xM<Rv.next by first|omega|(simp only [AH.aJ,AH.aK,AH.aL,AH.aM];omega));have n127:=ne_next (show gH<Rv.next by first|omega|(simp only [AH.aJ,AH.aK,AH.aL,AH.aM];omega));have aAr:=aU (show gH<Rv.next by first|omega|(simp only [AH.aJ,AH.aK,AH.aL,AH.aM];omega));have n129:=ne_next (show H.next<Rv.next by first|omega|(simp only [AH.aJ,AH.aK,AH.aL,AH.aM];omega));have aAs:=aU (show H.next<Rv.next by first|omega|(simp only [AH.aJ,AH.aK,AH.aL,AH.aM];omega));try refine ah ?_
       refine hK _ _ ?_;exact ih xM gH cZ vH fI iE iy gQ iA iF iG (qA++[KH]) sO Bw Bz (IntKind.wrap .i64 (rF+1)) awp _ _ _ _ (by repeat (first|exact f0|refine Fr.upd (by decide) ?_|refine Fr.via Ep (by decide) ?_)) (by repeat (first|exact hf0|refine HF.new ?_|refine HF.dR ?_|refine HF.used ?_|refine HF.put (by first|(right;omega)|(left;simp only [List.mem_cons,true_or,or_true])) ?_|refine HF.via ath (by first|exact fun i hi=>absurd hi List.not_mem_nil|(intro i hi;simp only [List.mem_cons,List.not_mem_nil,or_false]at hi⊢;first|exact .inl hi|omega)) ?_)) av bE bE bE eO _ h _ q0
    ·obtain rfl:=ak h;try refine ah ?_
     exact q0 _ pX _ _ rfl aO (by repeat (first|exact hf0|refine HF.new ?_|refine HF.dR ?_|refine HF.used ?_|refine HF.put (by first|(right;omega)|(left;simp only [List.mem_cons,true_or,or_true])) ?_)) av
theorem acU (k:Nat): ∀(p_0:Printer) (bH:Int) (fJ:Operator) (cZ:Bool) (r:Str) (h:zN k p_0 bH fJ cZ=some r),aG Tryz.prog 101 [(.agg (Printer.cells p_0)),(.int .i64 bH),(.agg (Operator.cells fJ)),(.bool cZ)] (.str r):=by
  match k with
  |0=>intro p_0 bH fJ cZ r h;rw [zN]at h;cases h
  |k+1=>
    intro p_0 bH fJ cZ r h;refine aG.aR (bB.mem (.cons (.agg _ (Printer.pu _)) (.cons (.int _ _) (.cons (.agg _ (Operator.pu _)) (.cons (.bool _) .nil))))) (aI ar6 (by simp) (aF ?_)) (.str _);rw [zN]at h;unfold akg;obtain⟨e1,h⟩:=aD h;obtain⟨x2,e3,h⟩:=aj h;rcases au h with⟨e4,h⟩|⟨e4,h⟩
    ·try refine ah ?_
     refine Uz (AH.empty.next+3) ?_;obtain⟨x5,e6,h⟩:=aj h;obtain⟨p8,e7,h⟩:=aj h;try refine ah ?_
     refine PC.mk (wV e7) ?_;try refine ah ?_
     refine bO ?_;rcases au h with⟨e9,h⟩|⟨e9,h⟩
     ·obtain⟨pI,e10,h⟩:=aj h;try refine ah ?_
      refine PC.mk ((nI k p_0 x5 (!(p8.1.text==fJ.text)) true _ e10).wk (.same (.same (.same (.same .nil))))) ?_;obtain⟨e12,h⟩:=aD h;try refine ah ?_
      refine aN (aP e12) ?_;obtain rfl:=ak h;try refine ah ?_
      exact(.pure _ (.str _))
     ·obtain⟨ig,e13,h⟩:=aj h;try refine ah ?_
      refine PC.mk ((nI k p_0 x5 false true _ e13).wk (.same (.same (.same (.same .nil))))) ?_;obtain⟨e15,h⟩:=aD h;try refine ah ?_
      refine aN (aP e15) ?_;obtain rfl:=ak h;try refine ah ?_
      exact(.pure _ (.str _))
    ·rcases au h with⟨e16,h⟩|⟨e16,h⟩
     ·try refine ah ?_
      refine Uz (AH.empty.next+3) ?_;obtain⟨BR,e18,h⟩:=aj h;obtain⟨lu,e19,h⟩:=aj h;try refine ah ?_
      refine PC.mk (wV e19) ?_;try refine ah ?_
      obtain⟨o32,h33,h⟩:=aj h;refine Xr (AH.empty.next+1) (AH.empty.next+3) fJ.text fJ.fix fJ.low fJ.high fJ.left fJ.least fJ.most lu.1.text lu.1.fix lu.1.low lu.1.high lu.1.left lu.1.least lu.1.most lu.2 _ _ _ (Fr.refl _ _) av bE bE bE _ h33 _ ?_
      ·rintro p34 σ' eo CF s38;rw [eo]at h;have s39:σ' 3=(.bool cZ):=(CF 3 (by decide)).trans av;have s40:σ' 4=(.ref (AH.empty.next) 0):=(CF 4 (by decide)).trans av;have s41:σ' 6=(.ref (AH.empty.next+1) 0):=(CF 6 (by decide)).trans av;have s42:σ' 9=(.ref (AH.empty.next+2) 0):=(CF 9 (by decide)).trans av;try refine ah ?_
       obtain⟨o59,h60,h⟩:=aj h;refine Xu (AH.empty.next+1) fJ.text fJ.fix fJ.low fJ.high fJ.left fJ.least fJ.most fJ.text _ _ _ (Fr.refl _ _) av bE _ h60 _ ?_
       ·rintro p61 σ' eo afn s65;rw [eo]at h;have s66:σ' 3=(.bool cZ):=(afn 3 (by decide)).trans av;have s67:σ' 4=(.ref (AH.empty.next) 0):=(afn 4 (by decide)).trans av;have s68:σ' 9=(.ref (AH.empty.next+2) 0):=(afn 9 (by decide)).trans av;have s69:σ' 14=(.bool p34):=(afn 14 (by decide)).trans av;try refine ah ?_
        refine bO ?_;obtain⟨p71,La,h⟩:=aj h;try refine ah ?_
        refine PC.mk ((nI k p_0 BR p34 cZ _ La).wk (.same (.same (.same (.same .nil))))) ?_;obtain⟨MU,h⟩:=aD h;try refine ah ?_
        refine aN (aP MU) ?_;obtain rfl:=ak h;try refine ah ?_
        exact(.pure _ (.str _))
     ·try refine ah ?_
      obtain⟨aAt,awq,h⟩:=aj h;refine JQ k (AH.empty.next) (AH.empty.next+1) cZ p_0.e fJ.text fJ.fix fJ.low fJ.high fJ.left fJ.least fJ.most ([]:List Str) (IntKind.wrap .i64 ((x2.args.length:Int) -1)) x2.args (x2.args.length:Int) 0 .nil _ _ _ _ (Fr.refl _ _) (HF.refl _ _) av bE bE bE eO _ awq _ ?_
      ·rintro abG aAu σ' ajh eo ati alI aqU;rw [eo]at h;have aqV:σ' 6=(.ref (AH.empty.next+1) 0):=(ati 6 (by decide)).trans av;have le:=alI.1;try simp only [AH.aJ,AH.aK,AH.aL,AH.aM]at le
       have aAv:ajh.obj (AH.empty.next+1)=some [(.str fJ.text),(.int .i64 fJ.fix),(.int .i64 fJ.low),(.int .i64 fJ.high),(.bool fJ.left),(.int .i64 fJ.least),(.int .i64 fJ.most)]:=(alI.2 _ bE (by first|exact List.not_mem_nil|(simp only [List.mem_cons,List.not_mem_nil,or_false,not_or];omega))).trans av;have n141:=ne_next (show AH.empty.next+1<ajh.next by first|omega|(simp only [AH.aJ,AH.aK,AH.aL,AH.aM];omega));have aAw:=aU (show AH.empty.next+1<ajh.next by first|omega|(simp only [AH.aJ,AH.aK,AH.aL,AH.aM];omega));obtain⟨e143,h⟩:=aD h;try refine ah ?_
       refine aN (aP e143) ?_;obtain⟨aiU,h⟩:=aD h;try refine ah ?_
       refine aN (aP aiU) ?_;obtain⟨aji,h⟩:=aD h;obtain⟨Xh,h⟩:=aD h;try refine ah ?_
       refine aA (yE abG (32::(fJ.text++([32]:Str))) (by assumption) (by assumption)) ?_;obtain rfl:=ak h;try refine ah ?_
       exact(.pure _ (.str _))
theorem PK (k:Nat): ∀(je:Nat) (iH:List Nd) (dh:List Str) (eY:List Int) (pR:Int) (iO:Int) (fC:Ck) (aC σ:Nat->PV) (H0 H:AH) (f0:Fr TI aC σ) (hf0:HF [] H0 H) (sl:σ 2=(.ref (je) 0)/\σ 5=(.aB (dh.map aX) fC)/\σ 8=(.aB (eY.map bI) .unk)/\σ 9=(.int .i64 pR)/\σ 10=(.int .i64 iO)/\H.obj je=some [(.aB (iH.map Nd.cells) .unk)]) (oh:je<H.next) (l5:d9 H fC) (o:List Str) (h:rG k iH dh eY pR iO=some o) (Q:Post) (q0: ∀(p:List Str) (c0:Ck) (σ':Nat->PV) (H':AH),o=p->Fr TI aC σ'->HF [] H0 H'->(σ' 5=(.aB (p.map aX) c0))->Q (.exit 0) σ' H'),W Tryz.prog (.loop QH) Q σ H:=by
  match k with
  |0=>intro je iH dh eY pR iO fC aC σ H0 H f0 hf0 sl oh l5 o h Q q0;rw [rG]at h;cases h
  |k+1=>
    have ih:=PK k;intro je iH dh eY pR iO fC aC σ H0 H f0 hf0 sl oh l5 o h Q q0;obtain⟨s2,s5,s8,s9,s10,adY⟩:=sl;have adZ:=ne_next oh;have ad2:=aU oh;have hle0:=hf0.1;rw [rG]at h;refine bA (fun K hK=>aF ?_);unfold QH;rcases au h with⟨e1,h⟩|⟨e1,h⟩
    ·obtain⟨e2,h⟩:=aD h;obtain⟨x3,e4,h⟩:=aj h;obtain⟨p6,e5,h⟩:=aj h;try refine ah ?_
     refine aA ((eB k (Printer.mk iH) x3 false _ e5).wk (.same (.same (.same .nil)))) ?_;obtain⟨e11,h⟩:=aD h;try refine ah ?_
     refine jV (f:=aX) uR dh ([p6]:List Str) fC .exact av av eO (by first|exact e11|(simp only [List.length_cons,List.length_nil];exact e11)) (fun c7 H8 ok9 le awr aAx=> ?_);have awt:HF [] _ H8:=⟨le,fun i _ _=>awr i⟩;try simp only [AH.aJ,AH.aK,AH.aL,AH.aM]at le
     have n14:=ne_next (show je<H8.next by first|omega|(simp only [AH.aJ,AH.aK,AH.aL,AH.aM];omega));have m15:=aU (show je<H8.next by first|omega|(simp only [AH.aJ,AH.aK,AH.aL,AH.aM];omega));try refine ah ?_
     refine hK _ _ ?_;exact ih je iH (dh++[p6]) eY pR (IntKind.wrap .i64 (iO+1)) c7 _ _ _ _ aO (by repeat (first|exact hf0|refine HF.new ?_|refine HF.dR ?_|refine HF.used ?_|refine HF.put (by first|(right;omega)|(left;simp only [List.mem_cons,true_or,or_true])) ?_|refine HF.via awt (by first|exact fun i hi=>absurd hi List.not_mem_nil|(intro i hi;simp only [List.mem_cons,List.not_mem_nil,or_false]at hi⊢;first|exact .inl hi|omega)) ?_)) av bE eO _ h _ q0
    ·obtain rfl:=ak h;try refine ah ?_
     exact q0 _ fC _ _ rfl aO (by repeat (first|exact hf0|refine HF.new ?_|refine HF.dR ?_|refine HF.used ?_|refine HF.put (by first|(right;omega)|(left;simp only [List.mem_cons,true_or,or_true])) ?_)) av
theorem KP (k:Nat): ∀(p_0:Printer) (l_1:List Int) (r:Str) (h:BA k p_0 l_1=some r),aG Tryz.prog 153 [(.agg (Printer.cells p_0)),(.aB (l_1.map bI) .unk)] (.str r):=by
  match k with
  |0=>intro p_0 l_1 r h;rw [BA]at h;cases h
  |k+1=>
    intro p_0 l_1 r h;refine aG.aR (bB.mem (.cons (.agg _ (Printer.pu _)) (.cons (bC jg _) .nil))) (aI asF (by simp) (aF ?_)) (.str _);rw [BA]at h;unfold akR;try refine ah ?_
    obtain⟨o16,h17,h⟩:=aj h;refine PK k (AH.empty.next) p_0.e ([]:List Str) l_1 (l_1.length:Int) 0 .nil _ _ _ _ (Fr.refl _ _) (HF.refl _ _) av bE eO _ h17 _ ?_
    ·rintro mR c22 σ' H21 eo aaj awu Z8;rw [eo]at h;have le:=awu.1;try simp only [AH.aJ,AH.aK,AH.aL,AH.aM]at le
     obtain⟨e24,h⟩:=aD h;obtain⟨e25,h⟩:=aD h;try refine ah ?_
     refine aA (yE mR ([44,32]:Str) (by assumption) (by assumption)) ?_;obtain rfl:=ak h;try refine ah ?_
     exact(.pure _ (.str _))
theorem LA (k:Nat): ∀(je:Nat) (eG:Nat) (iH:List Nd) (fQ:Int) (fT:Int) (fB:Str) (fK:List Str) (eT:List Int) (dh:List Str) (pR:List Str) (iO:Int) (bJ:Int) (fC:Ck) (aC σ:Nat->PV) (H0 H:AH) (f0:Fr Nv aC σ) (hf0:HF [] H0 H) (sl:σ 2=(.ref (je) 0)/\σ 3=(.ref (eG) 0)/\σ 5=(.aB (dh.map aX) fC)/\σ 9=(.aB (pR.map aX) .unk)/\σ 10=(.int .i64 iO)/\σ 11=(.int .i64 bJ)/\H.obj je=some [(.aB (iH.map Nd.cells) .unk)]/\H.obj eG=some [(.int .i64 fQ),(.int .i64 fT),(.str fB),(.aB (fK.map aX) .unk),(.aB (eT.map bI) .unk)]) (oh:je<H.next) (iL:eG<H.next) (kV:je≠eG) (l5:d9 H fC) (o:List Str) (h:nD k iH fQ fT fB fK eT dh pR iO bJ=some o) (Q:Post) (q0: ∀(p:List Str) (c0:Ck) (σ':Nat->PV) (H':AH),o=p->Fr Nv aC σ'->HF [] H0 H'->(σ' 5=(.aB (p.map aX) c0))->Q (.exit 0) σ' H'),W Tryz.prog (.loop QI) Q σ H:=by
  match k with
  |0=>intro je eG iH fQ fT fB fK eT dh pR iO bJ fC aC σ H0 H f0 hf0 sl oh iL kV l5 o h Q q0;rw [nD]at h;cases h
  |k+1=>
    have ih:=LA k;intro je eG iH fQ fT fB fK eT dh pR iO bJ fC aC σ H0 H f0 hf0 sl oh iL kV l5 o h Q q0;obtain⟨s2,s3,s5,s9,s10,s11,adY,Oy⟩:=sl;have adZ:=ne_next oh;have ad2:=aU oh;have Oz:=ne_next iL;have OA:=aU iL;have Y9:=eq_false kV;have Za:=eq_false (Ne.symm kV);have hle0:=hf0.1;rw [nD]at h;refine bA (fun K hK=>aF ?_);unfold QI;rcases au h with⟨e1,h⟩|⟨e1,h⟩
    ·obtain⟨e2,h⟩:=aD h;obtain⟨x3,e4,h⟩:=aj h;try refine ah ?_
     refine bO ?_;obtain⟨e5,h⟩:=aD h;try refine ah ?_
     refine bf (aP e5) ?_;obtain⟨x6,e7,h⟩:=aj h;obtain⟨p9,e8,h⟩:=aj h;try refine ah ?_
     refine PC.mk ((eB k (Printer.mk iH) x6 false _ e8).wk (.same (.same (.same .nil)))) ?_;obtain⟨e10,h⟩:=aD h;try refine ah ?_
     refine bf (aP e10) ?_;obtain⟨e15,h⟩:=aD h;try refine ah ?_
     refine jV (f:=aX) uR dh ([(x3++(32::92::105::110::32::p9))]:List Str) fC .exact av av eO (by first|exact e15|(simp only [List.length_cons,List.length_nil];exact e15)) (fun c11 Nz aij le ajj awv=> ?_);have ajk:HF [] _ Nz:=⟨le,fun i _ _=>ajj i⟩;try simp only [AH.aJ,AH.aK,AH.aL,AH.aM]at le
     have n18:=ne_next (show je<Nz.next by first|omega|(simp only [AH.aJ,AH.aK,AH.aL,AH.aM];omega));have m19:=aU (show je<Nz.next by first|omega|(simp only [AH.aJ,AH.aK,AH.aL,AH.aM];omega));have n20:=ne_next (show eG<Nz.next by first|omega|(simp only [AH.aJ,AH.aK,AH.aL,AH.aM];omega));have m21:=aU (show eG<Nz.next by first|omega|(simp only [AH.aJ,AH.aK,AH.aL,AH.aM];omega));try refine ah ?_
     refine hK _ _ ?_;exact ih je eG iH fQ fT fB fK eT (dh++[(x3++(32::92::105::110::32::p9))]) pR iO (IntKind.wrap .i64 (bJ+1)) c11 _ _ _ _ aO (by repeat (first|exact hf0|refine HF.new ?_|refine HF.dR ?_|refine HF.used ?_|refine HF.put (by first|(right;omega)|(left;simp only [List.mem_cons,true_or,or_true])) ?_|refine HF.via ajk (by first|exact fun i hi=>absurd hi List.not_mem_nil|(intro i hi;simp only [List.mem_cons,List.not_mem_nil,or_false]at hi⊢;first|exact .inl hi|omega)) ?_)) av bE bE bE eO _ h _ q0
    ·obtain rfl:=ak h;try refine ah ?_
     exact q0 _ fC _ _ rfl aO (by repeat (first|exact hf0|refine HF.new ?_|refine HF.dR ?_|refine HF.used ?_|refine HF.put (by first|(right;omega)|(left;simp only [List.mem_cons,true_or,or_true])) ?_)) av
theorem xO (k:Nat): ∀(p_0:Printer) (bR:Nd) (r:Str) (h:qB k p_0 bR=some r),aG Tryz.prog 154 [(.agg (Printer.cells p_0)),(.agg (Nd.cells bR))] (.str r):=by
  match k with
  |0=>intro p_0 bR r h;rw [qB]at h;cases h
  |k+1=>
    intro p_0 bR r h;refine aG.aR (bB.mem (.cons (.agg _ (Printer.pu _)) (.cons (.agg _ (Nd.pu _)) .nil))) (aI asG (by simp) (aF ?_)) (.str _);rw [qB]at h;unfold akS;try refine ah ?_
    obtain⟨o22,h23,h⟩:=aj h;refine LA k (AH.empty.next) (AH.empty.next+1) p_0.e bR.kind bR.n bR.text bR.names bR.args ([]:List Str) bR.names (bR.names.length:Int) 0 .nil _ _ _ _ (Fr.refl _ _) (HF.refl _ _) av bE bE bE eO _ h23 _ ?_
    ·rintro lq c28 σ' X7 eo Ra ME s29;rw [eo]at h;have le:=ME.1;try simp only [AH.aJ,AH.aK,AH.aL,AH.aM]at le
     obtain⟨e30,h⟩:=aD h;obtain⟨e31,h⟩:=aD h;try refine ah ?_
     refine aA (yE lq ([44,32]:Str) (by assumption) (by assumption)) ?_;obtain rfl:=ak h;try refine ah ?_
     exact(.pure _ (.str _))
theorem aha (k:Nat): ∀(p_0:Printer) (bH:Int) (r:Str) (h:Fe k p_0 bH=some r),aG Tryz.prog 155 [(.agg (Printer.cells p_0)),(.int .i64 bH)] (.str r):=by
  match k with
  |0=>intro p_0 bH r h;rw [Fe]at h;cases h
  |k+1=>
    intro p_0 bH r h;refine aG.aR (bB.mem (.cons (.agg _ (Printer.pu _)) (.cons (.int _ _) .nil))) (aI asH (by simp) (aF ?_)) (.str _);rw [Fe]at h;unfold akT;obtain⟨p2,e1,h⟩:=aj h;try refine ah ?_
    refine aA ((eB k p_0 bH false _ e1).wk (.same (.same (.same .nil)))) ?_;try refine ah ?_
    refine aI ak8 (by simp) (aF ?_);unfold aeJ;try refine ah ?_
    refine aI alc (by simp) (aF ?_);unfold aeK;obtain⟨p6,e5,h⟩:=aj h;try refine ah ?_
    refine aA (agG p2 ([32]:Str) e5) ?_;rcases au h with⟨e7,h⟩|⟨e7,h⟩
    ·try refine ah ?_
     refine bO ?_;obtain⟨e8,h⟩:=aD h;obtain⟨e9,h⟩:=aD h;obtain⟨pI,e10,h⟩:=aj h;try refine ah ?_
     refine aA (q8 e10) ?_;try refine ah ?_
     obtain⟨o21,h22,h⟩:=aj h;refine abD (p2.take p6.toNat) (p2.drop (IntKind.wrap .i64 (p6+1)).toNat) pI _ _ _ (Fr.refl _ _) av _ h22 _ ?_
     ·rintro jL σ' eo M4 X9;rw [eo]at h;have s28:σ' 5=(.str p2):=(M4 5 (by decide)).trans av;rcases au h with⟨e29,h⟩|⟨e29,h⟩
      ·obtain⟨e30,h⟩:=aD h;try refine ah ?_
       refine aN (aP e30) ?_;obtain⟨e31,h⟩:=aD h;try refine ah ?_
       refine aN (aP e31) ?_;obtain rfl:=ak h;try refine ah ?_
       exact(.pure _ (.str _))
      ·obtain rfl:=ak h;try refine ah ?_
       exact(.pure _ (.str _))
    ·obtain⟨p33,e32,h⟩:=aj h;try refine ah ?_
     refine aA (q8 e32) ?_;try refine ah ?_
     obtain⟨o43,h44,h⟩:=aj h;refine Xw p2 p33 _ _ _ (Fr.refl _ _) av _ h44 _ ?_
     ·rintro p45 σ' eo ais s49;rw [eo]at h;have s50:σ' 5=(.str p2):=(ais 5 (by decide)).trans av;rcases au h with⟨e51,h⟩|⟨e51,h⟩
      ·obtain⟨e52,h⟩:=aD h;try refine ah ?_
       refine aN (aP e52) ?_;obtain⟨e53,h⟩:=aD h;try refine ah ?_
       refine aN (aP e53) ?_;obtain rfl:=ak h;try refine ah ?_
       exact(.pure _ (.str _))
      ·obtain rfl:=ak h;try refine ah ?_
       exact(.pure _ (.str _))
theorem LB (k:Nat): ∀(vG:Nat) (EO:Nat) (lI:Str) (uh:List Nd) (KJ:Int) (KM:Int) (KN:Str) (KO:List Str) (Ig:List Int) (ni:List Str) (bJ:List Str) (mo:Int) (gy:Int) (jN:Ck) (aC σ:Nat->PV) (H0 H:AH) (f0:Fr Ny aC σ) (hf0:HF [] H0 H) (sl:σ 2=(.str lI)/\σ 3=(.ref (vG) 0)/\σ 4=(.ref (EO) 0)/\σ 7=(.aB (ni.map aX) jN)/\σ 11=(.aB (bJ.map aX) .unk)/\σ 12=(.int .i64 mo)/\σ 13=(.int .i64 gy)/\H.obj vG=some [(.aB (uh.map Nd.cells) .unk)]/\H.obj EO=some [(.int .i64 KJ),(.int .i64 KM),(.str KN),(.aB (KO.map aX) .unk),(.aB (Ig.map bI) .unk)]) (zL:vG<H.next) (OB:EO<H.next) (yY:vG≠EO) (F8:d9 H jN) (o:List Str) (h:nE k lI uh KJ KM KN KO Ig ni bJ mo gy=some o) (Q:Post) (q0: ∀(p:List Str) (c0:Ck) (σ':Nat->PV) (H':AH),o=p->Fr Ny aC σ'->HF [] H0 H'->(σ' 7=(.aB (p.map aX) c0))->Q (.exit 0) σ' H'),W Tryz.prog (.loop QJ) Q σ H:=by
  match k with
  |0=>intro vG EO lI uh KJ KM KN KO Ig ni bJ mo gy jN aC σ H0 H f0 hf0 sl zL OB yY F8 o h Q q0;rw [nE]at h;cases h
  |k+1=>
    have ih:=LB k;intro vG EO lI uh KJ KM KN KO Ig ni bJ mo gy jN aC σ H0 H f0 hf0 sl zL OB yY F8 o h Q q0;obtain⟨s2,s3,s4,s7,s11,s12,s13,am3,axl⟩:=sl;have am4:=ne_next zL;have am5:=aU zL;have axn:=ne_next OB;have axo:=aU OB;have ant:=eq_false yY;have anu:=eq_false (Ne.symm yY);have hle0:=hf0.1;rw [nE]at h;refine bA (fun K hK=>aF ?_);unfold QJ;rcases au h with⟨e1,h⟩|⟨e1,h⟩
    ·obtain⟨e2,h⟩:=aD h;obtain⟨x3,e4,h⟩:=aj h;try refine ah ?_
     refine bO ?_;obtain⟨e5,h⟩:=aD h;try refine ah ?_
     refine bf (aP e5) ?_;obtain⟨x6,e7,h⟩:=aj h;obtain⟨p9,e8,h⟩:=aj h;try refine ah ?_
     refine PC.mk ((eB k (Printer.mk uh) x6 false _ e8).wk (.same (.same (.same .nil)))) ?_;obtain⟨e10,h⟩:=aD h;try refine ah ?_
     refine bf (aP e10) ?_;obtain⟨e15,h⟩:=aD h;try refine ah ?_
     refine jV (f:=aX) uR ni ([(x3++(lI++p9))]:List Str) jN .exact av av eO (by first|exact e15|(simp only [List.length_cons,List.length_nil];exact e15)) (fun c11 Nz aij le ajj awv=> ?_);have ajk:HF [] _ Nz:=⟨le,fun i _ _=>ajj i⟩;try simp only [AH.aJ,AH.aK,AH.aL,AH.aM]at le
     have n18:=ne_next (show vG<Nz.next by first|omega|(simp only [AH.aJ,AH.aK,AH.aL,AH.aM];omega));have m19:=aU (show vG<Nz.next by first|omega|(simp only [AH.aJ,AH.aK,AH.aL,AH.aM];omega));have n20:=ne_next (show EO<Nz.next by first|omega|(simp only [AH.aJ,AH.aK,AH.aL,AH.aM];omega));have m21:=aU (show EO<Nz.next by first|omega|(simp only [AH.aJ,AH.aK,AH.aL,AH.aM];omega));try refine ah ?_
     refine hK _ _ ?_;exact ih vG EO lI uh KJ KM KN KO Ig (ni++[(x3++(lI++p9))]) bJ mo (IntKind.wrap .i64 (gy+1)) c11 _ _ _ _ aO (by repeat (first|exact hf0|refine HF.new ?_|refine HF.dR ?_|refine HF.used ?_|refine HF.put (by first|(right;omega)|(left;simp only [List.mem_cons,true_or,or_true])) ?_|refine HF.via ajk (by first|exact fun i hi=>absurd hi List.not_mem_nil|(intro i hi;simp only [List.mem_cons,List.not_mem_nil,or_false]at hi⊢;first|exact .inl hi|omega)) ?_)) av bE bE bE eO _ h _ q0
    ·obtain rfl:=ak h;try refine ah ?_
     exact q0 _ jN _ _ rfl aO (by repeat (first|exact hf0|refine HF.new ?_|refine HF.dR ?_|refine HF.used ?_|refine HF.put (by first|(right;omega)|(left;simp only [List.mem_cons,true_or,or_true])) ?_)) av
theorem TK (k:Nat): ∀(p_0:Printer) (bR:Nd) (lI:Str) (r:Str) (h:zq k p_0 bR lI=some r),aG Tryz.prog 157 [(.agg (Printer.cells p_0)),(.agg (Nd.cells bR)),(.str lI)] (.str r):=by
  match k with
  |0=>intro p_0 bR lI r h;rw [zq]at h;cases h
  |k+1=>
    intro p_0 bR lI r h;refine aG.aR (bB.mem (.cons (.agg _ (Printer.pu _)) (.cons (.agg _ (Nd.pu _)) (.cons (.str _) .nil)))) (aI asJ (by simp) (aF ?_)) (.str _);rw [zq]at h;unfold akV;try refine ah ?_
    obtain⟨o22,h23,h⟩:=aj h;refine LB k (AH.empty.next) (AH.empty.next+1) lI p_0.e bR.kind bR.n bR.text bR.names bR.args ([]:List Str) bR.names (bR.names.length:Int) 0 .nil _ _ _ _ (Fr.refl _ _) (HF.refl _ _) av bE bE bE eO _ h23 _ ?_
    ·rintro lq c28 σ' X7 eo Ra ME s29;rw [eo]at h;have le:=ME.1;try simp only [AH.aJ,AH.aK,AH.aL,AH.aM]at le
     obtain⟨e30,h⟩:=aD h;obtain⟨e31,h⟩:=aD h;try refine ah ?_
     refine aA (yE lq ([44,32]:Str) (by assumption) (by assumption)) ?_;obtain rfl:=ak h;try refine ah ?_
     exact(.pure _ (.str _))
theorem NA (k:Nat): ∀(je:Nat) (eG:Nat) (iH:List Nd) (fQ:Int) (fT:Int) (fB:Str) (fK:List Str) (eT:List Int) (dh:List Str) (w9:Int) (eU:Int) (fC:Ck) (aC σ:Nat->PV) (H0 H:AH) (f0:Fr PI aC σ) (hf0:HF [] H0 H) (sl:σ 2=(.ref (je) 0)/\σ 3=(.ref (eG) 0)/\σ 5=(.aB (dh.map aX) fC)/\σ 6=(.int .i64 w9)/\σ 7=(.int .i64 eU)/\H.obj je=some [(.aB (iH.map Nd.cells) .unk)]/\H.obj eG=some [(.int .i64 fQ),(.int .i64 fT),(.str fB),(.aB (fK.map aX) .unk),(.aB (eT.map bI) .unk)]) (oh:je<H.next) (iL:eG<H.next) (kV:je≠eG) (l5:d9 H fC) (o:List Str) (h:nG k iH fQ fT fB fK eT dh w9 eU=some o) (Q:Post) (q0: ∀(p:List Str) (c0:Ck) (σ':Nat->PV) (H':AH),o=p->Fr PI aC σ'->HF [] H0 H'->(σ' 5=(.aB (p.map aX) c0))->Q (.exit 0) σ' H'),W Tryz.prog (.loop QZ) Q σ H:=by
  match k with
  |0=>intro je eG iH fQ fT fB fK eT dh w9 eU fC aC σ H0 H f0 hf0 sl oh iL kV l5 o h Q q0;rw [nG]at h;cases h
  |k+1=>
    have ih:=NA k;intro je eG iH fQ fT fB fK eT dh w9 eU fC aC σ H0 H f0 hf0 sl oh iL kV l5 o h Q q0;obtain⟨s2,s3,s5,s6,s7,adY,Oy⟩:=sl;have adZ:=ne_next oh;have ad2:=aU oh;have Oz:=ne_next iL;have OA:=aU iL;have Y9:=eq_false kV;have Za:=eq_false (Ne.symm kV);have hle0:=hf0.1;rw [nG]at h;refine bA (fun K hK=>aF ?_);unfold QZ;rcases au h with⟨e1,h⟩|⟨e1,h⟩
    ·rcases au h with⟨e2,h⟩|⟨e2,h⟩
     ·try refine ah ?_
      refine bO ?_;obtain⟨e3,h⟩:=aD h;obtain⟨x4,e5,h⟩:=aj h;obtain⟨p7,e6,h⟩:=aj h;try refine ah ?_
      refine PC.mk ((eB k (Printer.mk iH) x4 false _ e6).wk (.same (.same (.same .nil)))) ?_;obtain⟨e8,h⟩:=aD h;try refine ah ?_
      refine bf (aP e8) ?_;obtain⟨e13,h⟩:=aD h;try refine ah ?_
      refine jV (f:=aX) uR dh ([(79::84::72::69::82::32::45::62::32::p7)]:List Str) fC .exact av av eO (by first|exact e13|(simp only [List.length_cons,List.length_nil];exact e13)) (fun c9 SC avT le aiD avU=> ?_);have aiE:HF [] _ SC:=⟨le,fun i _ _=>aiD i⟩;try simp only [AH.aJ,AH.aK,AH.aL,AH.aM]at le
      have n35:=ne_next (show je<SC.next by first|omega|(simp only [AH.aJ,AH.aK,AH.aL,AH.aM];omega));have m36:=aU (show je<SC.next by first|omega|(simp only [AH.aJ,AH.aK,AH.aL,AH.aM];omega));have n37:=ne_next (show eG<SC.next by first|omega|(simp only [AH.aJ,AH.aK,AH.aL,AH.aM];omega));have m38:=aU (show eG<SC.next by first|omega|(simp only [AH.aJ,AH.aK,AH.aL,AH.aM];omega));obtain rfl:=ak h;try refine ah ?_
      exact q0 _ c9 _ _ rfl aO (by repeat (first|exact hf0|refine HF.new ?_|refine HF.dR ?_|refine HF.used ?_|refine HF.put (by first|(right;omega)|(left;simp only [List.mem_cons,true_or,or_true])) ?_|refine HF.via aiE (by first|exact fun i hi=>absurd hi List.not_mem_nil|(intro i hi;simp only [List.mem_cons,List.not_mem_nil,or_false]at hi⊢;first|exact .inl hi|omega)) ?_)) av
     ·try refine ah ?_
      refine bO ?_;obtain⟨e16,h⟩:=aD h;obtain⟨BR,e18,h⟩:=aj h;obtain⟨lu,e19,h⟩:=aj h;try refine ah ?_
      refine PC.mk ((eB k (Printer.mk iH) BR false _ e19).wk (.same (.same (.same .nil)))) ?_;obtain⟨e21,h⟩:=aD h;try refine ah ?_
      refine bf (aP e21) ?_;obtain⟨e22,h⟩:=aD h;obtain⟨x23,e24,h⟩:=aj h;obtain⟨p26,e25,h⟩:=aj h;try refine ah ?_
      refine PC.mk ((eB k (Printer.mk iH) x23 (decide ((IntKind.wrap .i64 (eU+1))<w9)) _ e25).wk (.same (.same (.same .nil)))) ?_;obtain⟨e27,h⟩:=aD h;try refine ah ?_
      refine bf (aP e27) ?_;obtain⟨e32,h⟩:=aD h;try refine ah ?_
      refine jV (f:=aX) uR dh ([(lu++(32::45::62::32::p26))]:List Str) fC .exact av av eO (by first|exact e32|(simp only [List.length_cons,List.length_nil];exact e32)) (fun c28 H29 aAy le aww aAz=> ?_);have abJ:HF [] _ H29:=⟨le,fun i _ _=>aww i⟩;try simp only [AH.aJ,AH.aK,AH.aL,AH.aM]at le
      have n39:=ne_next (show je<H29.next by first|omega|(simp only [AH.aJ,AH.aK,AH.aL,AH.aM];omega));have m40:=aU (show je<H29.next by first|omega|(simp only [AH.aJ,AH.aK,AH.aL,AH.aM];omega));have n41:=ne_next (show eG<H29.next by first|omega|(simp only [AH.aJ,AH.aK,AH.aL,AH.aM];omega));have m42:=aU (show eG<H29.next by first|omega|(simp only [AH.aJ,AH.aK,AH.aL,AH.aM];omega));try refine ah ?_
      refine hK _ _ ?_;exact ih je eG iH fQ fT fB fK eT (dh++[(lu++(32::45::62::32::p26))]) w9 (IntKind.wrap .i64 (eU+2)) c28 _ _ _ _ aO (by repeat (first|exact hf0|refine HF.new ?_|refine HF.dR ?_|refine HF.used ?_|refine HF.put (by first|(right;omega)|(left;simp only [List.mem_cons,true_or,or_true])) ?_|refine HF.via abJ (by first|exact fun i hi=>absurd hi List.not_mem_nil|(intro i hi;simp only [List.mem_cons,List.not_mem_nil,or_false]at hi⊢;first|exact .inl hi|omega)) ?_)) av bE bE bE eO _ h _ q0
    ·obtain rfl:=ak h;try refine ah ?_
     exact q0 _ fC _ _ rfl aO (by repeat (first|exact hf0|refine HF.new ?_|refine HF.dR ?_|refine HF.used ?_|refine HF.put (by first|(right;omega)|(left;simp only [List.mem_cons,true_or,or_true])) ?_)) av
theorem ahc (k:Nat): ∀(p_0:Printer) (bR:Nd) (r:Str) (h:JN k p_0 bR=some r),aG Tryz.prog 195 [(.agg (Printer.cells p_0)),(.agg (Nd.cells bR))] (.str r):=by
  match k with
  |0=>intro p_0 bR r h;rw [JN]at h;cases h
  |k+1=>
    intro p_0 bR r h;refine aG.aR (bB.mem (.cons (.agg _ (Printer.pu _)) (.cons (.agg _ (Nd.pu _)) .nil))) (aI asX (by simp) (aF ?_)) (.str _);rw [JN]at h;unfold ala;try refine ah ?_
    obtain⟨o43,h44,h⟩:=aj h;refine NA k (AH.empty.next) (AH.empty.next+1) p_0.e bR.kind bR.n bR.text bR.names bR.args ([]:List Str) (IntKind.wrap .i64 ((bR.args.length:Int) -1)) 0 .nil _ _ _ _ (Fr.refl _ _) (HF.refl _ _) av bE bE bE eO _ h44 _ ?_
    ·rintro p45 c49 σ' H48 eo ais awx s50;rw [eo]at h;have le:=awx.1;try simp only [AH.aJ,AH.aK,AH.aL,AH.aM]at le
     obtain⟨e51,h⟩:=aD h;obtain⟨e52,h⟩:=aD h;try refine ah ?_
     refine aA (yE p45 ([32,91,93,32]:Str) (by assumption) (by assumption)) ?_;obtain⟨e53,h⟩:=aD h;try refine ah ?_
     refine aN (aP e53) ?_;obtain rfl:=ak h;try refine ah ?_
     exact(.pure _ (.str _))
theorem ana (k:Nat): ∀(p_0:Printer) (bR:Nd) (r:Str) (h:Ow k p_0 bR=some r),aG Tryz.prog 196 [(.agg (Printer.cells p_0)),(.agg (Nd.cells bR))] (.str r):=by
  match k with
  |0=>intro p_0 bR r h;rw [Ow]at h;cases h
  |k+1=>
    intro p_0 bR r h;refine aG.aR (bB.mem (.cons (.agg _ (Printer.pu _)) (.cons (.agg _ (Nd.pu _)) .nil))) (aI asY (by simp) (aF ?_)) (.str _);rw [Ow]at h;unfold alb;obtain⟨e1,h⟩:=aD h;try refine ah ?_
    refine bO ?_;obtain⟨x2,e3,h⟩:=aj h;try refine ah ?_
    obtain⟨o17,h18,h⟩:=aj h;refine afl (bR.names.drop 1) x2 x2 _ _ _ (Fr.refl _ _) av _ h18 _ ?_
    ·rintro kF σ' eo V8 ⟨Z8,s24⟩;rw [eo]at h;have O6:σ' 2=(.ref (AH.empty.next) 0):=(V8 2 (by decide)).trans av;have X5:σ' 3=(.ref (AH.empty.next+1) 0):=(V8 3 (by decide)).trans av;rcases au h with⟨e27,h⟩|⟨e27,h⟩
     ·obtain⟨e28,h⟩:=aD h;try refine ah ?_
      refine aN (aP e28) ?_;obtain⟨e29,h⟩:=aD h;try refine ah ?_
      refine aN (aP e29) ?_;obtain⟨e30,h⟩:=aD h;try refine ah ?_
      refine aN (aP e30) ?_;try refine ah ?_
      refine bO ?_;obtain⟨e31,h⟩:=aD h;try refine ah ?_
      refine bf (aP e31) ?_;obtain⟨e32,h⟩:=aD h;try refine ah ?_
      refine bf (aP e32) ?_;obtain⟨x33,e34,h⟩:=aj h;obtain⟨p36,e35,h⟩:=aj h;try refine ah ?_
      refine PC.mk ((eB k p_0 x33 false _ e35).wk (.same (.same (.same .nil)))) ?_;obtain⟨e37,h⟩:=aD h;try refine ah ?_
      refine bf (aP e37) ?_;obtain⟨e38,h⟩:=aD h;try refine ah ?_
      refine bf (aP e38) ?_;obtain⟨x39,e40,h⟩:=aj h;obtain⟨p42,e41,h⟩:=aj h;try refine ah ?_
      refine PC.mk ((eB k p_0 x39 false _ e41).wk (.same (.same (.same .nil)))) ?_;obtain⟨e43,h⟩:=aD h;try refine ah ?_
      refine aN (aP e43) ?_;obtain rfl:=ak h;try refine ah ?_
      exact(.pure _ (.str _))
     ·try refine ah ?_
      refine bO ?_;obtain⟨e44,h⟩:=aD h;try refine ah ?_
      refine bf (aP e44) ?_;obtain⟨e45,h⟩:=aD h;try refine ah ?_
      refine bf (aP e45) ?_;obtain⟨x46,e47,h⟩:=aj h;obtain⟨p49,e48,h⟩:=aj h;try refine ah ?_
      refine PC.mk ((eB k p_0 x46 false _ e48).wk (.same (.same (.same .nil)))) ?_;obtain⟨e50,h⟩:=aD h;try refine ah ?_
      refine bf (aP e50) ?_;obtain⟨e51,h⟩:=aD h;try refine ah ?_
      refine bf (aP e51) ?_;obtain⟨x52,e53,h⟩:=aj h;obtain⟨p55,e54,h⟩:=aj h;try refine ah ?_
      refine PC.mk ((eB k p_0 x52 false _ e54).wk (.same (.same (.same .nil)))) ?_;obtain⟨e56,h⟩:=aD h;try refine ah ?_
      refine aN (aP e56) ?_;obtain rfl:=ak h;try refine ah ?_
      exact(.pure _ (.str _))
theorem ajl (k:Nat): ∀(p_0:Printer) (bR:Nd) (r:Str) (h:JO k p_0 bR=some r),aG Tryz.prog 159 [(.agg (Printer.cells p_0)),(.agg (Nd.cells bR))] (.str r):=by
  match k with
  |0=>intro p_0 bR r h;rw [JO]at h;cases h
  |k+1=>
    intro p_0 bR r h;refine aG.aR (bB.mem (.cons (.agg _ (Printer.pu _)) (.cons (.agg _ (Nd.pu _)) .nil))) (aI asL (by simp) (aF ?_)) (.str _);rw [JO]at h;unfold akX;try refine ah ?_
    refine bO ?_;obtain⟨e1,h⟩:=aD h;obtain⟨x2,e3,h⟩:=aj h;obtain⟨p5,e4,h⟩:=aj h;try refine ah ?_
    refine aA ((eB k p_0 x2 false _ e4).wk (.same (.same (.same .nil)))) ?_;rcases au h with⟨e6,h⟩|⟨e6,h⟩
    ·obtain⟨p8,e7,h⟩:=aj h;try refine ah ?_
     refine aA ((xO k p_0 bR _ e7).wk (.same (.same .nil))) ?_;obtain⟨e9,h⟩:=aD h;try refine ah ?_
     refine aN (aP e9) ?_;obtain⟨e10,h⟩:=aD h;try refine ah ?_
     refine aN (aP e10) ?_;obtain⟨e11,h⟩:=aD h;try refine ah ?_
     refine aN (aP e11) ?_;obtain rfl:=ak h;try refine ah ?_
     exact(.pure _ (.str _))
    ·rcases au h with⟨e12,h⟩|⟨e12,h⟩
     ·obtain⟨ig,e13,h⟩:=aj h;try refine ah ?_
      refine aA ((xO k p_0 bR _ e13).wk (.same (.same .nil))) ?_;obtain⟨e15,h⟩:=aD h;try refine ah ?_
      refine aN (aP e15) ?_;obtain⟨e16,h⟩:=aD h;try refine ah ?_
      refine aN (aP e16) ?_;obtain⟨e17,h⟩:=aD h;try refine ah ?_
      refine aN (aP e17) ?_;obtain rfl:=ak h;try refine ah ?_
      exact(.pure _ (.str _))
     ·rcases au h with⟨e18,h⟩|⟨e18,h⟩
      ·obtain⟨e19,h⟩:=aD h;obtain⟨e20,h⟩:=aD h;try refine ah ?_
       refine aA (yE bR.names ([44,32]:Str) (by assumption) (by assumption)) ?_;obtain⟨e21,h⟩:=aD h;try refine ah ?_
       refine aN (aP e21) ?_;obtain⟨e22,h⟩:=aD h;try refine ah ?_
       refine aN (aP e22) ?_;obtain⟨e23,h⟩:=aD h;try refine ah ?_
       refine aN (aP e23) ?_;obtain rfl:=ak h;try refine ah ?_
       exact(.pure _ (.str _))
      ·rcases au h with⟨e24,h⟩|⟨e24,h⟩
       ·obtain⟨e25,h⟩:=aD h;obtain⟨e26,h⟩:=aD h;try refine ah ?_
        refine aA (yE bR.names ([44,32]:Str) (by assumption) (by assumption)) ?_;obtain⟨e27,h⟩:=aD h;try refine ah ?_
        refine aN (aP e27) ?_;obtain⟨e28,h⟩:=aD h;try refine ah ?_
        refine aN (aP e28) ?_;obtain⟨e29,h⟩:=aD h;try refine ah ?_
        refine aN (aP e29) ?_;obtain rfl:=ak h;try refine ah ?_
        exact(.pure _ (.str _))
       ·rcases au h with⟨e30,h⟩|⟨e30,h⟩
        ·obtain⟨p32,e31,h⟩:=aj h;try refine ah ?_
         refine aA ((xO k p_0 bR _ e31).wk (.same (.same .nil))) ?_;obtain⟨e33,h⟩:=aD h;try refine ah ?_
         refine aN (aP e33) ?_;obtain⟨e34,h⟩:=aD h;try refine ah ?_
         refine aN (aP e34) ?_;obtain⟨e35,h⟩:=aD h;try refine ah ?_
         refine aN (aP e35) ?_;obtain rfl:=ak h;try refine ah ?_
         exact(.pure _ (.str _))
        ·rcases au h with⟨e36,h⟩|⟨e36,h⟩
         ·try refine ah ?_
          refine bO ?_;obtain⟨x37,e38,h⟩:=aj h;obtain⟨p40,e39,h⟩:=aj h;try refine ah ?_
          refine PC.mk ((eB k p_0 x37 false _ e39).wk (.same (.same (.same .nil)))) ?_;obtain⟨e41,h⟩:=aD h;try refine ah ?_
          refine bf (aP e41) ?_;obtain⟨e42,h⟩:=aD h;try refine ah ?_
          refine bf (aP e42) ?_;obtain⟨x43,e44,h⟩:=aj h;obtain⟨p46,e45,h⟩:=aj h;try refine ah ?_
          refine PC.mk ((eB k p_0 x43 false _ e45).wk (.same (.same (.same .nil)))) ?_;obtain⟨e47,h⟩:=aD h;try refine ah ?_
          refine bf (aP e47) ?_;obtain⟨e48,h⟩:=aD h;try refine ah ?_
          refine bf (aP e48) ?_;obtain⟨e49,h⟩:=aD h;try refine ah ?_
          refine aN (aP e49) ?_;obtain rfl:=ak h;try refine ah ?_
          exact(.pure _ (.str _))
         ·rcases au h with⟨e50,h⟩|⟨e50,h⟩
          ·obtain⟨p52,e51,h⟩:=aj h;try refine ah ?_
           refine aA ((ahc k p_0 bR _ e51).wk (.same (.same .nil))) ?_;obtain rfl:=ak h;try refine ah ?_
           exact(.pure _ (.str _))
          ·rcases au h with⟨e53,h⟩|⟨e53,h⟩
           ·obtain⟨p55,e54,h⟩:=aj h;try refine ah ?_
            refine aA ((ana k p_0 bR _ e54).wk (.same (.same .nil))) ?_;obtain rfl:=ak h;try refine ah ?_
            exact(.pure _ (.str _))
           ·obtain⟨e56,h⟩:=aD h;obtain⟨e57,h⟩:=aD h;try refine ah ?_
            refine aA (yE bR.names ([44,32]:Str) (by assumption) (by assumption)) ?_;obtain⟨e58,h⟩:=aD h;try refine ah ?_
            refine aN (aP e58) ?_;obtain⟨e59,h⟩:=aD h;try refine ah ?_
            refine aN (aP e59) ?_;obtain⟨e60,h⟩:=aD h;try refine ah ?_
            refine aN (aP e60) ?_;obtain rfl:=ak h;try refine ah ?_
            exact(.pure _ (.str _))
theorem ajg (k:Nat): ∀(p_0:Printer) (bH:Int) (r:Str) (h:Gw k p_0 bH=some r),aG Tryz.prog 102 [(.agg (Printer.cells p_0)),(.int .i64 bH)] (.str r):=by
  match k with
  |0=>intro p_0 bH r h;rw [Gw]at h;cases h
  |k+1=>
    intro p_0 bH r h;refine aG.aR (bB.mem (.cons (.agg _ (Printer.pu _)) (.cons (.int _ _) .nil))) (aI ar7 (by simp) (aF ?_)) (.str _);rw [Gw]at h;unfold akh;obtain⟨e1,h⟩:=aD h;obtain⟨x2,e3,h⟩:=aj h;rcases au h with⟨e4,h⟩|⟨e4,h⟩
    ·obtain⟨e5,h⟩:=aD h;try refine ah ?_
     refine aA (aq8 x2.n (by assumption)) ?_;obtain rfl:=ak h;try refine ah ?_
     exact(.pure _ (.str _))
    ·rcases au h with⟨e6,h⟩|⟨e6,h⟩
     ·obtain⟨e7,h⟩:=aD h;try refine ah ?_
      refine aN (aP e7) ?_;obtain⟨e8,h⟩:=aD h;try refine ah ?_
      refine aN (aP e8) ?_;obtain rfl:=ak h;try refine ah ?_
      exact(.pure _ (.str _))
     ·rcases au h with⟨e9,h⟩|⟨e9,h⟩
      ·obtain rfl:=ak h;try refine ah ?_
       exact(.pure _ (.str _))
      ·rcases au h with⟨e10,h⟩|⟨e10,h⟩
       ·try refine ah ?_
        refine bO ?_;obtain⟨e11,h⟩:=aD h;try refine ah ?_
        refine bf (aP e11) ?_;obtain⟨xY,e12,h⟩:=aj h;try refine ah ?_
        refine PC.mk ((KP k p_0 x2.args _ e12).wk (.same (.aB .nil))) ?_;obtain⟨e14,h⟩:=aD h;try refine ah ?_
        refine aN (aP e14) ?_;obtain⟨e15,h⟩:=aD h;try refine ah ?_
        refine aN (aP e15) ?_;obtain rfl:=ak h;try refine ah ?_
        exact(.pure _ (.str _))
       ·rcases au h with⟨e16,h⟩|⟨e16,h⟩
        ·obtain⟨mR,e17,h⟩:=aj h;try refine ah ?_
         refine aA ((KP k p_0 x2.args _ e17).wk (.same (.aB .nil))) ?_;obtain⟨e19,h⟩:=aD h;try refine ah ?_
         refine aN (aP e19) ?_;obtain⟨e20,h⟩:=aD h;try refine ah ?_
         refine aN (aP e20) ?_;obtain rfl:=ak h;try refine ah ?_
         exact(.pure _ (.str _))
        ·rcases au h with⟨e21,h⟩|⟨e21,h⟩
         ·obtain⟨jL,e22,h⟩:=aj h;try refine ah ?_
          refine aA ((KP k p_0 x2.args _ e22).wk (.same (.aB .nil))) ?_;obtain⟨e24,h⟩:=aD h;try refine ah ?_
          refine aN (aP e24) ?_;obtain⟨e25,h⟩:=aD h;try refine ah ?_
          refine aN (aP e25) ?_;obtain rfl:=ak h;try refine ah ?_
          exact(.pure _ (.str _))
         ·rcases au h with⟨e26,h⟩|⟨e26,h⟩
          ·try refine ah ?_
           refine bO ?_;obtain⟨p28,e27,h⟩:=aj h;try refine ah ?_
           refine PC.mk ((xO k p_0 x2 _ e27).wk (.same (.same .nil))) ?_;obtain⟨e29,h⟩:=aD h;try refine ah ?_
           refine bf (aP e29) ?_;obtain⟨e30,h⟩:=aD h;try refine ah ?_
           refine bf (aP e30) ?_;obtain⟨x31,e32,h⟩:=aj h;obtain⟨p34,e33,h⟩:=aj h;try refine ah ?_
           refine PC.mk ((eB k p_0 x31 false _ e33).wk (.same (.same (.same .nil)))) ?_;obtain⟨e35,h⟩:=aD h;try refine ah ?_
           refine aN (aP e35) ?_;obtain⟨e36,h⟩:=aD h;try refine ah ?_
           refine aN (aP e36) ?_;obtain rfl:=ak h;try refine ah ?_
           exact(.pure _ (.str _))
          ·rcases au h with⟨e37,h⟩|⟨e37,h⟩
           ·try refine ah ?_
            refine bO ?_;obtain⟨e38,h⟩:=aD h;obtain⟨x39,e40,h⟩:=aj h;obtain⟨p42,e41,h⟩:=aj h;try refine ah ?_
            refine PC.mk ((aha k p_0 x39 _ e41).wk (.same (.same .nil))) ?_;obtain⟨e43,h⟩:=aD h;try refine ah ?_
            refine bf (aP e43) ?_;obtain⟨e44,h⟩:=aD h;try refine ah ?_
            refine bf (aP e44) ?_;obtain⟨p46,e45,h⟩:=aj h;try refine ah ?_
            refine PC.mk ((xO k p_0 x2 _ e45).wk (.same (.same .nil))) ?_;obtain⟨e47,h⟩:=aD h;try refine ah ?_
            refine aN (aP e47) ?_;obtain⟨e48,h⟩:=aD h;try refine ah ?_
            refine aN (aP e48) ?_;obtain rfl:=ak h;try refine ah ?_
            exact(.pure _ (.str _))
           ·rcases au h with⟨e49,h⟩|⟨e49,h⟩
            ·try refine ah ?_
             refine bO ?_;obtain⟨p51,e50,h⟩:=aj h;try refine ah ?_
             refine PC.mk ((xO k p_0 x2 _ e50).wk (.same (.same .nil))) ?_;obtain⟨e52,h⟩:=aD h;try refine ah ?_
             refine bf (aP e52) ?_;obtain⟨e53,h⟩:=aD h;try refine ah ?_
             refine bf (aP e53) ?_;obtain⟨e54,h⟩:=aD h;obtain⟨x55,e56,h⟩:=aj h;obtain⟨p58,e57,h⟩:=aj h;try refine ah ?_
             refine PC.mk ((eB k p_0 x55 false _ e57).wk (.same (.same (.same .nil)))) ?_;obtain⟨e59,h⟩:=aD h;try refine ah ?_
             refine aN (aP e59) ?_;obtain⟨e60,h⟩:=aD h;try refine ah ?_
             refine aN (aP e60) ?_;obtain rfl:=ak h;try refine ah ?_
             exact(.pure _ (.str _))
            ·rcases au h with⟨e61,h⟩|⟨e61,h⟩
             ·try refine ah ?_
              refine bO ?_;obtain⟨x62,e63,h⟩:=aj h;obtain⟨p65,e64,h⟩:=aj h;try refine ah ?_
              refine PC.mk ((Yt k p_0 x62 _ e64).wk (.same (.same .nil))) ?_;obtain⟨e66,h⟩:=aD h;try refine ah ?_
              refine bf (aP e66) ?_;obtain⟨e67,h⟩:=aD h;obtain⟨p69,e68,h⟩:=aj h;try refine ah ?_
              refine PC.mk ((KP k p_0 (x2.args.drop 1) _ e68).wk (.same (.aB .nil))) ?_;obtain⟨La,h⟩:=aD h;try refine ah ?_
              refine aN (aP La) ?_;obtain⟨Pk,h⟩:=aD h;try refine ah ?_
              refine aN (aP Pk) ?_;obtain rfl:=ak h;try refine ah ?_
              exact(.pure _ (.str _))
             ·rcases au h with⟨MU,h⟩|⟨MU,h⟩
              ·try refine ah ?_
               refine bO ?_;obtain⟨Yf,Pg,h⟩:=aj h;obtain⟨p76,Hr,h⟩:=aj h;try refine ah ?_
               refine PC.mk ((eB k p_0 Yf false _ Hr).wk (.same (.same (.same .nil)))) ?_;obtain⟨Ht,h⟩:=aD h;try refine ah ?_
               refine bf (aP Ht) ?_;obtain⟨Mw,h⟩:=aD h;try refine ah ?_
               refine bf (aP Mw) ?_;obtain⟨x79,e80,h⟩:=aj h;obtain⟨p82,e81,h⟩:=aj h;try refine ah ?_
               refine PC.mk ((eB k p_0 x79 false _ e81).wk (.same (.same (.same .nil)))) ?_;obtain⟨e83,h⟩:=aD h;try refine ah ?_
               refine aN (aP e83) ?_;obtain⟨e84,h⟩:=aD h;try refine ah ?_
               refine aN (aP e84) ?_;obtain rfl:=ak h;try refine ah ?_
               exact(.pure _ (.str _))
              ·rcases au h with⟨e85,h⟩|⟨e85,h⟩
               ·obtain⟨Aw,Mq,h⟩:=aj h;try refine ah ?_
                refine aA ((TK k p_0 x2 ([32,124,45,62,32]:Str) _ Mq).wk (.same (.same (.same .nil)))) ?_;obtain⟨Mr,h⟩:=aD h;try refine ah ?_
                refine aN (aP Mr) ?_;obtain⟨Sj,h⟩:=aD h;try refine ah ?_
                refine aN (aP Sj) ?_;obtain rfl:=ak h;try refine ah ?_
                exact(.pure _ (.str _))
               ·rcases au h with⟨Sk,h⟩|⟨Sk,h⟩
                ·obtain⟨Eu,Jj,h⟩:=aj h;try refine ah ?_
                 refine aA ((TK k p_0 x2 ([32,58,32]:Str) _ Jj).wk (.same (.same (.same .nil)))) ?_;obtain⟨Jp,h⟩:=aD h;try refine ah ?_
                 refine aN (aP Jp) ?_;obtain⟨SL,h⟩:=aD h;try refine ah ?_
                 refine aN (aP SL) ?_;obtain rfl:=ak h;try refine ah ?_
                 exact(.pure _ (.str _))
                ·rcases au h with⟨Sn,h⟩|⟨Sn,h⟩
                 ·try refine ah ?_
                  refine bO ?_;obtain⟨x96,e97,h⟩:=aj h;obtain⟨p99,Sq,h⟩:=aj h;try refine ah ?_
                  refine PC.mk ((Yt k p_0 x96 _ Sq).wk (.same (.same .nil))) ?_;obtain⟨e100,h⟩:=aD h;try refine ah ?_
                  refine bf (aP e100) ?_;obtain⟨D9,h⟩:=aD h;try refine ah ?_
                  refine aN (aP D9) ?_;obtain rfl:=ak h;try refine ah ?_
                  exact(.pure _ (.str _))
                 ·rcases au h with⟨Kj,h⟩|⟨Kj,h⟩
                  ·try refine ah ?_
                   refine bO ?_;obtain⟨x103,Ri,h⟩:=aj h;obtain⟨Gi,Eb,h⟩:=aj h;try refine ah ?_
                   refine PC.mk ((eB k p_0 x103 false _ Eb).wk (.same (.same (.same .nil)))) ?_;obtain⟨Eo,h⟩:=aD h;try refine ah ?_
                   refine bf (aP Eo) ?_;obtain⟨e108,h⟩:=aD h;try refine ah ?_
                   refine bf (aP e108) ?_;obtain⟨ai9,IL,h⟩:=aj h;obtain⟨KA,Kl,h⟩:=aj h;try refine ah ?_
                   refine PC.mk ((eB k p_0 ai9 false _ Kl).wk (.same (.same (.same .nil)))) ?_;obtain⟨Mx,h⟩:=aD h;try refine ah ?_
                   refine bf (aP Mx) ?_;obtain⟨afo,h⟩:=aD h;try refine ah ?_
                   refine bf (aP afo) ?_;obtain⟨x115,e116,h⟩:=aj h;obtain⟨IK,e117,h⟩:=aj h;try refine ah ?_
                   refine PC.mk ((eB k p_0 x115 false _ e117).wk (.same (.same (.same .nil)))) ?_;obtain⟨e119,h⟩:=aD h;try refine ah ?_
                   refine aN (aP e119) ?_;obtain⟨e120,h⟩:=aD h;try refine ah ?_
                   refine aN (aP e120) ?_;obtain rfl:=ak h;try refine ah ?_
                   exact(.pure _ (.str _))
                  ·rcases au h with⟨abe,h⟩|⟨abe,h⟩
                   ·obtain rfl:=ak h;try refine ah ?_
                    exact(.pure _ (.str _))
                   ·rcases au h with⟨aau,h⟩|⟨aau,h⟩
                    ·try refine ah ?_
                     refine bO ?_;obtain⟨aja,Xe,h⟩:=aj h;obtain⟨abI,e125,h⟩:=aj h;try refine ah ?_
                     refine PC.mk ((eB k p_0 aja false _ e125).wk (.same (.same (.same .nil)))) ?_;obtain⟨e127,h⟩:=aD h;try refine ah ?_
                     refine bf (aP e127) ?_;obtain⟨e128,h⟩:=aD h;try refine ah ?_
                     refine bf (aP e128) ?_;obtain⟨ajb,aeN,h⟩:=aj h;obtain⟨Xf,ajm,h⟩:=aj h;try refine ah ?_
                     refine PC.mk ((yZ k p_0 ajb _ ajm).wk (.same (.same .nil))) ?_;obtain⟨aeO,h⟩:=aD h;try refine ah ?_
                     refine aN (aP aeO) ?_;obtain rfl:=ak h;try refine ah ?_
                     exact(.pure _ (.str _))
                    ·rcases au h with⟨ajn,h⟩|⟨ajn,h⟩
                     ·try refine ah ?_
                      refine bO ?_;obtain⟨ajc,aeP,h⟩:=aj h;obtain⟨Mt,e137,h⟩:=aj h;try refine ah ?_
                      refine PC.mk ((eB k p_0 ajc false _ e137).wk (.same (.same (.same .nil)))) ?_;obtain⟨aeQ,h⟩:=aD h;try refine ah ?_
                      refine bf (aP aeQ) ?_;obtain⟨Q8,h⟩:=aD h;try refine ah ?_
                      refine bf (aP Q8) ?_;obtain⟨ajd,arj,h⟩:=aj h;obtain⟨Wx,e143,h⟩:=aj h;try refine ah ?_
                      refine PC.mk ((yZ k p_0 ajd _ e143).wk (.same (.same .nil))) ?_;obtain⟨aji,h⟩:=aD h;try refine ah ?_
                      refine aN (aP aji) ?_;obtain rfl:=ak h;try refine ah ?_
                      exact(.pure _ (.str _))
                     ·rcases au h with⟨Xh,h⟩|⟨Xh,h⟩
                      ·try refine ah ?_
                       refine bO ?_;obtain⟨aje,afe,h⟩:=aj h;obtain⟨Xx,ajo,h⟩:=aj h;try refine ah ?_
                       refine PC.mk ((yZ k p_0 aje _ ajo).wk (.same (.same .nil))) ?_;obtain⟨aeR,h⟩:=aD h;try refine ah ?_
                       refine bf (aP aeR) ?_;obtain⟨e152,h⟩:=aD h;try refine ah ?_
                       refine bf (aP e152) ?_;obtain⟨x153,e154,h⟩:=aj h;obtain⟨Q9,ajp,h⟩:=aj h;try refine ah ?_
                       refine PC.mk ((eB k p_0 x153 false _ ajp).wk (.same (.same (.same .nil)))) ?_;obtain⟨ark,h⟩:=aD h;try refine ah ?_
                       refine aN (aP ark) ?_;obtain⟨abf,h⟩:=aD h;try refine ah ?_
                       refine aN (aP abf) ?_;obtain rfl:=ak h;try refine ah ?_
                       exact(.pure _ (.str _))
                      ·rcases au h with⟨awy,h⟩|⟨awy,h⟩
                       ·try refine ah ?_
                        refine bO ?_;obtain⟨x160,aff,h⟩:=aj h;obtain⟨Xy,aaw,h⟩:=aj h;try refine ah ?_
                        refine PC.mk ((yZ k p_0 x160 _ aaw).wk (.same (.same .nil))) ?_;obtain⟨aiw,h⟩:=aD h;try refine ah ?_
                        refine bf (aP aiw) ?_;obtain⟨e165,h⟩:=aD h;try refine ah ?_
                        refine bf (aP e165) ?_;obtain⟨ajf,e167,h⟩:=aj h;obtain⟨afm,e168,h⟩:=aj h;try refine ah ?_
                        refine PC.mk ((eB k p_0 ajf false _ e168).wk (.same (.same (.same .nil)))) ?_;obtain⟨e170,h⟩:=aD h;try refine ah ?_
                        refine aN (aP e170) ?_;obtain⟨abg,h⟩:=aD h;try refine ah ?_
                        refine aN (aP abg) ?_;obtain rfl:=ak h;try refine ah ?_
                        exact(.pure _ (.str _))
                       ·obtain⟨arh,awz,h⟩:=aj h;try refine ah ?_
                        refine aA ((ajl k p_0 x2 _ awz).wk (.same (.same .nil))) ?_;obtain rfl:=ak h;try refine ah ?_
                        exact(.pure _ (.str _))
theorem Yt (k:Nat): ∀(p_0:Printer) (bH:Int) (r:Str) (h:CB k p_0 bH=some r),aG Tryz.prog 156 [(.agg (Printer.cells p_0)),(.int .i64 bH)] (.str r):=by
  match k with
  |0=>intro p_0 bH r h;rw [CB]at h;cases h
  |k+1=>
    intro p_0 bH r h;refine aG.aR (bB.mem (.cons (.agg _ (Printer.pu _)) (.cons (.int _ _) .nil))) (aI asI (by simp) (aF ?_)) (.str _);rw [CB]at h;unfold akU;obtain⟨p2,e1,h⟩:=aj h;try refine ah ?_
    refine aA (wV e1) ?_;try refine ah ?_
    refine bO ?_;rcases au h with⟨e3,h⟩|⟨e3,h⟩
    ·obtain⟨p5,e4,h⟩:=aj h;try refine ah ?_
     refine aA ((nI k p_0 bH true true _ e4).wk (.same (.same (.same (.same .nil))))) ?_;obtain rfl:=ak h;try refine ah ?_
     exact(.pure _ (.str _))
    ·obtain⟨e6,h⟩:=aD h;obtain⟨x7,e8,h⟩:=aj h;obtain⟨fE,e9,h⟩:=aj h;try refine ah ?_
     refine aA ((nI k p_0 bH (x7.kind==0) true _ e9).wk (.same (.same (.same (.same .nil))))) ?_;obtain rfl:=ak h;try refine ah ?_
     exact(.pure _ (.str _))
theorem yZ (k:Nat): ∀(p_0:Printer) (bH:Int) (r:Str) (h:nH k p_0 bH=some r),aG Tryz.prog 158 [(.agg (Printer.cells p_0)),(.int .i64 bH)] (.str r):=by
  match k with
  |0=>intro p_0 bH r h;rw [nH]at h;cases h
  |k+1=>
    intro p_0 bH r h;refine aG.aR (bB.mem (.cons (.agg _ (Printer.pu _)) (.cons (.int _ _) .nil))) (aI asK (by simp) (aF ?_)) (.str _);rw [nH]at h;unfold akW;obtain⟨e1,h⟩:=aD h;obtain⟨x2,e3,h⟩:=aj h;try refine ah ?_
    obtain⟨o10,h11,h⟩:=aj h;refine Rt k (AH.empty.next+1) x2.kind x2.n x2.text x2.names x2.args (x2.kind==2) _ _ _ (Fr.refl _ _) av bE _ h11 _ ?_
    ·rintro jW σ' eo D6 s16;rw [eo]at h;have s17:σ' 1=(.int .i64 bH):=(D6 1 (by decide)).trans av;have pK:σ' 2=(.ref (AH.empty.next) 0):=(D6 2 (by decide)).trans av;have qH:σ' 5=(.ref (AH.empty.next+1) 0):=(D6 5 (by decide)).trans av;rcases au h with⟨e20,h⟩|⟨e20,h⟩
     ·obtain⟨zB,e21,h⟩:=aj h;try refine ah ?_
      refine aA ((nI k p_0 bH false false _ e21).wk (.same (.same (.same (.same .nil))))) ?_;obtain rfl:=ak h;try refine ah ?_
      exact(.pure _ (.str _))
     ·obtain⟨lq,e23,h⟩:=aj h;try refine ah ?_
      refine aA ((nI k p_0 bH (x2.kind !=4) false _ e23).wk (.same (.same (.same (.same .nil))))) ?_;obtain rfl:=ak h;try refine ah ?_
      exact(.pure _ (.str _))
end
theorem ajq {k:Nat} {p_0:Printer} {bH:Int} {ku:Bool} {r:Str} (h:dY k p_0 bH ku=some r):aG Tryz.prog 59 [(.agg (Printer.cells p_0)),(.int .i64 bH),(.bool ku)] (.str r):=eB k p_0 bH ku r h
def qC (k:Nat) (aH:List Nd):Option (Str×Int):=
  Option.bind (zJ k aH) fun p2=>cond (p2 !=0) (some ([],p2)) (Option.bind (dY k (Printer.mk aH) (IntKind.wrap .i64 ((aH.length:Int) -1)) false) fun p5=>cond (decide ((p5.length:Int)>20000)) (some ([],2)) (some (p5,0)))
theorem JR {k:Nat} {aH:List Nd} {c0:Ck} {r:Str×Int} (h:qC k aH=some r):aG Tryz.prog 17 [(.aB (aH.map Nd.cells) c0)] (.dN [(.str r.1),(.int .i64 r.2)]):=by
  refine aG.lw (.aB .nil) (aG.aR (bB.mem (.cons (bC Nd.pu _) .nil)) (aI aoj (by simp) (aF ?_)) (.dN _ (bB.mem (.cons (.str _) (.cons (.int _ _) .nil)))));unfold qC at h;unfold aoi;obtain⟨p2,e1,h⟩:=aj h;try refine ah ?_
  refine aA (PD e1) ?_;rcases au h with⟨e3,h⟩|⟨e3,h⟩
  ·obtain rfl:=ak h;try refine ah ?_
   exact(dG (.cons (.pure _ (.str _)) (.cons (.pure _ (.int _ _)) .nil)))
  ·obtain⟨p5,e4,h⟩:=aj h;try refine ah ?_
   refine aA (ajq e4) ?_;rcases au h with⟨e6,h⟩|⟨e6,h⟩
   ·obtain rfl:=ak h;try refine ah ?_
    exact(dG (.cons (.pure _ (.str _)) (.cons (.pure _ (.int _ _)) .nil)))
   ·obtain rfl:=ak h;try refine ah ?_
    exact(dG (.cons (.pure _ (.str _)) (.cons (.pure _ (.int _ _)) .nil)))
end Go.VL
end
section
namespace Go.VL
open Tm
theorem Xz (l:List Int) (s:Int) (hl:l.length<=1099511627776):Ev (fun k=>nO k l s) (decide (s∈l)):=by
  have key: ∃o:Unit⊕Int,Ev (fun k=>gu k l s (l.length:Int) ((0:Nat):Int)) o/\((o= .inl ()/\ ¬s∈l.drop 0)\/(∃j:Nat,o= .inr (j:Int))/\s∈l.drop 0):=by
    refine jD (len:=l.length) (p:=fun i=> ∃o:Unit⊕Int,Ev (fun k=>gu k l s (l.length:Int) (i:Int)) o/\((o= .inl ()/\ ¬s∈l.drop i)\/(∃j:Nat,o= .inr (j:Int))/\s∈l.drop i)) ?_ fun i hi ⟨o,ih,ho⟩=> ?_
    · refine⟨.inl (),Ev.succ ?_,.inl ⟨rfl,by simp⟩⟩;simp only [gu];exact Ev.cF (jl _) Ev.some
    · by_cases h:l[i]=s
      · refine⟨.inr (i:Int),Ev.succ ?_,.inr ⟨⟨i,rfl⟩,(Ci hi).2 (.inl h)⟩⟩;simp only [gu,Int.toNat_natCast,aZ hi,Option.bind_some,nn,if_true,kX hi,cond_true];exact Ev.cT (by rw [beq_iff_eq];exact h.symm) Ev.some
      · refine⟨o,Ev.succ ?_,?_⟩
        · simp only [gu,Int.toNat_natCast,aZ hi,Option.bind_some,nn,if_true,kX hi,cond_true,dQ hi hl];exact Ev.cF (by rw [beq_eq_false_iff_ne];exact fun e=>h e.symm) ih
        · simpa only [Ci hi,h,false_or]using ho
  obtain⟨o,hk,ho⟩:=key;rw [List.drop_zero]at ho;unfold nO vE;rcases ho with⟨rfl,h⟩|⟨⟨j,rfl⟩,h⟩
  · exact Ev.bind (Ev.bind hk Ev.some) (Ev.some' (by simp [h]))
  · exact Ev.bind (Ev.bind hk Ev.some) (Ev.some' (by simp [h]))
theorem PL (n:Int):Ev (fun k=>FY k n) (mG n):=by
  unfold FY mG;exact Ev.bind (Xz _ _ (by simp)) Ev.some
structure KI (e:List Nd) (a:Int) (c:bZ):Prop where
  nn:0<=a
  nd: ∃n,e[a.toNat]? =some n/\n.kind=c.kind/\n.text=c.text
  ev: ∀f,Ev (fun k=>dY k ⟨e⟩ a f) (c.out f)
  sm: ∀f,(c.out f).length<=1000000000
inductive KL (e:List Nd):List Int->List bZ->Prop
  |nil:KL e [] []
  |cons {a c al ks} (h:KI e a c) (t:KL e al ks):KL e (a::al) (c::ks)
theorem KL.len {e:List Nd} {al:List Int} {ks:List bZ} (h:KL e al ks):al.length=ks.length:=by
  induction h with
  |nil=>rfl
  |cons _ _ ih=>simp [ih]
theorem KL.get {e:List Nd} {al:List Int} {ks:List bZ} (h:KL e al ks): ∀{i:Nat} {a c},al[i]? =some a->ks[i]? =some c->KI e a c:=by
  induction h with
  |nil=>intro i a c h;simp at h
  |cons h _ ih=>
    intro i a c h1 h2;cases i with
    |zero=>simp at h1 h2;subst h1;subst h2;exact h
    |succ i=>simp at h1 h2;exact ih h1 h2
theorem y5 {e:List Nd} {a:Int} {c:bZ} (h:KI e a c):Ev (fun k=>nC k ⟨e⟩ a) c.op:=by
  obtain⟨n,hn,hk,ht⟩:=h.nd;unfold nC bZ.op uf;simp only [hn,Option.bind_some,h.nn,if_true,hk,ht];by_cases h3:c.kind=3
  · simp only [h3,bne_self_eq_false,cond_false,if_true];exact Ev.bind (rD _) Ev.some
  · refine Ev.cT (by rw [bne_iff_ne];exact h3) (Ev.some' ?_);rw [if_neg h3];rfl
theorem acV {e:List Nd} {a:Int} {c:bZ} (h:KI e a c):Ev (fun k=>wZ k ⟨e⟩ a) (40::(c.out false++[41])):=by
  have:=h.sm false;refine Ev.succ ?_;simp only [wZ];exact Ev.bind (h.ev false) (Ev.aQ (by simp;omega) (Ev.aQ (by simp;omega) Ev.some))
theorem l6 {e:List Nd} {a:Int} {c:bZ} (h:KI e a c) (m f:Bool):Ev (fun k=>kC k ⟨e⟩ a m f) (sM c m f):=by
  refine Ev.succ ?_;simp only [kC];cases m
  · exact Ev.bind (h.ev f) Ev.some
  · exact Ev.bind (acV h) Ev.some
theorem lg {c:bZ} (h: ∀f,(c.out f).length<=1000000000) (m f:Bool):(sM c m f).length<=1000000002:=by
  unfold sM;have a:=h false;have b:=h f;split<;>simp<;>omega
end Go.VL
end
section
namespace Go.VL
open Tm
theorem om {l:List Str} {sep:Str} (h:l.length<=40) (h2: ∀s∈l,s.length<=2000000100) (h3:sep.length<=1000):(Lib.join l sep).length<=100000000000:=by
  have h4:=ai7 l sep 2000000100 h2;have h5:l.length*(2000000100+sep.length)<=40*(2000000100+1000):=Nat.mul_le_mul h (by omega);omega
section
variable {e:List Nd} {al:List Int} {ks:List bZ} (h:KL e al ks) (Js:ks.length<=34)
include h
theorem KL.sm {c:bZ} (hc:c∈ks) (f:Bool):(c.out f).length<=1000000000:=by
  obtain⟨i,hi⟩:=List.mem_iff_getElem?.1 hc;have:=(List.getElem?_eq_some_iff.1 hi).1;exact(h.get (aZ (by rw [h.len];exact this)) hi).sm f
include Js
theorem Ih:Ev (fun k=>BA k ⟨e⟩ al) (yj ks):=by
  have hl:=h.len;have key:Ev (fun k=>rG k e ((ks.take 0).map fun c=>c.out false) al (al.length:Int) ((0:Nat):Int)) (ks.map fun c=>c.out false):=by
    refine jD (len:=al.length) (p:=fun i=>Ev (fun k=>rG k e ((ks.take i).map fun c=>c.out false) al (al.length:Int) (i:Int)) (ks.map fun c=>c.out false)) ?_ fun i hi ih=> ?_
    · refine Ev.succ ?_;simp only [rG];exact Ev.cF (jl _) (Ev.some' (by rw [hl,List.take_length]))
    · have hi':i<ks.length:=by omega
      refine Ev.succ ?_;simp only [rG,Int.toNat_natCast,aZ hi,Option.bind_some,nn,if_true,kX hi,cond_true,dQ hi (show al.length<=1099511627776 by omega)];refine Ev.bind ((h.get (aZ hi) (aZ hi')).ev false) (Ev.aQ (by simp;omega) ?_);have e1:(ks.take (i+1)).map (fun c=>c.out false)=(ks.take i).map (fun c=>c.out false)++[ks[i].out false]:=by rw [List.take_succ_eq_append_getElem hi',List.map_append];rfl
      rw [<-e1];exact ih
  refine Ev.succ ?_;simp only [BA];have hj:=om (l:=ks.map fun c=>c.out false) (sep:=[44,32]) (by simp;omega) (fun s hs=>by obtain⟨c,hc,rfl⟩:=List.mem_map.1 hs;have:=h.sm hc false;omega) (by simp);exact Ev.bind key (Ev.aQ (by simp;omega) (Ev.aQ (by omega) Ev.some))
theorem abK {sign:Str} {names:List Str} {i:Nat} (h1:i<names.length) (h2:i<ks.length):(List.zipWith (fun s c=>s++(sign++bZ.out c false)) names ks).take (i+1)=(List.zipWith (fun s c=>s++(sign++bZ.out c false)) names ks).take i++[names[i]++(sign++ks[i].out false)]:=by
  rw [List.take_succ_eq_append_getElem (by rw [List.length_zipWith];omega),List.getElem_zipWith]
theorem CG {sign:Str} {names:List Str} (hs:sign.length<=10) (hnm: ∀s∈names,s.length<=80):(qz sign names ks).length<=100000000000:=by
  refine om (by rw [List.length_zipWith];omega) (fun s hm=> ?_) (by simp);obtain⟨i,hi⟩:=List.mem_iff_getElem?.1 hm;rw [List.getElem?_zipWith]at hi;cases a:names[i]? with
  |none=>rw [a]at hi;simp at hi
  |some x=>
    rw [a]at hi;cases b:ks[i]? with
    |none=>rw [b]at hi;simp at hi
    |some c=>
      rw [b]at hi;simp only [Option.some.injEq]at hi;subst hi;have h1:=hnm x (List.mem_of_getElem? a);have h2:=h.sm (List.mem_of_getElem? b) false;simp;omega
theorem uZ {n:Nd} (ha:n.args=al) (hle:n.names.length<=ks.length) (hnm: ∀s∈n.names,s.length<=80):Ev (fun k=>qB k ⟨e⟩ n) (qz [32,92,105,110,32] n.names ks):=by
  have hl:=h.len;have key:Ev (fun k=>nD k e n.kind n.n n.text n.names n.args ((List.zipWith (fun s c=>s++([32,92,105,110,32]++bZ.out c false)) n.names ks).take 0) n.names (n.names.length:Int) ((0:Nat):Int)) (List.zipWith (fun s c=>s++([32,92,105,110,32]++bZ.out c false)) n.names ks):=by
    refine jD (len:=n.names.length) (p:=fun i=>Ev (fun k=>nD k e n.kind n.n n.text n.names n.args ((List.zipWith (fun s c=>s++([32,92,105,110,32]++bZ.out c false)) n.names ks).take i) n.names (n.names.length:Int) (i:Int)) (List.zipWith (fun s c=>s++([32,92,105,110,32]++bZ.out c false)) n.names ks)) ?_ fun i hi ih=> ?_
    · refine Ev.succ ?_;simp only [nD];exact Ev.cF (jl _) (Ev.some' (by rw [List.take_of_length_le (by rw [List.length_zipWith];omega)]))
    · have hi':i<ks.length:=by omega
      have hi2:i<n.args.length:=by rw [ha];omega
      have hc:KI e n.args[i] ks[i]:=h.get (by rw [<-ha];exact aZ hi2) (aZ hi');have s1:=hnm _ (List.getElem_mem hi);have s2:=hc.sm false;refine Ev.succ ?_;simp only [nD,Int.toNat_natCast,aZ hi,aZ hi2,Option.bind_some,nn,if_true,kX hi,cond_true,dQ hi (show n.names.length<=1099511627776 by omega)];refine Ev.aQ (by simp;omega) (Ev.bind (hc.ev false) (Ev.aQ (by simp;omega) (Ev.aQ (by rw [List.length_take,List.length_zipWith];omega) ?_)));rw [abK h Js hi hi']at ih;exact ih
  refine Ev.succ ?_;simp only [qB];have hj:=CG h Js (sign:=[32,92,105,110,32]) (by simp) hnm;exact Ev.bind key (Ev.aQ (by rw [List.length_zipWith];omega) (Ev.aQ (Nat.le_trans hj (by omega)) Ev.some))
theorem PN {n:Nd} {sign:Str} (hs:sign.length<=10) (ha:n.args=al) (hle:n.names.length<=ks.length) (hnm: ∀s∈n.names,s.length<=80):Ev (fun k=>zq k ⟨e⟩ n sign) (qz sign n.names ks):=by
  have hl:=h.len;have key:Ev (fun k=>nE k sign e n.kind n.n n.text n.names n.args ((List.zipWith (fun s c=>s++(sign++bZ.out c false)) n.names ks).take 0) n.names (n.names.length:Int) ((0:Nat):Int)) (List.zipWith (fun s c=>s++(sign++bZ.out c false)) n.names ks):=by
    refine jD (len:=n.names.length) (p:=fun i=>Ev (fun k=>nE k sign e n.kind n.n n.text n.names n.args ((List.zipWith (fun s c=>s++(sign++bZ.out c false)) n.names ks).take i) n.names (n.names.length:Int) (i:Int)) (List.zipWith (fun s c=>s++(sign++bZ.out c false)) n.names ks)) ?_ fun i hi ih=> ?_
    · refine Ev.succ ?_;simp only [nE];exact Ev.cF (jl _) (Ev.some' (by rw [List.take_of_length_le (by rw [List.length_zipWith];omega)]))
    · have hi':i<ks.length:=by omega
      have hi2:i<n.args.length:=by rw [ha];omega
      have hc:KI e n.args[i] ks[i]:=h.get (by rw [<-ha];exact aZ hi2) (aZ hi');have s1:=hnm _ (List.getElem_mem hi);have s2:=hc.sm false;refine Ev.succ ?_;simp only [nE,Int.toNat_natCast,aZ hi,aZ hi2,Option.bind_some,nn,if_true,kX hi,cond_true,dQ hi (show n.names.length<=1099511627776 by omega)];refine Ev.aQ (by omega) (Ev.bind (hc.ev false) (Ev.aQ (by simp;omega) (Ev.aQ (by rw [List.length_take,List.length_zipWith];omega) ?_)));rw [abK h Js hi hi']at ih;exact ih
  refine Ev.succ ?_;simp only [zq];have hj:=CG h Js (sign:=sign) hs hnm;exact Ev.bind key (Ev.aQ (by rw [List.length_zipWith];omega) (Ev.aQ (Nat.le_trans hj (by omega)) Ev.some))
theorem Rw: ∀(l:List bZ),(lK l).length<=l.length
  |[]=>by simp [lK]
  |[c]=>by simp [lK]
  |c::d::l=>by have:=Rw l;simp only [lK,List.length_cons];omega
theorem ad4 (hm: ∀c∈ks,∀f,(c.out f).length<=1000000000): ∀(l:List bZ),(∀c∈l,c∈ks)-> ∀s∈lK l,s.length<=2000000100
  |[],_,s,hs=>by simp [lK]at hs
  |[c],hl,s,hs=>by
    simp only [lK,List.mem_singleton]at hs;have:=hm c (hl c (by simp)) false;subst hs;simp;omega
  |c::d::l,hl,s,hs=>by
    simp only [lK,List.mem_cons]at hs;rcases hs with rfl|hs
    · have:=hm c (hl c (by simp)) false;have:=hm d (hl d (by simp)) (!l.isEmpty);simp;omega
    · exact ad4 hm l (fun x hx=>hl x (by simp [hx])) s hs
theorem Zb {n:Nd} (ha:n.args=al): ∀(m i:Nat) (out:List Str),ks.length<=i+m->i<=ks.length->out.length<=i->Ev (fun k=>nG k e n.kind n.n n.text n.names n.args out ((ks.length:Int) -1) (i:Int)) (out++lK (ks.drop i)):=by
  have hl:=h.len;intro m
  induction m with
  |zero=>
    intro i out h1 h2 h3;refine Ev.succ ?_;simp only [nG];exact Ev.cF (decide_eq_false (by omega)) (Ev.some' (by rw [List.drop_of_length_le (by omega)];simp [lK]))
  |succ m ih=>
    intro i out h1 h2 h3;refine Ev.succ ?_;by_cases hi:i<ks.length
    · have hi2:i<n.args.length:=by rw [ha];omega
      have hc:KI e n.args[i] ks[i]:=h.get (by rw [<-ha];exact aZ hi2) (aZ hi);have s2:=hc.sm false;have hle:decide ((i:Int)<=(ks.length:Int) -1)=true:=decide_eq_true (by omega);by_cases hlast:i+1=ks.length
      · have hq:((i:Int)==(ks.length:Int) -1)=true:=by rw [beq_iff_eq];omega
        simp only [nG,Int.toNat_natCast,aZ hi2,Option.bind_some,nn,if_true,hle,hq,cond_true];refine Ev.bind (hc.ev false) (Ev.aQ (by simp;omega) (Ev.aQ (by omega) (Ev.some' ?_)));rw [drop_cons hi,List.drop_of_length_le (by omega)];rfl
      · have hq:((i:Int)==(ks.length:Int) -1)=false:=by rw [beq_eq_false_iff_ne];omega
        have hj:i+1<ks.length:=by omega
        have hj2:i+1<n.args.length:=by rw [ha];omega
        have hd:KI e n.args[i+1] ks[i+1]:=h.get (by rw [<-ha];exact aZ hj2) (aZ hj);have w1:IntKind.wrap .i64 ((i:Int)+1)=((i+1:Nat):Int):=dQ hi (by omega);have w2:IntKind.wrap .i64 ((i:Int)+2)=((i+2:Nat):Int):=by rw [wrap64 (by omega) (by omega)];omega
        have s3:=hd.sm (decide (((i+1:Nat):Int)<(ks.length:Int) -1));have hq2:(decide (((i+1:Nat):Int)<(ks.length:Int) -1))= !(ks.drop (i+2)).isEmpty:=by
          rw [Bool.eq_iff_iff];simp;omega
        rw [hq2]at s3;simp only [nG,w1,w2,hq2,Int.toNat_natCast,aZ hi2,aZ hj2,Option.bind_some,nn,if_true,hle,hq,cond_true,cond_false];refine Ev.bind (hc.ev false) (Ev.aQ (by simp;omega) (Ev.bind (hd.ev _) (Ev.aQ (by simp;omega) (Ev.aQ (by omega) ?_))));refine(ih (i+2) _ (by omega) (by omega) (by simp;omega)).to ?_;rw [drop_cons hi,drop_cons hj,lK,List.append_assoc];rfl
    · simp only [nG];exact Ev.cF (decide_eq_false (by omega)) (Ev.some' (by rw [List.drop_of_length_le (by omega)];simp [lK]))
end
end Go.VL
end
section
namespace Go.VL
open Tm
theorem abL {l:List Operator} {t:Str} (h:(bY l t).2=true):(bY l t).1∈l/\(bY l t).1.text=t:=by
  induction l with
  |nil=>simp [bY]at h
  |cons o l ih=>
    rw [bY]at h⊢;by_cases ho:o.text=t
    · rw [if_pos ho];exact⟨List.mem_cons_self,ho⟩
    · rw [if_neg ho]at h⊢;exact⟨List.mem_cons_of_mem _ (ih h).1,(ih h).2⟩
theorem ahe:dF.all (fun o=>decide (o.text≠[])&&decide (o.text.length<=20)&&(decide (o.fix=0)||decide (o.fix=1)||decide (o.fix=2))&&(!decide (o.fix=2)||decide (o.text=[39]))&&(decide (o.least=1)||decide (o.least=2))&&decide (o.most<=4)&&(!decide (o.fix=0)||decide (o.least=1))&&(!decide (o.fix=1)||decide (o.least=2))&&decide (0<o.low)&&(!decide (o.text=[45,46])||decide (o.fix=0))&&(!decide (o.fix=0)||(match o.text with|c::_=>decide (isLet c=true↔(65<=c.toNat/\c.toNat<=90))&& !(decide (o.text++[32]=[45,46]))|[]=>false)))=true:=by kernel_rfl
structure Yu (o:Operator):Prop where
  ne:o.text≠[]
  len:o.text.length<=20
  fix:o.fix=0\/o.fix=1\/o.fix=2
  post:o.fix=2->o.text=[39]
  least:1<=o.least
  neg:o.text=[45,46]->o.fix=0
  word:o.fix=0-> ∃c l,o.text=c::l/\(isLet c=true↔(65<=c.toNat/\c.toNat<=90))/\o.text++[32]≠[45,46]
theorem opF {t:Str} (h:(bY dF t).2=true):Yu (bY dF t).1:=by
  have:=List.all_eq_true.1 ahe _ (abL h).1;simp only [Bool.and_eq_true,Bool.or_eq_true,Bool.not_eq_true',decide_eq_true_eq,decide_eq_false_iff_not]at this;obtain⟨⟨⟨⟨⟨⟨⟨⟨⟨⟨h1,h2⟩,h3⟩,h4⟩,h5⟩,h6⟩,h7⟩,h8⟩,h9⟩,hn⟩,hw⟩:=this;refine⟨h1,h2,by rcases h3 with(h3|h3)|h3<;>simp [h3],fun h=>h4.resolve_left fun k=>k h,by rcases h5 with h5|h5<;>omega,fun h=>hn.resolve_left fun k=>k h,fun h=> ?_⟩;have hw:=hw.resolve_left fun k=>k h;cases ht:(bY dF t).1.text with
  |nil=>rw [ht]at hw;simp at hw
  |cons c l=>
    rw [ht]at hw;simp only [Bool.and_eq_true,Bool.not_eq_true',decide_eq_true_eq,decide_eq_false_iff_not]at hw;exact⟨c,l,rfl,hw.1,hw.2⟩
theorem TL (o x:Operator) (i:Nat) (is:Bool):wY o.text o.fix o.low o.high o.left o.least o.most (i:Int) x.text x.fix x.low x.high x.left x.least x.most is=some (is&&decide (x.low<=o.high)&& !(decide (i=0)&&decide (x.text=o.text)&&o.left)):=by
  unfold wY;cases is
  · rfl
  cases decide (x.low<=o.high)
  · rfl
  by_cases h:i=0
  · subst h;by_cases h2:x.text=o.text
    · rw [h2];simp
    · have:(x.text==o.text)=false:=by rw [beq_eq_false_iff_ne];exact h2
      simp [this,h2]
  · have:((i:Int)==0)=false:=by rw [beq_eq_false_iff_ne];omega
    simp [this,h]
theorem TM (o x:Operator) (is:Bool):wW o.text o.fix o.low o.high o.left o.least o.most x.text x.fix x.low x.high x.left x.least x.most is=some (is&&((decide (x.fix=0)&&decide (x.low<o.low))||(!decide (x.fix=0)&&decide (x.low<=o.high))||(decide (x.text=[45,46])&&decide (o.text=[45,46])))):=by
  unfold wW;have a1:(x.fix==0)=decide (x.fix=0):=rfl;have a2:(x.fix !=0)= !decide (x.fix=0):=rfl;have a3:(x.text==([45,46]:Str))=decide (x.text=[45,46]):=l8 _ _;have a4:(o.text==([45,46]:Str))=decide (o.text=[45,46]):=l8 _ _;rw [a1,a2,a3,a4];cases is<;>cases decide (x.fix=0)<;>cases decide (x.low<o.low)<;>cases decide (x.low<=o.high)<;>cases decide (x.text=[45,46])<;>rfl
theorem TN {o:Operator} (h:Yu o):wX o.text o.fix o.low o.high o.left o.least o.most o.text=some (Oq o):=by
  unfold wX Oq Bu;rw [l8];by_cases h1:o.text=[45,46]
  · simp [h1]
  · simp only [h1,decide_false,cond_false,if_false];have h2:=h.ne;have h3:=h.len;cases ht:o.text with
    |nil=>exact absurd ht h2
    |cons c l=>
      rw [ht]at h3;simp only [List.getElem?_cons_zero,Option.bind_some];by_cases a:65<=c.toNat
      · by_cases b:c.toNat<=90
        · simp [a,b,show(c.toNat:Int)>=65 by omega,show(c.toNat:Int)<=90 by omega];simp at h3;omega
        · simp [a,b,show(c.toNat:Int)>=65 by omega,show ¬(c.toNat:Int)<=90 by omega]
      · simp [a,show ¬(c.toNat:Int)>=65 by omega]
theorem Yv {o:Operator} (h:Yu o):(Oq o).length<=30:=by
  have:=h.len;unfold Oq;split
  · simp
  · cases ht:o.text with
    |nil=>simp
    |cons c l=>rw [ht]at this;simp only;split<;>simp at this⊢ <;>omega
theorem uj (o:Operator) (f:Bool): ∀(l:List bZ) (i:Nat),(lY o f i l).length=l.length
  |[],i=>rfl
  |c::l,i=>by rw [lY,List.length_cons,List.length_cons,uj o f l]
theorem Gx (o:Operator) (f:Bool): ∀(l:List bZ) (j i:Nat) (c:bZ),l[i]? =some c->(lY o f j l)[i]? =some (sM c (EM o (j+i) c) (f|| !decide (i+1=l.length)))
  |[],j,i,c,h=>by simp at h
  |d::l,j,0,c,h=>by
    simp at h;subst h;rw [lY,List.getElem?_cons_zero];congr 3
    cases l<;>simp
  |d::l,j,i+1,c,h=>by
    rw [lY,List.getElem?_cons_succ,Gx o f l (j+1) i c (by simpa using h)];simp [Nat.add_assoc,Nat.add_comm 1 i]
section
variable {e:List Nd} {al:List Int} {ks:List bZ} (h:KL e al ks) (Js:ks.length<=34)
include h Js
theorem TP (o:Operator) (f:Bool):Ev (fun k=>jG k f e o.text o.fix o.low o.high o.left o.least o.most [] (IntKind.wrap .i64 ((al.length:Int) -1)) al (al.length:Int) 0) (lY o f 0 ks):=by
  have hl:=h.len;have hw:IntKind.wrap .i64 ((al.length:Int) -1)=(al.length:Int) -1:=wrap64 (by omega) (by omega);have key:Ev (fun k=>jG k f e o.text o.fix o.low o.high o.left o.least o.most ((lY o f 0 ks).take 0) ((al.length:Int) -1) al (al.length:Int) ((0:Nat):Int)) (lY o f 0 ks):=by
    refine jD (len:=al.length) (p:=fun i=>Ev (fun k=>jG k f e o.text o.fix o.low o.high o.left o.least o.most ((lY o f 0 ks).take i) ((al.length:Int) -1) al (al.length:Int) (i:Int)) (lY o f 0 ks)) ?_ fun i hi ih=> ?_
    · refine Ev.succ ?_;simp only [jG];exact Ev.cF (jl _) (Ev.some' (by rw [hl,<-uj o f ks 0,List.take_length]))
    · have hi':i<ks.length:=by omega
      have hc:=h.get (aZ hi) (aZ hi');have hg:=Gx o f ks 0 i _ (aZ hi');rw [Nat.zero_add]at hg;have hli:i<(lY o f 0 ks).length:=by rw [uj];omega
      rw [aZ hli,Option.some.injEq]at hg;rw [List.take_succ_eq_append_getElem hli,hg]at ih;refine Ev.succ ?_;simp only [jG,Int.toNat_natCast,aZ hi,Option.bind_some,nn,if_true,kX hi,cond_true,dQ hi (show al.length<=1099511627776 by omega)];refine Ev.bind (y5 hc) (Ev.oP (TL o _ i _) ?_);have hm:(ks[i].op.2&&decide (ks[i].op.1.low<=o.high)&& !(decide (i=0)&&decide (ks[i].op.1.text=o.text)&&o.left))=EM o i ks[i]:=rfl;rw [hm];by_cases hlast:i+1=ks.length
      · have e1:(f|| !decide (i+1=ks.length))=f:=by simp [hlast]
        rw [e1]at ih;exact Ev.cF (decide_eq_false (by omega)) (Ev.bind (l6 hc _ _) (Ev.aQ (by rw [List.length_take];omega) ih))
      · have e1:(f|| !decide (i+1=ks.length))=true:=by simp [hlast]
        rw [e1]at ih;exact Ev.cT (decide_eq_true (by omega)) (Ev.bind (l6 hc _ _) (Ev.aQ (by rw [List.length_take];omega) ih))
  rw [hw];exact key
theorem ahh {o:Operator} (ho:Yu o) (f:Bool):(Lib.join (lY o f 0 ks) (32::(o.text++[32]))).length<=100000000000:=by
  have:=ho.len;refine om (by rw [uj];omega) (fun s hs=> ?_) (by simp;omega);obtain⟨i,hi⟩:=List.mem_iff_getElem?.1 hs;have hlt:=(List.getElem?_eq_some_iff.1 hi).1;rw [uj]at hlt;rw [Gx o f ks 0 i _ (aZ hlt),Option.some.injEq]at hi;subst hi;have:=lg (c:=ks[i]) (fun f=>h.sm (List.getElem_mem hlt) f) (EM o (0+i) ks[i]) (f|| !decide (i+1=ks.length));omega
theorem abM {a:Int} {n:Nd} (ha:0<=a) (hn:e[a.toNat]? =some n) (hal:n.args=al) {o:Operator} (ho:Yu o) (hne:ks≠[]) (f:Bool):Ev (fun k=>zN k ⟨e⟩ a o f) (Xn o ks f):=by
  have hlen:=ho.len;refine Ev.succ ?_;simp only [zN,ha,if_true,hn,Option.bind_some,hal];cases hks:ks with
  |nil=>exact absurd hks hne
  |cons c l=>
    subst hks;obtain⟨x,al',rfl⟩: ∃x al',al=x::al':=by cases h with|cons _ _=>exact⟨_,_,rfl⟩
    have hc:KI e x c:=h.get (i:=0) rfl rfl;unfold Xn;simp only [List.getElem?_cons_zero,Option.bind_some];by_cases f2:o.fix=2
    · rw [if_pos f2];have s1:=lg hc.sm (Oo o c) true;have s2:=lg hc.sm false true;refine Ev.cT (by rw [f2];rfl) (Ev.bind (y5 hc) ?_);unfold Oo at s1⊢;cases hop:c.op.2
      · refine Ev.cF rfl (Ev.bind (l6 hc _ _) (Ev.aQ (by omega) (Ev.some' ?_)));rfl
      · rw [hop]at s1;refine Ev.cT rfl (Ev.bind (l6 hc _ _) (Ev.aQ (by simp only [Bool.true_and]at s1;omega) (Ev.some' ?_)));rfl
    · rw [if_neg f2];refine Ev.cF (by rw [beq_eq_false_iff_ne];exact f2) ?_;by_cases f0:o.fix=0
      · rw [if_pos f0];have s1:=lg hc.sm (KF o c) f;have s2:=Yv ho;refine Ev.cT (by rw [f0];rfl) (Ev.bind (y5 hc) (Ev.oP (TM o _ _) (Ev.oP (TN ho) (Ev.bind (l6 hc _ _) ?_))));exact Ev.aQ (by unfold KF at s1;omega) Ev.some
      · rw [if_neg f0];have s1:=ahh h Js ho f;refine Ev.cF (by rw [beq_eq_false_iff_ne];exact f0) (Ev.bind (TP h Js o f) ?_);exact Ev.aQ (by simp;omega) (Ev.aQ (by simp;omega) (Ev.aQ (by rw [uj];omega) (Ev.aQ (by omega) Ev.some)))
end
end Go.VL
end
section
namespace Go.VL
open Tm
theorem ajr {s:Str} (h:Gm s=true):s.all gX=true:=by
  unfold Gm at h;rw [Bool.or_eq_true,Bool.or_eq_true,decide_eq_true_eq,decide_eq_true_eq]at h;rcases h with(h|h)|h
  · unfold rName bName at h;simp only [Bool.and_eq_true]at h;exact h.1.1.1.2
  · subst h;rfl
  · subst h;rfl
theorem Rx {p:UInt8->Bool}: ∀{a:Str} {c:UInt8} {r:Str},a.all p=true->p c=false->(a++c::r).takeWhile p=a/\(a++c::r).dropWhile p=c::r
  |[],c,r,h,hc=>by simp [List.takeWhile,List.dropWhile,hc]
  |x::a,c,r,h,hc=>by
    simp only [List.all_cons,Bool.and_eq_true]at h;have:=Rx (r:=r) h.2 hc;simp [List.takeWhile_cons,List.dropWhile_cons,h.1,this.1,this.2]
theorem Yw {p:UInt8->Bool}: ∀{a:Str} {r:Str},a.all p=false-> ∃c l,(a++r).dropWhile p=c::l/\c∈a
  |[],r,h=>by simp at h
  |x::a,r,h=>by
    by_cases hx:p x=true
    · simp only [List.all_cons,hx,Bool.true_and]at h;obtain⟨c,l,h1,h2⟩:=Yw (r:=r) h;exact⟨c,l,by simp [List.dropWhile_cons,hx,h1],by simp [h2]⟩
    · exact⟨x,a++r,by simp [List.dropWhile_cons,hx],by simp⟩
theorem ajs {s:Str} {o:Nat} (h:Lib.indexByte s 32=(o:Int)):s=s.take o++32::s.drop (o+1)/\ ∀c∈s.take o,c≠32:=by
  obtain⟨h1,h2⟩:=Lib.indexByte_some h;have hlt:=(List.getElem?_eq_some_iff.1 h1).1;have e1:s[o]=32:=by rw [aZ hlt]at h1;exact Option.some.inj h1
  refine⟨?_,fun c hc e=> ?_⟩
  · rw [<-e1,List.getElem_cons_drop,List.take_append_drop]
  · obtain⟨i,hi⟩:=List.mem_iff_getElem?.1 hc;rw [List.getElem?_take]at hi;split at hi
    · rename_i hio;subst e;exact h2 i hio hi
    · cases hi
theorem ahi {s:Str} {o:Nat} (h:Lib.indexByte s 32=(o:Int)):Ib s=(Gm (s.take o)&&decide ([92,105,110,32]<+:s.drop (o+1))):=by
  obtain⟨h1,h2⟩:=ajs h;generalize s.take o=a at h1 h2;generalize s.drop (o+1)=r at h1;subst h1;unfold Ib;by_cases ha:a.all gX=true
  · obtain⟨e1,e2⟩:=Rx (c:=32) (r:=r) ha (by rfl);rw [e1,e2];congr 1
    rw [decide_eq_decide];simp
  · have ha:a.all gX=false:=by simpa using ha
    have h3:Gm a=false:=by
      cases hn:Gm a with
      |false=>rfl
      |true=>rw [ajr hn]at ha;cases ha
    obtain⟨c,l,e1,e2⟩:=Yw (r:=32::r) ha;have h4:=h2 c e2;rw [h3,e1,Bool.false_and,Bool.and_eq_false_iff];right;rw [decide_eq_false_iff_not];rintro⟨t,ht⟩;simp only [List.cons_append,List.cons.injEq]at ht;exact h4 ht.1.symm
theorem afp {s:Str} (h:Lib.indexByte s 32= -1):Ib s=false:=by
  unfold Ib;rw [Bool.and_eq_false_iff];right;rw [decide_eq_false_iff_not];rintro⟨t,ht⟩;have hm:(32:UInt8)∈s:=by
    have:(32:UInt8)∈s.dropWhile gX:=by rw [<-ht];simp
    exact(List.dropWhile_sublist _).subset this
  obtain⟨i,hi⟩:=List.mem_iff_getElem?.1 hm;exact Lib.indexByte_none h i hi
theorem alJ (r:Str):dW r ([92,105,110,32]:Str)=some (decide ([92,105,110,32]<+:r)):=by
  unfold dW qX;by_cases h:4<=r.length
  · have e1:decide ((r.length:Int)>=(([92,105,110,32]:Str).length:Int))=true:=decide_eq_true (by simp<;>omega);rw [e1,cond_true,if_pos (by simpa using h),Option.bind_some,Option.some.injEq,l8,decide_eq_decide,List.prefix_iff_eq_take];exact eq_comm
  · have e1:decide ((r.length:Int)>=(([92,105,110,32]:Str).length:Int))=false:=decide_eq_false (by simp<;>omega);rw [e1,cond_false,Option.bind_some,Option.some.injEq,eq_comm,decide_eq_false_iff_not];intro hp;have:=hp.length_le;simp at this;omega
theorem Ry (s:Str):(Np s).length<=s.length+2:=by unfold Np;split<;>simp
theorem XA (s:Str) (X:Option Bool):(cond (rName s) X (cond (s==([66,79,79,76,69,65,78]:Str)) X (cond (s==([83,84,82,73,78,71]:Str)) X (some false))))=cond (Gm s) X (some false):=by
  unfold Gm;rw [l8,l8];cases rName s<;>cases decide (s=[66,79,79,76,69,65,78])<;>cases decide (s=[83,84,82,73,78,71])<;>rfl
section
variable {e:List Nd} {al:List Int} {ks:List bZ}
theorem afq {a:Int} {c:bZ} (h:KI e a c):Ev (fun k=>Fe k ⟨e⟩ a) (Np (c.out false)):=by
  have hs:=h.sm false;refine Ev.succ ?_;simp only [Fe];refine Ev.bind (h.ev false) ?_;generalize c.out false=s at hs;simp only [aaX,Option.bind_some];have hg:=Lib.indexByte_ge s 32;by_cases h0:Lib.indexByte s 32= -1
  · rw [h0];refine Ev.cF (by rfl) (Ev.bind (pW s) ?_);unfold Bv;simp only [alJ,Option.bind_some];have e1:=XA s (some (decide ([92,105,110,32]<+:([]:Str))));rw [show decide ([92,105,110,32]<+:([]:Str))=false by decide]at e1⊢;rw [e1];unfold Np;rw [afp h0];cases Gm s<;>exact Ev.some
  · obtain⟨o,ho⟩: ∃o:Nat,Lib.indexByte s 32=(o:Int):=⟨(Lib.indexByte s 32).toNat,by omega⟩;have hlt:=(List.getElem?_eq_some_iff.1 (Lib.indexByte_some ho).1).1;have hw:IntKind.wrap .i64 ((o:Int)+1)=((o+1:Nat):Int):=by rw [wrap64 (by omega) (by omega)];omega
    rw [ho];simp only [hw,Int.toNat_natCast];refine Ev.cT (by simp) (Ev.aQ (by omega) (Ev.aQ (by omega) (Ev.bind (pW _) ?_)));unfold EN;simp only [alJ,Option.bind_some];rw [XA (s.take o) (some (decide ([92,105,110,32]<+:s.drop (o+1))))];unfold Np;rw [ahi ho];cases Gm (s.take o)
    · exact Ev.some
    · simp only [cond_true,Bool.true_and,Option.bind_some];cases decide ([92,105,110,32]<+:s.drop (o+1))
      · exact Ev.some
      · exact Ev.aQ (by simp<;>omega) (Ev.aQ (by simp<;>omega) Ev.some)
theorem TQ {a:Int} {c:bZ} (h:KI e a c):Ev (fun k=>CB k ⟨e⟩ a) (sM c (c.op.2||decide (c.kind=0)) true):=by
  obtain⟨n,hn,hk,ht⟩:=h.nd;refine Ev.succ ?_;simp only [CB,h.nn,if_true,hn,Option.bind_some];refine Ev.bind (y5 h) ?_;cases c.op.2
  · refine Ev.cF rfl ?_;rw [hk];exact Ev.bind (l6 h _ _) Ev.some
  · exact Ev.cT rfl (Ev.bind (l6 h _ _) Ev.some)
theorem XB {a:Int} {c:bZ} (h:KI e a c):Ev (fun k=>nH k ⟨e⟩ a) (sM c (!(decide (c.kind=2)&&rName c.text)&& !decide (c.kind=4)) false):=by
  obtain⟨n,hn,hk,ht⟩:=h.nd;refine Ev.succ ?_;simp only [nH,h.nn,if_true,hn,Option.bind_some];refine Ev.bind (x:=decide (c.kind=2)&&rName c.text) ?_ ?_
  · unfold xL;rw [hk,ht];by_cases h2:c.kind=2
    · refine Ev.cT (by rw [h2];rfl) (Ev.bind (pW _) ?_);cases hr:rName c.text
      · exact Ev.cF rfl (Ev.some' (by simp))
      · refine Ev.cT rfl (Ev.bind (Em _ _ (by simp)) (Ev.some' ?_));have hf:tV c.text=false:=by
          unfold rName at hr;simp only [Bool.and_eq_true,Bool.not_eq_true']at hr;exact hr.1.2
        unfold tV at hf;simp only [Bool.or_eq_false_iff,decide_eq_false_iff_not]at hf;simp [h2,hf.1.1.1,hf.1.1.2,hf.1.2,hf.2]
    · refine Ev.cF (by rw [beq_eq_false_iff_ne];exact h2) (Ev.some' (by simp [h2]))
  · cases decide (c.kind=2)&&rName c.text
    · refine Ev.cF rfl (Ev.bind (l6 h _ _) (Ev.some' ?_));rw [hk];rfl
    · exact Ev.cT rfl (Ev.bind (l6 h _ _) Ev.some)
theorem ajt {names:List Str} (dX:names.length<=34) (hnm: ∀s∈names,s.length<=80):(ug names).1.length<=10000000000000/\(ug names).2.length<=10000000000000:=by
  match names with
  |[]=>simp [ug]
  |[x]=>have:=hnm x (by simp);simp [ug];omega
  |x::y::p=>
    have h1:=hnm x (by simp);have h2:=om (l:=y::p) (sep:=[44,32]) (by simp at dX⊢;omega) (fun s hs=>by have:=hnm s (List.mem_cons_of_mem _ hs);omega) (by simp);have h3:=om (l:=List.replicate (p.length+1) ([95]:Str)) (sep:=[44,32]) (by simp at dX⊢;omega) (fun s hs=>by rw [List.eq_of_mem_replicate hs];simp) (by simp);simp only [ug,List.length_append,List.length_cons,List.length_nil]at h3⊢;constructor<;>omega
theorem acW {x:Str} {p:List Str} (dX:p.length<=33) (hnm: ∀s∈x::p,s.length<=80):Gu p x x=some (ug (x::p)):=by
  have h1:=hnm x (by simp);unfold Gu
  match p with
  |[]=>rfl
  |y::p=>
    have h2:=om (l:=y::p) (sep:=[44,32]) (by simp at dX⊢;omega) (fun s hs=>by have:=hnm s (List.mem_cons_of_mem _ hs);omega) (by simp);have h3:=om (l:=List.replicate (p.length+1) ([95]:Str)) (sep:=[44,32]) (by simp at dX⊢;omega) (fun s hs=>by rw [List.eq_of_mem_replicate hs];simp) (by simp);have e1:decide (((y::p).length:Int)>0)=true:=decide_eq_true (by simp<;>omega);have e2:abA [([95]:Str)] ((y::p).length:Int)=some (List.replicate (p.length+1) [95]):=by
      unfold abA;rw [if_pos (by simp at dX⊢;omega)];rfl
    rw [e1,cond_true,e2,Option.bind_some];rw [if_pos (by simp at dX⊢;omega),if_pos (by omega),if_pos (by simp<;>omega),if_pos (by simp<;>omega),if_pos (by simp<;>omega),if_pos (by simp at dX⊢;omega),if_pos (by omega),if_pos (by simp<;>omega),if_pos (by simp<;>omega),if_pos (by simp<;>omega)];rfl
theorem aju {n:Nd} {x y:Int} {c d:bZ} (ha:n.args=[x,y]) (hc:KI e x c) (hd:KI e y d) (h1:1<=n.names.length) (dX:n.names.length<=34) (hnm: ∀s∈n.names,s.length<=80):Ev (fun k=>Ow k ⟨e⟩ n) (Xo n.n n.names (c.out false) (d.out false)):=by
  obtain⟨z,p,hp⟩: ∃z p,n.names=z::p:=by cases hq:n.names with|nil=>rw [hq]at h1;simp at h1|cons z p=>exact⟨z,p,rfl⟩
  have hj:=acW (x:=z) (p:=p) (by rw [hp]at dX;simpa using dX) (hp▸hnm);obtain⟨l1,l2⟩:=ajt dX hnm;have s1:=hc.sm false;have s2:=hd.sm false;rw [hp]at l1 l2;refine Ev.succ ?_;simp only [Ow,hp,ha,List.getElem?_cons_zero,List.getElem?_cons_succ,List.drop_succ_cons,List.drop_zero,Option.bind_some,hj];unfold Xo;refine Ev.aQ (by simp) ?_;by_cases hn:n.n=1
  · rw [if_pos hn];refine Ev.cT (by rw [hn];rfl) ?_;refine Ev.aQ (by simp<;>omega) (Ev.aQ (by simp<;>omega) (Ev.aQ (by simp<;>omega) (Ev.aQ (by simp<;>omega) (Ev.aQ (by simp<;>omega) (Ev.bind (hc.ev false) (Ev.aQ (by simp<;>omega) (Ev.aQ (by simp<;>omega) (Ev.bind (hd.ev false) (Ev.aQ (by simp<;>omega) (Ev.some' ?_))))))))));simp
  · rw [if_neg hn];refine Ev.cF (by rw [beq_eq_false_iff_ne];exact hn) ?_;exact Ev.aQ (by simp<;>omega) (Ev.aQ (by simp<;>omega) (Ev.bind (hc.ev false) (Ev.aQ (by simp<;>omega) (Ev.aQ (by simp<;>omega) (Ev.bind (hd.ev false) (Ev.aQ (by simp<;>omega) Ev.some))))))
end
end Go.VL
end
section
namespace Go.VL
open Tm
theorem kY {n:Nd} (h:bX true n=0) {a b c d:Int} {m:Bool} (hs:aY n.kind=((a,b,c,d),m)) (h3:n.kind≠3):(a<=n.names.length/\(n.names.length:Int)<=b)/\c<=(n.args.length:Int) -n.names.length*(if m=true then 1 else 0)/\(n.args.length:Int) -n.names.length*(if m=true then 1 else 0)<=d:=by
  unfold bX at h
  split at h;·cases h
  split at h;·cases h
  rename_i _ h1;have h1:nY n=true:=by simpa using h1
  unfold nY at h1;rw [hs]at h1;simp only [h3,decide_false,Bool.and_false,Bool.false_eq_true,if_false,gN,Bool.and_eq_true,decide_eq_true_eq]at h1;exact h1
theorem XC {n:Nd} (h:bX true n=0):0<=n.kind/\n.kind<=28:=by
  unfold bX at h
  split at h;·cases h
  rename_i h1;simpa [gN]using h1
theorem abN {n:Nd} (h:bX true n=0) (hk:n.kind=3) (ho:(bY dF n.text).2=true):(bY dF n.text).1.least<=n.args.length/\(n.args.length:Int)<=(bY dF n.text).1.most:=by
  unfold bX at h
  split at h;·cases h
  split at h;·cases h
  split at h;·cases h
  split at h;·cases h
  split at h
  · rename_i hc;exact absurd h hc
  · rename_i hc;have hc:qh n=0:=by simpa using hc
    unfold qh at hc
    split at hc;·cases hc
    simp only [hk,Int.reduceEq,if_false,if_true,ho]at hc;simp only [Bool.true_or,if_true,Bool.true_and]at hc;split at hc
    · cases hc
    · rename_i h2;simpa [gN]using h2
theorem awC {n:Nd} (h:bX true n=0) (hk:n.kind=3) (ho:(bY dF n.text).2=false):1<=n.args.length:=by
  unfold bX at h
  split at h;·cases h
  split at h;·cases h
  rename_i _ h1;have h1:nY n=true:=by simpa using h1
  unfold nY at h1;have hs:aY 3=((0,0,1,4),false):=by kernel_rfl
  rw [hk,hs,ho]at h1;simp [gN]at h1;omega
theorem len2 {α:Type} {l:List α} (h:l.length=2): ∃a b,l=[a,b]:=by
  match l,h with
  |[a,b],_=>exact⟨a,b,rfl⟩
theorem abO {α:Type} {l:List α} (h:l.length=3): ∃a b c,l=[a,b,c]:=by
  match l,h with
  |[a,b,c],_=>exact⟨a,b,c,rfl⟩
theorem Rz {α:Type} {l:List α} (h:1<=l.length): ∃a m,l=a::m:=by
  match l,h with
  |a::m,_=>exact⟨a,m,rfl⟩
structure Sml (n:Nd):Prop where
  text:n.text.length<=80
  names:n.names.length<=34
  each: ∀s∈n.names,s.length<=80
  args:n.args.length<=34
  num: -10000000<=n.n/\n.n<=10000000
section
variable {e:List Nd} {ks:List bZ} {n:Nd} (h:KL e n.args ks) (hS:Sml n)
include h
theorem KL.two (hl:n.args.length=2): ∃x y c d,n.args=[x,y]/\ks=[c,d]/\KI e x c/\KI e y d:=by
  obtain⟨x,y,h1⟩:=len2 hl;obtain⟨c,d,h2⟩:=len2 (l:=ks) (by rw [<-h.len];exact hl);refine⟨x,y,c,d,h1,h2,h.get (i:=0) (by rw [h1];rfl) (by rw [h2];rfl),h.get (i:=1) (by rw [h1];rfl) (by rw [h2];rfl)⟩
theorem KL.three (hl:n.args.length=3): ∃x y z c d f,n.args=[x,y,z]/\ks=[c,d,f]/\KI e x c/\KI e y d/\KI e z f:=by
  obtain⟨x,y,z,h1⟩:=abO hl;obtain⟨c,d,f,h2⟩:=abO (l:=ks) (by rw [<-h.len];exact hl);refine⟨x,y,z,c,d,f,h1,h2,h.get (i:=0) (by rw [h1];rfl) (by rw [h2];rfl),h.get (i:=1) (by rw [h1];rfl) (by rw [h2];rfl),h.get (i:=2) (by rw [h1];rfl) (by rw [h2];rfl)⟩
theorem KL.one (hl:1<=n.args.length): ∃x al c l,n.args=x::al/\ks=c::l/\KI e x c/\KL e al l:=by
  obtain⟨x,al,h1⟩:=Rz hl;obtain⟨c,l,h2⟩:=Rz (l:=ks) (by rw [<-h.len];exact hl);rw [h1,h2]at h;cases h with|cons a b=>exact⟨x,al,c,l,h1,h2,a,b⟩
include hS
theorem KL.last (hl:1<=n.args.length): ∃x c,IntKind.wrap .i64 ((n.args.length:Int) -1)=((n.args.length -1:Nat):Int)/\n.args[n.args.length -1]? =some x/\KI e x c/\nA ks=c.out false:=by
  have hk:=h.len;have hs:=hS.args;refine⟨_,ks[n.args.length -1]'(by omega),?_,aZ (by omega),h.get (aZ (by omega)) (aZ (by omega)),?_⟩
  · rw [wrap64 (by omega) (by omega)];omega
  · unfold nA iX;have e1:ks[n.args.length -1]? =some (ks[n.args.length -1]'(by omega)):=aZ (by omega);have e2:ks[ks.length -1]? =ks[n.args.length -1]? :=by rw [hk]
    rw [e2,e1]
theorem ahj (hV:bX true n=0) (hk:mG n.kind=true):Ev (fun k=>JO k ⟨e⟩ n) (yV n.kind n.n n.text n.names ks):=by
  have hl:=h.len;obtain⟨hS1,hS2,qI,hS4,hS5⟩:=hS;have hS:Sml n:=⟨hS1,hS2,qI,hS4,hS5⟩;have dX:ks.length<=34:=by omega
  have Jh:=om (l:=n.names) (sep:=[44,32]) (by omega) (fun s hs=>by have:=qI s hs;omega) (by simp);have hzj:=CG h dX (sign:=[32,92,105,110,32]) (by simp) qI;have h1:1<=n.args.length:=by
    have h3:n.kind≠3:=by intro e;rw [e]at hk;revert hk;decide
    unfold mG at hk;simp only [List.mem_cons,List.not_mem_nil,or_false,decide_eq_true_eq]at hk;rcases hk with hk|hk|hk|hk|hk|hk|hk|hk|hk
    · have:=kY hV (show aY n.kind=((1,4,1,1),true) by rw [hk];kernel_rfl) h3;simp at this;omega
    · have:=kY hV (show aY n.kind=((1,4,1,1),true) by rw [hk];kernel_rfl) h3;simp at this;omega
    · have:=kY hV (show aY n.kind=((1,4,1,1),false) by rw [hk];kernel_rfl) h3;simp at this;omega
    · have:=kY hV (show aY n.kind=((1,4,1,1),false) by rw [hk];kernel_rfl) h3;simp at this;omega
    · have:=kY hV (show aY n.kind=((1,1,2,2),false) by rw [hk];kernel_rfl) h3;simp at this;omega
    · have:=kY hV (show aY n.kind=((0,0,3,3),false) by rw [hk];kernel_rfl) h3;simp at this;omega
    · have:=kY hV (show aY n.kind=((0,0,2,30),false) by rw [hk];kernel_rfl) h3;simp at this;omega
    · have:=kY hV (show aY n.kind=((1,5,2,2),false) by rw [hk];kernel_rfl) h3;simp at this;omega
    · have:=kY hV (show aY n.kind=((1,4,1,1),false) by rw [hk];kernel_rfl) h3;simp at this;omega
  obtain⟨x,c,w,hx,hc,hlast⟩:=h.last hS h1;have sc:=hc.sm false;have h3:n.kind≠3:=by intro e;rw [e]at hk;revert hk;decide
  refine Ev.succ ?_;simp only [JO,w,nn,if_true,Int.toNat_natCast,hx,Option.bind_some];refine Ev.bind (hc.ev false) ?_;unfold yV;unfold mG at hk;simp only [List.mem_cons,List.not_mem_nil,or_false,decide_eq_true_eq]at hk;rcases hk with hk|hk|hk|hk|hk|hk|hk|hk|hk
  · have:=kY hV (show aY n.kind=((1,4,1,1),true) by rw [hk];kernel_rfl) h3;simp only [hk,Int.reduceBEq,Int.reduceEq,↓reduceIte,cond_true,cond_false,hlast]at this⊢;exact Ev.bind (uZ h dX rfl (by omega) qI) (Ev.aQ (by simp<;>omega) (Ev.aQ (by simp<;>omega) (Ev.aQ (by simp<;>omega) Ev.some)))
  · have:=kY hV (show aY n.kind=((1,4,1,1),true) by rw [hk];kernel_rfl) h3;simp only [hk,Int.reduceBEq,Int.reduceEq,↓reduceIte,cond_true,cond_false,hlast]at this⊢;exact Ev.bind (uZ h dX rfl (by omega) qI) (Ev.aQ (by simp<;>omega) (Ev.aQ (by simp<;>omega) (Ev.aQ (by simp<;>omega) Ev.some)))
  · simp only [hk,Int.reduceBEq,Int.reduceEq,↓reduceIte,cond_true,cond_false,hlast];exact Ev.aQ (by omega) (Ev.aQ (by omega) (Ev.aQ (by simp<;>omega) (Ev.aQ (by simp<;>omega) (Ev.aQ (by simp<;>omega) Ev.some))))
  · simp only [hk,Int.reduceBEq,Int.reduceEq,↓reduceIte,cond_true,cond_false,hlast];exact Ev.aQ (by omega) (Ev.aQ (by omega) (Ev.aQ (by simp<;>omega) (Ev.aQ (by simp<;>omega) (Ev.aQ (by simp<;>omega) Ev.some))))
  · have:=kY hV (show aY n.kind=((1,1,2,2),false) by rw [hk];kernel_rfl) h3;simp only [hk,Int.reduceBEq,Int.reduceEq,↓reduceIte,cond_true,cond_false,hlast]at this⊢;exact Ev.bind (uZ h dX rfl (by omega) qI) (Ev.aQ (by simp<;>omega) (Ev.aQ (by simp<;>omega) (Ev.aQ (by simp<;>omega) Ev.some)))
  · have:=kY hV (show aY n.kind=((0,0,3,3),false) by rw [hk];kernel_rfl) h3;simp only [Bool.false_eq_true,if_false]at this;obtain⟨x,y,z,c',d,f,q1,rfl,k1,k2,k3⟩:=h.three (by omega);have s1:=k1.sm false;have s2:=k2.sm false;simp only [hk,q1,Int.reduceBEq,Int.reduceEq,↓reduceIte,cond_true,cond_false,List.getElem?_cons_zero,List.getElem?_cons_succ,Option.bind_some,iX];have hl3:f.out false=c.out false:=hlast;rw [hl3];exact Ev.bind (k1.ev false) (Ev.aQ (by simp<;>omega) (Ev.aQ (by simp<;>omega) (Ev.bind (k2.ev false) (Ev.aQ (by simp<;>omega) (Ev.aQ (by simp<;>omega) (Ev.aQ (by simp<;>omega) Ev.some))))))
  · simp only [hk,Int.reduceBEq,Int.reduceEq,↓reduceIte,cond_true,cond_false];refine Ev.bind (Ev.succ ?_) Ev.some;simp only [JN];have hj:=om (l:=lK ks) (sep:=[32,91,93,32]) (by have:=Rw h dX ks;omega) (ad4 h dX (fun c hc f=>h.sm hc f) ks fun c hc=>hc) (by simp);have hcs:=Zb h dX (n:=n) rfl ks.length 0 [] (by omega) (by omega) (by simp);have w':IntKind.wrap .i64 ((n.args.length:Int) -1)=(ks.length:Int) -1:=by rw [w];omega
    rw [w'];refine Ev.bind (x:=lK ks) (hcs.to (by simp)) ?_;exact Ev.aQ (by have:=Rw h dX ks;omega) (Ev.aQ (by omega) (Ev.aQ (by simp<;>omega) Ev.some))
  · have:=kY hV (show aY n.kind=((1,5,2,2),false) by rw [hk];kernel_rfl) h3;simp only [Bool.false_eq_true,if_false]at this;obtain⟨x,y,c',d,q1,rfl,k1,k2⟩:=h.two (by omega);simp only [hk,Int.reduceBEq,Int.reduceEq,↓reduceIte,cond_true,cond_false];exact Ev.bind (aju q1 k1 k2 (by omega) hS2 qI) Ev.some
  · simp only [hk,Int.reduceBEq,Int.reduceEq,↓reduceIte,cond_true,cond_false,hlast];exact Ev.aQ (by omega) (Ev.aQ (by omega) (Ev.aQ (by simp<;>omega) (Ev.aQ (by simp<;>omega) (Ev.aQ (by simp<;>omega) Ev.some))))
end
end Go.VL
end
section
namespace Go.VL
open Tm
theorem XD {c d:bZ}:abz [c,d]=sM d (!(decide (d.kind=2)&&rName d.text)&& !decide (d.kind=4)) false:=rfl
theorem xP {c:bZ} {l:List bZ}:aby (c::l)=sM c (c.op.2||decide (c.kind=0)) true:=rfl
section
variable {e:List Nd} {ks:List bZ} {n:Nd} (h:KL e n.args ks) (hS:Sml n)
include h hS
theorem ahk (hV:bX true n=0) (hk:mG n.kind=false) {a:Int} (ha:0<=a) (hn:e[a.toNat]? =some n):Ev (fun k=>Gw k ⟨e⟩ a) (yV n.kind n.n n.text n.names ks):=by
  have hl:=h.len;obtain⟨hS1,hS2,qI,hS4,hS5⟩:=hS;have hS:Sml n:=⟨hS1,hS2,qI,hS4,hS5⟩;have dX:ks.length<=34:=by omega
  have hzj:=CG h dX (sign:=[32,92,105,110,32]) (by simp) qI;have hlj:(yj ks).length<=100000000000:=om (by simp;omega) (fun s hs=>by obtain⟨c,hc,rfl⟩:=List.mem_map.1 hs;have:=h.sm hc false;omega) (by simp);have hb:=XC hV;have hno:n.kind≠8/\n.kind≠9/\n.kind≠10/\n.kind≠11/\n.kind≠12/\n.kind≠21/\n.kind≠22/\n.kind≠23/\n.kind≠24:=by
    unfold mG at hk;simpa using hk
  have hall:n.kind=0\/n.kind=1\/n.kind=2\/n.kind=3\/n.kind=4\/n.kind=5\/n.kind=6\/n.kind=7\/n.kind=13\/n.kind=14\/n.kind=15\/n.kind=16\/n.kind=17\/n.kind=18\/n.kind=19\/n.kind=20\/n.kind=25\/n.kind=26\/n.kind=27\/n.kind=28:=by omega
  refine Ev.succ ?_;simp only [Gw,ha,if_true,hn,Option.bind_some];unfold yV;rcases hall with hk|hk|hk|hk|hk|hk|hk|hk|hk|hk|hk|hk|hk|hk|hk|hk|hk|hk|hk|hk<;>simp only [hk,Int.reduceBEq,Int.reduceEq,↓reduceIte,cond_true,cond_false]
  · exact Ev.aQ (by omega) Ev.some
  · exact Ev.aQ (by simp<;>omega) (Ev.aQ (by simp<;>omega) Ev.some)
  · exact Ev.some
  · exact Ev.aQ (by simp<;>omega) (Ev.bind (Ih h dX) (Ev.aQ (by simp<;>omega) (Ev.aQ (by simp<;>omega) Ev.some)))
  · exact Ev.bind (Ih h dX) (Ev.aQ (by simp<;>omega) (Ev.aQ (by simp<;>omega) Ev.some))
  · exact Ev.bind (Ih h dX) (Ev.aQ (by simp<;>omega) (Ev.aQ (by simp<;>omega) Ev.some))
  · have:=kY hV (show aY n.kind=((1,1,2,2),false) by rw [hk];kernel_rfl) (by omega);simp only [Bool.false_eq_true,if_false]at this;have hbn:=uZ h dX rfl (by omega) qI;obtain⟨x,y,c,d,q1,rfl,k1,k2⟩:=h.two (by omega);have s2:=k2.sm false;refine Ev.bind hbn (Ev.aQ (by simp<;>omega) (Ev.aQ (by simp<;>omega) ?_));simp only [q1,List.getElem?_cons_zero,List.getElem?_cons_succ,Option.bind_some,iX];exact Ev.bind (k2.ev false) (Ev.aQ (by simp<;>omega) (Ev.aQ (by simp<;>omega) Ev.some))
  · have:=kY hV (show aY n.kind=((1,4,1,1),true) by rw [hk];kernel_rfl) (by omega);simp only [if_true]at this;obtain⟨x,c,w,hx,hc,hlast⟩:=h.last hS (by omega);have sc:=hc.sm false;have si:=Ry (c.out false);simp only [w,nn,if_true,Int.toNat_natCast,hx,Option.bind_some,hlast];exact Ev.bind (afq hc) (Ev.aQ (by simp<;>omega) (Ev.aQ (by simp<;>omega) (Ev.bind (uZ h dX rfl (by omega) qI) (Ev.aQ (by simp<;>omega) (Ev.aQ (by simp<;>omega) Ev.some)))))
  · have:=kY hV (show aY n.kind=((1,4,1,1),true) by rw [hk];kernel_rfl) (by omega);simp only [if_true]at this;obtain⟨x,c,w,hx,hc,hlast⟩:=h.last hS (by omega);have sc:=hc.sm false;refine Ev.bind (uZ h dX rfl (by omega) qI) (Ev.aQ (by simp<;>omega) (Ev.aQ (by simp<;>omega) ?_));simp only [w,nn,if_true,Int.toNat_natCast,hx,Option.bind_some,hlast];exact Ev.bind (hc.ev false) (Ev.aQ (by simp<;>omega) (Ev.aQ (by simp<;>omega) Ev.some))
  · have:=kY hV (show aY n.kind=((0,0,2,5),false) by rw [hk];kernel_rfl) (by omega);simp only [Bool.false_eq_true,if_false]at this;obtain⟨x,al,c,l,q1,rfl,k1,k2⟩:=h.one (by omega);have s1:=lg k1.sm (c.op.2||decide (c.kind=0)) true;have l34:l.length<=34:=by simp at dX;omega
    have hlj:(yj l).length<=100000000000:=om (by simp;omega) (fun s hs=>by obtain⟨c,hc,rfl⟩:=List.mem_map.1 hs;have:=k2.sm hc false;omega) (by simp);simp only [q1,List.getElem?_cons_zero,Option.bind_some,List.drop_succ_cons,List.drop_zero,xP];exact Ev.bind (TQ k1) (Ev.aQ (by simp<;>omega) (Ev.aQ (by simp) (Ev.bind (Ih k2 l34) (Ev.aQ (by simp<;>omega) (Ev.aQ (by simp<;>omega) Ev.some)))))
  · have:=kY hV (show aY n.kind=((0,0,2,2),false) by rw [hk];kernel_rfl) (by omega);simp only [Bool.false_eq_true,if_false]at this;obtain⟨x,y,c,d,q1,rfl,k1,k2⟩:=h.two (by omega);have s1:=k1.sm false;have s2:=k2.sm false;simp only [q1,List.getElem?_cons_zero,List.getElem?_cons_succ,Option.bind_some,iX];exact Ev.bind (k1.ev false) (Ev.aQ (by simp<;>omega) (Ev.aQ (by simp<;>omega) (Ev.bind (k2.ev false) (Ev.aQ (by simp<;>omega) (Ev.aQ (by simp<;>omega) Ev.some)))))
  · have:=kY hV (show aY n.kind=((1,30,0,0),true) by rw [hk];kernel_rfl) (by omega);simp only [if_true]at this;have hz:=CG h dX (sign:=[32,124,45,62,32]) (by simp) qI;exact Ev.bind (PN h dX (by simp) rfl (by omega) qI) (Ev.aQ (by simp<;>omega) (Ev.aQ (by simp<;>omega) Ev.some))
  · have:=kY hV (show aY n.kind=((1,30,0,0),true) by rw [hk];kernel_rfl) (by omega);simp only [if_true]at this;have hz:=CG h dX (sign:=[32,58,32]) (by simp) qI;exact Ev.bind (PN h dX (by simp) rfl (by omega) qI) (Ev.aQ (by simp<;>omega) (Ev.aQ (by simp<;>omega) Ev.some))
  · have:=kY hV (show aY n.kind=((0,0,1,1),false) by rw [hk];kernel_rfl) (by omega);simp only [Bool.false_eq_true,if_false]at this;obtain⟨x,al,c,l,q1,rfl,k1,k2⟩:=h.one (by omega);have s1:=lg k1.sm (c.op.2||decide (c.kind=0)) true;simp only [q1,List.getElem?_cons_zero,Option.bind_some,xP];exact Ev.bind (TQ k1) (Ev.aQ (by simp<;>omega) (Ev.aQ (by simp<;>omega) Ev.some))
  · have:=kY hV (show aY n.kind=((0,0,3,3),false) by rw [hk];kernel_rfl) (by omega);simp only [Bool.false_eq_true,if_false]at this;obtain⟨x,y,z,c,d,f,q1,rfl,k1,k2,k3⟩:=h.three (by omega);have s1:=k1.sm false;have s2:=k2.sm false;have s3:=k3.sm false;simp only [q1,List.getElem?_cons_zero,List.getElem?_cons_succ,Option.bind_some,iX];exact Ev.bind (k1.ev false) (Ev.aQ (by simp<;>omega) (Ev.aQ (by simp<;>omega) (Ev.bind (k2.ev false) (Ev.aQ (by simp<;>omega) (Ev.aQ (by simp<;>omega) (Ev.bind (k3.ev false) (Ev.aQ (by simp<;>omega) (Ev.aQ (by simp<;>omega) Ev.some))))))))
  · exact Ev.some
  all_goals
    have:=kY hV (show aY n.kind=((0,0,2,2),false) by rw [hk];kernel_rfl) (by omega);simp only [Bool.false_eq_true,if_false]at this;obtain⟨x,y,c,d,q1,rfl,k1,k2⟩:=h.two (by omega);have s1:=k1.sm false;have hsub:=XB k2;simp only [q1,List.getElem?_cons_zero,List.getElem?_cons_succ,Option.bind_some,iX,XD];generalize(!(decide (d.kind=2)&&rName d.text)&& !decide (d.kind=4))=m at hsub⊢;have s2:=lg k2.sm m false
  · exact Ev.bind (k1.ev false) (Ev.aQ (by simp<;>omega) (Ev.aQ (by simp<;>omega) (Ev.bind hsub (Ev.aQ (by simp<;>omega) Ev.some))))
  · exact Ev.bind (k1.ev false) (Ev.aQ (by simp<;>omega) (Ev.aQ (by simp<;>omega) (Ev.bind hsub (Ev.aQ (by simp<;>omega) Ev.some))))
  · exact Ev.bind hsub (Ev.aQ (by simp<;>omega) (Ev.aQ (by simp<;>omega) (Ev.bind (k1.ev false) (Ev.aQ (by simp<;>omega) (Ev.aQ (by simp<;>omega) Ev.some)))))
  · exact Ev.bind hsub (Ev.aQ (by simp<;>omega) (Ev.aQ (by simp<;>omega) (Ev.bind (k1.ev false) (Ev.aQ (by simp<;>omega) (Ev.aQ (by simp<;>omega) Ev.some)))))
theorem ahl (hV:bX true n=0) {a:Int} (ha:0<=a) (hn:e[a.toNat]? =some n) (hlen: ∀f,(Ic n ks f).length<=1000000000) (f:Bool):Ev (fun k=>dY k ⟨e⟩ a f) (Ic n ks f):=by
  have hl:=h.len;have dX:ks.length<=34:=by have:=hS.args;omega
  have key: ∀f:Bool,(f&&mG n.kind)=false->Ev (fun k=>dY k ⟨e⟩ a f) (Jb n.kind n.n n.text n.names ks f):=by
    intro f hf;refine Ev.succ ?_;simp only [dY];refine Ev.bind (x:=f&&mG n.kind) ?_ ?_
    · unfold Dx;cases f
      · exact Ev.some
      · simp only [cond_true,ha,if_true,hn,Option.bind_some,Bool.true_and];exact Ev.bind (PL _) Ev.some
    · rw [hf];refine Ev.cF rfl (Ev.bind (x:=uf n.kind n.text) ?_ ?_)
      · unfold nC uf;simp only [hn,Option.bind_some,ha,if_true];by_cases h3:n.kind=3
        · simp only [h3,bne_self_eq_false,cond_false,if_true];refine Ev.bind (rD _) (Ev.some' ?_);generalize bY dF n.text=q;rfl
        · refine Ev.cT (by rw [bne_iff_ne];exact h3) (Ev.some' ?_);rw [if_neg h3];rfl
      · unfold Jb;cases hop:(uf n.kind n.text).2
        · rw [if_neg (by simp)];refine Ev.cF rfl (Ev.bind ?_ Ev.some);by_cases ho:mG n.kind=true
          ·
            have:=ahj h hS hV ho;refine Ev.succ ?_;simp only [Gw,ha,if_true,hn,Option.bind_some];have hk:=ho;unfold mG at hk;simp only [List.mem_cons,List.not_mem_nil,or_false,decide_eq_true_eq]at hk;have h3: ∀m:Int,mG m=false->(n.kind==m)=false:=fun m hm=>by
              rw [beq_eq_false_iff_ne];intro e;rw [e,hm]at ho;cases ho
            simp only [h3 0 (by decide),h3 1 (by decide),h3 2 (by decide),h3 3 (by decide),h3 4 (by decide),h3 5 (by decide),h3 6 (by decide),h3 7 (by decide),h3 13 (by decide),h3 14 (by decide),h3 15 (by decide),h3 16 (by decide),h3 17 (by decide),h3 18 (by decide),h3 19 (by decide),h3 20 (by decide),h3 25 (by decide),h3 26 (by decide),h3 27 (by decide),h3 28 (by decide),cond_false];exact Ev.bind this Ev.some
          · exact ahk h hS hV (by simpa using ho) ha hn
        · rw [if_pos rfl];refine Ev.cT rfl (Ev.bind ?_ Ev.some);have h3:n.kind=3:=by
            refine Decidable.byContradiction fun h3=> ?_;unfold uf at hop;rw [if_neg h3]at hop;simp [yC]at hop
          have e1:uf n.kind n.text=bY dF n.text:=by unfold uf;rw [if_pos h3]
          rw [e1]at hop⊢;have hO:=opF hop;have har:=abN hV h3 hop;have hle:=hO.least;generalize hq:(bY dF n.text).1=o at hO har hle⊢;exact abM h dX ha hn rfl hO (by intro e;rw [e]at hl;simp at hl;rw [hl]at har;simp at har;omega) f
  unfold Ic;cases hf:(f&&mG n.kind)
  · rw [if_neg (by simp)];exact key f hf
  · rw [if_pos rfl];have hf':f=true/\mG n.kind=true:=by simpa using hf
    have hl1:=hlen false;unfold Ic at hl1;rw [if_neg (by simp)]at hl1;refine Ev.succ ?_;simp only [dY];refine Ev.bind (x:=true) ?_ ?_
    · unfold Dx;rw [hf'.1];simp only [cond_true,ha,if_true,hn,Option.bind_some];exact Ev.bind (PL _) (Ev.some' hf'.2)
    · refine Ev.cT rfl (Ev.bind (Ev.succ ?_) Ev.some);simp only [wZ];exact Ev.bind (key false rfl) (Ev.aQ (by simp<;>omega) (Ev.aQ (by simp<;>omega) Ev.some))
end
end Go.VL
end
section
namespace Go.VL
open Tm
def wK (c:bZ):Nat:=max (c.out true).length (c.out false).length
def wL:List bZ->Nat
  |[]=>0
  |c::l=>wK c+wL l
theorem jS (c:bZ) (f:Bool):(c.out f).length<=wK c:=by unfold wK;cases f<;>omega
theorem Fg (c:bZ) (m f:Bool):(sM c m f).length<=wK c+2:=by
  unfold sM;have:=jS c false;have:=jS c f;split<;>simp<;>omega
theorem Yx: ∀l m:List bZ,wL (l++m)=wL l+wL m
  |[],m=>by simp [wL]
  |c::l,m=>by simp only [List.cons_append,wL,Yx l m];omega
def tot:List Str->Nat
  |[]=>0
  |s::l=>s.length+tot l
theorem ajv: ∀(l:List Str) (sep:Str),(Lib.join l sep).length<=tot l+l.length*sep.length
  |[],sep=>by simp [Lib.join_nil]
  |a::l,sep=>by
    rw [Bt,List.length_append,tot,List.length_cons,Nat.add_mul,Nat.one_mul];have: ∀l:List Str,(Lib.joinTail sep l).length<=tot l+l.length*sep.length:=by
      intro l
      induction l with
      |nil=>simp [Lib.joinTail,tot]
      |cons b l ih=>
        simp only [Lib.joinTail,List.map_cons,List.flatten_cons,List.length_append,List.length_cons,tot,Nat.add_mul,Nat.one_mul]at ih⊢;omega
    have:=this l;omega
theorem KQ {l:List Str} {sep:Str} {w d:Nat} (h:tot l<=w+l.length*d) (hl:l.length<=34) (hd:d+sep.length<=200):(Lib.join l sep).length<=w+6800:=by
  have h1:=ajv l sep;have h2:l.length*(d+sep.length)<=34*200:=Nat.mul_le_mul hl hd;rw [Nat.mul_add]at h2;omega
theorem ad6: ∀ks:List bZ,tot (ks.map fun c=>c.out false)<=wL ks+(ks.map fun c=>c.out false).length*0
  |[]=>by simp [tot,wL]
  |c::l=>by have:=ad6 l;have:=jS c false;simp only [List.map_cons,tot,wL,Nat.mul_zero]at*;omega
theorem ad7 (sign:Str) (hs:sign.length<=10): ∀(names:List Str) (ks:List bZ),(∀s∈names,s.length<=80)->tot (List.zipWith (fun s c=>s++(sign++bZ.out c false)) names ks)<=wL ks+(List.zipWith (fun s c=>s++(sign++bZ.out c false)) names ks).length*90
  |[],ks,h=>by simp [tot]
  |s::names,[],h=>by simp [tot]
  |s::names,c::ks,h=>by
    have h1:=ad7 sign hs names ks fun x hx=>h x (List.mem_cons_of_mem _ hx);have h2:=h s (by simp);have h3:=jS c false;simp only [List.zipWith_cons_cons,tot,wL,List.length_append,List.length_cons,Nat.add_mul,Nat.one_mul]at*;omega
theorem ad8 (o:Operator) (f:Bool): ∀(i:Nat) (ks:List bZ),tot (lY o f i ks)<=wL ks+(lY o f i ks).length*2
  |i,[]=>by simp [lY,tot]
  |i,c::ks=>by
    have h1:=ad8 o f (i+1) ks;have h2:=Fg c (EM o i c) (f|| !ks.isEmpty);simp only [lY,tot,wL,List.length_cons,Nat.add_mul,Nat.one_mul]at*;omega
theorem ahm: ∀(l:List bZ),(lK l).length<=l.length
  |[]=>by simp [lK]
  |[c]=>by simp [lK]
  |c::d::l=>by have:=ahm l;simp only [lK,List.length_cons];omega
theorem ad9: ∀ks:List bZ,tot (lK ks)<=wL ks+(lK ks).length*20
  |[]=>by simp [lK,tot]
  |[c]=>by have:=jS c false;simp [lK,tot,wL];omega
  |c::d::l=>by
    have h1:=ad9 l;have h2:=jS c false;have h3:=jS d (!l.isEmpty);simp only [lK,tot,wL,List.length_append,List.length_cons,Nat.add_mul,Nat.one_mul]at*;omega
theorem OC: ∀(names:List Str),(∀s∈names,s.length<=80)->tot names<=0+names.length*80
  |[],h=>by simp [tot]
  |s::l,h=>by
    have h1:=OC l fun x hx=>h x (List.mem_cons_of_mem _ hx);have h2:=h s (by simp);simp only [tot,List.length_cons,Nat.add_mul,Nat.one_mul]at*;omega
theorem ahn {names:List Str} (dX:names.length<=34) (hnm: ∀s∈names,s.length<=80):(ug names).1.length<=6900/\(ug names).2.length<=6900:=by
  match names with
  |[]=>simp [ug]
  |[x]=>have:=hnm x (by simp);simp [ug];omega
  |x::y::p=>
    have h1:=hnm x (by simp);have h2:=KQ (l:=y::p) (sep:=[44,32]) (OC _ fun s hs=>hnm s (List.mem_cons_of_mem _ hs)) (by simp at dX⊢;omega) (by simp);have h3:=KQ (l:=List.replicate (p.length+1) ([95]:Str)) (sep:=[44,32]) (OC _ fun s hs=>by rw [List.eq_of_mem_replicate hs];simp) (by simp at dX⊢;omega) (by simp);simp only [ug,List.length_append,List.length_cons,List.length_nil]at h3⊢;constructor<;>omega
theorem aea: ∀(m u:Nat),u<=m->(Lib.decDigits u).length<=u+1
  |0,u,h=>by rw [Lib.decDigits,dif_pos (by omega)];simp
  |m+1,u,h=>by
    rw [Lib.decDigits];split
    · simp
    · have:=aea m (u/10) (by omega);simp;omega
theorem ajw {n:Int} (h:0<=n/\n<=10000):(Lib.itoa n).length<=10001:=by
  unfold Lib.itoa;rw [if_neg (by omega)];have:=aea n.toNat n.toNat (Nat.le_refl _);omega
theorem abQ {n:Nd} (h:bX true n=0):0<=n.n/\n.n<=10000:=by
  unfold bX at h
  split at h;·cases h
  split at h;·cases h
  split at h;·cases h
  split at h;·cases h
  rename_i _ _ h1 h2;have h1:mH n=true:=by simpa using h1
  unfold mH at h1;simp only [Bool.and_eq_true,Bool.or_eq_true,Bool.not_eq_true',decide_eq_true_eq,decide_eq_false_iff_not,gN]at h1 h2;obtain⟨⟨⟨_,h3⟩,h4⟩,_⟩:=h1;rcases h3 with(h3|h3)|h3
  · by_cases hq:0<=n.n/\n.n<=10000
    · exact hq
    · exact absurd ⟨h3,hq⟩ h2
  · rcases h4 with h4|h4
    · exact absurd h3 h4
    · omega
  · omega
structure Small (n:Nd):Prop where
  text:n.text.length<=80
  names:n.names.length<=34
  each: ∀s∈n.names,s.length<=80
  args:n.args.length<=34
theorem Small.sml {n:Nd} (h:Small n) (hV:bX true n=0):Sml n:=by
  have:=abQ hV;exact⟨h.text,h.names,h.each,h.args,by omega⟩
theorem Ii {ks:List bZ} (h:1<=ks.length): ∃l c,ks=l++[c]/\nA ks=c.out false/\wL ks=wL l+wK c/\l.length+1=ks.length:=by
  obtain⟨l,c,rfl⟩: ∃l c,ks=l++[c]:=⟨ks.dropLast,ks.getLast (by intro e;rw [e]at h;simp at h),(List.dropLast_concat_getLast _).symm⟩;refine⟨l,c,rfl,?_,by rw [Yx];simp [wL],by simp⟩;unfold nA iX;simp
theorem CJ {sign:Str} {names:List Str} {l:List bZ} {c:bZ} (h:names.length<=l.length):qz sign names (l++[c])=qz sign names l:=by
  have: ∀(names:List Str) (l:List bZ),names.length<=l.length->List.zipWith (fun s c=>s++(sign++bZ.out c false)) names (l++[c])=List.zipWith (fun s c=>s++(sign++bZ.out c false)) names l:=by
    intro names
    induction names with
    |nil=>intro l h;simp
    |cons s names ih=>
      intro l h;cases l with
      |nil=>simp at h
      |cons d l=>simp only [List.cons_append,List.zipWith_cons_cons];rw [ih l (by simpa using h)]
  unfold qz;rw [this _ _ h]
section
variable {ks:List bZ} {n:Nd} (hl:ks.length=n.args.length) (hS:Small n) (hV:bX true n=0)
include hl hS hV
theorem ajx:(yV n.kind n.n n.text n.names ks).length<=wL ks+19000:=by
  obtain⟨hS1,hS2,qI,hS4⟩:=hS;have dX:ks.length<=34:=by omega
  have hb:=XC hV;have hn:=ajw (abQ hV);have abR: ∀l:List bZ,l.length<=34->(yj l).length<=wL l+6800:=fun l h=>KQ (ad6 l) (by simp;omega) (by simp);have NC: ∀(sign:Str) (l:List bZ),sign.length<=10->(qz sign n.names l).length<=wL l+6800:=fun sign l h=>KQ (ad7 sign h _ _ qI) (by rw [List.length_zipWith];omega) (by simp<;>omega);have aAA:=KQ (l:=n.names) (sep:=[44,32]) (OC _ qI) hS2 (by simp);have hL:=ahn hS2 qI;have hall:n.kind=0\/n.kind=1\/n.kind=2\/n.kind=3\/n.kind=4\/n.kind=5\/n.kind=6\/n.kind=7\/n.kind=8\/n.kind=9\/n.kind=10\/n.kind=11\/n.kind=12\/n.kind=13\/n.kind=14\/n.kind=15\/n.kind=16\/n.kind=17\/n.kind=18\/n.kind=19\/n.kind=20\/n.kind=21\/n.kind=22\/n.kind=23\/n.kind=24\/n.kind=25\/n.kind=26\/n.kind=27\/n.kind=28:=by omega
  unfold yV;have two:n.args.length=2-> ∃c d,ks=[c,d]:=fun h=>len2 (by rw [hl,h]);have three:n.args.length=3-> ∃c d f,ks=[c,d,f]:=fun h=>abO (by rw [hl,h]);rcases hall with hk|hk|hk|hk|hk|hk|hk|hk|hk|hk|hk|hk|hk|hk|hk|hk|hk|hk|hk|hk|hk|hk|hk|hk|hk|hk|hk|hk|hk<;>simp only [hk,Int.reduceEq,↓reduceIte]
  · omega
  · simp;omega
  · omega
  · have:=abR ks dX;simp;omega
  · have:=abR ks dX;simp;omega
  · have:=abR ks dX;simp;omega
  · have:=kY hV (show aY n.kind=((1,1,2,2),false) by rw [hk];kernel_rfl) (by omega);simp only [Bool.false_eq_true,if_false]at this;obtain⟨c,d,rfl⟩:=two (by omega);have e1:=CJ (sign:=[32,92,105,110,32]) (names:=n.names) (l:=[c]) (c:=d) (by simp;omega);have h1:=NC [32,92,105,110,32] [c] (by simp);have h2:=jS d false;rw [show [c,d]=[c]++[d]from rfl,e1];simp [iX,wL]at*;omega
  · have:=kY hV (show aY n.kind=((1,4,1,1),true) by rw [hk];kernel_rfl) (by omega);simp only [if_true]at this;obtain⟨l,c,rfl,h1,h2,h3⟩:=Ii (ks:=ks) (by omega);have h4:=NC [32,92,105,110,32] l (by simp);have h5:=jS c false;have h6:=Ry (c.out false);rw [CJ (by omega),h1,h2];simp;omega
  · have:=kY hV (show aY n.kind=((1,4,1,1),true) by rw [hk];kernel_rfl) (by omega);simp only [if_true]at this;obtain⟨l,c,rfl,h1,h2,h3⟩:=Ii (ks:=ks) (by omega);have h4:=NC [32,92,105,110,32] l (by simp);have h5:=jS c false;rw [CJ (by omega),h1,h2];simp;omega
  · have:=kY hV (show aY n.kind=((1,4,1,1),true) by rw [hk];kernel_rfl) (by omega);simp only [if_true]at this;obtain⟨l,c,rfl,h1,h2,h3⟩:=Ii (ks:=ks) (by omega);have h4:=NC [32,92,105,110,32] l (by simp);have h5:=jS c false;rw [CJ (by omega),h1,h2];simp;omega
  · have:=kY hV (show aY n.kind=((1,4,1,1),false) by rw [hk];kernel_rfl) (by omega);simp only [Bool.false_eq_true,if_false]at this;obtain⟨l,c,rfl,h1,h2,h3⟩:=Ii (ks:=ks) (by omega);have h5:=jS c false;rw [h1,h2];simp;omega
  · have:=kY hV (show aY n.kind=((1,4,1,1),false) by rw [hk];kernel_rfl) (by omega);simp only [Bool.false_eq_true,if_false]at this;obtain⟨l,c,rfl,h1,h2,h3⟩:=Ii (ks:=ks) (by omega);have h5:=jS c false;rw [h1,h2];simp;omega
  · have:=kY hV (show aY n.kind=((1,1,2,2),false) by rw [hk];kernel_rfl) (by omega);simp only [Bool.false_eq_true,if_false]at this;obtain⟨l,c,rfl,h1,h2,h3⟩:=Ii (ks:=ks) (by omega);have h4:=NC [32,92,105,110,32] l (by simp);have h5:=jS c false;rw [CJ (by omega),h1,h2];simp;omega
  · have:=kY hV (show aY n.kind=((1,4,1,1),true) by rw [hk];kernel_rfl) (by omega);simp only [if_true]at this;obtain⟨l,c,rfl,h1,h2,h3⟩:=Ii (ks:=ks) (by omega);have h4:=NC [32,92,105,110,32] l (by simp);have h5:=jS c false;rw [CJ (by omega),h1,h2];simp;omega
  · have:=kY hV (show aY n.kind=((0,0,2,5),false) by rw [hk];kernel_rfl) (by omega);simp only [Bool.false_eq_true,if_false]at this;obtain⟨c,l,rfl⟩:=Rz (l:=ks) (by omega);have h1:=abR l (by simp at dX;omega);have h2:=Fg c (c.op.2||decide (c.kind=0)) true;simp only [xP,List.drop_succ_cons,List.drop_zero,wL];simp;omega
  · have:=kY hV (show aY n.kind=((0,0,2,2),false) by rw [hk];kernel_rfl) (by omega);simp only [Bool.false_eq_true,if_false]at this;obtain⟨c,d,rfl⟩:=two (by omega);have h1:=jS c false;have h2:=jS d false;simp [iX,wL];omega
  · have:=NC [32,124,45,62,32] ks (by simp);simp;omega
  · have:=NC [32,58,32] ks (by simp);simp;omega
  · have:=kY hV (show aY n.kind=((0,0,1,1),false) by rw [hk];kernel_rfl) (by omega);simp only [Bool.false_eq_true,if_false]at this;obtain⟨c,l,rfl⟩:=Rz (l:=ks) (by omega);have h2:=Fg c (c.op.2||decide (c.kind=0)) true;simp only [xP,wL];simp;omega
  · have:=kY hV (show aY n.kind=((0,0,3,3),false) by rw [hk];kernel_rfl) (by omega);simp only [Bool.false_eq_true,if_false]at this;obtain⟨c,d,f,rfl⟩:=three (by omega);have h1:=jS c false;have h2:=jS d false;have h3:=jS f false;simp [iX,wL];omega
  · simp
  · have:=kY hV (show aY n.kind=((0,0,3,3),false) by rw [hk];kernel_rfl) (by omega);simp only [Bool.false_eq_true,if_false]at this;obtain⟨c,d,f,rfl⟩:=three (by omega);have h1:=jS c false;have h2:=jS d false;have h3:=jS f false;simp [iX,wL];omega
  · have h1:=KQ (sep:=[32,91,93,32]) (ad9 ks) (by have:=ahm ks;omega) (by simp);simp;omega
  · have:=kY hV (show aY n.kind=((1,5,2,2),false) by rw [hk];kernel_rfl) (by omega);simp only [Bool.false_eq_true,if_false]at this;obtain⟨c,d,rfl⟩:=two (by omega);have h1:=jS c false;have h2:=jS d false;unfold Xo;simp only [iX,wL,List.getElem?_cons_zero,List.getElem?_cons_succ];split<;>simp<;>omega
  · have:=kY hV (show aY n.kind=((1,4,1,1),false) by rw [hk];kernel_rfl) (by omega);simp only [Bool.false_eq_true,if_false]at this;obtain⟨l,c,rfl,h1,h2,h3⟩:=Ii (ks:=ks) (by omega);have h5:=jS c false;rw [h1,h2];simp;omega
  all_goals
    have:=kY hV (show aY n.kind=((0,0,2,2),false) by rw [hk];kernel_rfl) (by omega);simp only [Bool.false_eq_true,if_false]at this;obtain⟨c,d,rfl⟩:=two (by omega);have h1:=jS c false;have h2:=Fg d (!(decide (d.kind=2)&&rName d.text)&& !decide (d.kind=4)) false;rw [XD];generalize(sM d (!(decide (d.kind=2)&&rName d.text)&& !decide (d.kind=4)) false)=m at h2⊢;simp [iX,wL];omega
theorem ajy (f:Bool):(Ic n ks f).length<=wL ks+20000:=by
  have key: ∀f,(Jb n.kind n.n n.text n.names ks f).length<=wL ks+19500:=by
    intro f;unfold Jb;by_cases ho:(uf n.kind n.text).2=true
    · rw [if_pos ho];have hO:Yu (uf n.kind n.text).1:=by
        unfold uf at ho⊢;split
        · rename_i h3;rw [if_pos h3]at ho;exact opF ho
        · rename_i h3;rw [if_neg h3]at ho;simp [yC]at ho
      generalize(uf n.kind n.text).1=o at hO;have h1:=hO.len;unfold Xn;cases ks with
      |nil=>simp
      |cons c l=>
        simp only;split
        · have:=Fg c (Oo o c) true;simp [wL];omega
        · split
          · have:=Fg c (KF o c) f;have:=Yv hO;simp [wL];omega
          · have dX:(c::l).length<=34:=by have:=hS.args;omega
            have:=KQ (sep:=32::(o.text++[32])) (ad8 o f 0 (c::l)) (by rw [uj];exact dX) (by simp;omega);omega
    · rw [if_neg ho];have:=ajx hl hS hV;omega
  unfold Ic;split
  · have:=key false;simp;omega
  · have:=key f;omega
end
end Go.VL
end
section
namespace Go.VL
open Tm
def Good (e:List Nd):Prop:=e.length<=160/\ ∀(i:Nat) n,e[i]? =some n->bX true n=0/\Small n
theorem arn (x:Nd) (b:Nat) (cs:List Tm) (ks:List bZ) (f:Bool):Ic (nd x b cs) ks f=Ic x ks f:=rfl
section
variable {e:List Nd} (hG:Good e)
include hG
mutual
theorem abS: ∀(t:Tm) (b:Nat),Seg e b t-> ∀f,(fm t f).length<=20000*t.size
  | .mk x cs,b,uN,f=>by
    have hn:=uN.node;obtain⟨hV,hS⟩:=hG.2 _ _ hn;have h1:=ajy (ks:=BS cs) (n:=nd x b cs) (by rw [Xp];exact(nT b cs).symm) hS hV f;have h2:=aho cs x [] b uN;rw [Tp,<-arn x b cs];simp only [size];omega
theorem aho: ∀(cs:List Tm) (x:Nd) (l:List Tm) (b:Nat),Seg e b (.mk x (l++cs))->wL (BS cs)<=20000*sizes cs
  |[],x,l,b,uN=>by simp [BS,wL]
  |c::cs,x,l,b,uN=>by
    have h1:=abS c _ uN.kid;have h2:=aho cs x (l++[c]) b (by simpa using uN);have h3:=h1 true;have h4:=h1 false;rw [KG,wL];unfold wK;simp only [sizes];omega
end
mutual
theorem ahp: ∀(t:Tm) (b:Nat),Seg e b t->KI e ((b+t.size -1:Nat):Int) ⟨t.root.kind,t.root.text,fm t⟩
  | .mk x cs,b,uN=>by
    have hn:=uN.node;obtain⟨hV,hS⟩:=hG.2 _ _ hn;have hsz:b+(Tm.mk x cs).size -1=b+sizes cs:=by simp only [size];omega
    have hlt:=uN.lt;have hlen:=hG.1;have hsm: ∀f,(fm (.mk x cs) f).length<=1000000000:=fun f=>by
      have:=abS hG (.mk x cs) b uN f;omega
    have hks:=aeb cs x [] b uN;rw [hsz];refine⟨by omega,⟨_,hn,rfl,rfl⟩,fun f=> ?_,hsm⟩;show Ev (fun k=>dY k ⟨e⟩ ((b+sizes cs:Nat):Int) f) (fm (.mk x cs) f)
    rw [Tp];exact ahl (n:=nd x b cs) (ks:=BS cs) (a:=((b+sizes cs:Nat):Int)) hks (hS.sml hV) hV (by omega) hn (fun f=>by have:=hsm f;rw [Tp]at this;exact this) f
theorem aeb: ∀(cs:List Tm) (x:Nd) (l:List Tm) (b:Nat),Seg e b (.mk x (l++cs))->KL e (roots (b+sizes l) cs) (BS cs)
  |[],x,l,b,uN=>by rw [roots,BS];exact .nil
  |c::cs,x,l,b,uN=>by
    rw [roots,KG];refine .cons (ahp c _ uN.kid) ?_;have h2:=aeb cs x (l++[c]) b (by simpa using uN);have e1:b+sizes (l++[c])=b+sizes l+c.size:=by rw [lX];simp [sizes];omega
    rw [e1]at h2;exact h2
end
end
end Go.VL
end
