/- Part 6. -/
import Derived.Test.YthebklihgmhgoaaGreatDoorKg5
import Derived.Lib.SlicesCompact
import Derived.Lib.RowBridge
import Derived.KernelRfl
import Derived.Lib.ItoaNum
import Derived.Test.YthebklihgmhgoaaGreatDoorRows
import Derived.RangeFuncOwn
import Derived.TacticsIn
import Derived.TacticsInMore
import Derived.LoopIn
import Derived.Walk
import Derived.WalkKit
set_option maxRecDepth 8000
set_option linter.unusedVariables false
set_option linter.unusedSectionVars false
set_option linter.unusedSimpArgs false
section
namespace Go.VL
open Tm
theorem LW {e:List Nd} (hL:nk e) {acc':List Int} (h:jT [] e= .inl acc'): ∃ts,e=bq 0 ts/\acc'=ru 0 ts/\Ev (fun k=>wm k e) ((bH 0 ts).map Prod.fst,(bH 0 ts).map Prod.snd):=by
  have hlen:=hL.len;obtain⟨ts',h1,hb,h2⟩:=Ra hL e [] [] acc' 0 rfl rfl rfl (Nat.zero_le _) h;refine⟨ts',by rw [h1];rfl,hb,?_⟩;unfold wm;refine Ev.mZ ⟨rfl,by omega,by omega⟩ (Ev.mZ ⟨by omega,by omega,by omega⟩ ?_);have e1:((bH 0 ([]:List Tm)++List.replicate (e.length -0) ((-1:Int),(0:Int))).map Prod.fst)=(Iz [(-1)] (e.length:Int):List Int):=by simp [bH,Iz]
  have e2:((bH 0 ([]:List Tm)++List.replicate (e.length -0) ((-1:Int),(0:Int))).map Prod.snd)=List.replicate e.length (0:Int):=by simp [bH]
  rw [e1,e2]at h2;exact Ev.bind h2 Ev.some
theorem LX {ts:List Tm} {i:Nat} {P j:Int} (hp:(bH 0 ts)[i]? =some (P,j)):(P= -1/\j=0)\/ ∃q:Nat,P=(q:Int)/\i<q/\q<(bq 0 ts).length:=by
  rcases JD 0 ts i P j hp with h|⟨q,j',n,h1,h2,h3,h4,h5⟩
  · exact .inl h
  · exact .inr ⟨q,by rw [h1,Nat.zero_add],h3,(List.getElem?_eq_some_iff.1 h4).1⟩
def BM (e:List Nd) (U:List (Int×Int)):Nat->Nat->Bool
  |0,_=>false
  |m+1,i=>match U[i]? with
    |some (P,j)=>if P<0 then false else(decide ((e[P.toNat]?.map Nd.kind)=some 19)&&decide (j=2))||BM e U m P.toNat
    |none=>false
section
variable {ts:List Tm} {e:List Nd}
theorem Vp (he:e=bq 0 ts): ∀(m i:Nat),e.length<=i+m->i<e.length->Ev (fun k=>oJ k e ((bH 0 ts).map Prod.fst) ((bH 0 ts).map Prod.snd) (i:Int)) (if BM e (bH 0 ts) m i=true then .inr false else .inl ()):=by
  intro m
  induction m with
  |zero=>intro i h1 h2;omega
  |succ m ih=>
    intro i h1 h2;have hlt:i<(bH 0 ts).length:=by rw [sG,<-bX 0 ts,<-he];exact h2
    obtain⟨P,j,hU⟩: ∃P j,(bH 0 ts)[i]? =some (P,j):=⟨_,_,bI hlt⟩;refine Ev.succ ?_;have hf:((bH 0 ts).map Prod.fst)[i]? =some P:=by rw [List.getElem?_map,hU];rfl
    have hs:((bH 0 ts).map Prod.snd)[i]? =some j:=by rw [List.getElem?_map,hU];rfl
    simp only [oJ,Int.toNat_natCast,hf,hs,Option.bind_some,nn,if_true];rw [BM,hU];simp only;rcases LX hU with⟨rfl,rfl⟩|⟨q,rfl,hq,hq2⟩
    · exact Ev.cF (by rfl) Ev.some
    · have hqe:q<e.length:=by rw [he];exact hq2
      refine Ev.cT (by rw [bne_iff_ne];omega) (Ev.mZ (by omega) ?_);simp only [Int.toNat_natCast,bI hqe,Option.bind_some,Option.map_some,Option.some.injEq,show ¬(q:Int)<0 by omega,if_false];have ihq:=ih q (by omega) hqe;by_cases h3:e[q].kind=19
      · refine Ev.cT (by rw [h3];rfl) ?_;by_cases h4:j=2
        · refine Ev.cT (by rw [h4];rfl) (Ev.some' ?_);simp [h3,h4]
        · refine Ev.cF (by rw [beq_eq_false_iff_ne];exact h4) (ihq.to ?_);simp [h4]
      · refine Ev.cF (by rw [beq_eq_false_iff_ne];exact h3) (ihq.to ?_);simp [h3]
theorem aiK (he:e=bq 0 ts) (hL:nk e): ∀(m i:Nat),e.length<=i+m->i<e.length-> ∀P j,(bH 0 ts)[i]? =some (P,j)-> ∀o:Bool,Ev (fun k=>qy k e P j o) (o||BM e (bH 0 ts) m i):=by
  intro m
  induction m with
  |zero=>intro i h1 h2;omega
  |succ m ih=>
    intro i h1 h2 P j hU o;refine Ev.succ ?_;rw [BM,hU];simp only;rcases LX hU with⟨rfl,rfl⟩|⟨q,rfl,hq,hq2⟩
    · simp only [qy];exact Ev.cF (by rfl) (Ev.some' (by simp))
    · have hqe:q<e.length:=by rw [he];exact hq2
      have hlt:q<(bH 0 ts).length:=by rw [sG,<-bX 0 ts];exact hq2
      obtain⟨P',j',hU'⟩: ∃P j,(bH 0 ts)[q]? =some (P,j):=⟨_,_,bI hlt⟩;simp only [qy];refine Ev.cT (decide_eq_true (by omega)) (Ev.lY (x:=o||(decide (e[q].kind=19)&&decide (j=2))) ?_ (Ev.bind (yh he hL hqe hU') ?_))
      · unfold DN;cases o
        · simp only [Int.toNat_natCast,bI hqe,Option.bind_some,cond_false,nn,if_true,Bool.false_or];by_cases h3:e[q].kind=19
          · rw [vG (by rw [h3];rfl)];by_cases h4:j=2
            · simp [h3,h4]
            · simp [h4]
          · rw [nR (by rw [beq_eq_false_iff_ne];exact h3)];simp [h3]
        · rfl
      · refine(ih q (by omega) hqe P' j' hU' _).to ?_;simp only [Int.toNat_natCast,bI hqe,Option.map_some,Option.some.injEq,show ¬(q:Int)<0 by omega,if_false,Bool.or_assoc]
theorem LY (t:Str) (h:(dn eG t).2=true):iX t=false:=by
  have h1:((eG.map (·.text)).all fun t=> !iX t)=true:=by kernel_rfl
  by_cases hm:t∈eG.map (·.text)
  · simpa using List.all_eq_true.1 h1 t hm
  · rw [LU hm]at h;cases h
theorem aaf {n:Nd} (h:bO true n=0) (hk:n.kind=3):(dn eG n.text).2= !iX n.text:=by
  cases ho:(dn eG n.text).2
  · unfold bO at h
    split at h;·cases h
    split at h;·cases h
    split at h;·cases h
    split at h;·cases h
    split at h
    · rename_i h1;exact absurd h h1
    · rename_i h1;have h1:mE n=0:=by omega
      unfold mE at h1
      split at h1;·cases h1
      cases hr:iX n.text
      · simp [hk,ho,hr]at h1
      · rfl
  · rw [LY _ ho];rfl
def DZ (e:List Nd) (U:List (Int×Int)) (i:Nat):Bool:=match e[i]?,U[i]? with
  |some n,some (P,j)=>if n.kind=24 then(if P<0 then true else match e[P.toNat]? with
      |some m=>if m.kind=3 then(dn eG m.text).2 else true
      |none=>true)else if n.kind=20 then !BM e U e.length i else false
  |_,_=>false
theorem abT (he:e=bq 0 ts) (hL:nk e) {i:Nat} (hi:i<e.length):Ev (fun k=>E8 k e (i:Int) ((bH 0 ts).map Prod.fst) ((bH 0 ts).map Prod.snd)) (DZ e (bH 0 ts) i):=by
  have hlt:i<(bH 0 ts).length:=by rw [sG,<-bX 0 ts,<-he];exact hi
  obtain⟨P,j,hU⟩: ∃P j,(bH 0 ts)[i]? =some (P,j):=⟨_,_,bI hlt⟩;have hf:((bH 0 ts).map Prod.fst)[i]? =some P:=by rw [List.getElem?_map,hU];rfl
  unfold E8 DZ;simp only [Int.toNat_natCast,bI hi,hf,Option.bind_some,nn,if_true,hU];by_cases h1:e[i].kind=24
  · refine Ev.cT (by rw [h1];rfl) ?_;simp only [h1,if_true];rcases LX hU with⟨rfl,rfl⟩|⟨q,rfl,hq,hq2⟩
    · exact Ev.cT (by rfl) Ev.some
    · have hqe:q<e.length:=by rw [he];exact hq2
      refine Ev.cF (by rw [beq_eq_false_iff_ne];omega) (Ev.mZ (by omega) ?_);simp only [Int.toNat_natCast,bI hqe,Option.bind_some,show ¬(q:Int)<0 by omega,if_false];by_cases h2:e[q].kind=3
      · refine Ev.cF (by rw [h2];rfl) (Ev.bind (vg _) (Ev.some' ?_));simp only [h2,if_true]
      · refine Ev.cT (by rw [bne_iff_ne];exact h2) (Ev.some' ?_);simp only [h2,if_false]
  · refine Ev.cF (by rw [beq_eq_false_iff_ne];exact h1) ?_;simp only [h1,if_false];by_cases h2:e[i].kind=20
    · refine Ev.cT (by rw [h2];rfl) (Ev.bind (Vp he e.length i (by omega) hi) ?_);simp only [h2,if_true];cases BM e (bH 0 ts) e.length i
      · simp only [Bool.false_eq_true,if_false,bL];exact Ev.some
      · simp only [if_true,bP];exact Ev.some
    · refine Ev.cF (by rw [beq_eq_false_iff_ne];exact h2) (Ev.some' ?_);simp only [h2,if_false]
def tK (e:List Nd) (U:List (Int×Int)):Nat->Nat->Option Nat
  |0,_=>none
  |m+1,i=>if DZ e U i=true then some i else tK e U m (i+1)
theorem Dy (he:e=bq 0 ts) (hL:nk e): ∀i,i<=e.length->Ev (fun k=>je k e ((bH 0 ts).map Prod.fst) ((bH 0 ts).map Prod.snd) (e.length:Int) (i:Int)) (match tK e (bH 0 ts) (e.length -i) i with|some j=> .inr ((j:Int),30)|none=> .inl ()):=by
  have hlen:=hL.len;refine down ?_ fun i hi ih=> ?_
  · refine Ev.succ ?_;simp only [je];exact Ev.cF (jP _) (Ev.some' (by simp [tK]))
  · refine Ev.succ ?_;simp only [je];rw [eO hi (by omega)];refine Ev.cT (lC hi) (Ev.bind (abT he hL hi) ?_);rw [show e.length -i=(e.length -(i+1))+1 by omega,tK];cases DZ e (bH 0 ts) i
    · simp only [cond_false,Bool.false_eq_true,if_false];exact ih
    · exact Ev.some
theorem XU (he:e=bq 0 ts) (hL:nk e) (hok: ∀(i:Nat) n,e[i]? =some n->bO true n=0): ∀i,i<=e.length->Ev (fun k=>mM k e (i:Int)) (match tK e (bH 0 ts) (e.length -i) i with|some j=> .inr ((j:Int),30)|none=> .inl ()):=by
  have hlen:=hL.len;refine down ?_ fun i hi ih=> ?_
  · refine Ev.succ ?_;simp only [mM];exact Ev.cF (jP _) (Ev.some' (by simp [tK]))
  · refine Ev.succ ?_;have hlt:i<(bH 0 ts).length:=by rw [sG,<-bX 0 ts,<-he];exact hi
    obtain⟨P,j,hU⟩: ∃P j,(bH 0 ts)[i]? =some (P,j):=⟨_,_,bI hlt⟩;simp only [mM,Int.toNat_natCast,bI hi,Option.bind_some,nn,if_true];rw [eO hi (by omega)];refine Ev.cT (lC hi) (Ev.bind (yh he hL hi hU) ?_);have aw8:Ev (fun k=>zZ k e P (decide (P>=0))) (match e[P.toNat]? with|some m=>decide (0<=P)&&decide (m.kind=3)&&iX m.text|none=>false):=by
      unfold zZ;rcases LX hU with⟨rfl,rfl⟩|⟨q,rfl,hq,hq2⟩
      · refine Ev.cF (by rfl) (Ev.some' ?_);cases e[(-1:Int).toNat]? <;>rfl
      · have hqe:q<e.length:=by rw [he];exact hq2
        refine Ev.cT (decide_eq_true (by omega)) (Ev.mZ (by omega) ?_);simp only [Int.toNat_natCast,bI hqe,Option.bind_some,nn,decide_true,Bool.true_and];by_cases h2:e[q].kind=3
        · refine Ev.cT (by rw [h2];rfl) (Ev.bind (Cg _ (by have:=(hL.nd q _ (bI hqe)).1;omega)) (Ev.some' ?_));simp only [h2,decide_true,Bool.true_and]
        · refine Ev.cF (by rw [beq_eq_false_iff_ne];exact h2) (Ev.some' ?_);simp only [h2,decide_false,Bool.false_and]
    refine Ev.bind aw8 ?_;have hold:=aiK he hL e.length i (by omega) hi P j hU false;rw [Bool.false_or]at hold;rw [show e.length -i=(e.length -(i+1))+1 by omega,tK];have hl:DZ e (bH 0 ts) i=if e[i].kind=24 then !(match e[P.toNat]? with|some m=>decide (0<=P)&&decide (m.kind=3)&&iX m.text|none=>false)else if e[i].kind=20 then !BM e (bH 0 ts) e.length i else false:=by
      unfold DZ;simp only [bI hi,hU];rcases LX hU with⟨rfl,rfl⟩|⟨q,rfl,hq,hq2⟩
      · simp only [show(-1:Int)<0 by omega,if_true,show ¬(0:Int)<= -1 by omega,decide_false,Bool.false_and];cases e[(-1:Int).toNat]? <;>rfl
      · have hqe:q<e.length:=by rw [he];exact hq2
        simp only [Int.toNat_natCast,bI hqe,show ¬(q:Int)<0 by omega,if_false,nn,decide_true,Bool.true_and];by_cases h2:e[q].kind=3
        · simp only [h2,if_true,decide_true,Bool.true_and,aaf (hok q _ (bI hqe)) h2]
        · simp only [h2,if_false,decide_false,Bool.false_and,Bool.not_false]
    rw [hl];generalize(match e[P.toNat]? with|some m=>decide (0<=P)&&decide (m.kind=3)&&iX m.text|none=>false)=lam
    refine Ev.lY (x:=decide (e[i].kind=24)&& !lam) (by
      unfold DL;by_cases h1:e[i].kind=24
      · rw [vG (by rw [h1];rfl)];simp [h1]
      · rw [nR (by rw [beq_eq_false_iff_ne];exact h1)];simp [h1]) ?_
    by_cases h1:e[i].kind=24
    · simp only [h1,decide_true,Bool.true_and,if_true];cases lam
      · exact Ev.some
      · refine Ev.cF rfl (Ev.bind hold ?_);exact Ev.cF (by rfl) ih
    · simp only [h1,decide_false,Bool.false_and,cond_false,if_false];refine Ev.bind hold ?_;by_cases h2:e[i].kind=20
      · refine Ev.cT (by rw [h2];rfl) ?_;simp only [h2,if_true];cases BM e (bH 0 ts) e.length i
        · exact Ev.some
        · exact ih
      · refine Ev.cF (by rw [beq_eq_false_iff_ne];exact h2) (ih.to ?_);simp only [h2,if_false,Bool.false_eq_true]
end
structure Valid (e:List Nd):Prop where
  tree: ∃t,e=flat 0 t
  len:e.length<=160
  ok: ∀(i:Nat) n,e[i]? =some n->bO true n=0
theorem PE: ∀(l:List Nd) (acc:List Int) (p:Int×Int),jT acc l= .inr p->p.2≠0
  |[],acc,p,h=>by rw [jT]at h;cases h
  |n::l,acc,p,h=>by
    rw [jT]at h;by_cases hc:bO (rT acc acc.length n.args.reverse) n=0
    · rw [if_neg (fun k=>k hc)]at h;exact PE l _ p h
    · rw [if_pos hc]at h;cases h;exact hc
theorem aex (e:List Nd) (hL:nk e): ∃r,Ev (fun k=>iM k e) r/\Ev (fun k=>yZ k e) r/\(r.2=0->Valid e):=by
  have hlen:=hL.len;by_cases h0:e.length=0
  · refine⟨(0,1),?_,?_,fun h=>by cases h⟩
    · unfold iM;simp only [qC,Option.bind_some,h0];refine Ev.bind (wW _ (by simp)) ?_;exact Ev.cT (by rfl) Ev.some
    · unfold yZ;simp only [h0];exact Ev.cT (by rfl) Ev.some
  by_cases h1:160<e.length
  · refine⟨(0,2),?_,?_,fun h=>by cases h⟩
    · unfold iM;have a:((e.length:Int)==0)=false:=by rw [beq_eq_false_iff_ne];omega
      have b:decide ((e.length:Int)>160)=true:=decide_eq_true (by omega);simp only [qC,Option.bind_some,a,b];refine Ev.bind (wW _ (by simp)) ?_;exact Ev.cT (by rfl) Ev.some
    · unfold yZ;refine Ev.cF (by rw [beq_eq_false_iff_ne];omega) ?_;exact Ev.cT (decide_eq_true (by omega)) Ev.some
  have a:((e.length:Int)==0)=false:=by rw [beq_eq_false_iff_ne];omega
  have b:decide ((e.length:Int)>160)=false:=decide_eq_false (by omega);have st:=Dx hL 0 (Nat.zero_le _) [] (pR.zero e);have sr:=XE hL 0 (Nat.zero_le _) [] (pR.zero e);rw [List.drop_zero]at st sr;have Fg: ∀r,Ev (fun k=>Option.bind (jd k e ([]:List Int) (e.length:Int) ((0:Nat):Int)) (fun o=>Sum.elim (fun p40=>Option.bind (wm k e) fun p51=>Option.bind (je k e p51.1 p51.2 (e.length:Int) ((0:Nat):Int)) (fun o=>Sum.elim (fun p58=>if 0<=(IntKind.wrap .i64 ((e.length:Int) -1))then Option.bind (p40[(IntKind.wrap .i64 ((e.length:Int) -1)).toNat]?) fun Z4=>cond (Z4 !=0) (some ((IntKind.wrap .i64 ((e.length:Int) -1)),15)) (some (0,0))else none) (fun p74=>some (p74.1,p74.2)) o)) (fun xw=>some (xw.1,xw.2)) o)) r->Ev (fun k=>iM k e) r:=by
    intro r hr;unfold iM;simp only [qC,Option.bind_some,a,b];refine Ev.bind (wW _ (by simp)) ?_;exact Ev.cF (by rfl) hr
  have aag: ∀r,Ev (fun k=>Option.bind (nX k e ((0:Nat):Int)) (fun o=>Sum.elim (fun p9=>Option.bind (mM k e ((0:Nat):Int)) (fun o=>Sum.elim (fun Wi=>Option.bind (uF k e (IntKind.wrap .i64 ((e.length:Int) -1))) fun JX=>cond (JX !=0) (some ((IntKind.wrap .i64 ((e.length:Int) -1)),15)) (some (0,0))) (fun QF=>some (QF.1,QF.2)) o)) (fun QG=>some (QG.1,QG.2)) o)) r->Ev (fun k=>yZ k e) r:=by
    intro r hr;unfold yZ;exact Ev.cF a (Ev.cF b hr)
  cases hs:jT [] e with
  |inr p=>
    rw [hs]at st sr;refine⟨p,Fg _ (Ev.bind st ?_),aag _ (Ev.bind sr ?_),fun h=>absurd h (PE _ _ _ hs)⟩
    · simp only [bP];exact Ev.some
    · simp only [bP];exact Ev.some
  |inl acc=>
    rw [hs]at st sr;obtain⟨ts,he,hacc,hpar⟩:=LW hL hs;have hok:=ac0 e [] acc hs;have lt:=Dy he hL 0 (Nat.zero_le _);have lr:=XU he hL hok 0 (Nat.zero_le _);cases hl:tK e (bH 0 ts) (e.length -0) 0 with
    |some j=>
      rw [hl]at lt lr;refine⟨((j:Int),30),Fg _ (Ev.bind st ?_),aag _ (Ev.bind sr ?_),fun h=>by cases h⟩
      · simp only [bL];refine Ev.bind hpar (Ev.bind lt ?_);simp only [bP];exact Ev.some
      · simp only [bL];refine Ev.bind lr ?_;simp only [bP];exact Ev.some
    |none=>
      rw [hl]at lt lr;have hOk:pR e e.length acc:=by
        have gen: ∀(l:List Nd) (i:Nat) (a:List Int),l=e.drop i->i<=e.length->pR e i a->jT a l= .inl acc->pR e e.length acc:=by
          intro l
          induction l with
          |nil=>
            intro i a hl hi ho h;rw [jT]at h;cases h;have:=congrArg List.length hl;rw [List.length_drop,List.length_nil]at this;obtain rfl:i=e.length:=by omega
            exact ho
          |cons n l ih=>
            intro i a hl hi ho h;have hlt:i<e.length:=by
              have:=congrArg List.length hl;rw [List.length_drop,List.length_cons]at this;omega
            rw [drop_cons hlt]at hl;obtain⟨rfl,rfl⟩:=List.cons.inj hl;rw [jT,ho.len]at h;by_cases hc:bO (rT a i e[i].args.reverse) e[i]=0
            · rw [if_neg (fun k=>k hc)]at h;exact ih (i+1) _ rfl hlt (ho.succ (bI hlt) (uI hc)) h
            · rw [if_pos hc]at h;cases h
        exact gen e 0 [] rfl (Nat.zero_le _) (pR.zero e) hs
      obtain⟨n,bb,h3,h4,h5,h6,_⟩:=hOk.at_ (e.length -1) (by omega);have hw:IntKind.wrap .i64 ((e.length:Int) -1)=((e.length -1:Nat):Int):=by rw [wrap64 (by omega) (by omega)];omega
      refine⟨if bb=0 then(0,0)else(((e.length -1:Nat):Int),15),Fg _ (Ev.bind st ?_),aag _ (Ev.bind sr ?_),fun hr=> ?_⟩
      · simp only [bL];refine Ev.bind hpar (Ev.bind lt ?_);simp only [bL,hw,Int.toNat_natCast,h4,Option.bind_some,nn,if_true];by_cases hb:bb=0
        · exact Ev.cF (by rw [hb];rfl) (Ev.some' (by simp [hb]))
        · exact Ev.cT (by rw [bne_iff_ne];exact hb) (Ev.some' (by simp [hb]))
      · simp only [bL];refine Ev.bind lr ?_;simp only [bL,hw];refine Ev.bind (QS hOk hlen h4) ?_;by_cases hb:bb=0
        · exact Ev.cF (by rw [hb];rfl) (Ev.some' (by simp [hb]))
        · exact Ev.cT (by rw [bne_iff_ne];exact hb) (Ev.some' (by simp [hb]))
      · by_cases hb:bb=0
        case neg=>rw [if_neg hb]at hr;cases hr
        refine⟨?_,by omega,hok⟩;rcases List.eq_nil_or_concat ts with rfl|⟨l,t,rfl⟩
        · rw [he]at h0;simp [bq]at h0
        · rw [List.concat_eq_append]at*;have hsz:e.length=sizes l+t.size:=by rw [he,bX,dG,nD]
          have hpos:=t.size_pos;have hg:=Vn (b:=0) (l:=l) (m:=[]) (t:=t);rw [<-hacc,Nat.zero_add,show sizes l+t.size -1=e.length -1 by omega,h4]at hg;have hl0:sizes l=0:=by have:=Option.some.inj hg;omega
          cases l with
          |nil=>exact⟨t,by rw [he];simp [bq]⟩
          |cons c l=>
            have:=c.size_pos;simp only [sizes]at hl0;omega
end Go.VL
end
section
namespace Go.VL
open Go.Proofs Go.RowKit
theorem aah {α:Type} (f:α->List PV) (sz:Nat) [hr:qV f sz] (l:List α):pX sz (.aB (l.map f) .unk) none (some (.int .i64 (l.length:Int))) (some (.int .i64 (l.length:Int)))=some (.aB (l.map f) .exact):=by
  have hl:I9 sz (l.map f):=fun cs h=>by
    obtain⟨x,_,rfl⟩:=List.mem_map.1 h;exact hr.len x
  have h0:(0:Int)<=(l.length:Int):=by omega
  simp only [pX,nI];rw [if_pos h0];simp only [Int.toNat_natCast,List.length_map,Option.isSome_some,and_true];rw [if_pos ⟨Nat.zero_le _,Nat.le_refl _,hl⟩];simp only [if_true];rw [List.take_of_length_le (by rw [List.length_map];exact Nat.le_refl _),List.drop_zero]
theorem aai (l:List Str):Pu (.aB (l.map aI) .exact):=by
  have h:=aV bn l;cases h with
  |aB _ _ h1 h2=>exact .aB _ _ h1 (by simp)
theorem agp (l:List Str) {c:Ck}:aF Tryz.prog 120 [.aB (l.map aI) c] (.aB (l.map aI) .exact):=by
  refine aF.wk (args:=[.aB (l.map aI) .unk]) ?_ (.aB .nil);refine aF.aP (bg.mem (.cons (aV bn _) .nil)) (aG ajW (by simp) (aD ?_)) (aai l);unfold ajV;simp -implicitDefEqProofs only [go_sem,aah aI 1];first|done|exact .pure _ (aai l)
end Go.VL
end
section
namespace Go.VL
open Go.Proofs
theorem ac1 {α:Type} {σ:Nat->PV} {H:AH} {sz b:Nat} {x y:AE} {f:α->List PV} (hf: ∀x,mo sz (f x)) (xs ys:List α) (c c2:Ck)
    (hx:x.ev σ= .aB (xs.map f) c) (hy:H7 (y.ev σ)= .aB (ys.map f) c2) (hok:bA H c) (hb:(xs.length+ys.length)*b<=1099511627776):
    ∃c' H',jH (.app sz b x y) σ H=some (.aB ((xs++ys).map f) c',H')/\bA H' c'/\H.next<=H'.next/\(∀i,H'.obj i=H.obj i)/\(∀c3,bA H c3->kQ c c3->bA H' c3/\kQ c' c3):=by
  have h:=gF (P:=Tryz.prog) (s:=[]) (Q:=fun e σ' H'=> ∃c',σ'=upd σ (some 0) (.aB ((xs++ys).map f) c')/\bA H' c'/\H.next<=H'.next/\(∀i,H'.obj i=H.obj i)/\(∀c3,bA H c3->kQ c c3->bA H' c3/\kQ c' c3)) (d:=some 0) (l:=[]) (H:=H) hf xs ys c c2 hx hy hok hb
    (fun c' H' h1 h2 h3 h4=>⟨c',rfl,h1,h2,h3,h4⟩)
  have h2:WD Tryz.prog (jH (.app sz b x y) σ H) (some 0) [] [] (fun e σ' H'=> ∃c',σ'=upd σ (some 0) (.aB ((xs++ys).map f) c')/\bA H' c'/\H.next<=H'.next/\(∀i,H'.obj i=H.obj i)/\(∀c3,bA H c3->kQ c c3->bA H' c3/\kQ c' c3)) σ:=by
    have h3:WO Tryz.prog (⟨some 0,.d (.app sz b x y),none⟩::[]) [] _ σ H:=h;rw [WO,afk]at h3;revert h3;cases jH (.app sz b x y) σ H with
    |none=>intro h3;exact h3
    |some q=>intro h3;exact h3
  revert h2;cases jH (.app sz b x y) σ H with
  |none=>intro h2;exact h2.elim
  |some q=>
    intro h2;obtain⟨c',e,h3⟩:=(h2: ∃c',upd σ (some 0) q.1=upd σ (some 0) (.aB ((xs++ys).map f) c')/\bA q.2 c'/\H.next<=q.2.next/\(∀i,q.2.obj i=H.obj i)/\(∀c3,bA H c3->kQ c c3->bA q.2 c3/\kQ c' c3));have e2:=congrFun e 0;simp only [upd,if_true]at e2;exact⟨c',q.2,by rw [<-e2],h3⟩
section
variable {α:Type}
def Gy (rec:Int->List Str->α->Option α) (n:Nd) (bound:List Str):Nat->List Int->α->Option α
  |_,[],a=>some a
  |i,op::l,a=>Option.bind (fZ n (i:Int)) fun b=>if(bound.length+b.length)*16<=1099511627776 then Option.bind (rec op (bound++b) a) fun a'=>Gy rec n bound (i+1) l a' else none
def vk (step:α->Int->List Str->Option α) (e:List Nd):Nat->Int->List Str->α->Option α
  |0,_,_,_=>none
  |k+1,at_,bound,a=>Option.bind (step a at_ bound) fun a'=>if 0<=at_ then Option.bind (e[at_.toNat]?) fun n=>if n.args.length<=1099511627776 then Gy (vk step e k) n bound 0 n.args a' else none else none
structure Visit (g:FuncId) (caps:List PV) (S:α->AH->Prop) (step:α->Int->List Str->Option α):Prop where
  stable: ∀a H H',S a H->H.next<=H'.next->(∀i,H'.obj i=H.obj i)->(∀c,bA H c->bA H' c)->S a H'
  call: ∀a at_ bound a' H,S a H->step a at_ bound=some a'->bE Tryz.prog g (.int .i64 at_:: .aB (bound.map aI) .unk::caps) H fun _ H'=>S a' H'
theorem agq {g:FuncId} {caps:List PV} {S:α->AH->Prop} {step:α->Int->List Str->Option α} (hv:Visit g caps S step) (e:List Nd) (k:Nat)
    (ih: ∀(at_:Int) (bound:List Str) (a a':α) (H:AH),S a H->vk step e k at_ bound a=some a'->bE Tryz.prog 70 [dW e,.int .i64 at_,zu bound,.fn (.func g) [] caps] H fun _ H'=>S a' H')
    (at_:Int) (bound:List Str) (n:Nd) (e2:0<=at_) (e3:e[at_.toNat]? =some n) (e4:n.args.length<=1099511627776):
    ∀(l:List Int) (i:Nat) (a a':α) (σ:Nat->PV) (H:AH),l=n.args.drop i->i<=n.args.length->σ 0=dW e->σ 1= .int .i64 at_->σ 2=zu bound->σ 3= .fn (.func g) [] caps->σ 18=YJ n.args->σ 19= .int .i64 n.args.length->σ 20= .int .i64 i->
      S a H->Gy (vk step e k) n bound i l a=some a'-> ∀(Q:Post),(∀σ' H',S a' H'->Q (.exit 0) σ' H')->W Tryz.prog (.loop MI) Q σ H:=by
  intro l
  induction l with
  |nil=>
    intro i a a' σ H hl hi s0 s1 s2 s3 jE pI s20 hS h Q q0;have hii:i=n.args.length:=by
      have:=congrArg List.length hl;rw [List.length_drop,List.length_nil]at this;omega
    rw [Gy]at h;cases h;refine aU (fun K hK=>aD ?_);unfold MI;have hd:decide ((i:Int)<(n.args.length:Int))=false:=decide_eq_false (by omega);simp -implicitDefEqProofs only [go_sem,pI,s20,hd];exact q0 _ _ hS
  |cons op l ihl=>
    intro i a a' σ H hl hi s0 s1 s2 s3 jE pI s20 hS h Q q0;have hlt:i<n.args.length:=by
      have:=congrArg List.length hl;rw [List.length_drop,List.length_cons]at this;omega
    have hop:n.args[i]? =some op:=by
      have:=congrArg (·[0]?) hl
      simpa [List.getElem?_drop]using this.symm
    have hl':l=n.args.drop (i+1):=by
      have:=congrArg List.tail hl;simpa using this
    rw [Gy]at h;cases e5:fZ n (i:Int)with
    |none=>rw [zw e5]at h;cases h
    |some b=>
    rw [zx e5]at h;by_cases e6:(bound.length+b.length)*16<=1099511627776
    case neg=>rw [if_neg e6]at h;cases h
    rw [if_pos e6]at h;cases e7:vk step e k op (bound++b) a with
    |none=>rw [zw e7]at h;cases h
    |some a1=>
    rw [zx e7]at h;refine aU (fun K hK=>aD ?_);unfold MI;have hd:decide ((i:Int)<(n.args.length:Int))=true:=decide_eq_true (by omega);simp -implicitDefEqProofs only [go_sem,s0,s1,s2,s3,jE,pI,s20,hd,List.getElem?_map,hop,Option.map_some];have hb:=afV e5;have hw:IntKind.wrap .i64 ((i:Int)+1)=((i+1:Nat):Int):=by rw [IntKind.wrap_i64];omega
    refine⟨fun _=>True,trivial,?_⟩;refine dR (dW e) (fun H' _=>by simp -implicitDefEqProofs only [go_sem,s0,s1,s2,s3,jE,pI,s20,e2,e3,List.getElem?_map,Option.map_some]) ?_;refine dR (.int .i64 op) (fun H' _=>by simp -implicitDefEqProofs only [go_sem,s0,s1,s2,s3,jE,pI,s20,e2,e3,List.getElem?_map,Option.map_some]) ?_;refine dR (zu bound) (fun H' _=>by simp -implicitDefEqProofs only [go_sem,s0,s1,s2,s3,jE,pI,s20,e2,e3,List.getElem?_map,Option.map_some]) ?_;refine yU (.aB (bound.map aI) .exact) (by simp -implicitDefEqProofs only [go_sem,s0,s1,s2,s3,jE,pI,s20,e2,e3,List.getElem?_map,Option.map_some];exact agp bound) ?_;refine dR (dW e) (fun H' _=>by simp -implicitDefEqProofs only [go_sem,s0,s1,s2,s3,jE,pI,s20,e2,e3,List.getElem?_map,Option.map_some]) ?_;refine dR (.int .i64 at_) (fun H' _=>by simp -implicitDefEqProofs only [go_sem,s0,s1,s2,s3,jE,pI,s20,e2,e3,List.getElem?_map,Option.map_some]) ?_;refine dR (.eB n.cells 0) (fun H' _=>by simp -implicitDefEqProofs only [go_sem,s0,s1,s2,s3,jE,pI,s20,e2,e3,List.getElem?_map,Option.map_some]) ?_;refine dR (.agg n.cells) (fun H' _=>by simp -implicitDefEqProofs only [go_sem,s0,s1,s2,s3,jE,pI,s20,e2,e3,List.getElem?_map,Option.map_some]) ?_;refine dR (.int .i64 i) (fun H' _=>by simp -implicitDefEqProofs only [go_sem,s0,s1,s2,s3,jE,pI,s20,e2,e3,List.getElem?_map,Option.map_some]) ?_;refine yU (zu b) (by simp -implicitDefEqProofs only [go_sem,s0,s1,s2,s3,jE,pI,s20,e2,e3,List.getElem?_map,Option.map_some];exact hb) ?_;obtain⟨c',H',f1,f2,f3,f4,f5⟩:=ac1 (σ:=(upd (upd (upd (upd (upd (upd (upd (upd (upd (upd (upd (upd (upd (upd (upd (upd σ (some 21) (PV.bool true)) (some 22) (PV.int IntKind.i64 ↑i)) (some 23) (PV.eB [PV.int IntKind.i64 op] 0)) (some 24) (PV.int IntKind.i64 op)) (some 8) (PV.int IntKind.i64 ↑i)) (some 9) (PV.int IntKind.i64 op)) (some 25) (dW e)) (some 26) (.int .i64 op)) (some 27) (zu bound)) (some 28) (.aB (bound.map aI) .exact)) (some 29) (dW e)) (some 30) (.int .i64 at_)) (some 31) (.eB n.cells 0)) (some 32) (.agg n.cells)) (some 33) (.int .i64 i)) (some 34) (zu b))) (H:=H) (sz:=1) (b:=16) (x:=AE.t 28) (y:=AE.t 34) jw bound b .exact .unk (by simp -implicitDefEqProofs only [go_sem,s0,s1,s2,s3,jE,pI,s20,e2,e3,List.getElem?_map,Option.map_some]) (by simp -implicitDefEqProofs only [go_sem,s0,s1,s2,s3,jE,pI,s20,e2,e3,List.getElem?_map,Option.map_some]) trivial e6;refine Qp _ H' f1 trivial ?_;refine dR (.fn (.func g) [] caps) (fun H' _=>by simp -implicitDefEqProofs only [go_sem,s0,s1,s2,s3,jE,pI,s20,e2,e3,List.getElem?_map,Option.map_some]) ?_;have hS':S a H':=hv.stable a H H' hS f3 f4 fun c hc=>(f5 c hc .exact).1;rw [ahs];refine eD ?_;simp -implicitDefEqProofs only [go_sem,s0,s1,s2,s3,jE,pI,s20,e2,e3,List.getElem?_map,Option.map_some];refine bE.mono (bE.wk (ih op (bound++b) a a1 H' hS' e7) (.same (.same (.aB (.same .nil))))) fun r H2 hS2=> ?_;simp -implicitDefEqProofs only [go_sem,s0,s1,s2,s3,jE,pI,s20,e2,e3,List.getElem?_map,Option.map_some];refine hK _ _ ?_;refine ihl (i+1) a1 a' _ H2 hl' hlt ?_ ?_ ?_ ?_ ?_ ?_ ?_ hS2 h Q q0
    all_goals (simp -implicitDefEqProofs only [go_sem,s0,s1,s2,s3,jE,pI,s20,e2,e3,List.getElem?_map,Option.map_some,hw];try rfl)
theorem arj {g:FuncId} {caps:List PV} {S:α->AH->Prop} {step:α->Int->List Str->Option α} (hv:Visit g caps S step) (e:List Nd):
    ∀(k:Nat) (at_:Int) (bound:List Str) (a a':α) (H:AH),S a H->vk step e k at_ bound a=some a'->bE Tryz.prog 70 [dW e,.int .i64 at_,zu bound,.fn (.func g) [] caps] H fun _ H'=>S a' H':=by
  intro k
  induction k with
  |zero=>intro at_ bound a a' H hS h;simp only [vk,reduceCtorEq]at h
  |succ k ih=>
    intro at_ bound a a' H hS h
    rw [vk]at h;cases e1:step a at_ bound with
    |none=>rw [zw e1]at h;cases h
    |some a1=>
    rw [zx e1]at h;by_cases e2:0<=at_
    case neg=>rw [if_neg e2]at h;cases h
    rw [if_pos e2]at h;cases e3:e[at_.toNat]? with
    |none=>rw [zw e3]at h;cases h
    |some n=>
    rw [zx e3]at h;by_cases e4:n.args.length<=1099511627776
    case neg=>rw [if_neg e4]at h;cases h
    rw [if_pos e4]at h;refine aG ahT (by simp) (aD ?_);unfold aoQ;simp -implicitDefEqProofs only [go_sem];refine bE.mono (hv.call a at_ bound a1 H hS e1) fun r H1 hS1=> ?_;simp -implicitDefEqProofs only [go_sem,e2,e3];refine agq hv e k ih at_ bound n e2 e3 e4 n.args 0 a1 a' _ H1 rfl (Nat.zero_le _) ?_ ?_ ?_ ?_ ?_ ?_ ?_ hS1 h _ ?_
    all_goals first
      |(simp -implicitDefEqProofs only [go_sem];done)
      |skip
    intro σ' H' hS';exact hS'
end
end Go.VL
end
section
set_option maxHeartbeats 4000000
namespace Go.VL
open Go.Proofs
def tO:Nat->(List Str)->Str->Int->Option Int
  |0,_,_,_=>none
  |k+1,dB,s_1,Dp=>
    cond (decide (Dp<(dB.length:Int))) (if 0<=Dp then Option.bind (dB[Dp.toNat]?) fun x3=>cond (strLt x3 s_1) (tO k dB s_1 (IntKind.wrap .i64 (Dp+1))) (some (Dp))else none) (some (Dp))
def WC:List Nat:=[5]++List.range' 7 14
theorem aey: ∀(k:Nat) (dB:List Str) (s_1:Str) (Dp:Int) (aC σ:Nat->PV) (H:AH) (f0:Fr WC aC σ) (sl:σ 0=(.aB (dB.map aI) .unk)/\σ 1=(.str s_1)/\σ 5=(.int .i64 Dp)) (o:Int) (h:tO k dB s_1 Dp=some o) (Q:Post) (q0: ∀(p:Int) (σ':Nat->PV),o=p->Fr WC aC σ'->(σ' 5=(.int .i64 p))->Q (.exit 0) σ' H),W Tryz.prog (.loop TN) Q σ H:=by
  intro k
  induction k with
  |zero=>intro dB s_1 Dp aC σ H f0 sl o h Q q0;simp only [tO,reduceCtorEq]at h
  |succ k ih=>
    intro dB s_1 Dp aC σ H f0 sl o h Q q0;obtain⟨s0,s1,s5⟩:=sl;unfold tO at h;refine aU (fun K hK=>aD ?_);unfold TN;rcases au h with⟨e1,h⟩|⟨e1,h⟩
    ·obtain⟨e2,h⟩:=aQ h;obtain⟨x3,e4,h⟩:=aj h;rcases au h with⟨e5,h⟩|⟨e5,h⟩
     ·try refine ah ?_
      refine hK _ _ ?_;exact ih dB s_1 (IntKind.wrap .i64 (Dp+1)) _ _ _ aJ av _ h _ q0
     ·obtain rfl:=ak h;try refine ah ?_
      exact q0 _ _ rfl aJ av
    ·obtain rfl:=ak h;try refine ah ?_
     exact q0 _ _ rfl aJ av
def Rb (k:Nat) (dB:List Str) (s_1:Str):Option (List Str):=
  Option.bind (tO k dB s_1 0) (fun p8=>cond (decide (p8<(dB.length:Int))) (if 0<=p8 then Option.bind (dB[p8.toNat]?) fun CK=>cond (CK==s_1) (some dB) (if 0<=p8/\p8.toNat<=dB.length then if(([]:List Str).length+(dB.take p8.toNat).length)*16<=1099511627776 then if((([]:List Str)++(dB.take p8.toNat)).length+1)*16<=1099511627776 then if(((([]:List Str)++(dB.take p8.toNat))++[s_1]).length+(dB.drop p8.toNat).length)*16<=1099511627776 then some (((([]:List Str)++(dB.take p8.toNat))++[s_1])++(dB.drop p8.toNat))else none else none else none else none)else none) (if 0<=p8/\p8.toNat<=dB.length then if(([]:List Str).length+(dB.take p8.toNat).length)*16<=1099511627776 then if((([]:List Str)++(dB.take p8.toNat)).length+1)*16<=1099511627776 then if(((([]:List Str)++(dB.take p8.toNat))++[s_1]).length+(dB.drop p8.toNat).length)*16<=1099511627776 then some (((([]:List Str)++(dB.take p8.toNat))++[s_1])++(dB.drop p8.toNat))else none else none else none else none))
theorem amy {k:Nat} {dB:List Str} {s_1:Str} {c0:Ck} {r:List Str} (h:Rb k dB s_1=some r):aF Tryz.prog 67 [(.aB (dB.map aI) c0),(.str s_1)] (.aB (r.map aI) .unk):=by
  refine aF.lw (.aB (.same .nil)) (aF.aP (bg.mem (.cons (aV bn _) (.cons (.str _) .nil))) (aG avW (by simp) (aD ?_)) (aV bn _));unfold Rb at h;unfold aoN;try refine ah ?_
  obtain⟨o6,h7,h⟩:=aj h;refine aey k dB s_1 0 _ _ _ (Fr.refl _ _) av _ h7 _ ?_
  ·rintro p8 σ' eo NC s12;rw [eo]at h;have s13:σ' 0=(.aB (dB.map aI) .unk):=(NC 0 (by decide)).trans av;have NP:σ' 1=(.str s_1):=(NC 1 (by decide)).trans av;rcases au h with⟨e15,h⟩|⟨e15,h⟩
   ·obtain⟨e16,h⟩:=aQ h;obtain⟨CK,e18,h⟩:=aj h;rcases au h with⟨e19,h⟩|⟨e19,h⟩
    ·obtain rfl:=ak h;try refine ah ?_
     exact(d9 bn _ _)
    ·obtain⟨e20,h⟩:=aQ h;try refine ah ?_
     refine aG Tk (by simp) (aD ?_);unfold Tj;obtain⟨e26,h⟩:=aQ h;try refine ah ?_
     refine gF (f:=aI) jw ([]:List Str) ((dB.take p8.toNat):List Str) .exact .unk av av fM (by first|exact e26|(simp only [List.length_cons,List.length_nil];exact e26)) (fun c22 H23 aw9 le axa aBW=> ?_);have aBX:HF [] _ H23:=⟨le,fun i _ _=>axa i⟩;try simp only [AH.aK,AH.aL,AH.aM,AH.aN]at le
     obtain⟨e33,h⟩:=aQ h;try refine ah ?_
     refine gF (f:=aI) jw (([]:List Str)++(dB.take p8.toNat)) ([s_1]:List Str) c22 .exact av av fM (by first|exact e33|(simp only [List.length_cons,List.length_nil];exact e33)) (fun c29 H30 aoh le axb aBY=> ?_);have aBZ:HF [] _ H30:=⟨le,fun i _ _=>axb i⟩;try simp only [AH.aK,AH.aL,AH.aM,AH.aN]at le
     obtain⟨e40,h⟩:=aQ h;try refine ah ?_
     refine gF (f:=aI) jw ((([]:List Str)++(dB.take p8.toNat))++[s_1]) ((dB.drop p8.toNat):List Str) c29 .unk av av fM (by first|exact e40|(simp only [List.length_cons,List.length_nil];exact e40)) (fun c36 H37 aqD le axc aB0=> ?_);have ard:HF [] _ H37:=⟨le,fun i _ _=>axc i⟩;try simp only [AH.aK,AH.aL,AH.aM,AH.aN]at le
     obtain rfl:=ak h;try refine ah ?_
     exact(d9 bn _ _)
   ·obtain⟨e43,h⟩:=aQ h;try refine ah ?_
    refine aG Tk (by simp) (aD ?_);unfold Tj;obtain⟨e49,h⟩:=aQ h;try refine ah ?_
    refine gF (f:=aI) jw ([]:List Str) ((dB.take p8.toNat):List Str) .exact .unk av av fM (by first|exact e49|(simp only [List.length_cons,List.length_nil];exact e49)) (fun c45 H46 ahQ le aiL axd=> ?_);have Vj:HF [] _ H46:=⟨le,fun i _ _=>aiL i⟩;try simp only [AH.aK,AH.aL,AH.aM,AH.aN]at le
    obtain⟨e56,h⟩:=aQ h;try refine ah ?_
    refine gF (f:=aI) jw (([]:List Str)++(dB.take p8.toNat)) ([s_1]:List Str) c45 .exact av av fM (by first|exact e56|(simp only [List.length_cons,List.length_nil];exact e56)) (fun c52 H53 aoB le aiM aB1=> ?_);have aez:HF [] _ H53:=⟨le,fun i _ _=>aiM i⟩;try simp only [AH.aK,AH.aL,AH.aM,AH.aN]at le
    obtain⟨e63,h⟩:=aQ h;try refine ah ?_
    refine gF (f:=aI) jw ((([]:List Str)++(dB.take p8.toNat))++[s_1]) ((dB.drop p8.toNat):List Str) c52 .unk av av fM (by first|exact e63|(simp only [List.length_cons,List.length_nil];exact e63)) (fun c59 H60 aoI le axe aB2=> ?_);have aeA:HF [] _ H60:=⟨le,fun i _ _=>axe i⟩;try simp only [AH.aK,AH.aL,AH.aM,AH.aN]at le
    obtain rfl:=ak h;try refine ah ?_
    exact(d9 bn _ _)
def nE:Nat->(List Nd)->(List Str)->Int->Int->Option (List Str)
  |0,_,_,_,_=>none
  |k+1,aH,iD,JE,El=>
    cond (decide (JE>=0)) (if 0<=JE then Option.bind (aH[JE.toNat]?) fun x5=>Option.bind (uH x5 El) fun p8=>if(([]:List Str).length+p8.length)*16<=1099511627776 then if((([]:List Str)++p8).length+iD.length)*16<=1099511627776 then Option.bind (pJ k aH JE) fun p25=>nE k aH ((([]:List Str)++p8)++iD) p25.1 p25.2 else none else none else none) (some (iD))
def Ki:List Nat:=[5,6,7]++List.range' 14 17
theorem Vq: ∀(k:Nat) (aH:List Nd) (iD:List Str) (JE:Int) (El:Int) (AY:Ck) (aC σ:Nat->PV) (H0 H:AH) (f0:Fr Ki aC σ) (hf0:HF [] H0 H) (sl:σ 0=(.aB (aH.map Nd.cells) .unk)/\σ 5=(.aB (iD.map aI) AY)/\σ 6=(.int .i64 JE)/\σ 7=(.int .i64 El)) (o:List Str) (h:nE k aH iD JE El=some o) (Q:Post) (q0: ∀(p:List Str) (c0:Ck) (σ':Nat->PV) (H':AH),o=p->Fr Ki aC σ'->HF [] H0 H'->(σ' 5=(.aB (p.map aI) c0))->Q (.exit 0) σ' H'),W Tryz.prog (.loop S9) Q σ H:=by
  intro k
  induction k with
  |zero=>intro aH iD JE El AY aC σ H0 H f0 hf0 sl o h Q q0;simp only [nE,reduceCtorEq]at h
  |succ k ih=>
    intro aH iD JE El AY aC σ H0 H f0 hf0 sl o h Q q0;obtain⟨s0,s5,s6,s7⟩:=sl;have hle0:=hf0.1;unfold nE at h;refine aU (fun K hK=>aD ?_);unfold S9;rcases au h with⟨e3,h⟩|⟨e3,h⟩
    ·obtain⟨e4,h⟩:=aQ h;obtain⟨x5,e6,h⟩:=aj h;obtain⟨p8,e7,h⟩:=aj h;try refine ah ?_
     refine aA (Wn e7) ?_;try refine ah ?_
     refine aG Tk (by simp) (aD ?_);unfold Tj;obtain⟨e14,h⟩:=aQ h;try refine ah ?_
     refine gF (f:=aI) jw ([]:List Str) (p8:List Str) .exact .unk av av fM (by first|exact e14|(simp only [List.length_cons,List.length_nil];exact e14)) (fun c10 H11 anX le axf aB3=> ?_);have ZQ:HF [] _ H11:=⟨le,fun i _ _=>axf i⟩;try simp only [AH.aK,AH.aL,AH.aM,AH.aN]at le
     obtain⟨e21,h⟩:=aQ h;try refine ah ?_
     refine gF (f:=aI) jw (([]:List Str)++p8) (iD:List Str) c10 AY av av fM (by first|exact e21|(simp only [List.length_cons,List.length_nil];exact e21)) (fun c17 H18 aq9 le axg aiN=> ?_);have axh:HF [] _ H18:=⟨le,fun i _ _=>axg i⟩;try simp only [AH.aK,AH.aL,AH.aM,AH.aN]at le
     obtain⟨p25,e24,h⟩:=aj h;try refine ah ?_
     refine aA (DJ e24) ?_;try refine ah ?_
     refine hK _ _ ?_;exact ih aH ((([]:List Str)++p8)++iD) p25.1 p25.2 c17 _ _ _ _ aJ (by repeat (first|exact hf0|refine HF.new ?_|refine HF.fP ?_|refine HF.used ?_|refine HF.put (by first|(right;omega)|(left;simp only [List.mem_cons,true_or,or_true])) ?_|refine HF.via ZQ (by first|exact fun i hi=>absurd hi List.not_mem_nil|(intro i hi;simp only [List.mem_cons,List.not_mem_nil,or_false]at hi⊢;first|exact .inl hi|omega)) ?_|refine HF.via axh (by first|exact fun i hi=>absurd hi List.not_mem_nil|(intro i hi;simp only [List.mem_cons,List.not_mem_nil,or_false]at hi⊢;first|exact .inl hi|omega)) ?_)) av _ h _ q0
    ·obtain rfl:=ak h;try refine ah ?_
     exact q0 _ AY _ _ rfl aJ (by repeat (first|exact hf0|refine HF.new ?_|refine HF.fP ?_|refine HF.used ?_|refine HF.put (by first|(right;omega)|(left;simp only [List.mem_cons,true_or,or_true])) ?_)) av
def sH (k:Nat) (aH:List Nd) (dD:Int):Option (List Str):=
  Option.bind (pJ k aH dD) fun p2=>Option.bind (nE k aH ([]:List Str) p2.1 p2.2) (fun p28=>some p28)
theorem abU {k:Nat} {aH:List Nd} {dD:Int} {c0:Ck} {r:List Str} (h:sH k aH dD=some r):aF Tryz.prog 36 [(.aB (aH.map Nd.cells) c0),(.int .i64 dD)] (.aB (r.map aI) .unk):=by
  refine aF.lw (.aB (.same .nil)) (aF.aP (bg.mem (.cons (aV Nd.pu _) (.cons (.int _ _) .nil))) (aG avD (by simp) (aD ?_)) (aV bn _));unfold sH at h;unfold aom;obtain⟨p2,e1,h⟩:=aj h;try refine ah ?_
  refine aA (DJ e1) ?_;try refine ah ?_
  obtain⟨o26,h27,h⟩:=aj h;refine Vq k aH ([]:List Str) p2.1 p2.2 .nil _ _ _ _ (Fr.refl _ _) (HF.refl _ _) av _ h27 _ ?_
  ·rintro p28 c32 σ' H31 eo Ph ah1 s33;rw [eo]at h;have le:=ah1.1;try simp only [AH.aK,AH.aL,AH.aM,AH.aN]at le
   obtain rfl:=ak h;try refine ah ?_
   exact(d9 bn _ _)
end Go.VL
end
section
namespace Go.VL
open Tm
def rF (n:Nd) (p:Nat):List Str:=(fZ n (p:Int)).getD []
theorem PG {n:Nd} (h:bO true n=0) (hk:n.kind=23):n.args.length=2/\1<=n.names.length:=by
  unfold bO at h
  split at h;·cases h
  split at h;·cases h
  rename_i _ h1;have h1:mD n=true:=by simpa using h1
  unfold mD at h1;have hs:ig 23=((1,5,2,2),false):=by kernel_rfl
  rw [hk,hs]at h1;simp [gZ]at h1;omega
theorem Kj {n:Nd} (h:bO true n=0) (hl:n.args.length<=1000000) (p:Nat):fZ n (p:Int)=some (rF n p):=by
  have hj: ∃b,jv n.kind=some b:=by
    unfold jv
    repeat' first
      |exact⟨_,rfl⟩
      |(generalize(n.kind==_)=b;cases b<;>simp only [cond_true,cond_false])
  obtain⟨b,hb⟩:=hj;have: ∃r,fZ n (p:Int)=some r:=by
    unfold fZ;rw [hb,Option.bind_some];cases b with
    |true=>rw [cond_true];cases((p:Int)==IntKind.wrap .i64 ((n.args.length:Int) -1))<;>exact⟨_,rfl⟩
    |false=>
      rw [cond_false];by_cases hk:n.kind=23
      · obtain⟨h1,h2⟩:=PG h hk;rw [vG (by rw [hk];rfl)];rw [if_pos h2,if_pos h2];cases((p:Int)==IntKind.wrap .i64 ((n.args.length:Int) -1))<;>cases(n.n==1)<;>exact⟨_,rfl⟩
      · rw [nR (by rw [beq_eq_false_iff_ne];exact hk)];exact⟨_,rfl⟩
  obtain⟨r,hr⟩:=this;unfold rF;rw [hr];rfl
theorem Kk {n:Nd} (h:bO true n=0) (hl:n.args.length<=1000000) (p:Nat):uH n (p:Int)=some (rF n p):=by
  rw [<-Kj h hl];unfold uH fZ;show Option.bind (jv n.kind) _=_
  cases jv n.kind with
  |none=>rfl
  |some b=>
    rw [Option.bind_some,Option.bind_some];cases b with
    |true=>rfl
    |false=>
      rw [cond_false,cond_false];by_cases hk:n.kind=23
      · obtain⟨h1,h2⟩:=PG h hk;rw [h1];rfl
      · rw [nR (by rw [beq_eq_false_iff_ne];exact hk),nR (by rw [beq_eq_false_iff_ne];exact hk)]
theorem LZ {n:Nd} {m:Nat} (hm:n.names.length<=m) (p:Nat):(rF n p).length<=m:=by
  have key: ∀r,fZ n (p:Int)=some r->r.length<=m:=by
    intro r hr;unfold fZ at hr;cases hj:jv n.kind with
    |none=>rw [hj]at hr;cases hr
    |some b=>
      rw [hj,Option.bind_some]at hr;cases b with
      |true=>
        rw [cond_true]at hr;cases e:((p:Int)==IntKind.wrap .i64 ((n.args.length:Int) -1))<;>rw [e]at hr<;>cases hr
        · exact Nat.zero_le _
        · exact hm
      |false=>
        rw [cond_false]at hr;cases e0:(n.kind==23)<;>rw [e0]at hr
        · cases hr;exact Nat.zero_le _
        · rw [cond_true]at hr;by_cases h1:1<=n.names.length
          · rw [if_pos h1,if_pos h1]at hr;cases e:((p:Int)==IntKind.wrap .i64 ((n.args.length:Int) -1))<;>rw [e]at hr
            · cases e2:(n.n==1)<;>rw [e2]at hr<;>cases hr
              · simp;omega
              · exact hm
            · cases hr;simp;omega
          · rw [if_neg h1,if_neg h1]at hr;cases e:((p:Int)==IntKind.wrap .i64 ((n.args.length:Int) -1))<;>rw [e]at hr
            · cases e2:(n.n==1)<;>rw [e2]at hr<;>cases hr;exact hm
            · cases hr
  unfold rF;cases h:fZ n (p:Int)with
  |none=>exact Nat.zero_le _
  |some r=>exact key r h
mutual
def vis (b:Nat) (bd:List Str):Tm->List (Nat×List Str)
  | .mk x cs=>(b+sizes cs,bd)::wI b bd (nd x b cs) 0 cs
def wI (b:Nat) (bd:List Str) (n:Nd) (j:Nat):List Tm->List (Nat×List Str)
  |[]=>[]
  |c::cs=>vis b (bd++rF n j) c++wI (b+c.size) bd n (j+1) cs
end
theorem ze {b:Nat} {bd:List Str} {n:Nd} {j:Nat} {c:Tm} {cs:List Tm}:wI b bd n j (c::cs)=vis b (bd++rF n j) c++wI (b+c.size) bd n (j+1) cs:=by rw [wI]
theorem I4 {b:Nat} {bd:List Str} {x:Nd} {cs:List Tm}:vis b bd (.mk x cs)=(b+sizes cs,bd)::wI b bd (nd x b cs) 0 cs:=by rw [vis]
section
variable {α:Type}
def yO (step:α->Int->List Str->Option α):List (Nat×List Str)->α->Option α
  |[],a=>some a
  |v::l,a=>Option.bind (step a (v.1:Int) v.2) fun a'=>yO step l a'
theorem N9 (step:α->Int->List Str->Option α): ∀(l m:List (Nat×List Str)) (a:α),yO step (l++m) a=Option.bind (yO step l a) fun a'=>yO step m a'
  |[],m,a=>rfl
  |v::l,m,a=>by
    rw [List.cons_append,yO,yO];cases step a (v.1:Int) v.2 with
    |none=>rfl
    |some a'=>exact N9 step l m a'
structure rz (e:List Nd):Prop where
  len:e.length<=170
  ok: ∀(i:Nat) n,e[i]? =some n->bO true n=0
  few: ∀(i:Nat) n,e[i]? =some n->n.args.length<=34/\n.names.length<=34
variable {e:List Nd} (hF:rz e) (step:α->Int->List Str->Option α)
include hF
mutual
theorem PI: ∀(t:Tm) (b:Nat) (bd:List Str) (k:Nat) (a:α),Seg e b t->t.size<=k->bd.length+34*(b+t.size -1)<=10000->vk step e k ((b+t.size -1:Nat):Int) bd a=yO step (vis b bd t) a
  | .mk x cs,b,bd,k,a,hS,hk,hb=>by
    have hn:=hS.node;have hsz:b+(Tm.mk x cs).size -1=b+sizes cs:=by simp only [size];omega
    rw [hsz]at hb⊢;obtain⟨k,rfl⟩: ∃j,k=j+1:=⟨k -1,by simp only [size]at hk;omega⟩;rw [vk,I4,yO];cases step a ((b+sizes cs:Nat):Int) bd with
    |none=>rfl
    |some a'=>
      simp only [Option.bind_some,nn,if_true,Int.toNat_natCast,hn];have hl:(nd x b cs).args.length<=1099511627776:=by have:=(hF.few _ _ hn).1;omega
      rw [if_pos hl];exact WI cs x [] b bd k a' hS (by simp only [size]at hk;omega) (by simp only [List.nil_append];omega)
theorem WI: ∀(cs:List Tm) (x:Nd) (l:List Tm) (b:Nat) (bd:List Str) (k:Nat) (a:α),Seg e b (.mk x (l++cs))->sizes cs<=k->bd.length+34*(b+sizes (l++cs))<=10000->
    Gy (vk step e k) (nd x b (l++cs)) bd l.length (roots (b+sizes l) cs) a=yO step (wI (b+sizes l) bd (nd x b (l++cs)) l.length cs) a
  |[],x,l,b,bd,k,a,hS,hk,hb=>by rw [roots,Gy,wI,yO]
  |c::cs,x,l,b,bd,k,a,hS,hk,hb=>by
    have hn:=hS.node;have AZ:=hF.few _ _ hn;have hbl:=LZ AZ.2 l.length;have hcp:=c.size_pos;have hsz:sizes (l++c::cs)=sizes l+(c.size+sizes cs):=by rw [dG,sizes]
    rw [hsz]at hb;rw [roots,Gy,ze,N9,Kj (hF.ok _ _ hn) (by omega),Option.bind_some,if_pos (by omega)];have hk2:sizes (c::cs)=c.size+sizes cs:=by rw [sizes]
    rw [PI c (b+sizes l) (bd++rF (nd x b (l++c::cs)) l.length) k a hS.kid (by omega) (by rw [List.length_append];omega)];cases yO step (vis (b+sizes l) (bd++rF (nd x b (l++c::cs)) l.length) c) a with
    |none=>rfl
    |some a'=>
      have e1:l++c::cs=(l++[c])++cs:=by simp
      have e2:l.length+1=(l++[c]).length:=by simp
      have e3:b+sizes l+c.size=b+sizes (l++[c]):=by rw [dG,nD];omega
      rw [Option.bind_some,Option.bind_some,e1,e2,e3];exact WI cs x (l++[c]) b bd k a' (by rw [<-e1];exact hS) (by omega) (by rw [<-e1,hsz];omega)
end
end
end Go.VL
end
section
namespace Go.VL
theorem L6: ∀a b:Str,strLt a b=true↔a<b
  |[],[]=>by simp [strLt]
  |a::x,[]=>by simp [strLt]
  |[],b::y=>by simp [strLt]
  |a::x,b::y=>by
    rw [strLt,List.cons_lt_cons_iff,Bool.or_eq_true,Bool.and_eq_true,decide_eq_true_eq,beq_iff_eq,L6 x y]
theorem tri (a b:Str):a<b\/a=b\/b<a:=by
  rcases List.le_total a b with h|h
  · by_cases e:a=b
    · exact .inr (.inl e)
    · by_cases h2:a<b
      · exact .inl h2
      · exact absurd (List.le_antisymm h (List.not_lt.1 h2)) e
  · by_cases e:a=b
    · exact .inr (.inl e)
    · by_cases h2:b<a
      · exact .inr (.inr h2)
      · exact absurd (List.le_antisymm (List.not_lt.1 h2) h) e
def tQ (s:Str):List Str->List Str
  |[]=>[s]
  |x::l=>if strLt x s=true then x::tQ s l else if x=s then x::l else s::x::l
def Dq (l:List Str):List Str:=l.foldl (fun a s=>tQ s a) []
theorem JF {s y:Str}: ∀{l:List Str},y∈tQ s l↔y=s\/y∈l
  |[]=>by simp [tQ]
  |x::l=>by
    rw [tQ];split
    · simp only [List.mem_cons,JF (l:=l)];constructor
      · rintro(h|h|h)<;>simp [h]
      · rintro(h|h|h)<;>simp [h]
    · split
      · rename_i h;subst h;simp
      · simp
theorem PK {s:Str}: ∀{l:List Str},l.Pairwise (·< ·)->(tQ s l).Pairwise (·< ·)
  |[],_=>by simp [tQ]
  |x::l,h=>by
    rw [tQ];obtain⟨h1,h2⟩:=List.pairwise_cons.1 h;split
    · rename_i hx;refine List.pairwise_cons.2 ⟨fun y hy=> ?_,PK h2⟩;rcases JF.1 hy with rfl|hy
      · exact(L6 _ _).1 hx
      · exact h1 y hy
    · rename_i hx;split
      · exact h
      · rename_i hne;have hlt:s<x:=by
          rcases tri s x with h|h|h
          · exact h
          · exact absurd h.symm hne
          · exact absurd ((L6 _ _).2 h) hx
        refine List.pairwise_cons.2 ⟨fun y hy=> ?_,h⟩;rcases List.mem_cons.1 hy with rfl|hy
        · exact hlt
        · exact List.lt_trans hlt (h1 y hy)
theorem PL: ∀(l a:List Str),a.Pairwise (·< ·)->(l.foldl (fun a s=>tQ s a) a).Pairwise (·< ·)/\ ∀y,y∈l.foldl (fun a s=>tQ s a) a↔y∈l\/y∈a
  |[],a,h=>⟨h,fun y=>by simp⟩
  |s::l,a,h=>by
    obtain⟨h1,h2⟩:=PL l (tQ s a) (PK h);refine⟨h1,fun y=> ?_⟩;rw [List.foldl_cons,h2 y,JF,List.mem_cons];constructor
    · rintro(h|h|h)<;>simp [h]
    · rintro((h|h)|h)<;>simp [h]
theorem aaj (l:List Str):(Dq l).Pairwise (·< ·):=(PL l [] List.Pairwise.nil).1
theorem PN {l:List Str} {y:Str}:y∈Dq l↔y∈l:=by rw [Dq,(PL l [] List.Pairwise.nil).2 y];simp
theorem aak {l m:List Str} (hl:l.Pairwise (·< ·)) (hm:m.Pairwise (·< ·)) (h: ∀y,y∈l↔y∈m):l=m:=by
  have nd: ∀{l:List Str},l.Pairwise (·< ·)->l.Nodup:=fun h=>h.imp (S:=fun a b=>a≠b) fun{a b} hab e=>List.lt_irrefl a (by rw [<-e]at hab;exact hab)
  have hp:l.Perm m:=(List.perm_ext_iff_of_nodup (nd hl) (nd hm)).2 h
  exact List.Perm.eq_of_pairwise (le:=(·< ·)) (fun a b _ _ h1 h2=>absurd (List.lt_trans h1 h2) (List.lt_irrefl a)) hl hm hp
theorem Fh (d:Array Str) (hd: ∀i j,i<j->j<d.size->d[i]! <=d[j]!): ∀m,m<=d.size->(Lib.compactUpTo d m).Pairwise (·< ·)/\(∀x∈Lib.compactUpTo d m,∃j,j<m/\x=d[j]!)/\(∀j,j<m->d[j]! ∈Lib.compactUpTo d m)
  |0,_=>⟨List.Pairwise.nil,fun x h=>(by simp [Lib.compactUpTo]at h),fun j h=>absurd h (Nat.not_lt_zero _)⟩
  |m+1,hm=>by
    obtain⟨h1,h2,h3⟩:=Fh d hd m (by omega);rw [Lib.compactUpTo_succ];cases hk:Lib.keeps d m with
    |true=>
      rw [if_pos rfl];refine⟨List.pairwise_append.2 ⟨h1,List.pairwise_singleton _ _,fun a ha b hb=> ?_⟩,fun x hx=> ?_,fun j hj=> ?_⟩
      · rw [List.mem_singleton]at hb;subst hb;obtain⟨j,hj,rfl⟩:=h2 a ha;have hne:d[m]! ≠d[m -1]! :=by
          unfold Lib.keeps at hk;rw [decide_eq_true_eq]at hk;rcases hk with h|h
          · omega
          · exact h
        have h4:d[j]! <=d[m -1]! :=by
          by_cases e:j=m -1
          · rw [e];exact List.le_refl _
          · exact hd j (m -1) (by omega) (by omega)
        have h5:d[m -1]! <=d[m]! :=hd (m -1) m (by omega) (by omega);have h6:d[m -1]! <d[m]! :=by
          rcases tri d[m -1]! d[m]! with h|h|h
          · exact h
          · exact absurd h.symm hne
          · exact absurd (List.le_antisymm h5 (List.le_of_lt h)).symm hne
        rcases tri d[j]! d[m]! with h|h|h
        · exact h
        · rw [h]at h4;exact absurd (List.le_antisymm h4 h5) hne
        · have h7:=List.lt_trans h6 h;exact absurd (List.le_antisymm h4 (List.le_of_lt h7)) (fun e=>List.lt_irrefl _ (e▸h7))
      · rcases List.mem_append.1 hx with hx|hx
        · obtain⟨j,hj,e⟩:=h2 x hx;exact⟨j,by omega,e⟩
        · rw [List.mem_singleton]at hx;exact⟨m,Nat.lt_succ_self _,hx⟩
      · by_cases e:j=m
        · subst e;exact List.mem_append_right _ (List.mem_singleton.2 rfl)
        · exact List.mem_append_left _ (h3 j (by omega))
    |false=>
      rw [if_neg (by simp),List.append_nil];refine⟨h1,fun x hx=> ?_,fun j hj=> ?_⟩
      · obtain⟨j,hj,e⟩:=h2 x hx;exact⟨j,by omega,e⟩
      · by_cases e:j=m
        · subst e;unfold Lib.keeps at hk;rw [decide_eq_false_iff_not,not_or,Decidable.not_not]at hk;rw [hk.2];exact h3 (j -1) (by omega)
        · exact h3 j (by omega)
theorem aal (l:List Str):Lib.compact (l.mergeSort fun x y=>decide (x<=y))=Dq l:=by
  have tr: ∀a b c:Str,decide (a<=b)=true->decide (b<=c)=true->decide (a<=c)=true:=fun a b c h1 h2=>by simp only [decide_eq_true_eq]at*;exact List.le_trans h1 h2
  have tot: ∀a b:Str,(decide (a<=b)||decide (b<=a))=true:=fun a b=>by simp only [Bool.or_eq_true,decide_eq_true_eq];exact List.le_total a b
  have hs:=List.pairwise_mergeSort (le:=fun x y:Str=>decide (x<=y)) tr tot l;have hp:=List.mergeSort_perm l (fun x y:Str=>decide (x<=y));generalize(l.mergeSort fun x y=>decide (x<=y))=m at hs hp;have hd: ∀i j,i<j->j<m.toArray.size->m.toArray[i]! <=m.toArray[j]! :=fun i j hij hj=>by
    have hj':j<m.length:=by simpa using hj
    have:=List.pairwise_iff_getElem.1 hs i j (by omega) hj' hij;rw [decide_eq_true_eq]at this;simp [hj',show i<m.length by omega];exact this
  obtain⟨h1,h2,h3⟩:=Fh m.toArray hd m.length (by simp);refine aak h1 (aaj l) fun y=> ?_;rw [PN,<-hp.mem_iff];constructor
  · intro h;obtain⟨j,hj,rfl⟩:=h2 y h;simp [hj]
  · intro h;obtain⟨j,hj,rfl⟩:=List.getElem_of_mem h;have:=h3 j hj;unfold Lib.compact;simpa [hj]using this
end Go.VL
end
section
set_option maxHeartbeats 4000000
namespace Go.VL
open Go.Proofs
def jf:Nat->(List Nd)->(List Str)->Int->Option (List Str)
  |0,_,_,_=>none
  |k+1,aH,gV,gI=>
    cond (decide (gI<(aH.length:Int))) (if 0<=gI then Option.bind (aH[gI.toNat]?) fun x3=>Option.bind (y7 k x3) fun p6=>cond p6 (Option.bind (sH k aH gI) fun p9=>Option.bind (mI k p9 x3.text) fun nJ=>cond nJ (jf k aH gV (IntKind.wrap .i64 (gI+1))) (Option.bind (Rb k gV x3.text) fun jO=>jf k aH jO (IntKind.wrap .i64 (gI+1)))) (jf k aH gV (IntKind.wrap .i64 (gI+1)))else none) (some (gV))
def L8:List Nat:=List.range' 3 32
theorem XV: ∀(k:Nat) (aH:List Nd) (gV:List Str) (gI:Int) (jK:Ck) (aC σ:Nat->PV) (H:AH) (f0:Fr L8 aC σ) (sl:σ 0=(.aB (aH.map Nd.cells) .unk)/\σ 3=(.aB (gV.map aI) jK)/\σ 4=(.int .i64 gI)) (o:List Str) (h:jf k aH gV gI=some o) (Q:Post) (q0: ∀(p:List Str) (c0:Ck) (σ':Nat->PV),o=p->Fr L8 aC σ'->(σ' 3=(.aB (p.map aI) c0))->Q (.exit 0) σ' H),W Tryz.prog (.loop SY) Q σ H:=by
  intro k
  induction k with
  |zero=>intro aH gV gI jK aC σ H f0 sl o h Q q0;simp only [jf,reduceCtorEq]at h
  |succ k ih=>
    intro aH gV gI jK aC σ H f0 sl o h Q q0;obtain⟨s0,s3,s4⟩:=sl;unfold jf at h;refine aU (fun K hK=>aD ?_);unfold SY;rcases au h with⟨e1,h⟩|⟨e1,h⟩
    ·try refine ah ?_
     refine eZ ?_;obtain⟨e2,h⟩:=aQ h;obtain⟨x3,e4,h⟩:=aj h;obtain⟨p6,e5,h⟩:=aj h;try refine ah ?_
     refine PC.mk (Wm e5) ?_;rcases au h with⟨e7,h⟩|⟨e7,h⟩
     ·obtain⟨p9,e8,h⟩:=aj h;try refine ah ?_
      refine PC.mk (abU e8) ?_;obtain⟨nJ,e10,h⟩:=aj h;try refine ah ?_
      refine aA (zB e10) ?_;rcases au h with⟨e12,h⟩|⟨e12,h⟩
      ·try refine ah ?_
       refine hK _ _ ?_;exact ih aH gV (IntKind.wrap .i64 (gI+1)) jK _ _ _ aJ av _ h _ q0
      ·obtain⟨jO,e13,h⟩:=aj h;try refine ah ?_
       refine aA (amy e13) ?_;try refine ah ?_
       refine hK _ _ ?_;exact ih aH jO (IntKind.wrap .i64 (gI+1)) .unk _ _ _ aJ av _ h _ q0
     ·try refine ah ?_
      refine hK _ _ ?_;exact ih aH gV (IntKind.wrap .i64 (gI+1)) jK _ _ _ aJ av _ h _ q0
    ·obtain rfl:=ak h;try refine ah ?_
     exact q0 _ jK _ rfl aJ av
def tT (k:Nat) (aH:List Nd):Option (List Str):=
  Option.bind (jf k aH ([]:List Str) 0) (fun NJ=>some NJ)
theorem Rf {k:Nat} {aH:List Nd} {c0:Ck} {r:List Str} (h:tT k aH=some r):aF Tryz.prog 34 [(.aB (aH.map Nd.cells) c0)] (.aB (r.map aI) .unk):=by
  refine aF.lw (.aB .nil) (aF.aP (bg.mem (.cons (aV Nd.pu _) .nil)) (aG avC (by simp) (aD ?_)) (aV bn _));unfold tT at h;unfold aoj;try refine ah ?_
  obtain⟨o15,h16,h⟩:=aj h;refine XV k aH ([]:List Str) 0 .nil _ _ _ (Fr.refl _ _) av _ h16 _ ?_
  ·rintro NJ c21 σ' eo apB s22;rw [eo]at h;obtain rfl:=ak h;try refine ah ?_
   exact(d9 bn _ _)
end Go.VL
end
section
namespace Go.VL
def nB (s:Str):List Str->Nat
  |[]=>0
  |x::l=>if strLt x s=true then nB s l+1 else 0
theorem aeB (s:Str): ∀l,nB s l<=l.length
  |[]=>Nat.le_refl _
  |x::l=>by
    rw [nB];split
    · have:=aeB s l;simp only [List.length_cons];omega
    · omega
theorem Vr (s:Str): ∀l,tQ s l=if l[nB s l]? =some s then l else l.take (nB s l)++s::l.drop (nB s l)
  |[]=>by simp [tQ,nB]
  |x::l=>by
    rw [tQ,nB];by_cases h:strLt x s=true
    · rw [if_pos h,if_pos h,Vr s l];simp only [List.getElem?_cons_succ,List.take_succ_cons,List.drop_succ_cons];split<;>rfl
    · rw [if_neg h,if_neg h];by_cases h2:x=s
      · subst h2;simp
      · simp [h2]
theorem abV (l:List Str) (s:Str) (hl:l.length<=1000000):Ev (fun k=>tO k l s ((0:Nat):Int)) (((0+nB s (l.drop 0):Nat):Int)):=by
  refine lK (len:=l.length) (p:=fun i=>Ev (fun k=>tO k l s (i:Int)) (((i+nB s (l.drop i):Nat):Int))) ?_ fun i hi ih=> ?_
  · refine Ev.succ ?_;simp only [tO];exact Ev.cF (jP _) (Ev.some' (by simp [nB]))
  · refine Ev.succ ?_;simp only [tO,Int.toNat_natCast,bI hi,Option.bind_some,nn,if_true,lC hi,cond_true,eO hi (show l.length<=1099511627776 by omega)];rw [drop_cons hi,nB];by_cases h:strLt l[i] s=true
    · refine Ev.cT h (ih.to ?_);rw [if_pos h];omega
    · refine Ev.cF (by simpa using h) (Ev.some' ?_);rw [if_neg h];rfl
theorem aiO (l:List Str) (s:Str) (hl:l.length<=1000000):Ev (fun k=>Rb k l s) (tQ s l):=by
  have h0:=abV l s hl;rw [List.drop_zero,Nat.zero_add]at h0;have hle:=aeB s l;unfold Rb;refine Ev.bind h0 ?_;rw [Vr];have e1:(([]:List Str).length+(l.take (nB s l)).length)*16<=1099511627776:=by simp;omega
  have e2:((([]:List Str)++(l.take (nB s l))).length+1)*16<=1099511627776:=by simp;omega
  have e3:(((([]:List Str)++(l.take (nB s l)))++[s]).length+(l.drop (nB s l)).length)*16<=1099511627776:=by simp;omega
  have e4:(0:Int)<=((nB s l:Nat):Int)/\nB s l<=l.length:=⟨by omega,hle⟩;have tail:Ev (fun _:Nat=>if(0:Int)<=((nB s l:Nat):Int)/\nB s l<=l.length then(if(([]:List Str).length+(l.take (nB s l)).length)*16<=1099511627776 then(if((([]:List Str)++(l.take (nB s l))).length+1)*16<=1099511627776 then(if(((([]:List Str)++(l.take (nB s l)))++[s]).length+(l.drop (nB s l)).length)*16<=1099511627776 then some (((([]:List Str)++(l.take (nB s l)))++[s])++(l.drop (nB s l)))else none)else none)else none)else none) (l.take (nB s l)++s::l.drop (nB s l)):=by
    rw [if_pos e4,if_pos e1,if_pos e2,if_pos e3];exact Ev.some' (by simp)
  by_cases h:nB s l<l.length
  · simp only [Int.toNat_natCast,bI h,Option.bind_some,nn,if_true];refine Ev.cT (lC h) ?_;by_cases h2:l[nB s l]=s
    · refine Ev.cT (by rw [beq_iff_eq];exact h2) (Ev.some' ?_);rw [if_pos (by rw [h2])]
    · refine Ev.cF (by rw [beq_eq_false_iff_ne];exact h2) ?_;refine Ev.to ?_ (if_neg (fun e=>h2 (Option.some.inj e))).symm;simpa only [nn,true_and]using tail
  · have h2:l[nB s l]? =none:=List.getElem?_eq_none (by omega);simp only [Int.toNat_natCast];refine Ev.cF (decide_eq_false (by omega)) ?_;exact Ev.to tail (if_neg (fun e=>by rw [h2]at e;cases e)).symm
theorem aam (s:Str) (l:List Str):(tQ s l).length<=l.length+1:=by
  rw [Vr];split
  · omega
  · have:=aeB s l;simp;omega
inductive Lx:List PV->List PV->Prop where
  |nil:Lx [] []
  |same {p:PV} {l m:List PV} (h:Lx l m):Lx (p::l) (p::m)
  |aB {es:List (List PV)} {c:Ck} {l m:List PV} (h:Lx l m):Lx (.aB es c::l) (.aB es .unk::m)
  |agg {cs ds l m:List PV} (h0:Lx cs ds) (h:Lx l m):Lx (.agg cs::l) (.agg ds::m)
theorem Lx.get {l m:List PV} (h:Lx l m):l.length=m.length/\ ∀(j:Nat) (q:PV),m[j]? =some q-> ∃p,l[j]? =some p/\ ∀(G:Gh) (n:Nat) (v:Value),V G n p v->V G n q v:=by
  induction h with
  |nil=>exact⟨rfl,fun j q e=>by simp at e⟩
  |same _ ih=>
    refine⟨by simp [ih.1],fun j q e=> ?_⟩;cases j with
    |zero=>simp at e;subst e;exact⟨_,rfl,fun _ _ _ h=>h⟩
    |succ j=>simp at e;simpa using ih.2 j q e
  |aB _ ih=>
    refine⟨by simp [ih.1],fun j q e=> ?_⟩;cases j with
    |zero=>simp at e;subst e;exact⟨_,rfl,fun _ _ _ h=>h.wk⟩
    |succ j=>simp at e;simpa using ih.2 j q e
  | @agg cs ds _ _ _ _ ih0 ih=>
    refine⟨by simp [ih.1],fun j q e=> ?_⟩;cases j with
    |zero=>
      simp at e;subst e;refine⟨_,rfl,fun G n v h=> ?_⟩;generalize hp:PV.agg cs=p at h;cases h with
      |agg cs' vs h1 h2=>
        cases hp;refine .agg ds vs (h1.trans ih0.1) fun j c x hc hx=> ?_;obtain⟨p,e1,e2⟩:=ih0.2 j c hc;exact e2 _ _ _ (h2 j p x e1 hx)
      |_=>cases hp
    |succ j=>simp at e;simpa using ih.2 j q e
variable [Glob]
theorem bE.wx {P:Program} {H:AH} {f:FuncId} {args args':List PV} {k:PV->AH->Prop} (h:bE P f args H k) (hw:Lx args' args):bE P f args' H k:=by
  obtain⟨h1,h2⟩:=hw.get;refine⟨h.enters,fun B G w vs hU hM hv=>h.call B G w vs hU hM ⟨hv.1.trans h1,fun j c x hc hx=> ?_⟩⟩;obtain⟨p,e,hp⟩:=h2 j c hc;exact hp _ _ _ (hv.2 j p x e hx)
theorem aF.wx {P:Program} {f:FuncId} {args args':List PV} {r:PV} (h:aF P f args r) (hw:Lx args' args):aF P f args' r:=fun H=>(h H).wx hw
end Go.VL
end
section
set_option maxHeartbeats 4000000
namespace Go.VL
open Go.Proofs
def nG (k:Nat) (aZ:Nd):Option Bool:=
  Option.bind (ku k aZ.text) fun p2=>cond (aZ.kind==2) (Option.bind (CP aZ.text) fun p5=>cond p5 (cond (aZ.kind==3) (some (!p2.2)) (some false)) (some true)) (cond (aZ.kind==3) (some (!p2.2)) (some false))
theorem Oa {k:Nat} {aZ:Nd} {r:Bool} (h:nG k aZ=some r):aF Tryz.prog 80 [(.agg (Nd.cells aZ))] (.bool r):=by
  refine aF.aP (bg.mem (.cons (.agg _ (Nd.pu _)) .nil)) (aG ahU (by simp) (aD ?_)) (.bool _);unfold nG at h;unfold aoW;obtain⟨p2,e1,h⟩:=aj h;try refine ah ?_
  refine aA (oZ e1) ?_;rcases au h with⟨e3,h⟩|⟨e3,h⟩
  ·obtain⟨p5,e4,h⟩:=aj h;try refine ah ?_
   refine aA (NU e4) ?_;rcases au h with⟨e6,h⟩|⟨e6,h⟩
   ·rcases au h with⟨e7,h⟩|⟨e7,h⟩
    ·obtain rfl:=ak h;try refine ah ?_
     exact(.pure _ (.bool _))
    ·obtain rfl:=ak h;try refine ah ?_
     exact(.pure _ (.bool _))
   ·obtain rfl:=ak h;try refine ah ?_
    exact(.pure _ (.bool _))
  ·rcases au h with⟨e8,h⟩|⟨e8,h⟩
   ·obtain rfl:=ak h;try refine ah ?_
    exact(.pure _ (.bool _))
   ·obtain rfl:=ak h;try refine ah ?_
    exact(.pure _ (.bool _))
def lM (dL:Int):Option Bool:=
  cond (dL !=16) (some (dL !=17)) (some false)
theorem aan {dL:Int} {r:Bool} (h:lM dL=some r):aF Tryz.prog 182 [(.int .i64 dL)] (.bool r):=by
  refine aF.aP (bg.mem (.cons (.int _ _) .nil)) (aG atc (by simp) (aD ?_)) (.bool _);unfold lM at h;unfold akt;rcases au h with⟨e1,h⟩|⟨e1,h⟩
  ·obtain rfl:=ak h;try refine ah ?_
   exact(.pure _ (.bool _))
  ·obtain rfl:=ak h;try refine ah ?_
   exact(.pure _ (.bool _))
def Fj (s_0:Str):Option (List Nd):=
  some [(Nd.mk 2 0 s_0 [] [])]
theorem JG {s_0:Str} {r:List Nd} (h:Fj s_0=some r):aF Tryz.prog 89 [(.str s_0)] (.aB (r.map Nd.cells) .unk):=by
  refine aF.aP (bg.mem (.cons (.str _) .nil)) (aG av9 (by simp) (aD ?_)) (aV Nd.pu _);unfold Fj at h;unfold ao3;obtain rfl:=ak h;try refine ah ?_
  exact(d9 Nd.pu [(Nd.mk 2 0 s_0 [] [])] _)
def sI:Nat->Int->Int->Int->Str->(List Str)->(List Int)->(List Int)->Int->Option (List Int)
  |0,_,_,_,_,_,_,_,_=>none
  |k+1,kD,Fp,Fq,Fu,Fv,A8,uL,Hu=>
    cond (decide (Hu<(A8.length:Int))) (if 0<=Hu then Option.bind (A8[Hu.toNat]?) fun x15=>if(uL.length+1)*8<=1099511627776 then sI k kD Fp Fq Fu Fv A8 (uL++[(IntKind.wrap .i64 (x15+kD))]) (IntKind.wrap .i64 (Hu+1))else none else none) (some (uL))
def Rh:List Nat:=[11,12]++List.range' 47 17
theorem abW: ∀(k:Nat) (CU:Nat) (kD:Int) (Fp:Int) (Fq:Int) (Fu:Str) (Fv:List Str) (A8:List Int) (uL:List Int) (Hu:Int) (nH:Ck) (kZ:Ck) (wX:Ck) (aC σ:Nat->PV) (H0 H:AH) (f0:Fr Rh aC σ) (hf0:HF [] H0 H) (sl:σ 8=(.int .i64 kD)/\σ 10=(.ref (CU) 0)/\σ 11=(.aB (uL.map aY) nH)/\σ 12=(.int .i64 Hu)/\H.obj CU=some [(.int .i64 Fp),(.int .i64 Fq),(.str Fu),(.aB (Fv.map aI) .unk),(.aB (A8.map aY) .unk)]) (JH:CU<H.next) (Ri:bA H nH) (Gz:bA H kZ) (ak1:bA H wX) (qg:kQ nH kZ) (qh:kQ nH wX) (qI:kQ kZ wX) (o:List Int) (h:sI k kD Fp Fq Fu Fv A8 uL Hu=some o) (Q:Post) (q0: ∀(p:List Int) (c0:Ck) (σ':Nat->PV) (H':AH),o=p->Fr Rh aC σ'->HF [] H0 H'->(σ' 11=(.aB (p.map aY) c0))->bA H' kZ->bA H' wX->kQ kZ wX->Q (.exit 4) σ' H'),W Tryz.prog (.loop TY) Q σ H:=by
  intro k
  induction k with
  |zero=>intro CU kD Fp Fq Fu Fv A8 uL Hu nH kZ wX aC σ H0 H f0 hf0 sl JH Ri Gz ak1 qg qh qI o h Q q0;simp only [sI,reduceCtorEq]at h
  |succ k ih=>
    intro CU kD Fp Fq Fu Fv A8 uL Hu nH kZ wX aC σ H0 H f0 hf0 sl JH Ri Gz ak1 qg qh qI o h Q q0;obtain⟨s8,s10,s11,s12,axi⟩:=sl;have axj:=ne_next JH;have axk:=aW JH;have hle0:=hf0.1;unfold sI at h;refine aU (fun K hK=>aD ?_);unfold TY;rcases au h with⟨e13,h⟩|⟨e13,h⟩
    ·obtain⟨e14,h⟩:=aQ h;obtain⟨x15,e16,h⟩:=aj h;obtain⟨e21,h⟩:=aQ h;try refine ah ?_
     refine gF (f:=aY) Ig uL ([(IntKind.wrap .i64 (x15+kD))]:List Int) nH .exact av av fM (by first|exact e21|(simp only [List.length_cons,List.length_nil];exact e21)) (fun c17 H18 aq9 le axl aiN=> ?_);have axn:HF [] _ H18:=⟨le,fun i _ _=>axl i⟩;try simp only [AH.aK,AH.aL,AH.aM,AH.aN]at le
     obtain⟨aoa,axo⟩:=aiN kZ fM qg;obtain⟨aw9,axp⟩:=aiN wX fM qh;have n28:=ne_next (show CU<H18.next by first|omega|(simp only [AH.aK,AH.aL,AH.aM,AH.aN];omega));have m29:=aW (show CU<H18.next by first|omega|(simp only [AH.aK,AH.aL,AH.aM,AH.aN];omega));try refine ah ?_
     refine hK _ _ ?_;exact ih CU kD Fp Fq Fu Fv A8 (uL++[(IntKind.wrap .i64 (x15+kD))]) (IntKind.wrap .i64 (Hu+1)) c17 kZ wX _ _ _ _ aJ (by repeat (first|exact hf0|refine HF.new ?_|refine HF.fP ?_|refine HF.used ?_|refine HF.put (by first|(right;omega)|(left;simp only [List.mem_cons,true_or,or_true])) ?_|refine HF.via axn (by first|exact fun i hi=>absurd hi List.not_mem_nil|(intro i hi;simp only [List.mem_cons,List.not_mem_nil,or_false]at hi⊢;first|exact .inl hi|omega)) ?_)) av bS fM fM fM axo axp qI _ h _ q0
    ·obtain rfl:=ak h;try refine ah ?_
     exact q0 _ nH _ _ rfl aJ (by repeat (first|exact hf0|refine HF.new ?_|refine HF.fP ?_|refine HF.used ?_|refine HF.put (by first|(right;omega)|(left;simp only [List.mem_cons,true_or,or_true])) ?_)) av fM fM qI
def sJ:Nat->(List (List Nd))->(List Nd)->Int->Int->Int->Option (List Nd)
  |0,_,_,_,_,_=>none
  |k+1,bG,iD,gT,kD,xC=>
    if 0<=gT then Option.bind (bG[gT.toNat]?) fun x5=>cond (decide (xC<(x5.length:Int))) (if 0<=xC then Option.bind (x5[xC.toNat]?) fun x9=>Option.bind (kH x9.names) fun l6=>Option.bind (sI k kD x9.kind x9.n x9.text l6 x9.args ([]:List Int) 0) (fun p32=>if(iD.length+1)*80<=1099511627776 then sJ k bG (iD++[(Nd.mk x9.kind x9.n x9.text l6 p32)]) gT kD (IntKind.wrap .i64 (xC+1))else none)else none) (some (iD))else none
def Rj:List Nat:=[5,9,10,11,12]++List.range' 27 43
theorem abX: ∀(k:Nat) (bG:List (List Nd)) (iD:List Nd) (gT:Int) (kD:Int) (xC:Int) (oo:Ck) (wY:Ck) (aC σ:Nat->PV) (H0 H:AH) (f0:Fr Rj aC σ) (hf0:HF [] H0 H) (sl:σ 1=(.aB (bG.map (Du Nd.cells)) .unk)/\σ 5=(.aB (iD.map Nd.cells) oo)/\σ 7=(.int .i64 gT)/\σ 8=(.int .i64 kD)/\σ 9=(.int .i64 xC)) (Fx:bA H oo) (Gz:bA H wY) (nL:kQ oo wY) (o:List Nd) (h:sJ k bG iD gT kD xC=some o) (Q:Post) (q0: ∀(p:List Nd) (c0:Ck) (σ':Nat->PV) (H':AH),o=p->Fr Rj aC σ'->HF [] H0 H'->(σ' 5=(.aB (p.map Nd.cells) c0))->bA H' c0->bA H' wY->kQ c0 wY->Q (.exit 2) σ' H'),W Tryz.prog (.loop T9) Q σ H:=by
  intro k
  induction k with
  |zero=>intro bG iD gT kD xC oo wY aC σ H0 H f0 hf0 sl Fx Gz nL o h Q q0;simp only [sJ,reduceCtorEq]at h
  |succ k ih=>
    intro bG iD gT kD xC oo wY aC σ H0 H f0 hf0 sl Fx Gz nL o h Q q0;obtain⟨s1,s5,s7,s8,s9⟩:=sl;have hle0:=hf0.1;unfold sJ at h;refine aU (fun K hK=>aD ?_);unfold T9;obtain⟨e4,h⟩:=aQ h;obtain⟨x5,e6,h⟩:=aj h;rcases au h with⟨e7,h⟩|⟨e7,h⟩
    ·obtain⟨e8,h⟩:=aQ h;obtain⟨x9,e10,h⟩:=aj h;obtain⟨l6,e11,h⟩:=aj h;try refine ah ?_
     refine aA (z8 e11) ?_;try refine ah ?_
     obtain⟨o30,h31,h⟩:=aj h;refine abW k (H.next) kD x9.kind x9.n x9.text l6 x9.args ([]:List Int) 0 .nil oo wY _ _ _ _ (Fr.refl _ _) (HF.refl _ _) av bS fM fM fM kQ.nil kQ.nil nL _ h31 _ ?_
     ·rintro p32 c36 σ' H35 eo uR aiP s37 aqD aB4 axq;rw [eo]at h;have s41:σ' 1=(.aB (bG.map (Du Nd.cells)) .unk):=(uR 1 (by decide)).trans av;have s42:σ' 5=(.aB (iD.map Nd.cells) oo):=(uR 5 (by decide)).trans av;have s43:σ' 7=(.int .i64 gT):=(uR 7 (by decide)).trans av;have s44:σ' 8=(.int .i64 kD):=(uR 8 (by decide)).trans av;have s45:σ' 9=(.int .i64 xC):=(uR 9 (by decide)).trans av;have s46:σ' 10=(.ref (H.next) 0):=(uR 10 (by decide)).trans av;have le:=aiP.1;try simp only [AH.aK,AH.aL,AH.aM,AH.aN]at le
      have g47:H35.obj (H.next)=some [(.int .i64 x9.kind),(.int .i64 x9.n),(.str x9.text),(.aB (l6.map aI) .unk),(.aB (x9.args.map aY) .unk)]:=(aiP.2 _ bS (by first|exact List.not_mem_nil|(simp only [List.mem_cons,List.not_mem_nil,or_false,not_or];omega))).trans av;have n48:=ne_next (show H.next<H35.next by first|omega|(simp only [AH.aK,AH.aL,AH.aM,AH.aN];omega));have m49:=aW (show H.next<H35.next by first|omega|(simp only [AH.aK,AH.aL,AH.aM,AH.aN];omega));obtain⟨e54,h⟩:=aQ h;try refine ah ?_
      refine gF (f:=Nd.cells) Nd.row iD ([(Nd.mk x9.kind x9.n x9.text l6 p32)]:List Nd) oo .exact av av fM (by first|exact e54|(simp only [List.length_cons,List.length_nil];exact e54)) (fun c50 H51 Tk le aiM axr=> ?_);have aez:HF [] _ H51:=⟨le,fun i _ _=>aiM i⟩;try simp only [AH.aK,AH.aL,AH.aM,AH.aN]at le
      obtain⟨ahR,axt⟩:=axr wY fM axq;have n59:=ne_next (show H.next<H51.next by first|omega|(simp only [AH.aK,AH.aL,AH.aM,AH.aN];omega));have m60:=aW (show H.next<H51.next by first|omega|(simp only [AH.aK,AH.aL,AH.aM,AH.aN];omega));try refine ah ?_
      refine hK _ _ ?_;exact ih bG (iD++[(Nd.mk x9.kind x9.n x9.text l6 p32)]) gT kD (IntKind.wrap .i64 (xC+1)) c50 wY _ _ _ _ (by repeat (first|exact f0|refine Fr.upd (by decide) ?_|refine Fr.via uR (by decide) ?_)) (by repeat (first|exact hf0|refine HF.new ?_|refine HF.fP ?_|refine HF.used ?_|refine HF.put (by first|(right;omega)|(left;simp only [List.mem_cons,true_or,or_true])) ?_|refine HF.via aiP (by first|exact fun i hi=>absurd hi List.not_mem_nil|(intro i hi;simp only [List.mem_cons,List.not_mem_nil,or_false]at hi⊢;first|exact .inl hi|omega)) ?_|refine HF.via aez (by first|exact fun i hi=>absurd hi List.not_mem_nil|(intro i hi;simp only [List.mem_cons,List.not_mem_nil,or_false]at hi⊢;first|exact .inl hi|omega)) ?_)) av fM fM axt _ h _ q0
    ·obtain rfl:=ak h;try refine ah ?_
     exact q0 _ oo _ _ rfl aJ (by repeat (first|exact hf0|refine HF.new ?_|refine HF.fP ?_|refine HF.used ?_|refine HF.put (by first|(right;omega)|(left;simp only [List.mem_cons,true_or,or_true])) ?_)) av fM fM nL
def sK:Nat->(List (List Nd))->(List Nd)->Int->Int->Str->(List Str)->(List Int)->Int->Option (((List Nd)×Int×Int×Str×(List Str)×(List Int)))
  |0,_,_,_,_,_,_,_,_=>none
  |k+1,bG,iD,D5,D6,D7,D8,A9,gT=>
    cond (decide (gT<(bG.length:Int))) (Option.bind (sJ k bG iD gT (iD.length:Int) 0) (fun p63=>if(A9.length+1)*8<=1099511627776 then sK k bG p63 D5 D6 D7 D8 (A9++[(IntKind.wrap .i64 ((p63.length:Int) -1))]) (IntKind.wrap .i64 (gT+1))else none)) (some ((iD,D5,D6,D7,D8,A9)))
def Rk:List Nat:=[5,7,8,9,10,11,12]++List.range' 19 59
theorem abY: ∀(k:Nat) (tV:Nat) (bG:List (List Nd)) (iD:List Nd) (D5:Int) (D6:Int) (D7:Str) (D8:List Str) (A9:List Int) (gT:Int) (tX:Ck) (ou:Ck) (aC σ:Nat->PV) (H0 H:AH) (f0:Fr Rk aC σ) (hf0:HF [tV] H0 H) (sl:σ 1=(.aB (bG.map (Du Nd.cells)) .unk)/\σ 5=(.aB (iD.map Nd.cells) tX)/\σ 6=(.ref (tV) 0)/\σ 7=(.int .i64 gT)/\H.obj tV=some [(.int .i64 D5),(.int .i64 D6),(.str D7),(.aB (D8.map aI) .unk),(.aB (A9.map aY) ou)]) (MW:tV<H.next) (Fx:bA H tX) (aao:bA H ou) (pV:kQ tX ou) (o:((List Nd)×Int×Int×Str×(List Str)×(List Int))) (h:sK k bG iD D5 D6 D7 D8 A9 gT=some o) (Q:Post) (q0: ∀(p:(List Nd)×Int×Int×Str×(List Str)×(List Int)) (c0:Ck) (c5:Ck) (σ':Nat->PV) (H':AH),o=p->Fr Rk aC σ'->HF [tV] H0 H'->(σ' 5=(.aB (p.1.map Nd.cells) c0)/\H'.obj tV=some [(.int .i64 p.2.1),(.int .i64 p.2.2.1),(.str p.2.2.2.1),(.aB (p.2.2.2.2.1.map aI) .unk),(.aB (p.2.2.2.2.2.map aY) c5)])->bA H' c0->Q (.exit 0) σ' H'),W Tryz.prog (.loop Ua) Q σ H:=by
  intro k
  induction k with
  |zero=>intro tV bG iD D5 D6 D7 D8 A9 gT tX ou aC σ H0 H f0 hf0 sl MW Fx aao pV o h Q q0;simp only [sK,reduceCtorEq]at h
  |succ k ih=>
    intro tV bG iD D5 D6 D7 D8 A9 gT tX ou aC σ H0 H f0 hf0 sl MW Fx aao pV o h Q q0;obtain⟨s1,s5,s6,s7,aye⟩:=sl;have ayf:=ne_next MW;have ayg:=aW MW;have hle0:=hf0.1;unfold sK at h;refine aU (fun K hK=>aD ?_);unfold Ua;rcases au h with⟨e3,h⟩|⟨e3,h⟩
    ·try refine ah ?_
     obtain⟨o61,h62,h⟩:=aj h;refine abX k bG iD gT (iD.length:Int) 0 tX ou _ _ _ _ (Fr.refl _ _) (HF.refl _ _) av fM fM pV _ h62 _ ?_
     ·rintro p63 c67 σ' H66 eo G9 aeA s69 ahS ahT axu;rw [eo]at h;have s72:σ' 1=(.aB (bG.map (Du Nd.cells)) .unk):=(G9 1 (by decide)).trans av;have s73:σ' 6=(.ref (tV) 0):=(G9 6 (by decide)).trans av;have s74:σ' 7=(.int .i64 gT):=(G9 7 (by decide)).trans av;have le:=aeA.1;try simp only [AH.aK,AH.aL,AH.aM,AH.aN]at le
      have g75:H66.obj (tV)=some [(.int .i64 D5),(.int .i64 D6),(.str D7),(.aB (D8.map aI) .unk),(.aB (A9.map aY) ou)]:=(aeA.2 _ bS (by first|exact List.not_mem_nil|(simp only [List.mem_cons,List.not_mem_nil,or_false,not_or];omega))).trans av;have n76:=ne_next (show tV<H66.next by first|omega|(simp only [AH.aK,AH.aL,AH.aM,AH.aN];omega));have m77:=aW (show tV<H66.next by first|omega|(simp only [AH.aK,AH.aL,AH.aM,AH.aN];omega));obtain⟨e82,h⟩:=aQ h;try refine ah ?_
      refine gF (f:=aY) Ig A9 ([(IntKind.wrap .i64 ((p63.length:Int) -1))]:List Int) ou .exact av av fM (by first|exact e82|(simp only [List.length_cons,List.length_nil];exact e82)) (fun c78 H79 ahU le axv axw=> ?_);have axx:HF [] _ H79:=⟨le,fun i _ _=>axv i⟩;try simp only [AH.aK,AH.aL,AH.aM,AH.aN]at le
      obtain⟨aB5,axy⟩:=axw c67 fM (kQ.symm axu);have n87:=ne_next (show tV<H79.next by first|omega|(simp only [AH.aK,AH.aL,AH.aM,AH.aN];omega));have m88:=aW (show tV<H79.next by first|omega|(simp only [AH.aK,AH.aL,AH.aM,AH.aN];omega));try refine ah ?_
      refine hK _ _ ?_;exact ih tV bG p63 D5 D6 D7 D8 (A9++[(IntKind.wrap .i64 ((p63.length:Int) -1))]) (IntKind.wrap .i64 (gT+1)) c67 c78 _ _ _ _ (by repeat (first|exact f0|refine Fr.upd (by decide) ?_|refine Fr.via G9 (by decide) ?_)) (by repeat (first|exact hf0|refine HF.new ?_|refine HF.fP ?_|refine HF.used ?_|refine HF.put (by first|(right;omega)|(left;simp only [List.mem_cons,true_or,or_true])) ?_|refine HF.via aeA (by first|exact fun i hi=>absurd hi List.not_mem_nil|(intro i hi;simp only [List.mem_cons,List.not_mem_nil,or_false]at hi⊢;first|exact .inl hi|omega)) ?_|refine HF.via axx (by first|exact fun i hi=>absurd hi List.not_mem_nil|(intro i hi;simp only [List.mem_cons,List.not_mem_nil,or_false]at hi⊢;first|exact .inl hi|omega)) ?_)) av bS fM fM (kQ.symm axy) _ h _ q0
    ·obtain rfl:=ak h;try refine ah ?_
     exact q0 _ tX ou _ _ rfl aJ (by repeat (first|exact hf0|refine HF.new ?_|refine HF.fP ?_|refine HF.used ?_|refine HF.put (by first|(right;omega)|(left;simp only [List.mem_cons,true_or,or_true])) ?_)) av fM
def Fy (k:Nat) (yj:Nd) (bG:List (List Nd)):Option (List Nd):=
  Option.bind (kH yj.names) fun p2=>Option.bind (sK k bG ([]:List Nd) yj.kind yj.n yj.text p2 ([]:List Int) 0) (fun l7=>if(l7.1.length+1)*80<=1099511627776 then some (l7.1++[(Nd.mk l7.2.1 l7.2.2.1 l7.2.2.2.1 l7.2.2.2.2.1 l7.2.2.2.2.2)])else none)
theorem aap {k:Nat} {yj:Nd} {bG:List (List Nd)} {c1:Ck} {r:List Nd} (h:Fy k yj bG=some r):aF Tryz.prog 84 [(.agg (Nd.cells yj)),(.aB (bG.map (Du Nd.cells)) c1)] (.aB (r.map Nd.cells) .unk):=by
  refine aF.lw (.same (.aB .nil)) (aF.aP (bg.mem (.cons (.agg _ (Nd.pu _)) (.cons (aV (afw Nd.pu) _) .nil))) (aG av4 (by simp) (aD ?_)) (aV Nd.pu _));unfold Fy at h;unfold aoY;obtain⟨p2,e1,h⟩:=aj h;try refine ah ?_
  refine aA (z8 e1) ?_;try refine ah ?_
  obtain⟨o89,h90,h⟩:=aj h;refine abY k (AH.empty.next+1) bG ([]:List Nd) yj.kind yj.n yj.text p2 ([]:List Int) 0 .nil .nil _ _ _ _ (Fr.refl _ _) (HF.refl _ _) av bS fM fM kQ.nil _ h90 _ ?_
  ·rintro l7 c95 c98 σ' H94 eo ail ain ⟨s97,g99⟩ apb;rw [eo]at h;have aic:σ' 6=(.ref (AH.empty.next+1) 0):=(ail 6 (by decide)).trans av;have le:=ain.1;try simp only [AH.aK,AH.aL,AH.aM,AH.aN]at le
   have n102:=ne_next (show AH.empty.next+1<H94.next by first|omega|(simp only [AH.aK,AH.aL,AH.aM,AH.aN];omega));have aB6:=aW (show AH.empty.next+1<H94.next by first|omega|(simp only [AH.aK,AH.aL,AH.aM,AH.aN];omega));obtain⟨e108,h⟩:=aQ h;try refine ah ?_
   refine gF (f:=Nd.cells) Nd.row l7.1 ([(Nd.mk l7.2.1 l7.2.2.1 l7.2.2.2.1 l7.2.2.2.2.1 l7.2.2.2.2.2)]:List Nd) c95 .exact av av fM (by first|exact e108|(simp only [List.length_cons,List.length_nil];exact e108)) (fun aB7 aaq aAN le atA aAO=> ?_);have aAP:HF [] _ aaq:=⟨le,fun i _ _=>atA i⟩;try simp only [AH.aK,AH.aL,AH.aM,AH.aN]at le
   have n111:=ne_next (show AH.empty.next<aaq.next by first|omega|(simp only [AH.aK,AH.aL,AH.aM,AH.aN];omega));have aB8:=aW (show AH.empty.next<aaq.next by first|omega|(simp only [AH.aK,AH.aL,AH.aM,AH.aN];omega));have n113:=ne_next (show AH.empty.next+1<aaq.next by first|omega|(simp only [AH.aK,AH.aL,AH.aM,AH.aN];omega));have aB9:=aW (show AH.empty.next+1<aaq.next by first|omega|(simp only [AH.aK,AH.aL,AH.aM,AH.aN];omega));obtain rfl:=ak h;try refine ah ?_
   exact(d9 Nd.pu _ _)
def MX (k:Nat) (D9:Str) (bG:List (List Nd)):Option (List Nd):=
  Option.bind (Fy k (Nd.mk 3 0 D9 [] []) bG) fun p2=>some p2
theorem WJ {k:Nat} {D9:Str} {bG:List (List Nd)} {c1:Ck} {r:List Nd} (h:MX k D9 bG=some r):aF Tryz.prog 88 [(.str D9),(.aB (bG.map (Du Nd.cells)) c1)] (.aB (r.map Nd.cells) .unk):=by
  refine aF.lw (.same (.aB .nil)) (aF.aP (bg.mem (.cons (.str _) (.cons (aV (afw Nd.pu) _) .nil))) (aG av8 (by simp) (aD ?_)) (aV Nd.pu _));unfold MX at h;unfold ao2;obtain⟨p2,e1,h⟩:=aj h;try refine ah ?_
  refine aA (aF.wx (aap e1) (.agg (.same (.same (.same (.aB (.aB .nil))))) (.same .nil))) ?_;obtain rfl:=ak h;try refine ah ?_
  exact(d9 Nd.pu _ _)
def aeC (k:Nat):Option (List Nd):=
  Option.bind (Fj ([97]:Str)) fun p2=>Option.bind (Fj ([98]:Str)) fun p4=>Option.bind (Fj ([99]:Str)) fun p6=>Option.bind (MX k ([42]:Str) [p4,p6]) fun p8=>Option.bind (MX k ([43]:Str) [p2,p8]) fun iT=>some iT
theorem ac2 {k:Nat} {r:List Nd} (h:aeC k=some r):aF Tryz.prog 45 [] (.aB (r.map Nd.cells) .unk):=by
  refine aF.aP (bg.mem .nil) (aG avH (by simp) (aD ?_)) (aV Nd.pu _);unfold aeC at h;unfold aos;obtain⟨p2,e1,h⟩:=aj h;try refine ah ?_
  refine aA (JG e1) ?_;obtain⟨p4,e3,h⟩:=aj h;try refine ah ?_
  refine aA (JG e3) ?_;obtain⟨p6,e5,h⟩:=aj h;try refine ah ?_
  refine aA (JG e5) ?_;obtain⟨p8,e7,h⟩:=aj h;try refine ah ?_
  refine aA (WJ e7) ?_;obtain⟨iT,e9,h⟩:=aj h;try refine ah ?_
  refine aA (WJ e9) ?_;obtain rfl:=ak h;try refine ah ?_
  exact(d9 Nd.pu _ _)
end Go.VL
end
section
namespace Go.VL
open Go.Proofs
def BN (k:Nat) (e:List Nd) (out:List Str) (at_:Int) (bound:List Str):Option (List Str):=
  if 0<=at_ then Option.bind (e[at_.toNat]?) fun n=>Option.bind (nG k n) fun b=>cond b (Option.bind (cB k bound n.text) fun c=>cond c (some out) (if(out.length+1)*16<=1099511627776 then some (out++[n.text])else none)) (some out)else none
def ak2 (e:List Nd) (o0 o1:Nat) (out:List Str) (H:AH):Prop:=o0<H.next/\o1<H.next/\o0≠o1/\H.obj o0=some [dW e]/\ ∃v ids,H.obj o1=some [v]/\aO H aI 1 out v ids/\o0∉ids/\o1∉ids
theorem aeD (k:Nat) (e:List Nd) (o0 o1:Nat):Visit 118 [.ref o0 0,.ref o1 0] (ak2 e o0 o1) (BN k e) where
  stable:=by
    rintro a H H' ⟨h1,h2,h3,h4,v,ids,h5,h6,h7,h8⟩ hn ho hc;exact⟨by omega,by omega,h3,(ho _).trans h4,v,ids,(ho _).trans h5,h6.hf (M:=[]) ⟨hn,fun i _ _=>ho i⟩ (fun _ _ h=>by cases h),h7,h8⟩
  call:=by
    rintro a at_ bound a' H ⟨h1,h2,h3,h4,v,ids,h5,h6,h7,h8⟩ h
    unfold BN at h;by_cases e1:0<=at_
    case neg=>rw [if_neg e1]at h;cases h
    rw [if_pos e1]at h;cases e2:e[at_.toNat]? with
    |none=>rw [zw e2]at h;cases h
    |some n=>
    rw [zx e2]at h;cases e3:nG k n with
    |none=>rw [zw e3]at h;cases h
    |some b=>
    rw [zx e3]at h;refine aG asI (by simp) (aD ?_);unfold ajU;simp -implicitDefEqProofs only [go_sem,h4,e1,e2,List.getElem?_map,Option.map_some];refine aA (Oa e3) ?_;cases b with
    |false=>
      rw [nR rfl]at h;cases h;simp -implicitDefEqProofs only [go_sem,h4,e1,e2,List.getElem?_map,Option.map_some];exact⟨h1,h2,h3,h4,v,ids,h5,h6,h7,h8⟩
    |true=>
      rw [vG rfl]at h;cases e4:cB k bound n.text with
      |none=>rw [zw e4]at h;cases h
      |some c=>
      rw [zx e4]at h;simp -implicitDefEqProofs only [go_sem,h4,e1,e2,List.getElem?_map,Option.map_some];refine aA (kI e4) ?_;cases c with
      |true=>
        rw [vG rfl]at h;cases h;simp -implicitDefEqProofs only [go_sem,h4,e1,e2,List.getElem?_map,Option.map_some];exact⟨h1,h2,h3,h4,v,ids,h5,h6,h7,h8⟩
      |false=>
        rw [nR rfl]at h;by_cases e5:(a.length+1)*16<=1099511627776
        case neg=>rw [if_neg e5]at h;cases h
        rw [if_pos e5]at h;cases h;simp -implicitDefEqProofs only [go_sem,h4,e1,e2,List.getElem?_map,Option.map_some];refine eZ ?_;simp -implicitDefEqProofs only [go_sem,h4,h5,e1,e2,List.getElem?_map,Option.map_some];refine KT (f:=aI) jw a [n.text] .exact aR h6 aR (by simp) (by simpa using e5) (fun v' mW H' g1 g2 g3 g4=> ?_);have k0:H'.obj o0=some [dW e]:=(g3.2 o0 h1 h7).trans h4;have k1:H'.obj o1=some [v]:=(g3.2 o1 h2 h8).trans h5;have n0: ¬o0∈mW:=fun hm=>by
          rcases g2 o0 hm with q|q
          · exact h7 q
          · omega
        have n1: ¬o1∈mW:=fun hm=>by
          rcases g2 o1 hm with q|q
          · exact h8 q
          · omega
        have g1':=g1;rcases g1 with⟨_,q,_⟩|⟨id,cap,junk,rfl,rfl,q1,q2,q3,q4⟩
        · simp at q
        · have hid:id≠o1:=fun e=>n1 (by rw [e];exact List.mem_singleton.2 rfl);simp -implicitDefEqProofs only [go_sem,dM,k1,Nat.le_refl];refine⟨Nat.lt_of_lt_of_le h1 g3.1,Nat.lt_of_lt_of_le h2 g3.1,h3,?_,_,[id],?_,g1'.put n1,n0,n1⟩
          · show(if o0=o1 then _ else H'.obj o0)=_
            rw [if_neg h3];exact k0
          · show(if o1=o1 then _ else H'.obj o1)=_
            rw [if_pos rfl]
end Go.VL
end
section
namespace Go.VL
open Go.Proofs Go.RowKit
section
variable {B:Nat->Prop} {G:Gh} {H:AH} {w w':World}
theorem HM.putRow (hM:HM B H G w) {id b:Nat} {cs cs':List PV} {arr:Array Value} {t:TypeId} (d:Array (List UInt8)) (n:Nat) (os:Array Obj) (ho:H.obj id=some cs) (hm:G.m id=some b) (hb:w.heap[b]? =some (.cells arr t (0,0)))
    (hV:Vs G H.next cs' (Sort.putCells encStr 0 d arr)):HM B (H.put id cs') G (Sort.grow (Sort.putRow encStr (Sort.ahead w n) b 0 d) os)/\Tr B w (Sort.grow (Sort.putRow encStr (Sort.ahead w n) b 0 d) os):=by
  obtain⟨h1,h2⟩:=hM.putObj ho hm hb hV;have hh:(Sort.putRow encStr (Sort.ahead w n) b 0 d).heap=(w.setRow b (Sort.putCells encStr 0 d arr)).heap:=by
    apply Array.ext_getElem?
    intro k;by_cases hk:k=b
    · subst hk;rw [setRow_heap w k arr _ t (0,0) hb];show(w.heap.modify k _)[k]? =_
      rw [Array.getElem?_modify,if_pos rfl,hb];rfl
    · rw [setRow_other w b k _ hk];show(w.heap.modify b _)[k]? =_
      rw [Array.getElem?_modify,if_neg (Ne.symm hk)]
  have hB:Below (w.setRow b (Sort.putCells encStr 0 d arr)).heap.size (w.setRow b (Sort.putCells encStr 0 d arr)) (Sort.grow (Sort.putRow encStr (Sort.ahead w n) b 0 d) os):=by
    refine⟨rfl,rfl,rfl,?_,fun k hk=> ?_⟩
    · rw [Sort.size_grow,hh];exact Nat.le_add_right _ _
    · rw [<-hh]at hk⊢;rw [Sort.heap_grow_old _ _ hk]
  exact⟨h1.below hB,(Tr.setRow h2 _).trans (Tr.below hB)⟩
theorem atB {n:Nat} {s:List UInt8} {v:Value} (h:V G n (.str s) v):v= .string ⟨s.toArray⟩:=by cases h;rfl
theorem ak3 {n id off len cap sz:Nat} {v:Value} (h:V G n (.bV id off len cap sz) v): ∃b,id<n/\G.m id=some b/\v= .slice (some ⟨b,off,none⟩) len cap:=by
  cases h with
  |bV _ _ _ _ _ b h1 h2=>exact⟨b,h1,h2,rfl⟩
theorem CV (l:List Str):(l.map aI).flatten=l.map PV.str:=by
  induction l with
  |nil=>rfl
  |cons s l ih=>rw [List.map_cons,List.flatten_cons,ih];rfl
theorem WK {l:List Str} {junk:List PV} {arr:Array Value} {b:Nat} {t:TypeId} (hb:w.heap[b]? =some (.cells arr t (0,0))) (hV:Vs G H.next ((l.map aI).flatten++junk) arr):Sort.Holds encStr w b 0 l.toArray:=by
  intro j hj;have hj':j<l.length:=by simpa using hj
  have hlt:j<arr.size:=by rw [hV.1,List.length_append,CV,List.length_map];omega
  have hv:=atB (hV.2 j (.str l[j]) arr[j] (by rw [CV,List.getElem?_append_left (by simpa using hj')];simp [hj']) (by simp [hlt]));refine⟨?_,?_⟩
  · have:arr[j]? =some arr[j]:=by simp [hlt]
    simp only [World.cell?,hb,Nat.zero_add,this,hv];simp [encStr,hj']
  · simp [World.frozen?,hb]
theorem agt {n:Nat} {l m:List Str} {junk:List PV} {arr:Array Value} (hl:m.length=l.length) (hV:Vs G n ((l.map aI).flatten++junk) arr):Vs G n ((m.map aI).flatten++junk) (Sort.putCells encStr 0 m.toArray arr):=by
  rw [CV]at hV⊢;have hs:=hV.1;rw [List.length_append,List.length_map]at hs;refine⟨by simp [Sort.putCells,hs,hl],fun j c x hc hx=> ?_⟩;simp only [Sort.putCells,Array.getElem?_mapIdx,Option.map_eq_some_iff]at hx;obtain⟨y,hy,rfl⟩:=hx;by_cases hj:j<m.length
  · rw [List.getElem?_append_left (by simpa using hj)]at hc;simp [hj]at hc;subst hc;have h2:0<=j/\j<0+m.toArray.size:=by simpa using hj
    rw [if_pos h2];simp [encStr,hj];exact .str _
  · have h2: ¬(0<=j/\j<0+m.toArray.size):=by simp;omega
    rw [if_neg h2];rw [List.getElem?_append_right (by simp;omega),List.length_map,hl]at hc;refine hV.2 j c y ?_ hy;rw [List.getElem?_append_right (by simp;omega),List.length_map];exact hc
end
def GA (l:List Str):List Str:=l.mergeSort fun x y=>decide (x<=y)
theorem arp {H:AH} {l:List Str} {v:PV} {ids:List Nat} (h:aO H aI 1 l v ids) (hl:l.length<4611686018427387904):bE Tryz.prog 66 [v] H fun _ H'=>aO H' aI 1 (GA l) v ids/\HF ids H H'/\ ∀c,bA H c->bA H' c:=by
  refine⟨⟨_,Tryz.func66,rfl,by kernel_rfl⟩,fun B G w vs hU hM hv=> ?_⟩;obtain⟨u,rfl,hu⟩: ∃u,vs=#[u]/\V G H.next v u:=by
    obtain⟨h1,h2⟩:=hv
    match vs,h1,h2 with
    |⟨[u]⟩,_,h2=>exact⟨u,rfl,h2 0 v u rfl rfl⟩
  rcases h with⟨rfl,rfl,rfl⟩|⟨id,cap,junk,rfl,rfl,h2,h3,h4,h5⟩
  · rw [Yb hu];refine(Tryz.slices_Sort_string_none none 0 w).mono ?_;rintro e w' ⟨rfl,rfl⟩;exact⟨.dJ [],_,H,G,rfl,Tr.refl _ _,Ext.refl _ _ _,Nat.le_refl _,hM,.dJ [] #[] rfl (fun j c x e=>by simp at e),.inl ⟨rfl,by simp [GA],rfl⟩,HF.refl _ _,fun _ h=>h⟩
  · obtain⟨b,_,hm,rfl⟩:=ak3 hu;obtain⟨_,b',arr,t,k1,k2,k3,k4,k5⟩:=hM.obj id _ h4;obtain rfl:b'=b:=by rw [hm]at k1;exact(Option.some.inj k1).symm
    have hlt:=hM.lt k3;refine(Tryz.slices_Sort_string b' 0 cap l w (WK k3 k4) hlt hl).mono ?_;rintro e w' ⟨rfl,n,os,rfl⟩;have hlen:(GA l).length=l.length:=List.length_mergeSort _;obtain⟨e1,e2⟩:=hM.putRow (cs':=((GA l).map aI).flatten++junk) (GA l).toArray n os h4 hm k3 (agt hlen k4);refine⟨.dJ [],_,H.put id (((GA l).map aI).flatten++junk),G,rfl,e2,Ext.refl _ _ _,Nat.le_refl _,e1,.dJ [] #[] rfl (fun j c x e=>by simp at e),.inr ⟨id,cap,junk,rfl,by rw [hlen],by rw [hlen];exact h2,h3,?_,by rw [hlen];exact h5⟩,HF.put (.inl (List.mem_singleton.2 rfl)) (HF.refl _ _),fun c hc=>hc.put⟩;show(if id=id then some _ else _)=_
    rw [if_pos rfl]
theorem aeE (l:List Str):(Lib.compact l).length<=l.length:=Lib.compact_length_le l
theorem aeF {H:AH} {l:List Str} {v:PV} {ids:List Nat} (h:aO H aI 1 l v ids) (hl:l.length<4611686018427387904):bE Tryz.prog 119 [v] H fun r H'=>aO H' aI 1 (Lib.compact l) r ids/\HF ids H H'/\ ∀c,bA H c->bA H' c:=by
  refine⟨⟨_,Tryz.func119,rfl,by kernel_rfl⟩,fun B G w vs hU hM hv=> ?_⟩;obtain⟨u,rfl,hu⟩: ∃u,vs=#[u]/\V G H.next v u:=by
    obtain⟨h1,h2⟩:=hv
    match vs,h1,h2 with
    |⟨[u]⟩,_,h2=>exact⟨u,rfl,h2 0 v u rfl rfl⟩
  rcases h with⟨rfl,rfl,rfl⟩|⟨id,cap,junk,rfl,rfl,h2,h3,h4,h5⟩
  · rw [Yb hu];refine(Tryz.slices_Compact_string_empty none 0 w).mono ?_;rintro e w' ⟨rfl,rfl⟩;exact⟨.aB [] .nil,_,H,G,rfl,Tr.refl _ _,Ext.refl _ _ _,Nat.le_refl _,hM,Yb hu▸hu,.inl ⟨rfl,rfl,rfl⟩,HF.refl _ _,fun _ h=>h⟩
  · obtain⟨b,_,hm,rfl⟩:=ak3 hu;obtain⟨_,b',arr,t,k1,k2,k3,k4,k5⟩:=hM.obj id _ h4;obtain rfl:b'=b:=by rw [hm]at k1;exact(Option.some.inj k1).symm
    refine(Tryz.slices_Compact_string b' 0 cap l w (WK k3 k4) (by omega) h2).mono ?_;rintro e w' ⟨rfl,q,rfl⟩;have hc:=aeE l;have hlen:(Lib.compact l++List.replicate (l.length -(Lib.compact l).length) []).length=l.length:=by rw [List.length_append,List.length_replicate];omega
    obtain⟨e1,e2⟩:=hM.putRow (cs':=((Lib.compact l++List.replicate (l.length -(Lib.compact l).length) []).map aI).flatten++junk) (Lib.compact l++List.replicate (l.length -(Lib.compact l).length) []).toArray q #[] h4 hm k3 (agt hlen k4);rw [Sort.grow_empty]at e1 e2;refine⟨.bV id 0 (Lib.compact l).length cap 1,_,H.put id (((Lib.compact l++List.replicate (l.length -(Lib.compact l).length) []).map aI).flatten++junk),G,rfl,e2,Ext.refl _ _ _,Nat.le_refl _,e1,.bV _ _ _ _ _ b' h3 hm,.inr ⟨id,cap,(List.replicate (l.length -(Lib.compact l).length) ([]:Str)).map PV.str++junk,rfl,rfl,by omega,h3,?_,?_⟩,HF.put (.inl (List.mem_singleton.2 rfl)) (HF.refl _ _),fun c hc=>hc.put⟩
    · show(if id=id then some _ else _)=_
      rw [if_pos rfl,CV,List.map_append,CV,List.append_assoc]
    · rw [List.length_append,List.length_map,List.length_replicate,h5];omega
end Go.VL
end
section
namespace Go.VL
open Go.Proofs
def qJ (k:Nat) (e:List Nd):Option (List Str):=
  Option.bind (vk (BN k e) e k (IntKind.wrap .i64 ((e.length:Int) -1)) [] []) fun out=>if out.length<4611686018427387904 then some (Dq out)else none
theorem aar (k:Nat) (e:List Nd) {c:Ck} {r:List Str} (h:qJ k e=some r):aF Tryz.prog 68 [.aB (e.map Nd.cells) c] (.aB (r.map aI) .unk):=by
  refine aF.wk (args:=[dW e]) ?_ (.aB .nil);refine aF.aP (bg.mem (.cons (aV Nd.pu _) .nil)) (aG ahS (by simp) (aD ?_)) (aV bn _);unfold qJ at h;cases e1:vk (BN k e) e k (IntKind.wrap .i64 ((e.length:Int) -1)) [] []with
  |none=>rw [zw e1]at h;cases h
  |some out=>
  rw [zx e1]at h;by_cases e2:out.length<4611686018427387904
  case neg=>rw [if_neg e2]at h;cases h
  rw [if_pos e2]at h;have h:=Option.some.inj h;subst h;unfold aoO;simp -implicitDefEqProofs only [go_sem];have hS:ak2 e (AH.empty.next) (AH.empty.next+1) [] ((AH.empty.new [dW e]).new [.aB [] .nil]):=by
    refine⟨(show 0<2 by omega),(show 1<2 by omega),by decide,rfl,.aB [] .nil,[],rfl,aO.nil,List.not_mem_nil,List.not_mem_nil⟩
  refine bE.mono (bE.wk (arj (aeD k e _ _) e k _ [] [] out _ hS e1) (.same (.same (.aB (.same .nil))))) fun r H1 hS1=> ?_;obtain⟨h1,h2,h3,h4,v,ids,h5,h6,h7,h8⟩:=hS1;simp -implicitDefEqProofs only [go_sem,h5];refine bE.mono (arp h6 e2) fun r2 H2 ⟨g1,g2,g3⟩=> ?_;have h5':H2.obj (AH.empty.next+1)=some [v]:=(g2.2 _ h2 h8).trans h5;simp -implicitDefEqProofs only [go_sem,h5'];refine bE.mono (aeF g1 (by rw [show(GA out).length=out.length from List.length_mergeSort _];exact e2)) fun r3 H3 ⟨f1,f2,f3⟩=> ?_;simp -implicitDefEqProofs only [go_sem];have hc:Lib.compact (GA out)=Dq out:=aal out;rw [<-hc];exact f1.fz bn
end Go.VL
end
section
namespace Go.VL
open Tm
def aas (e:List Nd) (R:Nat) (bd:List Str):Prop:= ∃P j,Ev (fun k=>pJ k e (R:Int)) (P,j)/\ ∀out:List Str,out.length<=34*R->Ev (fun k=>nE k e out P j) (bd++out)
section
variable {t0:Tm} {e:List Nd} (he:e=flat 0 t0) (hL:nk e) (hF:rz e)
include he hL hF
theorem ac3:aas e (t0.size -1) []:=by
  have hs:=t0.size_pos;refine⟨-1,0,yh (ts:=[t0]) (by rw [wH];exact he) hL (by rw [he,bT];omega) ?_,fun out _=>Ev.succ ?_⟩
  · rw [Wx];cases t0 with
    |mk x cs=>
      rw [za,show(Tm.mk x cs).size -1=(iN 0 ((0+sizes cs:Nat):Int) 0 cs).length by rw [jW];simp only [size];omega,List.getElem?_concat_length]
  · simp only [nE];exact Ev.cF (by rfl) Ev.some
theorem arq {b:Nat} {bd:List Str} {x:Nd} {l m:List Tm} {c:Tm} (hS:Seg e b (.mk x (l++c::m))) (hU:aas e (b+sizes (l++c::m)) bd):aas e (b+sizes l+c.size -1) (bd++rF (nd x b (l++c::m)) l.length):=by
  have hn:=hS.node;have hlt:=(List.getElem?_eq_some_iff.1 hn).1;have AZ:=hF.few _ _ hn;have hbl:=LZ AZ.2 l.length;have hcp:=c.size_pos;have hsz:sizes (l++c::m)=sizes l+(c.size+sizes m):=by rw [dG,sizes]
  obtain⟨P,j,hP,hout⟩:=hU;have ha:(nd x b (l++c::m)).args[l.length]? =some ((b+sizes l+c.size -1:Nat):Int):=Gx;obtain⟨r,h1,h2,h3⟩:=PD 0 [t0] (b+sizes (l++c::m)) (nd x b (l++c::m)) l.length _ (by rw [wH,<-he];exact hn) ha;obtain rfl:r=b+sizes l+c.size -1:=by omega
  refine⟨_,_,yh (ts:=[t0]) (by rw [wH];exact he) hL (by omega) h3,fun out ho=>Ev.succ ?_⟩;simp only [nE,Nat.zero_add];refine Ev.cT (decide_eq_true (by omega)) (Ev.mZ (by omega) ?_);simp only [Int.toNat_natCast,hn,Option.bind_some];rw [Kk (hF.ok _ _ hn) (by omega)];simp only [Option.bind_some,List.nil_append,List.length_nil,Nat.zero_add];refine Ev.mZ (by omega) (Ev.mZ (by have:=hF.len;omega) (Ev.bind hP ((hout _ ?_).to ?_)))
  · rw [List.length_append];omega
  · rw [List.append_assoc]
mutual
theorem L9: ∀(t:Tm) (b:Nat) (bd:List Str),Seg e b t->aas e (b+t.size -1) bd->bd.length+34*(b+t.size -1)<=10000-> ∀v∈vis b bd t,Ev (fun k=>sH k e (v.1:Int)) v.2/\v.2.length<=10000/\v.1<e.length
  | .mk x cs,b,bd,hS,hU,hb,v,hv=>by
    have hsz:b+(Tm.mk x cs).size -1=b+sizes cs:=by simp only [size];omega
    rw [hsz]at hb hU;rw [I4,List.mem_cons]at hv;rcases hv with rfl|hv
    · refine⟨?_,(show bd.length<=10000 by omega),(List.getElem?_eq_some_iff.1 hS.node).1⟩;obtain⟨P,j,hP,hout⟩:=hU;unfold sH;refine Ev.bind hP (Ev.bind (hout [] (Nat.zero_le _)) (Ev.some' ?_));rw [List.append_nil]
    · exact Rm cs x [] b bd hS hU (by simp only [List.nil_append];omega) v hv
theorem Rm: ∀(cs:List Tm) (x:Nd) (l:List Tm) (b:Nat) (bd:List Str),Seg e b (.mk x (l++cs))->aas e (b+sizes (l++cs)) bd->bd.length+34*(b+sizes (l++cs))<=10000->
    ∀v∈wI (b+sizes l) bd (nd x b (l++cs)) l.length cs,Ev (fun k=>sH k e (v.1:Int)) v.2/\v.2.length<=10000/\v.1<e.length
  |[],x,l,b,bd,hS,hU,hb,v,hv=>by rw [wI]at hv;cases hv
  |c::cs,x,l,b,bd,hS,hU,hb,v,hv=>by
    have hn:=hS.node;have hbl:=LZ (hF.few _ _ hn).2 l.length;have hcp:=c.size_pos;have hsz:sizes (l++c::cs)=sizes l+(c.size+sizes cs):=by rw [dG,sizes]
    rw [ze,List.mem_append]at hv;rcases hv with hv|hv
    · exact L9 c _ _ hS.kid (arq he hL hF hS hU) (by rw [hsz]at hb;rw [List.length_append];omega) v hv
    · have e1:l++c::cs=(l++[c])++cs:=by simp
      have e2:l.length+1=(l++[c]).length:=by simp
      have e3:b+sizes l+c.size=b+sizes (l++[c]):=by rw [dG,nD];omega
      rw [e1,e2,e3]at hv;rw [e1]at hS hU hb;exact Rm cs x (l++[c]) b bd hS hU hb v hv
end
end
mutual
theorem Vt: ∀(t:Tm) (b:Nat) (bd:List Str) (i:Nat),b<=i->i<b+t.size-> ∃q,(i,q)∈vis b bd t
  | .mk x cs,b,bd,i,h1,h2=>by
    rw [I4];by_cases h:i=b+sizes cs
    · exact⟨bd,by rw [h];exact List.mem_cons_self⟩
    · simp only [size]at h2;obtain⟨q,hq⟩:=aat cs b bd (nd x b cs) 0 i h1 (by omega);exact⟨q,List.mem_cons_of_mem _ hq⟩
theorem aat: ∀(cs:List Tm) (b:Nat) (bd:List Str) (n:Nd) (j:Nat) (i:Nat),b<=i->i<b+sizes cs-> ∃q,(i,q)∈wI b bd n j cs
  |[],b,bd,n,j,i,h1,h2=>by simp only [sizes]at h2;omega
  |c::cs,b,bd,n,j,i,h1,h2=>by
    rw [ze];simp only [sizes]at h2;by_cases h:i<b+c.size
    · obtain⟨q,hq⟩:=Vt c b (bd++rF n j) i h1 h;exact⟨q,List.mem_append_left _ hq⟩
    · obtain⟨q,hq⟩:=aat cs (b+c.size) bd n (j+1) i (by omega) (by omega);exact⟨q,List.mem_append_right _ hq⟩
end
mutual
theorem Vu: ∀(t:Tm) (b:Nat) (bd:List Str),(vis b bd t).length=t.size
  | .mk x cs,b,bd=>by rw [I4,List.length_cons,aau cs];rfl
theorem aau: ∀(cs:List Tm) (b:Nat) (bd:List Str) (n:Nd) (j:Nat),(wI b bd n j cs).length=sizes cs
  |[],b,bd,n,j=>by rw [wI];rfl
  |c::cs,b,bd,n,j=>by rw [ze,List.length_append,Vu c,aau cs];rfl
end
def fB (n:Nd):Bool:=(decide (n.kind=2)&& !oh n.text)||(decide (n.kind=3)&& !(dn eG n.text).2)
theorem Ma (n:Nd):Ev (fun k=>nG k n) (fB n):=by
  unfold nG fB;refine Ev.bind (vg n.text) ?_;rw [Lj];by_cases h:n.kind=2
  · refine Ev.cT (by rw [h];rfl) ?_;simp only [h,decide_true,Bool.true_and,Option.bind_some];cases oh n.text
    · exact Ev.cF rfl (Ev.some' rfl)
    · exact Ev.cT rfl (Ev.cF (by rfl) (Ev.some' rfl))
  · refine Ev.cF (by rw [beq_eq_false_iff_ne];exact h) ?_;simp only [h,decide_false,Bool.false_and,Bool.false_or];by_cases h2:n.kind=3
    · exact Ev.cT (by rw [h2];rfl) (Ev.some' (by simp [h2]))
    · exact Ev.cF (by rw [beq_eq_false_iff_ne];exact h2) (Ev.some' (by simp [h2]))
theorem Rn {n:Nd} (h0:bO true n=0) (hl:n.text.length<=1000000):Ev (fun k=>y7 k n) (fB n):=by
  unfold y7 fB;rw [Af];by_cases h:n.kind=2
  · refine Ev.cT (by rw [h];rfl) ?_;simp only [h,decide_true,Bool.true_and,Option.bind_some];cases oh n.text
    · exact Ev.cF rfl (Ev.some' rfl)
    · exact Ev.cT rfl (Ev.cF (by rfl) (Ev.some' rfl))
  · refine Ev.cF (by rw [beq_eq_false_iff_ne];exact h) ?_;simp only [h,decide_false,Bool.false_and,Bool.false_or];by_cases h2:n.kind=3
    · refine Ev.cT (by rw [h2];rfl) (Ev.bind (Cg _ (by omega)) (Ev.some' ?_));rw [aaf h0 h2];simp [h2]
    · exact Ev.cF (by rw [beq_eq_false_iff_ne];exact h2) (Ev.some' (by simp [h2]))
def jX (e:List Nd) (v:Nat×List Str):Option Str:=match e[v.1]? with
  |some n=>if(fB n&& !decide (n.text∈v.2))=true then some n.text else none
  |none=>none
theorem PO {e:List Nd}: ∀(l:List (Nat×List Str)) (out:List Str),(∀v∈l,v.2.length<=10000/\v.1<e.length)->out.length+l.length<=10000->Ev (fun k=>yO (BN k e) l out) (out++l.filterMap (jX e))
  |[],out,h,hb=>Ev.some' (by simp)
  |v::l,out,h,hb=>by
    obtain⟨h1,h2⟩:=h v List.mem_cons_self;rw [List.length_cons]at hb;have ih:=fun o=>PO l o (fun w hw=>h w (List.mem_cons_of_mem _ hw));have hf:jX e v=if(fB e[v.1]&& !decide (e[v.1].text∈v.2))=true then some e[v.1].text else none:=by unfold jX;rw [bI h2]
    simp only [yO];refine Ev.bind (x:=out++(jX e v).toList) ?_ ?_
    · unfold BN;simp only [nn,if_true,Int.toNat_natCast,bI h2,Option.bind_some];refine Ev.bind (Ma _) ?_;rw [hf];cases fB e[v.1]
      · exact Ev.cF rfl (Ev.some' (by simp))
      · refine Ev.cT rfl (Ev.bind (yB _ _ (by omega)) ?_);by_cases h3:e[v.1].text∈v.2
        · exact Ev.cT (decide_eq_true h3) (Ev.some' (by simp [h3]))
        · refine Ev.cF (decide_eq_false h3) (Ev.mZ (by omega) (Ev.some' (by simp [h3])))
    · have hl:(jX e v).toList.length<=1:=by cases jX e v<;>simp
      refine(ih _ (by rw [List.length_append];omega)).to ?_;rw [List.filterMap_cons,List.append_assoc];cases jX e v<;>rfl
end Go.VL
end
section
namespace Go.VL
def Vv (n:Nd):Bool:=decide (n.args.length<=34)&&decide (n.names.length<=34)&&decide (n.text.length<=80)&&n.names.all fun s=>decide (s.length<=80)
def PS (e:List Nd):Bool:=(e.take 172).all Vv&&decide (e.length<=170)
theorem abZ {e:List Nd} {i:Nat} {n:Nd} (hn:e[i]? =some n) (hl:n.names.length<=34):Ev (fun k=>sZ k e (i:Int) ((0:Nat):Int)) (if(n.names.drop 0).all (fun s=>decide (s.length<=80))=true then .inl ()else .inr false):=by
  refine lK (len:=n.names.length) (p:=fun j=>Ev (fun k=>sZ k e (i:Int) (j:Int)) (if(n.names.drop j).all (fun s=>decide (s.length<=80))=true then .inl ()else .inr false)) ?_ fun j hj ih=> ?_
  · refine Ev.succ ?_;simp only [sZ,Int.toNat_natCast,hn,Option.bind_some,nn,if_true];exact Ev.cF (jP _) (Ev.some' (by simp))
  · refine Ev.succ ?_;simp only [sZ,Int.toNat_natCast,hn,bI hj,Option.bind_some,nn,if_true,lC hj,cond_true,eO hj (show n.names.length<=1099511627776 by omega)];rw [drop_cons hj];simp only [List.all_cons,Bool.and_eq_true,decide_eq_true_eq];by_cases h:n.names[j].length<=80
    · refine Ev.cF (decide_eq_false (by omega)) (ih.to ?_);simp only [h,true_and]
    · refine Ev.cT (decide_eq_true (by omega)) (Ev.some' ?_);simp only [h,false_and,if_false]
theorem Ob (i:Nat) (m:Nat):EN (i:Int) (decide ((i:Int)<(m:Int)))=some (decide (i<m)&&decide (i<172)):=by
  unfold EN;by_cases h:i<m
  · rw [vG (decide_eq_true (by omega)),decide_eq_true h,Bool.true_and];by_cases h2:i<172
    · rw [decide_eq_true h2,decide_eq_true (show(i:Int)<172 by omega)]
    · rw [decide_eq_false h2,decide_eq_false (show ¬(i:Int)<172 by omega)]
  · rw [nR (decide_eq_false (by omega)),decide_eq_false h,Bool.false_and]
theorem aiQ (e:List Nd):Ev (fun k=>QI k e) (PS e):=by
  have hlen:(e.take 172).length=min 172 e.length:=List.length_take;have key:Ev (fun k=>tq k e ((0:Nat):Int)) (if((e.take 172).drop 0).all Vv=true then .inl ()else .inr false):=by
    refine lK (len:=(e.take 172).length) (p:=fun i=>Ev (fun k=>tq k e (i:Int)) (if((e.take 172).drop i).all Vv=true then .inl ()else .inr false)) ?_ fun i hi ih=> ?_
    · refine Ev.succ ?_;simp only [tq,Ob];refine Ev.lY rfl (Ev.cF ?_ (Ev.some' (by rw [List.drop_length];rfl)));rw [Bool.and_eq_false_iff,decide_eq_false_iff_not,decide_eq_false_iff_not];omega
    · have hie:i<e.length:=by omega
      have ars:i<172:=by omega
      have hget:(e.take 172)[i]'hi=e[i]:=by simp
      refine Ev.succ ?_;simp only [tq,Ob,Int.toNat_natCast,bI hie,Option.bind_some,nn,if_true,decide_eq_true hie,decide_eq_true ars,Bool.and_self,cond_true];rw [drop_cons hi,hget,eO ars (by omega),List.all_cons];have hp:EO e (i:Int) (decide ((e[i].args.length:Int)>34))=some (!(decide (e[i].args.length<=34)&&decide (e[i].names.length<=34)&&decide (e[i].text.length<=80))):=by
        unfold EO;simp only [Int.toNat_natCast,bI hie,Option.bind_some,nn,if_true];by_cases a:e[i].args.length<=34
        · rw [nR (decide_eq_false (by omega))];by_cases b:e[i].names.length<=34
          · rw [nR (decide_eq_false (by omega))];by_cases c:e[i].text.length<=80
            · rw [decide_eq_false (by omega)];simp [a,b,c]
            · rw [decide_eq_true (by omega)];simp [a,b,c]
          · rw [vG (decide_eq_true (by omega))];simp [a,b]
        · rw [vG (decide_eq_true (by omega))];simp [a]
      refine Ev.lY hp ?_;unfold Vv;by_cases h3:(decide (e[i].args.length<=34)&&decide (e[i].names.length<=34)&&decide (e[i].text.length<=80))=true
      · rw [h3];simp only [Bool.and_eq_true,decide_eq_true_eq]at h3;have h0:=abZ (bI hie) h3.1.2;rw [List.drop_zero]at h0;refine Ev.cF rfl (Ev.bind h0 ?_);cases h4:e[i].names.all fun s=>decide (s.length<=80)
        · simp only [Bool.false_eq_true,if_false,bP];exact Ev.some' (by simp)
        · simp only [if_true,bL,Bool.true_and];exact ih
      · have h3:(decide (e[i].args.length<=34)&&decide (e[i].names.length<=34)&&decide (e[i].text.length<=80))=false:=by simpa using h3
        rw [h3];exact Ev.cT rfl (Ev.some' (by simp))
  unfold QI;refine Ev.bind key ?_;rw [List.drop_zero];unfold PS;cases(e.take 172).all Vv
  · simp only [Bool.false_eq_true,if_false,bP,Bool.false_and];exact Ev.some
  · simp only [if_true,bL,Bool.true_and];refine Ev.some' ?_;by_cases h:e.length<=170
    · rw [decide_eq_true h,decide_eq_true (show(e.length:Int)<=170 by omega)]
    · rw [decide_eq_false h,decide_eq_false (show ¬(e.length:Int)<=170 by omega)]
theorem Ro {e:List Nd} (h:PS e=true):e.length<=170/\ ∀(i:Nat) n,e[i]? =some n->n.args.length<=34/\n.names.length<=34/\n.text.length<=80/\ ∀s∈n.names,s.length<=80:=by
  unfold PS at h;rw [Bool.and_eq_true,decide_eq_true_eq]at h;refine⟨h.2,fun i n hn=> ?_⟩;rw [List.take_of_length_le (by omega)]at h;have:=List.all_eq_true.1 h.1 n (List.mem_of_getElem? hn);unfold Vv at this;simp only [Bool.and_eq_true,decide_eq_true_eq,List.all_eq_true]at this;exact⟨this.1.1.1,this.1.1.2,this.1.2,this.2⟩
theorem aiR {e:List Nd} (h:PS e=true):nk e:=by
  obtain⟨h1,h2⟩:=Ro h;exact⟨by omega,fun i n hn=>by have:=h2 i n hn;omega⟩
theorem Mc {e:List Nd} (hL:nk e):Ev (fun k=>y5 k e) e:=by
  have hlen:=hL.len;have key: ∀i,i<=e.length->Ev (fun k=>mX k e (e.take i) (i:Int)) e:=by
    refine down ?_ fun i hi ih=> ?_
    · refine Ev.succ ?_;simp only [mX];exact Ev.cF (jP _) (Ev.some' (by simp))
    · refine Ev.succ ?_;obtain⟨h1,h2,h3⟩:=hL.nd i _ (bI hi);have e1:kH e[i].names=some e[i].names:=by
        unfold kH;rw [if_pos (by simp;omega)];rfl
      have e2:CO e[i].args=some e[i].args:=by
        unfold CO;rw [if_pos (by simp;omega)];rfl
      have e3:((e.take i).length+1)*80<=1099511627776:=by rw [List.length_take];omega
      simp only [mX,Int.toNat_natCast,bI hi,Option.bind_some,nn,if_true,lC hi,cond_true,eO hi (show e.length<=1099511627776 by omega),e1,e2,if_pos e3];rw [<-List.take_succ_eq_append_getElem hi];exact ih
  unfold y5;exact Ev.bind (key 0 (Nat.zero_le _)) Ev.some
end Go.VL
end
section
namespace Go.VL
open Go.Proofs
def xH {α β:Type} (a:α) (b:β):Option Str:=none
def aiS {α β γ:Type} (a:α) (b:β) (c:γ):Option Str:=none
theorem tY {α β:Type} (a:α) (b:β) {f:FuncId} {r:Str} {args:List PV} (h:xH a b=some r):aF Tryz.prog f args (.str r):=by cases h
theorem ak4 {α β γ:Type} (a:α) (b:β) (c:γ) {f:FuncId} {r:Str} {args:List PV} (h:aiS a b c=some r):aF Tryz.prog f args (.str r):=by cases h
end Go.VL
end
section
set_option maxHeartbeats 4000000
namespace Go.VL
open Go.Proofs
def wZ (k:Nat) (p_0:Printer) (bZ:Int):Option (Operator×Bool):=
  if 0<=bZ then Option.bind (p_0.e[bZ.toNat]?) fun x2=>cond (x2.kind !=3) (some ((Operator.mk [] 0 0 0 false 0 0),false)) (Option.bind (ku k x2.text) fun p6=>some (p6.1,p6.2))else none
theorem Ba {k:Nat} {p_0:Printer} {bZ:Int} {r:Operator×Bool} (h:wZ k p_0 bZ=some r):aF Tryz.prog 100 [(.agg (Printer.cells p_0)),(.int .i64 bZ)] (.dJ [(.agg (Operator.cells r.1)),(.bool r.2)]):=by
  refine aF.aP (bg.mem (.cons (.agg _ (Printer.pu _)) (.cons (.int _ _) .nil))) (aG asA (by simp) (aD ?_)) (.dJ _ (bg.mem (.cons (.agg _ (Operator.pu _)) (.cons (.bool _) .nil))));unfold wZ at h;unfold ajI;obtain⟨e1,h⟩:=aQ h;obtain⟨x2,e3,h⟩:=aj h;rcases au h with⟨e4,h⟩|⟨e4,h⟩
  ·obtain rfl:=ak h;try refine ah ?_
   exact(cZ (.cons (dK (.cons (.pure _ (.str _)) (.cons (.pure _ (.int _ _)) (.cons (.pure _ (.int _ _)) (.cons (.pure _ (.int _ _)) (.cons (.pure _ (.bool _)) (.cons (.pure _ (.int _ _)) (.cons (.pure _ (.int _ _)) .nil)))))))) (.cons (.pure _ (.bool _)) .nil)))
  ·obtain⟨p6,e5,h⟩:=aj h;try refine ah ?_
   refine aA (oZ e5) ?_;obtain rfl:=ak h;try refine ah ?_
   exact(cZ (.cons (dK (.cons (.pure _ (.str _)) (.cons (.pure _ (.int _ _)) (.cons (.pure _ (.int _ _)) (.cons (.pure _ (.int _ _)) (.cons (.pure _ (.bool _)) (.cons (.pure _ (.int _ _)) (.cons (.pure _ (.int _ _)) .nil)))))))) (.cons (.pure _ (.bool _)) .nil)))
def FB (k:Nat) (jq:Str):Option (Operator×Int):=
  Option.bind (ku k jq) fun p2=>Option.bind (mq (!p2.2) 10) fun p4=>some (p2.1,p4)
theorem Vw {k:Nat} {jq:Str} {r:Operator×Int} (h:FB k jq=some r):aF Tryz.prog 26 [(.str jq)] (.dJ [(.agg (Operator.cells r.1)),(.int .i64 r.2)]):=by
  refine aF.aP (bg.mem (.cons (.str _) .nil)) (aG avA (by simp) (aD ?_)) (.dJ _ (bg.mem (.cons (.agg _ (Operator.pu _)) (.cons (.int _ _) .nil))));unfold FB at h;unfold aoc;obtain⟨p2,e1,h⟩:=aj h;try refine ah ?_
  refine aA (oZ e1) ?_;try refine ah ?_
  refine eZ ?_;obtain⟨p4,e3,h⟩:=aj h;try refine ah ?_
  refine PC.mk (lV e3) ?_;obtain rfl:=ak h;try refine ah ?_
  exact(cZ (.cons (dK (.cons (.pure _ (.str _)) (.cons (.pure _ (.int _ _)) (.cons (.pure _ (.int _ _)) (.cons (.pure _ (.int _ _)) (.cons (.pure _ (.bool _)) (.cons (.pure _ (.int _ _)) (.cons (.pure _ (.int _ _)) .nil)))))))) (.cons (.pure _ (.int _ _)) .nil)))
def Md (k:Nat) (bZ:Int) (Rp:List Nd) (rU:Bool):Option Bool:=
  cond rU (if 0<=bZ then Option.bind (Rp[bZ.toNat]?) fun x3=>Option.bind (Po k x3.kind) fun p6=>some (p6)else none) (some (false))
def Rq:List Nat:=List.range' 11 8
theorem ab0 (k:Nat): ∀(Ye:Nat) (bZ:Int) (Rp:List Nd) (rU:Bool) (aC σ:Nat->PV) (H:AH) (f0:Fr Rq aC σ) (sl:σ 1=(.int .i64 bZ)/\σ 3=(.ref (Ye) 0)/\σ 10=(.bool rU)/\H.obj Ye=some [(.aB (Rp.map Nd.cells) .unk)]) (Vx:Ye<H.next) (o:Bool) (h:Md k bZ Rp rU=some o) (Q:Post) (q0: ∀(p:Bool) (σ':Nat->PV),o=p->Fr Rq aC σ'->(σ' 18=(.bool p))->Q .normal σ' H),dz Tryz.prog TI (Q .normal) σ H:=by
  intro Ye bZ Rp rU aC σ H f0 sl Vx o h Q q0;obtain⟨s1,s3,s10,ayh⟩:=sl;have ayi:=ne_next Vx;have ayj:=aW Vx;unfold Md at h;refine eD ?_;unfold TI;rcases au h with⟨e1,h⟩|⟨e1,h⟩
  ·obtain⟨e2,h⟩:=aQ h;obtain⟨x3,e4,h⟩:=aj h;obtain⟨p6,e5,h⟩:=aj h;try refine ah ?_
   refine aA (ad6 e5) ?_;obtain rfl:=ak h;try refine ah ?_
   exact q0 _ _ rfl aJ av
  ·obtain rfl:=ak h;try refine ah ?_
   exact q0 _ _ rfl aJ av
def FC (fC:Str) (iE:Int) (gX:Int) (gH:Int) (gY:Bool) (iF:Int) (iG:Int) (CW:Str) (FD:Int) (FE:Int) (Rt:Int) (Ru:Bool) (Rv:Int) (Rw:Int) (aav:Bool):Option Bool:=
  cond aav (cond (FD==0) (cond (decide (FE<gX)) (some (true)) (cond (FD !=0) (cond (decide (FE<=gH)) (some (true)) (cond (CW==([45,46]:Str)) (some ((fC==([45,46]:Str)))) (some (false)))) (cond (CW==([45,46]:Str)) (some ((fC==([45,46]:Str)))) (some (false))))) (cond (FD !=0) (cond (decide (FE<=gH)) (some (true)) (cond (CW==([45,46]:Str)) (some ((fC==([45,46]:Str)))) (some (false)))) (cond (CW==([45,46]:Str)) (some ((fC==([45,46]:Str)))) (some (false))))) (some (false))
def Kl:List Nat:=List.range' 71 33
theorem Vy: ∀(fV:Nat) (Me:Nat) (fC:Str) (iE:Int) (gX:Int) (gH:Int) (gY:Bool) (iF:Int) (iG:Int) (CW:Str) (FD:Int) (FE:Int) (Rt:Int) (Ru:Bool) (Rv:Int) (Rw:Int) (aav:Bool) (aC σ:Nat->PV) (H:AH) (f0:Fr Kl aC σ) (sl:σ 6=(.ref (fV) 0)/\σ 12=(.ref (Me) 0)/\σ 70=(.bool aav)/\H.obj fV=some [(.str fC),(.int .i64 iE),(.int .i64 gX),(.int .i64 gH),(.bool gY),(.int .i64 iF),(.int .i64 iG)]/\H.obj Me=some [(.str CW),(.int .i64 FD),(.int .i64 FE),(.int .i64 Rt),(.bool Ru),(.int .i64 Rv),(.int .i64 Rw)]) (jD:fV<H.next) (PU:Me<H.next) (BO:fV≠Me) (o:Bool) (h:FC fC iE gX gH gY iF iG CW FD FE Rt Ru Rv Rw aav=some o) (Q:Post) (q0: ∀(p:Bool) (σ':Nat->PV),o=p->Fr Kl aC σ'->(σ' 103=(.bool p))->Q .normal σ' H),dz Tryz.prog OC (Q .normal) σ H:=by
  intro fV Me fC iE gX gH gY iF iG CW FD FE Rt Ru Rv Rw aav aC σ H f0 sl jD PU BO o h Q q0;obtain⟨s6,s12,s70,MZ,axz⟩:=sl;have M0:=ne_next jD;have M4:=aW jD;have axA:=ne_next PU;have axB:=aW PU;have amA:=eq_false BO;have amB:=eq_false (Ne.symm BO);unfold FC at h;refine eD ?_;unfold OC;rcases au h with⟨e21,h⟩|⟨e21,h⟩
  ·rcases au h with⟨e22,h⟩|⟨e22,h⟩
   ·rcases au h with⟨e23,h⟩|⟨e23,h⟩
    ·obtain rfl:=ak h;try refine ah ?_
     exact q0 _ _ rfl aJ av
    ·rcases au h with⟨e24,h⟩|⟨e24,h⟩
     ·rcases au h with⟨e25,h⟩|⟨e25,h⟩
      ·obtain rfl:=ak h;try refine ah ?_
       exact q0 _ _ rfl aJ av
      ·rcases au h with⟨e26,h⟩|⟨e26,h⟩
       ·obtain rfl:=ak h;try refine ah ?_
        exact q0 _ _ rfl aJ av
       ·obtain rfl:=ak h;try refine ah ?_
        exact q0 _ _ rfl aJ av
     ·rcases au h with⟨e27,h⟩|⟨e27,h⟩
      ·obtain rfl:=ak h;try refine ah ?_
       exact q0 _ _ rfl aJ av
      ·obtain rfl:=ak h;try refine ah ?_
       exact q0 _ _ rfl aJ av
   ·rcases au h with⟨e28,h⟩|⟨e28,h⟩
    ·rcases au h with⟨e29,h⟩|⟨e29,h⟩
     ·obtain rfl:=ak h;try refine ah ?_
      exact q0 _ _ rfl aJ av
     ·rcases au h with⟨e30,h⟩|⟨e30,h⟩
      ·obtain rfl:=ak h;try refine ah ?_
       exact q0 _ _ rfl aJ av
      ·obtain rfl:=ak h;try refine ah ?_
       exact q0 _ _ rfl aJ av
    ·rcases au h with⟨e31,h⟩|⟨e31,h⟩
     ·obtain rfl:=ak h;try refine ah ?_
      exact q0 _ _ rfl aJ av
     ·obtain rfl:=ak h;try refine ah ?_
      exact q0 _ _ rfl aJ av
  ·obtain rfl:=ak h;try refine ah ?_
   exact q0 _ _ rfl aJ av
def FH (fC:Str) (iE:Int) (gX:Int) (gH:Int) (gY:Bool) (iF:Int) (iG:Int) (Rx:Bool):Option Bool:=
  cond Rx (Option.bind (fC[0]?) fun x47=>some ((decide ((x47.toNat:Int)<=90)))) (some (false))
def Km:List Nat:=[116,117,118,119,120]
theorem Vz: ∀(fV:Nat) (fC:Str) (iE:Int) (gX:Int) (gH:Int) (gY:Bool) (iF:Int) (iG:Int) (Rx:Bool) (aC σ:Nat->PV) (H:AH) (f0:Fr Km aC σ) (sl:σ 6=(.ref (fV) 0)/\σ 115=(.bool Rx)/\H.obj fV=some [(.str fC),(.int .i64 iE),(.int .i64 gX),(.int .i64 gH),(.bool gY),(.int .i64 iF),(.int .i64 iG)]) (jD:fV<H.next) (o:Bool) (h:FH fC iE gX gH gY iF iG Rx=some o) (Q:Post) (q0: ∀(p:Bool) (σ':Nat->PV),o=p->Fr Km aC σ'->(σ' 120=(.bool p))->Q .normal σ' H),dz Tryz.prog OD (Q .normal) σ H:=by
  intro fV fC iE gX gH gY iF iG Rx aC σ H f0 sl jD o h Q q0;obtain⟨s6,aCa,MZ⟩:=sl;have M0:=ne_next jD;have M4:=aW jD;unfold FH at h;refine eD ?_;unfold OD;rcases au h with⟨e46,h⟩|⟨e46,h⟩
  ·obtain⟨x47,e48,h⟩:=aj h;obtain rfl:=ak h;try refine ah ?_
   exact q0 _ _ rfl aJ av
  ·obtain rfl:=ak h;try refine ah ?_
   exact q0 _ _ rfl aJ av
def FI (fC:Str) (iE:Int) (gX:Int) (gH:Int) (gY:Bool) (iF:Int) (iG:Int) (zf:Str):Option Str:=
  cond (fC==([45,46]:Str)) (some (([45]:Str))) (Option.bind (fC[0]?) fun x44=>Option.bind (FH fC iE gX gH gY iF iG (decide ((x44.toNat:Int)>=65))) (fun p51=>cond p51 (if zf.length+([32]:Str).length<=4611686018427387904 then some ((zf++([32]:Str)))else none) (some (zf))))
def Kn:List Nat:=[15]++List.range' 106 17
theorem VA: ∀(fV:Nat) (fC:Str) (iE:Int) (gX:Int) (gH:Int) (gY:Bool) (iF:Int) (iG:Int) (zf:Str) (aC σ:Nat->PV) (H:AH) (f0:Fr Kn aC σ) (sl:σ 6=(.ref (fV) 0)/\σ 15=(.str zf)/\H.obj fV=some [(.str fC),(.int .i64 iE),(.int .i64 gX),(.int .i64 gH),(.bool gY),(.int .i64 iF),(.int .i64 iG)]) (jD:fV<H.next) (o:Str) (h:FI fC iE gX gH gY iF iG zf=some o) (Q:Post) (q0: ∀(p:Str) (σ':Nat->PV),o=p->Fr Kn aC σ'->(σ' 15=(.str p))->Q .normal σ' H),W Tryz.prog OE Q σ H:=by
  intro fV fC iE gX gH gY iF iG zf aC σ H f0 sl jD o h Q q0;obtain⟨s6,s15,MZ⟩:=sl;have M0:=ne_next jD;have M4:=aW jD;unfold FI at h;refine aD ?_;unfold OE;rcases au h with⟨e43,h⟩|⟨e43,h⟩
  ·obtain rfl:=ak h;try refine ah ?_
   exact q0 _ _ rfl aJ av
  ·obtain⟨x44,e45,h⟩:=aj h;try refine ah ?_
   obtain⟨o49,h50,h⟩:=aj h;refine Vz (fV) fC iE gX gH gY iF iG (decide ((x44.toNat:Int)>=65)) _ _ _ (Fr.refl _ _) av bS _ h50 _ ?_
   ·rintro p51 σ' eo aiT s55;rw [eo]at h;have s56:σ' 15=(.str zf):=(aiT 15 (by decide)).trans av;rcases au h with⟨e57,h⟩|⟨e57,h⟩
    ·obtain⟨e58,h⟩:=aQ h;try refine ah ?_
     refine dA (dI e58) ?_;obtain rfl:=ak h;try refine ah ?_
     exact q0 _ _ rfl (by repeat (first|exact f0|refine Fr.upd (by decide) ?_|refine Fr.via aiT (by decide) ?_)) av
    ·obtain rfl:=ak h;try refine ah ?_
     exact q0 _ _ rfl (by repeat (first|exact f0|refine Fr.upd (by decide) ?_|refine Fr.via aiT (by decide) ?_)) av
def FJ (fC:Str) (iE:Int) (gX:Int) (gH:Int) (gY:Bool) (iF:Int) (iG:Int) (aaw:Int) (Mf:Str) (Ry:Int) (Mg:Int) (Rz:Int) (RA:Bool) (RB:Int) (RD:Int) (RF:Bool):Option Bool:=
  cond RF (cond (decide (Mg<=gH)) (cond (aaw==0) (cond (Mf==fC) (some ((!gY))) (some (true))) (some (true))) (some (false))) (some (false))
def Ko:List Nat:=List.range' 153 22
theorem VB: ∀(fV:Nat) (Mh:Nat) (fC:Str) (iE:Int) (gX:Int) (gH:Int) (gY:Bool) (iF:Int) (iG:Int) (aaw:Int) (Mf:Str) (Ry:Int) (Mg:Int) (Rz:Int) (RA:Bool) (RB:Int) (RD:Int) (RF:Bool) (aC σ:Nat->PV) (H:AH) (f0:Fr Ko aC σ) (sl:σ 6=(.ref (fV) 0)/\σ 18=(.int .i64 aaw)/\σ 20=(.ref (Mh) 0)/\σ 152=(.bool RF)/\H.obj fV=some [(.str fC),(.int .i64 iE),(.int .i64 gX),(.int .i64 gH),(.bool gY),(.int .i64 iF),(.int .i64 iG)]/\H.obj Mh=some [(.str Mf),(.int .i64 Ry),(.int .i64 Mg),(.int .i64 Rz),(.bool RA),(.int .i64 RB),(.int .i64 RD)]) (jD:fV<H.next) (PW:Mh<H.next) (BP:fV≠Mh) (o:Bool) (h:FJ fC iE gX gH gY iF iG aaw Mf Ry Mg Rz RA RB RD RF=some o) (Q:Post) (q0: ∀(p:Bool) (σ':Nat->PV),o=p->Fr Ko aC σ'->(σ' 174=(.bool p))->Q .normal σ' H),dz Tryz.prog OG (Q .normal) σ H:=by
  intro fV Mh fC iE gX gH gY iF iG aaw Mf Ry Mg Rz RA RB RD RF aC σ H f0 sl jD PW BP o h Q q0;obtain⟨s6,jE,s20,aCb,MZ,axC⟩:=sl;have M0:=ne_next jD;have M4:=aW jD;have axD:=ne_next PW;have axE:=aW PW;have amC:=eq_false BP;have amD:=eq_false (Ne.symm BP);unfold FJ at h;refine eD ?_;unfold OG;rcases au h with⟨e79,h⟩|⟨e79,h⟩
  ·rcases au h with⟨e80,h⟩|⟨e80,h⟩
   ·rcases au h with⟨e81,h⟩|⟨e81,h⟩
    ·rcases au h with⟨e82,h⟩|⟨e82,h⟩
     ·obtain rfl:=ak h;try refine ah ?_
      exact q0 _ _ rfl aJ av
     ·obtain rfl:=ak h;try refine ah ?_
      exact q0 _ _ rfl aJ av
    ·obtain rfl:=ak h;try refine ah ?_
     exact q0 _ _ rfl aJ av
   ·obtain rfl:=ak h;try refine ah ?_
    exact q0 _ _ rfl aJ av
  ·obtain rfl:=ak h;try refine ah ?_
   exact q0 _ _ rfl aJ av
def Kq:List Nat:=[16,18,19,20,21,22]++List.range' 140 49
mutual
def l8:Nat->Printer->Int->Bool->Option Str
  |0,_,_,_=>none
  |k+1,p_0,bZ,jY=>
    Option.bind (Md k bZ p_0.e jY) (fun p9=>cond p9 (Option.bind (FK k p_0 bZ) fun zG=>some zG) (Option.bind (wZ k p_0 bZ) fun uj=>cond uj.2 (Option.bind (GD k p_0 bZ uj.1 jY) fun xO=>some xO) (Option.bind (RG k p_0 bZ) fun p26=>some p26)))
def FK:Nat->Printer->Int->Option Str
  |0,_,_=>none
  |k+1,p_0,bZ=>
    Option.bind (l8 k p_0 bZ false) fun p2=>if([40]:Str).length+p2.length<=4611686018427387904 then if(40::p2).length+([41]:Str).length<=4611686018427387904 then some (40::(p2++([41]:Str)))else none else none
def sM:Nat->Printer->Int->Bool->Bool->Option Str
  |0,_,_,_,_=>none
  |k+1,p_0,bZ,I5,bY=>
    cond I5 (Option.bind (FK k p_0 bZ) fun p3=>some p3) (Option.bind (l8 k p_0 bZ bY) fun p5=>some p5)
def r9:Nat->Bool->(List Nd)->Str->Int->Int->Int->Bool->Int->Int->(List Str)->Int->(List Int)->Int->Int->Option (List Str)
  |0,_,_,_,_,_,_,_,_,_,_,_,_,_,_=>none
  |k+1,bY,vo,fC,iE,gX,gH,gY,iF,iG,pW,sj,Bb,Bc,qK=>
    cond (decide (qK<Bc)) (if 0<=qK then Option.bind (Bb[qK.toNat]?) fun x75=>Option.bind (wZ k (Printer.mk vo) x75) fun CX=>Option.bind (FJ fC iE gX gH gY iF iG qK CX.1.text CX.1.fix CX.1.low CX.1.high CX.1.left CX.1.least CX.1.most CX.2) (fun p85=>cond (decide (qK<sj)) (Option.bind (sM k (Printer.mk vo) x75 p85 true) fun Px=>if(pW.length+1)*16<=1099511627776 then r9 k bY vo fC iE gX gH gY iF iG (pW++[Px]) sj Bb Bc (IntKind.wrap .i64 (qK+1))else none) (Option.bind (sM k (Printer.mk vo) x75 p85 bY) fun aeG=>if(pW.length+1)*16<=1099511627776 then r9 k bY vo fC iE gX gH gY iF iG (pW++[aeG]) sj Bb Bc (IntKind.wrap .i64 (qK+1))else none))else none) (some (pW))
def GD:Nat->Printer->Int->Operator->Bool->Option Str
  |0,_,_,_,_=>none
  |k+1,p_0,bZ,fD,bY=>
    if 0<=bZ then Option.bind (p_0.e[bZ.toNat]?) fun x2=>cond (fD.fix==2) (Option.bind (x2.args[0]?) fun x5=>Option.bind (wZ k p_0 x5) fun p8=>cond p8.2 (Option.bind (sM k p_0 x5 (!(p8.1.text==fD.text)) true) fun nJ=>if nJ.length+fD.text.length<=4611686018427387904 then some (nJ++fD.text)else none) (Option.bind (sM k p_0 x5 false true) fun jO=>if jO.length+fD.text.length<=4611686018427387904 then some (jO++fD.text)else none)) (cond (fD.fix==0) (Option.bind (x2.args[0]?) fun CK=>Option.bind (wZ k p_0 CK) fun rQ=>Option.bind (FC fD.text fD.fix fD.low fD.high fD.left fD.least fD.most rQ.1.text rQ.1.fix rQ.1.low rQ.1.high rQ.1.left rQ.1.least rQ.1.most rQ.2) (fun p34=>Option.bind (FI fD.text fD.fix fD.low fD.high fD.left fD.least fD.most fD.text) (fun p61=>Option.bind (sM k p_0 CK p34 bY) fun p71=>if p61.length+p71.length<=4611686018427387904 then some (p61++p71)else none))) (Option.bind (r9 k bY p_0.e fD.text fD.fix fD.low fD.high fD.left fD.least fD.most ([]:List Str) (IntKind.wrap .i64 ((x2.args.length:Int) -1)) x2.args (x2.args.length:Int) 0) (fun aay=>if([32]:Str).length+fD.text.length<=4611686018427387904 then if(32::fD.text).length+([32]:Str).length<=4611686018427387904 then if aay.length<=1099511627776 then if(Lib.join aay (32::(fD.text++([32]:Str)))).length<=140737488355328 then some (Lib.join aay (32::(fD.text++([32]:Str))))else none else none else none else none)))else none
def RG:Nat->Printer->Int->Option Str
  |0,_,_=>none
  |k+1,p_0,bZ=>
    if 0<=bZ then Option.bind (p_0.e[bZ.toNat]?) fun x2=>cond (x2.kind==0) (if 0<=x2.n/\x2.n<100 then some (Lib.decDigits (Int.toNat x2.n))else none) (cond (x2.kind==1) (if([34]:Str).length+x2.text.length<=4611686018427387904 then if(34::x2.text).length+([34]:Str).length<=4611686018427387904 then some (34::(x2.text++([34]:Str)))else none else none) (cond (x2.kind==2) (some x2.text) (cond (x2.kind==3) (if x2.text.length+([40]:Str).length<=4611686018427387904 then Option.bind (xH p_0 x2.args) fun uY=>if(x2.text++([40]:Str)).length+uY.length<=4611686018427387904 then if(x2.text++(40::uY)).length+([41]:Str).length<=4611686018427387904 then some (x2.text++(40::(uY++([41]:Str))))else none else none else none) (cond (x2.kind==4) (Option.bind (xH p_0 x2.args) fun xu=>if([60,60]:Str).length+xu.length<=4611686018427387904 then if(60::60::xu).length+([62,62]:Str).length<=4611686018427387904 then some (60::60::(xu++([62,62]:Str)))else none else none) (cond (x2.kind==5) (Option.bind (xH p_0 x2.args) fun Ip=>if([123]:Str).length+Ip.length<=4611686018427387904 then if(123::Ip).length+([125]:Str).length<=4611686018427387904 then some (123::(Ip++([125]:Str)))else none else none) (cond (x2.kind==6) (Option.bind (xH p_0 x2) fun p28=>if([123]:Str).length+p28.length<=4611686018427387904 then if(123::p28).length+([32,58,32]:Str).length<=4611686018427387904 then Option.bind (x2.args[1]?) fun x31=>Option.bind (l8 k p_0 x31 false) fun p34=>if(123::(p28++([32,58,32]:Str))).length+p34.length<=4611686018427387904 then if(123::(p28++(32::58::32::p34))).length+([125]:Str).length<=4611686018427387904 then some (123::(p28++(32::58::32::(p34++([125]:Str)))))else none else none else none else none) (cond (x2.kind==7) (if 0<=(IntKind.wrap .i64 ((x2.args.length:Int) -1))then Option.bind (x2.args[(IntKind.wrap .i64 ((x2.args.length:Int) -1)).toNat]?) fun x39=>Option.bind (xH p_0 x39) fun p42=>if([123]:Str).length+p42.length<=4611686018427387904 then if(123::p42).length+([32,58,32]:Str).length<=4611686018427387904 then Option.bind (xH p_0 x2) fun p46=>if(123::(p42++([32,58,32]:Str))).length+p46.length<=4611686018427387904 then if(123::(p42++(32::58::32::p46))).length+([125]:Str).length<=4611686018427387904 then some (123::(p42++(32::58::32::(p46++([125]:Str)))))else none else none else none else none else none) (cond (x2.kind==13) (Option.bind (xH p_0 x2) fun p51=>if([91]:Str).length+p51.length<=4611686018427387904 then if(91::p51).length+([32,124,45,62,32]:Str).length<=4611686018427387904 then if 0<=(IntKind.wrap .i64 ((x2.args.length:Int) -1))then Option.bind (x2.args[(IntKind.wrap .i64 ((x2.args.length:Int) -1)).toNat]?) fun x55=>Option.bind (l8 k p_0 x55 false) fun p58=>if(91::(p51++([32,124,45,62,32]:Str))).length+p58.length<=4611686018427387904 then if(91::(p51++(32::124::45::62::32::p58))).length+([93]:Str).length<=4611686018427387904 then some (91::(p51++(32::124::45::62::32::(p58++([93]:Str)))))else none else none else none else none else none) (cond (x2.kind==14) (Option.bind (x2.args[0]?) fun x62=>Option.bind (xH p_0 x62) fun p65=>if p65.length+([91]:Str).length<=4611686018427387904 then if 1<=x2.args.length then Option.bind (xH p_0 (x2.args.drop 1)) fun p69=>if(p65++([91]:Str)).length+p69.length<=4611686018427387904 then if(p65++(91::p69)).length+([93]:Str).length<=4611686018427387904 then some (p65++(91::(p69++([93]:Str))))else none else none else none else none) (cond (x2.kind==15) (Option.bind (x2.args[0]?) fun Wp=>Option.bind (l8 k p_0 Wp false) fun p76=>if([91]:Str).length+p76.length<=4611686018427387904 then if(91::p76).length+([32,45,62,32]:Str).length<=4611686018427387904 then Option.bind (x2.args[1]?) fun x79=>Option.bind (l8 k p_0 x79 false) fun p82=>if(91::(p76++([32,45,62,32]:Str))).length+p82.length<=4611686018427387904 then if(91::(p76++(32::45::62::32::p82))).length+([93]:Str).length<=4611686018427387904 then some (91::(p76++(32::45::62::32::(p82++([93]:Str)))))else none else none else none else none) (cond (x2.kind==16) (Option.bind (aiS p_0 x2 ([32,124,45,62,32]:Str)) fun JX=>if([91]:Str).length+JX.length<=4611686018427387904 then if(91::JX).length+([93]:Str).length<=4611686018427387904 then some (91::(JX++([93]:Str)))else none else none) (cond (x2.kind==17) (Option.bind (aiS p_0 x2 ([32,58,32]:Str)) fun ZY=>if([91]:Str).length+ZY.length<=4611686018427387904 then if(91::ZY).length+([93]:Str).length<=4611686018427387904 then some (91::(ZY++([93]:Str)))else none else none) (cond (x2.kind==18) (Option.bind (x2.args[0]?) fun x96=>Option.bind (xH p_0 x96) fun p99=>if p99.length+([46]:Str).length<=4611686018427387904 then if(p99++([46]:Str)).length+x2.text.length<=4611686018427387904 then some (p99++(46::x2.text))else none else none) (cond (x2.kind==19) (Option.bind (x2.args[0]?) fun x103=>Option.bind (l8 k p_0 x103 false) fun Fb=>if([91]:Str).length+Fb.length<=4611686018427387904 then if(91::Fb).length+([32,69,88,67,69,80,84,32,33,91]:Str).length<=4611686018427387904 then Option.bind (x2.args[1]?) fun aiU=>Option.bind (l8 k p_0 aiU false) fun JC=>if(91::(Fb++([32,69,88,67,69,80,84,32,33,91]:Str))).length+JC.length<=4611686018427387904 then if(91::(Fb++(32::69::88::67::69::80::84::32::33::91::JC))).length+([93,32,61,32]:Str).length<=4611686018427387904 then Option.bind (x2.args[2]?) fun x115=>Option.bind (l8 k p_0 x115 false) fun G7=>if(91::(Fb++(32::69::88::67::69::80::84::32::33::91::(JC++([93,32,61,32]:Str))))).length+G7.length<=4611686018427387904 then if(91::(Fb++(32::69::88::67::69::80::84::32::33::91::(JC++(93::32::61::32::G7))))).length+([93]:Str).length<=4611686018427387904 then some (91::(Fb++(32::69::88::67::69::80::84::32::33::91::(JC++(93::32::61::32::(G7++([93]:Str)))))))else none else none else none else none else none else none) (cond (x2.kind==20) (some ([64]:Str)) (cond (x2.kind==25) (Option.bind (x2.args[0]?) fun aiV=>Option.bind (l8 k p_0 aiV false) fun aaz=>if([91]:Str).length+aaz.length<=4611686018427387904 then if(91::aaz).length+([93,95]:Str).length<=4611686018427387904 then Option.bind (x2.args[1]?) fun aiW=>Option.bind (xH p_0 aiW) fun Vl=>if(91::(aaz++([93,95]:Str))).length+Vl.length<=4611686018427387904 then some (91::(aaz++(93::95::Vl)))else none else none else none) (cond (x2.kind==26) (Option.bind (x2.args[0]?) fun aiX=>Option.bind (l8 k p_0 aiX false) fun K9=>if([60,60]:Str).length+K9.length<=4611686018427387904 then if(60::60::K9).length+([62,62,95]:Str).length<=4611686018427387904 then Option.bind (x2.args[1]?) fun aiY=>Option.bind (xH p_0 aiY) fun UU=>if(60::60::(K9++([62,62,95]:Str))).length+UU.length<=4611686018427387904 then some (60::60::(K9++(62::62::95::UU)))else none else none else none) (cond (x2.kind==27) (Option.bind (x2.args[1]?) fun aiZ=>Option.bind (xH p_0 aiZ) fun VD=>if([87,70,95]:Str).length+VD.length<=4611686018427387904 then if(87::70::95::VD).length+([40]:Str).length<=4611686018427387904 then Option.bind (x2.args[0]?) fun x153=>Option.bind (l8 k p_0 x153 false) fun Pm=>if(87::70::95::(VD++([40]:Str))).length+Pm.length<=4611686018427387904 then if(87::70::95::(VD++(40::Pm))).length+([41]:Str).length<=4611686018427387904 then some (87::70::95::(VD++(40::(Pm++([41]:Str)))))else none else none else none else none) (cond (x2.kind==28) (Option.bind (x2.args[1]?) fun x160=>Option.bind (xH p_0 x160) fun VE=>if([83,70,95]:Str).length+VE.length<=4611686018427387904 then if(83::70::95::VE).length+([40]:Str).length<=4611686018427387904 then Option.bind (x2.args[0]?) fun ai0=>Option.bind (l8 k p_0 ai0 false) fun aeH=>if(83::70::95::(VE++([40]:Str))).length+aeH.length<=4611686018427387904 then if(83::70::95::(VE++(40::aeH))).length+([41]:Str).length<=4611686018427387904 then some (83::70::95::(VE++(40::(aeH++([41]:Str)))))else none else none else none else none) (Option.bind (xH p_0 x2) fun arx=>some arx))))))))))))))))))))else none
end
mutual
theorem lN (k:Nat): ∀(p_0:Printer) (bZ:Int) (jY:Bool) (r:Str) (h:l8 k p_0 bZ jY=some r),aF Tryz.prog 59 [(.agg (Printer.cells p_0)),(.int .i64 bZ),(.bool jY)] (.str r):=by
  match k with
  |0=>intro p_0 bZ jY r h;rw [l8]at h;cases h
  |k+1=>
    intro p_0 bZ jY r h;refine aF.aP (bg.mem (.cons (.agg _ (Printer.pu _)) (.cons (.int _ _) (.cons (.bool _) .nil)))) (aG avR (by simp) (aD ?_)) (.str _);rw [l8]at h;unfold aoG;try refine ah ?_
    obtain⟨o7,h8,h⟩:=aj h;refine ab0 k (AH.empty.next) bZ p_0.e jY _ _ _ (Fr.refl _ _) av bS _ h8 _ ?_
    ·rintro p9 σ' eo Zx s13;rw [eo]at h;have NP:σ' 1=(.int .i64 bZ):=(Zx 1 (by decide)).trans av;have s15:σ' 2=(.bool jY):=(Zx 2 (by decide)).trans av;have s16:σ' 3=(.ref (AH.empty.next) 0):=(Zx 3 (by decide)).trans av;rcases au h with⟨e17,h⟩|⟨e17,h⟩
     ·obtain⟨zG,e18,h⟩:=aj h;try refine ah ?_
      refine aA ((RH k p_0 bZ _ e18).wk (.same (.same .nil))) ?_;obtain rfl:=ak h;try refine ah ?_
      exact(.pure _ (.str _))
     ·obtain⟨uj,e20,h⟩:=aj h;try refine ah ?_
      refine aA (Ba e20) ?_;rcases au h with⟨e22,h⟩|⟨e22,h⟩
      ·obtain⟨xO,e23,h⟩:=aj h;try refine ah ?_
       refine aA ((ab1 k p_0 bZ uj.1 jY _ e23).wk (.same (.same (.same (.same .nil))))) ?_;obtain rfl:=ak h;try refine ah ?_
       exact(.pure _ (.str _))
      ·obtain⟨p26,e25,h⟩:=aj h;try refine ah ?_
       refine aA ((ai1 k p_0 bZ _ e25).wk (.same (.same .nil))) ?_;obtain rfl:=ak h;try refine ah ?_
       exact(.pure _ (.str _))
theorem RH (k:Nat): ∀(p_0:Printer) (bZ:Int) (r:Str) (h:FK k p_0 bZ=some r),aF Tryz.prog 99 [(.agg (Printer.cells p_0)),(.int .i64 bZ)] (.str r):=by
  match k with
  |0=>intro p_0 bZ r h;rw [FK]at h;cases h
  |k+1=>
    intro p_0 bZ r h;refine aF.aP (bg.mem (.cons (.agg _ (Printer.pu _)) (.cons (.int _ _) .nil))) (aG awk (by simp) (aD ?_)) (.str _);rw [FK]at h;unfold ape;obtain⟨p2,e1,h⟩:=aj h;try refine ah ?_
    refine aA ((lN k p_0 bZ false _ e1).wk (.same (.same (.same .nil)))) ?_;obtain⟨e3,h⟩:=aQ h;try refine ah ?_
    refine dA (dI e3) ?_;obtain⟨e4,h⟩:=aQ h;try refine ah ?_
    refine dA (dI e4) ?_;obtain rfl:=ak h;try refine ah ?_
    exact(.pure _ (.str _))
theorem yu (k:Nat): ∀(p_0:Printer) (bZ:Int) (I5:Bool) (bY:Bool) (r:Str) (h:sM k p_0 bZ I5 bY=some r),aF Tryz.prog 150 [(.agg (Printer.cells p_0)),(.int .i64 bZ),(.bool I5),(.bool bY)] (.str r):=by
  match k with
  |0=>intro p_0 bZ I5 bY r h;rw [sM]at h;cases h
  |k+1=>
    intro p_0 bZ I5 bY r h;refine aF.aP (bg.mem (.cons (.agg _ (Printer.pu _)) (.cons (.int _ _) (.cons (.bool _) (.cons (.bool _) .nil))))) (aG as7 (by simp) (aD ?_)) (.str _);rw [sM]at h;unfold akm;rcases au h with⟨e1,h⟩|⟨e1,h⟩
    ·obtain⟨p3,e2,h⟩:=aj h;try refine ah ?_
     refine aA ((RH k p_0 bZ _ e2).wk (.same (.same .nil))) ?_;obtain rfl:=ak h;try refine ah ?_
     exact(.pure _ (.str _))
    ·obtain⟨p5,e4,h⟩:=aj h;try refine ah ?_
     refine aA ((lN k p_0 bZ bY _ e4).wk (.same (.same (.same .nil)))) ?_;obtain rfl:=ak h;try refine ah ?_
     exact(.pure _ (.str _))
theorem I6 (k:Nat): ∀(xg:Nat) (fV:Nat) (bY:Bool) (vo:List Nd) (fC:Str) (iE:Int) (gX:Int) (gH:Int) (gY:Bool) (iF:Int) (iG:Int) (pW:List Str) (sj:Int) (Bb:List Int) (Bc:Int) (qK:Int) (oO:Ck) (aC σ:Nat->PV) (H0 H:AH) (f0:Fr Kq aC σ) (hf0:HF [] H0 H) (sl:σ 3=(.bool bY)/\σ 4=(.ref (xg) 0)/\σ 6=(.ref (fV) 0)/\σ 16=(.aB (pW.map aI) oO)/\σ 17=(.int .i64 sj)/\σ 138=(.aB (Bb.map aY) .unk)/\σ 139=(.int .i64 Bc)/\σ 140=(.int .i64 qK)/\H.obj xg=some [(.aB (vo.map Nd.cells) .unk)]/\H.obj fV=some [(.str fC),(.int .i64 iE),(.int .i64 gX),(.int .i64 gH),(.bool gY),(.int .i64 iF),(.int .i64 iG)]) (M5:xg<H.next) (jD:fV<H.next) (yJ:xg≠fV) (WL:bA H oO) (o:List Str) (h:r9 k bY vo fC iE gX gH gY iF iG pW sj Bb Bc qK=some o) (Q:Post) (q0: ∀(p:List Str) (c0:Ck) (σ':Nat->PV) (H':AH),o=p->Fr Kq aC σ'->HF [] H0 H'->(σ' 16=(.aB (p.map aI) c0))->Q (.exit 2) σ' H'),W Tryz.prog (.loop OH) Q σ H:=by
  match k with
  |0=>intro xg fV bY vo fC iE gX gH gY iF iG pW sj Bb Bc qK oO aC σ H0 H f0 hf0 sl M5 jD yJ WL o h Q q0;rw [r9]at h;cases h
  |k+1=>
    have ih:=I6 k;intro xg fV bY vo fC iE gX gH gY iF iG pW sj Bb Bc qK oO aC σ H0 H f0 hf0 sl M5 jD yJ WL o h Q q0;obtain⟨s3,s4,s6,s16,um,aq3,aq4,aCc,ayk,MZ⟩:=sl;have ayl:=ne_next M5;have aym:=aW M5;have M0:=ne_next jD;have M4:=aW jD;have am5:=eq_false yJ;have am6:=eq_false (Ne.symm yJ);have hle0:=hf0.1;rw [r9]at h;refine aU (fun K hK=>aD ?_);unfold OH;rcases au h with⟨QB,h⟩|⟨QB,h⟩
    ·obtain⟨e74,h⟩:=aQ h;obtain⟨x75,V9,h⟩:=aj h;obtain⟨CX,NM,h⟩:=aj h;try refine ah ?_
     refine aA (Ba NM) ?_;try refine ah ?_
     obtain⟨o83,h84,h⟩:=aj h;refine VB (fV) (H.next) fC iE gX gH gY iF iG qK CX.1.text CX.1.fix CX.1.low CX.1.high CX.1.left CX.1.least CX.1.most CX.2 _ _ _ (Fr.refl _ _) av bS bS bS _ h84 _ ?_
     ·rintro p85 σ' eo Dr s89;rw [eo]at h;have s90:σ' 3=(.bool bY):=(Dr 3 (by decide)).trans av;have s91:σ' 4=(.ref (xg) 0):=(Dr 4 (by decide)).trans av;have s92:σ' 6=(.ref (fV) 0):=(Dr 6 (by decide)).trans av;have s93:σ' 16=(.aB (pW.map aI) oO):=(Dr 16 (by decide)).trans av;have s94:σ' 17=(.int .i64 sj):=(Dr 17 (by decide)).trans av;have s95:σ' 18=(.int .i64 qK):=(Dr 18 (by decide)).trans av;have s96:σ' 19=(.int .i64 x75):=(Dr 19 (by decide)).trans av;have s97:σ' 138=(.aB (Bb.map aY) .unk):=(Dr 138 (by decide)).trans av;have s98:σ' 139=(.int .i64 Bc):=(Dr 139 (by decide)).trans av;have s99:σ' 140=(.int .i64 qK):=(Dr 140 (by decide)).trans av;rcases au h with⟨e100,h⟩|⟨e100,h⟩
      ·obtain⟨Px,Pk,h⟩:=aj h;try refine ah ?_
       refine aA ((yu k (Printer.mk vo) x75 p85 true _ Pk).wk (.same (.same (.same (.same .nil))))) ?_;obtain⟨EW,h⟩:=aQ h;try refine ah ?_
       refine gF (f:=aI) jw pW ([Px]:List Str) oO .exact av av fM (by first|exact EW|(simp only [List.length_cons,List.length_nil];exact EW)) (fun axF PX aAQ le atC aAR=> ?_);have Yc:HF [] _ PX:=⟨le,fun i _ _=>atC i⟩;try simp only [AH.aK,AH.aL,AH.aM,AH.aN]at le
       have n119:=ne_next (show xg<PX.next by first|omega|(simp only [AH.aK,AH.aL,AH.aM,AH.aN];omega));have aCd:=aW (show xg<PX.next by first|omega|(simp only [AH.aK,AH.aL,AH.aM,AH.aN];omega));have n121:=ne_next (show fV<PX.next by first|omega|(simp only [AH.aK,AH.aL,AH.aM,AH.aN];omega));have aCe:=aW (show fV<PX.next by first|omega|(simp only [AH.aK,AH.aL,AH.aM,AH.aN];omega));have n123:=ne_next (show H.next<PX.next by first|omega|(simp only [AH.aK,AH.aL,AH.aM,AH.aN];omega));have aCf:=aW (show H.next<PX.next by first|omega|(simp only [AH.aK,AH.aL,AH.aM,AH.aN];omega));try refine ah ?_
       refine hK _ _ ?_;exact ih xg fV bY vo fC iE gX gH gY iF iG (pW++[Px]) sj Bb Bc (IntKind.wrap .i64 (qK+1)) axF _ _ _ _ (by repeat (first|exact f0|refine Fr.upd (by decide) ?_|refine Fr.via Dr (by decide) ?_)) (by repeat (first|exact hf0|refine HF.new ?_|refine HF.fP ?_|refine HF.used ?_|refine HF.put (by first|(right;omega)|(left;simp only [List.mem_cons,true_or,or_true])) ?_|refine HF.via Yc (by first|exact fun i hi=>absurd hi List.not_mem_nil|(intro i hi;simp only [List.mem_cons,List.not_mem_nil,or_false]at hi⊢;first|exact .inl hi|omega)) ?_)) av bS bS bS fM _ h _ q0
      ·obtain⟨aeG,UL,h⟩:=aj h;try refine ah ?_
       refine aA ((yu k (Printer.mk vo) x75 p85 bY _ UL).wk (.same (.same (.same (.same .nil))))) ?_;obtain⟨e116,h⟩:=aQ h;try refine ah ?_
       refine gF (f:=aI) jw pW ([aeG]:List Str) oO .exact av av fM (by first|exact e116|(simp only [List.length_cons,List.length_nil];exact e116)) (fun axG PY ajS le atD aAS=> ?_);have atE:HF [] _ PY:=⟨le,fun i _ _=>atD i⟩;try simp only [AH.aK,AH.aL,AH.aM,AH.aN]at le
       have n125:=ne_next (show xg<PY.next by first|omega|(simp only [AH.aK,AH.aL,AH.aM,AH.aN];omega));have aCg:=aW (show xg<PY.next by first|omega|(simp only [AH.aK,AH.aL,AH.aM,AH.aN];omega));have n127:=ne_next (show fV<PY.next by first|omega|(simp only [AH.aK,AH.aL,AH.aM,AH.aN];omega));have aCh:=aW (show fV<PY.next by first|omega|(simp only [AH.aK,AH.aL,AH.aM,AH.aN];omega));have n129:=ne_next (show H.next<PY.next by first|omega|(simp only [AH.aK,AH.aL,AH.aM,AH.aN];omega));have aCi:=aW (show H.next<PY.next by first|omega|(simp only [AH.aK,AH.aL,AH.aM,AH.aN];omega));try refine ah ?_
       refine hK _ _ ?_;exact ih xg fV bY vo fC iE gX gH gY iF iG (pW++[aeG]) sj Bb Bc (IntKind.wrap .i64 (qK+1)) axG _ _ _ _ (by repeat (first|exact f0|refine Fr.upd (by decide) ?_|refine Fr.via Dr (by decide) ?_)) (by repeat (first|exact hf0|refine HF.new ?_|refine HF.fP ?_|refine HF.used ?_|refine HF.put (by first|(right;omega)|(left;simp only [List.mem_cons,true_or,or_true])) ?_|refine HF.via atE (by first|exact fun i hi=>absurd hi List.not_mem_nil|(intro i hi;simp only [List.mem_cons,List.not_mem_nil,or_false]at hi⊢;first|exact .inl hi|omega)) ?_)) av bS bS bS fM _ h _ q0
    ·obtain rfl:=ak h;try refine ah ?_
     exact q0 _ oO _ _ rfl aJ (by repeat (first|exact hf0|refine HF.new ?_|refine HF.fP ?_|refine HF.used ?_|refine HF.put (by first|(right;omega)|(left;simp only [List.mem_cons,true_or,or_true])) ?_)) av
theorem ab1 (k:Nat): ∀(p_0:Printer) (bZ:Int) (fD:Operator) (bY:Bool) (r:Str) (h:GD k p_0 bZ fD bY=some r),aF Tryz.prog 101 [(.agg (Printer.cells p_0)),(.int .i64 bZ),(.agg (Operator.cells fD)),(.bool bY)] (.str r):=by
  match k with
  |0=>intro p_0 bZ fD bY r h;rw [GD]at h;cases h
  |k+1=>
    intro p_0 bZ fD bY r h;refine aF.aP (bg.mem (.cons (.agg _ (Printer.pu _)) (.cons (.int _ _) (.cons (.agg _ (Operator.pu _)) (.cons (.bool _) .nil))))) (aG asB (by simp) (aD ?_)) (.str _);rw [GD]at h;unfold ajJ;obtain⟨e1,h⟩:=aQ h;obtain⟨x2,e3,h⟩:=aj h;rcases au h with⟨e4,h⟩|⟨e4,h⟩
    ·try refine ah ?_
     refine Sn (AH.empty.next+3) ?_;obtain⟨x5,e6,h⟩:=aj h;obtain⟨p8,e7,h⟩:=aj h;try refine ah ?_
     refine PC.mk (Ba e7) ?_;try refine ah ?_
     refine eZ ?_;rcases au h with⟨e9,h⟩|⟨e9,h⟩
     ·obtain⟨nJ,e10,h⟩:=aj h;try refine ah ?_
      refine PC.mk ((yu k p_0 x5 (!(p8.1.text==fD.text)) true _ e10).wk (.same (.same (.same (.same .nil))))) ?_;obtain⟨e12,h⟩:=aQ h;try refine ah ?_
      refine dA (dI e12) ?_;obtain rfl:=ak h;try refine ah ?_
      exact(.pure _ (.str _))
     ·obtain⟨jO,e13,h⟩:=aj h;try refine ah ?_
      refine PC.mk ((yu k p_0 x5 false true _ e13).wk (.same (.same (.same (.same .nil))))) ?_;obtain⟨e15,h⟩:=aQ h;try refine ah ?_
      refine dA (dI e15) ?_;obtain rfl:=ak h;try refine ah ?_
      exact(.pure _ (.str _))
    ·rcases au h with⟨e16,h⟩|⟨e16,h⟩
     ·try refine ah ?_
      refine Sn (AH.empty.next+3) ?_;obtain⟨CK,e18,h⟩:=aj h;obtain⟨rQ,e19,h⟩:=aj h;try refine ah ?_
      refine PC.mk (Ba e19) ?_;try refine ah ?_
      obtain⟨o32,h33,h⟩:=aj h;refine Vy (AH.empty.next+1) (AH.empty.next+3) fD.text fD.fix fD.low fD.high fD.left fD.least fD.most rQ.1.text rQ.1.fix rQ.1.low rQ.1.high rQ.1.left rQ.1.least rQ.1.most rQ.2 _ _ _ (Fr.refl _ _) av bS bS bS _ h33 _ ?_
      ·rintro p34 σ' eo aeI s38;rw [eo]at h;have s39:σ' 3=(.bool bY):=(aeI 3 (by decide)).trans av;have s40:σ' 4=(.ref (AH.empty.next) 0):=(aeI 4 (by decide)).trans av;have s41:σ' 6=(.ref (AH.empty.next+1) 0):=(aeI 6 (by decide)).trans av;have s42:σ' 9=(.ref (AH.empty.next+2) 0):=(aeI 9 (by decide)).trans av;try refine ah ?_
       obtain⟨o59,h60,h⟩:=aj h;refine VA (AH.empty.next+1) fD.text fD.fix fD.low fD.high fD.left fD.least fD.most fD.text _ _ _ (Fr.refl _ _) av bS _ h60 _ ?_
       ·rintro p61 σ' eo aeJ s65;rw [eo]at h;have s66:σ' 3=(.bool bY):=(aeJ 3 (by decide)).trans av;have s67:σ' 4=(.ref (AH.empty.next) 0):=(aeJ 4 (by decide)).trans av;have s68:σ' 9=(.ref (AH.empty.next+2) 0):=(aeJ 9 (by decide)).trans av;have s69:σ' 14=(.bool p34):=(aeJ 14 (by decide)).trans av;try refine ah ?_
        refine eZ ?_;obtain⟨p71,e70,h⟩:=aj h;try refine ah ?_
        refine PC.mk ((yu k p_0 CK p34 bY _ e70).wk (.same (.same (.same (.same .nil))))) ?_;obtain⟨e72,h⟩:=aQ h;try refine ah ?_
        refine dA (dI e72) ?_;obtain rfl:=ak h;try refine ah ?_
        exact(.pure _ (.str _))
     ·try refine ah ?_
      obtain⟨aCj,ai2,h⟩:=aj h;refine I6 k (AH.empty.next) (AH.empty.next+1) bY p_0.e fD.text fD.fix fD.low fD.high fD.left fD.least fD.most ([]:List Str) (IntKind.wrap .i64 ((x2.args.length:Int) -1)) x2.args (x2.args.length:Int) 0 .nil _ _ _ _ (Fr.refl _ _) (HF.refl _ _) av bS bS bS fM _ ai2 _ ?_
      ·rintro aay aCk σ' ai3 eo atF ak7 aq3;rw [eo]at h;have aq4:σ' 6=(.ref (AH.empty.next+1) 0):=(atF 6 (by decide)).trans av;have le:=ak7.1;try simp only [AH.aK,AH.aL,AH.aM,AH.aN]at le
       have aCl:ai3.obj (AH.empty.next+1)=some [(.str fD.text),(.int .i64 fD.fix),(.int .i64 fD.low),(.int .i64 fD.high),(.bool fD.left),(.int .i64 fD.least),(.int .i64 fD.most)]:=(ak7.2 _ bS (by first|exact List.not_mem_nil|(simp only [List.mem_cons,List.not_mem_nil,or_false,not_or];omega))).trans av;have n141:=ne_next (show AH.empty.next+1<ai3.next by first|omega|(simp only [AH.aK,AH.aL,AH.aM,AH.aN];omega));have aCm:=aW (show AH.empty.next+1<ai3.next by first|omega|(simp only [AH.aK,AH.aL,AH.aM,AH.aN];omega));obtain⟨e143,h⟩:=aQ h;try refine ah ?_
       refine dA (dI e143) ?_;obtain⟨aiA,h⟩:=aQ h;try refine ah ?_
       refine dA (dI aiA) ?_;obtain⟨arz,h⟩:=aQ h;obtain⟨aer,h⟩:=aQ h;try refine ah ?_
       refine aA (anS aay (32::(fD.text++([32]:Str))) (by assumption) (by assumption)) ?_;obtain rfl:=ak h;try refine ah ?_
       exact(.pure _ (.str _))
theorem ai1 (k:Nat): ∀(p_0:Printer) (bZ:Int) (r:Str) (h:RG k p_0 bZ=some r),aF Tryz.prog 102 [(.agg (Printer.cells p_0)),(.int .i64 bZ)] (.str r):=by
  match k with
  |0=>intro p_0 bZ r h;rw [RG]at h;cases h
  |k+1=>
    intro p_0 bZ r h;refine aF.aP (bg.mem (.cons (.agg _ (Printer.pu _)) (.cons (.int _ _) .nil))) (aG asC (by simp) (aD ?_)) (.str _);rw [RG]at h;unfold ajK;obtain⟨e1,h⟩:=aQ h;obtain⟨x2,e3,h⟩:=aj h;rcases au h with⟨e4,h⟩|⟨e4,h⟩
    ·obtain⟨e5,h⟩:=aQ h;try refine ah ?_
     refine aA (YN x2.n (by assumption)) ?_;obtain rfl:=ak h;try refine ah ?_
     exact(.pure _ (.str _))
    ·rcases au h with⟨e6,h⟩|⟨e6,h⟩
     ·obtain⟨e7,h⟩:=aQ h;try refine ah ?_
      refine dA (dI e7) ?_;obtain⟨e8,h⟩:=aQ h;try refine ah ?_
      refine dA (dI e8) ?_;obtain rfl:=ak h;try refine ah ?_
      exact(.pure _ (.str _))
     ·rcases au h with⟨e9,h⟩|⟨e9,h⟩
      ·obtain rfl:=ak h;try refine ah ?_
       exact(.pure _ (.str _))
      ·rcases au h with⟨e10,h⟩|⟨e10,h⟩
       ·try refine ah ?_
        refine eZ ?_;obtain⟨e11,h⟩:=aQ h;try refine ah ?_
        refine iH (dI e11) ?_;obtain⟨uY,e12,h⟩:=aj h;try refine ah ?_
        refine PC.mk (tY p_0 x2.args e12) ?_;obtain⟨e14,h⟩:=aQ h;try refine ah ?_
        refine dA (dI e14) ?_;obtain⟨e15,h⟩:=aQ h;try refine ah ?_
        refine dA (dI e15) ?_;obtain rfl:=ak h;try refine ah ?_
        exact(.pure _ (.str _))
       ·rcases au h with⟨e16,h⟩|⟨e16,h⟩
        ·obtain⟨xu,e17,h⟩:=aj h;try refine ah ?_
         refine aA (tY p_0 x2.args e17) ?_;obtain⟨e19,h⟩:=aQ h;try refine ah ?_
         refine dA (dI e19) ?_;obtain⟨e20,h⟩:=aQ h;try refine ah ?_
         refine dA (dI e20) ?_;obtain rfl:=ak h;try refine ah ?_
         exact(.pure _ (.str _))
        ·rcases au h with⟨e21,h⟩|⟨e21,h⟩
         ·obtain⟨Ip,e22,h⟩:=aj h;try refine ah ?_
          refine aA (tY p_0 x2.args e22) ?_;obtain⟨e24,h⟩:=aQ h;try refine ah ?_
          refine dA (dI e24) ?_;obtain⟨e25,h⟩:=aQ h;try refine ah ?_
          refine dA (dI e25) ?_;obtain rfl:=ak h;try refine ah ?_
          exact(.pure _ (.str _))
         ·rcases au h with⟨e26,h⟩|⟨e26,h⟩
          ·try refine ah ?_
           refine eZ ?_;obtain⟨p28,e27,h⟩:=aj h;try refine ah ?_
           refine PC.mk (tY p_0 x2 e27) ?_;obtain⟨e29,h⟩:=aQ h;try refine ah ?_
           refine iH (dI e29) ?_;obtain⟨e30,h⟩:=aQ h;try refine ah ?_
           refine iH (dI e30) ?_;obtain⟨x31,e32,h⟩:=aj h;obtain⟨p34,e33,h⟩:=aj h;try refine ah ?_
           refine PC.mk ((lN k p_0 x31 false _ e33).wk (.same (.same (.same .nil)))) ?_;obtain⟨e35,h⟩:=aQ h;try refine ah ?_
           refine dA (dI e35) ?_;obtain⟨e36,h⟩:=aQ h;try refine ah ?_
           refine dA (dI e36) ?_;obtain rfl:=ak h;try refine ah ?_
           exact(.pure _ (.str _))
          ·rcases au h with⟨e37,h⟩|⟨e37,h⟩
           ·try refine ah ?_
            refine eZ ?_;obtain⟨e38,h⟩:=aQ h;obtain⟨x39,e40,h⟩:=aj h;obtain⟨p42,e41,h⟩:=aj h;try refine ah ?_
            refine PC.mk (tY p_0 x39 e41) ?_;obtain⟨e43,h⟩:=aQ h;try refine ah ?_
            refine iH (dI e43) ?_;obtain⟨e44,h⟩:=aQ h;try refine ah ?_
            refine iH (dI e44) ?_;obtain⟨p46,e45,h⟩:=aj h;try refine ah ?_
            refine PC.mk (tY p_0 x2 e45) ?_;obtain⟨e47,h⟩:=aQ h;try refine ah ?_
            refine dA (dI e47) ?_;obtain⟨e48,h⟩:=aQ h;try refine ah ?_
            refine dA (dI e48) ?_;obtain rfl:=ak h;try refine ah ?_
            exact(.pure _ (.str _))
           ·rcases au h with⟨e49,h⟩|⟨e49,h⟩
            ·try refine ah ?_
             refine eZ ?_;obtain⟨p51,e50,h⟩:=aj h;try refine ah ?_
             refine PC.mk (tY p_0 x2 e50) ?_;obtain⟨e52,h⟩:=aQ h;try refine ah ?_
             refine iH (dI e52) ?_;obtain⟨e53,h⟩:=aQ h;try refine ah ?_
             refine iH (dI e53) ?_;obtain⟨e54,h⟩:=aQ h;obtain⟨x55,e56,h⟩:=aj h;obtain⟨p58,e57,h⟩:=aj h;try refine ah ?_
             refine PC.mk ((lN k p_0 x55 false _ e57).wk (.same (.same (.same .nil)))) ?_;obtain⟨e59,h⟩:=aQ h;try refine ah ?_
             refine dA (dI e59) ?_;obtain⟨e60,h⟩:=aQ h;try refine ah ?_
             refine dA (dI e60) ?_;obtain rfl:=ak h;try refine ah ?_
             exact(.pure _ (.str _))
            ·rcases au h with⟨e61,h⟩|⟨e61,h⟩
             ·try refine ah ?_
              refine eZ ?_;obtain⟨x62,e63,h⟩:=aj h;obtain⟨p65,e64,h⟩:=aj h;try refine ah ?_
              refine PC.mk (tY p_0 x62 e64) ?_;obtain⟨e66,h⟩:=aQ h;try refine ah ?_
              refine iH (dI e66) ?_;obtain⟨e67,h⟩:=aQ h;obtain⟨p69,e68,h⟩:=aj h;try refine ah ?_
              refine PC.mk (tY p_0 (x2.args.drop 1) e68) ?_;obtain⟨e70,h⟩:=aQ h;try refine ah ?_
              refine dA (dI e70) ?_;obtain⟨e71,h⟩:=aQ h;try refine ah ?_
              refine dA (dI e71) ?_;obtain rfl:=ak h;try refine ah ?_
              exact(.pure _ (.str _))
             ·rcases au h with⟨e72,h⟩|⟨e72,h⟩
              ·try refine ah ?_
               refine eZ ?_;obtain⟨Wp,e74,h⟩:=aj h;obtain⟨p76,Qv,h⟩:=aj h;try refine ah ?_
               refine PC.mk ((lN k p_0 Wp false _ Qv).wk (.same (.same (.same .nil)))) ?_;obtain⟨NM,h⟩:=aQ h;try refine ah ?_
               refine iH (dI NM) ?_;obtain⟨Ze,h⟩:=aQ h;try refine ah ?_
               refine iH (dI Ze) ?_;obtain⟨x79,e80,h⟩:=aj h;obtain⟨p82,e81,h⟩:=aj h;try refine ah ?_
               refine PC.mk ((lN k p_0 x79 false _ e81).wk (.same (.same (.same .nil)))) ?_;obtain⟨e83,h⟩:=aQ h;try refine ah ?_
               refine dA (dI e83) ?_;obtain⟨e84,h⟩:=aQ h;try refine ah ?_
               refine dA (dI e84) ?_;obtain rfl:=ak h;try refine ah ?_
               exact(.pure _ (.str _))
              ·rcases au h with⟨e85,h⟩|⟨e85,h⟩
               ·obtain⟨JX,Qw,h⟩:=aj h;try refine ah ?_
                refine aA (ak4 p_0 x2 ([32,124,45,62,32]:Str) Qw) ?_;obtain⟨Qx,h⟩:=aQ h;try refine ah ?_
                refine dA (dI Qx) ?_;obtain⟨Qy,h⟩:=aQ h;try refine ah ?_
                refine dA (dI Qy) ?_;obtain rfl:=ak h;try refine ah ?_
                exact(.pure _ (.str _))
               ·rcases au h with⟨Y5,h⟩|⟨Y5,h⟩
                ·obtain⟨ZY,Qz,h⟩:=aj h;try refine ah ?_
                 refine aA (ak4 p_0 x2 ([32,58,32]:Str) Qz) ?_;obtain⟨QC,h⟩:=aQ h;try refine ah ?_
                 refine dA (dI QC) ?_;obtain⟨e94,h⟩:=aQ h;try refine ah ?_
                 refine dA (dI e94) ?_;obtain rfl:=ak h;try refine ah ?_
                 exact(.pure _ (.str _))
                ·rcases au h with⟨e95,h⟩|⟨e95,h⟩
                 ·try refine ah ?_
                  refine eZ ?_;obtain⟨x96,e97,h⟩:=aj h;obtain⟨p99,e98,h⟩:=aj h;try refine ah ?_
                  refine PC.mk (tY p_0 x96 e98) ?_;obtain⟨e100,h⟩:=aQ h;try refine ah ?_
                  refine iH (dI e100) ?_;obtain⟨Pk,h⟩:=aQ h;try refine ah ?_
                  refine dA (dI Pk) ?_;obtain rfl:=ak h;try refine ah ?_
                  exact(.pure _ (.str _))
                 ·rcases au h with⟨Zf,h⟩|⟨Zf,h⟩
                  ·try refine ah ?_
                   refine eZ ?_;obtain⟨x103,aio,h⟩:=aj h;obtain⟨Fb,La,h⟩:=aj h;try refine ah ?_
                   refine PC.mk ((lN k p_0 x103 false _ La).wk (.same (.same (.same .nil)))) ?_;obtain⟨EW,h⟩:=aQ h;try refine ah ?_
                   refine iH (dI EW) ?_;obtain⟨e108,h⟩:=aQ h;try refine ah ?_
                   refine iH (dI e108) ?_;obtain⟨aiU,UL,h⟩:=aj h;obtain⟨JC,Zg,h⟩:=aj h;try refine ah ?_
                   refine PC.mk ((lN k p_0 aiU false _ Zg).wk (.same (.same (.same .nil)))) ?_;obtain⟨Zh,h⟩:=aQ h;try refine ah ?_
                   refine iH (dI Zh) ?_;obtain⟨axH,h⟩:=aQ h;try refine ah ?_
                   refine iH (dI axH) ?_;obtain⟨x115,e116,h⟩:=aj h;obtain⟨G7,e117,h⟩:=aj h;try refine ah ?_
                   refine PC.mk ((lN k p_0 x115 false _ e117).wk (.same (.same (.same .nil)))) ?_;obtain⟨e119,h⟩:=aQ h;try refine ah ?_
                   refine dA (dI e119) ?_;obtain⟨e120,h⟩:=aQ h;try refine ah ?_
                   refine dA (dI e120) ?_;obtain rfl:=ak h;try refine ah ?_
                   exact(.pure _ (.str _))
                  ·rcases au h with⟨aiw,h⟩|⟨aiw,h⟩
                   ·obtain rfl:=ak h;try refine ah ?_
                    exact(.pure _ (.str _))
                   ·rcases au h with⟨Zi,h⟩|⟨Zi,h⟩
                    ·try refine ah ?_
                     refine eZ ?_;obtain⟨aiV,aqR,h⟩:=aj h;obtain⟨aaz,e125,h⟩:=aj h;try refine ah ?_
                     refine PC.mk ((lN k p_0 aiV false _ e125).wk (.same (.same (.same .nil)))) ?_;obtain⟨e127,h⟩:=aQ h;try refine ah ?_
                     refine iH (dI e127) ?_;obtain⟨e128,h⟩:=aQ h;try refine ah ?_
                     refine iH (dI e128) ?_;obtain⟨aiW,apN,h⟩:=aj h;obtain⟨Vl,axI,h⟩:=aj h;try refine ah ?_
                     refine PC.mk (tY p_0 aiW axI) ?_;obtain⟨ah5,h⟩:=aQ h;try refine ah ?_
                     refine dA (dI ah5) ?_;obtain rfl:=ak h;try refine ah ?_
                     exact(.pure _ (.str _))
                    ·rcases au h with⟨axJ,h⟩|⟨axJ,h⟩
                     ·try refine ah ?_
                      refine eZ ?_;obtain⟨aiX,apO,h⟩:=aj h;obtain⟨K9,e137,h⟩:=aj h;try refine ah ?_
                      refine PC.mk ((lN k p_0 aiX false _ e137).wk (.same (.same (.same .nil)))) ?_;obtain⟨ah6,h⟩:=aQ h;try refine ah ?_
                      refine iH (dI ah6) ?_;obtain⟨Zj,h⟩:=aQ h;try refine ah ?_
                      refine iH (dI Zj) ?_;obtain⟨aiY,aCn,h⟩:=aj h;obtain⟨UU,e143,h⟩:=aj h;try refine ah ?_
                      refine PC.mk (tY p_0 aiY e143) ?_;obtain⟨arz,h⟩:=aQ h;try refine ah ?_
                      refine dA (dI arz) ?_;obtain rfl:=ak h;try refine ah ?_
                      exact(.pure _ (.str _))
                     ·rcases au h with⟨aer,h⟩|⟨aer,h⟩
                      ·try refine ah ?_
                       refine eZ ?_;obtain⟨aiZ,aq5,h⟩:=aj h;obtain⟨VD,axK,h⟩:=aj h;try refine ah ?_
                       refine PC.mk (tY p_0 aiZ axK) ?_;obtain⟨ah7,h⟩:=aQ h;try refine ah ?_
                       refine iH (dI ah7) ?_;obtain⟨e152,h⟩:=aQ h;try refine ah ?_
                       refine iH (dI e152) ?_;obtain⟨x153,e154,h⟩:=aj h;obtain⟨Pm,axL,h⟩:=aj h;try refine ah ?_
                       refine PC.mk ((lN k p_0 x153 false _ axL).wk (.same (.same (.same .nil)))) ?_;obtain⟨axM,h⟩:=aQ h;try refine ah ?_
                       refine dA (dI axM) ?_;obtain⟨aiB,h⟩:=aQ h;try refine ah ?_
                       refine dA (dI aiB) ?_;obtain rfl:=ak h;try refine ah ?_
                       exact(.pure _ (.str _))
                      ·rcases au h with⟨axN,h⟩|⟨axN,h⟩
                       ·try refine ah ?_
                        refine eZ ?_;obtain⟨x160,aq6,h⟩:=aj h;obtain⟨VE,aia,h⟩:=aj h;try refine ah ?_
                        refine PC.mk (tY p_0 x160 aia) ?_;obtain⟨apQ,h⟩:=aQ h;try refine ah ?_
                        refine iH (dI apQ) ?_;obtain⟨e165,h⟩:=aQ h;try refine ah ?_
                        refine iH (dI e165) ?_;obtain⟨ai0,e167,h⟩:=aj h;obtain⟨aeH,e168,h⟩:=aj h;try refine ah ?_
                        refine PC.mk ((lN k p_0 ai0 false _ e168).wk (.same (.same (.same .nil)))) ?_;obtain⟨e170,h⟩:=aQ h;try refine ah ?_
                        refine dA (dI e170) ?_;obtain⟨aiC,h⟩:=aQ h;try refine ah ?_
                        refine dA (dI aiC) ?_;obtain rfl:=ak h;try refine ah ?_
                        exact(.pure _ (.str _))
                       ·obtain⟨arx,axO,h⟩:=aj h;try refine ah ?_
                        refine aA (tY p_0 x2 axO) ?_;obtain rfl:=ak h;try refine ah ?_
                        exact(.pure _ (.str _))
end
theorem ai4 {k:Nat} {p_0:Printer} {bZ:Int} {jY:Bool} {r:Str} (h:l8 k p_0 bZ jY=some r):aF Tryz.prog 59 [(.agg (Printer.cells p_0)),(.int .i64 bZ),(.bool jY)] (.str r):=lN k p_0 bZ jY r h
def FL (k:Nat) (aH:List Nd):Option (Str×Int):=
  Option.bind (nC k aH) fun p2=>cond (p2 !=0) (some ([],p2)) (Option.bind (l8 k (Printer.mk aH) (IntKind.wrap .i64 ((aH.length:Int) -1)) false) fun p5=>cond (decide ((p5.length:Int)>20000)) (some ([],2)) (some (p5,0)))
theorem VF {k:Nat} {aH:List Nd} {c0:Ck} {r:Str×Int} (h:FL k aH=some r):aF Tryz.prog 17 [(.aB (aH.map Nd.cells) c0)] (.dJ [(.str r.1),(.int .i64 r.2)]):=by
  refine aF.lw (.aB .nil) (aF.aP (bg.mem (.cons (aV Nd.pu _) .nil)) (aG an3 (by simp) (aD ?_)) (.dJ _ (bg.mem (.cons (.str _) (.cons (.int _ _) .nil)))));unfold FL at h;unfold an2;obtain⟨p2,e1,h⟩:=aj h;try refine ah ?_
  refine aA (xZ e1) ?_;rcases au h with⟨e3,h⟩|⟨e3,h⟩
  ·obtain rfl:=ak h;try refine ah ?_
   exact(cZ (.cons (.pure _ (.str _)) (.cons (.pure _ (.int _ _)) .nil)))
  ·obtain⟨p5,e4,h⟩:=aj h;try refine ah ?_
   refine aA (ai4 e4) ?_;rcases au h with⟨e6,h⟩|⟨e6,h⟩
   ·obtain rfl:=ak h;try refine ah ?_
    exact(cZ (.cons (.pure _ (.str _)) (.cons (.pure _ (.int _ _)) .nil)))
   ·obtain rfl:=ak h;try refine ah ?_
    exact(cZ (.cons (.pure _ (.str _)) (.cons (.pure _ (.int _ _)) .nil)))
def FM (k:Nat) (aH:List Nd):Option ((List Str)×Int):=
  Option.bind (nC k aH) fun p2=>cond (p2 !=0) (some ([],p2)) (Option.bind (qJ k aH) fun p5=>some (p5,0))
theorem RI {k:Nat} {aH:List Nd} {c0:Ck} {r:(List Str)×Int} (h:FM k aH=some r):aF Tryz.prog 32 [(.aB (aH.map Nd.cells) c0)] (.dJ [(.aB (r.1.map aI) .unk),(.int .i64 r.2)]):=by
  refine aF.lw (.aB .nil) (aF.aP (bg.mem (.cons (aV Nd.pu _) .nil)) (aG ok32 (by simp) (aD ?_)) (.dJ _ (bg.mem (.cons (aV bn _) (.cons (.int _ _) .nil)))));unfold FM at h;unfold aoi;obtain⟨p2,e1,h⟩:=aj h;try refine ah ?_
  refine aA (xZ e1) ?_;rcases au h with⟨e3,h⟩|⟨e3,h⟩
  ·obtain rfl:=ak h;try refine ah ?_
   exact(cZ (.cons (d9 bn [] _) (.cons (.pure _ (.int _ _)) .nil)))
  ·obtain⟨p5,e4,h⟩:=aj h;try refine ah ?_
   refine aA (aar k aH e4) ?_;obtain rfl:=ak h;try refine ah ?_
   exact(cZ (.cons (d9 bn _ _) (.cons (.pure _ (.int _ _)) .nil)))
def VG (k:Nat):Option Bool:=
  Option.bind (aeC k) fun p2=>Option.bind (FL k p2) fun p4=>Option.bind (FM k p2) fun p8=>Option.bind (FB k ([92,99,100,111,116]:Str)) fun iT=>Option.bind (iM k [(Nd.mk 20 0 [] [] [])]) fun l6=>cond (p4.2==0) (cond (p4.1==([97,32,43,32,98,32,42,32,99]:Str)) (cond (p8.2==0) (Option.bind (pO k p8.1 [([97]:Str),([98]:Str),([99]:Str)]) fun NJ=>cond NJ (cond (iT.2==0) (cond (iT.1.high==14) (cond iT.1.left (cond (l6.2==30) (some (l6.1==0)) (some false)) (some false)) (some false)) (some false)) (some false)) (some false)) (some false)) (some false)
theorem agw {k:Nat} {r:Bool} (h:VG k=some r):aF Tryz.prog 12 [] (.bool r):=by
  refine aF.aP (bg.mem .nil) (aG anX (by simp) (aD ?_)) (.bool _);unfold VG at h;unfold anW;obtain⟨p2,e1,h⟩:=aj h;try refine ah ?_
  refine aA (ac2 e1) ?_;obtain⟨p4,e3,h⟩:=aj h;try refine ah ?_
  refine aA (VF e3) ?_;try refine ah ?_
  refine aA (ac2 e1) ?_;obtain⟨p8,e7,h⟩:=aj h;try refine ah ?_
  refine aA (RI e7) ?_;obtain⟨iT,e9,h⟩:=aj h;try refine ah ?_
  refine aA (Vw e9) ?_;obtain⟨l6,e11,h⟩:=aj h;try refine ah ?_
  refine aA (Kg e11) ?_;rcases au h with⟨e13,h⟩|⟨e13,h⟩
  ·rcases au h with⟨e14,h⟩|⟨e14,h⟩
   ·rcases au h with⟨e15,h⟩|⟨e15,h⟩
    ·obtain⟨NJ,e16,h⟩:=aj h;try refine ah ?_
     refine aA (Bz e16) ?_;rcases au h with⟨e18,h⟩|⟨e18,h⟩
     ·rcases au h with⟨e19,h⟩|⟨e19,h⟩
      ·rcases au h with⟨e20,h⟩|⟨e20,h⟩
       ·rcases au h with⟨e21,h⟩|⟨e21,h⟩
        ·rcases au h with⟨e22,h⟩|⟨e22,h⟩
         ·obtain rfl:=ak h;try refine ah ?_
          exact(.pure _ (.bool _))
         ·obtain rfl:=ak h;try refine ah ?_
          exact(.pure _ (.bool _))
        ·obtain rfl:=ak h;try refine ah ?_
         exact(.pure _ (.bool _))
       ·obtain rfl:=ak h;try refine ah ?_
        exact(.pure _ (.bool _))
      ·obtain rfl:=ak h;try refine ah ?_
       exact(.pure _ (.bool _))
     ·obtain rfl:=ak h;try refine ah ?_
      exact(.pure _ (.bool _))
    ·obtain rfl:=ak h;try refine ah ?_
     exact(.pure _ (.bool _))
   ·obtain rfl:=ak h;try refine ah ?_
    exact(.pure _ (.bool _))
  ·obtain rfl:=ak h;try refine ah ?_
   exact(.pure _ (.bool _))
end Go.VL
end
section
namespace Go.VL
open Go.Proofs
theorem aeK:VG 100=some true:=by kernel_rfl
theorem amE:aF Tryz.prog 12 [] (.bool true):=agw aeK
end Go.VL
end
section
namespace Go.VL
open Tm
section
variable {e:List Nd} (hV:Valid e) (hL:nk e) (hF:rz e)
include hV hL hF
theorem aeL: ∃(vs:List (Nat×List Str)),(∀(α:Type) (step:α->Int->List Str->Option α) (k:Nat) (a:α),1000<=k->vk step e k (IntKind.wrap .i64 ((e.length:Int) -1)) [] a=yO step vs a)/\
    (∀v∈vs,Ev (fun k=>sH k e (v.1:Int)) v.2/\v.2.length<=10000/\v.1<e.length)/\(∀i<e.length,∃q,(i,q)∈vs)/\vs.length=e.length/\0<e.length:=by
  obtain⟨t,he⟩:=hV.tree;have hlen:=hF.len;have hs:=t.size_pos;have hsz:e.length=t.size:=by rw [he,bT]
  have hS:Seg e 0 t:=by rw [he];exact Seg.whole t
  have hw:IntKind.wrap .i64 ((e.length:Int) -1)=((0+t.size -1:Nat):Int):=by rw [wrap64 (by omega) (by omega)];omega
  refine⟨vis 0 [] t,fun α step k a hk=> ?_,?_,fun i hi=>Vt t 0 [] i (Nat.zero_le _) (by omega),by rw [Vu,hsz],by omega⟩
  · rw [hw];exact PI hF step t 0 [] k a hS (by omega) (by simp only [List.length_nil];omega)
  · refine L9 he hL hF t 0 [] hS ?_ (by simp only [List.length_nil];omega);rw [Nat.zero_add];exact ac3 he hL hF
theorem agx: ∃r,Ev (fun k=>qJ k e) r/\Ev (fun k=>tT k e) r/\r.length<=1000:=by
  obtain⟨vs,hw,hvs,hall,hlen,hpos⟩:=aeL hV hL hF;have hl:=hF.len;have hfr:=PO (e:=e) vs [] (fun v hv=>(hvs v hv).2) (by simp only [List.length_nil];omega);rw [List.nil_append]at hfr;have hfl:(vs.filterMap (jX e)).length<=170:=Nat.le_trans (List.length_filterMap_le _ _) (by omega);have h1:Ev (fun k=>qJ k e) (Dq (vs.filterMap (jX e))):=by
    unfold qJ;refine Ev.bind (x:=vs.filterMap (jX e)) ?_ (Ev.mZ (by omega) Ev.some);obtain⟨K,hK⟩:=hfr;exact⟨max K 1000,fun k hk=>(hw _ _ k _ (by omega)).trans (hK k (by omega))⟩
  have hsl: ∀(l a:List Str),(l.foldl (fun a s=>tQ s a) a).length<=a.length+l.length:=by
    intro l
    induction l with
    |nil=>intro a;exact Nat.le_refl _
    |cons s l ih=>
      intro a;rw [List.foldl_cons];have:=ih (tQ s a);have:=aam s a;simp only [List.length_cons];omega
  refine⟨_,h1,?_,by have:=hsl (vs.filterMap (jX e)) [];unfold Dq;simp only [List.length_nil]at this;omega⟩
  have key: ∀i,i<=e.length-> ∀out:List Str,out.length<=i->out.Pairwise (·< ·)-> ∃r,Ev (fun k=>jf k e out (i:Int)) r/\r.Pairwise (·< ·)/\ ∀y,y∈r↔y∈out\/ ∃v∈vs,i<=v.1/\jX e v=some y:=by
    refine down (fun out _ ha=> ?_) fun i hi ih out ho ha=> ?_
    · refine⟨out,Ev.succ ?_,ha,fun y=>⟨.inl,?_⟩⟩
      · simp only [jf];exact Ev.cF (jP _) (Ev.some' rfl)
      · rintro(h|⟨v,hv,h1,_⟩)
        · exact h
        · have:=(hvs v hv).2.2;omega
    · obtain⟨q,hq⟩:=hall i hi;have hu: ∀v∈vs,v.1=i->v.2=q:=by
        intro v hv hvi;have h2:=(hvs v hv).1;rw [hvi]at h2;exact h2.uniq (hvs _ hq).1
      have hfi:jX e (i,q)=if(fB e[i]&& !decide (e[i].text∈q))=true then some e[i].text else none:=by unfold jX;simp only [bI hi]
      have hstep: ∀(out':List Str),(∀y,y∈out'↔y∈out\/jX e (i,q)=some y)-> ∀y,(y∈out'\/ ∃v∈vs,i+1<=v.1/\jX e v=some y)↔(y∈out\/ ∃v∈vs,i<=v.1/\jX e v=some y):=by
        intro out' h y;rw [h y];constructor
        · rintro((h2|h2)|⟨v,hv,h2,h3⟩)
          · exact .inl h2
          · exact .inr ⟨_,hq,Nat.le_refl _,h2⟩
          · exact .inr ⟨v,hv,by omega,h3⟩
        · rintro(h2|⟨v,hv,h2,h3⟩)
          · exact .inl (.inl h2)
          · by_cases h4:v.1=i
            · obtain⟨v1,v2⟩:=v;have h5:=hu _ hv h4;simp only at h4 h5;subst h4 h5;exact .inl (.inr h3)
            · exact .inr ⟨v,hv,by omega,h3⟩
      have hne: ∀r,Ev (fun k=>jf k e out ((i+1:Nat):Int)) r->jX e (i,q)=none->True:=fun _ _ _=>trivial;have hnm:=Rn (hF.ok i _ (bI hi)) (by have:=(hL.nd i _ (bI hi)).1;omega);have hbd:=(hvs _ hq).1;by_cases h2:fB e[i]=true
      · by_cases h3:e[i].text∈q
        · obtain⟨r,h4,h5,h6⟩:=ih out (by omega) ha;refine⟨r,Ev.succ ?_,h5,fun y=>(h6 y).trans (hstep out (fun y=> ?_) y)⟩
          · simp only [jf,Int.toNat_natCast,bI hi,Option.bind_some,nn,if_true,lC hi,cond_true,eO hi (show e.length<=1099511627776 by omega)];refine Ev.bind hnm (Ev.cT h2 (Ev.bind hbd (Ev.bind (qm _ _ (show q.length<=1099511627776 by have:=(hvs _ hq).2.1;simp only at this;omega)) (Ev.cT (decide_eq_true h3) h4))))
          · rw [hfi,h2];simp [h3]
        · obtain⟨r,h4,h5,h6⟩:=ih (tQ e[i].text out) (by have:=aam e[i].text out;omega) (PK ha);refine⟨r,Ev.succ ?_,h5,fun y=>(h6 y).trans (hstep _ (fun y=> ?_) y)⟩
          · simp only [jf,Int.toNat_natCast,bI hi,Option.bind_some,nn,if_true,lC hi,cond_true,eO hi (show e.length<=1099511627776 by omega)];refine Ev.bind hnm (Ev.cT h2 (Ev.bind hbd (Ev.bind (qm _ _ (show q.length<=1099511627776 by have:=(hvs _ hq).2.1;simp only at this;omega)) (Ev.cF (decide_eq_false h3) (Ev.bind (aiO _ _ (by omega)) h4)))))
          · rw [JF,hfi,h2];simp [h3];constructor
            · rintro(rfl|h)
              · exact .inr rfl
              · exact .inl h
            · rintro(h|rfl)
              · exact .inr h
              · exact .inl rfl
      · have h2:fB e[i]=false:=by simpa using h2
        obtain⟨r,h4,h5,h6⟩:=ih out (by omega) ha;refine⟨r,Ev.succ ?_,h5,fun y=>(h6 y).trans (hstep out (fun y=> ?_) y)⟩
        · simp only [jf,Int.toNat_natCast,bI hi,Option.bind_some,nn,if_true,lC hi,cond_true,eO hi (show e.length<=1099511627776 by omega)];exact Ev.bind hnm (Ev.cF h2 h4)
        · rw [hfi,h2];simp
  obtain⟨r,h4,h5,h6⟩:=key 0 (Nat.zero_le _) [] (Nat.le_refl _) List.Pairwise.nil;have:Dq (vs.filterMap (jX e))=r:=by
    refine aak (aaj _) h5 fun y=> ?_;rw [PN,h6 y,List.mem_filterMap];simp only [List.not_mem_nil,false_or,Nat.zero_le,true_and]
  rw [this];unfold tT;exact Ev.bind h4 Ev.some
end
theorem ai5 {e:List Nd} (h:PS e=true) (hV:Valid e):rz e:=⟨(Ro h).1,hV.ok,fun i n hn=>⟨((Ro h).2 i n hn).1,((Ro h).2 i n hn).2.1⟩⟩
def VH (e:List Nd) (i:Nat):Int×Int:=match xG (i:Int) (e.drop (i+1)) (i+1)with
  |some q=>((q.1:Int),(q.2:Int))
  |none=>(-1,0)
def JI (e:List Nd):List (Int×Int):=(List.range e.length).map (VH e)
theorem XW {e:List Nd} (hL:nk e) {i:Nat} (hi:i<e.length):Ev (fun k=>pJ k e (i:Int)) (VH e i):=by
  have hlen:=hL.len;unfold pJ VH;rw [eO hi (by omega)];refine Ev.bind (IZ hL (i:Int) (i+1) (by omega)) ?_;cases xG (i:Int) (e.drop (i+1)) (i+1)with
  |some q=>obtain⟨k',j'⟩:=q;simp only [bP];exact Ev.some
  |none=>simp only [bL];exact Ev.some
theorem amF {ts:List Tm} {e:List Nd} (he:e=bq 0 ts) (hL:nk e):bH 0 ts=JI e:=by
  have hl:(bH 0 ts).length=e.length:=by rw [sG,<-bX 0 ts,<-he]
  refine List.ext_getElem? fun i=> ?_;by_cases hi:i<e.length
  · obtain⟨P,j,hU⟩: ∃P j,(bH 0 ts)[i]? =some (P,j):=⟨_,_,bI (by omega)⟩;rw [hU,(yh he hL hi hU).uniq (XW hL hi)];simp [JI,hi]
  · rw [List.getElem?_eq_none (by omega),List.getElem?_eq_none (by simp [JI];omega)]
def I7 (e:List Nd):Int×Int:=if e.length=0 then(0,1)else if 160<e.length then(0,2)else match jT [] e with
  | .inr p=>p
  | .inl acc=>match tK e (JI e) e.length 0 with
    |some j=>((j:Int),30)
    |none=>if acc[e.length -1]?.getD 0=0 then(0,0)else(((e.length -1:Nat):Int),15)
theorem Oc {e:List Nd} (hL:nk e):Ev (fun k=>iM k e) (I7 e):=by
  have hlen:=hL.len;unfold I7;by_cases h0:e.length=0
  · rw [if_pos h0];unfold iM;simp only [qC,Option.bind_some,h0];refine Ev.bind (wW _ (by simp)) ?_;exact Ev.cT (by rfl) Ev.some
  rw [if_neg h0];by_cases h1:160<e.length
  · rw [if_pos h1];unfold iM;have a:((e.length:Int)==0)=false:=by rw [beq_eq_false_iff_ne];omega
    have b:decide ((e.length:Int)>160)=true:=decide_eq_true (by omega);simp only [qC,Option.bind_some,a,b];refine Ev.bind (wW _ (by simp)) ?_;exact Ev.cT (by rfl) Ev.some
  rw [if_neg h1];have a:((e.length:Int)==0)=false:=by rw [beq_eq_false_iff_ne];omega
  have b:decide ((e.length:Int)>160)=false:=decide_eq_false (by omega);have st:=Dx hL 0 (Nat.zero_le _) [] (pR.zero e);rw [List.drop_zero]at st;have Fg: ∀r,Ev (fun k=>Option.bind (jd k e ([]:List Int) (e.length:Int) ((0:Nat):Int)) (fun o=>Sum.elim (fun p40=>Option.bind (wm k e) fun p51=>Option.bind (je k e p51.1 p51.2 (e.length:Int) ((0:Nat):Int)) (fun o=>Sum.elim (fun p58=>if 0<=(IntKind.wrap .i64 ((e.length:Int) -1))then Option.bind (p40[(IntKind.wrap .i64 ((e.length:Int) -1)).toNat]?) fun Z4=>cond (Z4 !=0) (some ((IntKind.wrap .i64 ((e.length:Int) -1)),15)) (some (0,0))else none) (fun p74=>some (p74.1,p74.2)) o)) (fun xw=>some (xw.1,xw.2)) o)) r->Ev (fun k=>iM k e) r:=by
    intro r hr;unfold iM;simp only [qC,Option.bind_some,a,b];refine Ev.bind (wW _ (by simp)) ?_;exact Ev.cF (by rfl) hr
  cases hs:jT [] e with
  |inr p=>
    rw [hs]at st;refine Fg _ (Ev.bind st ?_);simp only [bP];exact Ev.some
  |inl acc=>
    rw [hs]at st;obtain⟨ts,he,hacc,hpar⟩:=LW hL hs;have lt:=Dy he hL 0 (Nat.zero_le _);have hU:=amF he hL;rw [hU]at hpar;rw [hU,Nat.sub_zero]at lt;simp only;cases hl:tK e (JI e) e.length 0 with
    |some j=>
      rw [hl]at lt;refine Fg _ (Ev.bind st ?_);simp only [bL];refine Ev.bind hpar (Ev.bind lt ?_);simp only [bP];exact Ev.some
    |none=>
      rw [hl]at lt;have hal:acc.length=e.length:=by rw [hacc,tJ,he,bX]
      have h4:acc[e.length -1]? =some acc[e.length -1]:=bI (by omega);have hw:IntKind.wrap .i64 ((e.length:Int) -1)=((e.length -1:Nat):Int):=by rw [wrap64 (by omega) (by omega)];omega
      refine Fg _ (Ev.bind st ?_);simp only [bL];refine Ev.bind hpar (Ev.bind lt ?_);simp only [bL,hw,Int.toNat_natCast,h4,Option.bind_some,nn,if_true,Option.getD_some];by_cases hb:acc[e.length -1]=0
      · exact Ev.cF (by rw [hb];rfl) (Ev.some' (by simp [hb]))
      · exact Ev.cT (by rw [bne_iff_ne];exact hb) (Ev.some' (by simp [hb]))
theorem agy {n:Nd} {p:Nat} {s:Str} (h:s∈rF n p):s∈n.names:=by
  unfold rF at h;cases hr:fZ n (p:Int)with
  |none=>rw [hr]at h;cases h
  |some r=>
    rw [hr]at h;simp only [Option.getD_some]at h;unfold fZ at hr;cases hj:jv n.kind with
    |none=>rw [hj]at hr;cases hr
    |some b=>
      rw [hj,Option.bind_some]at hr;cases b with
      |true=>
        rw [cond_true]at hr;cases e:((p:Int)==IntKind.wrap .i64 ((n.args.length:Int) -1))<;>rw [e]at hr<;>cases hr
        · cases h
        · exact h
      |false=>
        rw [cond_false]at hr;cases e0:(n.kind==23)<;>rw [e0]at hr
        · cases hr;cases h
        · rw [cond_true]at hr;by_cases h1:1<=n.names.length
          · rw [if_pos h1,if_pos h1]at hr;cases e:((p:Int)==IntKind.wrap .i64 ((n.args.length:Int) -1))<;>rw [e]at hr
            · cases e2:(n.n==1)<;>rw [e2]at hr<;>cases hr
              · exact List.mem_of_mem_drop h
              · exact h
            · cases hr;exact List.mem_of_mem_take h
          · rw [if_neg h1,if_neg h1]at hr;cases e:((p:Int)==IntKind.wrap .i64 ((n.args.length:Int) -1))<;>rw [e]at hr
            · cases e2:(n.n==1)<;>rw [e2]at hr<;>cases hr;exact h
            · cases hr
section
variable {e:List Nd}
mutual
theorem WM: ∀(t:Tm) (b:Nat) (bd:List Str),Seg e b t-> ∀v∈vis b bd t,∀s∈v.2,s∈bd\/ ∃n∈e,s∈n.names
  | .mk x cs,b,bd,hS,v,hv,s,hs=>by
    rw [I4,List.mem_cons]at hv;rcases hv with rfl|hv
    · exact .inl hs
    · exact RJ cs x [] b bd hS v hv s hs
theorem RJ: ∀(cs:List Tm) (x:Nd) (l:List Tm) (b:Nat) (bd:List Str),Seg e b (.mk x (l++cs))-> ∀v∈wI (b+sizes l) bd (nd x b (l++cs)) l.length cs,∀s∈v.2,s∈bd\/ ∃n∈e,s∈n.names
  |[],x,l,b,bd,hS,v,hv,s,hs=>by rw [wI]at hv;cases hv
  |c::cs,x,l,b,bd,hS,v,hv,s,hs=>by
    have hn:=hS.node;rw [ze,List.mem_append]at hv;rcases hv with hv|hv
    · rcases WM c _ _ hS.kid v hv s hs with h|h
      · rcases List.mem_append.1 h with h|h
        · exact .inl h
        · exact .inr ⟨_,List.mem_of_getElem? hn,agy h⟩
      · exact .inr h
    · have e1:l++c::cs=(l++[c])++cs:=by simp
      have e2:l.length+1=(l++[c]).length:=by simp
      have e3:b+sizes l+c.size=b+sizes (l++[c]):=by rw [dG,nD];omega
      rw [e1,e2,e3]at hv;rw [e1]at hS;exact RJ cs x (l++[c]) b bd hS v hv s hs
end
end
structure Vis (e:List Nd) (vs:List (Nat×List Str)):Prop where
  walk: ∀(α:Type) (step:α->Int->List Str->Option α) (k:Nat) (a:α),1000<=k->vk step e k (IntKind.wrap .i64 ((e.length:Int) -1)) [] a=yO step vs a
  bd: ∀v∈vs,Ev (fun k=>sH k e (v.1:Int)) v.2/\v.2.length<=10000/\v.1<e.length
  all: ∀i<e.length,∃q,(i,q)∈vs
  nm: ∀v∈vs,∀s∈v.2,∃n∈e,s∈n.names
  len:vs.length=e.length
  pos:0<e.length
theorem amG {e:List Nd} {vs:List (Nat×List Str)} (h:Vis e vs) (hF:rz e):Ev (fun k=>qJ k e) (Dq (vs.filterMap (jX e))):=by
  have hl:=hF.len;have hlen:=h.len;have hfr:=PO (e:=e) vs [] (fun v hv=>(h.bd v hv).2) (by simp only [List.length_nil];omega);rw [List.nil_append]at hfr;have hfl:(vs.filterMap (jX e)).length<=170:=Nat.le_trans (List.length_filterMap_le _ _) (by omega);unfold qJ;refine Ev.bind (x:=vs.filterMap (jX e)) ?_ (Ev.mZ (by omega) Ev.some);obtain⟨K,hK⟩:=hfr;exact⟨max K 1000,fun k hk=>(h.walk _ _ k _ (by omega)).trans (hK k (by omega))⟩
theorem agz {s:Str} (h:rName s=true):bang s=none:=by
  have hc: ∀c∈s,c≠33:=by
    intro c hc e;subst e;unfold rName bName at h;simp only [Bool.and_eq_true,List.all_eq_true]at h;have:=h.1.1.1.2 33 hc;revert this;decide
  clear h
  induction s with
  |nil=>rfl
  |cons c s ih=>
    rw [bang,if_neg (hc c List.mem_cons_self),ih fun c' h'=>hc c' (List.mem_cons_of_mem _ h')];rfl
theorem Mi {s:Str} (h:rName s=true):iX s=true:=by unfold iX;rw [agz h];exact h
theorem amH {s:Str} (h:rName s=true):oh s=false:=by
  unfold rName at h;simp only [Bool.and_eq_true,Bool.not_eq_true']at h;exact h.1.2
theorem VI {s:Str} (h:rName s=true):(dn eG s).2=false:=by
  cases ho:(dn eG s).2 with
  |false=>rfl
  |true=>have:=LY s ho;rw [Mi h]at this;cases this
theorem Hw {n:Nd} (h:fB n=true):(n.kind=2/\oh n.text=false)\/(n.kind=3/\(dn eG n.text).2=false):=by
  unfold fB at h;simp only [Bool.or_eq_true,Bool.and_eq_true,decide_eq_true_eq,Bool.not_eq_true']at h;exact h
theorem VJ (a b:List Int) (hl:a.length<=1099511627776):Ev (fun k=>xQ k a b) (decide (a=b)):=by
  unfold xQ;by_cases hab:a.length=b.length
  · refine Ev.cF (by simp [hab]) ?_;have key:Ev (fun k=>jL k a b ((0:Nat):Int)) (if a.drop 0=b.drop 0 then .inl ()else .inr false):=by
      refine lK (len:=a.length) (p:=fun i=>Ev (fun k=>jL k a b (i:Int)) (if a.drop i=b.drop i then .inl ()else .inr false)) ?_ fun i hi ih=> ?_
      · refine Ev.succ ?_;simp only [jL];refine Ev.cF (jP _) (Ev.some' ?_);simp [hab]
      · have hi':i<b.length:=hab▸hi;refine Ev.succ ?_;simp only [jL,Int.toNat_natCast,bI hi,bI hi',Option.bind_some,nn,if_true,lC hi,cond_true,eO hi hl];have e1:List.drop i a=a[i]::List.drop (i+1) a:=List.drop_eq_getElem_cons hi;have e2:List.drop i b=b[i]::List.drop (i+1) b:=List.drop_eq_getElem_cons hi';by_cases h:a[i]=b[i]
        · refine Ev.cF (by rw [bne_eq_false_iff_eq];exact h) (ih.to ?_);rw [e1,e2];simp only [h,List.cons.injEq,true_and]
        · refine Ev.cT (by rw [bne_iff_ne];exact h) (Ev.some' ?_);rw [if_neg];intro e;rw [e1,e2,List.cons.injEq]at e;exact h e.1
    refine Ev.bind key ?_;by_cases h:a=b
    · subst h;simp only [if_true,bL,decide_true];exact Ev.some
    · simp only [List.drop_zero,h,if_false,bP,decide_false];exact Ev.some
  · refine Ev.cT (by simp;omega) (Ev.some' ?_);exact(decide_eq_false fun e=>hab (by rw [e])).symm
theorem XY (x y:Nd) (h1:x.names.length<=1000000) (h2:x.args.length<=1000000):Ev (fun k=>Ac k x y) (decide (x=y)):=by
  unfold Ac;obtain⟨k1,n1,t1,m1,a1⟩:=x;obtain⟨k2,n2,t2,m2,a2⟩:=y;simp only at h1 h2;simp only [Nd.mk.injEq];by_cases e1:k1=k2
  · refine Ev.cT (by rw [beq_iff_eq];exact e1) ?_;by_cases e2:n1=n2
    · refine Ev.cT (by rw [beq_iff_eq];exact e2) ?_;by_cases e3:t1=t2
      · refine Ev.cT (by rw [beq_iff_eq];exact e3) (Ev.bind (Gn m1 m2 (by omega)) ?_);by_cases e4:m1=m2
        · refine Ev.cT (decide_eq_true e4) (Ev.bind (VJ a1 a2 (by omega)) (Ev.some' ?_));simp [e1,e2,e3,e4]
        · exact Ev.cF (decide_eq_false e4) (Ev.some' (by simp [e4]))
      · exact Ev.cF (by rw [beq_eq_false_iff_ne];exact e3) (Ev.some' (by simp [e3]))
    · exact Ev.cF (by rw [beq_eq_false_iff_ne];exact e2) (Ev.some' (by simp [e2]))
  · exact Ev.cF (by rw [beq_eq_false_iff_ne];exact e1) (Ev.some' (by simp [e1]))
theorem Kr {a b:List Nd} (hL:nk a):Ev (fun k=>wM k a b) (decide (a=b)):=by
  have hl:=hL.len;unfold wM;by_cases hab:a.length=b.length
  · refine Ev.cF (by simp [hab]) ?_;have key:Ev (fun k=>kJ k a b ((0:Nat):Int)) (if a.drop 0=b.drop 0 then .inl ()else .inr false):=by
      refine lK (len:=a.length) (p:=fun i=>Ev (fun k=>kJ k a b (i:Int)) (if a.drop i=b.drop i then .inl ()else .inr false)) ?_ fun i hi ih=> ?_
      · refine Ev.succ ?_;simp only [kJ];refine Ev.cF (jP _) (Ev.some' ?_);simp [hab]
      · have hi':i<b.length:=hab▸hi;refine Ev.succ ?_;obtain⟨_,h2,h3⟩:=hL.nd i _ (bI hi);simp only [kJ,Int.toNat_natCast,bI hi,bI hi',Option.bind_some,nn,if_true,lC hi,cond_true,eO hi (show a.length<=1099511627776 by omega)];have e1:List.drop i a=a[i]::List.drop (i+1) a:=List.drop_eq_getElem_cons hi;have e2:List.drop i b=b[i]::List.drop (i+1) b:=List.drop_eq_getElem_cons hi';refine Ev.bind (XY _ _ h2 h3) ?_;by_cases h:a[i]=b[i]
        · refine Ev.cT (decide_eq_true h) (ih.to ?_);rw [e1,e2];simp only [h,List.cons.injEq,true_and]
        · refine Ev.cF (decide_eq_false h) (Ev.some' ?_);rw [if_neg];intro e;rw [e1,e2,List.cons.injEq]at e;exact h e.1
    refine Ev.bind key ?_;by_cases h:a=b
    · subst h;simp only [if_true,bL,decide_true];exact Ev.some
    · simp only [List.drop_zero,h,if_false,bP,decide_false];exact Ev.some
  · refine Ev.cT (by simp;omega) (Ev.some' ?_);exact(decide_eq_false fun e=>hab (by rw [e])).symm
theorem aaA {α:Type} [DecidableEq α]: ∀{l m:List α},l.Nodup->(∀x∈l,x∈m)->l.length<=m.length
  |[],m,_,_=>Nat.zero_le _
  |x::l,m,hd,hs=>by
    have hx:=hs x List.mem_cons_self;obtain⟨h1,h2⟩:=List.nodup_cons.1 hd;have ih:=aaA (l:=l) (m:=m.erase x) h2 fun y hy=>by
      have hne:y≠x:=fun e=>h1 (e▸hy);exact(List.mem_erase_of_ne hne).2 (hs y (List.mem_cons_of_mem _ hy))
    have hl:=List.length_erase_of_mem hx;have:=List.length_pos_of_mem hx;simp only [List.length_cons];omega
end Go.VL
end
section
namespace Go.VL
def dval (s:Str):Nat:=s.foldl (fun a c=>a*10+(c.toNat -48)) 0
theorem Em {d:Nat} (h:d<10):(UInt8.ofNat (48+d)).toNat=48+d:=by
  rw [UInt8.toNat_ofNat'];omega
theorem PZ: ∀(m u:Nat),u<=m->dval (Lib.decDigits u)=u
  |0,u,h=>by
    have:u=0:=by omega
    subst this;rw [Lib.decDigits,dif_pos (by omega)];simp only [dval,List.foldl_cons,List.foldl_nil,Em (show 0<10 by omega)]
  |m+1,u,h=>by
    rw [Lib.decDigits];split
    · rename_i h1;simp only [dval,List.foldl_cons,List.foldl_nil,Em h1];omega
    · have:=PZ m (u/10) (by omega);unfold dval at this⊢;rw [List.foldl_append,this];simp only [List.foldl_cons,List.foldl_nil,Em (show u% 10<10 by omega)];omega
theorem amI {u v:Nat} (h:Lib.decDigits u=Lib.decDigits v):u=v:=by
  rw [<-PZ u u (Nat.le_refl _),<-PZ v v (Nat.le_refl _),h]
theorem aaB (u:Nat):Lib.itoa (u:Int)=Lib.decDigits u:=by unfold Lib.itoa;rw [if_neg (by omega)];simp
def bN (n:Nat):Str:=Li (n:Int)
theorem Bd (n:Nat):bN n=98::95::Lib.decDigits n:=by unfold bN Li;rw [aaB]
theorem agC {u v:Nat} (h:bN u=bN v):u=v:=by
  rw [Bd,Bd]at h;exact amI (List.cons.inj (List.cons.inj h).2).2
theorem aaC: ∀(m u:Nat),u<=m-> ∀c∈Lib.decDigits u,48<=c.toNat/\c.toNat<=57
  |0,u,h,c,hc=>by
    rw [Lib.decDigits,dif_pos (by omega)]at hc;rw [List.mem_singleton.1 hc,Em (by omega)];omega
  |m+1,u,h,c,hc=>by
    rw [Lib.decDigits]at hc;split at hc
    · rename_i h1;rw [List.mem_singleton.1 hc,Em h1];omega
    · rcases List.mem_append.1 hc with hc|hc
      · exact aaC m (u/10) (by omega) c hc
      · rw [List.mem_singleton.1 hc,Em (by omega)];omega
theorem GH: ∀(k u:Nat),u<10^(k+1)->(Lib.decDigits u).length<=k+1
  |0,u,h=>by rw [Lib.decDigits,dif_pos (by simpa using h)];simp
  |k+1,u,h=>by
    rw [Lib.decDigits];split
    · simp
    · have:=GH k (u/10) (by rw [Nat.pow_succ]at h;omega);simp;omega
theorem agD {n:Nat} (h:n<10000):(bN n).length<=6:=by
  rw [Bd];have:=GH 3 n (by simpa using h);simp;omega
def cnt (left:List Str) (c:Nat):Nat:=((List.range c).filter fun j=>decide (bN (j+1)∈left)).length
theorem BQ (left:List Str) (c:Nat):cnt left (c+1)=cnt left c+if bN (c+1)∈left then 1 else 0:=by
  unfold cnt;rw [List.range_succ,List.filter_append,List.length_append];by_cases h:bN (c+1)∈left<;>simp [h]
theorem RL (left:List Str) (c:Nat):cnt left c<=left.length:=by
  unfold cnt;have hn:(((List.range c).filter fun j=>decide (bN (j+1)∈left)).map fun j=>bN (j+1)).Nodup:=by
    refine List.Pairwise.map _ ?_ (List.Pairwise.filter _ List.nodup_range);intro a b hab h;exact hab (by have:=agC h;omega)
  have:=aaA hn (m:=left) (fun x hx=>by
    obtain⟨j,hj,rfl⟩:=List.mem_map.1 hx;simpa using (List.mem_filter.1 hj).2)
  rwa [List.length_map]at this
def CY (left:List Str):Nat->Nat->Nat
  |0,c=>c+1
  |f+1,c=>if bN (c+1)∈left then CY left f (c+1)else c+1
def tZ (left:List Str) (c:Nat):Nat:=CY left left.length c
theorem aaD (left:List Str): ∀(f c:Nat),left.length<=f+cnt left c->bN (CY left f c)∉left/\c<CY left f c/\CY left f c+cnt left c=c+1+cnt left (CY left f c)
  |0,c,h=>by
    have h1:=BQ left c;have h2:=RL left (c+1);have hn:bN (c+1)∉left:=fun hm=>by rw [if_pos hm]at h1;omega
    rw [if_neg hn]at h1;refine⟨hn,by unfold CY;omega,?_⟩;unfold CY;omega
  |f+1,c,h=>by
    have h1:=BQ left c;rw [CY];by_cases hm:bN (c+1)∈left
    · rw [if_pos hm]at h1⊢;obtain⟨a,b,d⟩:=aaD left f (c+1) (by omega);exact⟨a,by omega,by omega⟩
    · rw [if_neg hm]at h1⊢;exact⟨hm,by omega,by omega⟩
theorem CZ (left:List Str) (c:Nat):bN (tZ left c)∉left/\c<tZ left c/\tZ left c+cnt left c=c+1+cnt left (tZ left c):=aaD left _ c (by omega)
def lu (left:List Str):Nat->Nat->List Str×Nat
  |0,c=>([],c)
  |m+1,c=>(bN (tZ left c)::(lu left m (tZ left c)).1,(lu left m (tZ left c)).2)
theorem WQ (left:List Str): ∀m c,(lu left m c).1.length=m
  |0,_=>rfl
  |m+1,c=>by rw [lu,List.length_cons,WQ left m]
theorem WT (left:List Str): ∀m c,(lu left m c).2+cnt left c=c+m+cnt left (lu left m c).2
  |0,c=>by simp only [lu];omega
  |m+1,c=>by
    have h1:=(CZ left c).2.2;have h2:=WT left m (tZ left c);simp only [lu];omega
theorem FN (left:List Str): ∀m c,c<=(lu left m c).2
  |0,c=>Nat.le_refl _
  |m+1,c=>by
    have h1:=(CZ left c).2.1;have h2:=FN left m (tZ left c);simp only [lu];omega
theorem Mj (left:List Str): ∀m c s,s∈(lu left m c).1->s∉left/\ ∃n,s=bN n/\c<n/\n<=(lu left m c).2
  |0,c,s,h=>by cases h
  |m+1,c,s,h=>by
    obtain⟨h1,h2,_⟩:=CZ left c;have h3:=FN left m (tZ left c);simp only [lu]at h⊢;rcases List.mem_cons.1 h with rfl|h
    · exact⟨h1,_,rfl,h2,h3⟩
    · obtain⟨a,n,rfl,b,d⟩:=Mj left m (tZ left c) s h;exact⟨a,n,rfl,by omega,d⟩
theorem Od (left:List Str): ∀m c,(lu left m c).1.Nodup
  |0,c=>List.Pairwise.nil
  |m+1,c=>by
    simp only [lu];refine List.nodup_cons.2 ⟨fun h=> ?_,Od left m _⟩;obtain⟨_,n,e,h1,_⟩:=Mj left m _ _ h;have:=agC e;omega
theorem agE:(List.range 10).all (fun d=>decide ((([48,49,50,51,52,53,54,55,56,57]:Str).take (d+1)).drop d=[UInt8.ofNat (48+d)]))=true:=by kernel_rfl
theorem aaE: ∀(m u:Nat) (s:Str),u<m->u<=10000->s.length+u<=1000000->Ev (fun k=>vS k (u:Int) s) (Lib.decDigits u++s):=by
  intro m
  induction m with
  |zero=>intro u s h1;omega
  |succ m ih=>
    intro u s h1 h2 h3;have e0:((u:Int)).tmod 10=((u% 10:Nat):Int):=by rw [Int.tmod_eq_emod_of_nonneg (by omega)];omega
    have e1:((u:Int)).tdiv 10=((u/10:Nat):Int):=by rw [Int.tdiv_eq_ediv_of_nonneg (by omega)];omega
    have e2:QL ((u% 10:Nat):Int)=some ((u% 10:Nat):Int):=by
      unfold QL;rw [decide_eq_false (by omega)];rfl
    have e3:IntKind.wrap .i64 (((u% 10:Nat):Int)+1)=((u% 10+1:Nat):Int):=by rw [wrap64 (by omega) (by omega)];omega
    have e4:IntKind.wrap .i64 ((u/10:Nat):Int)=((u/10:Nat):Int):=wrap64 (by omega) (by omega);have hd:=of_decide_eq_true (List.all_eq_true.1 agE (u% 10) (List.mem_range.2 (by omega)));refine Ev.succ ?_;simp only [vS,e0,e1,e2,e3,e4,Option.bind_some,Int.toNat_natCast,hd];refine Ev.mZ (by omega) (Ev.mZ (by simp;omega) ?_);rw [Lib.decDigits];by_cases hu:u<10
    · rw [dif_pos hu];refine Ev.cT (by rw [beq_iff_eq];omega) (Ev.some' ?_);rw [show u% 10=u by omega]
    · rw [dif_neg hu];refine Ev.cF (by rw [beq_eq_false_iff_ne];omega) ?_;refine(ih (u/10) _ (by omega) (by omega) (by simp;omega)).to ?_;simp
theorem agF {n:Int} (h:0<=n/\n<=10000):Ev (fun k=>ER k n) (Lib.itoa n):=by
  obtain⟨u,rfl⟩: ∃u:Nat,n=(u:Int):=⟨n.toNat,by omega⟩;unfold ER Lib.itoa;refine Ev.bind (aaE (u+1) u [] (by omega) (by omega) (by simp;omega)) (Ev.cF (decide_eq_false (by omega)) (Ev.some' ?_));rw [if_neg (by omega)];simp
end Go.VL
end
section
set_option maxHeartbeats 4000000
namespace Go.VL
open Go.Proofs
def oP:Nat->(List Nd)->Int->Int->Int->Int->Str->(List Str)->(List Int)->Int->Option ((Int×Int×Str×(List Str)×(List Int)))
  |0,_,_,_,_,_,_,_,_,_=>none
  |k+1,aH,kE,gT,GI,GJ,GK,GL,Cq,xC=>
    if 0<=gT then Option.bind (aH[gT.toNat]?) fun x10=>cond (decide (xC<(x10.args.length:Int))) (if 0<=xC then Option.bind (x10.args[xC.toNat]?) fun x14=>if(Cq.length+1)*8<=1099511627776 then oP k aH kE gT GI GJ GK GL (Cq++[(IntKind.wrap .i64 (x14 -kE))]) (IntKind.wrap .i64 (xC+1))else none else none) (some ((GI,GJ,GK,GL,Cq)))else none
def RN:List Nat:=[9]++List.range' 28 25
theorem ab2: ∀(k:Nat) (Bf:Nat) (aH:List Nd) (kE:Int) (gT:Int) (GI:Int) (GJ:Int) (GK:Str) (GL:List Str) (Cq:List Int) (xC:Int) (uf:Ck) (kZ:Ck) (aC σ:Nat->PV) (H0 H:AH) (f0:Fr RN aC σ) (hf0:HF [Bf] H0 H) (sl:σ 0=(.aB (aH.map Nd.cells) .unk)/\σ 5=(.int .i64 kE)/\σ 7=(.int .i64 gT)/\σ 8=(.ref (Bf) 0)/\σ 9=(.int .i64 xC)/\H.obj Bf=some [(.int .i64 GI),(.int .i64 GJ),(.str GK),(.aB (GL.map aI) .unk),(.aB (Cq.map aY) uf)]) (M6:Bf<H.next) (aaF:bA H uf) (Gz:bA H kZ) (su:kQ uf kZ) (o:(Int×Int×Str×(List Str)×(List Int))) (h:oP k aH kE gT GI GJ GK GL Cq xC=some o) (Q:Post) (q0: ∀(p:Int×Int×Str×(List Str)×(List Int)) (c4:Ck) (σ':Nat->PV) (H':AH),o=p->Fr RN aC σ'->HF [Bf] H0 H'->(H'.obj Bf=some [(.int .i64 p.1),(.int .i64 p.2.1),(.str p.2.2.1),(.aB (p.2.2.2.1.map aI) .unk),(.aB (p.2.2.2.2.map aY) c4)])->bA H' kZ->Q (.exit 2) σ' H'),W Tryz.prog (.loop TJ) Q σ H:=by
  intro k
  induction k with
  |zero=>intro Bf aH kE gT GI GJ GK GL Cq xC uf kZ aC σ H0 H f0 hf0 sl M6 aaF Gz su o h Q q0;simp only [oP,reduceCtorEq]at h
  |succ k ih=>
    intro Bf aH kE gT GI GJ GK GL Cq xC uf kZ aC σ H0 H f0 hf0 sl M6 aaF Gz su o h Q q0;obtain⟨s0,s5,s7,s8,s9,ayn⟩:=sl;have ayo:=ne_next M6;have ayp:=aW M6;have hle0:=hf0.1;unfold oP at h;refine aU (fun K hK=>aD ?_);unfold TJ;obtain⟨e9,h⟩:=aQ h;obtain⟨x10,e11,h⟩:=aj h;rcases au h with⟨e12,h⟩|⟨e12,h⟩
    ·try refine ah ?_
     refine eZ ?_;obtain⟨e13,h⟩:=aQ h;obtain⟨x14,e15,h⟩:=aj h;obtain⟨e20,h⟩:=aQ h;try refine ah ?_
     refine gF (f:=aY) Ig Cq ([(IntKind.wrap .i64 (x14 -kE))]:List Int) uf .exact av av fM (by first|exact e20|(simp only [List.length_cons,List.length_nil];exact e20)) (fun c16 H17 an5 le axP axQ=> ?_);have axR:HF [] _ H17:=⟨le,fun i _ _=>axP i⟩;try simp only [AH.aK,AH.aL,AH.aM,AH.aN]at le
     obtain⟨an8,axS⟩:=axQ kZ fM su;have n25:=ne_next (show Bf<H17.next by first|omega|(simp only [AH.aK,AH.aL,AH.aM,AH.aN];omega));have m26:=aW (show Bf<H17.next by first|omega|(simp only [AH.aK,AH.aL,AH.aM,AH.aN];omega));try refine ah ?_
     refine hK _ _ ?_;exact ih Bf aH kE gT GI GJ GK GL (Cq++[(IntKind.wrap .i64 (x14 -kE))]) (IntKind.wrap .i64 (xC+1)) c16 kZ _ _ _ _ aJ (by repeat (first|exact hf0|refine HF.new ?_|refine HF.fP ?_|refine HF.used ?_|refine HF.put (by first|(right;omega)|(left;simp only [List.mem_cons,true_or,or_true])) ?_|refine HF.via axR (by first|exact fun i hi=>absurd hi List.not_mem_nil|(intro i hi;simp only [List.mem_cons,List.not_mem_nil,or_false]at hi⊢;first|exact .inl hi|omega)) ?_)) av bS fM fM axS _ h _ q0
    ·obtain rfl:=ak h;try refine ah ?_
     exact q0 _ uf _ _ rfl aJ (by repeat (first|exact hf0|refine HF.new ?_|refine HF.fP ?_|refine HF.used ?_|refine HF.put (by first|(right;omega)|(left;simp only [List.mem_cons,true_or,or_true])) ?_)) av fM
def qL:Nat->(List Nd)->Int->Int->(List Nd)->Int->Option (List Nd)
  |0,_,_,_,_,_=>none
  |k+1,aH,fH,kE,Bg,gT=>
    cond (decide (gT<=fH)) (if 0<=gT then Option.bind (aH[gT.toNat]?) fun x5=>Option.bind (kH x5.names) fun p8=>Option.bind (oP k aH kE gT x5.kind x5.n x5.text p8 ([]:List Int) 0) (fun p29=>if(Bg.length+1)*80<=1099511627776 then qL k aH fH kE (Bg++[(Nd.mk p29.1 p29.2.1 p29.2.2.1 p29.2.2.2.1 p29.2.2.2.2)]) (IntKind.wrap .i64 (gT+1))else none)else none) (some (Bg))
def RO:List Nat:=[6,7,8,9]++List.range' 14 43
theorem ab3: ∀(k:Nat) (aH:List Nd) (fH:Int) (kE:Int) (Bg:List Nd) (gT:Int) (qM:Ck) (aC σ:Nat->PV) (H0 H:AH) (f0:Fr RO aC σ) (hf0:HF [] H0 H) (sl:σ 0=(.aB (aH.map Nd.cells) .unk)/\σ 1=(.int .i64 fH)/\σ 5=(.int .i64 kE)/\σ 6=(.aB (Bg.map Nd.cells) qM)/\σ 7=(.int .i64 gT)) (aaG:bA H qM) (o:List Nd) (h:qL k aH fH kE Bg gT=some o) (Q:Post) (q0: ∀(p:List Nd) (c0:Ck) (σ':Nat->PV) (H':AH),o=p->Fr RO aC σ'->HF [] H0 H'->(σ' 6=(.aB (p.map Nd.cells) c0))->Q (.exit 0) σ' H'),W Tryz.prog (.loop TK) Q σ H:=by
  intro k
  induction k with
  |zero=>intro aH fH kE Bg gT qM aC σ H0 H f0 hf0 sl aaG o h Q q0;simp only [qL,reduceCtorEq]at h
  |succ k ih=>
    intro aH fH kE Bg gT qM aC σ H0 H f0 hf0 sl aaG o h Q q0;obtain⟨s0,s1,s5,s6,s7⟩:=sl;have hle0:=hf0.1;unfold qL at h;refine aU (fun K hK=>aD ?_);unfold TK;rcases au h with⟨e3,h⟩|⟨e3,h⟩
    ·obtain⟨e4,h⟩:=aQ h;obtain⟨x5,e6,h⟩:=aj h;obtain⟨p8,e7,h⟩:=aj h;try refine ah ?_
     refine aA (z8 e7) ?_;try refine ah ?_
     obtain⟨o27,h28,h⟩:=aj h;refine ab2 k (H.next) aH kE gT x5.kind x5.n x5.text p8 ([]:List Int) 0 .nil qM _ _ _ _ (Fr.refl _ _) (HF.refl _ _) av bS fM fM kQ.nil _ h28 _ ?_
     ·rintro p29 c33 σ' H32 eo GZ arA g34 aol;rw [eo]at h;have s36:σ' 0=(.aB (aH.map Nd.cells) .unk):=(GZ 0 (by decide)).trans av;have s37:σ' 1=(.int .i64 fH):=(GZ 1 (by decide)).trans av;have s38:σ' 5=(.int .i64 kE):=(GZ 5 (by decide)).trans av;have s39:σ' 6=(.aB (Bg.map Nd.cells) qM):=(GZ 6 (by decide)).trans av;have s40:σ' 7=(.int .i64 gT):=(GZ 7 (by decide)).trans av;have s41:σ' 8=(.ref (H.next) 0):=(GZ 8 (by decide)).trans av;have le:=arA.1;try simp only [AH.aK,AH.aL,AH.aM,AH.aN]at le
      have n43:=ne_next (show H.next<H32.next by first|omega|(simp only [AH.aK,AH.aL,AH.aM,AH.aN];omega));have m44:=aW (show H.next<H32.next by first|omega|(simp only [AH.aK,AH.aL,AH.aM,AH.aN];omega));obtain⟨e49,h⟩:=aQ h;try refine ah ?_
      refine gF (f:=Nd.cells) Nd.row Bg ([(Nd.mk p29.1 p29.2.1 p29.2.2.1 p29.2.2.2.1 p29.2.2.2.2)]:List Nd) qM .exact av av fM (by first|exact e49|(simp only [List.length_cons,List.length_nil];exact e49)) (fun c45 H46 ahQ le aiL axd=> ?_);have Vj:HF [] _ H46:=⟨le,fun i _ _=>aiL i⟩;try simp only [AH.aK,AH.aL,AH.aM,AH.aN]at le
      have n52:=ne_next (show H.next<H46.next by first|omega|(simp only [AH.aK,AH.aL,AH.aM,AH.aN];omega));have m53:=aW (show H.next<H46.next by first|omega|(simp only [AH.aK,AH.aL,AH.aM,AH.aN];omega));try refine ah ?_
      refine hK _ _ ?_;exact ih aH fH kE (Bg++[(Nd.mk p29.1 p29.2.1 p29.2.2.1 p29.2.2.2.1 p29.2.2.2.2)]) (IntKind.wrap .i64 (gT+1)) c45 _ _ _ _ (by repeat (first|exact f0|refine Fr.upd (by decide) ?_|refine Fr.via GZ (by decide) ?_)) (by repeat (first|exact hf0|refine HF.new ?_|refine HF.fP ?_|refine HF.used ?_|refine HF.put (by first|(right;omega)|(left;simp only [List.mem_cons,true_or,or_true])) ?_|refine HF.via arA (by first|exact fun i hi=>absurd hi List.not_mem_nil|(intro i hi;simp only [List.mem_cons,List.not_mem_nil,or_false]at hi⊢;first|exact .inl hi|omega)) ?_|refine HF.via Vj (by first|exact fun i hi=>absurd hi List.not_mem_nil|(intro i hi;simp only [List.mem_cons,List.not_mem_nil,or_false]at hi⊢;first|exact .inl hi|omega)) ?_)) av fM _ h _ q0
    ·obtain rfl:=ak h;try refine ah ?_
     exact q0 _ qM _ _ rfl aJ (by repeat (first|exact hf0|refine HF.new ?_|refine HF.fP ?_|refine HF.used ?_|refine HF.put (by first|(right;omega)|(left;simp only [List.mem_cons,true_or,or_true])) ?_)) av
def Ml (k:Nat) (aH:List Nd) (fH:Int):Option (List Nd):=
  Option.bind (uF k aH fH) fun p2=>Option.bind (qL k aH fH p2 ([]:List Nd) p2) (fun p56=>some p56)
theorem ai6 {k:Nat} {aH:List Nd} {fH:Int} {c0:Ck} {r:List Nd} (h:Ml k aH fH=some r):aF Tryz.prog 62 [(.aB (aH.map Nd.cells) c0),(.int .i64 fH)] (.aB (r.map Nd.cells) .unk):=by
  refine aF.lw (.aB (.same .nil)) (aF.aP (bg.mem (.cons (aV Nd.pu _) (.cons (.int _ _) .nil))) (aG avS (by simp) (aD ?_)) (aV Nd.pu _));unfold Ml at h;unfold aoJ;obtain⟨p2,e1,h⟩:=aj h;try refine ah ?_
  refine aA (K7 e1) ?_;try refine ah ?_
  obtain⟨o54,h55,h⟩:=aj h;refine ab3 k aH fH p2 ([]:List Nd) p2 .nil _ _ _ _ (Fr.refl _ _) (HF.refl _ _) av fM _ h55 _ ?_
  ·rintro p56 c60 σ' H59 eo aCo aez s61;rw [eo]at h;have le:=aez.1;try simp only [AH.aK,AH.aL,AH.aM,AH.aN]at le
   obtain rfl:=ak h;try refine ah ?_
   exact(d9 Nd.pu _ _)
def zh (k:Nat) (aH:List Nd) (bZ:Int):Option (List Nd):=
  Option.bind (ET aH) fun p2=>if 0<=bZ then Option.bind (p2.args[bZ.toNat]?) fun x4=>Option.bind (Ml k aH x4) fun p7=>some p7 else none
theorem ab4 {k:Nat} {aH:List Nd} {bZ:Int} {c0:Ck} {r:List Nd} (h:zh k aH bZ=some r):aF Tryz.prog 22 [(.aB (aH.map Nd.cells) c0),(.int .i64 bZ)] (.aB (r.map Nd.cells) .unk):=by
  refine aF.lw (.aB (.same .nil)) (aF.aP (bg.mem (.cons (aV Nd.pu _) (.cons (.int _ _) .nil))) (aG aoa (by simp) (aD ?_)) (aV Nd.pu _));unfold zh at h;unfold an9;obtain⟨p2,e1,h⟩:=aj h;try refine ah ?_
  refine aA (ZF e1) ?_;obtain⟨e3,h⟩:=aQ h;obtain⟨x4,e5,h⟩:=aj h;obtain⟨p7,e6,h⟩:=aj h;try refine ah ?_
  refine aA (ai6 e6) ?_;obtain rfl:=ak h;try refine ah ?_
  exact(d9 Nd.pu _ _)
def oQ:Nat->(List Str)->(List Str)->Str->Int->Option (Unit⊕Str)
  |0,_,_,_,_=>none
  |k+1,lT,lQ,s_2,gT=>
    cond (decide (gT>=0)) (if 0<=gT then Option.bind (lT[gT.toNat]?) fun x3=>cond (x3==s_2) (Option.bind (lQ[gT.toNat]?) fun x6=>some (.inr (x6))) (oQ k lT lQ s_2 (IntKind.wrap .i64 (gT -1)))else none) (some (.inl ()))
def FP:List Nat:=[6,7]++List.range' 11 14
theorem XZ: ∀(k:Nat) (lT:List Str) (lQ:List Str) (s_2:Str) (gT:Int) (aC σ:Nat->PV) (H:AH) (f0:Fr FP aC σ) (sl:σ 0=(.aB (lT.map aI) .unk)/\σ 1=(.aB (lQ.map aI) .unk)/\σ 2=(.str s_2)/\σ 7=(.int .i64 gT)) (o:Unit⊕Str) (h:oQ k lT lQ s_2 gT=some o) (Q:Post) (q0: ∀(p:Unit) (σ':Nat->PV),o= .inl p->Fr FP aC σ'->Q (.exit 0) σ' H) (q1: ∀(p:Str) (σ':Nat->PV),o= .inr (p)->Fr FP aC σ'->(σ' 6=(.str p))->Q .ret σ' H),W Tryz.prog (.loop OZ) Q σ H:=by
  intro k
  induction k with
  |zero=>intro lT lQ s_2 gT aC σ H f0 sl o h Q q0 q1;simp only [oQ,reduceCtorEq]at h
  |succ k ih=>
    intro lT lQ s_2 gT aC σ H f0 sl o h Q q0 q1;obtain⟨s0,s1,s2,s7⟩:=sl;unfold oQ at h;refine aU (fun K hK=>aD ?_);unfold OZ;rcases au h with⟨e1,h⟩|⟨e1,h⟩
    ·obtain⟨e2,h⟩:=aQ h;obtain⟨x3,e4,h⟩:=aj h;rcases au h with⟨e5,h⟩|⟨e5,h⟩
     ·obtain⟨x6,e7,h⟩:=aj h;obtain rfl:=ak h;try refine ah ?_
      exact q1 _ _ rfl aJ av
     ·try refine ah ?_
      refine hK _ _ ?_;exact ih lT lQ s_2 (IntKind.wrap .i64 (gT -1)) _ _ _ aJ av _ h _ q0 q1
    ·obtain rfl:=ak h;try refine ah ?_
     exact q0 _ _ rfl aJ
def wJ (k:Nat) (lT:List Str) (lQ:List Str) (s_2:Str):Option Str:=
  Option.bind (oQ k lT lQ s_2 (IntKind.wrap .i64 ((lT.length:Int) -1))) (fun o=>Sum.elim (fun iT=>some s_2) (fun zK=>some zK) o)
theorem aeM {k:Nat} {lT:List Str} {lQ:List Str} {s_2:Str} {c0 c1:Ck} {r:Str} (h:wJ k lT lQ s_2=some r):aF Tryz.prog 137 [(.aB (lT.map aI) c0),(.aB (lQ.map aI) c1),(.str s_2)] (.str r):=by
  refine aF.lw (.aB (.aB (.same .nil))) (aF.aP (bg.mem (.cons (aV bn _) (.cons (aV bn _) (.cons (.str _) .nil)))) (aG asW (by simp) (aD ?_)) (.str _));unfold wJ at h;unfold akb;try refine ah ?_
  obtain⟨o8,h9,h⟩:=aj h;refine XZ k lT lQ s_2 (IntKind.wrap .i64 ((lT.length:Int) -1)) _ _ _ (Fr.refl _ _) av _ h9 _ ?_ ?_
  ·rintro iT σ' eo KY;subst eo;rw [bL]at h;have NP:σ' 2=(.str s_2):=(KY 2 (by decide)).trans av;obtain rfl:=ak h;try refine ah ?_
   exact(.pure _ (.str _))
  ·rintro zK σ' eo UC pI;subst eo;rw [bP]at h;obtain rfl:=ak h;try refine ah ?_
   exact(.pure _ (.str _))
def qN:Nat->(List Str)->Str->Int->Option (Unit⊕Int)
  |0,_,_,_=>none
  |k+1,dB,s_1,dV=>
    cond (decide (dV<(dB.length:Int))) (if 0<=dV then Option.bind (dB[dV.toNat]?) fun x3=>cond (x3==s_1) (some (.inr (dV))) (qN k dB s_1 (IntKind.wrap .i64 (dV+1)))else none) (some (.inl ()))
def Hy:List Nat:=List.range' 4 15
theorem aaH: ∀(k:Nat) (dB:List Str) (s_1:Str) (dV:Int) (aC σ:Nat->PV) (H:AH) (f0:Fr Hy aC σ) (sl:σ 0=(.aB (dB.map aI) .unk)/\σ 1=(.str s_1)/\σ 5=(.int .i64 dV)) (o:Unit⊕Int) (h:qN k dB s_1 dV=some o) (Q:Post) (q0: ∀(p:Unit) (σ':Nat->PV),o= .inl p->Fr Hy aC σ'->Q (.exit 0) σ' H) (q1: ∀(p:Int) (σ':Nat->PV),o= .inr (p)->Fr Hy aC σ'->(σ' 4=(.int .i64 p))->Q .ret σ' H),W Tryz.prog (.loop O4) Q σ H:=by
  intro k
  induction k with
  |zero=>intro dB s_1 dV aC σ H f0 sl o h Q q0 q1;simp only [qN,reduceCtorEq]at h
  |succ k ih=>
    intro dB s_1 dV aC σ H f0 sl o h Q q0 q1;obtain⟨s0,s1,s5⟩:=sl;unfold qN at h;refine aU (fun K hK=>aD ?_);unfold O4;rcases au h with⟨e1,h⟩|⟨e1,h⟩
    ·obtain⟨e2,h⟩:=aQ h;obtain⟨x3,e4,h⟩:=aj h;rcases au h with⟨e5,h⟩|⟨e5,h⟩
     ·obtain rfl:=ak h;try refine ah ?_
      exact q1 _ _ rfl aJ av
     ·try refine ah ?_
      refine hK _ _ ?_;exact ih dB s_1 (IntKind.wrap .i64 (dV+1)) _ _ _ aJ av _ h _ q0 q1
    ·obtain rfl:=ak h;try refine ah ?_
     exact q0 _ _ rfl aJ
def I8 (k:Nat) (dB:List Str) (s_1:Str):Option Int:=
  Option.bind (qN k dB s_1 0) (fun o=>Sum.elim (fun p8=>some (-1)) (fun l6=>some l6) o)
theorem agG {k:Nat} {dB:List Str} {s_1:Str} {c0:Ck} {r:Int} (h:I8 k dB s_1=some r):aF Tryz.prog 139 [(.aB (dB.map aI) c0),(.str s_1)] (.int .i64 r):=by
  refine aF.lw (.aB (.same .nil)) (aF.aP (bg.mem (.cons (aV bn _) (.cons (.str _) .nil))) (aG asY (by simp) (aD ?_)) (.int _ _));unfold I8 at h;unfold akd;try refine ah ?_
  obtain⟨o6,h7,h⟩:=aj h;refine aaH k dB s_1 0 _ _ _ (Fr.refl _ _) av _ h7 _ ?_ ?_
  ·rintro p8 σ' eo NC;subst eo;rw [bL]at h;obtain rfl:=ak h;try refine ah ?_
   exact(.pure _ (.int _ _))
  ·rintro l6 σ' eo Jo s16;subst eo;rw [bP]at h;obtain rfl:=ak h;try refine ah ?_
   exact(.pure _ (.int _ _))
end Go.VL
end
section
namespace Go.VL
open Go.Proofs Go.RowKit
def Bh (taken:List Str):Nat->Int->Option (Str×Int)
  |0,_=>none
  |k+1,c=>if 0<=c/\c<=9000 then Option.bind (ER k (c+1)) fun d=>if d.length<=100 then Option.bind (mI k taken ([98,95]++d)) fun b=>cond b (Bh taken k (c+1)) (some ([98,95]++d,c+1))else none else none
theorem ab5 (taken:List Str) (o:Nat): ∀(k:Nat) (c:Int) (s:Str) (c':Int) (σ:Nat->PV) (H:AH) (cl:Ck) (Q:Post),Bh taken k c=some (s,c')->σ 0= .ref o 0->H.obj o=some [.aB (taken.map aI) cl,.int .i64 c]->
    (∀σ',σ' 2= .str s->Q .ret σ' (H.put o [.aB (taken.map aI) cl,.int .i64 c']))->W Tryz.prog (.loop O1) Q σ H:=by
  intro k
  induction k with
  |zero=>intro c s c' σ H cl Q h;cases h
  |succ k ih=>
    intro c s c' σ H cl Q h s0 ho q0;rw [Bh]at h;obtain⟨hc,h⟩:=aQ h;obtain⟨d,hd,h⟩:=aj h;obtain⟨hdl,h⟩:=aQ h;obtain⟨b,hb,h⟩:=aj h;have hw:IntKind.wrap .i64 (c+1)=c+1:=by rw [IntKind.wrap_i64];omega
    have hg:([98,95]:Str).length+d.length<=4611686018427387904:=by simp;omega
    refine aU (fun K hK=>aD ?_);unfold O1;simp -implicitDefEqProofs only [go_sem,dM,s0,ho,hw,Nat.le_refl];refine aA (aif hd) ?_;simp -implicitDefEqProofs only [go_sem,dM,Nat.le_refl];refine dA hg ?_;have Ae:(H.put o [.aB (taken.map aI) cl,.int .i64 (c+1)]).obj o=some [.aB (taken.map aI) cl,.int .i64 (c+1)]:=by
      show(if o=o then _ else _)=_
      rw [if_pos rfl]
    simp -implicitDefEqProofs only [go_sem,dM,s0,Ae,Nat.le_refl];refine aA (zB hb) ?_;rcases au h with⟨e1,h⟩|⟨e1,h⟩
    · subst e1;simp -implicitDefEqProofs only [go_sem,dM,Nat.le_refl];refine hK _ _ (ih (c+1) s c' _ _ cl Q h aR Ae fun σ' h2=> ?_);rw [acL];exact q0 σ' h2
    · subst e1;cases ak h;simp -implicitDefEqProofs only [go_sem,dM,Nat.le_refl];exact q0 _ aR
theorem aeN {taken:List Str} {o:Nat} {k:Nat} {c:Int} {s:Str} {c':Int} {H:AH} {cl:Ck} (h:Bh taken k c=some (s,c')) (ho:H.obj o=some [.aB (taken.map aI) cl,.int .i64 c]):
    bE Tryz.prog 138 [.ref o 0] H fun v H'=>v= .str s/\H'=H.put o [.aB (taken.map aI) cl,.int .i64 c']:=by
  refine aG asX (by simp) (aD ?_);unfold akc;simp -implicitDefEqProofs only [go_sem];refine ab5 taken o k c s c' _ H cl _ h aR ho fun σ' h2=> ?_;simp -implicitDefEqProofs only [go_sem,h2,and_self]
structure ow (H:AH) (l:List Str) (v:PV) (ids:List Nat):Prop where
  len:yA v=some (.int .i64 l.length)
  at_: ∀(i:Nat) s,l[i]? =some s-> ∃id off C,lq 1 v (.int .i64 i)=some (.ref id off)/\id∈ids/\id<H.next/\H.obj id=some C/\C[off]? =some (.str s)
theorem ow.hf {M:List Nat} {H H':AH} {l:List Str} {v:PV} {ids:List Nat} (h:ow H l v ids) (hf:HF M H H') (hd:Dj ids M):ow H' l v ids:=
  ⟨h.len,fun i s e=>let ⟨id,off,C,h1,h2,h3,h4,h5⟩:=h.at_ i s e;⟨id,off,C,h1,h2,Nat.lt_of_lt_of_le h3 hf.1,(hf.2 id h3 (hd id h2)).trans h4,h5⟩⟩
theorem ow.nil {H:AH} {c:Ck} {ids:List Nat}:ow H [] (.aB [] c) ids:=⟨rfl,fun i s e=>by simp at e⟩
theorem iW.cells {H:AH} {n:Nd} {id len cap:Nat} (h:iW H (n,.m id len cap)):len=n.names.length/\n.names.length<=cap/\id<H.next/\ ∃C,H.obj id=some C/\C.length=cap/\ ∀(i:Nat) s,n.names[i]? =some s->C[i]? =some (.str s):=by
  obtain⟨h0,h⟩:=h;have h':aO H aI 1 n.names (.bV id 0 len cap 1) [id]:=h;have hl:=h'.ahP;have hlen:len=n.names.length:=by
    simp only [yA,Option.some.injEq,PV.int.injEq,true_and]at hl;omega
  have h'':=h';rcases h' with⟨e,_⟩|⟨id',cap',junk,e1,e2,e3,e4,e5,e6⟩
  · cases e
  · cases e2;refine⟨hlen,e3,e4,_,e5,?_,fun i s e=> ?_⟩
    · have hfl:((n.names.map aI).flatten).length=n.names.length*1:=mH (f:=aI) (fun _=>rfl) _;rw [List.length_append,hfl,e6];omega
    · obtain⟨id2,C,q1,q2,q3,q4,_⟩:=aO.content h'' e;obtain rfl:id=id2:=by simpa using q1
      rw [e5]at q3;cases q3;have:=q4 0 (.str s) rfl;simpa using this
theorem ow.part {H:AH} {n:Nd} {id len cap:Nat} (h:iW H (n,.m id len cap)) {a b:Nat} (hb:a+b<=n.names.length) (cap':Nat):ow H ((n.names.drop a).take b) (.bV id a b cap' 1) [id]:=by
  obtain⟨h1,h2,h3,C,h4,h5,h6⟩:=h.cells;have hl:((n.names.drop a).take b).length=b:=by rw [List.length_take,List.length_drop];omega
  refine⟨by simp only [yA,hl],fun i s e=>⟨id,a+i,C,?_,List.mem_singleton.2 rfl,h3,h4,?_⟩⟩
  · have:=(List.getElem?_eq_some_iff.1 e).1;rw [hl]at this;simp only [lq];rw [if_pos ⟨by omega,by omega,trivial⟩];simp
  · rw [List.getElem?_take]at e;split at e
    · rw [List.getElem?_drop]at e;exact h6 _ s e
    · cases e
theorem ow.whole {H:AH} {n:Nd} {y:NV} (h:iW H (n,y)):ow H n.names y.pv y.ids:=by
  cases y with
  |p l=>
    obtain⟨h1,h2⟩:l=[]/\n.names=[]:=h;subst h1;rw [h2];exact ow.nil
  |m id len cap=>
    have h1:=h.cells.1;have:=ow.part h (a:=0) (b:=n.names.length) (by omega) cap;rw [List.drop_zero,List.take_length]at this;subst h1;exact this
theorem aaI {H:AH} {n:Nd} {y:NV} {p:Nat} {r:List Str} (hy:iW H (n,y)) (h:fZ n (p:Int)=some r):bE Tryz.prog 121 [.agg (jA (n,y)),.int .i64 p] H fun v H'=>ow H' r v y.ids/\HF [] H H'/\ ∀c,bA H c->bA H' c:=by
  refine aG adN (by simp) (aD ?_);have hnew:HF [] H (H.new (jA (n,y))):=HF.new (HF.refl _ _);have hok: ∀c,bA H c->bA (H.new (jA (n,y))) c:=fun c k=>k.new;have hy':=hy.hf hnew (fun _ _ h=>by cases h);unfold fZ at h;unfold X9;simp -implicitDefEqProofs only [go_sem,dM,jA,Nat.le_refl];obtain⟨o9,h10,h⟩:=aj h;have Ae:(H.new (jA (n,y))).obj H.next=some (jA (n,y)):=by
    show(if H.next=H.next then some _ else _)=_
    rw [if_pos rfl]
  refine EU n.kind _ _ _ (Fr.refl _ _) aR _ h10 _ ?_;rintro nJ σ' eo pG s15;rw [eo]at h;have s16:σ' 2=(.ref H.next 0):=(pG 2 (by decide)).trans aR;have um:σ' 5=(.bool ((p:Int)==(IntKind.wrap .i64 ((n.args.length:Int) -1)))):=(pG 5 (by decide)).trans aR;have jE:σ' 13=(.int .i64 n.kind):=(pG 13 (by decide)).trans aR;clear pG;rcases au h with⟨e19,h⟩|⟨e19,h⟩
  · rcases au h with⟨e20,h⟩|⟨e20,h⟩
    · obtain rfl:=ak h;simp -implicitDefEqProofs only [go_sem,dM,s15,s16,um,jE,e19,e20];exact⟨ow.whole hy',hnew,hok⟩
    · obtain rfl:=ak h;simp -implicitDefEqProofs only [go_sem,dM,s15,s16,um,jE,e19,e20];exact⟨ow.nil,hnew,hok⟩
  · rcases au h with⟨e21,h⟩|⟨e21,h⟩
    · have hm:1<=n.names.length-> ∃id len cap,y= .m id len cap/\len=n.names.length/\n.names.length<=cap:=by
        intro h1;cases y with
        |p l=>have h2:n.names=[]:=hy.2;rw [h2]at h1;simp at h1
        |m id len cap=>exact⟨id,len,cap,rfl,hy.cells.1,hy.cells.2.1⟩
      rcases au h with⟨e22,h⟩|⟨e22,h⟩
      · obtain⟨e23,h⟩:=aQ h;obtain rfl:=ak h;obtain⟨id,len,cap,rfl,rfl,hcap⟩:=hm e23;have hs:pX 1 (.bV id 0 n.names.length cap 1) none (some (.int .i64 1)) none=some (.bV id 0 1 cap 1):=by
          simp only [pX,nI];rw [if_pos (by decide)];simp only [Int.toNat_one];rw [if_pos ⟨Nat.zero_le _,e23,trivial,by omega,by omega⟩];simp
        simp -implicitDefEqProofs only [go_sem,dM,s15,s16,um,jE,e19,e21,e22,NV.pv,hs];refine⟨?_,hnew,hok⟩;have:=ow.part hy' (a:=0) (b:=1) (by omega) cap;rw [List.drop_zero]at this;exact this
      · rcases au h with⟨e24,h⟩|⟨e24,h⟩
        · obtain rfl:=ak h;simp -implicitDefEqProofs only [go_sem,dM,s15,s16,um,jE,e19,e21,e22,e24];exact⟨ow.whole hy',hnew,hok⟩
        · obtain⟨e25,h⟩:=aQ h;obtain rfl:=ak h;obtain⟨id,len,cap,rfl,rfl,hcap⟩:=hm e25;by_cases h1:1<cap
          · have hs:pX 1 (.bV id 0 n.names.length cap 1) (some (.int .i64 1)) none none=some (.bV id 1 (n.names.length -1) (cap -1) 1):=by
              simp only [pX,nI];rw [if_pos (by decide)];simp only [Int.toNat_one];rw [if_pos ⟨e25,Nat.le_refl _,trivial,h1,hcap⟩]
            simp -implicitDefEqProofs only [go_sem,dM,s15,s16,um,jE,e19,e21,e22,e24,NV.pv,hs];refine⟨?_,hnew,hok⟩;have:=ow.part hy' (a:=1) (b:=n.names.length -1) (by omega) (cap -1);rw [List.take_of_length_le (by rw [List.length_drop];omega)]at this;exact this
          · have hl1:n.names.length=1:=by omega
            have hc1:cap=1:=by omega
            subst hc1;have hs:pX 1 (.bV id 0 n.names.length 1 1) (some (.int .i64 1)) none none=some (.aB [] .unk):=by
              rw [hl1];rfl
            simp -implicitDefEqProofs only [go_sem,dM,s15,s16,um,jE,e19,e21,e22,e24,NV.pv,hs];refine⟨?_,hnew,hok⟩;rw [List.drop_of_length_le (by omega)];exact ow.nil
    · obtain rfl:=ak h;simp -implicitDefEqProofs only [go_sem,dM,s15,s16,um,jE,e19,e21];exact⟨ow.nil,hnew,hok⟩
section
variable [Glob] {P:Program} {Q:Post} {σ:Nat->PV} {s:List Fm} {α:Type} {H:AH} {f:α->List PV} {sz:Nat}
theorem agH {d:Option Nat} {b:Nat} {x y:AE} {l:List aS} [hr:qV f sz] (hf: ∀x,mo sz (f x)) (ys:List α) {yv:PV}
    (hx:x.ev σ= .aB [] .exact) (hy:y.ev σ=yv) (hrow:rowOf sz H yv=some (ys.map f)) (hs:0<ys.length) (hb:ys.length*b<=1099511627776)
    (h: ∀(v':PV) (mW:List Nat) (H':AH),aO H' f sz ys v' mW->Nw H [] mW->HF [] H H'->(∀c3,bA H c3->bA H' c3)->WO P l s Q (upd σ d v') H'):
    WO P (⟨d,.n (.app sz b x y),none⟩::l) s Q σ H:=by
  show dz P _ _ σ H
  rw [Ie];simp only [nop,hx,hy];have h0: ¬((ys.map f).length=0):=by rw [List.length_map];omega
  have hx0:rowOf sz H (.aB [] .exact)=some []:=rfl;simp only [xK,hrow,hx0];rw [if_neg h0];split
  · intro cap hcap;simp only [List.length_map,List.length_nil,Nat.zero_add,List.nil_append]at hcap⊢;refine h _ [H.next] _ (.inr ⟨H.next,cap,List.replicate ((cap -ys.length)*sz) .any,rfl,rfl,hcap,Nat.lt_succ_self _,?_,by rw [List.length_replicate]⟩) (fun i hi=> .inr (by rw [List.mem_singleton.1 hi];exact Nat.le_refl _)) (HF.new (HF.refl _ _)) (fun c3 k=>k.new);show(if H.next=H.next then some _ else _)=_
    rw [if_pos rfl]
  · rename_i hno;exact(hno ⟨qX hf ([]:List α),qX hf ys,by simpa using hb⟩).elim
end
theorem ab6 {H:AH} {n:Nd} {y:NV} (hy:iW H (n,y)) (hl:n.names.length<=1000000):bE Tryz.prog 72 [y.pv] H fun v H'=> ∃z:NV,v=z.pv/\iW H' (n,z)/\(∀j∈z.ids,H.next<=j)/\HF [] H H'/\ ∀c,bA H c->bA H' c:=by
  cases y with
  |p l=>
    obtain⟨h1,h2⟩:l=[]/\n.names=[]:=hy;subst h1;have:=NA n hl H;rw [h2]at this;exact this
  |m id len cap=>
    have hy0:=hy;obtain⟨h0,hr⟩:=hy;have hr:aO H aI 1 n.names (.bV id 0 len cap 1) [id]:=hr;have hlen:len=n.names.length:=hy0.cells.1;subst hlen;have hpos:0<n.names.length:=List.length_pos_iff.2 h0;obtain⟨id',cap',junk,e1,e2,e3,e4,e5,e6⟩: ∃id' cap' junk,[id]=[id']/\PV.bV id 0 n.names.length cap 1= .bV id' 0 n.names.length cap' 1/\n.names.length<=cap'/\id'<H.next/\H.obj id'=some ((n.names.map aI).flatten++junk)/\junk.length=(cap' -n.names.length)*1:=by
      rcases hr with⟨e,_⟩|h
      · cases e
      · exact h
    cases e2;have hrow:rowOf 1 H (.bV id 0 n.names.length cap 1)=some (n.names.map aI):=by
      simp only [rowOf,e5];have hfl:((n.names.map aI).flatten).length=n.names.length*1:=mH (f:=aI) (fun _=>rfl) _;rw [if_pos ⟨trivial,by rw [List.length_append,hfl];omega⟩,List.drop_zero];have:=zA (sz:=1) (n.names.map aI) junk (fun cs h=>by obtain⟨s,_,rfl⟩:=List.mem_map.1 h;rfl);rw [List.length_map]at this;rw [this]
    show bE Tryz.prog 72 [.bV id 0 n.names.length cap 1] H _
    refine aG Cn.aph (by simp) (aD ?_);unfold Cn.ahX;simp -implicitDefEqProofs only [go_sem];refine agH (f:=aI) jw n.names aR aR hrow hpos (by omega) (fun v' mW H' g1 g2 g3 g4=> ?_);simp -implicitDefEqProofs only [go_sem];have g1':=g1;rcases g1 with⟨_,h,_⟩|⟨id2,cap2,aAT,rfl,rfl,_⟩
    · exact absurd h h0
    · refine⟨.m id2 n.names.length cap2,rfl,⟨h0,g1'⟩,fun j hj=> ?_,g3,g4⟩;rcases g2 j hj with q|q
      · cases q
      · exact q
end Go.VL
end
section
namespace Go.VL
open Go.Proofs Go.RowKit
set_option maxRecDepth 100000
theorem agI:Enters Tryz.prog 205:=⟨_,Tryz.func205,rfl,by kernel_rfl⟩
theorem ai7:Qk Tryz.prog 205 2 true:=by
  intro l m bx n J Jx W hn hc hY h0;refine callsIn_of_wp Tryz.func205 rfl trivial ?_ rfl;simp only [Tryz.ntmps205,List.size_toArray,List.length_cons,List.length_nil,Nat.reduceAdd,Nat.reduceSub,Array.replicate_succ,Array.replicate_zero,List.push_toArray,List.append_toArray,List.nil_append,List.cons_append];obtain⟨ad0,cap0,hc0⟩:=hc
  gi_wp2
  gi_loopw [3] (fun v3 wr=> ∃k:Nat,v3= .int .i64 ((k:Int) -1)/\k<=n/\J k wr) (fun v3 wr=>(RowKit.intOf v3+1).toNat)
  case atStart=>exact⟨n,rfl,Nat.le_refl _,h0⟩
  case round=>
    obtain⟨k,rfl,hk,hJ⟩:=hrel;cases k with
    |zero=>
      have c1: ¬(0:Int)<=((0:Nat):Int) -1:=by omega
      gi_wp2
      go_end0
      exact⟨⟨_,rfl⟩,.inl hJ⟩
    |succ k=>
      obtain⟨b,o,cap,vs,hb,hkn,hvs,hld,fn,tmps,assign,body,hy,hR⟩:=hY k wr hJ;have e1:((k+1:Nat):Int) -1=(k:Int):=by omega
      rw [e1];have c1:(0:Int)<=(k:Int):=by omega
      have c2:(k:Int)<(n:Int):=by omega
      obtain⟨x0,x1,rfl⟩: ∃x0 x1,vs=#[x0,x1]:=by
        match vs,hvs with
        |⟨[x0,x1]⟩,_=>exact⟨x0,x1,rfl⟩
      have l0:wr.cell? ⟨b,o+k*2,none⟩=some x0:=by simpa using hld 0 x0 rfl
      have l1:wr.cell? ⟨b,o+k*2+1,none⟩=some x1:=by simpa using hld 1 x1 rfl
      have l2:wr.cell? ⟨b,o+(k*2+1),none⟩=some x1:=by rw [<-Nat.add_assoc];exact l1
      clear hld;have hev:elemV true #[x0,x1]=Value.agg #[x0,x1]:=rfl;rw [hev]at hy
      gi_wp2
      refine⟨fun hd=>absurd hd (by simp [Fence.wide]),(Nv hR).mono ?_⟩;rintro e W' (⟨rfl,hJ'⟩|⟨rfl,hJx⟩)
      · gi_wp2
        go_roundw
        case rel=>exact⟨k,rfl,by omega,hJ'⟩
        case measure=>simp [RowKit.intOf]
      · gi_wp2
        refine bodyPost_ret (results_none rfl _ _ _) rfl ?_;exact⟨⟨_,rfl⟩,.inr hJx⟩
end Go.VL
end
section
namespace Go.VL
open Go.Proofs Go.RowKit
theorem WU {α:Type} {f:α->List PV} (hf: ∀x,∀c∈f x,Pu c) (l:List α):Pu (.aB (l.map f) .exact):=by
  have h:=aV hf l;cases h with
  |aB _ _ h1 h2=>exact .aB _ _ h1 (by simp)
theorem agJ (l:List Scope) {c:Ck}:aF Tryz.prog 184 [.aB (l.map Scope.cells) c] (.aB (l.map Scope.cells) .exact):=by
  refine aF.wk (args:=[.aB (l.map Scope.cells) .unk]) ?_ (.aB .nil);refine aF.aP (bg.mem (.cons (aV Scope.pu _) .nil)) (aG ate (by simp) (aD ?_)) (WU Scope.pu l);unfold akv;simp -implicitDefEqProofs only [go_sem,aah Scope.cells 2];first|done|exact .pure _ (WU Scope.pu l)
def kP (l:List (Nd×NV)) (id o:Nat):List Nat:=o::id::(l.map fun x=>x.2.ids).flatten
structure kF (H:AH) (l:List (Nd×NV)) (v:PV) (id o lo:Nat) (left:List Str) (cl:Ck) (c:Int):Prop where
  own:KX H l v id l.length lo
  obj:H.obj o=some [v,.aB (left.map aI) cl,.int .i64 c]
  lt:o<H.next
  ne:o≠id
  nen: ∀(i:Nat) (x:Nd×NV),l[i]? =some x->o∉x.2.ids
theorem M7 {l:List (Nd×NV)} {i:Nat} {x:Nd×NV} (h:l[i]? =some x) {a:Nat} (ha:a∈x.2.ids):a∈(l.map fun x=>x.2.ids).flatten:=
  List.mem_flatten.2 ⟨x.2.ids,List.mem_map.2 ⟨x,List.mem_of_getElem? h,rfl⟩,ha⟩
theorem kF.hf {H H':AH} {l:List (Nd×NV)} {v:PV} {id o lo:Nat} {left:List Str} {cl:Ck} {c:Int} {M:List Nat} (h:kF H l v id o lo left cl c) (hf:HF M H H') (hd:Dj (kP l id o) M):kF H' l v id o lo left cl c:=by
  have hdo:o∉M:=fun hm=>hd o List.mem_cons_self hm;have hdi:id∉M:=fun hm=>hd id (List.mem_cons_of_mem _ List.mem_cons_self) hm;have hdn: ∀(i:Nat) (x:Nd×NV),l[i]? =some x->Dj x.2.ids M:=fun i x hx a ha hm=>hd a (List.mem_cons_of_mem _ (List.mem_cons_of_mem _ (M7 hx ha))) hm;refine⟨⟨h.own.row.hf hf (fun a ha hm=>hdi (List.mem_singleton.1 ha▸hm)),fun i x hx=> ?_,h.own.dj,h.own.ne,h.own.lob,h.own.UA⟩,(hf.2 o h.lt hdo).trans h.obj,Nat.lt_of_lt_of_le h.lt hf.1,h.ne,h.nen⟩;have:=h.own.Dv i x hx;have hi:=(List.getElem?_eq_some_iff.1 hx).1;rw [if_pos hi]at this⊢;exact this.hf hf (hdn i x hx)
theorem kF.lts {H:AH} {l:List (Nd×NV)} {v:PV} {id o lo:Nat} {left:List Str} {cl:Ck} {c:Int} (h:kF H l v id o lo left cl c): ∀a∈kP l id o,a<H.next:=by
  intro a ha;simp only [kP,List.mem_cons]at ha;rcases ha with rfl|rfl|ha
  · exact h.lt
  · exact h.own.row.lt _ (List.mem_singleton.2 rfl)
  · obtain⟨is,h1,h2⟩:=List.mem_flatten.1 ha;obtain⟨x,h3,rfl⟩:=List.mem_map.1 h1;obtain⟨i,hi⟩:=List.mem_iff_getElem?.1 h3;have:=h.own.Dv i x hi;rw [if_pos (List.getElem?_eq_some_iff.1 hi).1]at this;exact this.lt a h2
theorem kF.new {H H':AH} {l:List (Nd×NV)} {v:PV} {id o lo:Nat} {left:List Str} {cl:Ck} {c:Int} (h:kF H l v id o lo left cl c) {M:List Nat} (hf:HF M H H') (hM: ∀a∈M,H.next<=a):kF H' l v id o lo left cl c:=
  h.hf hf fun a ha hm=>by have:=h.lts a ha;have:=hM a hm;omega
theorem kF.set {H H':AH} {l:List (Nd×NV)} {v:PV} {id o lo:Nat} {left:List Str} {cl:Ck} {c:Int} (h:kF H l v id o lo left cl c) {i:Nat} {n m:Nd} {y:NV} (hx:l[i]? =some (n,y)) (hn:m.names=n.names)
    (hr:aO H' jA 5 (l.set i (m,y)) v [id]) (hf:HF [id] H H'):kF H' (l.set i (m,y)) v id o lo left cl c:=by
  have hi:=(List.getElem?_eq_some_iff.1 hx).1;have hget: ∀(k:Nat) (x:Nd×NV),(l.set i (m,y))[k]? =some x-> ∃x0,l[k]? =some x0/\x.2=x0.2/\x.1.names=x0.1.names:=by
    intro k x e;rw [List.getElem?_set]at e;by_cases hk:i=k
    · subst hk;rw [if_pos rfl,if_pos hi]at e;cases e;exact⟨_,hx,rfl,hn⟩
    · rw [if_neg hk]at e;exact⟨x,e,rfl,rfl⟩
  refine⟨⟨hr,fun k x e=> ?_,fun k k' x x' e e' hne=> ?_,fun k x e=> ?_,fun k x e=> ?_,h.own.UA⟩,?_,Nat.lt_of_lt_of_le h.lt hf.1,h.ne,fun k x e=> ?_⟩
  · obtain⟨x0,e0,q1,q2⟩:=hget k x e;have hk:=(List.getElem?_eq_some_iff.1 e0).1;have JJ:=h.own.Dv k x0 e0;rw [if_pos hk]at JJ;rw [if_pos (by rw [List.length_set];exact hk)];have:=JJ.hf hf fun a ha hm=>h.own.ne k x0 e0 (List.mem_singleton.1 hm▸ha);obtain⟨n1,y1⟩:=x;obtain⟨n0,y0⟩:=x0;simp only at q1 q2;subst q1;unfold iW at this⊢;cases y1 with
    |p l=>simp only at this⊢;rw [q2];exact this
    |m a b d=>simp only at this⊢;rw [q2];exact this
  · obtain⟨x0,e0,q1,_⟩:=hget k x e;obtain⟨x0',e0',q1',_⟩:=hget k' x' e';rw [q1,q1'];exact h.own.dj k k' x0 x0' e0 e0' hne
  · obtain⟨x0,e0,q1,_⟩:=hget k x e;rw [q1];exact h.own.ne k x0 e0
  · obtain⟨x0,e0,q1,_⟩:=hget k x e;rw [q1];exact h.own.lob k x0 e0
  · exact(hf.2 o h.lt fun hm=>h.ne (List.mem_singleton.1 hm)).trans h.obj
  · obtain⟨x0,e0,q1,_⟩:=hget k x e;rw [q1];exact h.nen k x0 e0
theorem aaJ {l:List (Nd×NV)} {id o i:Nat} {n m:Nd} {y:NV} (hx:l[i]? =some (n,y)):kP (l.set i (m,y)) id o=kP l id o:=by
  unfold kP;congr 3
  rw [List.map_set];obtain⟨h,e⟩:=List.getElem?_eq_some_iff.1 hx;have:(l.map fun x=>x.2.ids)[i]'(by simpa using h)=y.ids:=by rw [List.getElem_map,e]
  rw [<-this,List.set_getElem_self]
theorem agL (s:Scope):mo 2 s.cells:=row_of rfl rfl
def iY:List Scope->Str->Str
  |[],t=>t
  |s::l,t=>if(l.any fun s=>decide (s.old=t))=true then iY l t else if s.old=t then s.new else iY l t
theorem arD {H:AH} {n:Nd} {y:NV} (h:iW H (n,y)):Fz H (.agg (jA (n,y))) (.agg n.cells):=by
  have hn:Fz H y.pv (.aB (n.names.map aI) .unk):=by
    cases y with
    |p l=>
      obtain⟨h1,h2⟩:l=[]/\n.names=[]:=h;subst h1;rw [h2];exact d9 bn [] .unk
    |m id len cap=>
      have hr:aO H aI 1 n.names (.bV id 0 len cap 1) [id]:=h.2;exact aO.fz bn hr
  exact dK (.cons (.pure _ (.int _ _)) (.cons (.pure _ (.int _ _)) (.cons (.pure _ (.str _)) (.cons hn (.cons (d9 fO n.args .unk) .nil)))))
theorem JK (b:Scope) (t:Str): ∀l:List Scope,iY (l++[b]) t=if b.old=t then b.new else iY l t
  |[]=>by simp [iY]
  |s::l=>by
    rw [List.cons_append,iY,JK b t l];by_cases h:b.old=t
    · simp [h]
    · simp only [List.any_append,List.any_cons,List.any_nil,Bool.or_false,decide_eq_false h,if_neg h];rw [iY]
section
variable {l:List (Nd×NV)} {v:PV} {id o lo:Nat} {left:List Str} {cl:Ck} {c:Int} {i:Nat} {n:Nd} {y:NV}
theorem ai8 (hx:l[i]? =some (n,y)) (bound:List Scope) (q bx:Nat) (Q:Post) (σ:Nat->PV) (s6:σ 6= .ref q 0) (hqb:q∉kP l id o) (hqx:q≠bx):
    ∀(k:Nat) (H:AH),k<=bound.length->kF H l v id o lo left cl c->q<H.next->bx<H.next->bx∉kP l id o->H.obj q=some [.ref id (i*5)]->H.obj bx=some [.aB (bound.map Scope.cells) .unk]->
      (∀(e:Ex) H',(e= .normal\/e= .exit 0)->kF H' (l.set i ({n with text:=iY (bound.take k) n.text},y)) v id o lo left cl c->HF [id] H H'->H'.obj q=some [.ref id (i*5)]->Q e σ H')->
      DF (fun Q' σ' H'=>W Tryz.prog KV (F6 (fun vE iw=>W Tryz.prog KW Q' vE iw)) σ' H') Q σ bx [.aB (bound.map Scope.cells) .unk] 28 29 ((bound.map Scope.cells).map (BX true)) k H:=by
  intro k
  induction k with
  |zero=>
    intro H hk hV hq hb hbm ho hbx q0;refine q0 .normal H (.inl rfl) ?_ (HF.refl _ _) ho;have e1:l.set i (({n with text:=iY (bound.take 0) n.text}:Nd),y)=l:=by
      obtain⟨h,e⟩:=List.getElem?_eq_some_iff.1 hx;have:(({n with text:=iY (bound.take 0) n.text}:Nd),y)=l[i]:=by rw [e];rfl
      rw [this,List.set_getElem_self]
    rw [e1];exact hV
  |succ k ih=>
    intro H hk hV hq hb hbm ho hbx q0;have hlt:k<bound.length:=by omega
    refine⟨hbx,.agg (Scope.cells bound[k]),?_,?_⟩
    · rw [List.getElem?_map,List.getElem?_map,List.getElem?_eq_getElem hlt];rfl
    obtain⟨id',C,e1,hid,hC,hcell,hle,hdrop,hI⟩:=aO.content hV.own.row hx;obtain rfl:id=id':=by simpa using e1
    have c2:C[i*5+2]? =some (.str n.text):=hcell 2 _ rfl;have hqn:id≠H.next:=by omega
    have ai9:q≠H.next:=by omega
    have hqi:q≠id:=fun e=>hqb (by rw [e];simp [kP]);refine aD ?_;unfold KV;simp -implicitDefEqProofs only [go_sem,dM,Scope.qY,Nat.le_refl];obtain⟨H1,hH1⟩: ∃H1,H1=(H.new [.str [],.str []]).put H.next [.str bound[k].old,.str bound[k].new]:=⟨_,rfl⟩;rw [<-hH1];have hf1:HF [] H H1:=by
      rw [hH1];exact HF.put (.inr (Nat.le_refl _)) (HF.new (HF.refl _ _))
    have o8:H1.obj H.next=some [.str bound[k].old,.str bound[k].new]:=by
      rw [hH1];show(if H.next=H.next then some _ else _)=_;rw [if_pos rfl]
    clear hH1;have oq:H1.obj q=some [.ref id (i*5)]:=(hf1.2 q hq List.not_mem_nil).trans ho;have oid:H1.obj id=some C:=(hf1.2 id hid List.not_mem_nil).trans hC;have obx:H1.obj bx=some [.aB (bound.map Scope.cells) .unk]:=(hf1.2 bx hb List.not_mem_nil).trans hbx;have hV1:=hV.new hf1 (fun a ha=>by cases ha);have atG:bound.take (k+1)=bound.take k++[bound[k]]:=List.take_succ_eq_append_getElem hlt;have Yf:iY (bound.take (k+1)) n.text=if bound[k].old=n.text then bound[k].new else iY (bound.take k) n.text:=by rw [atG,JK]
    refine aD ?_;unfold KW;simp -implicitDefEqProofs only [go_sem];refine eZ ?_;simp -implicitDefEqProofs only [go_sem,s6,o8,oq,oid,c2];by_cases hm:bound[k].old=n.text
    · rw [if_pos hm]at Yf;rw [Yf]at q0;have hdec:(bound[k].old==n.text)=true:=by rw [beq_iff_eq];exact hm
      simp -implicitDefEqProofs only [go_sem,s6,o8,oq,oid,c2,hdec];refine qw (f:=jA) (id:=id) (o:=i*5+2) (i:=i) (j:=2) (a:=(n,y)) (y:=({n with text:=bound[k].new},y)) (vs:=[.str bound[k].new]) aR rfl rfl hV1.own.row hx aR rfl rfl (by decide) (by cases y<;>rfl) (fun H' r' hf' ok'=> ?_);simp -implicitDefEqProofs only [go_sem];refine q0 (.exit 0) H' (.inr rfl) (hV1.set hx rfl r' hf') ⟨Nat.le_trans hf1.1 hf'.1,fun a ha hm=>(hf'.2 a (Nat.lt_of_lt_of_le ha hf1.1) hm).trans (hf1.2 a ha List.not_mem_nil)⟩ ((hf'.2 q (Nat.lt_of_lt_of_le hq hf1.1) fun hm=>hqi (List.mem_singleton.1 hm)).trans oq)
    · rw [if_neg hm]at Yf;rw [Yf]at q0;have hdec:(bound[k].old==n.text)=false:=by rw [beq_eq_false_iff_ne];exact hm
      simp -implicitDefEqProofs only [go_sem,s6,o8,oq,oid,c2,hdec];exact ih H1 (by omega) hV1 (Nat.lt_of_lt_of_le hq hf1.1) (Nat.lt_of_lt_of_le hb hf1.1) hbm oq obx fun e H' he g1 g2 g3=>q0 e H' he g1 ⟨Nat.le_trans hf1.1 g2.1,fun a ha hm=>(g2.2 a (Nat.lt_of_lt_of_le ha hf1.1) hm).trans (hf1.2 a ha List.not_mem_nil)⟩ g3
end
theorem amJ (es:List (List PV)) (ck:Ck) (H:AH):bE Tryz.prog 181 [.aB es ck] H fun v H'=>v= .fn (.func 205) [] [.ref H.next 0]/\H'=H.new [.aB es ck]:=by
  refine aG atb (by simp) (aD ?_);unfold aks;simp -implicitDefEqProofs only [go_sem,dM,Nat.le_refl,and_self]
theorem P5 {l:List (Nd×NV)} {i:Nat} {x:Nd×NV} (hx:l[i]? =some x):l.set i x=l:=by
  obtain⟨h,e⟩:=List.getElem?_eq_some_iff.1 hx;rw [<-e,List.set_getElem_self]
theorem arG {l:List (Nd×NV)} {v:PV} {id o lo:Nat} {left:List Str} {cl:Ck} {c:Int} {i:Nat} {n:Nd} {y:NV} {H:AH} {σ:Nat->PV} {bound:List Scope} {ck:Ck} {q k:Nat} {nm:Bool} {Q:Post}
    (hV:kF H l v id o lo left cl c) (hx:l[i]? =some (n,y)) (s2:σ 2= .aB (bound.map Scope.cells) ck) (s6:σ 6= .ref q 0) (hq:q<H.next) (GN:q∉kP l id o) (ho:H.obj q=some [.ref id (i*5)]) (hnm:nG k n=some nm) (hb:bound.length<=1000000)
    (q0: ∀σ' H',(∀j,j∉([22,23,24,25,26,27]:List Nat)->σ' j=σ j)->kF H' (l.set i ({n with text:=if nm=true then iY bound n.text else n.text},y)) v id o lo left cl c->HF [id] H H'->H'.obj q=some [.ref id (i*5)]->Q .normal σ' H'):W Tryz.prog OX Q σ H:=by
  obtain⟨id',C,e1,hid,hC,hcell,hle,hdrop,hI⟩:=aO.content hV.own.row hx;obtain rfl:id=id':=by simpa using e1
  have hy:iW H (n,y):=by
    have:=hV.own.Dv i _ hx;rw [if_pos (List.getElem?_eq_some_iff.1 hx).1]at this;exact this
  have h5:=hle 5 (Nat.le_refl _);refine aD ?_;unfold OX;simp -implicitDefEqProofs only [go_sem,s6,ho,hC,hdrop,h5];refine F9 (Oa hnm) (.cons (arD hy) .nil) (.cons (.agg _ (Nd.pu n)) .nil) (Sc.bool _) ?_;cases nm
  case false=>
    simp -implicitDefEqProofs only [go_sem];refine q0 _ H ?_ ?_ (HF.refl _ _) ho
    · intro j hj;simp only [List.mem_cons,List.not_mem_nil,or_false,not_or]at hj;simp only [upd,hj.1,hj.2.1,hj.2.2.1,hj.2.2.2.1,↓reduceIte]
    · rw [show({n with text:=if false=true then iY bound n.text else n.text}:Nd)=n from rfl,P5 hx];exact hV
  case true=>
    simp -implicitDefEqProofs only [go_sem,s2];refine bE.wk ((amJ (bound.map Scope.cells) .unk H).mono ?_) (.aB .nil);rintro _ _ ⟨rfl,rfl⟩;have hnew:HF [] H (H.new [.aB (bound.map Scope.cells) .unk]):=HF.new (HF.refl _ _);have hV1:=hV.new hnew (fun a ha=>by cases ha);have arH:(H.new [.aB (bound.map Scope.cells) .unk]).obj H.next=some [.aB (bound.map Scope.cells) .unk]:=by
      show(if H.next=H.next then some _ else _)=_
      rw [if_pos rfl]
    have hqx:q≠H.next:=by omega
    have hbm:H.next∉kP l id o:=fun hm=>Nat.lt_irrefl _ (hV.lts _ hm);simp -implicitDefEqProofs only [go_sem];refine ajD (g:=205) (id:=H.next) (sz:=2) (agg:=true) (es:=bound.map Scope.cells) (c:= .unk) aR agI ai7 (by decide) arH (by rw [List.length_map];omega) (F8 (f:=Scope.cells) (fun _=>rfl) _) ?_;rw [List.length_map];refine ai8 hx bound q H.next _ _ aR GN hqx bound.length _ (Nat.le_refl _) hV1 (Nat.lt_succ_of_lt hq) (Nat.lt_succ_self _) hbm ((hnew.2 q hq List.not_mem_nil).trans ho) arH ?_;rw [List.take_length];intro e H' he g1 g2 g3;have hF:HF [id] H H':=⟨Nat.le_trans hnew.1 g2.1,fun a ha hm=>(g2.2 a (Nat.lt_of_lt_of_le ha hnew.1) hm).trans (hnew.2 a ha List.not_mem_nil)⟩
    have fin:=q0 (upd (upd (upd (upd (upd (upd σ (some 22) (PV.ref id (i*5))) (some 23) (PV.ref id (i*5))) (some 24) (PV.agg (jA (n,y)))) (some 25) (PV.bool true)) (some 26) (.aB (bound.map Scope.cells) ck)) (some 27) (.fn (.func 205) [] [.ref H.next 0])) H' (by
      intro j hj;simp only [List.mem_cons,List.not_mem_nil,or_false,not_or]at hj;simp only [upd,hj.1,hj.2.1,hj.2.2.1,hj.2.2.2.1,hj.2.2.2.2.1,hj.2.2.2.2.2,↓reduceIte]) g1 hF g3
    rcases he with rfl|rfl
    · exact fin
    · exact fin
end Go.VL
end
