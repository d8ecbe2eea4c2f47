/- Part 6 of the proof: what the theorem rests on. -/
import Derived.Test.YthebklihgmhgoaaGreatDoorKf5
import Derived.Lib.SlicesCompact
import Derived.Lib.RowBridge
import Derived.KernelRfl
import Derived.Lib.ItoaNum
import Derived.Test.YthebklihgmhgoaaGreatDoorRows
import Derived.RangeFuncOwn
import Derived.TacticsIn
import Derived.TacticsInMore
import Derived.LoopIn
import Derived.Walk
import Derived.WalkKit
set_option linter.unusedVariables false
set_option linter.unusedSectionVars false
set_option linter.unusedSimpArgs false
section
namespace Go.VL
open Tm
theorem Zm {e:List Nd} (hL:qN e) {acc':List Int} (h:ng [] e= .inl acc'): ∃ts,e=bq 0 ts/\acc'=qQ 0 ts/\Ev (fun k=>yL k e) ((bI 0 ts).map Prod.fst,(bI 0 ts).map Prod.snd):=by
  have hlen:=hL.len;obtain⟨ts',h1,hb,h2⟩:=Qt hL e [] [] acc' 0 rfl rfl rfl (Nat.zero_le _) h;refine⟨ts',by rw [h1];rfl,hb,?_⟩;unfold yL;refine Ev.mZ ⟨rfl,by omega,by omega⟩ (Ev.mZ ⟨by omega,by omega,by omega⟩ ?_);have e1:((bI 0 ([]:List Tm)++List.replicate (e.length -0) ((-1:Int),(0:Int))).map Prod.fst)=(H8 [(-1)] (e.length:Int):List Int):=by simp [bI,H8]
  have e2:((bI 0 ([]:List Tm)++List.replicate (e.length -0) ((-1:Int),(0:Int))).map Prod.snd)=List.replicate e.length (0:Int):=by simp [bI]
  rw [e1,e2]at h2;exact Ev.bind h2 Ev.some
theorem Lf {ts:List Tm} {i:Nat} {P j:Int} (hp:(bI 0 ts)[i]? =some (P,j)):(P= -1/\j=0)\/ ∃q:Nat,P=(q:Int)/\i<q/\q<(bq 0 ts).length:=by
  rcases Jg 0 ts i P j hp with h|⟨q,j',n,h1,h2,h3,h4,h5⟩
  · exact .inl h
  · exact .inr ⟨q,by rw [h1,Nat.zero_add],h3,(List.getElem?_eq_some_iff.1 h4).1⟩
def Jh (e:List Nd) (U:List (Int×Int)):Nat->Nat->Bool
  |0,_=>false
  |m+1,i=>match U[i]? with
    |some (P,j)=>if P<0 then false else(decide ((e[P.toNat]?.map Nd.kind)=some 19)&&decide (j=2))||Jh e U m P.toNat
    |none=>false
section
variable {ts:List Tm} {e:List Nd}
theorem UF (he:e=bq 0 ts): ∀(m i:Nat),e.length<=i+m->i<e.length->Ev (fun k=>oh k e ((bI 0 ts).map Prod.fst) ((bI 0 ts).map Prod.snd) (i:Int)) (if Jh e (bI 0 ts) m i=true then .inr false else .inl ()):=by
  intro m
  induction m with
  |zero=>intro i h1 h2;omega
  |succ m ih=>
    intro i h1 h2;have hlt:i<(bI 0 ts).length:=by rw [vS,<-cB 0 ts,<-he];exact h2
    obtain⟨P,j,hU⟩: ∃P j,(bI 0 ts)[i]? =some (P,j):=⟨_,_,bG hlt⟩;refine Ev.succ ?_;have hf:((bI 0 ts).map Prod.fst)[i]? =some P:=by rw [List.getElem?_map,hU];rfl
    have hs:((bI 0 ts).map Prod.snd)[i]? =some j:=by rw [List.getElem?_map,hU];rfl
    simp only [oh,Int.toNat_natCast,hf,hs,Option.bind_some,nn,if_true];rw [Jh,hU];simp only;rcases Lf hU with⟨rfl,rfl⟩|⟨q,rfl,hq,hq2⟩
    · exact Ev.cF (by rfl) Ev.some
    · have hqe:q<e.length:=by rw [he];exact hq2
      refine Ev.cT (by rw [bne_iff_ne];omega) (Ev.mZ (by omega) ?_);simp only [Int.toNat_natCast,bG hqe,Option.bind_some,Option.map_some,Option.some.injEq,show ¬(q:Int)<0 by omega,if_false];have ihq:=ih q (by omega) hqe;by_cases h3:e[q].kind=19
      · refine Ev.cT (by rw [h3];rfl) ?_;by_cases h4:j=2
        · refine Ev.cT (by rw [h4];rfl) (Ev.some' ?_);simp [h3,h4]
        · refine Ev.cF (by rw [beq_eq_false_iff_ne];exact h4) (ihq.to ?_);simp [h4]
      · refine Ev.cF (by rw [beq_eq_false_iff_ne];exact h3) (ihq.to ?_);simp [h3]
theorem ah1 (he:e=bq 0 ts) (hL:qN e): ∀(m i:Nat),e.length<=i+m->i<e.length-> ∀P j,(bI 0 ts)[i]? =some (P,j)-> ∀o:Bool,Ev (fun k=>qj k e P j o) (o||Jh e (bI 0 ts) m i):=by
  intro m
  induction m with
  |zero=>intro i h1 h2;omega
  |succ m ih=>
    intro i h1 h2 P j hU o;refine Ev.succ ?_;rw [Jh,hU];simp only;rcases Lf hU with⟨rfl,rfl⟩|⟨q,rfl,hq,hq2⟩
    · simp only [qj];exact Ev.cF (by rfl) (Ev.some' (by simp))
    · have hqe:q<e.length:=by rw [he];exact hq2
      have hlt:q<(bI 0 ts).length:=by rw [vS,<-cB 0 ts];exact hq2
      obtain⟨P',j',hU'⟩: ∃P j,(bI 0 ts)[q]? =some (P,j):=⟨_,_,bG hlt⟩;simp only [qj];refine Ev.cT (decide_eq_true (by omega)) (Ev.mq (x:=o||(decide (e[q].kind=19)&&decide (j=2))) ?_ (Ev.bind (BP he hL hqe hU') ?_))
      · unfold Dk;cases o
        · simp only [Int.toNat_natCast,bG hqe,Option.bind_some,cond_false,nn,if_true,Bool.false_or];by_cases h3:e[q].kind=19
          · rw [uR (by rw [h3];rfl)];by_cases h4:j=2
            · simp [h3,h4]
            · simp [h4]
          · rw [nH (by rw [beq_eq_false_iff_ne];exact h3)];simp [h3]
        · rfl
      · refine(ih q (by omega) hqe P' j' hU' _).to ?_;simp only [Int.toNat_natCast,bG hqe,Option.map_some,Option.some.injEq,show ¬(q:Int)<0 by omega,if_false,Bool.or_assoc]
theorem Zn (t:Str) (h:(dP fJ t).2=true):jm t=false:=by
  have h1:((fJ.map (·.text)).all fun t=> !jm t)=true:=by kernel_rfl
  by_cases hm:t∈fJ.map (·.text)
  · simpa using List.all_eq_true.1 h1 t hm
  · rw [Ld hm]at h;cases h
theorem Zo {n:Nd} (h:cZ true n=0) (hk:n.kind=3):(dP fJ n.text).2= !jm n.text:=by
  cases ho:(dP fJ n.text).2
  · unfold cZ at h
    split at h;·cases h
    split at h;·cases h
    split at h;·cases h
    split at h;·cases h
    split at h
    · rename_i h1;exact absurd h h1
    · rename_i h1;have h1:rC n=0:=by omega
      unfold rC at h1
      split at h1;·cases h1
      cases hr:jm n.text
      · simp [hk,ho,hr]at h1
      · rfl
  · rw [Zn _ ho];rfl
def Mh (e:List Nd) (U:List (Int×Int)) (i:Nat):Bool:=match e[i]?,U[i]? with
  |some n,some (P,j)=>if n.kind=24 then(if P<0 then true else match e[P.toNat]? with
      |some m=>if m.kind=3 then(dP fJ m.text).2 else true
      |none=>true)else if n.kind=20 then !Jh e U e.length i else false
  |_,_=>false
theorem aa7 (he:e=bq 0 ts) (hL:qN e) {i:Nat} (hi:i<e.length):Ev (fun k=>ED k e (i:Int) ((bI 0 ts).map Prod.fst) ((bI 0 ts).map Prod.snd)) (Mh e (bI 0 ts) i):=by
  have hlt:i<(bI 0 ts).length:=by rw [vS,<-cB 0 ts,<-he];exact hi
  obtain⟨P,j,hU⟩: ∃P j,(bI 0 ts)[i]? =some (P,j):=⟨_,_,bG hlt⟩;have hf:((bI 0 ts).map Prod.fst)[i]? =some P:=by rw [List.getElem?_map,hU];rfl
  unfold ED Mh;simp only [Int.toNat_natCast,bG hi,hf,Option.bind_some,nn,if_true,hU];by_cases h1:e[i].kind=24
  · refine Ev.cT (by rw [h1];rfl) ?_;simp only [h1,if_true];rcases Lf hU with⟨rfl,rfl⟩|⟨q,rfl,hq,hq2⟩
    · exact Ev.cT (by rfl) Ev.some
    · have hqe:q<e.length:=by rw [he];exact hq2
      refine Ev.cF (by rw [beq_eq_false_iff_ne];omega) (Ev.mZ (by omega) ?_);simp only [Int.toNat_natCast,bG hqe,Option.bind_some,show ¬(q:Int)<0 by omega,if_false];by_cases h2:e[q].kind=3
      · refine Ev.cF (by rw [h2];rfl) (Ev.bind (uJ _) (Ev.some' ?_));simp only [h2,if_true]
      · refine Ev.cT (by rw [bne_iff_ne];exact h2) (Ev.some' ?_);simp only [h2,if_false]
  · refine Ev.cF (by rw [beq_eq_false_iff_ne];exact h1) ?_;simp only [h1,if_false];by_cases h2:e[i].kind=20
    · refine Ev.cT (by rw [h2];rfl) (Ev.bind (UF he e.length i (by omega) hi) ?_);simp only [h2,if_true];cases Jh e (bI 0 ts) e.length i
      · simp only [Bool.false_eq_true,if_false,bL];exact Ev.some
      · simp only [if_true,bP];exact Ev.some
    · refine Ev.cF (by rw [beq_eq_false_iff_ne];exact h2) (Ev.some' ?_);simp only [h2,if_false]
def F8 (e:List Nd) (U:List (Int×Int)):Nat->Nat->Option Nat
  |0,_=>none
  |m+1,i=>if Mh e U i=true then some i else F8 e U m (i+1)
theorem MJ (he:e=bq 0 ts) (hL:qN e): ∀i,i<=e.length->Ev (fun k=>jH k e ((bI 0 ts).map Prod.fst) ((bI 0 ts).map Prod.snd) (e.length:Int) (i:Int)) (match F8 e (bI 0 ts) (e.length -i) i with|some j=> .inr ((j:Int),30)|none=> .inl ()):=by
  have hlen:=hL.len;refine down ?_ fun i hi ih=> ?_
  · refine Ev.succ ?_;simp only [jH];exact Ev.cF (jJ _) (Ev.some' (by simp [F8]))
  · refine Ev.succ ?_;simp only [jH];rw [eF hi (by omega)];refine Ev.cT (kW hi) (Ev.bind (aa7 he hL hi) ?_);rw [show e.length -i=(e.length -(i+1))+1 by omega,F8];cases Mh e (bI 0 ts) i
    · simp only [cond_false,Bool.false_eq_true,if_false];exact ih
    · exact Ev.some
theorem WX (he:e=bq 0 ts) (hL:qN e) (hok: ∀(i:Nat) n,e[i]? =some n->cZ true n=0): ∀i,i<=e.length->Ev (fun k=>mo k e (i:Int)) (match F8 e (bI 0 ts) (e.length -i) i with|some j=> .inr ((j:Int),30)|none=> .inl ()):=by
  have hlen:=hL.len;refine down ?_ fun i hi ih=> ?_
  · refine Ev.succ ?_;simp only [mo];exact Ev.cF (jJ _) (Ev.some' (by simp [F8]))
  · refine Ev.succ ?_;have hlt:i<(bI 0 ts).length:=by rw [vS,<-cB 0 ts,<-he];exact hi
    obtain⟨P,j,hU⟩: ∃P j,(bI 0 ts)[i]? =some (P,j):=⟨_,_,bG hlt⟩;simp only [mo,Int.toNat_natCast,bG hi,Option.bind_some,nn,if_true];rw [eF hi (by omega)];refine Ev.cT (kW hi) (Ev.bind (BP he hL hi hU) ?_);have av8:Ev (fun k=>zJ k e P (decide (P>=0))) (match e[P.toNat]? with|some m=>decide (0<=P)&&decide (m.kind=3)&&jm m.text|none=>false):=by
      unfold zJ;rcases Lf hU with⟨rfl,rfl⟩|⟨q,rfl,hq,hq2⟩
      · refine Ev.cF (by rfl) (Ev.some' ?_);cases e[(-1:Int).toNat]? <;>rfl
      · have hqe:q<e.length:=by rw [he];exact hq2
        refine Ev.cT (decide_eq_true (by omega)) (Ev.mZ (by omega) ?_);simp only [Int.toNat_natCast,bG hqe,Option.bind_some,nn,decide_true,Bool.true_and];by_cases h2:e[q].kind=3
        · refine Ev.cT (by rw [h2];rfl) (Ev.bind (BI _ (by have:=(hL.nd q _ (bG hqe)).1;omega)) (Ev.some' ?_));simp only [h2,decide_true,Bool.true_and]
        · refine Ev.cF (by rw [beq_eq_false_iff_ne];exact h2) (Ev.some' ?_);simp only [h2,decide_false,Bool.false_and]
    refine Ev.bind av8 ?_;have hold:=ah1 he hL e.length i (by omega) hi P j hU false;rw [Bool.false_or]at hold;rw [show e.length -i=(e.length -(i+1))+1 by omega,F8];have hl:Mh e (bI 0 ts) i=if e[i].kind=24 then !(match e[P.toNat]? with|some m=>decide (0<=P)&&decide (m.kind=3)&&jm m.text|none=>false)else if e[i].kind=20 then !Jh e (bI 0 ts) e.length i else false:=by
      unfold Mh;simp only [bG hi,hU];rcases Lf hU with⟨rfl,rfl⟩|⟨q,rfl,hq,hq2⟩
      · simp only [show(-1:Int)<0 by omega,if_true,show ¬(0:Int)<= -1 by omega,decide_false,Bool.false_and];cases e[(-1:Int).toNat]? <;>rfl
      · have hqe:q<e.length:=by rw [he];exact hq2
        simp only [Int.toNat_natCast,bG hqe,show ¬(q:Int)<0 by omega,if_false,nn,decide_true,Bool.true_and];by_cases h2:e[q].kind=3
        · simp only [h2,if_true,decide_true,Bool.true_and,Zo (hok q _ (bG hqe)) h2]
        · simp only [h2,if_false,decide_false,Bool.false_and,Bool.not_false]
    rw [hl];generalize(match e[P.toNat]? with|some m=>decide (0<=P)&&decide (m.kind=3)&&jm m.text|none=>false)=lam
    refine Ev.mq (x:=decide (e[i].kind=24)&& !lam) (by
      unfold Di;by_cases h1:e[i].kind=24
      · rw [uR (by rw [h1];rfl)];simp [h1]
      · rw [nH (by rw [beq_eq_false_iff_ne];exact h1)];simp [h1]) ?_
    by_cases h1:e[i].kind=24
    · simp only [h1,decide_true,Bool.true_and,if_true];cases lam
      · exact Ev.some
      · refine Ev.cF rfl (Ev.bind hold ?_);exact Ev.cF (by rfl) ih
    · simp only [h1,decide_false,Bool.false_and,cond_false,if_false];refine Ev.bind hold ?_;by_cases h2:e[i].kind=20
      · refine Ev.cT (by rw [h2];rfl) ?_;simp only [h2,if_true];cases Jh e (bI 0 ts) e.length i
        · exact Ev.some
        · exact ih
      · refine Ev.cF (by rw [beq_eq_false_iff_ne];exact h2) (ih.to ?_);simp only [h2,if_false,Bool.false_eq_true]
end
structure Valid (e:List Nd):Prop where
  tree: ∃t,e=flat 0 t
  len:e.length<=160
  ok: ∀(i:Nat) n,e[i]? =some n->cZ true n=0
theorem Zp: ∀(l:List Nd) (acc:List Int) (p:Int×Int),ng acc l= .inr p->p.2≠0
  |[],acc,p,h=>by rw [ng]at h;cases h
  |n::l,acc,p,h=>by
    rw [ng]at h;by_cases hc:cZ (rT acc acc.length n.args.reverse) n=0
    · rw [if_neg (fun k=>k hc)]at h;exact Zp l _ p h
    · rw [if_pos hc]at h;cases h;exact hc
theorem adR (e:List Nd) (hL:qN e): ∃r,Ev (fun k=>mG k e) r/\Ev (fun k=>yH k e) r/\(r.2=0->Valid e):=by
  have hlen:=hL.len;by_cases h0:e.length=0
  · refine⟨(0,1),?_,?_,fun h=>by cases h⟩
    · unfold mG;simp only [zR,Option.bind_some,h0];refine Ev.bind (DV _ (by simp)) ?_;exact Ev.cT (by rfl) Ev.some
    · unfold yH;simp only [h0];exact Ev.cT (by rfl) Ev.some
  by_cases h1:160<e.length
  · refine⟨(0,2),?_,?_,fun h=>by cases h⟩
    · unfold mG;have a:((e.length:Int)==0)=false:=by rw [beq_eq_false_iff_ne];omega
      have b:decide ((e.length:Int)>160)=true:=decide_eq_true (by omega);simp only [zR,Option.bind_some,a,b];refine Ev.bind (DV _ (by simp)) ?_;exact Ev.cT (by rfl) Ev.some
    · unfold yH;refine Ev.cF (by rw [beq_eq_false_iff_ne];omega) ?_;exact Ev.cT (decide_eq_true (by omega)) Ev.some
  have a:((e.length:Int)==0)=false:=by rw [beq_eq_false_iff_ne];omega
  have b:decide ((e.length:Int)>160)=false:=decide_eq_false (by omega);have st:=MI hL 0 (Nat.zero_le _) [] (pR.zero e);have sr:=Wz hL 0 (Nat.zero_le _) [] (pR.zero e);rw [List.drop_zero]at st sr;have Zq: ∀r,Ev (fun k=>Option.bind (jG k e ([]:List Int) (e.length:Int) ((0:Nat):Int)) (fun o=>Sum.elim (fun p40=>Option.bind (yL k e) fun p51=>Option.bind (jH k e p51.1 p51.2 (e.length:Int) ((0:Nat):Int)) (fun o=>Sum.elim (fun p58=>if 0<=(IntKind.wrap .i64 ((e.length:Int) -1))then Option.bind (p40[(IntKind.wrap .i64 ((e.length:Int) -1)).toNat]?) fun x65=>cond (x65 !=0) (some ((IntKind.wrap .i64 ((e.length:Int) -1)),15)) (some (0,0))else none) (fun p74=>some (p74.1,p74.2)) o)) (fun zG=>some (zG.1,zG.2)) o)) r->Ev (fun k=>mG k e) r:=by
    intro r hr;unfold mG;simp only [zR,Option.bind_some,a,b];refine Ev.bind (DV _ (by simp)) ?_;exact Ev.cF (by rfl) hr
  have Zr: ∀r,Ev (fun k=>Option.bind (nN k e ((0:Nat):Int)) (fun o=>Sum.elim (fun p9=>Option.bind (mo k e ((0:Nat):Int)) (fun o=>Sum.elim (fun Vm=>Option.bind (tX k e (IntKind.wrap .i64 ((e.length:Int) -1))) fun Jy=>cond (Jy !=0) (some ((IntKind.wrap .i64 ((e.length:Int) -1)),15)) (some (0,0))) (fun P6=>some (P6.1,P6.2)) o)) (fun P7=>some (P7.1,P7.2)) o)) r->Ev (fun k=>yH k e) r:=by
    intro r hr;unfold yH;exact Ev.cF a (Ev.cF b hr)
  cases hs:ng [] e with
  |inr p=>
    rw [hs]at st sr;refine⟨p,Zq _ (Ev.bind st ?_),Zr _ (Ev.bind sr ?_),fun h=>absurd h (Zp _ _ _ hs)⟩
    · simp only [bP];exact Ev.some
    · simp only [bP];exact Ev.some
  |inl acc=>
    rw [hs]at st sr;obtain⟨ts,he,hacc,hpar⟩:=Zm hL hs;have hok:=acd e [] acc hs;have lt:=MJ he hL 0 (Nat.zero_le _);have lr:=WX he hL hok 0 (Nat.zero_le _);cases hl:F8 e (bI 0 ts) (e.length -0) 0 with
    |some j=>
      rw [hl]at lt lr;refine⟨((j:Int),30),Zq _ (Ev.bind st ?_),Zr _ (Ev.bind sr ?_),fun h=>by cases h⟩
      · simp only [bL];refine Ev.bind hpar (Ev.bind lt ?_);simp only [bP];exact Ev.some
      · simp only [bL];refine Ev.bind lr ?_;simp only [bP];exact Ev.some
    |none=>
      rw [hl]at lt lr;have hOk:pR e e.length acc:=by
        have gen: ∀(l:List Nd) (i:Nat) (a:List Int),l=e.drop i->i<=e.length->pR e i a->ng a l= .inl acc->pR e e.length acc:=by
          intro l
          induction l with
          |nil=>
            intro i a hl hi ho h;rw [ng]at h;cases h;have:=congrArg List.length hl;rw [List.length_drop,List.length_nil]at this;obtain rfl:i=e.length:=by omega
            exact ho
          |cons n l ih=>
            intro i a hl hi ho h;have hlt:i<e.length:=by
              have:=congrArg List.length hl;rw [List.length_drop,List.length_cons]at this;omega
            rw [drop_cons hlt]at hl;obtain⟨rfl,rfl⟩:=List.cons.inj hl;rw [ng,ho.len]at h;by_cases hc:cZ (rT a i e[i].args.reverse) e[i]=0
            · rw [if_neg (fun k=>k hc)]at h;exact ih (i+1) _ rfl hlt (ho.succ (bG hlt) (xq hc)) h
            · rw [if_pos hc]at h;cases h
        exact gen e 0 [] rfl (Nat.zero_le _) (pR.zero e) hs
      obtain⟨n,bb,h3,h4,h5,h6,_⟩:=hOk.at_ (e.length -1) (by omega);have hw:IntKind.wrap .i64 ((e.length:Int) -1)=((e.length -1:Nat):Int):=by rw [wrap64 (by omega) (by omega)];omega
      refine⟨if bb=0 then(0,0)else(((e.length -1:Nat):Int),15),Zq _ (Ev.bind st ?_),Zr _ (Ev.bind sr ?_),fun hr=> ?_⟩
      · simp only [bL];refine Ev.bind hpar (Ev.bind lt ?_);simp only [bL,hw,Int.toNat_natCast,h4,Option.bind_some,nn,if_true];by_cases hb:bb=0
        · exact Ev.cF (by rw [hb];rfl) (Ev.some' (by simp [hb]))
        · exact Ev.cT (by rw [bne_iff_ne];exact hb) (Ev.some' (by simp [hb]))
      · simp only [bL];refine Ev.bind lr ?_;simp only [bL,hw];refine Ev.bind (Qf hOk hlen h4) ?_;by_cases hb:bb=0
        · exact Ev.cF (by rw [hb];rfl) (Ev.some' (by simp [hb]))
        · exact Ev.cT (by rw [bne_iff_ne];exact hb) (Ev.some' (by simp [hb]))
      · by_cases hb:bb=0
        case neg=>rw [if_neg hb]at hr;cases hr
        refine⟨?_,by omega,hok⟩;rcases List.eq_nil_or_concat ts with rfl|⟨l,t,rfl⟩
        · rw [he]at h0;simp [bq]at h0
        · rw [List.concat_eq_append]at*;have hsz:e.length=sizes l+t.size:=by rw [he,cB,dV,qA]
          have hpos:=t.size_pos;have hg:=UC (b:=0) (l:=l) (m:=[]) (t:=t);rw [<-hacc,Nat.zero_add,show sizes l+t.size -1=e.length -1 by omega,h4]at hg;have hl0:sizes l=0:=by have:=Option.some.inj hg;omega
          cases l with
          |nil=>exact⟨t,by rw [he];simp [bq]⟩
          |cons c l=>
            have:=c.size_pos;simp only [sizes]at hl0;omega
end Go.VL
end
section
namespace Go.VL
open Go.Proofs Go.RowKit
theorem Zt {α:Type} (f:α->List PV) (sz:Nat) [hr:qI f sz] (l:List α):pG sz (.aA (l.map f) .unk) none (some (.int .i64 (l.length:Int))) (some (.int .i64 (l.length:Int)))=some (.aA (l.map f) .exact):=by
  have hl:Iz sz (l.map f):=fun cs h=>by
    obtain⟨x,_,rfl⟩:=List.mem_map.1 h;exact hr.len x
  have h0:(0:Int)<=(l.length:Int):=by omega
  simp only [pG,mY];rw [if_pos h0];simp only [Int.toNat_natCast,List.length_map,Option.isSome_some,and_true];rw [if_pos ⟨Nat.zero_le _,Nat.le_refl _,hl⟩];simp only [if_true];rw [List.take_of_length_le (by rw [List.length_map];exact Nat.le_refl _),List.drop_zero]
theorem Zu (l:List Str):Pu (.aA (l.map aI) .exact):=by
  have h:=aU bg l;cases h with
  |aA _ _ h1 h2=>exact .aA _ _ h1 (by simp)
theorem afK (l:List Str) {c:Ck}:aF Tryz.prog 120 [.aA (l.map aI) c] (.aA (l.map aI) .exact):=by
  refine aF.wk (args:=[.aA (l.map aI) .unk]) ?_ (.aA .nil);refine aF.aQ (bf.mem (.cons (aU bg _) .nil)) (aG ai6 (by simp) (aD ?_)) (Zu l);unfold ai5;simp -implicitDefEqProofs only [go_sem,↓reduceIte,Nat.reduceEqDiff,List.length_map,Zt aI 1];first|done|exact .pure _ (Zu l)
end Go.VL
end
section
set_option maxRecDepth 8000
namespace Go.VL
open Go.Proofs
theorem ace {α:Type} {σ:Nat->PV} {H:AH} {sz b:Nat} {x y:AE} {f:α->List PV} (hf: ∀x,lX sz (f x)) (xs ys:List α) (c c2:Ck)
    (hx:x.ev σ= .aA (xs.map f) c) (hy:GZ (y.ev σ)= .aA (ys.map f) c2) (hok:bn H c) (hb:(xs.length+ys.length)*b<=1099511627776):
    ∃c' H',jv (.app sz b x y) σ H=some (.aA ((xs++ys).map f) c',H')/\bn H' c'/\H.next<=H'.next/\(∀i,H'.obj i=H.obj i)/\(∀c3,bn H c3->kI c c3->bn H' c3/\kI c' c3):=by
  have h:=gu (P:=Tryz.prog) (s:=[]) (Q:=fun e σ' H'=> ∃c',σ'=upd σ (some 0) (.aA ((xs++ys).map f) c')/\bn H' c'/\H.next<=H'.next/\(∀i,H'.obj i=H.obj i)/\(∀c3,bn H c3->kI c c3->bn H' c3/\kI c' c3)) (d:=some 0) (l:=[]) (H:=H) hf xs ys c c2 hx hy hok hb
    (fun c' H' h1 h2 h3 h4=>⟨c',rfl,h1,h2,h3,h4⟩)
  have h2:WD Tryz.prog (jv (.app sz b x y) σ H) (some 0) [] [] (fun e σ' H'=> ∃c',σ'=upd σ (some 0) (.aA ((xs++ys).map f) c')/\bn H' c'/\H.next<=H'.next/\(∀i,H'.obj i=H.obj i)/\(∀c3,bn H c3->kI c c3->bn H' c3/\kI c' c3)) σ:=by
    have h3:WO Tryz.prog (⟨some 0,.d (.app sz b x y),none⟩::[]) [] _ σ H:=h;rw [WO,aeJ]at h3;revert h3;cases jv (.app sz b x y) σ H with
    |none=>intro h3;exact h3
    |some q=>intro h3;exact h3
  revert h2;cases jv (.app sz b x y) σ H with
  |none=>intro h2;exact h2.elim
  |some q=>
    intro h2;obtain⟨c',e,h3⟩:=(h2: ∃c',upd σ (some 0) q.1=upd σ (some 0) (.aA ((xs++ys).map f) c')/\bn q.2 c'/\H.next<=q.2.next/\(∀i,q.2.obj i=H.obj i)/\(∀c3,bn H c3->kI c c3->bn q.2 c3/\kI c' c3));have e2:=congrFun e 0;simp only [upd,if_true]at e2;exact⟨c',q.2,by rw [<-e2],h3⟩
section
variable {α:Type}
def F9 (rec:Int->List Str->α->Option α) (n:Nd) (bound:List Str):Nat->List Int->α->Option α
  |_,[],a=>some a
  |i,op::l,a=>Option.bind (gP n (i:Int)) fun b=>if(bound.length+b.length)*16<=1099511627776 then Option.bind (rec op (bound++b) a) fun a'=>F9 rec n bound (i+1) l a' else none
def wF (step:α->Int->List Str->Option α) (e:List Nd):Nat->Int->List Str->α->Option α
  |0,_,_,_=>none
  |k+1,at_,bound,a=>Option.bind (step a at_ bound) fun a'=>if 0<=at_ then Option.bind (e[at_.toNat]?) fun n=>if n.args.length<=1099511627776 then F9 (wF step e k) n bound 0 n.args a' else none else none
structure Visit (g:FuncId) (caps:List PV) (S:α->AH->Prop) (step:α->Int->List Str->Option α):Prop where
  stable: ∀a H H',S a H->H.next<=H'.next->(∀i,H'.obj i=H.obj i)->(∀c,bn H c->bn H' c)->S a H'
  call: ∀a at_ bound a' H,S a H->step a at_ bound=some a'->bC Tryz.prog g (.int .i64 at_:: .aA (bound.map aI) .unk::caps) H fun _ H'=>S a' H'
theorem afL {g:FuncId} {caps:List PV} {S:α->AH->Prop} {step:α->Int->List Str->Option α} (hv:Visit g caps S step) (e:List Nd) (k:Nat)
    (ih: ∀(at_:Int) (bound:List Str) (a a':α) (H:AH),S a H->wF step e k at_ bound a=some a'->bC Tryz.prog 70 [cK e,.int .i64 at_,yZ bound,.fn (.func g) [] caps] H fun _ H'=>S a' H')
    (at_:Int) (bound:List Str) (n:Nd) (e2:0<=at_) (e3:e[at_.toNat]? =some n) (e4:n.args.length<=1099511627776):
    ∀(l:List Int) (i:Nat) (a a':α) (σ:Nat->PV) (H:AH),l=n.args.drop i->i<=n.args.length->σ 0=cK e->σ 1= .int .i64 at_->σ 2=yZ bound->σ 3= .fn (.func g) [] caps->σ 18=XT n.args->σ 19= .int .i64 n.args.length->σ 20= .int .i64 i->
      S a H->F9 (wF step e k) n bound i l a=some a'-> ∀(Q:Post),(∀σ' H',S a' H'->Q (.exit 0) σ' H')->W Tryz.prog (.loop LW) Q σ H:=by
  intro l
  induction l with
  |nil=>
    intro i a a' σ H hl hi s0 s1 s2 s3 jw oW s20 hS h Q q0;have hii:i=n.args.length:=by
      have:=congrArg List.length hl;rw [List.length_drop,List.length_nil]at this;omega
    rw [F9]at h;cases h;refine aT (fun K hK=>aD ?_);unfold LW;have hd:decide ((i:Int)<(n.args.length:Int))=false:=decide_eq_false (by omega);simp -implicitDefEqProofs only [go_sem,↓reduceIte,Nat.reduceEqDiff,oW,s20,hd];exact q0 _ _ hS
  |cons op l ihl=>
    intro i a a' σ H hl hi s0 s1 s2 s3 jw oW s20 hS h Q q0;have hlt:i<n.args.length:=by
      have:=congrArg List.length hl;rw [List.length_drop,List.length_cons]at this;omega
    have hop:n.args[i]? =some op:=by
      have:=congrArg (·[0]?) hl
      simpa [List.getElem?_drop]using this.symm
    have hl':l=n.args.drop (i+1):=by
      have:=congrArg List.tail hl;simpa using this
    rw [F9]at h;cases e5:gP n (i:Int)with
    |none=>rw [y5 e5]at h;cases h
    |some b=>
    rw [y7 e5]at h;by_cases e6:(bound.length+b.length)*16<=1099511627776
    case neg=>rw [if_neg e6]at h;cases h
    rw [if_pos e6]at h;cases e7:wF step e k op (bound++b) a with
    |none=>rw [y5 e7]at h;cases h
    |some a1=>
    rw [y7 e7]at h;refine aT (fun K hK=>aD ?_);unfold LW;have hd:decide ((i:Int)<(n.args.length:Int))=true:=decide_eq_true (by omega);simp -implicitDefEqProofs only [go_sem,↓reduceIte,Nat.reduceEqDiff,s0,s1,s2,s3,jw,oW,s20,hd,List.getElem?_map,hop,Option.map_some];have hb:=afi e5;have hw:IntKind.wrap .i64 ((i:Int)+1)=((i+1:Nat):Int):=by rw [IntKind.wrap_i64];omega
    refine⟨fun _=>True,trivial,?_⟩;refine dN (cK e) (fun H' _=>by simp -implicitDefEqProofs only [go_sem,↓reduceIte,Nat.reduceEqDiff,s0,s1,s2,s3,jw,oW,s20,e2,e3,List.getElem?_map,Option.map_some,Nat.reduceAdd]) ?_;refine dN (.int .i64 op) (fun H' _=>by simp -implicitDefEqProofs only [go_sem,↓reduceIte,Nat.reduceEqDiff,s0,s1,s2,s3,jw,oW,s20,e2,e3,List.getElem?_map,Option.map_some,Nat.reduceAdd]) ?_;refine dN (yZ bound) (fun H' _=>by simp -implicitDefEqProofs only [go_sem,↓reduceIte,Nat.reduceEqDiff,s0,s1,s2,s3,jw,oW,s20,e2,e3,List.getElem?_map,Option.map_some,Nat.reduceAdd]) ?_;refine yD (.aA (bound.map aI) .exact) (by simp -implicitDefEqProofs only [go_sem,↓reduceIte,Nat.reduceEqDiff,s0,s1,s2,s3,jw,oW,s20,e2,e3,List.getElem?_map,Option.map_some,Nat.reduceAdd];exact afK bound) ?_;refine dN (cK e) (fun H' _=>by simp -implicitDefEqProofs only [go_sem,↓reduceIte,Nat.reduceEqDiff,s0,s1,s2,s3,jw,oW,s20,e2,e3,List.getElem?_map,Option.map_some,Nat.reduceAdd]) ?_;refine dN (.int .i64 at_) (fun H' _=>by simp -implicitDefEqProofs only [go_sem,↓reduceIte,Nat.reduceEqDiff,s0,s1,s2,s3,jw,oW,s20,e2,e3,List.getElem?_map,Option.map_some,Nat.reduceAdd]) ?_;refine dN (.dX n.cells 0) (fun H' _=>by simp -implicitDefEqProofs only [go_sem,↓reduceIte,Nat.reduceEqDiff,s0,s1,s2,s3,jw,oW,s20,e2,e3,List.getElem?_map,Option.map_some,Nat.reduceAdd]) ?_;refine dN (.agg n.cells) (fun H' _=>by simp -implicitDefEqProofs only [go_sem,↓reduceIte,Nat.reduceEqDiff,s0,s1,s2,s3,jw,oW,s20,e2,e3,List.getElem?_map,Option.map_some,Nat.reduceAdd]) ?_;refine dN (.int .i64 i) (fun H' _=>by simp -implicitDefEqProofs only [go_sem,↓reduceIte,Nat.reduceEqDiff,s0,s1,s2,s3,jw,oW,s20,e2,e3,List.getElem?_map,Option.map_some,Nat.reduceAdd]) ?_;refine yD (yZ b) (by simp -implicitDefEqProofs only [go_sem,↓reduceIte,Nat.reduceEqDiff,s0,s1,s2,s3,jw,oW,s20,e2,e3,List.getElem?_map,Option.map_some,Nat.reduceAdd];exact hb) ?_;obtain⟨c',H',f1,f2,f3,f4,f5⟩:=ace (σ:=(upd (upd (upd (upd (upd (upd (upd (upd (upd (upd (upd (upd (upd (upd (upd (upd σ (some 21) (PV.bool true)) (some 22) (PV.int IntKind.i64 ↑i)) (some 23) (PV.dX [PV.int IntKind.i64 op] 0)) (some 24) (PV.int IntKind.i64 op)) (some 8) (PV.int IntKind.i64 ↑i)) (some 9) (PV.int IntKind.i64 op)) (some 25) (cK e)) (some 26) (.int .i64 op)) (some 27) (yZ bound)) (some 28) (.aA (bound.map aI) .exact)) (some 29) (cK e)) (some 30) (.int .i64 at_)) (some 31) (.dX n.cells 0)) (some 32) (.agg n.cells)) (some 33) (.int .i64 i)) (some 34) (yZ b))) (H:=H) (sz:=1) (b:=16) (x:=AE.t 28) (y:=AE.t 34) jg bound b .exact .unk (by simp -implicitDefEqProofs only [go_sem,↓reduceIte,Nat.reduceEqDiff,s0,s1,s2,s3,jw,oW,s20,e2,e3,List.getElem?_map,Option.map_some,Nat.reduceAdd]) (by simp -implicitDefEqProofs only [go_sem,↓reduceIte,Nat.reduceEqDiff,s0,s1,s2,s3,jw,oW,s20,e2,e3,List.getElem?_map,Option.map_some,Nat.reduceAdd]) trivial e6;refine Py _ H' f1 trivial ?_;refine dN (.fn (.func g) [] caps) (fun H' _=>by simp -implicitDefEqProofs only [go_sem,↓reduceIte,Nat.reduceEqDiff,s0,s1,s2,s3,jw,oW,s20,e2,e3,List.getElem?_map,Option.map_some,Nat.reduceAdd]) ?_;have hS':S a H':=hv.stable a H H' hS f3 f4 fun c hc=>(f5 c hc .exact).1;rw [agN];refine eB ?_;simp -implicitDefEqProofs only [go_sem,↓reduceIte,Nat.reduceEqDiff,s0,s1,s2,s3,jw,oW,s20,e2,e3,List.getElem?_map,Option.map_some,Nat.reduceAdd];refine bC.mono (bC.wk (ih op (bound++b) a a1 H' hS' e7) (.same (.same (.aA (.same .nil))))) fun r H2 hS2=> ?_;simp -implicitDefEqProofs only [go_sem,↓reduceIte,Nat.reduceEqDiff,s0,s1,s2,s3,jw,oW,s20,e2,e3,List.getElem?_map,Option.map_some,Nat.reduceAdd];refine hK _ _ ?_;refine ihl (i+1) a1 a' _ H2 hl' hlt ?_ ?_ ?_ ?_ ?_ ?_ ?_ hS2 h Q q0
    all_goals (simp -implicitDefEqProofs only [go_sem,↓reduceIte,Nat.reduceEqDiff,s0,s1,s2,s3,jw,oW,s20,e2,e3,List.getElem?_map,Option.map_some,Nat.reduceAdd,hw];try rfl)
theorem aqc {g:FuncId} {caps:List PV} {S:α->AH->Prop} {step:α->Int->List Str->Option α} (hv:Visit g caps S step) (e:List Nd):
    ∀(k:Nat) (at_:Int) (bound:List Str) (a a':α) (H:AH),S a H->wF step e k at_ bound a=some a'->bC Tryz.prog 70 [cK e,.int .i64 at_,yZ bound,.fn (.func g) [] caps] H fun _ H'=>S a' H':=by
  intro k
  induction k with
  |zero=>intro at_ bound a a' H hS h;simp only [wF,reduceCtorEq]at h
  |succ k ih=>
    intro at_ bound a a' H hS h
    rw [wF]at h;cases e1:step a at_ bound with
    |none=>rw [y5 e1]at h;cases h
    |some a1=>
    rw [y7 e1]at h;by_cases e2:0<=at_
    case neg=>rw [if_neg e2]at h;cases h
    rw [if_pos e2]at h;cases e3:e[at_.toNat]? with
    |none=>rw [y5 e3]at h;cases h
    |some n=>
    rw [y7 e3]at h;by_cases e4:n.args.length<=1099511627776
    case neg=>rw [if_neg e4]at h;cases h
    rw [if_pos e4]at h;refine aG ahe (by simp) (aD ?_);unfold anT;simp -implicitDefEqProofs only [go_sem,↓reduceIte,Nat.reduceEqDiff];refine bC.mono (hv.call a at_ bound a1 H hS e1) fun r H1 hS1=> ?_;simp -implicitDefEqProofs only [go_sem,↓reduceIte,Nat.reduceEqDiff,e2,e3];refine afL hv e k ih at_ bound n e2 e3 e4 n.args 0 a1 a' _ H1 rfl (Nat.zero_le _) ?_ ?_ ?_ ?_ ?_ ?_ ?_ hS1 h _ ?_
    all_goals first
      |(simp -implicitDefEqProofs only [go_sem,↓reduceIte,Nat.reduceEqDiff];done)
      |skip
    intro σ' H' hS';exact hS'
end
end Go.VL
end
section
set_option maxRecDepth 8000
set_option maxHeartbeats 4000000
namespace Go.VL
open Go.Proofs
def sU:Nat->(List Str)->Str->Int->Option Int
  |0,_,_,_=>none
  |k+1,dz,s_1,CW=>
    cond (decide (CW<(dz.length:Int))) (if 0<=CW then Option.bind (dz[CW.toNat]?) fun x3=>cond (strLt x3 s_1) (sU k dz s_1 (IntKind.wrap .i64 (CW+1))) (some (CW))else none) (some (CW))
def VG:List Nat:=[5]++List.range' 7 14
theorem adS: ∀(k:Nat) (dz:List Str) (s_1:Str) (CW:Int) (aC σ:Nat->PV) (H:AH) (f0:Fr VG aC σ) (sl:σ 0=(.aA (dz.map aI) .unk)/\σ 1=(.str s_1)/\σ 5=(.int .i64 CW)) (o:Int) (h:sU k dz s_1 CW=some o) (Q:Post) (q0: ∀(p:Int) (σ':Nat->PV),o=p->Fr VG aC σ'->(σ' 5=(.int .i64 p))->Q (.exit 0) σ' H),W Tryz.prog (.loop SG) Q σ H:=by
  intro k
  induction k with
  |zero=>intro dz s_1 CW aC σ H f0 sl o h Q q0;simp only [sU,reduceCtorEq]at h
  |succ k ih=>
    intro dz s_1 CW aC σ H f0 sl o h Q q0;obtain⟨s0,s1,s5⟩:=sl;unfold sU at h;refine aT (fun K hK=>aD ?_);unfold SG;rcases au h with⟨e1,h⟩|⟨e1,h⟩
    ·obtain⟨e2,h⟩:=aP h;obtain⟨x3,e4,h⟩:=aj h;rcases au h with⟨e5,h⟩|⟨e5,h⟩
     ·try refine ah ?_
      refine hK _ _ ?_;exact ih dz s_1 (IntKind.wrap .i64 (CW+1)) _ _ _ aJ av _ h _ q0
     ·obtain rfl:=ak h;try refine ah ?_
      exact q0 _ _ rfl aJ av
    ·obtain rfl:=ak h;try refine ah ?_
     exact q0 _ _ rfl aJ av
def Qu (k:Nat) (dz:List Str) (s_1:Str):Option (List Str):=
  Option.bind (sU k dz s_1 0) (fun p8=>cond (decide (p8<(dz.length:Int))) (if 0<=p8 then Option.bind (dz[p8.toNat]?) fun Cm=>cond (Cm==s_1) (some dz) (if 0<=p8/\p8.toNat<=dz.length then if(([]:List Str).length+(dz.take p8.toNat).length)*16<=1099511627776 then if((([]:List Str)++(dz.take p8.toNat)).length+1)*16<=1099511627776 then if(((([]:List Str)++(dz.take p8.toNat))++[s_1]).length+(dz.drop p8.toNat).length)*16<=1099511627776 then some (((([]:List Str)++(dz.take p8.toNat))++[s_1])++(dz.drop p8.toNat))else none else none else none else none)else none) (if 0<=p8/\p8.toNat<=dz.length then if(([]:List Str).length+(dz.take p8.toNat).length)*16<=1099511627776 then if((([]:List Str)++(dz.take p8.toNat)).length+1)*16<=1099511627776 then if(((([]:List Str)++(dz.take p8.toNat))++[s_1]).length+(dz.drop p8.toNat).length)*16<=1099511627776 then some (((([]:List Str)++(dz.take p8.toNat))++[s_1])++(dz.drop p8.toNat))else none else none else none else none))
theorem alF {k:Nat} {dz:List Str} {s_1:Str} {c0:Ck} {r:List Str} (h:Qu k dz s_1=some r):aF Tryz.prog 67 [(.aA (dz.map aI) c0),(.str s_1)] (.aA (r.map aI) .unk):=by
  refine aF.lw (.aA (.same .nil)) (aF.aQ (bf.mem (.cons (aU bg _) (.cons (.str _) .nil))) (aG au1 (by simp) (aD ?_)) (aU bg _));unfold Qu at h;unfold anQ;try refine ah ?_
  obtain⟨o6,h7,h⟩:=aj h;refine adS k dz s_1 0 _ _ _ (Fr.refl _ _) av _ h7 _ ?_
  ·rintro p8 σ' eo Hl s12;rw [eo]at h;have s13:σ' 0=(.aA (dz.map aI) .unk):=(Hl 0 (by decide)).trans av;have JC:σ' 1=(.str s_1):=(Hl 1 (by decide)).trans av;rcases au h with⟨e15,h⟩|⟨e15,h⟩
   ·obtain⟨e16,h⟩:=aP h;obtain⟨Cm,e18,h⟩:=aj h;rcases au h with⟨e19,h⟩|⟨e19,h⟩
    ·obtain rfl:=ak h;try refine ah ?_
     exact(d9 bg _ _)
    ·obtain⟨e20,h⟩:=aP h;try refine ah ?_
     refine aG R9 (by simp) (aD ?_);unfold R8;obtain⟨e26,h⟩:=aP h;try refine ah ?_
     refine gu (f:=aI) jg ([]:List Str) ((dz.take p8.toNat):List Str) .exact .unk av av fG (by first|exact e26|(simp only [List.length_cons,List.length_nil];exact e26)) (fun c22 H23 av9 le awc aAZ=> ?_);have aA0:HF [] _ H23:=⟨le,fun i _ _=>awc i⟩;try simp only [AH.aK,AH.aL,AH.aM,AH.aN]at le
     obtain⟨e33,h⟩:=aP h;try refine ah ?_
     refine gu (f:=aI) jg (([]:List Str)++(dz.take p8.toNat)) ([s_1]:List Str) c22 .exact av av fG (by first|exact e33|(simp only [List.length_cons,List.length_nil];exact e33)) (fun c29 H30 ani le awd aA1=> ?_);have aA2:HF [] _ H30:=⟨le,fun i _ _=>awd i⟩;try simp only [AH.aK,AH.aL,AH.aM,AH.aN]at le
     obtain⟨e40,h⟩:=aP h;try refine ah ?_
     refine gu (f:=aI) jg ((([]:List Str)++(dz.take p8.toNat))++[s_1]) ((dz.drop p8.toNat):List Str) c29 .unk av av fG (by first|exact e40|(simp only [List.length_cons,List.length_nil];exact e40)) (fun c36 H37 apz le awe aA3=> ?_);have ap8:HF [] _ H37:=⟨le,fun i _ _=>awe i⟩;try simp only [AH.aK,AH.aL,AH.aM,AH.aN]at le
     obtain rfl:=ak h;try refine ah ?_
     exact(d9 bg _ _)
   ·obtain⟨e43,h⟩:=aP h;try refine ah ?_
    refine aG R9 (by simp) (aD ?_);unfold R8;obtain⟨e49,h⟩:=aP h;try refine ah ?_
    refine gu (f:=aI) jg ([]:List Str) ((dz.take p8.toNat):List Str) .exact .unk av av fG (by first|exact e49|(simp only [List.length_cons,List.length_nil];exact e49)) (fun c45 H46 ahb le ah2 awf=> ?_);have Ux:HF [] _ H46:=⟨le,fun i _ _=>ah2 i⟩;try simp only [AH.aK,AH.aL,AH.aM,AH.aN]at le
    obtain⟨e56,h⟩:=aP h;try refine ah ?_
    refine gu (f:=aI) jg (([]:List Str)++(dz.take p8.toNat)) ([s_1]:List Str) c45 .exact av av fG (by first|exact e56|(simp only [List.length_cons,List.length_nil];exact e56)) (fun c52 H53 anE le ah3 aA4=> ?_);have adT:HF [] _ H53:=⟨le,fun i _ _=>ah3 i⟩;try simp only [AH.aK,AH.aL,AH.aM,AH.aN]at le
    obtain⟨e63,h⟩:=aP h;try refine ah ?_
    refine gu (f:=aI) jg ((([]:List Str)++(dz.take p8.toNat))++[s_1]) ((dz.drop p8.toNat):List Str) c52 .unk av av fG (by first|exact e63|(simp only [List.length_cons,List.length_nil];exact e63)) (fun c59 H60 anL le awg aA5=> ?_);have adU:HF [] _ H60:=⟨le,fun i _ _=>awg i⟩;try simp only [AH.aK,AH.aL,AH.aM,AH.aN]at le
    obtain rfl:=ak h;try refine ah ?_
    exact(d9 bg _ _)
def mV:Nat->(List Nd)->(List Str)->Int->Int->Option (List Str)
  |0,_,_,_,_=>none
  |k+1,aH,iy,Ji,DW=>
    cond (decide (Ji>=0)) (if 0<=Ji then Option.bind (aH[Ji.toNat]?) fun x5=>Option.bind (tZ x5 DW) fun p8=>if(([]:List Str).length+p8.length)*16<=1099511627776 then if((([]:List Str)++p8).length+iy.length)*16<=1099511627776 then Option.bind (sK k aH Ji) fun p25=>mV k aH ((([]:List Str)++p8)++iy) p25.1 p25.2 else none else none else none) (some (iy))
def JO:List Nat:=[5,6,7]++List.range' 14 17
theorem UG: ∀(k:Nat) (aH:List Nd) (iy:List Str) (Ji:Int) (DW:Int) (Av:Ck) (aC σ:Nat->PV) (H0 H:AH) (f0:Fr JO aC σ) (hf0:HF [] H0 H) (sl:σ 0=(.aA (aH.map Nd.cells) .unk)/\σ 5=(.aA (iy.map aI) Av)/\σ 6=(.int .i64 Ji)/\σ 7=(.int .i64 DW)) (o:List Str) (h:mV k aH iy Ji DW=some o) (Q:Post) (q0: ∀(p:List Str) (c0:Ck) (σ':Nat->PV) (H':AH),o=p->Fr JO aC σ'->HF [] H0 H'->(σ' 5=(.aA (p.map aI) c0))->Q (.exit 0) σ' H'),W Tryz.prog (.loop RX) Q σ H:=by
  intro k
  induction k with
  |zero=>intro aH iy Ji DW Av aC σ H0 H f0 hf0 sl o h Q q0;simp only [mV,reduceCtorEq]at h
  |succ k ih=>
    intro aH iy Ji DW Av aC σ H0 H f0 hf0 sl o h Q q0;obtain⟨s0,s5,s6,s7⟩:=sl;have hle0:=hf0.1;unfold mV at h;refine aT (fun K hK=>aD ?_);unfold RX;rcases au h with⟨e3,h⟩|⟨e3,h⟩
    ·obtain⟨e4,h⟩:=aP h;obtain⟨x5,e6,h⟩:=aj h;obtain⟨p8,e7,h⟩:=aj h;try refine ah ?_
     refine aB (Vp e7) ?_;try refine ah ?_
     refine aG R9 (by simp) (aD ?_);unfold R8;obtain⟨e14,h⟩:=aP h;try refine ah ?_
     refine gu (f:=aI) jg ([]:List Str) (p8:List Str) .exact .unk av av fG (by first|exact e14|(simp only [List.length_cons,List.length_nil];exact e14)) (fun c10 H11 amX le awh aA6=> ?_);have Y4:HF [] _ H11:=⟨le,fun i _ _=>awh i⟩;try simp only [AH.aK,AH.aL,AH.aM,AH.aN]at le
     obtain⟨e21,h⟩:=aP h;try refine ah ?_
     refine gu (f:=aI) jg (([]:List Str)++p8) (iy:List Str) c10 Av av av fG (by first|exact e21|(simp only [List.length_cons,List.length_nil];exact e21)) (fun c17 H18 ap5 le awi ah4=> ?_);have awj:HF [] _ H18:=⟨le,fun i _ _=>awi i⟩;try simp only [AH.aK,AH.aL,AH.aM,AH.aN]at le
     obtain⟨p25,e24,h⟩:=aj h;try refine ah ?_
     refine aB (Dh e24) ?_;try refine ah ?_
     refine hK _ _ ?_;exact ih aH ((([]:List Str)++p8)++iy) p25.1 p25.2 c17 _ _ _ _ aJ (by repeat (first|exact hf0|refine HF.new ?_|refine HF.fI ?_|refine HF.used ?_|refine HF.put (by first|(right;omega)|(left;simp only [List.mem_cons,true_or,or_true])) ?_|refine HF.via Y4 (by first|exact fun i hi=>absurd hi List.not_mem_nil|(intro i hi;simp only [List.mem_cons,List.not_mem_nil,or_false]at hi⊢;first|exact .inl hi|omega)) ?_|refine HF.via awj (by first|exact fun i hi=>absurd hi List.not_mem_nil|(intro i hi;simp only [List.mem_cons,List.not_mem_nil,or_false]at hi⊢;first|exact .inl hi|omega)) ?_)) av _ h _ q0
    ·obtain rfl:=ak h;try refine ah ?_
     exact q0 _ Av _ _ rfl aJ (by repeat (first|exact hf0|refine HF.new ?_|refine HF.fI ?_|refine HF.used ?_|refine HF.put (by first|(right;omega)|(left;simp only [List.mem_cons,true_or,or_true])) ?_)) av
def vT (k:Nat) (aH:List Nd) (dA:Int):Option (List Str):=
  Option.bind (sK k aH dA) fun p2=>Option.bind (mV k aH ([]:List Str) p2.1 p2.2) (fun p28=>some p28)
theorem aa8 {k:Nat} {aH:List Nd} {dA:Int} {c0:Ck} {r:List Str} (h:vT k aH dA=some r):aF Tryz.prog 36 [(.aA (aH.map Nd.cells) c0),(.int .i64 dA)] (.aA (r.map aI) .unk):=by
  refine aF.lw (.aA (.same .nil)) (aF.aQ (bf.mem (.cons (aU Nd.pu _) (.cons (.int _ _) .nil))) (aG auJ (by simp) (aD ?_)) (aU bg _));unfold vT at h;unfold ano;obtain⟨p2,e1,h⟩:=aj h;try refine ah ?_
  refine aB (Dh e1) ?_;try refine ah ?_
  obtain⟨o26,h27,h⟩:=aj h;refine UG k aH ([]:List Str) p2.1 p2.2 .nil _ _ _ _ (Fr.refl _ _) (HF.refl _ _) av _ h27 _ ?_
  ·rintro p28 c32 σ' H31 eo Oy ahm s33;rw [eo]at h;have le:=ahm.1;try simp only [AH.aK,AH.aL,AH.aM,AH.aN]at le
   obtain rfl:=ak h;try refine ah ?_
   exact(d9 bg _ _)
end Go.VL
end
section
namespace Go.VL
open Tm
def wG (n:Nd) (p:Nat):List Str:=(gP n (p:Int)).getD []
theorem OQ {n:Nd} (h:cZ true n=0) (hk:n.kind=23):n.args.length=2/\1<=n.names.length:=by
  unfold cZ at h
  split at h;·cases h
  split at h;·cases h
  rename_i _ h1;have h1:qb n=true:=by simpa using h1
  unfold qb at h1;have hs:gW 23=((1,5,2,2),false):=by kernel_rfl
  rw [hk,hs]at h1;simp [gV]at h1;omega
theorem JQ {n:Nd} (h:cZ true n=0) (hl:n.args.length<=1000000) (p:Nat):gP n (p:Int)=some (wG n p):=by
  have hj: ∃b,jD n.kind=some b:=by
    unfold jD
    repeat' first
      |exact⟨_,rfl⟩
      |(generalize(n.kind==_)=b;cases b<;>simp only [cond_true,cond_false])
  obtain⟨b,hb⟩:=hj;have: ∃r,gP n (p:Int)=some r:=by
    unfold gP;rw [hb,Option.bind_some];cases b with
    |true=>rw [cond_true];cases((p:Int)==IntKind.wrap .i64 ((n.args.length:Int) -1))<;>exact⟨_,rfl⟩
    |false=>
      rw [cond_false];by_cases hk:n.kind=23
      · obtain⟨h1,h2⟩:=OQ h hk;rw [uR (by rw [hk];rfl)];rw [if_pos h2,if_pos h2];cases((p:Int)==IntKind.wrap .i64 ((n.args.length:Int) -1))<;>cases(n.n==1)<;>exact⟨_,rfl⟩
      · rw [nH (by rw [beq_eq_false_iff_ne];exact hk)];exact⟨_,rfl⟩
  obtain⟨r,hr⟩:=this;unfold wG;rw [hr];rfl
theorem JR {n:Nd} (h:cZ true n=0) (hl:n.args.length<=1000000) (p:Nat):tZ n (p:Int)=some (wG n p):=by
  rw [<-JQ h hl];unfold tZ gP;show Option.bind (jD n.kind) _=_
  cases jD n.kind with
  |none=>rfl
  |some b=>
    rw [Option.bind_some,Option.bind_some];cases b with
    |true=>rfl
    |false=>
      rw [cond_false,cond_false];by_cases hk:n.kind=23
      · obtain⟨h1,h2⟩:=OQ h hk;rw [h1];rfl
      · rw [nH (by rw [beq_eq_false_iff_ne];exact hk),nH (by rw [beq_eq_false_iff_ne];exact hk)]
theorem Lg {n:Nd} {m:Nat} (hm:n.names.length<=m) (p:Nat):(wG n p).length<=m:=by
  have key: ∀r,gP n (p:Int)=some r->r.length<=m:=by
    intro r hr;unfold gP at hr;cases hj:jD n.kind with
    |none=>rw [hj]at hr;cases hr
    |some b=>
      rw [hj,Option.bind_some]at hr;cases b with
      |true=>
        rw [cond_true]at hr;cases e:((p:Int)==IntKind.wrap .i64 ((n.args.length:Int) -1))<;>rw [e]at hr<;>cases hr
        · exact Nat.zero_le _
        · exact hm
      |false=>
        rw [cond_false]at hr;cases e0:(n.kind==23)<;>rw [e0]at hr
        · cases hr;exact Nat.zero_le _
        · rw [cond_true]at hr;by_cases h1:1<=n.names.length
          · rw [if_pos h1,if_pos h1]at hr;cases e:((p:Int)==IntKind.wrap .i64 ((n.args.length:Int) -1))<;>rw [e]at hr
            · cases e2:(n.n==1)<;>rw [e2]at hr<;>cases hr
              · simp;omega
              · exact hm
            · cases hr;simp;omega
          · rw [if_neg h1,if_neg h1]at hr;cases e:((p:Int)==IntKind.wrap .i64 ((n.args.length:Int) -1))<;>rw [e]at hr
            · cases e2:(n.n==1)<;>rw [e2]at hr<;>cases hr;exact hm
            · cases hr
  unfold wG;cases h:gP n (p:Int)with
  |none=>exact Nat.zero_le _
  |some r=>exact key r h
mutual
def vis (b:Nat) (bd:List Str):Tm->List (Nat×List Str)
  | .mk x cs=>(b+sizes cs,bd)::Br b bd (nd x b cs) 0 cs
def Br (b:Nat) (bd:List Str) (n:Nd) (j:Nat):List Tm->List (Nat×List Str)
  |[]=>[]
  |c::cs=>vis b (bd++wG n j) c++Br (b+c.size) bd n (j+1) cs
end
theorem Ga {b:Nat} {bd:List Str} {n:Nd} {j:Nat} {c:Tm} {cs:List Tm}:Br b bd n j (c::cs)=vis b (bd++wG n j) c++Br (b+c.size) bd n (j+1) cs:=by rw [Br]
theorem Qv {b:Nat} {bd:List Str} {x:Nd} {cs:List Tm}:vis b bd (.mk x cs)=(b+sizes cs,bd)::Br b bd (nd x b cs) 0 cs:=by rw [vis]
section
variable {α:Type}
def Aw (step:α->Int->List Str->Option α):List (Nat×List Str)->α->Option α
  |[],a=>some a
  |v::l,a=>Option.bind (step a (v.1:Int) v.2) fun a'=>Aw step l a'
theorem Ni (step:α->Int->List Str->Option α): ∀(l m:List (Nat×List Str)) (a:α),Aw step (l++m) a=Option.bind (Aw step l a) fun a'=>Aw step m a'
  |[],m,a=>rfl
  |v::l,m,a=>by
    rw [List.cons_append,Aw,Aw];cases step a (v.1:Int) v.2 with
    |none=>rfl
    |some a'=>exact Ni step l m a'
structure yu (e:List Nd):Prop where
  len:e.length<=170
  ok: ∀(i:Nat) n,e[i]? =some n->cZ true n=0
  few: ∀(i:Nat) n,e[i]? =some n->n.args.length<=34/\n.names.length<=34
variable {e:List Nd} (hF:yu e) (step:α->Int->List Str->Option α)
include hF
mutual
theorem Zv: ∀(t:Tm) (b:Nat) (bd:List Str) (k:Nat) (a:α),Seg e b t->t.size<=k->bd.length+34*(b+t.size -1)<=10000->wF step e k ((b+t.size -1:Nat):Int) bd a=Aw step (vis b bd t) a
  | .mk x cs,b,bd,k,a,hS,hk,hb=>by
    have hn:=hS.node;have hsz:b+(Tm.mk x cs).size -1=b+sizes cs:=by simp only [size];omega
    rw [hsz]at hb⊢;obtain⟨k,rfl⟩: ∃j,k=j+1:=⟨k -1,by simp only [size]at hk;omega⟩;rw [wF,Qv,Aw];cases step a ((b+sizes cs:Nat):Int) bd with
    |none=>rfl
    |some a'=>
      simp only [Option.bind_some,nn,if_true,Int.toNat_natCast,hn];have hl:(nd x b cs).args.length<=1099511627776:=by have:=(hF.few _ _ hn).1;omega
      rw [if_pos hl];exact VH cs x [] b bd k a' hS (by simp only [size]at hk;omega) (by simp only [List.nil_append];omega)
theorem VH: ∀(cs:List Tm) (x:Nd) (l:List Tm) (b:Nat) (bd:List Str) (k:Nat) (a:α),Seg e b (.mk x (l++cs))->sizes cs<=k->bd.length+34*(b+sizes (l++cs))<=10000->
    F9 (wF step e k) (nd x b (l++cs)) bd l.length (roots (b+sizes l) cs) a=Aw step (Br (b+sizes l) bd (nd x b (l++cs)) l.length cs) a
  |[],x,l,b,bd,k,a,hS,hk,hb=>by rw [roots,F9,Br,Aw]
  |c::cs,x,l,b,bd,k,a,hS,hk,hb=>by
    have hn:=hS.node;have Ay:=hF.few _ _ hn;have hbl:=Lg Ay.2 l.length;have hcp:=c.size_pos;have hsz:sizes (l++c::cs)=sizes l+(c.size+sizes cs):=by rw [dV,sizes]
    rw [hsz]at hb;rw [roots,F9,Ga,Ni,JQ (hF.ok _ _ hn) (by omega),Option.bind_some,if_pos (by omega)];have hk2:sizes (c::cs)=c.size+sizes cs:=by rw [sizes]
    rw [Zv c (b+sizes l) (bd++wG (nd x b (l++c::cs)) l.length) k a hS.kid (by omega) (by rw [List.length_append];omega)];cases Aw step (vis (b+sizes l) (bd++wG (nd x b (l++c::cs)) l.length) c) a with
    |none=>rfl
    |some a'=>
      have e1:l++c::cs=(l++[c])++cs:=by simp
      have e2:l.length+1=(l++[c]).length:=by simp
      have e3:b+sizes l+c.size=b+sizes (l++[c]):=by rw [dV,qA];omega
      rw [Option.bind_some,Option.bind_some,e1,e2,e3];exact VH cs x (l++[c]) b bd k a' (by rw [<-e1];exact hS) (by omega) (by rw [<-e1,hsz];omega)
end
end
end Go.VL
end
section
namespace Go.VL
theorem Lh: ∀a b:Str,strLt a b=true↔a<b
  |[],[]=>by simp [strLt]
  |a::x,[]=>by simp [strLt]
  |[],b::y=>by simp [strLt]
  |a::x,b::y=>by
    rw [strLt,List.cons_lt_cons_iff,Bool.or_eq_true,Bool.and_eq_true,decide_eq_true_eq,beq_iff_eq,Lh x y]
theorem tri (a b:Str):a<b\/a=b\/b<a:=by
  rcases List.le_total a b with h|h
  · by_cases e:a=b
    · exact .inr (.inl e)
    · by_cases h2:a<b
      · exact .inl h2
      · exact absurd (List.le_antisymm h (List.not_lt.1 h2)) e
  · by_cases e:a=b
    · exact .inr (.inl e)
    · by_cases h2:b<a
      · exact .inr (.inr h2)
      · exact absurd (List.le_antisymm (List.not_lt.1 h2) h) e
def sV (s:Str):List Str->List Str
  |[]=>[s]
  |x::l=>if strLt x s=true then x::sV s l else if x=s then x::l else s::x::l
def Jj (l:List Str):List Str:=l.foldl (fun a s=>sV s a) []
theorem Jk {s y:Str}: ∀{l:List Str},y∈sV s l↔y=s\/y∈l
  |[]=>by simp [sV]
  |x::l=>by
    rw [sV];split
    · simp only [List.mem_cons,Jk (l:=l)];constructor
      · rintro(h|h|h)<;>simp [h]
      · rintro(h|h|h)<;>simp [h]
    · split
      · rename_i h;subst h;simp
      · simp
theorem OT {s:Str}: ∀{l:List Str},l.Pairwise (·< ·)->(sV s l).Pairwise (·< ·)
  |[],_=>by simp [sV]
  |x::l,h=>by
    rw [sV];obtain⟨h1,h2⟩:=List.pairwise_cons.1 h;split
    · rename_i hx;refine List.pairwise_cons.2 ⟨fun y hy=> ?_,OT h2⟩;rcases Jk.1 hy with rfl|hy
      · exact(Lh _ _).1 hx
      · exact h1 y hy
    · rename_i hx;split
      · exact h
      · rename_i hne;have hlt:s<x:=by
          rcases tri s x with h|h|h
          · exact h
          · exact absurd h.symm hne
          · exact absurd ((Lh _ _).2 h) hx
        refine List.pairwise_cons.2 ⟨fun y hy=> ?_,h⟩;rcases List.mem_cons.1 hy with rfl|hy
        · exact hlt
        · exact List.lt_trans hlt (h1 y hy)
theorem OU: ∀(l a:List Str),a.Pairwise (·< ·)->(l.foldl (fun a s=>sV s a) a).Pairwise (·< ·)/\ ∀y,y∈l.foldl (fun a s=>sV s a) a↔y∈l\/y∈a
  |[],a,h=>⟨h,fun y=>by simp⟩
  |s::l,a,h=>by
    obtain⟨h1,h2⟩:=OU l (sV s a) (OT h);refine⟨h1,fun y=> ?_⟩;rw [List.foldl_cons,h2 y,Jk,List.mem_cons];constructor
    · rintro(h|h|h)<;>simp [h]
    · rintro((h|h)|h)<;>simp [h]
theorem Zw (l:List Str):(Jj l).Pairwise (·< ·):=(OU l [] List.Pairwise.nil).1
theorem Zx {l:List Str} {y:Str}:y∈Jj l↔y∈l:=by rw [Jj,(OU l [] List.Pairwise.nil).2 y];simp
theorem Zy {l m:List Str} (hl:l.Pairwise (·< ·)) (hm:m.Pairwise (·< ·)) (h: ∀y,y∈l↔y∈m):l=m:=by
  have nd: ∀{l:List Str},l.Pairwise (·< ·)->l.Nodup:=fun h=>h.imp (S:=fun a b=>a≠b) fun{a b} hab e=>List.lt_irrefl a (by rw [<-e]at hab;exact hab)
  have hp:l.Perm m:=(List.perm_ext_iff_of_nodup (nd hl) (nd hm)).2 h
  exact List.Perm.eq_of_pairwise (le:=(·< ·)) (fun a b _ _ h1 h2=>absurd (List.lt_trans h1 h2) (List.lt_irrefl a)) hl hm hp
theorem EJ (d:Array Str) (hd: ∀i j,i<j->j<d.size->d[i]! <=d[j]!): ∀m,m<=d.size->(Lib.compactUpTo d m).Pairwise (·< ·)/\(∀x∈Lib.compactUpTo d m,∃j,j<m/\x=d[j]!)/\(∀j,j<m->d[j]! ∈Lib.compactUpTo d m)
  |0,_=>⟨List.Pairwise.nil,fun x h=>(by simp [Lib.compactUpTo]at h),fun j h=>absurd h (Nat.not_lt_zero _)⟩
  |m+1,hm=>by
    obtain⟨h1,h2,h3⟩:=EJ d hd m (by omega);rw [Lib.compactUpTo_succ];cases hk:Lib.keeps d m with
    |true=>
      rw [if_pos rfl];refine⟨List.pairwise_append.2 ⟨h1,List.pairwise_singleton _ _,fun a ha b hb=> ?_⟩,fun x hx=> ?_,fun j hj=> ?_⟩
      · rw [List.mem_singleton]at hb;subst hb;obtain⟨j,hj,rfl⟩:=h2 a ha;have hne:d[m]! ≠d[m -1]! :=by
          unfold Lib.keeps at hk;rw [decide_eq_true_eq]at hk;rcases hk with h|h
          · omega
          · exact h
        have h4:d[j]! <=d[m -1]! :=by
          by_cases e:j=m -1
          · rw [e];exact List.le_refl _
          · exact hd j (m -1) (by omega) (by omega)
        have h5:d[m -1]! <=d[m]! :=hd (m -1) m (by omega) (by omega);have h6:d[m -1]! <d[m]! :=by
          rcases tri d[m -1]! d[m]! with h|h|h
          · exact h
          · exact absurd h.symm hne
          · exact absurd (List.le_antisymm h5 (List.le_of_lt h)).symm hne
        rcases tri d[j]! d[m]! with h|h|h
        · exact h
        · rw [h]at h4;exact absurd (List.le_antisymm h4 h5) hne
        · have h7:=List.lt_trans h6 h;exact absurd (List.le_antisymm h4 (List.le_of_lt h7)) (fun e=>List.lt_irrefl _ (e▸h7))
      · rcases List.mem_append.1 hx with hx|hx
        · obtain⟨j,hj,e⟩:=h2 x hx;exact⟨j,by omega,e⟩
        · rw [List.mem_singleton]at hx;exact⟨m,Nat.lt_succ_self _,hx⟩
      · by_cases e:j=m
        · subst e;exact List.mem_append_right _ (List.mem_singleton.2 rfl)
        · exact List.mem_append_left _ (h3 j (by omega))
    |false=>
      rw [if_neg (by simp),List.append_nil];refine⟨h1,fun x hx=> ?_,fun j hj=> ?_⟩
      · obtain⟨j,hj,e⟩:=h2 x hx;exact⟨j,by omega,e⟩
      · by_cases e:j=m
        · subst e;unfold Lib.keeps at hk;rw [decide_eq_false_iff_not,not_or,Decidable.not_not]at hk;rw [hk.2];exact h3 (j -1) (by omega)
        · exact h3 j (by omega)
theorem Zz (l:List Str):Lib.compact (l.mergeSort fun x y=>decide (x<=y))=Jj l:=by
  have tr: ∀a b c:Str,decide (a<=b)=true->decide (b<=c)=true->decide (a<=c)=true:=fun a b c h1 h2=>by simp only [decide_eq_true_eq]at*;exact List.le_trans h1 h2
  have tot: ∀a b:Str,(decide (a<=b)||decide (b<=a))=true:=fun a b=>by simp only [Bool.or_eq_true,decide_eq_true_eq];exact List.le_total a b
  have hs:=List.pairwise_mergeSort (le:=fun x y:Str=>decide (x<=y)) tr tot l;have hp:=List.mergeSort_perm l (fun x y:Str=>decide (x<=y));generalize(l.mergeSort fun x y=>decide (x<=y))=m at hs hp;have hd: ∀i j,i<j->j<m.toArray.size->m.toArray[i]! <=m.toArray[j]! :=fun i j hij hj=>by
    have hj':j<m.length:=by simpa using hj
    have:=List.pairwise_iff_getElem.1 hs i j (by omega) hj' hij;rw [decide_eq_true_eq]at this;simp [hj',show i<m.length by omega];exact this
  obtain⟨h1,h2,h3⟩:=EJ m.toArray hd m.length (by simp);refine Zy h1 (Zw l) fun y=> ?_;rw [Zx,<-hp.mem_iff];constructor
  · intro h;obtain⟨j,hj,rfl⟩:=h2 y h;simp [hj]
  · intro h;obtain⟨j,hj,rfl⟩:=List.getElem_of_mem h;have:=h3 j hj;unfold Lib.compact;simpa [hj]using this
end Go.VL
end
section
set_option maxRecDepth 8000
set_option maxHeartbeats 4000000
namespace Go.VL
open Go.Proofs
def iV:Nat->(List Nd)->(List Str)->Int->Option (List Str)
  |0,_,_,_=>none
  |k+1,aH,gN,gD=>
    cond (decide (gD<(aH.length:Int))) (if 0<=gD then Option.bind (aH[gD.toNat]?) fun x3=>Option.bind (yJ k x3) fun p6=>cond p6 (Option.bind (vT k aH gD) fun p9=>Option.bind (l9 k p9 x3.text) fun l6=>cond l6 (iV k aH gN (IntKind.wrap .i64 (gD+1))) (Option.bind (Qu k gN x3.text) fun kD=>iV k aH kD (IntKind.wrap .i64 (gD+1)))) (iV k aH gN (IntKind.wrap .i64 (gD+1)))else none) (some (gN))
def Li:List Nat:=List.range' 3 32
theorem WY: ∀(k:Nat) (aH:List Nd) (gN:List Str) (gD:Int) (jB:Ck) (aC σ:Nat->PV) (H:AH) (f0:Fr Li aC σ) (sl:σ 0=(.aA (aH.map Nd.cells) .unk)/\σ 3=(.aA (gN.map aI) jB)/\σ 4=(.int .i64 gD)) (o:List Str) (h:iV k aH gN gD=some o) (Q:Post) (q0: ∀(p:List Str) (c0:Ck) (σ':Nat->PV),o=p->Fr Li aC σ'->(σ' 3=(.aA (p.map aI) c0))->Q (.exit 0) σ' H),W Tryz.prog (.loop RU) Q σ H:=by
  intro k
  induction k with
  |zero=>intro aH gN gD jB aC σ H f0 sl o h Q q0;simp only [iV,reduceCtorEq]at h
  |succ k ih=>
    intro aH gN gD jB aC σ H f0 sl o h Q q0;obtain⟨s0,s3,s4⟩:=sl;unfold iV at h;refine aT (fun K hK=>aD ?_);unfold RU;rcases au h with⟨e1,h⟩|⟨e1,h⟩
    ·try refine ah ?_
     refine eO ?_;obtain⟨e2,h⟩:=aP h;obtain⟨x3,e4,h⟩:=aj h;obtain⟨p6,e5,h⟩:=aj h;try refine ah ?_
     refine PC.mk (Vo e5) ?_;rcases au h with⟨e7,h⟩|⟨e7,h⟩
     ·obtain⟨p9,e8,h⟩:=aj h;try refine ah ?_
      refine PC.mk (aa8 e8) ?_;obtain⟨l6,e10,h⟩:=aj h;try refine ah ?_
      refine aB (za e10) ?_;rcases au h with⟨e12,h⟩|⟨e12,h⟩
      ·try refine ah ?_
       refine hK _ _ ?_;exact ih aH gN (IntKind.wrap .i64 (gD+1)) jB _ _ _ aJ av _ h _ q0
      ·obtain⟨kD,e13,h⟩:=aj h;try refine ah ?_
       refine aB (alF e13) ?_;try refine ah ?_
       refine hK _ _ ?_;exact ih aH kD (IntKind.wrap .i64 (gD+1)) .unk _ _ _ aJ av _ h _ q0
     ·try refine ah ?_
      refine hK _ _ ?_;exact ih aH gN (IntKind.wrap .i64 (gD+1)) jB _ _ _ aJ av _ h _ q0
    ·obtain rfl:=ak h;try refine ah ?_
     exact q0 _ jB _ rfl aJ av
def vU (k:Nat) (aH:List Nd):Option (List Str):=
  Option.bind (iV k aH ([]:List Str) 0) (fun Hq=>some Hq)
theorem adV {k:Nat} {aH:List Nd} {c0:Ck} {r:List Str} (h:vU k aH=some r):aF Tryz.prog 34 [(.aA (aH.map Nd.cells) c0)] (.aA (r.map aI) .unk):=by
  refine aF.lw (.aA .nil) (aF.aQ (bf.mem (.cons (aU Nd.pu _) .nil)) (aG auI (by simp) (aD ?_)) (aU bg _));unfold vU at h;unfold ank;try refine ah ?_
  obtain⟨o15,h16,h⟩:=aj h;refine WY k aH ([]:List Str) 0 .nil _ _ _ (Fr.refl _ _) av _ h16 _ ?_
  ·rintro Hq c21 σ' eo aoz s22;rw [eo]at h;obtain rfl:=ak h;try refine ah ?_
   exact(d9 bg _ _)
end Go.VL
end
section
namespace Go.VL
def nB (s:Str):List Str->Nat
  |[]=>0
  |x::l=>if strLt x s=true then nB s l+1 else 0
theorem adW (s:Str): ∀l,nB s l<=l.length
  |[]=>Nat.le_refl _
  |x::l=>by
    rw [nB];split
    · have:=adW s l;simp only [List.length_cons];omega
    · omega
theorem UH (s:Str): ∀l,sV s l=if l[nB s l]? =some s then l else l.take (nB s l)++s::l.drop (nB s l)
  |[]=>by simp [sV,nB]
  |x::l=>by
    rw [sV,nB];by_cases h:strLt x s=true
    · rw [if_pos h,if_pos h,UH s l];simp only [List.getElem?_cons_succ,List.take_succ_cons,List.drop_succ_cons];split<;>rfl
    · rw [if_neg h,if_neg h];by_cases h2:x=s
      · subst h2;simp
      · simp [h2]
theorem aa9 (l:List Str) (s:Str) (hl:l.length<=1000000):Ev (fun k=>sU k l s ((0:Nat):Int)) (((0+nB s (l.drop 0):Nat):Int)):=by
  refine lC (len:=l.length) (p:=fun i=>Ev (fun k=>sU k l s (i:Int)) (((i+nB s (l.drop i):Nat):Int))) ?_ fun i hi ih=> ?_
  · refine Ev.succ ?_;simp only [sU];exact Ev.cF (jJ _) (Ev.some' (by simp [nB]))
  · refine Ev.succ ?_;simp only [sU,Int.toNat_natCast,bG hi,Option.bind_some,nn,if_true,kW hi,cond_true,eF hi (show l.length<=1099511627776 by omega)];rw [drop_cons hi,nB];by_cases h:strLt l[i] s=true
    · refine Ev.cT h (ih.to ?_);rw [if_pos h];omega
    · refine Ev.cF (by simpa using h) (Ev.some' ?_);rw [if_neg h];rfl
theorem ah5 (l:List Str) (s:Str) (hl:l.length<=1000000):Ev (fun k=>Qu k l s) (sV s l):=by
  have h0:=aa9 l s hl;rw [List.drop_zero,Nat.zero_add]at h0;have hle:=adW s l;unfold Qu;refine Ev.bind h0 ?_;rw [UH];have e1:(([]:List Str).length+(l.take (nB s l)).length)*16<=1099511627776:=by simp;omega
  have e2:((([]:List Str)++(l.take (nB s l))).length+1)*16<=1099511627776:=by simp;omega
  have e3:(((([]:List Str)++(l.take (nB s l)))++[s]).length+(l.drop (nB s l)).length)*16<=1099511627776:=by simp;omega
  have e4:(0:Int)<=((nB s l:Nat):Int)/\nB s l<=l.length:=⟨by omega,hle⟩;have tail:Ev (fun _:Nat=>if(0:Int)<=((nB s l:Nat):Int)/\nB s l<=l.length then(if(([]:List Str).length+(l.take (nB s l)).length)*16<=1099511627776 then(if((([]:List Str)++(l.take (nB s l))).length+1)*16<=1099511627776 then(if(((([]:List Str)++(l.take (nB s l)))++[s]).length+(l.drop (nB s l)).length)*16<=1099511627776 then some (((([]:List Str)++(l.take (nB s l)))++[s])++(l.drop (nB s l)))else none)else none)else none)else none) (l.take (nB s l)++s::l.drop (nB s l)):=by
    rw [if_pos e4,if_pos e1,if_pos e2,if_pos e3];exact Ev.some' (by simp)
  by_cases h:nB s l<l.length
  · simp only [Int.toNat_natCast,bG h,Option.bind_some,nn,if_true];refine Ev.cT (kW h) ?_;by_cases h2:l[nB s l]=s
    · refine Ev.cT (by rw [beq_iff_eq];exact h2) (Ev.some' ?_);rw [if_pos (by rw [h2])]
    · refine Ev.cF (by rw [beq_eq_false_iff_ne];exact h2) ?_;refine Ev.to ?_ (if_neg (fun e=>h2 (Option.some.inj e))).symm;simpa only [nn,true_and]using tail
  · have h2:l[nB s l]? =none:=List.getElem?_eq_none (by omega);simp only [Int.toNat_natCast];refine Ev.cF (decide_eq_false (by omega)) ?_;exact Ev.to tail (if_neg (fun e=>by rw [h2]at e;cases e)).symm
theorem ZA (s:Str) (l:List Str):(sV s l).length<=l.length+1:=by
  rw [UH];split
  · omega
  · have:=adW s l;simp;omega
end Go.VL
end
section
namespace Go.VL
inductive Lx:List PV->List PV->Prop where
  |nil:Lx [] []
  |same {p:PV} {l m:List PV} (h:Lx l m):Lx (p::l) (p::m)
  |aA {es:List (List PV)} {c:Ck} {l m:List PV} (h:Lx l m):Lx (.aA es c::l) (.aA es .unk::m)
  |agg {cs ds l m:List PV} (h0:Lx cs ds) (h:Lx l m):Lx (.agg cs::l) (.agg ds::m)
theorem Lx.get {l m:List PV} (h:Lx l m):l.length=m.length/\ ∀(j:Nat) (q:PV),m[j]? =some q-> ∃p,l[j]? =some p/\ ∀(G:Gh) (n:Nat) (v:Value),V G n p v->V G n q v:=by
  induction h with
  |nil=>exact⟨rfl,fun j q e=>by simp at e⟩
  |same _ ih=>
    refine⟨by simp [ih.1],fun j q e=> ?_⟩;cases j with
    |zero=>simp at e;subst e;exact⟨_,rfl,fun _ _ _ h=>h⟩
    |succ j=>simp at e;simpa using ih.2 j q e
  |aA _ ih=>
    refine⟨by simp [ih.1],fun j q e=> ?_⟩;cases j with
    |zero=>simp at e;subst e;exact⟨_,rfl,fun _ _ _ h=>h.wk⟩
    |succ j=>simp at e;simpa using ih.2 j q e
  | @agg cs ds _ _ _ _ ih0 ih=>
    refine⟨by simp [ih.1],fun j q e=> ?_⟩;cases j with
    |zero=>
      simp at e;subst e;refine⟨_,rfl,fun G n v h=> ?_⟩;generalize hp:PV.agg cs=p at h;cases h with
      |agg cs' vs h1 h2=>
        cases hp;refine .agg ds vs (h1.trans ih0.1) fun j c x hc hx=> ?_;obtain⟨p,e1,e2⟩:=ih0.2 j c hc;exact e2 _ _ _ (h2 j p x e1 hx)
      |_=>cases hp
    |succ j=>simp at e;simpa using ih.2 j q e
variable [Glob]
theorem bC.wx {P:Program} {H:AH} {f:FuncId} {args args':List PV} {k:PV->AH->Prop} (h:bC P f args H k) (hw:Lx args' args):bC P f args' H k:=by
  obtain⟨h1,h2⟩:=hw.get;refine⟨h.enters,fun B G w vs hU hM hv=>h.call B G w vs hU hM ⟨hv.1.trans h1,fun j c x hc hx=> ?_⟩⟩;obtain⟨p,e,hp⟩:=h2 j c hc;exact hp _ _ _ (hv.2 j p x e hx)
theorem aF.wx {P:Program} {f:FuncId} {args args':List PV} {r:PV} (h:aF P f args r) (hw:Lx args' args):aF P f args' r:=fun H=>(h H).wx hw
end Go.VL
end
section
set_option maxRecDepth 8000
set_option maxHeartbeats 4000000
namespace Go.VL
open Go.Proofs
def mW (k:Nat) (aY:Nd):Option Bool:=
  Option.bind (jV k aY.text) fun p2=>cond (aY.kind==2) (Option.bind (Cq aY.text) fun p5=>cond p5 (cond (aY.kind==3) (some (!p2.2)) (some false)) (some true)) (cond (aY.kind==3) (some (!p2.2)) (some false))
theorem Nj {k:Nat} {aY:Nd} {r:Bool} (h:mW k aY=some r):aF Tryz.prog 80 [(.agg (Nd.cells aY))] (.bool r):=by
  refine aF.aQ (bf.mem (.cons (.agg _ (Nd.pu _)) .nil)) (aG ahf (by simp) (aD ?_)) (.bool _);unfold mW at h;unfold anZ;obtain⟨p2,e1,h⟩:=aj h;try refine ah ?_
  refine aB (oH e1) ?_;rcases au h with⟨e3,h⟩|⟨e3,h⟩
  ·obtain⟨p5,e4,h⟩:=aj h;try refine ah ?_
   refine aB (Na e4) ?_;rcases au h with⟨e6,h⟩|⟨e6,h⟩
   ·rcases au h with⟨e7,h⟩|⟨e7,h⟩
    ·obtain rfl:=ak h;try refine ah ?_
     exact(.pure _ (.bool _))
    ·obtain rfl:=ak h;try refine ah ?_
     exact(.pure _ (.bool _))
   ·obtain rfl:=ak h;try refine ah ?_
    exact(.pure _ (.bool _))
  ·rcases au h with⟨e8,h⟩|⟨e8,h⟩
   ·obtain rfl:=ak h;try refine ah ?_
    exact(.pure _ (.bool _))
   ·obtain rfl:=ak h;try refine ah ?_
    exact(.pure _ (.bool _))
def lD (dI:Int):Option Bool:=
  cond (dI !=16) (some (dI !=17)) (some false)
theorem ZB {dI:Int} {r:Bool} (h:lD dI=some r):aF Tryz.prog 182 [(.int .i64 dI)] (.bool r):=by
  refine aF.aQ (bf.mem (.cons (.int _ _) .nil)) (aG ar8 (by simp) (aD ?_)) (.bool _);unfold lD at h;unfold ajC;rcases au h with⟨e1,h⟩|⟨e1,h⟩
  ·obtain rfl:=ak h;try refine ah ?_
   exact(.pure _ (.bool _))
  ·obtain rfl:=ak h;try refine ah ?_
   exact(.pure _ (.bool _))
def EK (s_0:Str):Option (List Nd):=
  some [(Nd.mk 2 0 s_0 [] [])]
theorem Jl {s_0:Str} {r:List Nd} (h:EK s_0=some r):aF Tryz.prog 89 [(.str s_0)] (.aA (r.map Nd.cells) .unk):=by
  refine aF.aQ (bf.mem (.cons (.str _) .nil)) (aG ave (by simp) (aD ?_)) (aU Nd.pu _);unfold EK at h;unfold an6;obtain rfl:=ak h;try refine ah ?_
  exact(d9 Nd.pu [(Nd.mk 2 0 s_0 [] [])] _)
def rW:Nat->Int->Int->Int->Str->(List Str)->(List Int)->(List Int)->Int->Option (List Int)
  |0,_,_,_,_,_,_,_,_=>none
  |k+1,jX,EL,EM,EN,EO,Az,uh,GR=>
    cond (decide (GR<(Az.length:Int))) (if 0<=GR then Option.bind (Az[GR.toNat]?) fun x15=>if(uh.length+1)*8<=1099511627776 then rW k jX EL EM EN EO Az (uh++[(IntKind.wrap .i64 (x15+jX))]) (IntKind.wrap .i64 (GR+1))else none else none) (some (uh))
def Qw:List Nat:=[11,12]++List.range' 47 17
theorem abb: ∀(k:Nat) (Cu:Nat) (jX:Int) (EL:Int) (EM:Int) (EN:Str) (EO:List Str) (Az:List Int) (uh:List Int) (GR:Int) (mX:Ck) (kR:Ck) (wH:Ck) (aC σ:Nat->PV) (H0 H:AH) (f0:Fr Qw aC σ) (hf0:HF [] H0 H) (sl:σ 8=(.int .i64 jX)/\σ 10=(.ref (Cu) 0)/\σ 11=(.aA (uh.map aX) mX)/\σ 12=(.int .i64 GR)/\H.obj Cu=some [(.int .i64 EL),(.int .i64 EM),(.str EN),(.aA (EO.map aI) .unk),(.aA (Az.map aX) .unk)]) (Jm:Cu<H.next) (Qx:bn H mX) (Gb:bn H kR) (akb:bn H wH) (pU:kI mX kR) (pV:kI mX wH) (qB:kI kR wH) (o:List Int) (h:rW k jX EL EM EN EO Az uh GR=some o) (Q:Post) (q0: ∀(p:List Int) (c0:Ck) (σ':Nat->PV) (H':AH),o=p->Fr Qw aC σ'->HF [] H0 H'->(σ' 11=(.aA (p.map aX) c0))->bn H' kR->bn H' wH->kI kR wH->Q (.exit 4) σ' H'),W Tryz.prog (.loop SV) Q σ H:=by
  intro k
  induction k with
  |zero=>intro Cu jX EL EM EN EO Az uh GR mX kR wH aC σ H0 H f0 hf0 sl Jm Qx Gb akb pU pV qB o h Q q0;simp only [rW,reduceCtorEq]at h
  |succ k ih=>
    intro Cu jX EL EM EN EO Az uh GR mX kR wH aC σ H0 H f0 hf0 sl Jm Qx Gb akb pU pV qB o h Q q0;obtain⟨s8,s10,s11,s12,awk⟩:=sl;have awl:=ne_next Jm;have awm:=aV Jm;have hle0:=hf0.1;unfold rW at h;refine aT (fun K hK=>aD ?_);unfold SV;rcases au h with⟨e13,h⟩|⟨e13,h⟩
    ·obtain⟨e14,h⟩:=aP h;obtain⟨x15,e16,h⟩:=aj h;obtain⟨e21,h⟩:=aP h;try refine ah ?_
     refine gu (f:=aX) He uh ([(IntKind.wrap .i64 (x15+jX))]:List Int) mX .exact av av fG (by first|exact e21|(simp only [List.length_cons,List.length_nil];exact e21)) (fun c17 H18 ap5 le awn ah4=> ?_);have awo:HF [] _ H18:=⟨le,fun i _ _=>awn i⟩;try simp only [AH.aK,AH.aL,AH.aM,AH.aN]at le
     obtain⟨ana,awp⟩:=ah4 kR fG pU;obtain⟨av9,awq⟩:=ah4 wH fG pV;have n28:=ne_next (show Cu<H18.next by first|omega|(simp only [AH.aK,AH.aL,AH.aM,AH.aN];omega));have m29:=aV (show Cu<H18.next by first|omega|(simp only [AH.aK,AH.aL,AH.aM,AH.aN];omega));try refine ah ?_
     refine hK _ _ ?_;exact ih Cu jX EL EM EN EO Az (uh++[(IntKind.wrap .i64 (x15+jX))]) (IntKind.wrap .i64 (GR+1)) c17 kR wH _ _ _ _ aJ (by repeat (first|exact hf0|refine HF.new ?_|refine HF.fI ?_|refine HF.used ?_|refine HF.put (by first|(right;omega)|(left;simp only [List.mem_cons,true_or,or_true])) ?_|refine HF.via awo (by first|exact fun i hi=>absurd hi List.not_mem_nil|(intro i hi;simp only [List.mem_cons,List.not_mem_nil,or_false]at hi⊢;first|exact .inl hi|omega)) ?_)) av bQ fG fG fG awp awq qB _ h _ q0
    ·obtain rfl:=ak h;try refine ah ?_
     exact q0 _ mX _ _ rfl aJ (by repeat (first|exact hf0|refine HF.new ?_|refine HF.fI ?_|refine HF.used ?_|refine HF.put (by first|(right;omega)|(left;simp only [List.mem_cons,true_or,or_true])) ?_)) av fG fG qB
def rX:Nat->(List (List Nd))->(List Nd)->Int->Int->Int->Option (List Nd)
  |0,_,_,_,_,_=>none
  |k+1,bF,iy,gM,jX,wR=>
    if 0<=gM then Option.bind (bF[gM.toNat]?) fun x5=>cond (decide (wR<(x5.length:Int))) (if 0<=wR then Option.bind (x5[wR.toNat]?) fun x9=>Option.bind (kg x9.names) fun lT=>Option.bind (rW k jX x9.kind x9.n x9.text lT x9.args ([]:List Int) 0) (fun p32=>if(iy.length+1)*80<=1099511627776 then rX k bF (iy++[(Nd.mk x9.kind x9.n x9.text lT p32)]) gM jX (IntKind.wrap .i64 (wR+1))else none)else none) (some (iy))else none
def Qy:List Nat:=[5,9,10,11,12]++List.range' 27 43
theorem abd: ∀(k:Nat) (bF:List (List Nd)) (iy:List Nd) (gM:Int) (jX:Int) (wR:Int) (nS:Ck) (wI:Ck) (aC σ:Nat->PV) (H0 H:AH) (f0:Fr Qy aC σ) (hf0:HF [] H0 H) (sl:σ 1=(.aA (bF.map (CZ Nd.cells)) .unk)/\σ 5=(.aA (iy.map Nd.cells) nS)/\σ 7=(.int .i64 gM)/\σ 8=(.int .i64 jX)/\σ 9=(.int .i64 wR)) (EP:bn H nS) (Gb:bn H wI) (nk:kI nS wI) (o:List Nd) (h:rX k bF iy gM jX wR=some o) (Q:Post) (q0: ∀(p:List Nd) (c0:Ck) (σ':Nat->PV) (H':AH),o=p->Fr Qy aC σ'->HF [] H0 H'->(σ' 5=(.aA (p.map Nd.cells) c0))->bn H' c0->bn H' wI->kI c0 wI->Q (.exit 2) σ' H'),W Tryz.prog (.loop SX) Q σ H:=by
  intro k
  induction k with
  |zero=>intro bF iy gM jX wR nS wI aC σ H0 H f0 hf0 sl EP Gb nk o h Q q0;simp only [rX,reduceCtorEq]at h
  |succ k ih=>
    intro bF iy gM jX wR nS wI aC σ H0 H f0 hf0 sl EP Gb nk o h Q q0;obtain⟨s1,s5,s7,s8,s9⟩:=sl;have hle0:=hf0.1;unfold rX at h;refine aT (fun K hK=>aD ?_);unfold SX;obtain⟨e4,h⟩:=aP h;obtain⟨x5,e6,h⟩:=aj h;rcases au h with⟨e7,h⟩|⟨e7,h⟩
    ·obtain⟨e8,h⟩:=aP h;obtain⟨x9,e10,h⟩:=aj h;obtain⟨lT,e11,h⟩:=aj h;try refine ah ?_
     refine aB (zK e11) ?_;try refine ah ?_
     obtain⟨o30,h31,h⟩:=aj h;refine abb k (H.next) jX x9.kind x9.n x9.text lT x9.args ([]:List Int) 0 .nil nS wI _ _ _ _ (Fr.refl _ _) (HF.refl _ _) av bQ fG fG fG kI.nil kI.nil nk _ h31 _ ?_
     ·rintro p32 c36 σ' H35 eo uq ah6 s37 apz aA7 awr;rw [eo]at h;have s41:σ' 1=(.aA (bF.map (CZ Nd.cells)) .unk):=(uq 1 (by decide)).trans av;have s42:σ' 5=(.aA (iy.map Nd.cells) nS):=(uq 5 (by decide)).trans av;have s43:σ' 7=(.int .i64 gM):=(uq 7 (by decide)).trans av;have s44:σ' 8=(.int .i64 jX):=(uq 8 (by decide)).trans av;have s45:σ' 9=(.int .i64 wR):=(uq 9 (by decide)).trans av;have s46:σ' 10=(.ref (H.next) 0):=(uq 10 (by decide)).trans av;have le:=ah6.1;try simp only [AH.aK,AH.aL,AH.aM,AH.aN]at le
      have g47:H35.obj (H.next)=some [(.int .i64 x9.kind),(.int .i64 x9.n),(.str x9.text),(.aA (lT.map aI) .unk),(.aA (x9.args.map aX) .unk)]:=(ah6.2 _ bQ (by first|exact List.not_mem_nil|(simp only [List.mem_cons,List.not_mem_nil,or_false,not_or];omega))).trans av;have n48:=ne_next (show H.next<H35.next by first|omega|(simp only [AH.aK,AH.aL,AH.aM,AH.aN];omega));have m49:=aV (show H.next<H35.next by first|omega|(simp only [AH.aK,AH.aL,AH.aM,AH.aN];omega));obtain⟨e54,h⟩:=aP h;try refine ah ?_
      refine gu (f:=Nd.cells) Nd.row iy ([(Nd.mk x9.kind x9.n x9.text lT p32)]:List Nd) nS .exact av av fG (by first|exact e54|(simp only [List.length_cons,List.length_nil];exact e54)) (fun c50 H51 R9 le ah3 awt=> ?_);have adT:HF [] _ H51:=⟨le,fun i _ _=>ah3 i⟩;try simp only [AH.aK,AH.aL,AH.aM,AH.aN]at le
      obtain⟨ahc,awu⟩:=awt wI fG awr;have n59:=ne_next (show H.next<H51.next by first|omega|(simp only [AH.aK,AH.aL,AH.aM,AH.aN];omega));have m60:=aV (show H.next<H51.next by first|omega|(simp only [AH.aK,AH.aL,AH.aM,AH.aN];omega));try refine ah ?_
      refine hK _ _ ?_;exact ih bF (iy++[(Nd.mk x9.kind x9.n x9.text lT p32)]) gM jX (IntKind.wrap .i64 (wR+1)) c50 wI _ _ _ _ (by repeat (first|exact f0|refine Fr.upd (by decide) ?_|refine Fr.via uq (by decide) ?_)) (by repeat (first|exact hf0|refine HF.new ?_|refine HF.fI ?_|refine HF.used ?_|refine HF.put (by first|(right;omega)|(left;simp only [List.mem_cons,true_or,or_true])) ?_|refine HF.via ah6 (by first|exact fun i hi=>absurd hi List.not_mem_nil|(intro i hi;simp only [List.mem_cons,List.not_mem_nil,or_false]at hi⊢;first|exact .inl hi|omega)) ?_|refine HF.via adT (by first|exact fun i hi=>absurd hi List.not_mem_nil|(intro i hi;simp only [List.mem_cons,List.not_mem_nil,or_false]at hi⊢;first|exact .inl hi|omega)) ?_)) av fG fG awu _ h _ q0
    ·obtain rfl:=ak h;try refine ah ?_
     exact q0 _ nS _ _ rfl aJ (by repeat (first|exact hf0|refine HF.new ?_|refine HF.fI ?_|refine HF.used ?_|refine HF.put (by first|(right;omega)|(left;simp only [List.mem_cons,true_or,or_true])) ?_)) av fG fG nk
def rY:Nat->(List (List Nd))->(List Nd)->Int->Int->Str->(List Str)->(List Int)->Int->Option (((List Nd)×Int×Int×Str×(List Str)×(List Int)))
  |0,_,_,_,_,_,_,_,_=>none
  |k+1,bF,iy,Dv,Dw,Dx,Dy,AA,gM=>
    cond (decide (gM<(bF.length:Int))) (Option.bind (rX k bF iy gM (iy.length:Int) 0) (fun p63=>if(AA.length+1)*8<=1099511627776 then rY k bF p63 Dv Dw Dx Dy (AA++[(IntKind.wrap .i64 ((p63.length:Int) -1))]) (IntKind.wrap .i64 (gM+1))else none)) (some ((iy,Dv,Dw,Dx,Dy,AA)))
def Qz:List Nat:=[5,7,8,9,10,11,12]++List.range' 19 59
theorem abe: ∀(k:Nat) (sW:Nat) (bF:List (List Nd)) (iy:List Nd) (Dv:Int) (Dw:Int) (Dx:Str) (Dy:List Str) (AA:List Int) (gM:Int) (sZ:Ck) (nT:Ck) (aC σ:Nat->PV) (H0 H:AH) (f0:Fr Qz aC σ) (hf0:HF [sW] H0 H) (sl:σ 1=(.aA (bF.map (CZ Nd.cells)) .unk)/\σ 5=(.aA (iy.map Nd.cells) sZ)/\σ 6=(.ref (sW) 0)/\σ 7=(.int .i64 gM)/\H.obj sW=some [(.int .i64 Dv),(.int .i64 Dw),(.str Dx),(.aA (Dy.map aI) .unk),(.aA (AA.map aX) nT)]) (Mi:sW<H.next) (EP:bn H sZ) (ZC:bn H nT) (pE:kI sZ nT) (o:((List Nd)×Int×Int×Str×(List Str)×(List Int))) (h:rY k bF iy Dv Dw Dx Dy AA gM=some o) (Q:Post) (q0: ∀(p:(List Nd)×Int×Int×Str×(List Str)×(List Int)) (c0:Ck) (c5:Ck) (σ':Nat->PV) (H':AH),o=p->Fr Qz aC σ'->HF [sW] H0 H'->(σ' 5=(.aA (p.1.map Nd.cells) c0)/\H'.obj sW=some [(.int .i64 p.2.1),(.int .i64 p.2.2.1),(.str p.2.2.2.1),(.aA (p.2.2.2.2.1.map aI) .unk),(.aA (p.2.2.2.2.2.map aX) c5)])->bn H' c0->Q (.exit 0) σ' H'),W Tryz.prog (.loop SY) Q σ H:=by
  intro k
  induction k with
  |zero=>intro sW bF iy Dv Dw Dx Dy AA gM sZ nT aC σ H0 H f0 hf0 sl Mi EP ZC pE o h Q q0;simp only [rY,reduceCtorEq]at h
  |succ k ih=>
    intro sW bF iy Dv Dw Dx Dy AA gM sZ nT aC σ H0 H f0 hf0 sl Mi EP ZC pE o h Q q0;obtain⟨s1,s5,s6,s7,axg⟩:=sl;have axh:=ne_next Mi;have axi:=aV Mi;have hle0:=hf0.1;unfold rY at h;refine aT (fun K hK=>aD ?_);unfold SY;rcases au h with⟨e3,h⟩|⟨e3,h⟩
    ·try refine ah ?_
     obtain⟨o61,h62,h⟩:=aj h;refine abd k bF iy gM (iy.length:Int) 0 sZ nT _ _ _ _ (Fr.refl _ _) (HF.refl _ _) av fG fG pE _ h62 _ ?_
     ·rintro p63 c67 σ' H66 eo Gz adU s69 ahd ahe awv;rw [eo]at h;have s72:σ' 1=(.aA (bF.map (CZ Nd.cells)) .unk):=(Gz 1 (by decide)).trans av;have s73:σ' 6=(.ref (sW) 0):=(Gz 6 (by decide)).trans av;have s74:σ' 7=(.int .i64 gM):=(Gz 7 (by decide)).trans av;have le:=adU.1;try simp only [AH.aK,AH.aL,AH.aM,AH.aN]at le
      have g75:H66.obj (sW)=some [(.int .i64 Dv),(.int .i64 Dw),(.str Dx),(.aA (Dy.map aI) .unk),(.aA (AA.map aX) nT)]:=(adU.2 _ bQ (by first|exact List.not_mem_nil|(simp only [List.mem_cons,List.not_mem_nil,or_false,not_or];omega))).trans av;have n76:=ne_next (show sW<H66.next by first|omega|(simp only [AH.aK,AH.aL,AH.aM,AH.aN];omega));have m77:=aV (show sW<H66.next by first|omega|(simp only [AH.aK,AH.aL,AH.aM,AH.aN];omega));obtain⟨e82,h⟩:=aP h;try refine ah ?_
      refine gu (f:=aX) He AA ([(IntKind.wrap .i64 ((p63.length:Int) -1))]:List Int) nT .exact av av fG (by first|exact e82|(simp only [List.length_cons,List.length_nil];exact e82)) (fun c78 H79 ahf le aww awx=> ?_);have awy:HF [] _ H79:=⟨le,fun i _ _=>aww i⟩;try simp only [AH.aK,AH.aL,AH.aM,AH.aN]at le
      obtain⟨aA8,awz⟩:=awx c67 fG (kI.symm awv);have n87:=ne_next (show sW<H79.next by first|omega|(simp only [AH.aK,AH.aL,AH.aM,AH.aN];omega));have m88:=aV (show sW<H79.next by first|omega|(simp only [AH.aK,AH.aL,AH.aM,AH.aN];omega));try refine ah ?_
      refine hK _ _ ?_;exact ih sW bF p63 Dv Dw Dx Dy (AA++[(IntKind.wrap .i64 ((p63.length:Int) -1))]) (IntKind.wrap .i64 (gM+1)) c67 c78 _ _ _ _ (by repeat (first|exact f0|refine Fr.upd (by decide) ?_|refine Fr.via Gz (by decide) ?_)) (by repeat (first|exact hf0|refine HF.new ?_|refine HF.fI ?_|refine HF.used ?_|refine HF.put (by first|(right;omega)|(left;simp only [List.mem_cons,true_or,or_true])) ?_|refine HF.via adU (by first|exact fun i hi=>absurd hi List.not_mem_nil|(intro i hi;simp only [List.mem_cons,List.not_mem_nil,or_false]at hi⊢;first|exact .inl hi|omega)) ?_|refine HF.via awy (by first|exact fun i hi=>absurd hi List.not_mem_nil|(intro i hi;simp only [List.mem_cons,List.not_mem_nil,or_false]at hi⊢;first|exact .inl hi|omega)) ?_)) av bQ fG fG (kI.symm awz) _ h _ q0
    ·obtain rfl:=ak h;try refine ah ?_
     exact q0 _ sZ nT _ _ rfl aJ (by repeat (first|exact hf0|refine HF.new ?_|refine HF.fI ?_|refine HF.used ?_|refine HF.put (by first|(right;omega)|(left;simp only [List.mem_cons,true_or,or_true])) ?_)) av fG
def ER (k:Nat) (xH:Nd) (bF:List (List Nd)):Option (List Nd):=
  Option.bind (kg xH.names) fun p2=>Option.bind (rY k bF ([]:List Nd) xH.kind xH.n xH.text p2 ([]:List Int) 0) (fun lU=>if(lU.1.length+1)*80<=1099511627776 then some (lU.1++[(Nd.mk lU.2.1 lU.2.2.1 lU.2.2.2.1 lU.2.2.2.2.1 lU.2.2.2.2.2)])else none)
theorem ZE {k:Nat} {xH:Nd} {bF:List (List Nd)} {c1:Ck} {r:List Nd} (h:ER k xH bF=some r):aF Tryz.prog 84 [(.agg (Nd.cells xH)),(.aA (bF.map (CZ Nd.cells)) c1)] (.aA (r.map Nd.cells) .unk):=by
  refine aF.lw (.same (.aA .nil)) (aF.aQ (bf.mem (.cons (.agg _ (Nd.pu _)) (.cons (aU (aeV Nd.pu) _) .nil))) (aG au9 (by simp) (aD ?_)) (aU Nd.pu _));unfold ER at h;unfold an1;obtain⟨p2,e1,h⟩:=aj h;try refine ah ?_
  refine aB (zK e1) ?_;try refine ah ?_
  obtain⟨o89,h90,h⟩:=aj h;refine abe k (AH.empty.next+1) bF ([]:List Nd) xH.kind xH.n xH.text p2 ([]:List Int) 0 .nil .nil _ _ _ _ (Fr.refl _ _) (HF.refl _ _) av bQ fG fG kI.nil _ h90 _ ?_
  ·rintro lU c95 c98 σ' H94 eo ahD ahE ⟨s97,g99⟩ aoe;rw [eo]at h;have ahx:σ' 6=(.ref (AH.empty.next+1) 0):=(ahD 6 (by decide)).trans av;have le:=ahE.1;try simp only [AH.aK,AH.aL,AH.aM,AH.aN]at le
   have n102:=ne_next (show AH.empty.next+1<H94.next by first|omega|(simp only [AH.aK,AH.aL,AH.aM,AH.aN];omega));have aA9:=aV (show AH.empty.next+1<H94.next by first|omega|(simp only [AH.aK,AH.aL,AH.aM,AH.aN];omega));obtain⟨e108,h⟩:=aP h;try refine ah ?_
   refine gu (f:=Nd.cells) Nd.row lU.1 ([(Nd.mk lU.2.1 lU.2.2.1 lU.2.2.2.1 lU.2.2.2.2.1 lU.2.2.2.2.2)]:List Nd) c95 .exact av av fG (by first|exact e108|(simp only [List.length_cons,List.length_nil];exact e108)) (fun aBa ZF azR le asA azS=> ?_);have azT:HF [] _ ZF:=⟨le,fun i _ _=>asA i⟩;try simp only [AH.aK,AH.aL,AH.aM,AH.aN]at le
   have n111:=ne_next (show AH.empty.next<ZF.next by first|omega|(simp only [AH.aK,AH.aL,AH.aM,AH.aN];omega));have aBb:=aV (show AH.empty.next<ZF.next by first|omega|(simp only [AH.aK,AH.aL,AH.aM,AH.aN];omega));have n113:=ne_next (show AH.empty.next+1<ZF.next by first|omega|(simp only [AH.aK,AH.aL,AH.aM,AH.aN];omega));have aBd:=aV (show AH.empty.next+1<ZF.next by first|omega|(simp only [AH.aK,AH.aL,AH.aM,AH.aN];omega));obtain rfl:=ak h;try refine ah ?_
   exact(d9 Nd.pu _ _)
def Mj (k:Nat) (Dz:Str) (bF:List (List Nd)):Option (List Nd):=
  Option.bind (ER k (Nd.mk 3 0 Dz [] []) bF) fun p2=>some p2
theorem VI {k:Nat} {Dz:Str} {bF:List (List Nd)} {c1:Ck} {r:List Nd} (h:Mj k Dz bF=some r):aF Tryz.prog 88 [(.str Dz),(.aA (bF.map (CZ Nd.cells)) c1)] (.aA (r.map Nd.cells) .unk):=by
  refine aF.lw (.same (.aA .nil)) (aF.aQ (bf.mem (.cons (.str _) (.cons (aU (aeV Nd.pu) _) .nil))) (aG avd (by simp) (aD ?_)) (aU Nd.pu _));unfold Mj at h;unfold an5;obtain⟨p2,e1,h⟩:=aj h;try refine ah ?_
  refine aB (aF.wx (ZE e1) (.agg (.same (.same (.same (.aA (.aA .nil))))) (.same .nil))) ?_;obtain rfl:=ak h;try refine ah ?_
  exact(d9 Nd.pu _ _)
def adX (k:Nat):Option (List Nd):=
  Option.bind (EK ([97]:Str)) fun p2=>Option.bind (EK ([98]:Str)) fun p4=>Option.bind (EK ([99]:Str)) fun p6=>Option.bind (Mj k ([42]:Str) [p4,p6]) fun p8=>Option.bind (Mj k ([43]:Str) [p2,p8]) fun iN=>some iN
theorem acf {k:Nat} {r:List Nd} (h:adX k=some r):aF Tryz.prog 45 [] (.aA (r.map Nd.cells) .unk):=by
  refine aF.aQ (bf.mem .nil) (aG auM (by simp) (aD ?_)) (aU Nd.pu _);unfold adX at h;unfold anu;obtain⟨p2,e1,h⟩:=aj h;try refine ah ?_
  refine aB (Jl e1) ?_;obtain⟨p4,e3,h⟩:=aj h;try refine ah ?_
  refine aB (Jl e3) ?_;obtain⟨p6,e5,h⟩:=aj h;try refine ah ?_
  refine aB (Jl e5) ?_;obtain⟨p8,e7,h⟩:=aj h;try refine ah ?_
  refine aB (VI e7) ?_;obtain⟨iN,e9,h⟩:=aj h;try refine ah ?_
  refine aB (VI e9) ?_;obtain rfl:=ak h;try refine ah ?_
  exact(d9 Nd.pu _ _)
end Go.VL
end
section
set_option maxRecDepth 8000
namespace Go.VL
open Go.Proofs
def Bt (k:Nat) (e:List Nd) (out:List Str) (at_:Int) (bound:List Str):Option (List Str):=
  if 0<=at_ then Option.bind (e[at_.toNat]?) fun n=>Option.bind (mW k n) fun b=>cond b (Option.bind (bX k bound n.text) fun c=>cond c (some out) (if(out.length+1)*16<=1099511627776 then some (out++[n.text])else none)) (some out)else none
def akc (e:List Nd) (o0 o1:Nat) (out:List Str) (H:AH):Prop:=o0<H.next/\o1<H.next/\o0≠o1/\H.obj o0=some [cK e]/\ ∃v ids,H.obj o1=some [v]/\aO H aI 1 out v ids/\o0∉ids/\o1∉ids
theorem adY (k:Nat) (e:List Nd) (o0 o1:Nat):Visit 118 [.ref o0 0,.ref o1 0] (akc e o0 o1) (Bt k e) where
  stable:=by
    rintro a H H' ⟨h1,h2,h3,h4,v,ids,h5,h6,h7,h8⟩ hn ho hc;exact⟨by omega,by omega,h3,(ho _).trans h4,v,ids,(ho _).trans h5,h6.hf (M:=[]) ⟨hn,fun i _ _=>ho i⟩ (fun _ _ h=>by cases h),h7,h8⟩
  call:=by
    rintro a at_ bound a' H ⟨h1,h2,h3,h4,v,ids,h5,h6,h7,h8⟩ h
    unfold Bt at h;by_cases e1:0<=at_
    case neg=>rw [if_neg e1]at h;cases h
    rw [if_pos e1]at h;cases e2:e[at_.toNat]? with
    |none=>rw [y5 e2]at h;cases h
    |some n=>
    rw [y7 e2]at h;cases e3:mW k n with
    |none=>rw [y5 e3]at h;cases h
    |some b=>
    rw [y7 e3]at h;refine aG arD (by simp) (aD ?_);unfold ai4;simp -implicitDefEqProofs only [go_sem,↓reduceIte,Nat.reduceEqDiff,h4,e1,e2,List.getElem?_map,Option.map_some,Nat.reduceAdd];refine aB (Nj e3) ?_;cases b with
    |false=>
      rw [nH rfl]at h;cases h;simp -implicitDefEqProofs only [go_sem,↓reduceIte,Nat.reduceEqDiff,h4,e1,e2,List.getElem?_map,Option.map_some,Nat.reduceAdd];exact⟨h1,h2,h3,h4,v,ids,h5,h6,h7,h8⟩
    |true=>
      rw [uR rfl]at h;cases e4:bX k bound n.text with
      |none=>rw [y5 e4]at h;cases h
      |some c=>
      rw [y7 e4]at h;simp -implicitDefEqProofs only [go_sem,↓reduceIte,Nat.reduceEqDiff,h4,e1,e2,List.getElem?_map,Option.map_some,Nat.reduceAdd];refine aB (kr e4) ?_;cases c with
      |true=>
        rw [uR rfl]at h;cases h;simp -implicitDefEqProofs only [go_sem,↓reduceIte,Nat.reduceEqDiff,h4,e1,e2,List.getElem?_map,Option.map_some,Nat.reduceAdd];exact⟨h1,h2,h3,h4,v,ids,h5,h6,h7,h8⟩
      |false=>
        rw [nH rfl]at h;by_cases e5:(a.length+1)*16<=1099511627776
        case neg=>rw [if_neg e5]at h;cases h
        rw [if_pos e5]at h;cases h;simp -implicitDefEqProofs only [go_sem,↓reduceIte,Nat.reduceEqDiff,h4,e1,e2,List.getElem?_map,Option.map_some,Nat.reduceAdd];refine eO ?_;simp -implicitDefEqProofs only [go_sem,↓reduceIte,Nat.reduceEqDiff,h4,h5,e1,e2,List.getElem?_map,Option.map_some,Nat.reduceAdd];refine Kr (f:=aI) jg a [n.text] .exact (by simp -implicitDefEqProofs only [go_sem,↓reduceIte,Nat.reduceEqDiff]) h6 (by simp -implicitDefEqProofs only [go_sem,↓reduceIte,Nat.reduceEqDiff]) (by simp) (by simpa using e5) (fun v' mK H' g1 g2 g3 g4=> ?_);have k0:H'.obj o0=some [cK e]:=(g3.2 o0 h1 h7).trans h4;have k1:H'.obj o1=some [v]:=(g3.2 o1 h2 h8).trans h5;have n0: ¬o0∈mK:=fun hm=>by
          rcases g2 o0 hm with q|q
          · exact h7 q
          · omega
        have n1: ¬o1∈mK:=fun hm=>by
          rcases g2 o1 hm with q|q
          · exact h8 q
          · omega
        have g1':=g1;rcases g1 with⟨_,q,_⟩|⟨id,cap,junk,rfl,rfl,q1,q2,q3,q4⟩
        · simp at q
        · have hid:id≠o1:=fun e=>n1 (by rw [e];exact List.mem_singleton.2 rfl);simp -implicitDefEqProofs only [go_sem,dJ,↓reduceIte,Nat.reduceEqDiff,k1,List.length_cons,List.length_nil,Nat.reduceAdd,Nat.le_refl];refine⟨Nat.lt_of_lt_of_le h1 g3.1,Nat.lt_of_lt_of_le h2 g3.1,h3,?_,_,[id],?_,g1'.put n1,n0,n1⟩
          · show(if o0=o1 then _ else H'.obj o0)=_
            rw [if_neg h3];exact k0
          · show(if o1=o1 then _ else H'.obj o1)=_
            rw [if_pos rfl]
end Go.VL
end
section
namespace Go.VL
open Go.Proofs Go.RowKit
section
variable {B:Nat->Prop} {G:Gh} {H:AH} {w w':World}
theorem HM.putRow (hM:HM B H G w) {id b:Nat} {cs cs':List PV} {arr:Array Value} {t:TypeId} (d:Array (List UInt8)) (n:Nat) (os:Array Obj) (ho:H.obj id=some cs) (hm:G.m id=some b) (hb:w.heap[b]? =some (.cells arr t (0,0)))
    (hV:Vs G H.next cs' (Sort.putCells encStr 0 d arr)):HM B (H.put id cs') G (Sort.grow (Sort.putRow encStr (Sort.ahead w n) b 0 d) os)/\Tr B w (Sort.grow (Sort.putRow encStr (Sort.ahead w n) b 0 d) os):=by
  obtain⟨h1,h2⟩:=hM.putObj ho hm hb hV;have hh:(Sort.putRow encStr (Sort.ahead w n) b 0 d).heap=(w.setRow b (Sort.putCells encStr 0 d arr)).heap:=by
    apply Array.ext_getElem?
    intro k;by_cases hk:k=b
    · subst hk;rw [setRow_heap w k arr _ t (0,0) hb];show(w.heap.modify k _)[k]? =_
      rw [Array.getElem?_modify,if_pos rfl,hb];rfl
    · rw [setRow_other w b k _ hk];show(w.heap.modify b _)[k]? =_
      rw [Array.getElem?_modify,if_neg (Ne.symm hk)]
  have hB:Below (w.setRow b (Sort.putCells encStr 0 d arr)).heap.size (w.setRow b (Sort.putCells encStr 0 d arr)) (Sort.grow (Sort.putRow encStr (Sort.ahead w n) b 0 d) os):=by
    refine⟨rfl,rfl,rfl,?_,fun k hk=> ?_⟩
    · rw [Sort.size_grow,hh];exact Nat.le_add_right _ _
    · rw [<-hh]at hk⊢;rw [Sort.heap_grow_old _ _ hk]
  exact⟨h1.below hB,(Tr.setRow h2 _).trans (Tr.below hB)⟩
theorem asB {n:Nat} {s:List UInt8} {v:Value} (h:V G n (.str s) v):v= .string ⟨s.toArray⟩:=by cases h;rfl
theorem akd {n id off len cap sz:Nat} {v:Value} (h:V G n (.bS id off len cap sz) v): ∃b,id<n/\G.m id=some b/\v= .slice (some ⟨b,off,none⟩) len cap:=by
  cases h with
  |bS _ _ _ _ _ b h1 h2=>exact⟨b,h1,h2,rfl⟩
theorem Cv (l:List Str):(l.map aI).flatten=l.map PV.str:=by
  induction l with
  |nil=>rfl
  |cons s l ih=>rw [List.map_cons,List.flatten_cons,ih];rfl
theorem VJ {l:List Str} {junk:List PV} {arr:Array Value} {b:Nat} {t:TypeId} (hb:w.heap[b]? =some (.cells arr t (0,0))) (hV:Vs G H.next ((l.map aI).flatten++junk) arr):Sort.Holds encStr w b 0 l.toArray:=by
  intro j hj;have hj':j<l.length:=by simpa using hj
  have hlt:j<arr.size:=by rw [hV.1,List.length_append,Cv,List.length_map];omega
  have hv:=asB (hV.2 j (.str l[j]) arr[j] (by rw [Cv,List.getElem?_append_left (by simpa using hj')];simp [hj']) (by simp [hlt]));refine⟨?_,?_⟩
  · have:arr[j]? =some arr[j]:=by simp [hlt]
    simp only [World.cell?,hb,Nat.zero_add,this,hv];simp [encStr,hj']
  · simp [World.frozen?,hb]
theorem afO {n:Nat} {l m:List Str} {junk:List PV} {arr:Array Value} (hl:m.length=l.length) (hV:Vs G n ((l.map aI).flatten++junk) arr):Vs G n ((m.map aI).flatten++junk) (Sort.putCells encStr 0 m.toArray arr):=by
  rw [Cv]at hV⊢;have hs:=hV.1;rw [List.length_append,List.length_map]at hs;refine⟨by simp [Sort.putCells,hs,hl],fun j c x hc hx=> ?_⟩;simp only [Sort.putCells,Array.getElem?_mapIdx,Option.map_eq_some_iff]at hx;obtain⟨y,hy,rfl⟩:=hx;by_cases hj:j<m.length
  · rw [List.getElem?_append_left (by simpa using hj)]at hc;simp [hj]at hc;subst hc;have h2:0<=j/\j<0+m.toArray.size:=by simpa using hj
    rw [if_pos h2];simp [encStr,hj];exact .str _
  · have h2: ¬(0<=j/\j<0+m.toArray.size):=by simp;omega
    rw [if_neg h2];rw [List.getElem?_append_right (by simp;omega),List.length_map,hl]at hc;refine hV.2 j c y ?_ hy;rw [List.getElem?_append_right (by simp;omega),List.length_map];exact hc
end
def Gc (l:List Str):List Str:=l.mergeSort fun x y=>decide (x<=y)
theorem aqh {H:AH} {l:List Str} {v:PV} {ids:List Nat} (h:aO H aI 1 l v ids) (hl:l.length<4611686018427387904):bC Tryz.prog 66 [v] H fun _ H'=>aO H' aI 1 (Gc l) v ids/\HF ids H H'/\ ∀c,bn H c->bn H' c:=by
  refine⟨⟨_,Tryz.func66,rfl,by kernel_rfl⟩,fun B G w vs hU hM hv=> ?_⟩;obtain⟨u,rfl,hu⟩: ∃u,vs=#[u]/\V G H.next v u:=by
    obtain⟨h1,h2⟩:=hv
    match vs,h1,h2 with
    |⟨[u]⟩,_,h2=>exact⟨u,rfl,h2 0 v u rfl rfl⟩
  rcases h with⟨rfl,rfl,rfl⟩|⟨id,cap,junk,rfl,rfl,h2,h3,h4,h5⟩
  · rw [Xk hu];refine(Tryz.slices_Sort_string_none none 0 w).mono ?_;rintro e w' ⟨rfl,rfl⟩;exact⟨.dM [],_,H,G,rfl,Tr.refl _ _,Ext.refl _ _ _,Nat.le_refl _,hM,.dM [] #[] rfl (fun j c x e=>by simp at e),.inl ⟨rfl,by simp [Gc],rfl⟩,HF.refl _ _,fun _ h=>h⟩
  · obtain⟨b,_,hm,rfl⟩:=akd hu;obtain⟨_,b',arr,t,k1,k2,k3,k4,k5⟩:=hM.obj id _ h4;obtain rfl:b'=b:=by rw [hm]at k1;exact(Option.some.inj k1).symm
    have hlt:=hM.lt k3;refine(Tryz.slices_Sort_string b' 0 cap l w (VJ k3 k4) hlt hl).mono ?_;rintro e w' ⟨rfl,n,os,rfl⟩;have hlen:(Gc l).length=l.length:=List.length_mergeSort _;obtain⟨e1,e2⟩:=hM.putRow (cs':=((Gc l).map aI).flatten++junk) (Gc l).toArray n os h4 hm k3 (afO hlen k4);refine⟨.dM [],_,H.put id (((Gc l).map aI).flatten++junk),G,rfl,e2,Ext.refl _ _ _,Nat.le_refl _,e1,.dM [] #[] rfl (fun j c x e=>by simp at e),.inr ⟨id,cap,junk,rfl,by rw [hlen],by rw [hlen];exact h2,h3,?_,by rw [hlen];exact h5⟩,HF.put (.inl (List.mem_singleton.2 rfl)) (HF.refl _ _),fun c hc=>hc.put⟩;show(if id=id then some _ else _)=_
    rw [if_pos rfl]
theorem adZ (l:List Str):(Lib.compact l).length<=l.length:=Lib.compact_length_le l
theorem ad2 {H:AH} {l:List Str} {v:PV} {ids:List Nat} (h:aO H aI 1 l v ids) (hl:l.length<4611686018427387904):bC Tryz.prog 119 [v] H fun r H'=>aO H' aI 1 (Lib.compact l) r ids/\HF ids H H'/\ ∀c,bn H c->bn H' c:=by
  refine⟨⟨_,Tryz.func119,rfl,by kernel_rfl⟩,fun B G w vs hU hM hv=> ?_⟩;obtain⟨u,rfl,hu⟩: ∃u,vs=#[u]/\V G H.next v u:=by
    obtain⟨h1,h2⟩:=hv
    match vs,h1,h2 with
    |⟨[u]⟩,_,h2=>exact⟨u,rfl,h2 0 v u rfl rfl⟩
  rcases h with⟨rfl,rfl,rfl⟩|⟨id,cap,junk,rfl,rfl,h2,h3,h4,h5⟩
  · rw [Xk hu];refine(Tryz.slices_Compact_string_empty none 0 w).mono ?_;rintro e w' ⟨rfl,rfl⟩;exact⟨.aA [] .nil,_,H,G,rfl,Tr.refl _ _,Ext.refl _ _ _,Nat.le_refl _,hM,Xk hu▸hu,.inl ⟨rfl,rfl,rfl⟩,HF.refl _ _,fun _ h=>h⟩
  · obtain⟨b,_,hm,rfl⟩:=akd hu;obtain⟨_,b',arr,t,k1,k2,k3,k4,k5⟩:=hM.obj id _ h4;obtain rfl:b'=b:=by rw [hm]at k1;exact(Option.some.inj k1).symm
    refine(Tryz.slices_Compact_string b' 0 cap l w (VJ k3 k4) (by omega) h2).mono ?_;rintro e w' ⟨rfl,q,rfl⟩;have hc:=adZ l;have hlen:(Lib.compact l++List.replicate (l.length -(Lib.compact l).length) []).length=l.length:=by rw [List.length_append,List.length_replicate];omega
    obtain⟨e1,e2⟩:=hM.putRow (cs':=((Lib.compact l++List.replicate (l.length -(Lib.compact l).length) []).map aI).flatten++junk) (Lib.compact l++List.replicate (l.length -(Lib.compact l).length) []).toArray q #[] h4 hm k3 (afO hlen k4);rw [Sort.grow_empty]at e1 e2;refine⟨.bS id 0 (Lib.compact l).length cap 1,_,H.put id (((Lib.compact l++List.replicate (l.length -(Lib.compact l).length) []).map aI).flatten++junk),G,rfl,e2,Ext.refl _ _ _,Nat.le_refl _,e1,.bS _ _ _ _ _ b' h3 hm,.inr ⟨id,cap,(List.replicate (l.length -(Lib.compact l).length) ([]:Str)).map PV.str++junk,rfl,rfl,by omega,h3,?_,?_⟩,HF.put (.inl (List.mem_singleton.2 rfl)) (HF.refl _ _),fun c hc=>hc.put⟩
    · show(if id=id then some _ else _)=_
      rw [if_pos rfl,Cv,List.map_append,Cv,List.append_assoc]
    · rw [List.length_append,List.length_map,List.length_replicate,h5];omega
end Go.VL
end
section
set_option maxRecDepth 8000
namespace Go.VL
open Go.Proofs
def xI (k:Nat) (e:List Nd):Option (List Str):=
  Option.bind (wF (Bt k e) e k (IntKind.wrap .i64 ((e.length:Int) -1)) [] []) fun out=>if out.length<4611686018427387904 then some (Jj out)else none
theorem ZG (k:Nat) (e:List Nd) {c:Ck} {r:List Str} (h:xI k e=some r):aF Tryz.prog 68 [.aA (e.map Nd.cells) c] (.aA (r.map aI) .unk):=by
  refine aF.wk (args:=[cK e]) ?_ (.aA .nil);refine aF.aQ (bf.mem (.cons (aU Nd.pu _) .nil)) (aG ahd (by simp) (aD ?_)) (aU bg _);unfold xI at h;cases e1:wF (Bt k e) e k (IntKind.wrap .i64 ((e.length:Int) -1)) [] []with
  |none=>rw [y5 e1]at h;cases h
  |some out=>
  rw [y7 e1]at h;by_cases e2:out.length<4611686018427387904
  case neg=>rw [if_neg e2]at h;cases h
  rw [if_pos e2]at h;have h:=Option.some.inj h;subst h;unfold anR;simp -implicitDefEqProofs only [go_sem,↓reduceIte,Nat.reduceEqDiff,Nat.reduceAdd,List.length_map];have hS:akc e (AH.empty.next) (AH.empty.next+1) [] ((AH.empty.new [cK e]).new [.aA [] .nil]):=by
    refine⟨(show 0<2 by omega),(show 1<2 by omega),by decide,rfl,.aA [] .nil,[],rfl,aO.nil,List.not_mem_nil,List.not_mem_nil⟩
  refine bC.mono (bC.wk (aqc (adY k e _ _) e k _ [] [] out _ hS e1) (.same (.same (.aA (.same .nil))))) fun r H1 hS1=> ?_;obtain⟨h1,h2,h3,h4,v,ids,h5,h6,h7,h8⟩:=hS1;simp -implicitDefEqProofs only [go_sem,↓reduceIte,Nat.reduceEqDiff,h5];refine bC.mono (aqh h6 e2) fun r2 H2 ⟨g1,g2,g3⟩=> ?_;have h5':H2.obj (AH.empty.next+1)=some [v]:=(g2.2 _ h2 h8).trans h5;simp -implicitDefEqProofs only [go_sem,↓reduceIte,Nat.reduceEqDiff,h5'];refine bC.mono (ad2 g1 (by rw [show(Gc out).length=out.length from List.length_mergeSort _];exact e2)) fun r3 H3 ⟨f1,f2,f3⟩=> ?_;simp -implicitDefEqProofs only [go_sem,↓reduceIte,Nat.reduceEqDiff];have hc:Lib.compact (Gc out)=Jj out:=Zz out;rw [<-hc];exact f1.fz bg
end Go.VL
end
section
namespace Go.VL
open Tm
def ZH (e:List Nd) (R:Nat) (bd:List Str):Prop:= ∃P j,Ev (fun k=>sK k e (R:Int)) (P,j)/\ ∀out:List Str,out.length<=34*R->Ev (fun k=>mV k e out P j) (bd++out)
section
variable {t0:Tm} {e:List Nd} (he:e=flat 0 t0) (hL:qN e) (hF:yu e)
include he hL hF
theorem alG:ZH e (t0.size -1) []:=by
  have hs:=t0.size_pos;refine⟨-1,0,BP (ts:=[t0]) (by rw [vR];exact he) hL (by rw [he,dh];omega) ?_,fun out _=>Ev.succ ?_⟩
  · rw [VA];cases t0 with
    |mk x cs=>
      rw [yN,show(Tm.mk x cs).size -1=(iI 0 ((0+sizes cs:Nat):Int) 0 cs).length by rw [jP];simp only [size];omega,List.getElem?_concat_length]
  · simp only [mV];exact Ev.cF (by rfl) Ev.some
theorem aqi {b:Nat} {bd:List Str} {x:Nd} {l m:List Tm} {c:Tm} (hS:Seg e b (.mk x (l++c::m))) (hU:ZH e (b+sizes (l++c::m)) bd):ZH e (b+sizes l+c.size -1) (bd++wG (nd x b (l++c::m)) l.length):=by
  have hn:=hS.node;have hlt:=(List.getElem?_eq_some_iff.1 hn).1;have Ay:=hF.few _ _ hn;have hbl:=Lg Ay.2 l.length;have hcp:=c.size_pos;have hsz:sizes (l++c::m)=sizes l+(c.size+sizes m):=by rw [dV,sizes]
  obtain⟨P,j,hP,hout⟩:=hU;have ha:(nd x b (l++c::m)).args[l.length]? =some ((b+sizes l+c.size -1:Nat):Int):=F7;obtain⟨r,h1,h2,h3⟩:=OP 0 [t0] (b+sizes (l++c::m)) (nd x b (l++c::m)) l.length _ (by rw [vR,<-he];exact hn) ha;obtain rfl:r=b+sizes l+c.size -1:=by omega
  refine⟨_,_,BP (ts:=[t0]) (by rw [vR];exact he) hL (by omega) h3,fun out ho=>Ev.succ ?_⟩;simp only [mV,Nat.zero_add];refine Ev.cT (decide_eq_true (by omega)) (Ev.mZ (by omega) ?_);simp only [Int.toNat_natCast,hn,Option.bind_some];rw [JR (hF.ok _ _ hn) (by omega)];simp only [Option.bind_some,List.nil_append,List.length_nil,Nat.zero_add];refine Ev.mZ (by omega) (Ev.mZ (by have:=hF.len;omega) (Ev.bind hP ((hout _ ?_).to ?_)))
  · rw [List.length_append];omega
  · rw [List.append_assoc]
mutual
theorem VK: ∀(t:Tm) (b:Nat) (bd:List Str),Seg e b t->ZH e (b+t.size -1) bd->bd.length+34*(b+t.size -1)<=10000-> ∀v∈vis b bd t,Ev (fun k=>vT k e (v.1:Int)) v.2/\v.2.length<=10000/\v.1<e.length
  | .mk x cs,b,bd,hS,hU,hb,v,hv=>by
    have hsz:b+(Tm.mk x cs).size -1=b+sizes cs:=by simp only [size];omega
    rw [hsz]at hb hU;rw [Qv,List.mem_cons]at hv;rcases hv with rfl|hv
    · refine⟨?_,(show bd.length<=10000 by omega),(List.getElem?_eq_some_iff.1 hS.node).1⟩;obtain⟨P,j,hP,hout⟩:=hU;unfold vT;refine Ev.bind hP (Ev.bind (hout [] (Nat.zero_le _)) (Ev.some' ?_));rw [List.append_nil]
    · exact QA cs x [] b bd hS hU (by simp only [List.nil_append];omega) v hv
theorem QA: ∀(cs:List Tm) (x:Nd) (l:List Tm) (b:Nat) (bd:List Str),Seg e b (.mk x (l++cs))->ZH e (b+sizes (l++cs)) bd->bd.length+34*(b+sizes (l++cs))<=10000->
    ∀v∈Br (b+sizes l) bd (nd x b (l++cs)) l.length cs,Ev (fun k=>vT k e (v.1:Int)) v.2/\v.2.length<=10000/\v.1<e.length
  |[],x,l,b,bd,hS,hU,hb,v,hv=>by rw [Br]at hv;cases hv
  |c::cs,x,l,b,bd,hS,hU,hb,v,hv=>by
    have hn:=hS.node;have hbl:=Lg (hF.few _ _ hn).2 l.length;have hcp:=c.size_pos;have hsz:sizes (l++c::cs)=sizes l+(c.size+sizes cs):=by rw [dV,sizes]
    rw [Ga,List.mem_append]at hv;rcases hv with hv|hv
    · exact VK c _ _ hS.kid (aqi he hL hF hS hU) (by rw [hsz]at hb;rw [List.length_append];omega) v hv
    · have e1:l++c::cs=(l++[c])++cs:=by simp
      have e2:l.length+1=(l++[c]).length:=by simp
      have e3:b+sizes l+c.size=b+sizes (l++[c]):=by rw [dV,qA];omega
      rw [e1,e2,e3]at hv;rw [e1]at hS hU hb;exact QA cs x (l++[c]) b bd hS hU hb v hv
end
end
mutual
theorem acg: ∀(t:Tm) (b:Nat) (bd:List Str) (i:Nat),b<=i->i<b+t.size-> ∃q,(i,q)∈vis b bd t
  | .mk x cs,b,bd,i,h1,h2=>by
    rw [Qv];by_cases h:i=b+sizes cs
    · exact⟨bd,by rw [h];exact List.mem_cons_self⟩
    · simp only [size]at h2;obtain⟨q,hq⟩:=ZI cs b bd (nd x b cs) 0 i h1 (by omega);exact⟨q,List.mem_cons_of_mem _ hq⟩
theorem ZI: ∀(cs:List Tm) (b:Nat) (bd:List Str) (n:Nd) (j:Nat) (i:Nat),b<=i->i<b+sizes cs-> ∃q,(i,q)∈Br b bd n j cs
  |[],b,bd,n,j,i,h1,h2=>by simp only [sizes]at h2;omega
  |c::cs,b,bd,n,j,i,h1,h2=>by
    rw [Ga];simp only [sizes]at h2;by_cases h:i<b+c.size
    · obtain⟨q,hq⟩:=acg c b (bd++wG n j) i h1 h;exact⟨q,List.mem_append_left _ hq⟩
    · obtain⟨q,hq⟩:=ZI cs (b+c.size) bd n (j+1) i (by omega) (by omega);exact⟨q,List.mem_append_right _ hq⟩
end
mutual
theorem ach: ∀(t:Tm) (b:Nat) (bd:List Str),(vis b bd t).length=t.size
  | .mk x cs,b,bd=>by rw [Qv,List.length_cons,ZJ cs];rfl
theorem ZJ: ∀(cs:List Tm) (b:Nat) (bd:List Str) (n:Nd) (j:Nat),(Br b bd n j cs).length=sizes cs
  |[],b,bd,n,j=>by rw [Br];rfl
  |c::cs,b,bd,n,j=>by rw [Ga,List.length_append,ach c,ZJ cs];rfl
end
def jI (n:Nd):Bool:=(decide (n.kind=2)&& !rz n.text)||(decide (n.kind=3)&& !(dP fJ n.text).2)
theorem Lj (n:Nd):Ev (fun k=>mW k n) (jI n):=by
  unfold mW jI;refine Ev.bind (uJ n.text) ?_;rw [KO];by_cases h:n.kind=2
  · refine Ev.cT (by rw [h];rfl) ?_;simp only [h,decide_true,Bool.true_and,Option.bind_some];cases rz n.text
    · exact Ev.cF rfl (Ev.some' rfl)
    · exact Ev.cT rfl (Ev.cF (by rfl) (Ev.some' rfl))
  · refine Ev.cF (by rw [beq_eq_false_iff_ne];exact h) ?_;simp only [h,decide_false,Bool.false_and,Bool.false_or];by_cases h2:n.kind=3
    · exact Ev.cT (by rw [h2];rfl) (Ev.some' (by simp [h2]))
    · exact Ev.cF (by rw [beq_eq_false_iff_ne];exact h2) (Ev.some' (by simp [h2]))
theorem QB {n:Nd} (h0:cZ true n=0) (hl:n.text.length<=1000000):Ev (fun k=>yJ k n) (jI n):=by
  unfold yJ jI;rw [zS];by_cases h:n.kind=2
  · refine Ev.cT (by rw [h];rfl) ?_;simp only [h,decide_true,Bool.true_and,Option.bind_some];cases rz n.text
    · exact Ev.cF rfl (Ev.some' rfl)
    · exact Ev.cT rfl (Ev.cF (by rfl) (Ev.some' rfl))
  · refine Ev.cF (by rw [beq_eq_false_iff_ne];exact h) ?_;simp only [h,decide_false,Bool.false_and,Bool.false_or];by_cases h2:n.kind=3
    · refine Ev.cT (by rw [h2];rfl) (Ev.bind (BI _ (by omega)) (Ev.some' ?_));rw [Zo h0 h2];simp [h2]
    · exact Ev.cF (by rw [beq_eq_false_iff_ne];exact h2) (Ev.some' (by simp [h2]))
def nU (e:List Nd) (v:Nat×List Str):Option Str:=match e[v.1]? with
  |some n=>if(jI n&& !decide (n.text∈v.2))=true then some n.text else none
  |none=>none
theorem ZK {e:List Nd}: ∀(l:List (Nat×List Str)) (out:List Str),(∀v∈l,v.2.length<=10000/\v.1<e.length)->out.length+l.length<=10000->Ev (fun k=>Aw (Bt k e) l out) (out++l.filterMap (nU e))
  |[],out,h,hb=>Ev.some' (by simp)
  |v::l,out,h,hb=>by
    obtain⟨h1,h2⟩:=h v List.mem_cons_self;rw [List.length_cons]at hb;have ih:=fun o=>ZK l o (fun w hw=>h w (List.mem_cons_of_mem _ hw));have hf:nU e v=if(jI e[v.1]&& !decide (e[v.1].text∈v.2))=true then some e[v.1].text else none:=by unfold nU;rw [bG h2]
    simp only [Aw];refine Ev.bind (x:=out++(nU e v).toList) ?_ ?_
    · unfold Bt;simp only [nn,if_true,Int.toNat_natCast,bG h2,Option.bind_some];refine Ev.bind (Lj _) ?_;rw [hf];cases jI e[v.1]
      · exact Ev.cF rfl (Ev.some' (by simp))
      · refine Ev.cT rfl (Ev.bind (xM _ _ (by omega)) ?_);by_cases h3:e[v.1].text∈v.2
        · exact Ev.cT (decide_eq_true h3) (Ev.some' (by simp [h3]))
        · refine Ev.cF (decide_eq_false h3) (Ev.mZ (by omega) (Ev.some' (by simp [h3])))
    · have hl:(nU e v).toList.length<=1:=by cases nU e v<;>simp
      refine(ih _ (by rw [List.length_append];omega)).to ?_;rw [List.filterMap_cons,List.append_assoc];cases nU e v<;>rfl
end Go.VL
end
section
namespace Go.VL
def UJ (n:Nd):Bool:=decide (n.args.length<=34)&&decide (n.names.length<=34)&&decide (n.text.length<=80)&&n.names.all fun s=>decide (s.length<=80)
def Ll (e:List Nd):Bool:=(e.take 172).all UJ&&decide (e.length<=170)
theorem abf {e:List Nd} {i:Nat} {n:Nd} (hn:e[i]? =some n) (hl:n.names.length<=34):Ev (fun k=>sM k e (i:Int) ((0:Nat):Int)) (if(n.names.drop 0).all (fun s=>decide (s.length<=80))=true then .inl ()else .inr false):=by
  refine lC (len:=n.names.length) (p:=fun j=>Ev (fun k=>sM k e (i:Int) (j:Int)) (if(n.names.drop j).all (fun s=>decide (s.length<=80))=true then .inl ()else .inr false)) ?_ fun j hj ih=> ?_
  · refine Ev.succ ?_;simp only [sM,Int.toNat_natCast,hn,Option.bind_some,nn,if_true];exact Ev.cF (jJ _) (Ev.some' (by simp))
  · refine Ev.succ ?_;simp only [sM,Int.toNat_natCast,hn,bG hj,Option.bind_some,nn,if_true,kW hj,cond_true,eF hj (show n.names.length<=1099511627776 by omega)];rw [drop_cons hj];simp only [List.all_cons,Bool.and_eq_true,decide_eq_true_eq];by_cases h:n.names[j].length<=80
    · refine Ev.cF (decide_eq_false (by omega)) (ih.to ?_);simp only [h,true_and]
    · refine Ev.cT (decide_eq_true (by omega)) (Ev.some' ?_);simp only [h,false_and,if_false]
theorem Nk (i:Nat) (m:Nat):Eo (i:Int) (decide ((i:Int)<(m:Int)))=some (decide (i<m)&&decide (i<172)):=by
  unfold Eo;by_cases h:i<m
  · rw [uR (decide_eq_true (by omega)),decide_eq_true h,Bool.true_and];by_cases h2:i<172
    · rw [decide_eq_true h2,decide_eq_true (show(i:Int)<172 by omega)]
    · rw [decide_eq_false h2,decide_eq_false (show ¬(i:Int)<172 by omega)]
  · rw [nH (decide_eq_false (by omega)),decide_eq_false h,Bool.false_and]
theorem OV (e:List Nd):Ev (fun k=>Mf k e) (Ll e):=by
  have hlen:(e.take 172).length=min 172 e.length:=List.length_take;have key:Ev (fun k=>sN k e ((0:Nat):Int)) (if((e.take 172).drop 0).all UJ=true then .inl ()else .inr false):=by
    refine lC (len:=(e.take 172).length) (p:=fun i=>Ev (fun k=>sN k e (i:Int)) (if((e.take 172).drop i).all UJ=true then .inl ()else .inr false)) ?_ fun i hi ih=> ?_
    · refine Ev.succ ?_;simp only [sN,Nk];refine Ev.mq rfl (Ev.cF ?_ (Ev.some' (by rw [List.drop_length];rfl)));rw [Bool.and_eq_false_iff,decide_eq_false_iff_not,decide_eq_false_iff_not];omega
    · have hie:i<e.length:=by omega
      have aqj:i<172:=by omega
      have hget:(e.take 172)[i]'hi=e[i]:=by simp
      refine Ev.succ ?_;simp only [sN,Nk,Int.toNat_natCast,bG hie,Option.bind_some,nn,if_true,decide_eq_true hie,decide_eq_true aqj,Bool.and_self,cond_true];rw [drop_cons hi,hget,eF aqj (by omega),List.all_cons];have hp:Ep e (i:Int) (decide ((e[i].args.length:Int)>34))=some (!(decide (e[i].args.length<=34)&&decide (e[i].names.length<=34)&&decide (e[i].text.length<=80))):=by
        unfold Ep;simp only [Int.toNat_natCast,bG hie,Option.bind_some,nn,if_true];by_cases a:e[i].args.length<=34
        · rw [nH (decide_eq_false (by omega))];by_cases b:e[i].names.length<=34
          · rw [nH (decide_eq_false (by omega))];by_cases c:e[i].text.length<=80
            · rw [decide_eq_false (by omega)];simp [a,b,c]
            · rw [decide_eq_true (by omega)];simp [a,b,c]
          · rw [uR (decide_eq_true (by omega))];simp [a,b]
        · rw [uR (decide_eq_true (by omega))];simp [a]
      refine Ev.mq hp ?_;unfold UJ;by_cases h3:(decide (e[i].args.length<=34)&&decide (e[i].names.length<=34)&&decide (e[i].text.length<=80))=true
      · rw [h3];simp only [Bool.and_eq_true,decide_eq_true_eq]at h3;have h0:=abf (bG hie) h3.1.2;rw [List.drop_zero]at h0;refine Ev.cF rfl (Ev.bind h0 ?_);cases h4:e[i].names.all fun s=>decide (s.length<=80)
        · simp only [Bool.false_eq_true,if_false,bP];exact Ev.some' (by simp)
        · simp only [if_true,bL,Bool.true_and];exact ih
      · have h3:(decide (e[i].args.length<=34)&&decide (e[i].names.length<=34)&&decide (e[i].text.length<=80))=false:=by simpa using h3
        rw [h3];exact Ev.cT rfl (Ev.some' (by simp))
  unfold Mf;refine Ev.bind key ?_;rw [List.drop_zero];unfold Ll;cases(e.take 172).all UJ
  · simp only [Bool.false_eq_true,if_false,bP,Bool.false_and];exact Ev.some
  · simp only [if_true,bL,Bool.true_and];refine Ev.some' ?_;by_cases h:e.length<=170
    · rw [decide_eq_true h,decide_eq_true (show(e.length:Int)<=170 by omega)]
    · rw [decide_eq_false h,decide_eq_false (show ¬(e.length:Int)<=170 by omega)]
theorem QC {e:List Nd} (h:Ll e=true):e.length<=170/\ ∀(i:Nat) n,e[i]? =some n->n.args.length<=34/\n.names.length<=34/\n.text.length<=80/\ ∀s∈n.names,s.length<=80:=by
  unfold Ll at h;rw [Bool.and_eq_true,decide_eq_true_eq]at h;refine⟨h.2,fun i n hn=> ?_⟩;rw [List.take_of_length_le (by omega)]at h;have:=List.all_eq_true.1 h.1 n (List.mem_of_getElem? hn);unfold UJ at this;simp only [Bool.and_eq_true,decide_eq_true_eq,List.all_eq_true]at this;exact⟨this.1.1.1,this.1.1.2,this.1.2,this.2⟩
theorem ZL {e:List Nd} (h:Ll e=true):qN e:=by
  obtain⟨h1,h2⟩:=QC h;exact⟨by omega,fun i n hn=>by have:=h2 i n hn;omega⟩
theorem Lm {e:List Nd} (hL:qN e):Ev (fun k=>yI k e) e:=by
  have hlen:=hL.len;have key: ∀i,i<=e.length->Ev (fun k=>mM k e (e.take i) (i:Int)) e:=by
    refine down ?_ fun i hi ih=> ?_
    · refine Ev.succ ?_;simp only [mM];exact Ev.cF (jJ _) (Ev.some' (by simp))
    · refine Ev.succ ?_;obtain⟨h1,h2,h3⟩:=hL.nd i _ (bG hi);have e1:kg e[i].names=some e[i].names:=by
        unfold kg;rw [if_pos (by simp;omega)];rfl
      have e2:Co e[i].args=some e[i].args:=by
        unfold Co;rw [if_pos (by simp;omega)];rfl
      have e3:((e.take i).length+1)*80<=1099511627776:=by rw [List.length_take];omega
      simp only [mM,Int.toNat_natCast,bG hi,Option.bind_some,nn,if_true,kW hi,cond_true,eF hi (show e.length<=1099511627776 by omega),e1,e2,if_pos e3];rw [<-List.take_succ_eq_append_getElem hi];exact ih
  unfold yI;exact Ev.bind (key 0 (Nat.zero_le _)) Ev.some
end Go.VL
end
section
namespace Go.VL
open Go.Proofs
def wT {α β:Type} (a:α) (b:β):Option Str:=none
def ah7 {α β γ:Type} (a:α) (b:β) (c:γ):Option Str:=none
theorem tq {α β:Type} (a:α) (b:β) {f:FuncId} {r:Str} {args:List PV} (h:wT a b=some r):aF Tryz.prog f args (.str r):=by cases h
theorem ake {α β γ:Type} (a:α) (b:β) (c:γ) {f:FuncId} {r:Str} {args:List PV} (h:ah7 a b c=some r):aF Tryz.prog f args (.str r):=by cases h
end Go.VL
end
section
set_option maxRecDepth 8000
set_option maxHeartbeats 4000000
namespace Go.VL
open Go.Proofs
def wJ (k:Nat) (p_0:Printer) (bV:Int):Option (Operator×Bool):=
  if 0<=bV then Option.bind (p_0.e[bV.toNat]?) fun x2=>cond (x2.kind !=3) (some ((Operator.mk [] 0 0 0 false 0 0),false)) (Option.bind (jV k x2.text) fun p6=>some (p6.1,p6.2))else none
theorem AB {k:Nat} {p_0:Printer} {bV:Int} {r:Operator×Bool} (h:wJ k p_0 bV=some r):aF Tryz.prog 100 [(.agg (Printer.cells p_0)),(.int .i64 bV)] (.dM [(.agg (Operator.cells r.1)),(.bool r.2)]):=by
  refine aF.aQ (bf.mem (.cons (.agg _ (Printer.pu _)) (.cons (.int _ _) .nil))) (aG aru (by simp) (aD ?_)) (.dM _ (bf.mem (.cons (.agg _ (Operator.pu _)) (.cons (.bool _) .nil))));unfold wJ at h;unfold aiS;obtain⟨e1,h⟩:=aP h;obtain⟨x2,e3,h⟩:=aj h;rcases au h with⟨e4,h⟩|⟨e4,h⟩
  ·obtain rfl:=ak h;try refine ah ?_
   exact(dn (.cons (dH (.cons (.pure _ (.str _)) (.cons (.pure _ (.int _ _)) (.cons (.pure _ (.int _ _)) (.cons (.pure _ (.int _ _)) (.cons (.pure _ (.bool _)) (.cons (.pure _ (.int _ _)) (.cons (.pure _ (.int _ _)) .nil)))))))) (.cons (.pure _ (.bool _)) .nil)))
  ·obtain⟨p6,e5,h⟩:=aj h;try refine ah ?_
   refine aB (oH e5) ?_;obtain rfl:=ak h;try refine ah ?_
   exact(dn (.cons (dH (.cons (.pure _ (.str _)) (.cons (.pure _ (.int _ _)) (.cons (.pure _ (.int _ _)) (.cons (.pure _ (.int _ _)) (.cons (.pure _ (.bool _)) (.cons (.pure _ (.int _ _)) (.cons (.pure _ (.int _ _)) .nil)))))))) (.cons (.pure _ (.bool _)) .nil)))
def ES (k:Nat) (je:Str):Option (Operator×Int):=
  Option.bind (jV k je) fun p2=>Option.bind (lY (!p2.2) 10) fun p4=>some (p2.1,p4)
theorem UK {k:Nat} {je:Str} {r:Operator×Int} (h:ES k je=some r):aF Tryz.prog 26 [(.str je)] (.dM [(.agg (Operator.cells r.1)),(.int .i64 r.2)]):=by
  refine aF.aQ (bf.mem (.cons (.str _) .nil)) (aG auG (by simp) (aD ?_)) (.dM _ (bf.mem (.cons (.agg _ (Operator.pu _)) (.cons (.int _ _) .nil))));unfold ES at h;unfold anc;obtain⟨p2,e1,h⟩:=aj h;try refine ah ?_
  refine aB (oH e1) ?_;try refine ah ?_
  refine eO ?_;obtain⟨p4,e3,h⟩:=aj h;try refine ah ?_
  refine PC.mk (lK e3) ?_;obtain rfl:=ak h;try refine ah ?_
  exact(dn (.cons (dH (.cons (.pure _ (.str _)) (.cons (.pure _ (.int _ _)) (.cons (.pure _ (.int _ _)) (.cons (.pure _ (.int _ _)) (.cons (.pure _ (.bool _)) (.cons (.pure _ (.int _ _)) (.cons (.pure _ (.int _ _)) .nil)))))))) (.cons (.pure _ (.int _ _)) .nil)))
def Lp (k:Nat) (bV:Int) (QD:List Nd) (rD:Bool):Option Bool:=
  cond rD (if 0<=bV then Option.bind (QD[bV.toNat]?) fun x3=>Option.bind (OD k x3.kind) fun p6=>some (p6)else none) (some (false))
def QE:List Nat:=List.range' 11 8
theorem abg (k:Nat): ∀(Xn:Nat) (bV:Int) (QD:List Nd) (rD:Bool) (aC σ:Nat->PV) (H:AH) (f0:Fr QE aC σ) (sl:σ 1=(.int .i64 bV)/\σ 3=(.ref (Xn) 0)/\σ 10=(.bool rD)/\H.obj Xn=some [(.aA (QD.map Nd.cells) .unk)]) (UL:Xn<H.next) (o:Bool) (h:Lp k bV QD rD=some o) (Q:Post) (q0: ∀(p:Bool) (σ':Nat->PV),o=p->Fr QE aC σ'->(σ' 18=(.bool p))->Q .normal σ' H),dF Tryz.prog SA (Q .normal) σ H:=by
  intro Xn bV QD rD aC σ H f0 sl UL o h Q q0;obtain⟨s1,s3,s10,axj⟩:=sl;have axk:=ne_next UL;have axl:=aV UL;unfold Lp at h;refine eB ?_;unfold SA;rcases au h with⟨e1,h⟩|⟨e1,h⟩
  ·obtain⟨e2,h⟩:=aP h;obtain⟨x3,e4,h⟩:=aj h;obtain⟨p6,e5,h⟩:=aj h;try refine ah ?_
   refine aB (ads e5) ?_;obtain rfl:=ak h;try refine ah ?_
   exact q0 _ _ rfl aJ av
  ·obtain rfl:=ak h;try refine ah ?_
   exact q0 _ _ rfl aJ av
def ET (eY:Str) (iA:Int) (gT:Int) (gB:Int) (gU:Bool) (iB:Int) (iC:Int) (Cw:Str) (EU:Int) (EW:Int) (QF:Int) (QG:Bool) (QH:Int) (QI:Int) (ZM:Bool):Option Bool:=
  cond ZM (cond (EU==0) (cond (decide (EW<gT)) (some (true)) (cond (EU !=0) (cond (decide (EW<=gB)) (some (true)) (cond (Cw==([45,46]:Str)) (some ((eY==([45,46]:Str)))) (some (false)))) (cond (Cw==([45,46]:Str)) (some ((eY==([45,46]:Str)))) (some (false))))) (cond (EU !=0) (cond (decide (EW<=gB)) (some (true)) (cond (Cw==([45,46]:Str)) (some ((eY==([45,46]:Str)))) (some (false)))) (cond (Cw==([45,46]:Str)) (some ((eY==([45,46]:Str)))) (some (false))))) (some (false))
def JU:List Nat:=List.range' 71 33
theorem UM: ∀(fQ:Nat) (Lr:Nat) (eY:Str) (iA:Int) (gT:Int) (gB:Int) (gU:Bool) (iB:Int) (iC:Int) (Cw:Str) (EU:Int) (EW:Int) (QF:Int) (QG:Bool) (QH:Int) (QI:Int) (ZM:Bool) (aC σ:Nat->PV) (H:AH) (f0:Fr JU aC σ) (sl:σ 6=(.ref (fQ) 0)/\σ 12=(.ref (Lr) 0)/\σ 70=(.bool ZM)/\H.obj fQ=some [(.str eY),(.int .i64 iA),(.int .i64 gT),(.int .i64 gB),(.bool gU),(.int .i64 iB),(.int .i64 iC)]/\H.obj Lr=some [(.str Cw),(.int .i64 EU),(.int .i64 EW),(.int .i64 QF),(.bool QG),(.int .i64 QH),(.int .i64 QI)]) (jl:fQ<H.next) (OW:Lr<H.next) (Bu:fQ≠Lr) (o:Bool) (h:ET eY iA gT gB gU iB iC Cw EU EW QF QG QH QI ZM=some o) (Q:Post) (q0: ∀(p:Bool) (σ':Nat->PV),o=p->Fr JU aC σ'->(σ' 103=(.bool p))->Q .normal σ' H),dF Tryz.prog NQ (Q .normal) σ H:=by
  intro fQ Lr eY iA gT gB gU iB iC Cw EU EW QF QG QH QI ZM aC σ H f0 sl jl OW Bu o h Q q0;obtain⟨s6,s12,s70,Ml,awC⟩:=sl;have Mq:=ne_next jl;have Mr:=aV jl;have awD:=ne_next OW;have awE:=aV OW;have alH:=eq_false Bu;have alI:=eq_false (Ne.symm Bu);unfold ET at h;refine eB ?_;unfold NQ;rcases au h with⟨e21,h⟩|⟨e21,h⟩
  ·rcases au h with⟨e22,h⟩|⟨e22,h⟩
   ·rcases au h with⟨e23,h⟩|⟨e23,h⟩
    ·obtain rfl:=ak h;try refine ah ?_
     exact q0 _ _ rfl aJ av
    ·rcases au h with⟨e24,h⟩|⟨e24,h⟩
     ·rcases au h with⟨e25,h⟩|⟨e25,h⟩
      ·obtain rfl:=ak h;try refine ah ?_
       exact q0 _ _ rfl aJ av
      ·rcases au h with⟨e26,h⟩|⟨e26,h⟩
       ·obtain rfl:=ak h;try refine ah ?_
        exact q0 _ _ rfl aJ av
       ·obtain rfl:=ak h;try refine ah ?_
        exact q0 _ _ rfl aJ av
     ·rcases au h with⟨e27,h⟩|⟨e27,h⟩
      ·obtain rfl:=ak h;try refine ah ?_
       exact q0 _ _ rfl aJ av
      ·obtain rfl:=ak h;try refine ah ?_
       exact q0 _ _ rfl aJ av
   ·rcases au h with⟨e28,h⟩|⟨e28,h⟩
    ·rcases au h with⟨e29,h⟩|⟨e29,h⟩
     ·obtain rfl:=ak h;try refine ah ?_
      exact q0 _ _ rfl aJ av
     ·rcases au h with⟨e30,h⟩|⟨e30,h⟩
      ·obtain rfl:=ak h;try refine ah ?_
       exact q0 _ _ rfl aJ av
      ·obtain rfl:=ak h;try refine ah ?_
       exact q0 _ _ rfl aJ av
    ·rcases au h with⟨e31,h⟩|⟨e31,h⟩
     ·obtain rfl:=ak h;try refine ah ?_
      exact q0 _ _ rfl aJ av
     ·obtain rfl:=ak h;try refine ah ?_
      exact q0 _ _ rfl aJ av
  ·obtain rfl:=ak h;try refine ah ?_
   exact q0 _ _ rfl aJ av
def EX (eY:Str) (iA:Int) (gT:Int) (gB:Int) (gU:Bool) (iB:Int) (iC:Int) (QJ:Bool):Option Bool:=
  cond QJ (Option.bind (eY[0]?) fun x47=>some ((decide ((x47.toNat:Int)<=90)))) (some (false))
def JV:List Nat:=[116,117,118,119,120]
theorem UN: ∀(fQ:Nat) (eY:Str) (iA:Int) (gT:Int) (gB:Int) (gU:Bool) (iB:Int) (iC:Int) (QJ:Bool) (aC σ:Nat->PV) (H:AH) (f0:Fr JV aC σ) (sl:σ 6=(.ref (fQ) 0)/\σ 115=(.bool QJ)/\H.obj fQ=some [(.str eY),(.int .i64 iA),(.int .i64 gT),(.int .i64 gB),(.bool gU),(.int .i64 iB),(.int .i64 iC)]) (jl:fQ<H.next) (o:Bool) (h:EX eY iA gT gB gU iB iC QJ=some o) (Q:Post) (q0: ∀(p:Bool) (σ':Nat->PV),o=p->Fr JV aC σ'->(σ' 120=(.bool p))->Q .normal σ' H),dF Tryz.prog NR (Q .normal) σ H:=by
  intro fQ eY iA gT gB gU iB iC QJ aC σ H f0 sl jl o h Q q0;obtain⟨s6,aBe,Ml⟩:=sl;have Mq:=ne_next jl;have Mr:=aV jl;unfold EX at h;refine eB ?_;unfold NR;rcases au h with⟨e46,h⟩|⟨e46,h⟩
  ·obtain⟨x47,e48,h⟩:=aj h;obtain rfl:=ak h;try refine ah ?_
   exact q0 _ _ rfl aJ av
  ·obtain rfl:=ak h;try refine ah ?_
   exact q0 _ _ rfl aJ av
def EY (eY:Str) (iA:Int) (gT:Int) (gB:Int) (gU:Bool) (iB:Int) (iC:Int) (yO:Str):Option Str:=
  cond (eY==([45,46]:Str)) (some (([45]:Str))) (Option.bind (eY[0]?) fun x44=>Option.bind (EX eY iA gT gB gU iB iC (decide ((x44.toNat:Int)>=65))) (fun p51=>cond p51 (if yO.length+([32]:Str).length<=4611686018427387904 then some ((yO++([32]:Str)))else none) (some (yO))))
def JW:List Nat:=[15]++List.range' 106 17
theorem UO: ∀(fQ:Nat) (eY:Str) (iA:Int) (gT:Int) (gB:Int) (gU:Bool) (iB:Int) (iC:Int) (yO:Str) (aC σ:Nat->PV) (H:AH) (f0:Fr JW aC σ) (sl:σ 6=(.ref (fQ) 0)/\σ 15=(.str yO)/\H.obj fQ=some [(.str eY),(.int .i64 iA),(.int .i64 gT),(.int .i64 gB),(.bool gU),(.int .i64 iB),(.int .i64 iC)]) (jl:fQ<H.next) (o:Str) (h:EY eY iA gT gB gU iB iC yO=some o) (Q:Post) (q0: ∀(p:Str) (σ':Nat->PV),o=p->Fr JW aC σ'->(σ' 15=(.str p))->Q .normal σ' H),W Tryz.prog NS Q σ H:=by
  intro fQ eY iA gT gB gU iB iC yO aC σ H f0 sl jl o h Q q0;obtain⟨s6,s15,Ml⟩:=sl;have Mq:=ne_next jl;have Mr:=aV jl;unfold EY at h;refine aD ?_;unfold NS;rcases au h with⟨e43,h⟩|⟨e43,h⟩
  ·obtain rfl:=ak h;try refine ah ?_
   exact q0 _ _ rfl aJ av
  ·obtain⟨x44,e45,h⟩:=aj h;try refine ah ?_
   obtain⟨o49,h50,h⟩:=aj h;refine UN (fQ) eY iA gT gB gU iB iC (decide ((x44.toNat:Int)>=65)) _ _ _ (Fr.refl _ _) av bQ _ h50 _ ?_
   ·rintro p51 σ' eo ah8 s55;rw [eo]at h;have s56:σ' 15=(.str yO):=(ah8 15 (by decide)).trans av;rcases au h with⟨e57,h⟩|⟨e57,h⟩
    ·obtain⟨e58,h⟩:=aP h;try refine ah ?_
     refine dx (dG e58) ?_;obtain rfl:=ak h;try refine ah ?_
     exact q0 _ _ rfl (by repeat (first|exact f0|refine Fr.upd (by decide) ?_|refine Fr.via ah8 (by decide) ?_)) av
    ·obtain rfl:=ak h;try refine ah ?_
     exact q0 _ _ rfl (by repeat (first|exact f0|refine Fr.upd (by decide) ?_|refine Fr.via ah8 (by decide) ?_)) av
def EZ (eY:Str) (iA:Int) (gT:Int) (gB:Int) (gU:Bool) (iB:Int) (iC:Int) (ZN:Int) (Ls:Str) (QK:Int) (Lu:Int) (QL:Int) (QM:Bool) (QN:Int) (QO:Int) (QS:Bool):Option Bool:=
  cond QS (cond (decide (Lu<=gB)) (cond (ZN==0) (cond (Ls==eY) (some ((!gU))) (some (true))) (some (true))) (some (false))) (some (false))
def JX:List Nat:=List.range' 153 22
theorem UQ: ∀(fQ:Nat) (Lv:Nat) (eY:Str) (iA:Int) (gT:Int) (gB:Int) (gU:Bool) (iB:Int) (iC:Int) (ZN:Int) (Ls:Str) (QK:Int) (Lu:Int) (QL:Int) (QM:Bool) (QN:Int) (QO:Int) (QS:Bool) (aC σ:Nat->PV) (H:AH) (f0:Fr JX aC σ) (sl:σ 6=(.ref (fQ) 0)/\σ 18=(.int .i64 ZN)/\σ 20=(.ref (Lv) 0)/\σ 152=(.bool QS)/\H.obj fQ=some [(.str eY),(.int .i64 iA),(.int .i64 gT),(.int .i64 gB),(.bool gU),(.int .i64 iB),(.int .i64 iC)]/\H.obj Lv=some [(.str Ls),(.int .i64 QK),(.int .i64 Lu),(.int .i64 QL),(.bool QM),(.int .i64 QN),(.int .i64 QO)]) (jl:fQ<H.next) (OX:Lv<H.next) (Bv:fQ≠Lv) (o:Bool) (h:EZ eY iA gT gB gU iB iC ZN Ls QK Lu QL QM QN QO QS=some o) (Q:Post) (q0: ∀(p:Bool) (σ':Nat->PV),o=p->Fr JX aC σ'->(σ' 174=(.bool p))->Q .normal σ' H),dF Tryz.prog NT (Q .normal) σ H:=by
  intro fQ Lv eY iA gT gB gU iB iC ZN Ls QK Lu QL QM QN QO QS aC σ H f0 sl jl OX Bv o h Q q0;obtain⟨s6,jw,s20,aBf,Ml,awF⟩:=sl;have Mq:=ne_next jl;have Mr:=aV jl;have awG:=ne_next OX;have awH:=aV OX;have alJ:=eq_false Bv;have alK:=eq_false (Ne.symm Bv);unfold EZ at h;refine eB ?_;unfold NT;rcases au h with⟨e79,h⟩|⟨e79,h⟩
  ·rcases au h with⟨e80,h⟩|⟨e80,h⟩
   ·rcases au h with⟨e81,h⟩|⟨e81,h⟩
    ·rcases au h with⟨e82,h⟩|⟨e82,h⟩
     ·obtain rfl:=ak h;try refine ah ?_
      exact q0 _ _ rfl aJ av
     ·obtain rfl:=ak h;try refine ah ?_
      exact q0 _ _ rfl aJ av
    ·obtain rfl:=ak h;try refine ah ?_
     exact q0 _ _ rfl aJ av
   ·obtain rfl:=ak h;try refine ah ?_
    exact q0 _ _ rfl aJ av
  ·obtain rfl:=ak h;try refine ah ?_
   exact q0 _ _ rfl aJ av
def JY:List Nat:=[16,18,19,20,21,22]++List.range' 140 49
mutual
def lV:Nat->Printer->Int->Bool->Option Str
  |0,_,_,_=>none
  |k+1,p_0,bV,jQ=>
    Option.bind (Lp k bV p_0.e jQ) (fun p9=>cond p9 (Option.bind (E5 k p_0 bV) fun wM=>some wM) (Option.bind (wJ k p_0 bV) fun pI=>cond pI.2 (Option.bind (Gd k p_0 bV pI.1 jQ) fun wZ=>some wZ) (Option.bind (QT k p_0 bV) fun p26=>some p26)))
def E5:Nat->Printer->Int->Option Str
  |0,_,_=>none
  |k+1,p_0,bV=>
    Option.bind (lV k p_0 bV false) fun p2=>if([40]:Str).length+p2.length<=4611686018427387904 then if(40::p2).length+([41]:Str).length<=4611686018427387904 then some (40::(p2++([41]:Str)))else none else none
def rZ:Nat->Printer->Int->Bool->Bool->Option Str
  |0,_,_,_,_=>none
  |k+1,p_0,bV,Iq,bU=>
    cond Iq (Option.bind (E5 k p_0 bV) fun p3=>some p3) (Option.bind (lV k p_0 bV bU) fun p5=>some p5)
def rM:Nat->Bool->(List Nd)->Str->Int->Int->Int->Bool->Int->Int->(List Str)->Int->(List Int)->Int->Int->Option (List Str)
  |0,_,_,_,_,_,_,_,_,_,_,_,_,_,_=>none
  |k+1,bU,uK,eY,iA,gT,gB,gU,iB,iC,pF,rO,AJ,AL,qC=>
    cond (decide (qC<AL)) (if 0<=qC then Option.bind (AJ[qC.toNat]?) fun ZO=>Option.bind (wJ k (Printer.mk uK) ZO) fun Cx=>Option.bind (EZ eY iA gT gB gU iB iC qC Cx.1.text Cx.1.fix Cx.1.low Cx.1.high Cx.1.left Cx.1.least Cx.1.most Cx.2) (fun p85=>cond (decide (qC<rO)) (Option.bind (rZ k (Printer.mk uK) ZO p85 true) fun OL=>if(pF.length+1)*16<=1099511627776 then rM k bU uK eY iA gT gB gU iB iC (pF++[OL]) rO AJ AL (IntKind.wrap .i64 (qC+1))else none) (Option.bind (rZ k (Printer.mk uK) ZO p85 bU) fun ad3=>if(pF.length+1)*16<=1099511627776 then rM k bU uK eY iA gT gB gU iB iC (pF++[ad3]) rO AJ AL (IntKind.wrap .i64 (qC+1))else none))else none) (some (pF))
def Gd:Nat->Printer->Int->Operator->Bool->Option Str
  |0,_,_,_,_=>none
  |k+1,p_0,bV,eZ,bU=>
    if 0<=bV then Option.bind (p_0.e[bV.toNat]?) fun x2=>cond (eZ.fix==2) (Option.bind (x2.args[0]?) fun x5=>Option.bind (wJ k p_0 x5) fun p8=>cond p8.2 (Option.bind (rZ k p_0 x5 (!(p8.1.text==eZ.text)) true) fun l6=>if l6.length+eZ.text.length<=4611686018427387904 then some (l6++eZ.text)else none) (Option.bind (rZ k p_0 x5 false true) fun kD=>if kD.length+eZ.text.length<=4611686018427387904 then some (kD++eZ.text)else none)) (cond (eZ.fix==0) (Option.bind (x2.args[0]?) fun Cm=>Option.bind (wJ k p_0 Cm) fun q8=>Option.bind (ET eZ.text eZ.fix eZ.low eZ.high eZ.left eZ.least eZ.most q8.1.text q8.1.fix q8.1.low q8.1.high q8.1.left q8.1.least q8.1.most q8.2) (fun p34=>Option.bind (EY eZ.text eZ.fix eZ.low eZ.high eZ.left eZ.least eZ.most eZ.text) (fun p61=>Option.bind (rZ k p_0 Cm p34 bU) fun p71=>if p61.length+p71.length<=4611686018427387904 then some (p61++p71)else none))) (Option.bind (rM k bU p_0.e eZ.text eZ.fix eZ.low eZ.high eZ.left eZ.least eZ.most ([]:List Str) (IntKind.wrap .i64 ((x2.args.length:Int) -1)) x2.args (x2.args.length:Int) 0) (fun ZP=>if([32]:Str).length+eZ.text.length<=4611686018427387904 then if(32::eZ.text).length+([32]:Str).length<=4611686018427387904 then if ZP.length<=1099511627776 then if(Lib.join ZP (32::(eZ.text++([32]:Str)))).length<=140737488355328 then some (Lib.join ZP (32::(eZ.text++([32]:Str))))else none else none else none else none)))else none
def QT:Nat->Printer->Int->Option Str
  |0,_,_=>none
  |k+1,p_0,bV=>
    if 0<=bV then Option.bind (p_0.e[bV.toNat]?) fun x2=>cond (x2.kind==0) (if 0<=x2.n/\x2.n<100 then some (Lib.decDigits (Int.toNat x2.n))else none) (cond (x2.kind==1) (if([34]:Str).length+x2.text.length<=4611686018427387904 then if(34::x2.text).length+([34]:Str).length<=4611686018427387904 then some (34::(x2.text++([34]:Str)))else none else none) (cond (x2.kind==2) (some x2.text) (cond (x2.kind==3) (if x2.text.length+([40]:Str).length<=4611686018427387904 then Option.bind (wT p_0 x2.args) fun rR=>if(x2.text++([40]:Str)).length+rR.length<=4611686018427387904 then if(x2.text++(40::rR)).length+([41]:Str).length<=4611686018427387904 then some (x2.text++(40::(rR++([41]:Str))))else none else none else none) (cond (x2.kind==4) (Option.bind (wT p_0 x2.args) fun wO=>if([60,60]:Str).length+wO.length<=4611686018427387904 then if(60::60::wO).length+([62,62]:Str).length<=4611686018427387904 then some (60::60::(wO++([62,62]:Str)))else none else none) (cond (x2.kind==5) (Option.bind (wT p_0 x2.args) fun FV=>if([123]:Str).length+FV.length<=4611686018427387904 then if(123::FV).length+([125]:Str).length<=4611686018427387904 then some (123::(FV++([125]:Str)))else none else none) (cond (x2.kind==6) (Option.bind (wT p_0 x2) fun p28=>if([123]:Str).length+p28.length<=4611686018427387904 then if(123::p28).length+([32,58,32]:Str).length<=4611686018427387904 then Option.bind (x2.args[1]?) fun x31=>Option.bind (lV k p_0 x31 false) fun p34=>if(123::(p28++([32,58,32]:Str))).length+p34.length<=4611686018427387904 then if(123::(p28++(32::58::32::p34))).length+([125]:Str).length<=4611686018427387904 then some (123::(p28++(32::58::32::(p34++([125]:Str)))))else none else none else none else none) (cond (x2.kind==7) (if 0<=(IntKind.wrap .i64 ((x2.args.length:Int) -1))then Option.bind (x2.args[(IntKind.wrap .i64 ((x2.args.length:Int) -1)).toNat]?) fun x39=>Option.bind (wT p_0 x39) fun p42=>if([123]:Str).length+p42.length<=4611686018427387904 then if(123::p42).length+([32,58,32]:Str).length<=4611686018427387904 then Option.bind (wT p_0 x2) fun p46=>if(123::(p42++([32,58,32]:Str))).length+p46.length<=4611686018427387904 then if(123::(p42++(32::58::32::p46))).length+([125]:Str).length<=4611686018427387904 then some (123::(p42++(32::58::32::(p46++([125]:Str)))))else none else none else none else none else none) (cond (x2.kind==13) (Option.bind (wT p_0 x2) fun p51=>if([91]:Str).length+p51.length<=4611686018427387904 then if(91::p51).length+([32,124,45,62,32]:Str).length<=4611686018427387904 then if 0<=(IntKind.wrap .i64 ((x2.args.length:Int) -1))then Option.bind (x2.args[(IntKind.wrap .i64 ((x2.args.length:Int) -1)).toNat]?) fun x55=>Option.bind (lV k p_0 x55 false) fun p58=>if(91::(p51++([32,124,45,62,32]:Str))).length+p58.length<=4611686018427387904 then if(91::(p51++(32::124::45::62::32::p58))).length+([93]:Str).length<=4611686018427387904 then some (91::(p51++(32::124::45::62::32::(p58++([93]:Str)))))else none else none else none else none else none) (cond (x2.kind==14) (Option.bind (x2.args[0]?) fun x62=>Option.bind (wT p_0 x62) fun p65=>if p65.length+([91]:Str).length<=4611686018427387904 then if 1<=x2.args.length then Option.bind (wT p_0 (x2.args.drop 1)) fun p69=>if(p65++([91]:Str)).length+p69.length<=4611686018427387904 then if(p65++(91::p69)).length+([93]:Str).length<=4611686018427387904 then some (p65++(91::(p69++([93]:Str))))else none else none else none else none) (cond (x2.kind==15) (Option.bind (x2.args[0]?) fun Vt=>Option.bind (lV k p_0 Vt false) fun p76=>if([91]:Str).length+p76.length<=4611686018427387904 then if(91::p76).length+([32,45,62,32]:Str).length<=4611686018427387904 then Option.bind (x2.args[1]?) fun x79=>Option.bind (lV k p_0 x79 false) fun p82=>if(91::(p76++([32,45,62,32]:Str))).length+p82.length<=4611686018427387904 then if(91::(p76++(32::45::62::32::p82))).length+([93]:Str).length<=4611686018427387904 then some (91::(p76++(32::45::62::32::(p82++([93]:Str)))))else none else none else none else none) (cond (x2.kind==16) (Option.bind (ah7 p_0 x2 ([32,124,45,62,32]:Str)) fun Jy=>if([91]:Str).length+Jy.length<=4611686018427387904 then if(91::Jy).length+([93]:Str).length<=4611686018427387904 then some (91::(Jy++([93]:Str)))else none else none) (cond (x2.kind==17) (Option.bind (ah7 p_0 x2 ([32,58,32]:Str)) fun Zc=>if([91]:Str).length+Zc.length<=4611686018427387904 then if(91::Zc).length+([93]:Str).length<=4611686018427387904 then some (91::(Zc++([93]:Str)))else none else none) (cond (x2.kind==18) (Option.bind (x2.args[0]?) fun x96=>Option.bind (wT p_0 x96) fun p99=>if p99.length+([46]:Str).length<=4611686018427387904 then if(p99++([46]:Str)).length+x2.text.length<=4611686018427387904 then some (p99++(46::x2.text))else none else none) (cond (x2.kind==19) (Option.bind (x2.args[0]?) fun x103=>Option.bind (lV k p_0 x103 false) fun EH=>if([91]:Str).length+EH.length<=4611686018427387904 then if(91::EH).length+([32,69,88,67,69,80,84,32,33,91]:Str).length<=4611686018427387904 then Option.bind (x2.args[1]?) fun ah9=>Option.bind (lV k p_0 ah9 false) fun Jf=>if(91::(EH++([32,69,88,67,69,80,84,32,33,91]:Str))).length+Jf.length<=4611686018427387904 then if(91::(EH++(32::69::88::67::69::80::84::32::33::91::Jf))).length+([93,32,61,32]:Str).length<=4611686018427387904 then Option.bind (x2.args[2]?) fun x115=>Option.bind (lV k p_0 x115 false) fun Gx=>if(91::(EH++(32::69::88::67::69::80::84::32::33::91::(Jf++([93,32,61,32]:Str))))).length+Gx.length<=4611686018427387904 then if(91::(EH++(32::69::88::67::69::80::84::32::33::91::(Jf++(93::32::61::32::Gx))))).length+([93]:Str).length<=4611686018427387904 then some (91::(EH++(32::69::88::67::69::80::84::32::33::91::(Jf++(93::32::61::32::(Gx++([93]:Str)))))))else none else none else none else none else none else none) (cond (x2.kind==20) (some ([64]:Str)) (cond (x2.kind==25) (Option.bind (x2.args[0]?) fun aia=>Option.bind (lV k p_0 aia false) fun ZQ=>if([91]:Str).length+ZQ.length<=4611686018427387904 then if(91::ZQ).length+([93,95]:Str).length<=4611686018427387904 then Option.bind (x2.args[1]?) fun aib=>Option.bind (wT p_0 aib) fun Uz=>if(91::(ZQ++([93,95]:Str))).length+Uz.length<=4611686018427387904 then some (91::(ZQ++(93::95::Uz)))else none else none else none) (cond (x2.kind==26) (Option.bind (x2.args[0]?) fun aic=>Option.bind (lV k p_0 aic false) fun KD=>if([60,60]:Str).length+KD.length<=4611686018427387904 then if(60::60::KD).length+([62,62,95]:Str).length<=4611686018427387904 then Option.bind (x2.args[1]?) fun aie=>Option.bind (wT p_0 aie) fun Ua=>if(60::60::(KD++([62,62,95]:Str))).length+Ua.length<=4611686018427387904 then some (60::60::(KD++(62::62::95::Ua)))else none else none else none) (cond (x2.kind==27) (Option.bind (x2.args[1]?) fun aif=>Option.bind (wT p_0 aif) fun UR=>if([87,70,95]:Str).length+UR.length<=4611686018427387904 then if(87::70::95::UR).length+([40]:Str).length<=4611686018427387904 then Option.bind (x2.args[0]?) fun x153=>Option.bind (lV k p_0 x153 false) fun OB=>if(87::70::95::(UR++([40]:Str))).length+OB.length<=4611686018427387904 then if(87::70::95::(UR++(40::OB))).length+([41]:Str).length<=4611686018427387904 then some (87::70::95::(UR++(40::(OB++([41]:Str)))))else none else none else none else none) (cond (x2.kind==28) (Option.bind (x2.args[1]?) fun x160=>Option.bind (wT p_0 x160) fun UU=>if([83,70,95]:Str).length+UU.length<=4611686018427387904 then if(83::70::95::UU).length+([40]:Str).length<=4611686018427387904 then Option.bind (x2.args[0]?) fun aii=>Option.bind (lV k p_0 aii false) fun ad4=>if(83::70::95::(UU++([40]:Str))).length+ad4.length<=4611686018427387904 then if(83::70::95::(UU++(40::ad4))).length+([41]:Str).length<=4611686018427387904 then some (83::70::95::(UU++(40::(ad4++([41]:Str)))))else none else none else none else none) (Option.bind (wT p_0 x2) fun aqn=>some aqn))))))))))))))))))))else none
end
mutual
theorem lF (k:Nat): ∀(p_0:Printer) (bV:Int) (jQ:Bool) (r:Str) (h:lV k p_0 bV jQ=some r),aF Tryz.prog 59 [(.agg (Printer.cells p_0)),(.int .i64 bV),(.bool jQ)] (.str r):=by
  match k with
  |0=>intro p_0 bV jQ r h;rw [lV]at h;cases h
  |k+1=>
    intro p_0 bV jQ r h;refine aF.aQ (bf.mem (.cons (.agg _ (Printer.pu _)) (.cons (.int _ _) (.cons (.bool _) .nil)))) (aG auW (by simp) (aD ?_)) (.str _);rw [lV]at h;unfold anJ;try refine ah ?_
    obtain⟨o7,h8,h⟩:=aj h;refine abg k (AH.empty.next) bV p_0.e jQ _ _ _ (Fr.refl _ _) av bQ _ h8 _ ?_
    ·rintro p9 σ' eo YJ s13;rw [eo]at h;have JC:σ' 1=(.int .i64 bV):=(YJ 1 (by decide)).trans av;have s15:σ' 2=(.bool jQ):=(YJ 2 (by decide)).trans av;have s16:σ' 3=(.ref (AH.empty.next) 0):=(YJ 3 (by decide)).trans av;rcases au h with⟨e17,h⟩|⟨e17,h⟩
     ·obtain⟨wM,e18,h⟩:=aj h;try refine ah ?_
      refine aB ((QU k p_0 bV _ e18).wk (.same (.same .nil))) ?_;obtain rfl:=ak h;try refine ah ?_
      exact(.pure _ (.str _))
     ·obtain⟨pI,e20,h⟩:=aj h;try refine ah ?_
      refine aB (AB e20) ?_;rcases au h with⟨e22,h⟩|⟨e22,h⟩
      ·obtain⟨wZ,e23,h⟩:=aj h;try refine ah ?_
       refine aB ((abh k p_0 bV pI.1 jQ _ e23).wk (.same (.same (.same (.same .nil))))) ?_;obtain rfl:=ak h;try refine ah ?_
       exact(.pure _ (.str _))
      ·obtain⟨p26,e25,h⟩:=aj h;try refine ah ?_
       refine aB ((aij k p_0 bV _ e25).wk (.same (.same .nil))) ?_;obtain rfl:=ak h;try refine ah ?_
       exact(.pure _ (.str _))
theorem QU (k:Nat): ∀(p_0:Printer) (bV:Int) (r:Str) (h:E5 k p_0 bV=some r),aF Tryz.prog 99 [(.agg (Printer.cells p_0)),(.int .i64 bV)] (.str r):=by
  match k with
  |0=>intro p_0 bV r h;rw [E5]at h;cases h
  |k+1=>
    intro p_0 bV r h;refine aF.aQ (bf.mem (.cons (.agg _ (Printer.pu _)) (.cons (.int _ _) .nil))) (aG avn (by simp) (aD ?_)) (.str _);rw [E5]at h;unfold aoh;obtain⟨p2,e1,h⟩:=aj h;try refine ah ?_
    refine aB ((lF k p_0 bV false _ e1).wk (.same (.same (.same .nil)))) ?_;obtain⟨e3,h⟩:=aP h;try refine ah ?_
    refine dx (dG e3) ?_;obtain⟨e4,h⟩:=aP h;try refine ah ?_
    refine dx (dG e4) ?_;obtain rfl:=ak h;try refine ah ?_
    exact(.pure _ (.str _))
theorem xJ (k:Nat): ∀(p_0:Printer) (bV:Int) (Iq:Bool) (bU:Bool) (r:Str) (h:rZ k p_0 bV Iq bU=some r),aF Tryz.prog 150 [(.agg (Printer.cells p_0)),(.int .i64 bV),(.bool Iq),(.bool bU)] (.str r):=by
  match k with
  |0=>intro p_0 bV Iq bU r h;rw [rZ]at h;cases h
  |k+1=>
    intro p_0 bV Iq bU r h;refine aF.aQ (bf.mem (.cons (.agg _ (Printer.pu _)) (.cons (.int _ _) (.cons (.bool _) (.cons (.bool _) .nil))))) (aG ar3 (by simp) (aD ?_)) (.str _);rw [rZ]at h;unfold ajv;rcases au h with⟨e1,h⟩|⟨e1,h⟩
    ·obtain⟨p3,e2,h⟩:=aj h;try refine ah ?_
     refine aB ((QU k p_0 bV _ e2).wk (.same (.same .nil))) ?_;obtain rfl:=ak h;try refine ah ?_
     exact(.pure _ (.str _))
    ·obtain⟨p5,e4,h⟩:=aj h;try refine ah ?_
     refine aB ((lF k p_0 bV bU _ e4).wk (.same (.same (.same .nil)))) ?_;obtain rfl:=ak h;try refine ah ?_
     exact(.pure _ (.str _))
theorem Ir (k:Nat): ∀(wK:Nat) (fQ:Nat) (bU:Bool) (uK:List Nd) (eY:Str) (iA:Int) (gT:Int) (gB:Int) (gU:Bool) (iB:Int) (iC:Int) (pF:List Str) (rO:Int) (AJ:List Int) (AL:Int) (qC:Int) (oo:Ck) (aC σ:Nat->PV) (H0 H:AH) (f0:Fr JY aC σ) (hf0:HF [] H0 H) (sl:σ 3=(.bool bU)/\σ 4=(.ref (wK) 0)/\σ 6=(.ref (fQ) 0)/\σ 16=(.aA (pF.map aI) oo)/\σ 17=(.int .i64 rO)/\σ 138=(.aA (AJ.map aX) .unk)/\σ 139=(.int .i64 AL)/\σ 140=(.int .i64 qC)/\H.obj wK=some [(.aA (uK.map Nd.cells) .unk)]/\H.obj fQ=some [(.str eY),(.int .i64 iA),(.int .i64 gT),(.int .i64 gB),(.bool gU),(.int .i64 iB),(.int .i64 iC)]) (Ms:wK<H.next) (jl:fQ<H.next) (xW:wK≠fQ) (VN:bn H oo) (o:List Str) (h:rM k bU uK eY iA gT gB gU iB iC pF rO AJ AL qC=some o) (Q:Post) (q0: ∀(p:List Str) (c0:Ck) (σ':Nat->PV) (H':AH),o=p->Fr JY aC σ'->HF [] H0 H'->(σ' 16=(.aA (p.map aI) c0))->Q (.exit 2) σ' H'),W Tryz.prog (.loop NU) Q σ H:=by
  match k with
  |0=>intro wK fQ bU uK eY iA gT gB gU iB iC pF rO AJ AL qC oo aC σ H0 H f0 hf0 sl Ms jl xW VN o h Q q0;rw [rM]at h;cases h
  |k+1=>
    have ih:=Ir k;intro wK fQ bU uK eY iA gT gB gU iB iC pF rO AJ AL qC oo aC σ H0 H f0 hf0 sl Ms jl xW VN o h Q q0;obtain⟨s3,s4,s6,s16,tH,apZ,ap0,aBg,axn,Ml⟩:=sl;have axo:=ne_next Ms;have axp:=aV Ms;have Mq:=ne_next jl;have Mr:=aV jl;have al7:=eq_false xW;have al8:=eq_false (Ne.symm xW);have hle0:=hf0.1;rw [rM]at h;refine aT (fun K hK=>aD ?_);unfold NU;rcases au h with⟨PX,h⟩|⟨PX,h⟩
    ·obtain⟨e74,h⟩:=aP h;obtain⟨ZO,Vk,h⟩:=aj h;obtain⟨Cx,M4,h⟩:=aj h;try refine ah ?_
     refine aB (AB M4) ?_;try refine ah ?_
     obtain⟨o83,h84,h⟩:=aj h;refine UQ (fQ) (H.next) eY iA gT gB gU iB iC qC Cx.1.text Cx.1.fix Cx.1.low Cx.1.high Cx.1.left Cx.1.least Cx.1.most Cx.2 _ _ _ (Fr.refl _ _) av bQ bQ bQ _ h84 _ ?_
     ·rintro p85 σ' eo CX s89;rw [eo]at h;have s90:σ' 3=(.bool bU):=(CX 3 (by decide)).trans av;have s91:σ' 4=(.ref (wK) 0):=(CX 4 (by decide)).trans av;have s92:σ' 6=(.ref (fQ) 0):=(CX 6 (by decide)).trans av;have s93:σ' 16=(.aA (pF.map aI) oo):=(CX 16 (by decide)).trans av;have s94:σ' 17=(.int .i64 rO):=(CX 17 (by decide)).trans av;have s95:σ' 18=(.int .i64 qC):=(CX 18 (by decide)).trans av;have s96:σ' 19=(.int .i64 ZO):=(CX 19 (by decide)).trans av;have s97:σ' 138=(.aA (AJ.map aX) .unk):=(CX 138 (by decide)).trans av;have s98:σ' 139=(.int .i64 AL):=(CX 139 (by decide)).trans av;have s99:σ' 140=(.int .i64 qC):=(CX 140 (by decide)).trans av;rcases au h with⟨e100,h⟩|⟨e100,h⟩
      ·obtain⟨OL,OA,h⟩:=aj h;try refine ah ?_
       refine aB ((xJ k (Printer.mk uK) ZO p85 true _ OA).wk (.same (.same (.same (.same .nil))))) ?_;obtain⟨Ey,h⟩:=aP h;try refine ah ?_
       refine gu (f:=aI) jg pF ([OL]:List Str) oo .exact av av fG (by first|exact Ey|(simp only [List.length_cons,List.length_nil];exact Ey)) (fun awI OY azU le asC azV=> ?_);have Xl:HF [] _ OY:=⟨le,fun i _ _=>asC i⟩;try simp only [AH.aK,AH.aL,AH.aM,AH.aN]at le
       have n119:=ne_next (show wK<OY.next by first|omega|(simp only [AH.aK,AH.aL,AH.aM,AH.aN];omega));have aBh:=aV (show wK<OY.next by first|omega|(simp only [AH.aK,AH.aL,AH.aM,AH.aN];omega));have n121:=ne_next (show fQ<OY.next by first|omega|(simp only [AH.aK,AH.aL,AH.aM,AH.aN];omega));have aBi:=aV (show fQ<OY.next by first|omega|(simp only [AH.aK,AH.aL,AH.aM,AH.aN];omega));have n123:=ne_next (show H.next<OY.next by first|omega|(simp only [AH.aK,AH.aL,AH.aM,AH.aN];omega));have aBj:=aV (show H.next<OY.next by first|omega|(simp only [AH.aK,AH.aL,AH.aM,AH.aN];omega));try refine ah ?_
       refine hK _ _ ?_;exact ih wK fQ bU uK eY iA gT gB gU iB iC (pF++[OL]) rO AJ AL (IntKind.wrap .i64 (qC+1)) awI _ _ _ _ (by repeat (first|exact f0|refine Fr.upd (by decide) ?_|refine Fr.via CX (by decide) ?_)) (by repeat (first|exact hf0|refine HF.new ?_|refine HF.fI ?_|refine HF.used ?_|refine HF.put (by first|(right;omega)|(left;simp only [List.mem_cons,true_or,or_true])) ?_|refine HF.via Xl (by first|exact fun i hi=>absurd hi List.not_mem_nil|(intro i hi;simp only [List.mem_cons,List.not_mem_nil,or_false]at hi⊢;first|exact .inl hi|omega)) ?_)) av bQ bQ bQ fG _ h _ q0
      ·obtain⟨ad3,TT,h⟩:=aj h;try refine ah ?_
       refine aB ((xJ k (Printer.mk uK) ZO p85 bU _ TT).wk (.same (.same (.same (.same .nil))))) ?_;obtain⟨e116,h⟩:=aP h;try refine ah ?_
       refine gu (f:=aI) jg pF ([ad3]:List Str) oo .exact av av fG (by first|exact e116|(simp only [List.length_cons,List.length_nil];exact e116)) (fun awJ OZ ai2 le asD azW=> ?_);have asE:HF [] _ OZ:=⟨le,fun i _ _=>asD i⟩;try simp only [AH.aK,AH.aL,AH.aM,AH.aN]at le
       have n125:=ne_next (show wK<OZ.next by first|omega|(simp only [AH.aK,AH.aL,AH.aM,AH.aN];omega));have aBk:=aV (show wK<OZ.next by first|omega|(simp only [AH.aK,AH.aL,AH.aM,AH.aN];omega));have n127:=ne_next (show fQ<OZ.next by first|omega|(simp only [AH.aK,AH.aL,AH.aM,AH.aN];omega));have aBl:=aV (show fQ<OZ.next by first|omega|(simp only [AH.aK,AH.aL,AH.aM,AH.aN];omega));have n129:=ne_next (show H.next<OZ.next by first|omega|(simp only [AH.aK,AH.aL,AH.aM,AH.aN];omega));have aBm:=aV (show H.next<OZ.next by first|omega|(simp only [AH.aK,AH.aL,AH.aM,AH.aN];omega));try refine ah ?_
       refine hK _ _ ?_;exact ih wK fQ bU uK eY iA gT gB gU iB iC (pF++[ad3]) rO AJ AL (IntKind.wrap .i64 (qC+1)) awJ _ _ _ _ (by repeat (first|exact f0|refine Fr.upd (by decide) ?_|refine Fr.via CX (by decide) ?_)) (by repeat (first|exact hf0|refine HF.new ?_|refine HF.fI ?_|refine HF.used ?_|refine HF.put (by first|(right;omega)|(left;simp only [List.mem_cons,true_or,or_true])) ?_|refine HF.via asE (by first|exact fun i hi=>absurd hi List.not_mem_nil|(intro i hi;simp only [List.mem_cons,List.not_mem_nil,or_false]at hi⊢;first|exact .inl hi|omega)) ?_)) av bQ bQ bQ fG _ h _ q0
    ·obtain rfl:=ak h;try refine ah ?_
     exact q0 _ oo _ _ rfl aJ (by repeat (first|exact hf0|refine HF.new ?_|refine HF.fI ?_|refine HF.used ?_|refine HF.put (by first|(right;omega)|(left;simp only [List.mem_cons,true_or,or_true])) ?_)) av
theorem abh (k:Nat): ∀(p_0:Printer) (bV:Int) (eZ:Operator) (bU:Bool) (r:Str) (h:Gd k p_0 bV eZ bU=some r),aF Tryz.prog 101 [(.agg (Printer.cells p_0)),(.int .i64 bV),(.agg (Operator.cells eZ)),(.bool bU)] (.str r):=by
  match k with
  |0=>intro p_0 bV eZ bU r h;rw [Gd]at h;cases h
  |k+1=>
    intro p_0 bV eZ bU r h;refine aF.aQ (bf.mem (.cons (.agg _ (Printer.pu _)) (.cons (.int _ _) (.cons (.agg _ (Operator.pu _)) (.cons (.bool _) .nil))))) (aG arv (by simp) (aD ?_)) (.str _);rw [Gd]at h;unfold aiT;obtain⟨e1,h⟩:=aP h;obtain⟨x2,e3,h⟩:=aj h;rcases au h with⟨e4,h⟩|⟨e4,h⟩
    ·try refine ah ?_
     refine Rq (AH.empty.next+3) ?_;obtain⟨x5,e6,h⟩:=aj h;obtain⟨p8,e7,h⟩:=aj h;try refine ah ?_
     refine PC.mk (AB e7) ?_;try refine ah ?_
     refine eO ?_;rcases au h with⟨e9,h⟩|⟨e9,h⟩
     ·obtain⟨l6,e10,h⟩:=aj h;try refine ah ?_
      refine PC.mk ((xJ k p_0 x5 (!(p8.1.text==eZ.text)) true _ e10).wk (.same (.same (.same (.same .nil))))) ?_;obtain⟨e12,h⟩:=aP h;try refine ah ?_
      refine dx (dG e12) ?_;obtain rfl:=ak h;try refine ah ?_
      exact(.pure _ (.str _))
     ·obtain⟨kD,e13,h⟩:=aj h;try refine ah ?_
      refine PC.mk ((xJ k p_0 x5 false true _ e13).wk (.same (.same (.same (.same .nil))))) ?_;obtain⟨e15,h⟩:=aP h;try refine ah ?_
      refine dx (dG e15) ?_;obtain rfl:=ak h;try refine ah ?_
      exact(.pure _ (.str _))
    ·rcases au h with⟨e16,h⟩|⟨e16,h⟩
     ·try refine ah ?_
      refine Rq (AH.empty.next+3) ?_;obtain⟨Cm,e18,h⟩:=aj h;obtain⟨q8,e19,h⟩:=aj h;try refine ah ?_
      refine PC.mk (AB e19) ?_;try refine ah ?_
      obtain⟨o32,h33,h⟩:=aj h;refine UM (AH.empty.next+1) (AH.empty.next+3) eZ.text eZ.fix eZ.low eZ.high eZ.left eZ.least eZ.most q8.1.text q8.1.fix q8.1.low q8.1.high q8.1.left q8.1.least q8.1.most q8.2 _ _ _ (Fr.refl _ _) av bQ bQ bQ _ h33 _ ?_
      ·rintro p34 σ' eo ad5 s38;rw [eo]at h;have s39:σ' 3=(.bool bU):=(ad5 3 (by decide)).trans av;have s40:σ' 4=(.ref (AH.empty.next) 0):=(ad5 4 (by decide)).trans av;have s41:σ' 6=(.ref (AH.empty.next+1) 0):=(ad5 6 (by decide)).trans av;have s42:σ' 9=(.ref (AH.empty.next+2) 0):=(ad5 9 (by decide)).trans av;try refine ah ?_
       obtain⟨o59,h60,h⟩:=aj h;refine UO (AH.empty.next+1) eZ.text eZ.fix eZ.low eZ.high eZ.left eZ.least eZ.most eZ.text _ _ _ (Fr.refl _ _) av bQ _ h60 _ ?_
       ·rintro p61 σ' eo ad6 s65;rw [eo]at h;have s66:σ' 3=(.bool bU):=(ad6 3 (by decide)).trans av;have s67:σ' 4=(.ref (AH.empty.next) 0):=(ad6 4 (by decide)).trans av;have s68:σ' 9=(.ref (AH.empty.next+2) 0):=(ad6 9 (by decide)).trans av;have s69:σ' 14=(.bool p34):=(ad6 14 (by decide)).trans av;try refine ah ?_
        refine eO ?_;obtain⟨p71,e70,h⟩:=aj h;try refine ah ?_
        refine PC.mk ((xJ k p_0 Cm p34 bU _ e70).wk (.same (.same (.same (.same .nil))))) ?_;obtain⟨e72,h⟩:=aP h;try refine ah ?_
        refine dx (dG e72) ?_;obtain rfl:=ak h;try refine ah ?_
        exact(.pure _ (.str _))
     ·try refine ah ?_
      obtain⟨aBn,aik,h⟩:=aj h;refine Ir k (AH.empty.next) (AH.empty.next+1) bU p_0.e eZ.text eZ.fix eZ.low eZ.high eZ.left eZ.least eZ.most ([]:List Str) (IntKind.wrap .i64 ((x2.args.length:Int) -1)) x2.args (x2.args.length:Int) 0 .nil _ _ _ _ (Fr.refl _ _) (HF.refl _ _) av bQ bQ bQ fG _ aik _ ?_
      ·rintro ZP aBo σ' ail eo asF akh apZ;rw [eo]at h;have ap0:σ' 6=(.ref (AH.empty.next+1) 0):=(asF 6 (by decide)).trans av;have le:=akh.1;try simp only [AH.aK,AH.aL,AH.aM,AH.aN]at le
       have aBp:ail.obj (AH.empty.next+1)=some [(.str eZ.text),(.int .i64 eZ.fix),(.int .i64 eZ.low),(.int .i64 eZ.high),(.bool eZ.left),(.int .i64 eZ.least),(.int .i64 eZ.most)]:=(akh.2 _ bQ (by first|exact List.not_mem_nil|(simp only [List.mem_cons,List.not_mem_nil,or_false,not_or];omega))).trans av;have n141:=ne_next (show AH.empty.next+1<ail.next by first|omega|(simp only [AH.aK,AH.aL,AH.aM,AH.aN];omega));have aBq:=aV (show AH.empty.next+1<ail.next by first|omega|(simp only [AH.aK,AH.aL,AH.aM,AH.aN];omega));obtain⟨e143,h⟩:=aP h;try refine ah ?_
       refine dx (dG e143) ?_;obtain⟨ahR,h⟩:=aP h;try refine ah ?_
       refine dx (dG ahR) ?_;obtain⟨aqo,h⟩:=aP h;obtain⟨adM,h⟩:=aP h;try refine ah ?_
       refine aB (amS ZP (32::(eZ.text++([32]:Str))) (by assumption) (by assumption)) ?_;obtain rfl:=ak h;try refine ah ?_
       exact(.pure _ (.str _))
theorem aij (k:Nat): ∀(p_0:Printer) (bV:Int) (r:Str) (h:QT k p_0 bV=some r),aF Tryz.prog 102 [(.agg (Printer.cells p_0)),(.int .i64 bV)] (.str r):=by
  match k with
  |0=>intro p_0 bV r h;rw [QT]at h;cases h
  |k+1=>
    intro p_0 bV r h;refine aF.aQ (bf.mem (.cons (.agg _ (Printer.pu _)) (.cons (.int _ _) .nil))) (aG arw (by simp) (aD ?_)) (.str _);rw [QT]at h;unfold aiU;obtain⟨e1,h⟩:=aP h;obtain⟨x2,e3,h⟩:=aj h;rcases au h with⟨e4,h⟩|⟨e4,h⟩
    ·obtain⟨e5,h⟩:=aP h;try refine ah ?_
     refine aB (XW x2.n (by assumption)) ?_;obtain rfl:=ak h;try refine ah ?_
     exact(.pure _ (.str _))
    ·rcases au h with⟨e6,h⟩|⟨e6,h⟩
     ·obtain⟨e7,h⟩:=aP h;try refine ah ?_
      refine dx (dG e7) ?_;obtain⟨e8,h⟩:=aP h;try refine ah ?_
      refine dx (dG e8) ?_;obtain rfl:=ak h;try refine ah ?_
      exact(.pure _ (.str _))
     ·rcases au h with⟨e9,h⟩|⟨e9,h⟩
      ·obtain rfl:=ak h;try refine ah ?_
       exact(.pure _ (.str _))
      ·rcases au h with⟨e10,h⟩|⟨e10,h⟩
       ·try refine ah ?_
        refine eO ?_;obtain⟨e11,h⟩:=aP h;try refine ah ?_
        refine iD (dG e11) ?_;obtain⟨rR,e12,h⟩:=aj h;try refine ah ?_
        refine PC.mk (tq p_0 x2.args e12) ?_;obtain⟨e14,h⟩:=aP h;try refine ah ?_
        refine dx (dG e14) ?_;obtain⟨e15,h⟩:=aP h;try refine ah ?_
        refine dx (dG e15) ?_;obtain rfl:=ak h;try refine ah ?_
        exact(.pure _ (.str _))
       ·rcases au h with⟨e16,h⟩|⟨e16,h⟩
        ·obtain⟨wO,e17,h⟩:=aj h;try refine ah ?_
         refine aB (tq p_0 x2.args e17) ?_;obtain⟨e19,h⟩:=aP h;try refine ah ?_
         refine dx (dG e19) ?_;obtain⟨e20,h⟩:=aP h;try refine ah ?_
         refine dx (dG e20) ?_;obtain rfl:=ak h;try refine ah ?_
         exact(.pure _ (.str _))
        ·rcases au h with⟨e21,h⟩|⟨e21,h⟩
         ·obtain⟨FV,e22,h⟩:=aj h;try refine ah ?_
          refine aB (tq p_0 x2.args e22) ?_;obtain⟨e24,h⟩:=aP h;try refine ah ?_
          refine dx (dG e24) ?_;obtain⟨e25,h⟩:=aP h;try refine ah ?_
          refine dx (dG e25) ?_;obtain rfl:=ak h;try refine ah ?_
          exact(.pure _ (.str _))
         ·rcases au h with⟨e26,h⟩|⟨e26,h⟩
          ·try refine ah ?_
           refine eO ?_;obtain⟨p28,e27,h⟩:=aj h;try refine ah ?_
           refine PC.mk (tq p_0 x2 e27) ?_;obtain⟨e29,h⟩:=aP h;try refine ah ?_
           refine iD (dG e29) ?_;obtain⟨e30,h⟩:=aP h;try refine ah ?_
           refine iD (dG e30) ?_;obtain⟨x31,e32,h⟩:=aj h;obtain⟨p34,e33,h⟩:=aj h;try refine ah ?_
           refine PC.mk ((lF k p_0 x31 false _ e33).wk (.same (.same (.same .nil)))) ?_;obtain⟨e35,h⟩:=aP h;try refine ah ?_
           refine dx (dG e35) ?_;obtain⟨e36,h⟩:=aP h;try refine ah ?_
           refine dx (dG e36) ?_;obtain rfl:=ak h;try refine ah ?_
           exact(.pure _ (.str _))
          ·rcases au h with⟨e37,h⟩|⟨e37,h⟩
           ·try refine ah ?_
            refine eO ?_;obtain⟨e38,h⟩:=aP h;obtain⟨x39,e40,h⟩:=aj h;obtain⟨p42,e41,h⟩:=aj h;try refine ah ?_
            refine PC.mk (tq p_0 x39 e41) ?_;obtain⟨e43,h⟩:=aP h;try refine ah ?_
            refine iD (dG e43) ?_;obtain⟨e44,h⟩:=aP h;try refine ah ?_
            refine iD (dG e44) ?_;obtain⟨p46,e45,h⟩:=aj h;try refine ah ?_
            refine PC.mk (tq p_0 x2 e45) ?_;obtain⟨e47,h⟩:=aP h;try refine ah ?_
            refine dx (dG e47) ?_;obtain⟨e48,h⟩:=aP h;try refine ah ?_
            refine dx (dG e48) ?_;obtain rfl:=ak h;try refine ah ?_
            exact(.pure _ (.str _))
           ·rcases au h with⟨e49,h⟩|⟨e49,h⟩
            ·try refine ah ?_
             refine eO ?_;obtain⟨p51,e50,h⟩:=aj h;try refine ah ?_
             refine PC.mk (tq p_0 x2 e50) ?_;obtain⟨e52,h⟩:=aP h;try refine ah ?_
             refine iD (dG e52) ?_;obtain⟨e53,h⟩:=aP h;try refine ah ?_
             refine iD (dG e53) ?_;obtain⟨e54,h⟩:=aP h;obtain⟨x55,e56,h⟩:=aj h;obtain⟨p58,e57,h⟩:=aj h;try refine ah ?_
             refine PC.mk ((lF k p_0 x55 false _ e57).wk (.same (.same (.same .nil)))) ?_;obtain⟨e59,h⟩:=aP h;try refine ah ?_
             refine dx (dG e59) ?_;obtain⟨e60,h⟩:=aP h;try refine ah ?_
             refine dx (dG e60) ?_;obtain rfl:=ak h;try refine ah ?_
             exact(.pure _ (.str _))
            ·rcases au h with⟨e61,h⟩|⟨e61,h⟩
             ·try refine ah ?_
              refine eO ?_;obtain⟨x62,e63,h⟩:=aj h;obtain⟨p65,e64,h⟩:=aj h;try refine ah ?_
              refine PC.mk (tq p_0 x62 e64) ?_;obtain⟨e66,h⟩:=aP h;try refine ah ?_
              refine iD (dG e66) ?_;obtain⟨e67,h⟩:=aP h;obtain⟨p69,e68,h⟩:=aj h;try refine ah ?_
              refine PC.mk (tq p_0 (x2.args.drop 1) e68) ?_;obtain⟨e70,h⟩:=aP h;try refine ah ?_
              refine dx (dG e70) ?_;obtain⟨e71,h⟩:=aP h;try refine ah ?_
              refine dx (dG e71) ?_;obtain rfl:=ak h;try refine ah ?_
              exact(.pure _ (.str _))
             ·rcases au h with⟨e72,h⟩|⟨e72,h⟩
              ·try refine ah ?_
               refine eO ?_;obtain⟨Vt,e74,h⟩:=aj h;obtain⟨p76,PK,h⟩:=aj h;try refine ah ?_
               refine PC.mk ((lF k p_0 Vt false _ PK).wk (.same (.same (.same .nil)))) ?_;obtain⟨M4,h⟩:=aP h;try refine ah ?_
               refine iD (dG M4) ?_;obtain⟨Yq,h⟩:=aP h;try refine ah ?_
               refine iD (dG Yq) ?_;obtain⟨x79,e80,h⟩:=aj h;obtain⟨p82,e81,h⟩:=aj h;try refine ah ?_
               refine PC.mk ((lF k p_0 x79 false _ e81).wk (.same (.same (.same .nil)))) ?_;obtain⟨e83,h⟩:=aP h;try refine ah ?_
               refine dx (dG e83) ?_;obtain⟨e84,h⟩:=aP h;try refine ah ?_
               refine dx (dG e84) ?_;obtain rfl:=ak h;try refine ah ?_
               exact(.pure _ (.str _))
              ·rcases au h with⟨e85,h⟩|⟨e85,h⟩
               ·obtain⟨Jy,PL,h⟩:=aj h;try refine ah ?_
                refine aB (ake p_0 x2 ([32,124,45,62,32]:Str) PL) ?_;obtain⟨PN,h⟩:=aP h;try refine ah ?_
                refine dx (dG PN) ?_;obtain⟨PO,h⟩:=aP h;try refine ah ?_
                refine dx (dG PO) ?_;obtain rfl:=ak h;try refine ah ?_
                exact(.pure _ (.str _))
               ·rcases au h with⟨Yg,h⟩|⟨Yg,h⟩
                ·obtain⟨Zc,PS,h⟩:=aj h;try refine ah ?_
                 refine aB (ake p_0 x2 ([32,58,32]:Str) PS) ?_;obtain⟨PY,h⟩:=aP h;try refine ah ?_
                 refine dx (dG PY) ?_;obtain⟨e94,h⟩:=aP h;try refine ah ?_
                 refine dx (dG e94) ?_;obtain rfl:=ak h;try refine ah ?_
                 exact(.pure _ (.str _))
                ·rcases au h with⟨e95,h⟩|⟨e95,h⟩
                 ·try refine ah ?_
                  refine eO ?_;obtain⟨x96,e97,h⟩:=aj h;obtain⟨p99,e98,h⟩:=aj h;try refine ah ?_
                  refine PC.mk (tq p_0 x96 e98) ?_;obtain⟨e100,h⟩:=aP h;try refine ah ?_
                  refine iD (dG e100) ?_;obtain⟨OA,h⟩:=aP h;try refine ah ?_
                  refine dx (dG OA) ?_;obtain rfl:=ak h;try refine ah ?_
                  exact(.pure _ (.str _))
                 ·rcases au h with⟨Yr,h⟩|⟨Yr,h⟩
                  ·try refine ah ?_
                   refine eO ?_;obtain⟨x103,ahF,h⟩:=aj h;obtain⟨EH,KE,h⟩:=aj h;try refine ah ?_
                   refine PC.mk ((lF k p_0 x103 false _ KE).wk (.same (.same (.same .nil)))) ?_;obtain⟨Ey,h⟩:=aP h;try refine ah ?_
                   refine iD (dG Ey) ?_;obtain⟨e108,h⟩:=aP h;try refine ah ?_
                   refine iD (dG e108) ?_;obtain⟨ah9,TT,h⟩:=aj h;obtain⟨Jf,Yt,h⟩:=aj h;try refine ah ?_
                   refine PC.mk ((lF k p_0 ah9 false _ Yt).wk (.same (.same (.same .nil)))) ?_;obtain⟨Yu,h⟩:=aP h;try refine ah ?_
                   refine iD (dG Yu) ?_;obtain⟨awK,h⟩:=aP h;try refine ah ?_
                   refine iD (dG awK) ?_;obtain⟨x115,e116,h⟩:=aj h;obtain⟨Gx,e117,h⟩:=aj h;try refine ah ?_
                   refine PC.mk ((lF k p_0 x115 false _ e117).wk (.same (.same (.same .nil)))) ?_;obtain⟨e119,h⟩:=aP h;try refine ah ?_
                   refine dx (dG e119) ?_;obtain⟨e120,h⟩:=aP h;try refine ah ?_
                   refine dx (dG e120) ?_;obtain rfl:=ak h;try refine ah ?_
                   exact(.pure _ (.str _))
                  ·rcases au h with⟨ahN,h⟩|⟨ahN,h⟩
                   ·obtain rfl:=ak h;try refine ah ?_
                    exact(.pure _ (.str _))
                   ·rcases au h with⟨Yv,h⟩|⟨Yv,h⟩
                    ·try refine ah ?_
                     refine eO ?_;obtain⟨aia,apN,h⟩:=aj h;obtain⟨ZQ,e125,h⟩:=aj h;try refine ah ?_
                     refine PC.mk ((lF k p_0 aia false _ e125).wk (.same (.same (.same .nil)))) ?_;obtain⟨e127,h⟩:=aP h;try refine ah ?_
                     refine iD (dG e127) ?_;obtain⟨e128,h⟩:=aP h;try refine ah ?_
                     refine iD (dG e128) ?_;obtain⟨aib,aoL,h⟩:=aj h;obtain⟨Uz,awL,h⟩:=aj h;try refine ah ?_
                     refine PC.mk (tq p_0 aib awL) ?_;obtain⟨ahq,h⟩:=aP h;try refine ah ?_
                     refine dx (dG ahq) ?_;obtain rfl:=ak h;try refine ah ?_
                     exact(.pure _ (.str _))
                    ·rcases au h with⟨awM,h⟩|⟨awM,h⟩
                     ·try refine ah ?_
                      refine eO ?_;obtain⟨aic,aoM,h⟩:=aj h;obtain⟨KD,e137,h⟩:=aj h;try refine ah ?_
                      refine PC.mk ((lF k p_0 aic false _ e137).wk (.same (.same (.same .nil)))) ?_;obtain⟨ahr,h⟩:=aP h;try refine ah ?_
                      refine iD (dG ahr) ?_;obtain⟨Yw,h⟩:=aP h;try refine ah ?_
                      refine iD (dG Yw) ?_;obtain⟨aie,aBr,h⟩:=aj h;obtain⟨Ua,e143,h⟩:=aj h;try refine ah ?_
                      refine PC.mk (tq p_0 aie e143) ?_;obtain⟨aqo,h⟩:=aP h;try refine ah ?_
                      refine dx (dG aqo) ?_;obtain rfl:=ak h;try refine ah ?_
                      exact(.pure _ (.str _))
                     ·rcases au h with⟨adM,h⟩|⟨adM,h⟩
                      ·try refine ah ?_
                       refine eO ?_;obtain⟨aif,ap1,h⟩:=aj h;obtain⟨UR,awN,h⟩:=aj h;try refine ah ?_
                       refine PC.mk (tq p_0 aif awN) ?_;obtain⟨ahs,h⟩:=aP h;try refine ah ?_
                       refine iD (dG ahs) ?_;obtain⟨e152,h⟩:=aP h;try refine ah ?_
                       refine iD (dG e152) ?_;obtain⟨x153,e154,h⟩:=aj h;obtain⟨OB,awO,h⟩:=aj h;try refine ah ?_
                       refine PC.mk ((lF k p_0 x153 false _ awO).wk (.same (.same (.same .nil)))) ?_;obtain⟨awP,h⟩:=aP h;try refine ah ?_
                       refine dx (dG awP) ?_;obtain⟨ahS,h⟩:=aP h;try refine ah ?_
                       refine dx (dG ahS) ?_;obtain rfl:=ak h;try refine ah ?_
                       exact(.pure _ (.str _))
                      ·rcases au h with⟨awQ,h⟩|⟨awQ,h⟩
                       ·try refine ah ?_
                        refine eO ?_;obtain⟨x160,ap2,h⟩:=aj h;obtain⟨UU,ahv,h⟩:=aj h;try refine ah ?_
                        refine PC.mk (tq p_0 x160 ahv) ?_;obtain⟨aoO,h⟩:=aP h;try refine ah ?_
                        refine iD (dG aoO) ?_;obtain⟨e165,h⟩:=aP h;try refine ah ?_
                        refine iD (dG e165) ?_;obtain⟨aii,e167,h⟩:=aj h;obtain⟨ad4,e168,h⟩:=aj h;try refine ah ?_
                        refine PC.mk ((lF k p_0 aii false _ e168).wk (.same (.same (.same .nil)))) ?_;obtain⟨e170,h⟩:=aP h;try refine ah ?_
                        refine dx (dG e170) ?_;obtain⟨ahT,h⟩:=aP h;try refine ah ?_
                        refine dx (dG ahT) ?_;obtain rfl:=ak h;try refine ah ?_
                        exact(.pure _ (.str _))
                       ·obtain⟨aqn,awR,h⟩:=aj h;try refine ah ?_
                        refine aB (tq p_0 x2 awR) ?_;obtain rfl:=ak h;try refine ah ?_
                        exact(.pure _ (.str _))
end
theorem ain {k:Nat} {p_0:Printer} {bV:Int} {jQ:Bool} {r:Str} (h:lV k p_0 bV jQ=some r):aF Tryz.prog 59 [(.agg (Printer.cells p_0)),(.int .i64 bV),(.bool jQ)] (.str r):=lF k p_0 bV jQ r h
def E8 (k:Nat) (aH:List Nd):Option (Str×Int):=
  Option.bind (rV k aH) fun p2=>cond (p2 !=0) (some ([],p2)) (Option.bind (lV k (Printer.mk aH) (IntKind.wrap .i64 ((aH.length:Int) -1)) false) fun p5=>cond (decide ((p5.length:Int)>20000)) (some ([],2)) (some (p5,0)))
theorem UW {k:Nat} {aH:List Nd} {c0:Ck} {r:Str×Int} (h:E8 k aH=some r):aF Tryz.prog 17 [(.aA (aH.map Nd.cells) c0)] (.dM [(.str r.1),(.int .i64 r.2)]):=by
  refine aF.lw (.aA .nil) (aF.aQ (bf.mem (.cons (aU Nd.pu _) .nil)) (aG am3 (by simp) (aD ?_)) (.dM _ (bf.mem (.cons (.str _) (.cons (.int _ _) .nil)))));unfold E8 at h;unfold am2;obtain⟨p2,e1,h⟩:=aj h;try refine ah ?_
  refine aB (BO e1) ?_;rcases au h with⟨e3,h⟩|⟨e3,h⟩
  ·obtain rfl:=ak h;try refine ah ?_
   exact(dn (.cons (.pure _ (.str _)) (.cons (.pure _ (.int _ _)) .nil)))
  ·obtain⟨p5,e4,h⟩:=aj h;try refine ah ?_
   refine aB (ain e4) ?_;rcases au h with⟨e6,h⟩|⟨e6,h⟩
   ·obtain rfl:=ak h;try refine ah ?_
    exact(dn (.cons (.pure _ (.str _)) (.cons (.pure _ (.int _ _)) .nil)))
   ·obtain rfl:=ak h;try refine ah ?_
    exact(dn (.cons (.pure _ (.str _)) (.cons (.pure _ (.int _ _)) .nil)))
end Go.VL
end
section
set_option maxRecDepth 8000
set_option maxHeartbeats 4000000
namespace Go.VL
open Go.Proofs
def O1 (k:Nat) (aH:List Nd):Option ((List Str)×Int):=
  Option.bind (rV k aH) fun p2=>cond (p2 !=0) (some ([],p2)) (Option.bind (xI k aH) fun p5=>some (p5,0))
theorem ad7 {k:Nat} {aH:List Nd} {c0:Ck} {r:(List Str)×Int} (h:O1 k aH=some r):aF Tryz.prog 32 [(.aA (aH.map Nd.cells) c0)] (.dM [(.aA (r.1.map aI) .unk),(.int .i64 r.2)]):=by
  refine aF.lw (.aA .nil) (aF.aQ (bf.mem (.cons (aU Nd.pu _) .nil)) (aG ok32 (by simp) (aD ?_)) (.dM _ (bf.mem (.cons (aU bg _) (.cons (.int _ _) .nil)))));unfold O1 at h;unfold anj;obtain⟨p2,e1,h⟩:=aj h;try refine ah ?_
  refine aB (BO e1) ?_;rcases au h with⟨e3,h⟩|⟨e3,h⟩
  ·obtain rfl:=ak h;try refine ah ?_
   exact(dn (.cons (d9 bg [] _) (.cons (.pure _ (.int _ _)) .nil)))
  ·obtain⟨p5,e4,h⟩:=aj h;try refine ah ?_
   refine aB (ZG k aH e4) ?_;obtain rfl:=ak h;try refine ah ?_
   exact(dn (.cons (d9 bg _ _) (.cons (.pure _ (.int _ _)) .nil)))
def UY (k:Nat):Option Bool:=
  Option.bind (adX k) fun p2=>Option.bind (E8 k p2) fun p4=>Option.bind (O1 k p2) fun p8=>Option.bind (ES k ([92,99,100,111,116]:Str)) fun iN=>Option.bind (mG k [(Nd.mk 20 0 [] [] [])]) fun lT=>cond (p4.2==0) (cond (p4.1==([97,32,43,32,98,32,42,32,99]:Str)) (cond (p8.2==0) (Option.bind (ru k p8.1 [([97]:Str),([98]:Str),([99]:Str)]) fun Hq=>cond Hq (cond (iN.2==0) (cond (iN.1.high==14) (cond iN.1.left (cond (lT.2==30) (some (lT.1==0)) (some false)) (some false)) (some false)) (some false)) (some false)) (some false)) (some false)) (some false)
theorem afR {k:Nat} {r:Bool} (h:UY k=some r):aF Tryz.prog 12 [] (.bool r):=by
  refine aF.aQ (bf.mem .nil) (aG amX (by simp) (aD ?_)) (.bool _);unfold UY at h;unfold amW;obtain⟨p2,e1,h⟩:=aj h;try refine ah ?_
  refine aB (acf e1) ?_;obtain⟨p4,e3,h⟩:=aj h;try refine ah ?_
  refine aB (UW e3) ?_;try refine ah ?_
  refine aB (acf e1) ?_;obtain⟨p8,e7,h⟩:=aj h;try refine ah ?_
  refine aB (ad7 e7) ?_;obtain⟨iN,e9,h⟩:=aj h;try refine ah ?_
  refine aB (UK e9) ?_;obtain⟨lT,e11,h⟩:=aj h;try refine ah ?_
  refine aB (JM e11) ?_;rcases au h with⟨e13,h⟩|⟨e13,h⟩
  ·rcases au h with⟨e14,h⟩|⟨e14,h⟩
   ·rcases au h with⟨e15,h⟩|⟨e15,h⟩
    ·obtain⟨Hq,e16,h⟩:=aj h;try refine ah ?_
     refine aB (HV e16) ?_;rcases au h with⟨e18,h⟩|⟨e18,h⟩
     ·rcases au h with⟨e19,h⟩|⟨e19,h⟩
      ·rcases au h with⟨e20,h⟩|⟨e20,h⟩
       ·rcases au h with⟨e21,h⟩|⟨e21,h⟩
        ·rcases au h with⟨e22,h⟩|⟨e22,h⟩
         ·obtain rfl:=ak h;try refine ah ?_
          exact(.pure _ (.bool _))
         ·obtain rfl:=ak h;try refine ah ?_
          exact(.pure _ (.bool _))
        ·obtain rfl:=ak h;try refine ah ?_
         exact(.pure _ (.bool _))
       ·obtain rfl:=ak h;try refine ah ?_
        exact(.pure _ (.bool _))
      ·obtain rfl:=ak h;try refine ah ?_
       exact(.pure _ (.bool _))
     ·obtain rfl:=ak h;try refine ah ?_
      exact(.pure _ (.bool _))
    ·obtain rfl:=ak h;try refine ah ?_
     exact(.pure _ (.bool _))
   ·obtain rfl:=ak h;try refine ah ?_
    exact(.pure _ (.bool _))
  ·obtain rfl:=ak h;try refine ah ?_
   exact(.pure _ (.bool _))
end Go.VL
end
section
namespace Go.VL
open Go.Proofs
theorem ad8:UY 100=some true:=by kernel_rfl
theorem alL:aF Tryz.prog 12 [] (.bool true):=afR ad8
end Go.VL
end
section
namespace Go.VL
open Tm
section
variable {e:List Nd} (hV:Valid e) (hL:qN e) (hF:yu e)
include hV hL hF
theorem ad9: ∃(vs:List (Nat×List Str)),(∀(α:Type) (step:α->Int->List Str->Option α) (k:Nat) (a:α),1000<=k->wF step e k (IntKind.wrap .i64 ((e.length:Int) -1)) [] a=Aw step vs a)/\
    (∀v∈vs,Ev (fun k=>vT k e (v.1:Int)) v.2/\v.2.length<=10000/\v.1<e.length)/\(∀i<e.length,∃q,(i,q)∈vs)/\vs.length=e.length/\0<e.length:=by
  obtain⟨t,he⟩:=hV.tree;have hlen:=hF.len;have hs:=t.size_pos;have hsz:e.length=t.size:=by rw [he,dh]
  have hS:Seg e 0 t:=by rw [he];exact Seg.whole t
  have hw:IntKind.wrap .i64 ((e.length:Int) -1)=((0+t.size -1:Nat):Int):=by rw [wrap64 (by omega) (by omega)];omega
  refine⟨vis 0 [] t,fun α step k a hk=> ?_,?_,fun i hi=>acg t 0 [] i (Nat.zero_le _) (by omega),by rw [ach,hsz],by omega⟩
  · rw [hw];exact Zv hF step t 0 [] k a hS (by omega) (by simp only [List.length_nil];omega)
  · refine VK he hL hF t 0 [] hS ?_ (by simp only [List.length_nil];omega);rw [Nat.zero_add];exact alG he hL hF
theorem afS: ∃r,Ev (fun k=>xI k e) r/\Ev (fun k=>vU k e) r/\r.length<=1000:=by
  obtain⟨vs,hw,hvs,hall,hlen,hpos⟩:=ad9 hV hL hF;have hl:=hF.len;have hfr:=ZK (e:=e) vs [] (fun v hv=>(hvs v hv).2) (by simp only [List.length_nil];omega);rw [List.nil_append]at hfr;have hfl:(vs.filterMap (nU e)).length<=170:=Nat.le_trans (List.length_filterMap_le _ _) (by omega);have h1:Ev (fun k=>xI k e) (Jj (vs.filterMap (nU e))):=by
    unfold xI;refine Ev.bind (x:=vs.filterMap (nU e)) ?_ (Ev.mZ (by omega) Ev.some);obtain⟨K,hK⟩:=hfr;exact⟨max K 1000,fun k hk=>(hw _ _ k _ (by omega)).trans (hK k (by omega))⟩
  have hsl: ∀(l a:List Str),(l.foldl (fun a s=>sV s a) a).length<=a.length+l.length:=by
    intro l
    induction l with
    |nil=>intro a;exact Nat.le_refl _
    |cons s l ih=>
      intro a;rw [List.foldl_cons];have:=ih (sV s a);have:=ZA s a;simp only [List.length_cons];omega
  refine⟨_,h1,?_,by have:=hsl (vs.filterMap (nU e)) [];unfold Jj;simp only [List.length_nil]at this;omega⟩
  have key: ∀i,i<=e.length-> ∀out:List Str,out.length<=i->out.Pairwise (·< ·)-> ∃r,Ev (fun k=>iV k e out (i:Int)) r/\r.Pairwise (·< ·)/\ ∀y,y∈r↔y∈out\/ ∃v∈vs,i<=v.1/\nU e v=some y:=by
    refine down (fun out _ ha=> ?_) fun i hi ih out ho ha=> ?_
    · refine⟨out,Ev.succ ?_,ha,fun y=>⟨.inl,?_⟩⟩
      · simp only [iV];exact Ev.cF (jJ _) (Ev.some' rfl)
      · rintro(h|⟨v,hv,h1,_⟩)
        · exact h
        · have:=(hvs v hv).2.2;omega
    · obtain⟨q,hq⟩:=hall i hi;have hu: ∀v∈vs,v.1=i->v.2=q:=by
        intro v hv hvi;have h2:=(hvs v hv).1;rw [hvi]at h2;exact h2.uniq (hvs _ hq).1
      have hfi:nU e (i,q)=if(jI e[i]&& !decide (e[i].text∈q))=true then some e[i].text else none:=by unfold nU;simp only [bG hi]
      have hstep: ∀(out':List Str),(∀y,y∈out'↔y∈out\/nU e (i,q)=some y)-> ∀y,(y∈out'\/ ∃v∈vs,i+1<=v.1/\nU e v=some y)↔(y∈out\/ ∃v∈vs,i<=v.1/\nU e v=some y):=by
        intro out' h y;rw [h y];constructor
        · rintro((h2|h2)|⟨v,hv,h2,h3⟩)
          · exact .inl h2
          · exact .inr ⟨_,hq,Nat.le_refl _,h2⟩
          · exact .inr ⟨v,hv,by omega,h3⟩
        · rintro(h2|⟨v,hv,h2,h3⟩)
          · exact .inl (.inl h2)
          · by_cases h4:v.1=i
            · obtain⟨v1,v2⟩:=v;have h5:=hu _ hv h4;simp only at h4 h5;subst h4 h5;exact .inl (.inr h3)
            · exact .inr ⟨v,hv,by omega,h3⟩
      have hne: ∀r,Ev (fun k=>iV k e out ((i+1:Nat):Int)) r->nU e (i,q)=none->True:=fun _ _ _=>trivial;have hnm:=QB (hF.ok i _ (bG hi)) (by have:=(hL.nd i _ (bG hi)).1;omega);have hbd:=(hvs _ hq).1;by_cases h2:jI e[i]=true
      · by_cases h3:e[i].text∈q
        · obtain⟨r,h4,h5,h6⟩:=ih out (by omega) ha;refine⟨r,Ev.succ ?_,h5,fun y=>(h6 y).trans (hstep out (fun y=> ?_) y)⟩
          · simp only [iV,Int.toNat_natCast,bG hi,Option.bind_some,nn,if_true,kW hi,cond_true,eF hi (show e.length<=1099511627776 by omega)];refine Ev.bind hnm (Ev.cT h2 (Ev.bind hbd (Ev.bind (pY _ _ (show q.length<=1099511627776 by have:=(hvs _ hq).2.1;simp only at this;omega)) (Ev.cT (decide_eq_true h3) h4))))
          · rw [hfi,h2];simp [h3]
        · obtain⟨r,h4,h5,h6⟩:=ih (sV e[i].text out) (by have:=ZA e[i].text out;omega) (OT ha);refine⟨r,Ev.succ ?_,h5,fun y=>(h6 y).trans (hstep _ (fun y=> ?_) y)⟩
          · simp only [iV,Int.toNat_natCast,bG hi,Option.bind_some,nn,if_true,kW hi,cond_true,eF hi (show e.length<=1099511627776 by omega)];refine Ev.bind hnm (Ev.cT h2 (Ev.bind hbd (Ev.bind (pY _ _ (show q.length<=1099511627776 by have:=(hvs _ hq).2.1;simp only at this;omega)) (Ev.cF (decide_eq_false h3) (Ev.bind (ah5 _ _ (by omega)) h4)))))
          · rw [Jk,hfi,h2];simp [h3];constructor
            · rintro(rfl|h)
              · exact .inr rfl
              · exact .inl h
            · rintro(h|rfl)
              · exact .inr h
              · exact .inl rfl
      · have h2:jI e[i]=false:=by simpa using h2
        obtain⟨r,h4,h5,h6⟩:=ih out (by omega) ha;refine⟨r,Ev.succ ?_,h5,fun y=>(h6 y).trans (hstep out (fun y=> ?_) y)⟩
        · simp only [iV,Int.toNat_natCast,bG hi,Option.bind_some,nn,if_true,kW hi,cond_true,eF hi (show e.length<=1099511627776 by omega)];exact Ev.bind hnm (Ev.cF h2 h4)
        · rw [hfi,h2];simp
  obtain⟨r,h4,h5,h6⟩:=key 0 (Nat.zero_le _) [] (Nat.le_refl _) List.Pairwise.nil;have:Jj (vs.filterMap (nU e))=r:=by
    refine Zy (Zw _) h5 fun y=> ?_;rw [Zx,h6 y,List.mem_filterMap];simp only [List.not_mem_nil,false_or,Nat.zero_le,true_and]
  rw [this];unfold vU;exact Ev.bind h4 Ev.some
end
theorem ZR {e:List Nd} (h:Ll e=true) (hV:Valid e):yu e:=⟨(QC h).1,hV.ok,fun i n hn=>⟨((QC h).2 i n hn).1,((QC h).2 i n hn).2.1⟩⟩
end Go.VL
end
section
namespace Go.VL
open Tm
theorem UZ (a b:List Int) (hl:a.length<=1099511627776):Ev (fun k=>xg k a b) (decide (a=b)):=by
  unfold xg;by_cases hab:a.length=b.length
  · refine Ev.cF (by simp [hab]) ?_;have key:Ev (fun k=>jC k a b ((0:Nat):Int)) (if a.drop 0=b.drop 0 then .inl ()else .inr false):=by
      refine lC (len:=a.length) (p:=fun i=>Ev (fun k=>jC k a b (i:Int)) (if a.drop i=b.drop i then .inl ()else .inr false)) ?_ fun i hi ih=> ?_
      · refine Ev.succ ?_;simp only [jC];refine Ev.cF (jJ _) (Ev.some' ?_);simp [hab]
      · have hi':i<b.length:=hab▸hi;refine Ev.succ ?_;simp only [jC,Int.toNat_natCast,bG hi,bG hi',Option.bind_some,nn,if_true,kW hi,cond_true,eF hi hl];have e1:List.drop i a=a[i]::List.drop (i+1) a:=List.drop_eq_getElem_cons hi;have e2:List.drop i b=b[i]::List.drop (i+1) b:=List.drop_eq_getElem_cons hi';by_cases h:a[i]=b[i]
        · refine Ev.cF (by rw [bne_eq_false_iff_eq];exact h) (ih.to ?_);rw [e1,e2];simp only [h,List.cons.injEq,true_and]
        · refine Ev.cT (by rw [bne_iff_ne];exact h) (Ev.some' ?_);rw [if_neg];intro e;rw [e1,e2,List.cons.injEq]at e;exact h e.1
    refine Ev.bind key ?_;by_cases h:a=b
    · subst h;simp only [if_true,bL,decide_true];exact Ev.some
    · simp only [List.drop_zero,h,if_false,bP,decide_false];exact Ev.some
  · refine Ev.cT (by simp;omega) (Ev.some' ?_);exact(decide_eq_false fun e=>hab (by rw [e])).symm
theorem WZ (x y:Nd) (h1:x.names.length<=1000000) (h2:x.args.length<=1000000):Ev (fun k=>zN k x y) (decide (x=y)):=by
  unfold zN;obtain⟨k1,n1,t1,m1,a1⟩:=x;obtain⟨k2,n2,t2,m2,a2⟩:=y;simp only at h1 h2;simp only [Nd.mk.injEq];by_cases e1:k1=k2
  · refine Ev.cT (by rw [beq_iff_eq];exact e1) ?_;by_cases e2:n1=n2
    · refine Ev.cT (by rw [beq_iff_eq];exact e2) ?_;by_cases e3:t1=t2
      · refine Ev.cT (by rw [beq_iff_eq];exact e3) (Ev.bind (Qe m1 m2 (by omega)) ?_);by_cases e4:m1=m2
        · refine Ev.cT (decide_eq_true e4) (Ev.bind (UZ a1 a2 (by omega)) (Ev.some' ?_));simp [e1,e2,e3,e4]
        · exact Ev.cF (decide_eq_false e4) (Ev.some' (by simp [e4]))
      · exact Ev.cF (by rw [beq_eq_false_iff_ne];exact e3) (Ev.some' (by simp [e3]))
    · exact Ev.cF (by rw [beq_eq_false_iff_ne];exact e2) (Ev.some' (by simp [e2]))
  · exact Ev.cF (by rw [beq_eq_false_iff_ne];exact e1) (Ev.some' (by simp [e1]))
theorem W9 {a b:List Nd} (hL:qN a):Ev (fun k=>zO k a b) (decide (a=b)):=by
  have hl:=hL.len;unfold zO;by_cases hab:a.length=b.length
  · refine Ev.cF (by simp [hab]) ?_;have key:Ev (fun k=>ku k a b ((0:Nat):Int)) (if a.drop 0=b.drop 0 then .inl ()else .inr false):=by
      refine lC (len:=a.length) (p:=fun i=>Ev (fun k=>ku k a b (i:Int)) (if a.drop i=b.drop i then .inl ()else .inr false)) ?_ fun i hi ih=> ?_
      · refine Ev.succ ?_;simp only [ku];refine Ev.cF (jJ _) (Ev.some' ?_);simp [hab]
      · have hi':i<b.length:=hab▸hi;refine Ev.succ ?_;obtain⟨_,h2,h3⟩:=hL.nd i _ (bG hi);simp only [ku,Int.toNat_natCast,bG hi,bG hi',Option.bind_some,nn,if_true,kW hi,cond_true,eF hi (show a.length<=1099511627776 by omega)];have e1:List.drop i a=a[i]::List.drop (i+1) a:=List.drop_eq_getElem_cons hi;have e2:List.drop i b=b[i]::List.drop (i+1) b:=List.drop_eq_getElem_cons hi';refine Ev.bind (WZ _ _ h2 h3) ?_;by_cases h:a[i]=b[i]
        · refine Ev.cT (decide_eq_true h) (ih.to ?_);rw [e1,e2];simp only [h,List.cons.injEq,true_and]
        · refine Ev.cF (decide_eq_false h) (Ev.some' ?_);rw [if_neg];intro e;rw [e1,e2,List.cons.injEq]at e;exact h e.1
    refine Ev.bind key ?_;by_cases h:a=b
    · subst h;simp only [if_true,bL,decide_true];exact Ev.some
    · simp only [List.drop_zero,h,if_false,bP,decide_false];exact Ev.some
  · refine Ev.cT (by simp;omega) (Ev.some' ?_);exact(decide_eq_false fun e=>hab (by rw [e])).symm
theorem ZT {α:Type} [DecidableEq α]: ∀{l m:List α},l.Nodup->(∀x∈l,x∈m)->l.length<=m.length
  |[],m,_,_=>Nat.zero_le _
  |x::l,m,hd,hs=>by
    have hx:=hs x List.mem_cons_self;obtain⟨h1,h2⟩:=List.nodup_cons.1 hd;have ih:=ZT (l:=l) (m:=m.erase x) h2 fun y hy=>by
      have hne:y≠x:=fun e=>h1 (e▸hy);exact(List.mem_erase_of_ne hne).2 (hs y (List.mem_cons_of_mem _ hy))
    have hl:=List.length_erase_of_mem hx;have:=List.length_pos_of_mem hx;simp only [List.length_cons];omega
end Go.VL
end
section
namespace Go.VL
def dval (s:Str):Nat:=s.foldl (fun a c=>a*10+(c.toNat -48)) 0
theorem U0 {d:Nat} (h:d<10):(UInt8.ofNat (48+d)).toNat=48+d:=by
  rw [UInt8.toNat_ofNat'];omega
theorem O4: ∀(m u:Nat),u<=m->dval (Lib.decDigits u)=u
  |0,u,h=>by
    have:u=0:=by omega
    subst this;rw [Lib.decDigits,dif_pos (by omega)];simp only [dval,List.foldl_cons,List.foldl_nil,U0 (show 0<10 by omega)]
  |m+1,u,h=>by
    rw [Lib.decDigits];split
    · rename_i h1;simp only [dval,List.foldl_cons,List.foldl_nil,U0 h1];omega
    · have:=O4 m (u/10) (by omega);unfold dval at this⊢;rw [List.foldl_append,this];simp only [List.foldl_cons,List.foldl_nil,U0 (show u% 10<10 by omega)];omega
theorem alM {u v:Nat} (h:Lib.decDigits u=Lib.decDigits v):u=v:=by
  rw [<-O4 u u (Nat.le_refl _),<-O4 v v (Nat.le_refl _),h]
theorem ZU (u:Nat):Lib.itoa (u:Int)=Lib.decDigits u:=by unfold Lib.itoa;rw [if_neg (by omega)];simp
def bN (n:Nat):Str:=KN (n:Int)
theorem QV (n:Nat):bN n=98::95::Lib.decDigits n:=by unfold bN KN;rw [ZU]
theorem afT {u v:Nat} (h:bN u=bN v):u=v:=by
  rw [QV,QV]at h;exact alM (List.cons.inj (List.cons.inj h).2).2
theorem Gf: ∀(k u:Nat),u<10^(k+1)->(Lib.decDigits u).length<=k+1
  |0,u,h=>by rw [Lib.decDigits,dif_pos (by simpa using h)];simp
  |k+1,u,h=>by
    rw [Lib.decDigits];split
    · simp
    · have:=Gf k (u/10) (by rw [Nat.pow_succ]at h;omega);simp;omega
theorem aqp {n:Nat} (h:n<10000):(bN n).length<=6:=by
  rw [QV];have:=Gf 3 n (by simpa using h);simp;omega
def cnt (left:List Str) (c:Nat):Nat:=((List.range c).filter fun j=>decide (bN (j+1)∈left)).length
theorem Bw (left:List Str) (c:Nat):cnt left (c+1)=cnt left c+if bN (c+1)∈left then 1 else 0:=by
  unfold cnt;rw [List.range_succ,List.filter_append,List.length_append];by_cases h:bN (c+1)∈left<;>simp [h]
theorem QW (left:List Str) (c:Nat):cnt left c<=left.length:=by
  unfold cnt;have hn:(((List.range c).filter fun j=>decide (bN (j+1)∈left)).map fun j=>bN (j+1)).Nodup:=by
    refine List.Pairwise.map _ ?_ (List.Pairwise.filter _ List.nodup_range);intro a b hab h;exact hab (by have:=afT h;omega)
  have:=ZT hn (m:=left) (fun x hx=>by
    obtain⟨j,hj,rfl⟩:=List.mem_map.1 hx;simpa using (List.mem_filter.1 hj).2)
  rwa [List.length_map]at this
def Cy (left:List Str):Nat->Nat->Nat
  |0,c=>c+1
  |f+1,c=>if bN (c+1)∈left then Cy left f (c+1)else c+1
def tu (left:List Str) (c:Nat):Nat:=Cy left left.length c
theorem ZV (left:List Str): ∀(f c:Nat),left.length<=f+cnt left c->bN (Cy left f c)∉left/\c<Cy left f c/\Cy left f c+cnt left c=c+1+cnt left (Cy left f c)
  |0,c,h=>by
    have h1:=Bw left c;have h2:=QW left (c+1);have hn:bN (c+1)∉left:=fun hm=>by rw [if_pos hm]at h1;omega
    rw [if_neg hn]at h1;refine⟨hn,by unfold Cy;omega,?_⟩;unfold Cy;omega
  |f+1,c,h=>by
    have h1:=Bw left c;rw [Cy];by_cases hm:bN (c+1)∈left
    · rw [if_pos hm]at h1⊢;obtain⟨a,b,d⟩:=ZV left f (c+1) (by omega);exact⟨a,by omega,by omega⟩
    · rw [if_neg hm]at h1⊢;exact⟨hm,by omega,by omega⟩
theorem Cz (left:List Str) (c:Nat):bN (tu left c)∉left/\c<tu left c/\tu left c+cnt left c=c+1+cnt left (tu left c):=ZV left _ c (by omega)
def kU (left:List Str):Nat->Nat->List Str×Nat
  |0,c=>([],c)
  |m+1,c=>(bN (tu left c)::(kU left m (tu left c)).1,(kU left m (tu left c)).2)
theorem VO (left:List Str): ∀m c,(kU left m c).1.length=m
  |0,_=>rfl
  |m+1,c=>by rw [kU,List.length_cons,VO left m]
theorem VP (left:List Str): ∀m c,(kU left m c).2+cnt left c=c+m+cnt left (kU left m c).2
  |0,c=>by simp only [kU];omega
  |m+1,c=>by
    have h1:=(Cz left c).2.2;have h2:=VP left m (tu left c);simp only [kU];omega
theorem E9 (left:List Str): ∀m c,c<=(kU left m c).2
  |0,c=>Nat.le_refl _
  |m+1,c=>by
    have h1:=(Cz left c).2.1;have h2:=E9 left m (tu left c);simp only [kU];omega
theorem LA (left:List Str): ∀m c s,s∈(kU left m c).1->s∉left/\ ∃n,s=bN n/\c<n/\n<=(kU left m c).2
  |0,c,s,h=>by cases h
  |m+1,c,s,h=>by
    obtain⟨h1,h2,_⟩:=Cz left c;have h3:=E9 left m (tu left c);simp only [kU]at h⊢;rcases List.mem_cons.1 h with rfl|h
    · exact⟨h1,_,rfl,h2,h3⟩
    · obtain⟨a,n,rfl,b,d⟩:=LA left m (tu left c) s h;exact⟨a,n,rfl,by omega,d⟩
theorem Nl (left:List Str): ∀m c,(kU left m c).1.Nodup
  |0,c=>List.Pairwise.nil
  |m+1,c=>by
    simp only [kU];refine List.nodup_cons.2 ⟨fun h=> ?_,Nl left m _⟩;obtain⟨_,n,e,h1,_⟩:=LA left m _ _ h;have:=afT e;omega
end Go.VL
end
section
namespace Go.VL
theorem afU:(List.range 10).all (fun d=>decide ((([48,49,50,51,52,53,54,55,56,57]:Str).take (d+1)).drop d=[UInt8.ofNat (48+d)]))=true:=by kernel_rfl
theorem ZW: ∀(m u:Nat) (s:Str),u<m->u<=10000->s.length+u<=1000000->Ev (fun k=>vo k (u:Int) s) (Lib.decDigits u++s):=by
  intro m
  induction m with
  |zero=>intro u s h1;omega
  |succ m ih=>
    intro u s h1 h2 h3;have e0:((u:Int)).tmod 10=((u% 10:Nat):Int):=by rw [Int.tmod_eq_emod_of_nonneg (by omega)];omega
    have e1:((u:Int)).tdiv 10=((u/10:Nat):Int):=by rw [Int.tdiv_eq_ediv_of_nonneg (by omega)];omega
    have e2:Qa ((u% 10:Nat):Int)=some ((u% 10:Nat):Int):=by
      unfold Qa;rw [decide_eq_false (by omega)];rfl
    have e3:IntKind.wrap .i64 (((u% 10:Nat):Int)+1)=((u% 10+1:Nat):Int):=by rw [wrap64 (by omega) (by omega)];omega
    have e4:IntKind.wrap .i64 ((u/10:Nat):Int)=((u/10:Nat):Int):=wrap64 (by omega) (by omega);have hd:=of_decide_eq_true (List.all_eq_true.1 afU (u% 10) (List.mem_range.2 (by omega)));refine Ev.succ ?_;simp only [vo,e0,e1,e2,e3,e4,Option.bind_some,Int.toNat_natCast,hd];refine Ev.mZ (by omega) (Ev.mZ (by simp;omega) ?_);rw [Lib.decDigits];by_cases hu:u<10
    · rw [dif_pos hu];refine Ev.cT (by rw [beq_iff_eq];omega) (Ev.some' ?_);rw [show u% 10=u by omega]
    · rw [dif_neg hu];refine Ev.cF (by rw [beq_eq_false_iff_ne];omega) ?_;refine(ih (u/10) _ (by omega) (by omega) (by simp;omega)).to ?_;simp
theorem afV {n:Int} (h:0<=n/\n<=10000):Ev (fun k=>Es k n) (Lib.itoa n):=by
  obtain⟨u,rfl⟩: ∃u:Nat,n=(u:Int):=⟨n.toNat,by omega⟩;unfold Es Lib.itoa;refine Ev.bind (ZW (u+1) u [] (by omega) (by omega) (by simp;omega)) (Ev.cF (decide_eq_false (by omega)) (Ev.some' ?_));rw [if_neg (by omega)];simp
end Go.VL
end
section
set_option maxRecDepth 8000
set_option maxHeartbeats 4000000
namespace Go.VL
open Go.Proofs
def ou:Nat->(List Nd)->Int->Int->Int->Int->Str->(List Str)->(List Int)->Int->Option ((Int×Int×Str×(List Str)×(List Int)))
  |0,_,_,_,_,_,_,_,_,_=>none
  |k+1,aH,jY,gM,Gg,Gi,Gj,Gl,BQ,wR=>
    if 0<=gM then Option.bind (aH[gM.toNat]?) fun x10=>cond (decide (wR<(x10.args.length:Int))) (if 0<=wR then Option.bind (x10.args[wR.toNat]?) fun x14=>if(BQ.length+1)*8<=1099511627776 then ou k aH jY gM Gg Gi Gj Gl (BQ++[(IntKind.wrap .i64 (x14 -jY))]) (IntKind.wrap .i64 (wR+1))else none else none) (some ((Gg,Gi,Gj,Gl,BQ)))else none
def QX:List Nat:=[9]++List.range' 28 25
theorem abj: ∀(k:Nat) (AO:Nat) (aH:List Nd) (jY:Int) (gM:Int) (Gg:Int) (Gi:Int) (Gj:Str) (Gl:List Str) (BQ:List Int) (wR:Int) (tC:Ck) (kR:Ck) (aC σ:Nat->PV) (H0 H:AH) (f0:Fr QX aC σ) (hf0:HF [AO] H0 H) (sl:σ 0=(.aA (aH.map Nd.cells) .unk)/\σ 5=(.int .i64 jY)/\σ 7=(.int .i64 gM)/\σ 8=(.ref (AO) 0)/\σ 9=(.int .i64 wR)/\H.obj AO=some [(.int .i64 Gg),(.int .i64 Gi),(.str Gj),(.aA (Gl.map aI) .unk),(.aA (BQ.map aX) tC)]) (Mt:AO<H.next) (ZX:bn H tC) (Gb:bn H kR) (rP:kI tC kR) (o:(Int×Int×Str×(List Str)×(List Int))) (h:ou k aH jY gM Gg Gi Gj Gl BQ wR=some o) (Q:Post) (q0: ∀(p:Int×Int×Str×(List Str)×(List Int)) (c4:Ck) (σ':Nat->PV) (H':AH),o=p->Fr QX aC σ'->HF [AO] H0 H'->(H'.obj AO=some [(.int .i64 p.1),(.int .i64 p.2.1),(.str p.2.2.1),(.aA (p.2.2.2.1.map aI) .unk),(.aA (p.2.2.2.2.map aX) c4)])->bn H' kR->Q (.exit 2) σ' H'),W Tryz.prog (.loop SB) Q σ H:=by
  intro k
  induction k with
  |zero=>intro AO aH jY gM Gg Gi Gj Gl BQ wR tC kR aC σ H0 H f0 hf0 sl Mt ZX Gb rP o h Q q0;simp only [ou,reduceCtorEq]at h
  |succ k ih=>
    intro AO aH jY gM Gg Gi Gj Gl BQ wR tC kR aC σ H0 H f0 hf0 sl Mt ZX Gb rP o h Q q0;obtain⟨s0,s5,s7,s8,s9,axq⟩:=sl;have axr:=ne_next Mt;have axt:=aV Mt;have hle0:=hf0.1;unfold ou at h;refine aT (fun K hK=>aD ?_);unfold SB;obtain⟨e9,h⟩:=aP h;obtain⟨x10,e11,h⟩:=aj h;rcases au h with⟨e12,h⟩|⟨e12,h⟩
    ·try refine ah ?_
     refine eO ?_;obtain⟨e13,h⟩:=aP h;obtain⟨x14,e15,h⟩:=aj h;obtain⟨e20,h⟩:=aP h;try refine ah ?_
     refine gu (f:=aX) He BQ ([(IntKind.wrap .i64 (x14 -jY))]:List Int) tC .exact av av fG (by first|exact e20|(simp only [List.length_cons,List.length_nil];exact e20)) (fun c16 H17 am5 le awS awT=> ?_);have awU:HF [] _ H17:=⟨le,fun i _ _=>awS i⟩;try simp only [AH.aK,AH.aL,AH.aM,AH.aN]at le
     obtain⟨am8,awV⟩:=awT kR fG rP;have n25:=ne_next (show AO<H17.next by first|omega|(simp only [AH.aK,AH.aL,AH.aM,AH.aN];omega));have m26:=aV (show AO<H17.next by first|omega|(simp only [AH.aK,AH.aL,AH.aM,AH.aN];omega));try refine ah ?_
     refine hK _ _ ?_;exact ih AO aH jY gM Gg Gi Gj Gl (BQ++[(IntKind.wrap .i64 (x14 -jY))]) (IntKind.wrap .i64 (wR+1)) c16 kR _ _ _ _ aJ (by repeat (first|exact hf0|refine HF.new ?_|refine HF.fI ?_|refine HF.used ?_|refine HF.put (by first|(right;omega)|(left;simp only [List.mem_cons,true_or,or_true])) ?_|refine HF.via awU (by first|exact fun i hi=>absurd hi List.not_mem_nil|(intro i hi;simp only [List.mem_cons,List.not_mem_nil,or_false]at hi⊢;first|exact .inl hi|omega)) ?_)) av bQ fG fG awV _ h _ q0
    ·obtain rfl:=ak h;try refine ah ?_
     exact q0 _ tC _ _ rfl aJ (by repeat (first|exact hf0|refine HF.new ?_|refine HF.fI ?_|refine HF.used ?_|refine HF.put (by first|(right;omega)|(left;simp only [List.mem_cons,true_or,or_true])) ?_)) av fG
def qD:Nat->(List Nd)->Int->Int->(List Nd)->Int->Option (List Nd)
  |0,_,_,_,_,_=>none
  |k+1,aH,fB,jY,AP,gM=>
    cond (decide (gM<=fB)) (if 0<=gM then Option.bind (aH[gM.toNat]?) fun x5=>Option.bind (kg x5.names) fun p8=>Option.bind (ou k aH jY gM x5.kind x5.n x5.text p8 ([]:List Int) 0) (fun p29=>if(AP.length+1)*80<=1099511627776 then qD k aH fB jY (AP++[(Nd.mk p29.1 p29.2.1 p29.2.2.1 p29.2.2.2.1 p29.2.2.2.2)]) (IntKind.wrap .i64 (gM+1))else none)else none) (some (AP))
def QY:List Nat:=[6,7,8,9]++List.range' 14 43
theorem abk: ∀(k:Nat) (aH:List Nd) (fB:Int) (jY:Int) (AP:List Nd) (gM:Int) (qE:Ck) (aC σ:Nat->PV) (H0 H:AH) (f0:Fr QY aC σ) (hf0:HF [] H0 H) (sl:σ 0=(.aA (aH.map Nd.cells) .unk)/\σ 1=(.int .i64 fB)/\σ 5=(.int .i64 jY)/\σ 6=(.aA (AP.map Nd.cells) qE)/\σ 7=(.int .i64 gM)) (ZY:bn H qE) (o:List Nd) (h:qD k aH fB jY AP gM=some o) (Q:Post) (q0: ∀(p:List Nd) (c0:Ck) (σ':Nat->PV) (H':AH),o=p->Fr QY aC σ'->HF [] H0 H'->(σ' 6=(.aA (p.map Nd.cells) c0))->Q (.exit 0) σ' H'),W Tryz.prog (.loop SC) Q σ H:=by
  intro k
  induction k with
  |zero=>intro aH fB jY AP gM qE aC σ H0 H f0 hf0 sl ZY o h Q q0;simp only [qD,reduceCtorEq]at h
  |succ k ih=>
    intro aH fB jY AP gM qE aC σ H0 H f0 hf0 sl ZY o h Q q0;obtain⟨s0,s1,s5,s6,s7⟩:=sl;have hle0:=hf0.1;unfold qD at h;refine aT (fun K hK=>aD ?_);unfold SC;rcases au h with⟨e3,h⟩|⟨e3,h⟩
    ·obtain⟨e4,h⟩:=aP h;obtain⟨x5,e6,h⟩:=aj h;obtain⟨p8,e7,h⟩:=aj h;try refine ah ?_
     refine aB (zK e7) ?_;try refine ah ?_
     obtain⟨o27,h28,h⟩:=aj h;refine abj k (H.next) aH jY gM x5.kind x5.n x5.text p8 ([]:List Int) 0 .nil qE _ _ _ _ (Fr.refl _ _) (HF.refl _ _) av bQ fG fG kI.nil _ h28 _ ?_
     ·rintro p29 c33 σ' H32 eo yc aqr g34 anm;rw [eo]at h;have s36:σ' 0=(.aA (aH.map Nd.cells) .unk):=(yc 0 (by decide)).trans av;have s37:σ' 1=(.int .i64 fB):=(yc 1 (by decide)).trans av;have s38:σ' 5=(.int .i64 jY):=(yc 5 (by decide)).trans av;have s39:σ' 6=(.aA (AP.map Nd.cells) qE):=(yc 6 (by decide)).trans av;have s40:σ' 7=(.int .i64 gM):=(yc 7 (by decide)).trans av;have s41:σ' 8=(.ref (H.next) 0):=(yc 8 (by decide)).trans av;have le:=aqr.1;try simp only [AH.aK,AH.aL,AH.aM,AH.aN]at le
      have n43:=ne_next (show H.next<H32.next by first|omega|(simp only [AH.aK,AH.aL,AH.aM,AH.aN];omega));have m44:=aV (show H.next<H32.next by first|omega|(simp only [AH.aK,AH.aL,AH.aM,AH.aN];omega));obtain⟨e49,h⟩:=aP h;try refine ah ?_
      refine gu (f:=Nd.cells) Nd.row AP ([(Nd.mk p29.1 p29.2.1 p29.2.2.1 p29.2.2.2.1 p29.2.2.2.2)]:List Nd) qE .exact av av fG (by first|exact e49|(simp only [List.length_cons,List.length_nil];exact e49)) (fun c45 H46 ahb le ah2 awf=> ?_);have Ux:HF [] _ H46:=⟨le,fun i _ _=>ah2 i⟩;try simp only [AH.aK,AH.aL,AH.aM,AH.aN]at le
      have n52:=ne_next (show H.next<H46.next by first|omega|(simp only [AH.aK,AH.aL,AH.aM,AH.aN];omega));have m53:=aV (show H.next<H46.next by first|omega|(simp only [AH.aK,AH.aL,AH.aM,AH.aN];omega));try refine ah ?_
      refine hK _ _ ?_;exact ih aH fB jY (AP++[(Nd.mk p29.1 p29.2.1 p29.2.2.1 p29.2.2.2.1 p29.2.2.2.2)]) (IntKind.wrap .i64 (gM+1)) c45 _ _ _ _ (by repeat (first|exact f0|refine Fr.upd (by decide) ?_|refine Fr.via yc (by decide) ?_)) (by repeat (first|exact hf0|refine HF.new ?_|refine HF.fI ?_|refine HF.used ?_|refine HF.put (by first|(right;omega)|(left;simp only [List.mem_cons,true_or,or_true])) ?_|refine HF.via aqr (by first|exact fun i hi=>absurd hi List.not_mem_nil|(intro i hi;simp only [List.mem_cons,List.not_mem_nil,or_false]at hi⊢;first|exact .inl hi|omega)) ?_|refine HF.via Ux (by first|exact fun i hi=>absurd hi List.not_mem_nil|(intro i hi;simp only [List.mem_cons,List.not_mem_nil,or_false]at hi⊢;first|exact .inl hi|omega)) ?_)) av fG _ h _ q0
    ·obtain rfl:=ak h;try refine ah ?_
     exact q0 _ qE _ _ rfl aJ (by repeat (first|exact hf0|refine HF.new ?_|refine HF.fI ?_|refine HF.used ?_|refine HF.put (by first|(right;omega)|(left;simp only [List.mem_cons,true_or,or_true])) ?_)) av
def LB (k:Nat) (aH:List Nd) (fB:Int):Option (List Nd):=
  Option.bind (tX k aH fB) fun p2=>Option.bind (qD k aH fB p2 ([]:List Nd) p2) (fun p56=>some p56)
theorem aio {k:Nat} {aH:List Nd} {fB:Int} {c0:Ck} {r:List Nd} (h:LB k aH fB=some r):aF Tryz.prog 62 [(.aA (aH.map Nd.cells) c0),(.int .i64 fB)] (.aA (r.map Nd.cells) .unk):=by
  refine aF.lw (.aA (.same .nil)) (aF.aQ (bf.mem (.cons (aU Nd.pu _) (.cons (.int _ _) .nil))) (aG auX (by simp) (aD ?_)) (aU Nd.pu _));unfold LB at h;unfold anM;obtain⟨p2,e1,h⟩:=aj h;try refine ah ?_
  refine aB (KC e1) ?_;try refine ah ?_
  obtain⟨o54,h55,h⟩:=aj h;refine abk k aH fB p2 ([]:List Nd) p2 .nil _ _ _ _ (Fr.refl _ _) (HF.refl _ _) av fG _ h55 _ ?_
  ·rintro p56 c60 σ' H59 eo aBs adT s61;rw [eo]at h;have le:=adT.1;try simp only [AH.aK,AH.aL,AH.aM,AH.aN]at le
   obtain rfl:=ak h;try refine ah ?_
   exact(d9 Nd.pu _ _)
def yP (k:Nat) (aH:List Nd) (bV:Int):Option (List Nd):=
  Option.bind (Eu aH) fun p2=>if 0<=bV then Option.bind (p2.args[bV.toNat]?) fun x4=>Option.bind (LB k aH x4) fun p7=>some p7 else none
theorem abl {k:Nat} {aH:List Nd} {bV:Int} {c0:Ck} {r:List Nd} (h:yP k aH bV=some r):aF Tryz.prog 22 [(.aA (aH.map Nd.cells) c0),(.int .i64 bV)] (.aA (r.map Nd.cells) .unk):=by
  refine aF.lw (.aA (.same .nil)) (aF.aQ (bf.mem (.cons (aU Nd.pu _) (.cons (.int _ _) .nil))) (aG ana (by simp) (aD ?_)) (aU Nd.pu _));unfold yP at h;unfold am9;obtain⟨p2,e1,h⟩:=aj h;try refine ah ?_
  refine aB (YR e1) ?_;obtain⟨e3,h⟩:=aP h;obtain⟨x4,e5,h⟩:=aj h;obtain⟨p7,e6,h⟩:=aj h;try refine ah ?_
  refine aB (aio e6) ?_;obtain rfl:=ak h;try refine ah ?_
  exact(d9 Nd.pu _ _)
end Go.VL
end
section
set_option maxRecDepth 8000
set_option maxHeartbeats 4000000
namespace Go.VL
open Go.Proofs
def ow:Nat->(List Str)->(List Str)->Str->Int->Option (Unit⊕Str)
  |0,_,_,_,_=>none
  |k+1,lI,lG,s_2,gM=>
    cond (decide (gM>=0)) (if 0<=gM then Option.bind (lI[gM.toNat]?) fun x3=>cond (x3==s_2) (Option.bind (lG[gM.toNat]?) fun x6=>some (.inr (x6))) (ow k lI lG s_2 (IntKind.wrap .i64 (gM -1)))else none) (some (.inl ()))
def Fa:List Nat:=[6,7]++List.range' 11 14
theorem Xa: ∀(k:Nat) (lI:List Str) (lG:List Str) (s_2:Str) (gM:Int) (aC σ:Nat->PV) (H:AH) (f0:Fr Fa aC σ) (sl:σ 0=(.aA (lI.map aI) .unk)/\σ 1=(.aA (lG.map aI) .unk)/\σ 2=(.str s_2)/\σ 7=(.int .i64 gM)) (o:Unit⊕Str) (h:ow k lI lG s_2 gM=some o) (Q:Post) (q0: ∀(p:Unit) (σ':Nat->PV),o= .inl p->Fr Fa aC σ'->Q (.exit 0) σ' H) (q1: ∀(p:Str) (σ':Nat->PV),o= .inr (p)->Fr Fa aC σ'->(σ' 6=(.str p))->Q .ret σ' H),W Tryz.prog (.loop Oi) Q σ H:=by
  intro k
  induction k with
  |zero=>intro lI lG s_2 gM aC σ H f0 sl o h Q q0 q1;simp only [ow,reduceCtorEq]at h
  |succ k ih=>
    intro lI lG s_2 gM aC σ H f0 sl o h Q q0 q1;obtain⟨s0,s1,s2,s7⟩:=sl;unfold ow at h;refine aT (fun K hK=>aD ?_);unfold Oi;rcases au h with⟨e1,h⟩|⟨e1,h⟩
    ·obtain⟨e2,h⟩:=aP h;obtain⟨x3,e4,h⟩:=aj h;rcases au h with⟨e5,h⟩|⟨e5,h⟩
     ·obtain⟨x6,e7,h⟩:=aj h;obtain rfl:=ak h;try refine ah ?_
      exact q1 _ _ rfl aJ av
     ·try refine ah ?_
      refine hK _ _ ?_;exact ih lI lG s_2 (IntKind.wrap .i64 (gM -1)) _ _ _ aJ av _ h _ q0 q1
    ·obtain rfl:=ak h;try refine ah ?_
     exact q0 _ _ rfl aJ
def vV (k:Nat) (lI:List Str) (lG:List Str) (s_2:Str):Option Str:=
  Option.bind (ow k lI lG s_2 (IntKind.wrap .i64 ((lI.length:Int) -1))) (fun o=>Sum.elim (fun iN=>some s_2) (fun zm=>some zm) o)
theorem aea {k:Nat} {lI:List Str} {lG:List Str} {s_2:Str} {c0 c1:Ck} {r:Str} (h:vV k lI lG s_2=some r):aF Tryz.prog 137 [(.aA (lI.map aI) c0),(.aA (lG.map aI) c1),(.str s_2)] (.str r):=by
  refine aF.lw (.aA (.aA (.same .nil))) (aF.aQ (bf.mem (.cons (aU bg _) (.cons (aU bg _) (.cons (.str _) .nil)))) (aG arR (by simp) (aD ?_)) (.str _));unfold vV at h;unfold ajk;try refine ah ?_
  obtain⟨o8,h9,h⟩:=aj h;refine Xa k lI lG s_2 (IntKind.wrap .i64 ((lI.length:Int) -1)) _ _ _ (Fr.refl _ _) av _ h9 _ ?_ ?_
  ·rintro iN σ' eo Ky;subst eo;rw [bL]at h;have JC:σ' 2=(.str s_2):=(Ky 2 (by decide)).trans av;obtain rfl:=ak h;try refine ah ?_
   exact(.pure _ (.str _))
  ·rintro zm σ' eo TJ oW;subst eo;rw [bP]at h;obtain rfl:=ak h;try refine ah ?_
   exact(.pure _ (.str _))
def qF:Nat->(List Str)->Str->Int->Option (Unit⊕Int)
  |0,_,_,_=>none
  |k+1,dz,s_1,dR=>
    cond (decide (dR<(dz.length:Int))) (if 0<=dR then Option.bind (dz[dR.toNat]?) fun x3=>cond (x3==s_1) (some (.inr (dR))) (qF k dz s_1 (IntKind.wrap .i64 (dR+1)))else none) (some (.inl ()))
def GU:List Nat:=List.range' 4 15
theorem Z0: ∀(k:Nat) (dz:List Str) (s_1:Str) (dR:Int) (aC σ:Nat->PV) (H:AH) (f0:Fr GU aC σ) (sl:σ 0=(.aA (dz.map aI) .unk)/\σ 1=(.str s_1)/\σ 5=(.int .i64 dR)) (o:Unit⊕Int) (h:qF k dz s_1 dR=some o) (Q:Post) (q0: ∀(p:Unit) (σ':Nat->PV),o= .inl p->Fr GU aC σ'->Q (.exit 0) σ' H) (q1: ∀(p:Int) (σ':Nat->PV),o= .inr (p)->Fr GU aC σ'->(σ' 4=(.int .i64 p))->Q .ret σ' H),W Tryz.prog (.loop Ol) Q σ H:=by
  intro k
  induction k with
  |zero=>intro dz s_1 dR aC σ H f0 sl o h Q q0 q1;simp only [qF,reduceCtorEq]at h
  |succ k ih=>
    intro dz s_1 dR aC σ H f0 sl o h Q q0 q1;obtain⟨s0,s1,s5⟩:=sl;unfold qF at h;refine aT (fun K hK=>aD ?_);unfold Ol;rcases au h with⟨e1,h⟩|⟨e1,h⟩
    ·obtain⟨e2,h⟩:=aP h;obtain⟨x3,e4,h⟩:=aj h;rcases au h with⟨e5,h⟩|⟨e5,h⟩
     ·obtain rfl:=ak h;try refine ah ?_
      exact q1 _ _ rfl aJ av
     ·try refine ah ?_
      refine hK _ _ ?_;exact ih dz s_1 (IntKind.wrap .i64 (dR+1)) _ _ _ aJ av _ h _ q0 q1
    ·obtain rfl:=ak h;try refine ah ?_
     exact q0 _ _ rfl aJ
def Iu (k:Nat) (dz:List Str) (s_1:Str):Option Int:=
  Option.bind (qF k dz s_1 0) (fun o=>Sum.elim (fun p8=>some (-1)) (fun lT=>some lT) o)
theorem afW {k:Nat} {dz:List Str} {s_1:Str} {c0:Ck} {r:Int} (h:Iu k dz s_1=some r):aF Tryz.prog 139 [(.aA (dz.map aI) c0),(.str s_1)] (.int .i64 r):=by
  refine aF.lw (.aA (.same .nil)) (aF.aQ (bf.mem (.cons (aU bg _) (.cons (.str _) .nil))) (aG arU (by simp) (aD ?_)) (.int _ _));unfold Iu at h;unfold ajm;try refine ah ?_
  obtain⟨o6,h7,h⟩:=aj h;refine Z0 k dz s_1 0 _ _ _ (Fr.refl _ _) av _ h7 _ ?_ ?_
  ·rintro p8 σ' eo Hl;subst eo;rw [bL]at h;obtain rfl:=ak h;try refine ah ?_
   exact(.pure _ (.int _ _))
  ·rintro lT σ' eo IY s16;subst eo;rw [bP]at h;obtain rfl:=ak h;try refine ah ?_
   exact(.pure _ (.int _ _))
end Go.VL
end
section
set_option maxRecDepth 8000
namespace Go.VL
open Go.Proofs Go.RowKit
def AQ (taken:List Str):Nat->Int->Option (Str×Int)
  |0,_=>none
  |k+1,c=>if 0<=c/\c<=9000 then Option.bind (Es k (c+1)) fun d=>if d.length<=100 then Option.bind (l9 k taken ([98,95]++d)) fun b=>cond b (AQ taken k (c+1)) (some ([98,95]++d,c+1))else none else none
theorem abm (taken:List Str) (o:Nat): ∀(k:Nat) (c:Int) (s:Str) (c':Int) (σ:Nat->PV) (H:AH) (cl:Ck) (Q:Post),AQ taken k c=some (s,c')->σ 0= .ref o 0->H.obj o=some [.aA (taken.map aI) cl,.int .i64 c]->
    (∀σ',σ' 2= .str s->Q .ret σ' (H.put o [.aA (taken.map aI) cl,.int .i64 c']))->W Tryz.prog (.loop Oj) Q σ H:=by
  intro k
  induction k with
  |zero=>intro c s c' σ H cl Q h;cases h
  |succ k ih=>
    intro c s c' σ H cl Q h s0 ho q0;rw [AQ]at h;obtain⟨hc,h⟩:=aP h;obtain⟨d,hd,h⟩:=aj h;obtain⟨hdl,h⟩:=aP h;obtain⟨b,hb,h⟩:=aj h;have hw:IntKind.wrap .i64 (c+1)=c+1:=by rw [IntKind.wrap_i64];omega
    have hg:([98,95]:Str).length+d.length<=4611686018427387904:=by simp;omega
    refine aT (fun K hK=>aD ?_);unfold Oj;simp -implicitDefEqProofs only [go_sem,dJ,↓reduceIte,Nat.reduceEqDiff,s0,ho,hw,List.length_cons,List.length_nil,Nat.reduceAdd,Nat.le_refl];refine aB (ahz hd) ?_;simp -implicitDefEqProofs only [go_sem,dJ,↓reduceIte,Nat.reduceEqDiff,List.length_cons,List.length_nil,Nat.reduceAdd,Nat.le_refl];refine dx hg ?_;have zQ:(H.put o [.aA (taken.map aI) cl,.int .i64 (c+1)]).obj o=some [.aA (taken.map aI) cl,.int .i64 (c+1)]:=by
      show(if o=o then _ else _)=_
      rw [if_pos rfl]
    simp -implicitDefEqProofs only [go_sem,dJ,↓reduceIte,Nat.reduceEqDiff,s0,zQ,List.length_cons,List.length_nil,Nat.reduceAdd,Nat.le_refl];refine aB (za hb) ?_;rcases au h with⟨e1,h⟩|⟨e1,h⟩
    · subst e1;simp -implicitDefEqProofs only [go_sem,dJ,↓reduceIte,Nat.reduceEqDiff,List.length_cons,List.length_nil,Nat.reduceAdd,Nat.le_refl];refine hK _ _ (ih (c+1) s c' _ _ cl Q h (by simp -implicitDefEqProofs only [go_sem,↓reduceIte,Nat.reduceEqDiff,s0]) zQ fun σ' h2=> ?_);rw [abX];exact q0 σ' h2
    · subst e1;cases ak h;simp -implicitDefEqProofs only [go_sem,dJ,↓reduceIte,Nat.reduceEqDiff,List.length_cons,List.length_nil,Nat.reduceAdd,Nat.le_refl];exact q0 _ (by simp -implicitDefEqProofs only [go_sem,↓reduceIte,Nat.reduceEqDiff])
theorem aeb {taken:List Str} {o:Nat} {k:Nat} {c:Int} {s:Str} {c':Int} {H:AH} {cl:Ck} (h:AQ taken k c=some (s,c')) (ho:H.obj o=some [.aA (taken.map aI) cl,.int .i64 c]):
    bC Tryz.prog 138 [.ref o 0] H fun v H'=>v= .str s/\H'=H.put o [.aA (taken.map aI) cl,.int .i64 c']:=by
  refine aG arS (by simp) (aD ?_);unfold ajl;simp -implicitDefEqProofs only [go_sem];refine abm taken o k c s c' _ H cl _ h (by simp -implicitDefEqProofs only [go_sem,↓reduceIte,Nat.reduceEqDiff]) ho fun σ' h2=> ?_;simp -implicitDefEqProofs only [go_sem,h2,and_self]
end Go.VL
end
section
set_option maxRecDepth 8000
namespace Go.VL
open Go.Proofs Go.RowKit
structure nW (H:AH) (l:List Str) (v:PV) (ids:List Nat):Prop where
  len:xL v=some (.int .i64 l.length)
  at_: ∀(i:Nat) s,l[i]? =some s-> ∃id off C,kT 1 v (.int .i64 i)=some (.ref id off)/\id∈ids/\id<H.next/\H.obj id=some C/\C[off]? =some (.str s)
theorem nW.hf {M:List Nat} {H H':AH} {l:List Str} {v:PV} {ids:List Nat} (h:nW H l v ids) (hf:HF M H H') (hd:Dj ids M):nW H' l v ids:=
  ⟨h.len,fun i s e=>let ⟨id,off,C,h1,h2,h3,h4,h5⟩:=h.at_ i s e;⟨id,off,C,h1,h2,Nat.lt_of_lt_of_le h3 hf.1,(hf.2 id h3 (hd id h2)).trans h4,h5⟩⟩
theorem nW.nil {H:AH} {c:Ck} {ids:List Nat}:nW H [] (.aA [] c) ids:=⟨rfl,fun i s e=>by simp at e⟩
theorem iQ.cells {H:AH} {n:Nd} {id len cap:Nat} (h:iQ H (n,.m id len cap)):len=n.names.length/\n.names.length<=cap/\id<H.next/\ ∃C,H.obj id=some C/\C.length=cap/\ ∀(i:Nat) s,n.names[i]? =some s->C[i]? =some (.str s):=by
  obtain⟨h0,h⟩:=h;have h':aO H aI 1 n.names (.bS id 0 len cap 1) [id]:=h;have hl:=h'.aha;have hlen:len=n.names.length:=by
    simp only [xL,Option.some.injEq,PV.int.injEq,true_and]at hl;omega
  have h'':=h';rcases h' with⟨e,_⟩|⟨id',cap',junk,e1,e2,e3,e4,e5,e6⟩
  · cases e
  · cases e2;refine⟨hlen,e3,e4,_,e5,?_,fun i s e=> ?_⟩
    · have hfl:((n.names.map aI).flatten).length=n.names.length*1:=l8 (f:=aI) (fun _=>rfl) _;rw [List.length_append,hfl,e6];omega
    · obtain⟨id2,C,q1,q2,q3,q4,_⟩:=aO.content h'' e;obtain rfl:id=id2:=by simpa using q1
      rw [e5]at q3;cases q3;have:=q4 0 (.str s) rfl;simpa using this
theorem nW.part {H:AH} {n:Nd} {id len cap:Nat} (h:iQ H (n,.m id len cap)) {a b:Nat} (hb:a+b<=n.names.length) (cap':Nat):nW H ((n.names.drop a).take b) (.bS id a b cap' 1) [id]:=by
  obtain⟨h1,h2,h3,C,h4,h5,h6⟩:=h.cells;have hl:((n.names.drop a).take b).length=b:=by rw [List.length_take,List.length_drop];omega
  refine⟨by simp only [xL,hl],fun i s e=>⟨id,a+i,C,?_,List.mem_singleton.2 rfl,h3,h4,?_⟩⟩
  · have:=(List.getElem?_eq_some_iff.1 e).1;rw [hl]at this;simp only [kT];rw [if_pos ⟨by omega,by omega,trivial⟩];simp
  · rw [List.getElem?_take]at e;split at e
    · rw [List.getElem?_drop]at e;exact h6 _ s e
    · cases e
theorem nW.whole {H:AH} {n:Nd} {y:NV} (h:iQ H (n,y)):nW H n.names y.pv y.ids:=by
  cases y with
  |p l=>
    obtain⟨h1,h2⟩:l=[]/\n.names=[]:=h;subst h1;rw [h2];exact nW.nil
  |m id len cap=>
    have h1:=h.cells.1;have:=nW.part h (a:=0) (b:=n.names.length) (by omega) cap;rw [List.drop_zero,List.take_length]at this;subst h1;exact this
theorem Z4 {H:AH} {n:Nd} {y:NV} {p:Nat} {r:List Str} (hy:iQ H (n,y)) (h:gP n (p:Int)=some r):bC Tryz.prog 121 [.agg (jh (n,y)),.int .i64 p] H fun v H'=>nW H' r v y.ids/\HF [] H H'/\ ∀c,bn H c->bn H' c:=by
  refine aG ac8 (by simp) (aD ?_);have hnew:HF [] H (H.new (jh (n,y))):=HF.new (HF.refl _ _);have hok: ∀c,bn H c->bn (H.new (jh (n,y))) c:=fun c k=>k.new;have hy':=hy.hf hnew (fun _ _ h=>by cases h);unfold gP at h;unfold Xi;simp -implicitDefEqProofs only [go_sem,dJ,jh,List.length_cons,List.length_nil,Nat.reduceAdd,Nat.le_refl];obtain⟨o9,h10,h⟩:=aj h;have zQ:(H.new (jh (n,y))).obj H.next=some (jh (n,y)):=by
    show(if H.next=H.next then some _ else _)=_
    rw [if_pos rfl]
  refine Ew n.kind _ _ _ (Fr.refl _ _) (by simp -implicitDefEqProofs only [go_sem]) _ h10 _ ?_;rintro l6 σ' eo oU s15;rw [eo]at h;have s16:σ' 2=(.ref H.next 0):=(oU 2 (by decide)).trans (by simp -implicitDefEqProofs only [go_sem]);have tH:σ' 5=(.bool ((p:Int)==(IntKind.wrap .i64 ((n.args.length:Int) -1)))):=(oU 5 (by decide)).trans (by simp -implicitDefEqProofs only [go_sem]);have jw:σ' 13=(.int .i64 n.kind):=(oU 13 (by decide)).trans (by simp -implicitDefEqProofs only [go_sem]);clear oU;rcases au h with⟨e19,h⟩|⟨e19,h⟩
  · rcases au h with⟨e20,h⟩|⟨e20,h⟩
    · obtain rfl:=ak h;simp -implicitDefEqProofs only [go_sem,dJ,s15,s16,tH,jw,e19,e20];exact⟨nW.whole hy',hnew,hok⟩
    · obtain rfl:=ak h;simp -implicitDefEqProofs only [go_sem,dJ,s15,s16,tH,jw,e19,e20];exact⟨nW.nil,hnew,hok⟩
  · rcases au h with⟨e21,h⟩|⟨e21,h⟩
    · have hm:1<=n.names.length-> ∃id len cap,y= .m id len cap/\len=n.names.length/\n.names.length<=cap:=by
        intro h1;cases y with
        |p l=>have h2:n.names=[]:=hy.2;rw [h2]at h1;simp at h1
        |m id len cap=>exact⟨id,len,cap,rfl,hy.cells.1,hy.cells.2.1⟩
      rcases au h with⟨e22,h⟩|⟨e22,h⟩
      · obtain⟨e23,h⟩:=aP h;obtain rfl:=ak h;obtain⟨id,len,cap,rfl,rfl,hcap⟩:=hm e23;have hs:pG 1 (.bS id 0 n.names.length cap 1) none (some (.int .i64 1)) none=some (.bS id 0 1 cap 1):=by
          simp only [pG,mY];rw [if_pos (by decide)];simp only [Int.toNat_one];rw [if_pos ⟨Nat.zero_le _,e23,trivial,by omega,by omega⟩];simp
        simp -implicitDefEqProofs only [go_sem,dJ,s15,s16,tH,jw,e19,e21,e22,NV.pv,hs];refine⟨?_,hnew,hok⟩;have:=nW.part hy' (a:=0) (b:=1) (by omega) cap;rw [List.drop_zero]at this;exact this
      · rcases au h with⟨e24,h⟩|⟨e24,h⟩
        · obtain rfl:=ak h;simp -implicitDefEqProofs only [go_sem,dJ,s15,s16,tH,jw,e19,e21,e22,e24];exact⟨nW.whole hy',hnew,hok⟩
        · obtain⟨e25,h⟩:=aP h;obtain rfl:=ak h;obtain⟨id,len,cap,rfl,rfl,hcap⟩:=hm e25;by_cases h1:1<cap
          · have hs:pG 1 (.bS id 0 n.names.length cap 1) (some (.int .i64 1)) none none=some (.bS id 1 (n.names.length -1) (cap -1) 1):=by
              simp only [pG,mY];rw [if_pos (by decide)];simp only [Int.toNat_one];rw [if_pos ⟨e25,Nat.le_refl _,trivial,h1,hcap⟩]
            simp -implicitDefEqProofs only [go_sem,dJ,s15,s16,tH,jw,e19,e21,e22,e24,NV.pv,hs];refine⟨?_,hnew,hok⟩;have:=nW.part hy' (a:=1) (b:=n.names.length -1) (by omega) (cap -1);rw [List.take_of_length_le (by rw [List.length_drop];omega)]at this;exact this
          · have hl1:n.names.length=1:=by omega
            have hc1:cap=1:=by omega
            subst hc1;have hs:pG 1 (.bS id 0 n.names.length 1 1) (some (.int .i64 1)) none none=some (.aA [] .unk):=by
              rw [hl1];rfl
            simp -implicitDefEqProofs only [go_sem,dJ,s15,s16,tH,jw,e19,e21,e22,e24,NV.pv,hs];refine⟨?_,hnew,hok⟩;rw [List.drop_of_length_le (by omega)];exact nW.nil
    · obtain rfl:=ak h;simp -implicitDefEqProofs only [go_sem,dJ,s15,s16,tH,jw,e19,e21];exact⟨nW.nil,hnew,hok⟩
section
variable [Glob] {P:Program} {Q:Post} {σ:Nat->PV} {s:List Fm} {α:Type} {H:AH} {f:α->List PV} {sz:Nat}
theorem afX {d:Option Nat} {b:Nat} {x y:AE} {l:List aR} [hr:qI f sz] (hf: ∀x,lX sz (f x)) (ys:List α) {yv:PV}
    (hx:x.ev σ= .aA [] .exact) (hy:y.ev σ=yv) (hrow:rowOf sz H yv=some (ys.map f)) (hs:0<ys.length) (hb:ys.length*b<=1099511627776)
    (h: ∀(v':PV) (mK:List Nat) (H':AH),aO H' f sz ys v' mK->Nw H [] mK->HF [] H H'->(∀c3,bn H c3->bn H' c3)->WO P l s Q (upd σ d v') H'):
    WO P (⟨d,.n (.app sz b x y),none⟩::l) s Q σ H:=by
  show dF P _ _ σ H
  rw [G9];simp only [nop,hx,hy];have h0: ¬((ys.map f).length=0):=by rw [List.length_map];omega
  have hx0:rowOf sz H (.aA [] .exact)=some []:=rfl;simp only [wW,hrow,hx0];rw [if_neg h0];split
  · intro cap hcap;simp only [List.length_map,List.length_nil,Nat.zero_add,List.nil_append]at hcap⊢;refine h _ [H.next] _ (.inr ⟨H.next,cap,List.replicate ((cap -ys.length)*sz) .any,rfl,rfl,hcap,Nat.lt_succ_self _,?_,by rw [List.length_replicate]⟩) (fun i hi=> .inr (by rw [List.mem_singleton.1 hi];exact Nat.le_refl _)) (HF.new (HF.refl _ _)) (fun c3 k=>k.new);show(if H.next=H.next then some _ else _)=_
    rw [if_pos rfl]
  · rename_i hno;exact(hno ⟨qK hf ([]:List α),qK hf ys,by simpa using hb⟩).elim
end
theorem abn {H:AH} {n:Nd} {y:NV} (hy:iQ H (n,y)) (hl:n.names.length<=1000000):bC Tryz.prog 72 [y.pv] H fun v H'=> ∃z:NV,v=z.pv/\iQ H' (n,z)/\(∀j∈z.ids,H.next<=j)/\HF [] H H'/\ ∀c,bn H c->bn H' c:=by
  cases y with
  |p l=>
    obtain⟨h1,h2⟩:l=[]/\n.names=[]:=hy;subst h1;have:=MU n hl H;rw [h2]at this;exact this
  |m id len cap=>
    have hy0:=hy;obtain⟨h0,hr⟩:=hy;have hr:aO H aI 1 n.names (.bS id 0 len cap 1) [id]:=hr;have hlen:len=n.names.length:=hy0.cells.1;subst hlen;have hpos:0<n.names.length:=List.length_pos_iff.2 h0;obtain⟨id',cap',junk,e1,e2,e3,e4,e5,e6⟩: ∃id' cap' junk,[id]=[id']/\PV.bS id 0 n.names.length cap 1= .bS id' 0 n.names.length cap' 1/\n.names.length<=cap'/\id'<H.next/\H.obj id'=some ((n.names.map aI).flatten++junk)/\junk.length=(cap' -n.names.length)*1:=by
      rcases hr with⟨e,_⟩|h
      · cases e
      · exact h
    cases e2;have hrow:rowOf 1 H (.bS id 0 n.names.length cap 1)=some (n.names.map aI):=by
      simp only [rowOf,e5];have hfl:((n.names.map aI).flatten).length=n.names.length*1:=l8 (f:=aI) (fun _=>rfl) _;rw [if_pos ⟨trivial,by rw [List.length_append,hfl];omega⟩,List.drop_zero];have:=y9 (sz:=1) (n.names.map aI) junk (fun cs h=>by obtain⟨s,_,rfl⟩:=List.mem_map.1 h;rfl);rw [List.length_map]at this;rw [this]
    show bC Tryz.prog 72 [.bS id 0 n.names.length cap 1] H _
    refine aG Cn.aok (by simp) (aD ?_);unfold Cn.ahi;simp -implicitDefEqProofs only [go_sem];refine afX (f:=aI) jg n.names (by simp -implicitDefEqProofs only [go_sem]) (by simp -implicitDefEqProofs only [go_sem]) hrow hpos (by omega) (fun v' mK H' g1 g2 g3 g4=> ?_);simp -implicitDefEqProofs only [go_sem];have g1':=g1;rcases g1 with⟨_,h,_⟩|⟨id2,cap2,azX,rfl,rfl,_⟩
    · exact absurd h h0
    · refine⟨.m id2 n.names.length cap2,rfl,⟨h0,g1'⟩,fun j hj=> ?_,g3,g4⟩;rcases g2 j hj with q|q
      · cases q
      · exact q
end Go.VL
end
section
namespace Go.VL
open Go.Proofs Go.RowKit
set_option maxRecDepth 100000
theorem afY:Enters Tryz.prog 205:=⟨_,Tryz.func205,rfl,by kernel_rfl⟩
theorem aip:Pq Tryz.prog 205 2 true:=by
  intro l m bx n J Jx W hn hc hY h0;refine callsIn_of_wp Tryz.func205 rfl trivial ?_ rfl;simp only [Tryz.ntmps205,List.size_toArray,List.length_cons,List.length_nil,Nat.reduceAdd,Nat.reduceSub,Array.replicate_succ,Array.replicate_zero,List.push_toArray,List.append_toArray,List.nil_append,List.cons_append];obtain⟨ad0,cap0,hc0⟩:=hc
  gi_wp2
  gi_loopw [3] (fun v3 wr=> ∃k:Nat,v3= .int .i64 ((k:Int) -1)/\k<=n/\J k wr) (fun v3 wr=>(RowKit.intOf v3+1).toNat)
  case atStart=>exact⟨n,rfl,Nat.le_refl _,h0⟩
  case round=>
    obtain⟨k,rfl,hk,hJ⟩:=hrel;cases k with
    |zero=>
      have c1: ¬(0:Int)<=((0:Nat):Int) -1:=by omega
      gi_wp2
      go_end0
      exact⟨⟨_,rfl⟩,.inl hJ⟩
    |succ k=>
      obtain⟨b,o,cap,vs,hb,hkn,hvs,hld,fn,tmps,assign,body,hy,hR⟩:=hY k wr hJ;have e1:((k+1:Nat):Int) -1=(k:Int):=by omega
      rw [e1];have c1:(0:Int)<=(k:Int):=by omega
      have c2:(k:Int)<(n:Int):=by omega
      obtain⟨x0,x1,rfl⟩: ∃x0 x1,vs=#[x0,x1]:=by
        match vs,hvs with
        |⟨[x0,x1]⟩,_=>exact⟨x0,x1,rfl⟩
      have l0:wr.cell? ⟨b,o+k*2,none⟩=some x0:=by simpa using hld 0 x0 rfl
      have l1:wr.cell? ⟨b,o+k*2+1,none⟩=some x1:=by simpa using hld 1 x1 rfl
      have l2:wr.cell? ⟨b,o+(k*2+1),none⟩=some x1:=by rw [<-Nat.add_assoc];exact l1
      clear hld;have hev:elemV true #[x0,x1]=Value.agg #[x0,x1]:=rfl;rw [hev]at hy
      gi_wp2
      refine⟨fun hd=>absurd hd (by simp [Fence.wide]),(MQ hR).mono ?_⟩;rintro e W' (⟨rfl,hJ'⟩|⟨rfl,hJx⟩)
      · gi_wp2
        go_roundw
        case rel=>exact⟨k,rfl,by omega,hJ'⟩
        case measure=>simp [RowKit.intOf]
      · gi_wp2
        refine bodyPost_ret (results_none rfl _ _ _) rfl ?_;exact⟨⟨_,rfl⟩,.inr hJx⟩
end Go.VL
end
section
namespace Go.VL
open Go.Proofs Go.RowKit
theorem VQ {α:Type} {f:α->List PV} (hf: ∀x,∀c∈f x,Pu c) (l:List α):Pu (.aA (l.map f) .exact):=by
  have h:=aU hf l;cases h with
  |aA _ _ h1 h2=>exact .aA _ _ h1 (by simp)
theorem afZ (l:List Scope) {c:Ck}:aF Tryz.prog 184 [.aA (l.map Scope.cells) c] (.aA (l.map Scope.cells) .exact):=by
  refine aF.wk (args:=[.aA (l.map Scope.cells) .unk]) ?_ (.aA .nil);refine aF.aQ (bf.mem (.cons (aU Scope.pu _) .nil)) (aG asa (by simp) (aD ?_)) (VQ Scope.pu l);unfold ajE;simp -implicitDefEqProofs only [go_sem,↓reduceIte,Nat.reduceEqDiff,List.length_map,Zt Scope.cells 2];first|done|exact .pure _ (VQ Scope.pu l)
end Go.VL
end
section
set_option maxRecDepth 8000
namespace Go.VL
open Go.Proofs Go.RowKit
def kH (l:List (Nd×NV)) (id o:Nat):List Nat:=o::id::(l.map fun x=>x.2.ids).flatten
structure jZ (H:AH) (l:List (Nd×NV)) (v:PV) (id o lo:Nat) (left:List Str) (cl:Ck) (c:Int):Prop where
  own:Kw H l v id l.length lo
  obj:H.obj o=some [v,.aA (left.map aI) cl,.int .i64 c]
  lt:o<H.next
  ne:o≠id
  nen: ∀(i:Nat) (x:Nd×NV),l[i]? =some x->o∉x.2.ids
theorem Mv {l:List (Nd×NV)} {i:Nat} {x:Nd×NV} (h:l[i]? =some x) {a:Nat} (ha:a∈x.2.ids):a∈(l.map fun x=>x.2.ids).flatten:=
  List.mem_flatten.2 ⟨x.2.ids,List.mem_map.2 ⟨x,List.mem_of_getElem? h,rfl⟩,ha⟩
theorem jZ.hf {H H':AH} {l:List (Nd×NV)} {v:PV} {id o lo:Nat} {left:List Str} {cl:Ck} {c:Int} {M:List Nat} (h:jZ H l v id o lo left cl c) (hf:HF M H H') (hd:Dj (kH l id o) M):jZ H' l v id o lo left cl c:=by
  have hdo:o∉M:=fun hm=>hd o List.mem_cons_self hm;have hdi:id∉M:=fun hm=>hd id (List.mem_cons_of_mem _ List.mem_cons_self) hm;have hdn: ∀(i:Nat) (x:Nd×NV),l[i]? =some x->Dj x.2.ids M:=fun i x hx a ha hm=>hd a (List.mem_cons_of_mem _ (List.mem_cons_of_mem _ (Mv hx ha))) hm;refine⟨⟨h.own.row.hf hf (fun a ha hm=>hdi (List.mem_singleton.1 ha▸hm)),fun i x hx=> ?_,h.own.dj,h.own.ne,h.own.lob,h.own.TI⟩,(hf.2 o h.lt hdo).trans h.obj,Nat.lt_of_lt_of_le h.lt hf.1,h.ne,h.nen⟩;have:=h.own.C8 i x hx;have hi:=(List.getElem?_eq_some_iff.1 hx).1;rw [if_pos hi]at this⊢;exact this.hf hf (hdn i x hx)
theorem jZ.lts {H:AH} {l:List (Nd×NV)} {v:PV} {id o lo:Nat} {left:List Str} {cl:Ck} {c:Int} (h:jZ H l v id o lo left cl c): ∀a∈kH l id o,a<H.next:=by
  intro a ha;simp only [kH,List.mem_cons]at ha;rcases ha with rfl|rfl|ha
  · exact h.lt
  · exact h.own.row.lt _ (List.mem_singleton.2 rfl)
  · obtain⟨is,h1,h2⟩:=List.mem_flatten.1 ha;obtain⟨x,h3,rfl⟩:=List.mem_map.1 h1;obtain⟨i,hi⟩:=List.mem_iff_getElem?.1 h3;have:=h.own.C8 i x hi;rw [if_pos (List.getElem?_eq_some_iff.1 hi).1]at this;exact this.lt a h2
theorem jZ.new {H H':AH} {l:List (Nd×NV)} {v:PV} {id o lo:Nat} {left:List Str} {cl:Ck} {c:Int} (h:jZ H l v id o lo left cl c) {M:List Nat} (hf:HF M H H') (hM: ∀a∈M,H.next<=a):jZ H' l v id o lo left cl c:=
  h.hf hf fun a ha hm=>by have:=h.lts a ha;have:=hM a hm;omega
theorem jZ.set {H H':AH} {l:List (Nd×NV)} {v:PV} {id o lo:Nat} {left:List Str} {cl:Ck} {c:Int} (h:jZ H l v id o lo left cl c) {i:Nat} {n m:Nd} {y:NV} (hx:l[i]? =some (n,y)) (hn:m.names=n.names)
    (hr:aO H' jh 5 (l.set i (m,y)) v [id]) (hf:HF [id] H H'):jZ H' (l.set i (m,y)) v id o lo left cl c:=by
  have hi:=(List.getElem?_eq_some_iff.1 hx).1;have hget: ∀(k:Nat) (x:Nd×NV),(l.set i (m,y))[k]? =some x-> ∃x0,l[k]? =some x0/\x.2=x0.2/\x.1.names=x0.1.names:=by
    intro k x e;rw [List.getElem?_set]at e;by_cases hk:i=k
    · subst hk;rw [if_pos rfl,if_pos hi]at e;cases e;exact⟨_,hx,rfl,hn⟩
    · rw [if_neg hk]at e;exact⟨x,e,rfl,rfl⟩
  refine⟨⟨hr,fun k x e=> ?_,fun k k' x x' e e' hne=> ?_,fun k x e=> ?_,fun k x e=> ?_,h.own.TI⟩,?_,Nat.lt_of_lt_of_le h.lt hf.1,h.ne,fun k x e=> ?_⟩
  · obtain⟨x0,e0,q1,q2⟩:=hget k x e;have hk:=(List.getElem?_eq_some_iff.1 e0).1;have Jo:=h.own.C8 k x0 e0;rw [if_pos hk]at Jo;rw [if_pos (by rw [List.length_set];exact hk)];have:=Jo.hf hf fun a ha hm=>h.own.ne k x0 e0 (List.mem_singleton.1 hm▸ha);obtain⟨n1,y1⟩:=x;obtain⟨n0,y0⟩:=x0;simp only at q1 q2;subst q1;unfold iQ at this⊢;cases y1 with
    |p l=>simp only at this⊢;rw [q2];exact this
    |m a b d=>simp only at this⊢;rw [q2];exact this
  · obtain⟨x0,e0,q1,_⟩:=hget k x e;obtain⟨x0',e0',q1',_⟩:=hget k' x' e';rw [q1,q1'];exact h.own.dj k k' x0 x0' e0 e0' hne
  · obtain⟨x0,e0,q1,_⟩:=hget k x e;rw [q1];exact h.own.ne k x0 e0
  · obtain⟨x0,e0,q1,_⟩:=hget k x e;rw [q1];exact h.own.lob k x0 e0
  · exact(hf.2 o h.lt fun hm=>h.ne (List.mem_singleton.1 hm)).trans h.obj
  · obtain⟨x0,e0,q1,_⟩:=hget k x e;rw [q1];exact h.nen k x0 e0
theorem Z5 {l:List (Nd×NV)} {id o i:Nat} {n m:Nd} {y:NV} (hx:l[i]? =some (n,y)):kH (l.set i (m,y)) id o=kH l id o:=by
  unfold kH;congr 3
  rw [List.map_set];obtain⟨h,e⟩:=List.getElem?_eq_some_iff.1 hx;have:(l.map fun x=>x.2.ids)[i]'(by simpa using h)=y.ids:=by rw [List.getElem_map,e]
  rw [<-this,List.set_getElem_self]
theorem af2 (s:Scope):lX 2 s.cells:=row_of rfl rfl
def kV:List Scope->Str->Str
  |[],t=>t
  |s::l,t=>if(l.any fun s=>decide (s.old=t))=true then kV l t else if s.old=t then s.new else kV l t
theorem aqu {H:AH} {n:Nd} {y:NV} (h:iQ H (n,y)):Fz H (.agg (jh (n,y))) (.agg n.cells):=by
  have hn:Fz H y.pv (.aA (n.names.map aI) .unk):=by
    cases y with
    |p l=>
      obtain⟨h1,h2⟩:l=[]/\n.names=[]:=h;subst h1;rw [h2];exact d9 bg [] .unk
    |m id len cap=>
      have hr:aO H aI 1 n.names (.bS id 0 len cap 1) [id]:=h.2;exact aO.fz bg hr
  exact dH (.cons (.pure _ (.int _ _)) (.cons (.pure _ (.int _ _)) (.cons (.pure _ (.str _)) (.cons hn (.cons (d9 fH n.args .unk) .nil)))))
end Go.VL
end
section
set_option maxRecDepth 8000
namespace Go.VL
open Go.Proofs Go.RowKit
theorem Jp (b:Scope) (t:Str): ∀l:List Scope,kV (l++[b]) t=if b.old=t then b.new else kV l t
  |[]=>by simp [kV]
  |s::l=>by
    rw [List.cons_append,kV,Jp b t l];by_cases h:b.old=t
    · simp [h]
    · simp only [List.any_append,List.any_cons,List.any_nil,Bool.or_false,decide_eq_false h,if_neg h];rw [kV]
section
variable {l:List (Nd×NV)} {v:PV} {id o lo:Nat} {left:List Str} {cl:Ck} {c:Int} {i:Nat} {n:Nd} {y:NV}
theorem aiq (hx:l[i]? =some (n,y)) (bound:List Scope) (q bx:Nat) (Q:Post) (σ:Nat->PV) (s6:σ 6= .ref q 0) (hqb:q∉kH l id o) (hqx:q≠bx):
    ∀(k:Nat) (H:AH),k<=bound.length->jZ H l v id o lo left cl c->q<H.next->bx<H.next->bx∉kH l id o->H.obj q=some [.ref id (i*5)]->H.obj bx=some [.aA (bound.map Scope.cells) .unk]->
      (∀(e:Ex) H',(e= .normal\/e= .exit 0)->jZ H' (l.set i ({n with text:=kV (bound.take k) n.text},y)) v id o lo left cl c->HF [id] H H'->H'.obj q=some [.ref id (i*5)]->Q e σ H')->
      Dc (fun Q' σ' H'=>W Tryz.prog Ku (FE (fun uP gY=>W Tryz.prog Kv Q' uP gY)) σ' H') Q σ bx [.aA (bound.map Scope.cells) .unk] 28 29 ((bound.map Scope.cells).map (BF true)) k H:=by
  intro k
  induction k with
  |zero=>
    intro H hk hV hq hb hbm ho hbx q0;refine q0 .normal H (.inl rfl) ?_ (HF.refl _ _) ho;have e1:l.set i (({n with text:=kV (bound.take 0) n.text}:Nd),y)=l:=by
      obtain⟨h,e⟩:=List.getElem?_eq_some_iff.1 hx;have:(({n with text:=kV (bound.take 0) n.text}:Nd),y)=l[i]:=by rw [e];rfl
      rw [this,List.set_getElem_self]
    rw [e1];exact hV
  |succ k ih=>
    intro H hk hV hq hb hbm ho hbx q0;have hlt:k<bound.length:=by omega
    refine⟨hbx,.agg (Scope.cells bound[k]),?_,?_⟩
    · rw [List.getElem?_map,List.getElem?_map,List.getElem?_eq_getElem hlt];rfl
    obtain⟨id',C,e1,hid,hC,hcell,hle,hdrop,hI⟩:=aO.content hV.own.row hx;obtain rfl:id=id':=by simpa using e1
    have c2:C[i*5+2]? =some (.str n.text):=hcell 2 _ rfl;have hqn:id≠H.next:=by omega
    have air:q≠H.next:=by omega
    have hqi:q≠id:=fun e=>hqb (by rw [e];simp [kH]);refine aD ?_;unfold Ku;simp -implicitDefEqProofs only [go_sem,dJ,↓reduceIte,Nat.reduceEqDiff,Scope.qL,List.length_cons,List.length_nil,Nat.reduceAdd,Nat.le_refl];obtain⟨H1,hH1⟩: ∃H1,H1=(H.new [.str [],.str []]).put H.next [.str bound[k].old,.str bound[k].new]:=⟨_,rfl⟩;rw [<-hH1];have hf1:HF [] H H1:=by
      rw [hH1];exact HF.put (.inr (Nat.le_refl _)) (HF.new (HF.refl _ _))
    have o8:H1.obj H.next=some [.str bound[k].old,.str bound[k].new]:=by
      rw [hH1];show(if H.next=H.next then some _ else _)=_;rw [if_pos rfl]
    clear hH1;have oq:H1.obj q=some [.ref id (i*5)]:=(hf1.2 q hq List.not_mem_nil).trans ho;have oid:H1.obj id=some C:=(hf1.2 id hid List.not_mem_nil).trans hC;have obx:H1.obj bx=some [.aA (bound.map Scope.cells) .unk]:=(hf1.2 bx hb List.not_mem_nil).trans hbx;have hV1:=hV.new hf1 (fun a ha=>by cases ha);have asG:bound.take (k+1)=bound.take k++[bound[k]]:=List.take_succ_eq_append_getElem hlt;have Xo:kV (bound.take (k+1)) n.text=if bound[k].old=n.text then bound[k].new else kV (bound.take k) n.text:=by rw [asG,Jp]
    refine aD ?_;unfold Kv;simp -implicitDefEqProofs only [go_sem];refine eO ?_;simp -implicitDefEqProofs only [go_sem,↓reduceIte,Nat.reduceEqDiff,s6,o8,oq,oid,c2,List.getElem?_cons_zero,List.getElem?_cons_succ];by_cases hm:bound[k].old=n.text
    · rw [if_pos hm]at Xo;rw [Xo]at q0;have hdec:(bound[k].old==n.text)=true:=by rw [beq_iff_eq];exact hm
      simp -implicitDefEqProofs only [go_sem,↓reduceIte,Nat.reduceEqDiff,s6,o8,oq,oid,c2,hdec,List.getElem?_cons_zero,List.getElem?_cons_succ];refine qg (f:=jh) (id:=id) (o:=i*5+2) (i:=i) (j:=2) (a:=(n,y)) (y:=({n with text:=bound[k].new},y)) (vs:=[.str bound[k].new]) (by simp -implicitDefEqProofs only [go_sem,↓reduceIte,Nat.reduceEqDiff]) rfl rfl hV1.own.row hx (by simp -implicitDefEqProofs only [go_sem,↓reduceIte,Nat.reduceEqDiff]) rfl rfl (by decide) (by cases y<;>rfl) (fun H' r' hf' ok'=> ?_);simp -implicitDefEqProofs only [go_sem,↓reduceIte,Nat.reduceEqDiff];refine q0 (.exit 0) H' (.inr rfl) (hV1.set hx rfl r' hf') ⟨Nat.le_trans hf1.1 hf'.1,fun a ha hm=>(hf'.2 a (Nat.lt_of_lt_of_le ha hf1.1) hm).trans (hf1.2 a ha List.not_mem_nil)⟩ ((hf'.2 q (Nat.lt_of_lt_of_le hq hf1.1) fun hm=>hqi (List.mem_singleton.1 hm)).trans oq)
    · rw [if_neg hm]at Xo;rw [Xo]at q0;have hdec:(bound[k].old==n.text)=false:=by rw [beq_eq_false_iff_ne];exact hm
      simp -implicitDefEqProofs only [go_sem,↓reduceIte,Nat.reduceEqDiff,s6,o8,oq,oid,c2,hdec,List.getElem?_cons_zero,List.getElem?_cons_succ];exact ih H1 (by omega) hV1 (Nat.lt_of_lt_of_le hq hf1.1) (Nat.lt_of_lt_of_le hb hf1.1) hbm oq obx fun e H' he g1 g2 g3=>q0 e H' he g1 ⟨Nat.le_trans hf1.1 g2.1,fun a ha hm=>(g2.2 a (Nat.lt_of_lt_of_le ha hf1.1) hm).trans (hf1.2 a ha List.not_mem_nil)⟩ g3
end
end Go.VL
end
section
set_option maxRecDepth 8000
namespace Go.VL
open Go.Proofs Go.RowKit
theorem alN (es:List (List PV)) (ck:Ck) (H:AH):bC Tryz.prog 181 [.aA es ck] H fun v H'=>v= .fn (.func 205) [] [.ref H.next 0]/\H'=H.new [.aA es ck]:=by
  refine aG ar7 (by simp) (aD ?_);unfold ajB;simp -implicitDefEqProofs only [go_sem,dJ,List.length_cons,List.length_nil,Nat.reduceAdd,Nat.le_refl,and_self]
theorem O5 {l:List (Nd×NV)} {i:Nat} {x:Nd×NV} (hx:l[i]? =some x):l.set i x=l:=by
  obtain⟨h,e⟩:=List.getElem?_eq_some_iff.1 hx;rw [<-e,List.set_getElem_self]
theorem aqx {l:List (Nd×NV)} {v:PV} {id o lo:Nat} {left:List Str} {cl:Ck} {c:Int} {i:Nat} {n:Nd} {y:NV} {H:AH} {σ:Nat->PV} {bound:List Scope} {ck:Ck} {q k:Nat} {nm:Bool} {Q:Post}
    (hV:jZ H l v id o lo left cl c) (hx:l[i]? =some (n,y)) (s2:σ 2= .aA (bound.map Scope.cells) ck) (s6:σ 6= .ref q 0) (hq:q<H.next) (Gm:q∉kH l id o) (ho:H.obj q=some [.ref id (i*5)]) (hnm:mW k n=some nm) (hb:bound.length<=1000000)
    (q0: ∀σ' H',(∀j,j∉([22,23,24,25,26,27]:List Nat)->σ' j=σ j)->jZ H' (l.set i ({n with text:=if nm=true then kV bound n.text else n.text},y)) v id o lo left cl c->HF [id] H H'->H'.obj q=some [.ref id (i*5)]->Q .normal σ' H'):W Tryz.prog Og Q σ H:=by
  obtain⟨id',C,e1,hid,hC,hcell,hle,hdrop,hI⟩:=aO.content hV.own.row hx;obtain rfl:id=id':=by simpa using e1
  have hy:iQ H (n,y):=by
    have:=hV.own.C8 i _ hx;rw [if_pos (List.getElem?_eq_some_iff.1 hx).1]at this;exact this
  have h5:=hle 5 (Nat.le_refl _);refine aD ?_;unfold Og;simp -implicitDefEqProofs only [go_sem,↓reduceIte,Nat.reduceEqDiff,s6,ho,hC,hdrop,h5,List.getElem?_cons_zero];refine FJ (Nj hnm) (.cons (aqu hy) .nil) (.cons (.agg _ (Nd.pu n)) .nil) (Sc.bool _) ?_;cases nm
  case false=>
    simp -implicitDefEqProofs only [go_sem,↓reduceIte,Nat.reduceEqDiff];refine q0 _ H ?_ ?_ (HF.refl _ _) ho
    · intro j hj;simp only [List.mem_cons,List.not_mem_nil,or_false,not_or]at hj;simp only [upd,hj.1,hj.2.1,hj.2.2.1,hj.2.2.2.1,↓reduceIte]
    · rw [show({n with text:=if false=true then kV bound n.text else n.text}:Nd)=n from rfl,O5 hx];exact hV
  case true=>
    simp -implicitDefEqProofs only [go_sem,↓reduceIte,Nat.reduceEqDiff,s2];refine bC.wk ((alN (bound.map Scope.cells) .unk H).mono ?_) (.aA .nil);rintro _ _ ⟨rfl,rfl⟩;have hnew:HF [] H (H.new [.aA (bound.map Scope.cells) .unk]):=HF.new (HF.refl _ _);have hV1:=hV.new hnew (fun a ha=>by cases ha);have aqy:(H.new [.aA (bound.map Scope.cells) .unk]).obj H.next=some [.aA (bound.map Scope.cells) .unk]:=by
      show(if H.next=H.next then some _ else _)=_
      rw [if_pos rfl]
    have hqx:q≠H.next:=by omega
    have hbm:H.next∉kH l id o:=fun hm=>Nat.lt_irrefl _ (hV.lts _ hm);simp -implicitDefEqProofs only [go_sem,↓reduceIte,Nat.reduceEqDiff];refine aiN (g:=205) (id:=H.next) (sz:=2) (agg:=true) (es:=bound.map Scope.cells) (c:= .unk) (by simp -implicitDefEqProofs only [go_sem,↓reduceIte,Nat.reduceEqDiff]) afY aip (by decide) aqy (by rw [List.length_map];omega) (FI (f:=Scope.cells) (fun _=>rfl) _) ?_;rw [List.length_map];refine aiq hx bound q H.next _ _ (by simp -implicitDefEqProofs only [go_sem,↓reduceIte,Nat.reduceEqDiff,s6]) Gm hqx bound.length _ (Nat.le_refl _) hV1 (Nat.lt_succ_of_lt hq) (Nat.lt_succ_self _) hbm ((hnew.2 q hq List.not_mem_nil).trans ho) aqy ?_;rw [List.take_length];intro e H' he g1 g2 g3;have hF:HF [id] H H':=⟨Nat.le_trans hnew.1 g2.1,fun a ha hm=>(g2.2 a (Nat.lt_of_lt_of_le ha hnew.1) hm).trans (hnew.2 a ha List.not_mem_nil)⟩
    have fin:=q0 (upd (upd (upd (upd (upd (upd σ (some 22) (PV.ref id (i*5))) (some 23) (PV.ref id (i*5))) (some 24) (PV.agg (jh (n,y)))) (some 25) (PV.bool true)) (some 26) (.aA (bound.map Scope.cells) ck)) (some 27) (.fn (.func 205) [] [.ref H.next 0])) H' (by
      intro j hj;simp only [List.mem_cons,List.not_mem_nil,or_false,not_or]at hj;simp only [upd,hj.1,hj.2.1,hj.2.2.1,hj.2.2.2.1,hj.2.2.2.2.1,hj.2.2.2.2.2,↓reduceIte]) g1 hF g3
    rcases he with rfl|rfl
    · exact fin
    · exact fin
end Go.VL
end
section
set_option maxRecDepth 8000
namespace Go.VL
open Go.Proofs Go.RowKit
theorem jZ.awW {H H':AH} {l:List (Nd×NV)} {v:PV} {id o lo:Nat} {left:List Str} {cl:Ck} {c:Int} (h:jZ H l v id o lo left cl c) {i:Nat} {n:Nd} {id' len cap:Nat} {ns:List Str} (hx:l[i]? =some (n,.m id' len cap)) (h0:ns≠[])
    (hr:aO H' aI 1 ns (.bS id' 0 len cap 1) [id']) (hf:HF [id'] H H'):jZ H' (l.set i ({n with names:=ns},.m id' len cap)) v id o lo left cl c:=by
  have hi:=(List.getElem?_eq_some_iff.1 hx).1;have hne:id≠id':=fun e=>h.own.ne i _ hx (by rw [e];exact List.mem_singleton.2 rfl);have hon:o≠id':=fun e=>h.nen i _ hx (by rw [e];exact List.mem_singleton.2 rfl);have hget: ∀(k:Nat) (x:Nd×NV),(l.set i (({n with names:=ns}:Nd),NV.m id' len cap))[k]? =some x->(k=i/\x=(({n with names:=ns}:Nd),NV.m id' len cap))\/(k≠i/\l[k]? =some x):=by
    intro k x e;rw [List.getElem?_set]at e;by_cases hk:i=k
    · subst hk;rw [if_pos rfl,if_pos hi]at e;cases e;exact .inl ⟨rfl,rfl⟩
    · rw [if_neg hk]at e;exact .inr ⟨fun e=>hk e.symm,e⟩
  have Z6: ∀(k:Nat) (x:Nd×NV),(l.set i (({n with names:=ns}:Nd),NV.m id' len cap))[k]? =some x-> ∃x0,l[k]? =some x0/\x.2=x0.2:=by
    intro k x e;rcases hget k x e with⟨rfl,rfl⟩|⟨_,e⟩
    · exact⟨_,hx,rfl⟩
    · exact⟨x,e,rfl⟩
  have hrow:aO H' jh 5 (l.set i (({n with names:=ns}:Nd),NV.m id' len cap)) v [id]:=by
    have:=h.own.row.hf hf (fun a ha hm=>hne ((List.mem_singleton.1 ha).symm.trans (List.mem_singleton.1 hm)));have em:(l.set i (({n with names:=ns}:Nd),NV.m id' len cap)).map jh=l.map jh:=by
      rw [List.map_set];have:jh (({n with names:=ns}:Nd),NV.m id' len cap)=(l.map jh)[i]'(by simpa using hi):=by
        rw [List.getElem_map,(List.getElem?_eq_some_iff.1 hx).2];rfl
      rw [this,List.set_getElem_self]
    unfold aO at this⊢;rw [em,List.length_set];rcases this with⟨h1,h2,h3⟩|h
    · subst h2;simp at hi
    · exact .inr h
  refine⟨⟨hrow,fun k x e=> ?_,fun k k' x x' e e' hne=> ?_,fun k x e=> ?_,fun k x e=> ?_,h.own.TI⟩,(hf.2 o h.lt fun hm=>hon (List.mem_singleton.1 hm)).trans h.obj,Nat.lt_of_lt_of_le h.lt hf.1,h.ne,fun k x e=> ?_⟩
  · rw [if_pos (List.getElem?_eq_some_iff.1 e).1];rcases hget k x e with⟨rfl,rfl⟩|⟨hk,e⟩
    · exact⟨h0,hr⟩
    · have Jo:=h.own.C8 k x e;rw [if_pos (List.getElem?_eq_some_iff.1 e).1]at Jo;exact Jo.hf hf fun a ha hm=>h.own.dj k i x _ e hx hk a ha hm
  · obtain⟨x0,e0,q1⟩:=Z6 k x e;obtain⟨x0',e0',q1'⟩:=Z6 k' x' e';rw [q1,q1'];exact h.own.dj k k' x0 x0' e0 e0' hne
  · obtain⟨x0,e0,q1⟩:=Z6 k x e;rw [q1];exact h.own.ne k x0 e0
  · obtain⟨x0,e0,q1⟩:=Z6 k x e;rw [q1];exact h.own.lob k x0 e0
  · obtain⟨x0,e0,q1⟩:=Z6 k x e;rw [q1];exact h.nen k x0 e0
theorem jZ.cnt {H:AH} {l:List (Nd×NV)} {v:PV} {id o lo:Nat} {left:List Str} {cl:Ck} {c c':Int} (h:jZ H l v id o lo left cl c):jZ (H.put o [v,.aA (left.map aI) cl,.int .i64 c']) l v id o lo left cl c'/\HF [o] H (H.put o [v,.aA (left.map aI) cl,.int .i64 c']):=by
  have hf:HF [o] H (H.put o [v,.aA (left.map aI) cl,.int .i64 c']):=HF.put (.inl (List.mem_singleton.2 rfl)) (HF.refl _ _);refine⟨⟨⟨h.own.row.hf hf (fun a ha hm=>h.ne ((List.mem_singleton.1 hm).symm.trans (List.mem_singleton.1 ha))),fun i x hx=> ?_,h.own.dj,h.own.ne,h.own.lob,h.own.TI⟩,?_,h.lt,h.ne,h.nen⟩,hf⟩
  · have:=h.own.C8 i x hx;have hi:=(List.getElem?_eq_some_iff.1 hx).1;rw [if_pos hi]at this⊢;exact this.hf hf fun a ha hm=>h.nen i x hx (List.mem_singleton.1 hm▸ha)
  · show(if o=o then _ else _)=_
    rw [if_pos rfl]
def Fb (left:List Str) (F:Nat):Nat->Int->Option (List Str×Int)
  |0,c=>some ([],c)
  |m+1,c=>Option.bind (zP left F c) fun p=>Option.bind (Fb left F m p.2) fun r=>some (p.1::r.1,r.2)
end Go.VL
end
