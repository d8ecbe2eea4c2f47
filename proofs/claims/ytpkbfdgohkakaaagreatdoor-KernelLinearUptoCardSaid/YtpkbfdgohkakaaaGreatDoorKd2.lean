/- Part 2. -/
import Derived.Test.YtpkbfdgohkakaaaGreatDoorKd1
import Derived.Below
import Derived.ChangeArms
import Derived.RowKit
set_option linter.unusedVariables false
set_option linter.unusedSectionVars false
set_option linter.unusedSimpArgs false
section
namespace Go.VL
variable [Glob]
def bQ (listed:Array Bool) (i:Nat):Prop:=listed.getD i false=true
section
variable {P:Program} {rm:Bool} {B:Nat->Prop} {k0 N mm:Nat} {ro:Option Nat} {ops:Array Oper}
theorem yR {listed:Array Bool} (hs:listed.size=ops.size) {j:Nat}:j∈Region.ready .any ops listed↔ ¬bQ listed j/\ ∃o,ops[j]? =some o/\ ∀e∈pY o,bQ listed e:=by
 rw [mem_ready];have hd: ∀o:Oper,(∀e∈o.after,Region.binds .any e=true->listed.getD e.on false=true)↔ ∀e∈pY o,bQ listed e:=by
  intro o;constructor
  · intro h e he;simp only [pY,G3,i6]at he;obtain⟨x,⟨hx,hb⟩,rfl⟩:=he;exact h x (by simpa using hx) hb
  · intro h e he hb;exact h e.on (by simp only [pY,G3,i6];exact⟨e,⟨by simpa using he,hb⟩,rfl⟩)
 constructor
 · rintro⟨h0,o,ho,hall⟩;have hlt:j<listed.size:=by rw [hs];exact(Z2.1 ho).1
   refine⟨?_,o,ho,(hd o).1 hall⟩;simp [bQ,A3 hlt]at h0⊢;exact h0
 · rintro⟨h0,o,ho,hall⟩;have hlt:j<listed.size:=by rw [hs];exact(Z2.1 ho).1
   refine⟨?_,o,ho,(hd o).2 hall⟩;simp [bQ,A3 hlt]at h0⊢;exact h0
theorem tF {listed:Array Bool} {i j:Nat} (hi:i<listed.size):bQ (listed.setIfInBounds i true) j↔j=i\/bQ listed j:=by
 by_cases h:j=i
 · subst h;simp [bQ,hi]
 · have:(listed.setIfInBounds i true).getD j false=listed.getD j false:=getD_set_ne false (B3 h);simp only [bQ,this,h,false_or]
theorem sD: ∀{l:List Oper} {az:List aD},oD P rm N ops l=some az->az.length=l.length/\ ∀(i:Nat) (o:Oper),l[i]? =some o-> ∃ao,az[i]? =some ao/\vL P rm N ops o=some ao
 |[],az,h=>by simp [oD]at h;subst h;simp
 |o::l,az,h=>by
  unfold oD at h;split at h
  · rename_i ao r ho hr;cases h;obtain⟨h1,h2⟩:=sD hr;refine⟨by simp [h1],fun i o' e=> ?_⟩;cases i with
    |zero=>simp at e;subst e;exact⟨ao,rfl,ho⟩
    |succ i=>simp at e;simpa using h2 i o' e
  · cases h
theorem tH {o:Oper} {ao:aD} (h:vL P rm N ops o=some ao):Mf N o.dst=true/\ao.dst=o.dst/\ao.k=JH P rm o/\
 ((o.guard=none/\ao.g=none)\/ ∃j want s,o.guard=some (j,want)/\(ops[j]?).bind (·.dst)=some s/\ao.g=some (s,want)):=by
 unfold vL at h;split at h
 · rename_i hd;split at h
   · rename_i hg;cases h;exact⟨hd,rfl,rfl,.inl ⟨hg,rfl⟩⟩
   · rename_i j want hg;split at h
     · rename_i s hs;cases h;exact⟨hd,rfl,rfl,.inr ⟨j,want,s,hg,hs,rfl⟩⟩
     · cases h
 · cases h
theorem Mg {o:Oper} {ao:aD} {σ:Nat->PV} {a:Act} {G:Gh} {n:Nat} (h:vL P rm N ops o=some ao) (hs:Sl G n σ a) (hg:pX ao σ):Region.wanted o (yielded ops a.tmps)=true:=by
 obtain⟨_,_,_,h4⟩:=tH h;rcases h4 with⟨h4,_⟩|⟨j,want,s,h4,h5,h6⟩
 · exact Ky h4
 · simp only [pX,h6]at hg;rw [E8 h4 h5 hs hg];simp
theorem QC {o:Oper} {ao:aD} {σ:Nat->PV} {a:Act} {G:Gh} {n:Nat} (h:vL P rm N ops o=some ao) (hs:Sl G n σ a) (hg:sU ao σ):Region.wanted o (yielded ops a.tmps)=false:=by
 obtain⟨_,_,_,h4⟩:=tH h;rcases h4 with⟨_,h4⟩|⟨j,want,s,h4,h5,h6⟩
 · simp [sU,h4]at hg
 · simp only [sU,h6]at hg;rcases hg with hg|hg
   · rw [E8 h4 h5 hs hg];cases want<;>rfl
   · exact Oe h4 h5 hs hg
variable {w0:World} {G0:Gh} {n0:Nat} {K:(Nat->PV)->AH->Prop} {Q:Exit->Act->World->Prop}
theorem agq {listed:Array Bool} {i:Nat} (hi:i<listed.size) (h: ¬bQ listed i):(listed.setIfInBounds i true).toList.countP (fun b=> !b)+1=listed.toList.countP (fun b=> !b):=by
 have hf:listed[i]=false:=by simpa [bQ,A3 hi]using h
 have e:(listed.setIfInBounds i true).toList=listed.toList.set i true:=by simp
 rw [e,List.countP_set (by simpa using hi)];have hpos:0<listed.toList.countP (fun b=> !b):=List.countP_pos_iff.2 ⟨listed[i],by simp,by simp [hf]⟩;have e2:listed.toList[i]'(by simpa using hi)=false:=by simp [hf]
 rw [e2];simp only [C6,A0,y6,I2,L2];omega
theorem agr {az:List aD} {n:Nat} (hQ: ∀σ H G a w,K σ H->Rl B k0 N σ H G a w->Since B w0 G0 n0 H G w->Q .normal a w) (hc:oD P rm N ops ops.toList=some az)
 (JK: ∀(j:Nat) (o:Oper),ops[j]? =some o-> ∀e∈pY o,e<j) (hpost: ∀(i j:Nat),i<j->j<ops.size->n<=j->dS (masks ops.toList []) i j=true):
 ∀(fuel:Nat) (listed:Array Bool) (m:Nat) (σ:Nat->PV) (H:AH) (G:Gh) (a:Act) (w:World),n<=m->m<=ops.size->listed.size=ops.size->(∀i,i<ops.size->(bQ listed i↔i<m))->ops.size -m<=fuel->
   eZ P (az.drop m) K σ H->Rl B k0 N σ H G a w->Since B w0 G0 n0 H G w->wpAnyIn (Wd ro) mm P .any ops Q fuel listed a w:=by
 obtain⟨hlen,hget⟩:=sD hc;intro fuel
 induction fuel with
 |zero=>
  intro listed m σ H G a w hnm hm hs hE hf hW hR hS;have hmN:m=ops.size:=by omega
  subst hmN;have hd:az.drop ops.size=[]:=v7 (by rw [hlen];simp);rw [hd]at hW;refine⟨?_,hQ σ H G a w hW hR hS⟩;rw [List.eq_nil_iff_forall_not_mem];intro j hj;obtain⟨h1,o,ho,_⟩:=(yR hs).1 hj;have hlt:=(Z2.1 ho).1;exact h1 ((hE j hlt).2 hlt)
 |succ fuel ih=>
  intro listed m σ H G a w hnm hm hs hE hf hW hR hS;refine⟨fun hr=> ?_,fun j hj=> ?_⟩
  · rcases D1 m ops.size with hlt|hge
    · have:m∈Region.ready .any ops listed:=(yR hs).2 ⟨fun h=>by have:=(hE m hlt).1 h;omega,ops[m],by simp,fun e he=>by
       have:=JK m ops[m] (by simp) e he;exact(hE e (by omega)).2 this⟩
      rw [hr]at this;cases this
    · have hmN:m=ops.size:=by omega
      subst hmN;have hd:az.drop ops.size=[]:=v7 (by rw [hlen];simp);rw [hd]at hW;exact hQ σ H G a w hW hR hS
  · obtain⟨h1,o,ho,h3⟩:=(yR hs).1 hj;have hlt:=(Z2.1 ho).1;have hmj:m<=j:=by
     rcases D1 j m with h|h
     · exact absurd ((hE j hlt).2 h) h1
     · exact h
    have hjm:j=m:=by
     rcases D1 m j with h|h
     ·
       have hb:=hpost m j h hlt (by omega)
       let E:Nat->Prop:=fun i=>bQ listed i\/i=j
       have hcl:Closed ops.toList E:=by
        intro j' o' e hE' x hx;have e':ops[j']? =some o':=by simpa using e
        have hlt':=(Z2.1 e').1;rcases hE' with hE'|rfl
        · have:=JK j' o' e' x hx;exact .inl ((hE x (by omega)).2 (by have:=(hE j' hlt').1 hE';omega))
        · rw [ho]at e';cases e';exact .inl (h3 x hx)
       have:=uT hcl hb (.inr rfl);rcases this with h'|h'
       · have:=(hE m (by omega)).1 h';omega
       · omega
     · omega
    subst hjm;obtain⟨ao,hao,hcomp⟩:=hget j o (by simpa using ho);obtain⟨c1,c2,c3,c4⟩:=tH hcomp;have hdrop:az.drop j=ao::az.drop (j+1):=by
     have hjl:j<az.length:=by rw [hlen];simpa using hlt
     rw [N1 hjl];congr 1;rw [W2 hjl]at hao;exact V2 hao
    rw [hdrop]at hW;have hE': ∀i,i<ops.size->(bQ (listed.setIfInBounds j true) i↔i<j+1):=fun i hi=>by
     rw [tF (by omega),hE i hi];omega
    have next: ∀σ' H' G' a' w',eZ P (az.drop (j+1)) K σ' H'->Rl B k0 N σ' H' G' a' w'->Since B w0 G0 n0 H' G' w'->wpAnyIn (Wd ro) mm P .any ops Q fuel (listed.setIfInBounds j true) a' w':=
     fun σ' H' G' a' w' h1 h2 h3=>ih _ (j+1) σ' H' G' a' w' (by omega) (by omega) (by simpa using hs) hE' (by omega) h1 h2 h3
    unfold wpOpIn;rw [ho];simp only [eZ]at hW;rcases c4 with⟨g1,g2⟩|⟨j',want,s,g1,g2,g3⟩
    · rw [g2]at hW;simp only at hW;simp only [Ky g1,A0];rw [c3]at hW;exact(yQ hW hR fun p H' G' x w' hK h1 h2 h3 h4 h5=>next _ _ _ _ _ hK (by rw [c2];exact hR.step h1 h2 h3 h4 c1 h5) (hS.step h1 h2 h3))
    · rw [g3]at hW;simp only at hW;split at hW
      · rename_i b hb;simp only [E8 g1 g2 hR.sl hb];by_cases hbw:b=want
        · rw [if_pos hbw]at hW;rw [if_pos (by simp [hbw])];rw [c3]at hW;exact(yQ hW hR fun p H' G' x w' hK h1 h2 h3 h4 h5=>next _ _ _ _ _ hK (by rw [c2];exact hR.step h1 h2 h3 h4 c1 h5) (hS.step h1 h2 h3))
        · rw [if_neg hbw]at hW;rw [if_neg (by simpa using hbw)];rw [c2]at hW;refine⟨fun _ _=>trivial,?_⟩;exact next _ _ _ _ _ hW (hR.step (Tr.refl B w) (Ext.refl B _ G) (R0 _) hR.hm c1 V.ud) hS
      · rename_i hb;simp only [Oe g1 g2 hR.sl hb];rw [if_neg (by simp)];rw [c2]at hW;refine⟨fun _ _=>trivial,?_⟩;exact next _ _ _ _ _ hW (hR.step (Tr.refl B w) (Ext.refl B _ G) (R0 _) hR.hm c1 V.ud) hS
      · cases hW
theorem asZ {pr:List (aD×Bool)} {post:List aD} {C:AH->Prop} {aH:Nat->PV} {val:Nat->PV} {hp:Nat->AH}
 (hQ: ∀σ H G a w,K σ H->Rl B k0 N σ H G a w->Since B w0 G0 n0 H G w->Q .normal a w) (hc:oD P rm N ops ops.toList=some (pr.map (·.1)++post)) (hok:apu ops.toList pr)
 (hW:eZ P post K (bV pr val aH pr.length) (hp pr.length)) (hC: ∀i,i<=pr.length->C (hp i))
 (htr: ∀(i:Nat) (o:aD) (d:Bool),pr[i]? =some (o,d)->
  (sU o (bV pr val aH i)/\val i=ud/\hp (i+1)=hp i)\/
  (pX o (bV pr val aH i)/\d=true/\dQ P o.k (fun r fu=>r=val i/\fu=hp (i+1)) (bV pr val aH i) (hp i))\/
  (pX o (bV pr val aH i)/\d=false/\hp (i+1)=hp i/\ ∀H',C H'->dQ P o.k (fun r fu=>r=val i/\fu=H') (bV pr val aH i) H')):
 ∀(fuel:Nat) (listed:Array Bool) (k:Nat) (G:Gh) (a:Act) (w:World),k<=pr.length->listed.size=ops.size->listed.toList.countP (fun b=> !b)<=fuel->(∀i,bQ listed i->i<pr.length)->Closed ops.toList (bQ listed)->
   (∀(i:Nat) (o:aD),pr[i]? =some (o,true)->(bQ listed i↔i<k))->Rl B k0 N (nE pr val (bQ listed) aH) (hp k) G a w->Since B w0 G0 n0 (hp k) G w->wpAnyIn (Wd ro) mm P .any ops Q fuel listed a w:=by
 obtain⟨hlen,hget⟩:=sD hc;have hlenS:pr.length+post.length=ops.size:=by simpa using hlen
 have JK: ∀(j:Nat) (o:Oper),ops[j]? =some o-> ∀e∈pY o,e<j:=fun j o e=>hok.deps j o (by simpa using e);have hpost: ∀(i j:Nat),i<j->j<ops.size->pr.length<=j->dS (masks ops.toList []) i j=true:=fun i j h1 h2 h3=>hok.post i j h1 (by simpa using h2) h3;have akc: ∀(k j:Nat),k<=j->j<=pr.length->(∀(i:Nat) (o:aD),pr[i]? =some (o,true)->k<=i->i<j->False)->hp j=hp k:=by
  intro k j hkj
  induction j with
  |zero=>
   intro _ _;have:k=0:=by omega
   subst this;rfl
  |succ j ih=>
   intro hj hno;rcases D1 j k with h|h
   · have:k=j+1:=by omega
     subst this;rfl
   · have e1:=ih h (by omega) (fun i o e h1 h2=>hno i o e h1 (by omega));obtain⟨o,d⟩:=pr[j]'(by omega)|>fun x=>(x:aD×Bool)
     have hx:pr[j]? =some (pr[j]'(by omega)):=by simp
     rcases htr j (pr[j]'(by omega)).1 (pr[j]'(by omega)).2 hx with⟨_,_,h3⟩|⟨_,h3,_⟩|⟨_,_,h3,_⟩
     · rw [h3,e1]
     · exact(hno j (pr[j]'(by omega)).1 (by rw [hx,<-h3]) h (by omega)).elim
     · rw [h3,e1]
 have finish: ∀(fuel:Nat) (listed:Array Bool) (k:Nat) (G:Gh) (a:Act) (w:World),k<=pr.length->listed.size=ops.size->ops.size -pr.length<=fuel->(∀i,bQ listed i->i<pr.length)->(∀i,i<pr.length->bQ listed i)->
  (∀(i:Nat) (o:aD),pr[i]? =some (o,true)->(bQ listed i↔i<k))->Rl B k0 N (nE pr val (bQ listed) aH) (hp k) G a w->Since B w0 G0 n0 (hp k) G w->wpAnyIn (Wd ro) mm P .any ops Q fuel listed a w:=by
  intro fuel listed k G a w hk hs hf h1 h2 hD hR hS;have hE:nE pr val (bQ listed) aH=bV pr val aH pr.length:=funext fun t=>yc pr val _ aH _ t fun i o e _=>by
   have hi:i<pr.length:=by
    rcases D1 i pr.length with h'|h'
    · exact h'
    · rw [R1 h']at e;cases e
   exact⟨fun _=>hi,fun _=>h2 i hi⟩
  have hH:hp pr.length=hp k:=akc k pr.length hk (R0 _) fun i o e hki hi=>by
   have:=(hD i o e).1 (h2 i hi);omega
  rw [hE,<-hH]at hR;rw [<-hH]at hS
  have hd:(pr.map (·.1)++post).drop pr.length=post:=by
   have:pr.length=(pr.map (·.1)).length:=by simp
   rw [this,PA]
  exact agr hQ hc JK hpost fuel listed pr.length _ _ _ _ _ (R0 _) (by omega) hs (fun i hi=>⟨fun h=>h1 i h,fun h=>h2 i h⟩) hf (by rw [hd];exact hW) hR hS
 intro fuel
 induction fuel with
 |zero=>
  intro listed k G a w hk hs hcnt h1 hcl hD hR hS;have hall: ∀i,i<ops.size->bQ listed i:=by
   intro i hi;have h0:listed.toList.countP (fun b=> !b)=0:=by omega
   rw [List.countP_eq_zero]at h0;have:=h0 (listed[i]'(by omega)) (by simp);simpa [bQ,A3 (show i<listed.size by omega)]using this
  have hsz:ops.size<=pr.length:=by
   rcases D1 pr.length ops.size with h|h
   · have:=h1 pr.length (hall _ h);omega
   · exact h
  exact finish 0 listed k G a w hk hs (by omega) h1 (fun i hi=>hall i (by omega)) hD hR hS
 |succ fuel ih=>
  intro listed k G a w hk hs hcnt h1 hcl hD hR hS;by_cases hdone: ∀i,i<pr.length->bQ listed i
  · refine finish (fuel+1) listed k G a w hk hs ?_ h1 hdone hD hR hS;have hcount:post.length<=listed.toList.countP (fun b=> !b):=by
     have hsplit:listed.toList=listed.toList.take pr.length++listed.toList.drop pr.length:=(w6 _ _).symm;rw [hsplit,eA];have:(listed.toList.drop pr.length).countP (fun b=> !b)=(listed.toList.drop pr.length).length:=by
      rw [List.countP_eq_length];intro b hb;obtain⟨i,hi⟩:=a8 hb;rw [Q3]at hi;have hnl: ¬bQ listed (pr.length+i):=fun h=>by have:=h1 _ h;omega
      rw [W4]at hi;simp [bQ,hi]at hnl;simp [hnl]
     rw [this];simp;omega
    omega
  · obtain⟨i0,hi0,abH⟩: ∃i,i<pr.length/\ ¬bQ listed i:=by
     apply i7
     intro hno;exact hdone fun i hi=>i7 fun h=>hno ⟨i,hi,h⟩
    refine⟨fun hr=> ?_,fun j hj=> ?_⟩
    ·
      have abI: ∃i,i<pr.length/\ ¬bQ listed i/\ ∀i',i'<i->bQ listed i':=by
       have: ∀n,(∀i',i'<n->bQ listed i')\/ ∃i,i<n/\ ¬bQ listed i/\ ∀i',i'<i->bQ listed i':=by
        intro n
        induction n with
        |zero=>exact .inl (fun i' h=>by omega)
        |succ n ihn=>
         rcases ihn with h|⟨i,h⟩
         · by_cases hn:bQ listed n
           · exact .inl fun i' hi'=>by
                 rcases D1 i' n with h'|h'
                 · exact h i' h'
                 · have:i'=n:=by omega
                   exact this▸hn
           · exact .inr ⟨n,by omega,hn,h⟩
         · exact .inr ⟨i,by omega,h.2⟩
       rcases this pr.length with h|⟨i,h⟩
       · exact absurd h hdone
       · exact⟨i,h⟩
      obtain⟨i,hi,hni,hlt⟩:=abI;have hio:i<ops.size:=by omega
      have:i∈Region.ready .any ops listed:=(yR hs).2 ⟨hni,ops[i],by simp,fun e he=>hlt e (JK i _ (by simp) e he)⟩;rw [hr]at this;cases this
    · obtain⟨Nb,o,ho,hdj⟩:=(yR hs).1 hj;have hjo:=(Z2.1 ho).1
      let E:Nat->Prop:=fun i=>bQ listed i\/i=j
      have abJ:Closed ops.toList E:=by
       intro j' o' e hE' x hx;rcases hE' with hE'|rfl
       · exact .inl (hcl j' o' e hE' x hx)
       · have e':ops[j']? =some o':=by simpa using e
         rw [ho]at e';cases e';exact .inl (hdj x hx)
      have hbef: ∀i,i≠j->dS (masks ops.toList []) i j=true->bQ listed i:=fun i hij hb=>by
       rcases uT abJ hb (.inr rfl)with h|h
       · exact h
       · exact absurd h hij
      have aaT: ∀i,dS (masks ops.toList []) j i=true-> ¬bQ listed i:=fun i hb h=>Nb (uT hcl hb h);have hjn:j<pr.length:=by
       rcases D1 j pr.length with h|h
       · exact h
       · exact absurd (hbef i0 (by omega) (hpost i0 j (by omega) hjo h)) abH
      obtain⟨⟨ao,d⟩,qb⟩: ∃x,pr[j]? =some x:=⟨_,W2 hjn⟩;obtain⟨rO,hao,hcomp⟩:=hget j o (by simpa using ho);have:rO=ao:=by
       rw [C0 (by simpa using hjn),J0,qb]at hao;exact(V2 hao).symm
      subst this;obtain⟨c1,c2,c3,c4⟩:=tH hcomp;have hlt: ∀(i:Nat) (x:aD×Bool),pr[i]? =some x->i<pr.length:=fun i x e=>by
       rcases D1 i pr.length with h'|h'
       · exact h'
       · rw [R1 h']at e;cases e
      have hcut: ∀t,(t∈rO.slots\/rO.dst=some t)-> ∀(i:Nat) (x:aD×Bool),pr[i]? =some x->x.1.dst=some t->(bQ listed i↔i<j):=by
       intro t ht i x e hx;rcases Nat.lt_trichotomy i j with h|h|h
       · refine⟨fun _=>h,fun _=>hbef i (by omega) (hok.clash i j x (rO,d) h e qb ?_)⟩;unfold clash;rcases ht with ht|ht
         · simp [Qi,hx,ht]
         · simp [Vd,hx,ht]
       · subst h;exact⟨fun h=>absurd h Nb,fun h=>by omega⟩
       · refine⟨fun h'=>absurd h' (aaT i (hok.clash j i (rO,d) x h qb e ?_)),fun h'=>by omega⟩;unfold clash;rcases ht with ht|ht
         · simp [Qi,hx,ht]
         · simp [Vd,hx,ht]
      have yS: ∀t∈rO.slots,bV pr val aH j t=nE pr val (bQ listed) aH t:=fun t ht=>(yc pr val _ aH j t (hcut t (.inl ht))).symm;have hnext:nE pr val (bQ (listed.setIfInBounds j true)) aH=upd (nE pr val (bQ listed) aH) rO.dst (val j):=by
       funext t
       by_cases hd:rO.dst=some t
       · rw [hd,Va];rw [yc pr val _ aH (j+1) t (fun i x e hx=>by
          rw [tF (by omega),hcut t (.inr hd) i x e hx];omega),Rt pr val aH j (rO,d) qb,hd,Va]
       · rw [upd_ne hd];refine Oi pr val _ _ aH aH t rfl fun i x e hx=> ?_;rw [tF (by omega)];constructor
         · rintro(rfl|h)
           · rw [qb]at e;cases e;exact absurd hx hd
           · exact h
         · exact .inr
      have hcl':Closed ops.toList (bQ (listed.setIfInBounds j true)):=fun j' o' e h x hx=>by
       rw [tF (by omega)]at h⊢;rcases abJ j' o' e (h.symm.imp id id) x hx with h'|h'
       · exact .inr h'
       · exact .inl h'
      have JL:(listed.setIfInBounds j true).toList.countP (fun b=> !b)<=fuel:=by
       have:=agq (listed:=listed) (i:=j) (by omega) Nb;omega
      have h1': ∀i,bQ (listed.setIfInBounds j true) i->i<pr.length:=fun i h=>by
       rw [tF (by omega)]at h;rcases h with rfl|h
       · exact hjn
       · exact h1 i h
      have ags:d=true->hp j=hp k/\k<=j/\ ∀(i:Nat) (o:aD),pr[i]? =some (o,true)->(bQ (listed.setIfInBounds j true) i↔i<j+1):=by
       intro hd;subst hd;have hkj:k<=j:=by
        rcases D1 j k with h|h
        · exact absurd ((hD j rO qb).2 h) Nb
        · exact h
       refine⟨akc k j hkj (by omega) fun i o' e h2 h3=> ?_,hkj,fun i o' e=> ?_⟩
       · have:=hbef i (by omega) (hok.d i j o' rO h3 e qb);have:=(hD i o' e).1 this;omega
       · rw [tF (by omega)];rcases Nat.lt_trichotomy i j with h|h|h
         · exact⟨fun _=>by omega,fun _=> .inr (hbef i (by omega) (hok.d i j o' rO h e qb))⟩
         · subst h;exact⟨fun _=>by omega,fun _=> .inl rfl⟩
         · refine⟨fun h'=> ?_,fun h'=>by omega⟩;rcases h' with h'|h'
           · omega
           · exact absurd h' (aaT i (hok.d j i rO o' h qb e))
      have akd:d=false-> ∀(i:Nat) (o:aD),pr[i]? =some (o,true)->(bQ (listed.setIfInBounds j true) i↔i<k):=by
       intro hd i o' e;rw [tF (by omega)];constructor
       · rintro(rfl|h)
         · rw [qb]at e;cases e;cases hd
         · exact(hD i o' e).1 h
       · intro h;exact .inr ((hD i o' e).2 h)
      unfold wpOpIn;rw [ho];simp only;have hgs: ∀s want,rO.g=some (s,want)->s∈rO.slots:=fun s want h=>by simp [aD.slots,h]
      have hks: ∀t∈rO.k.slots,bV pr val aH j t=nE pr val (bQ listed) aH t:=fun t ht=>yS t (by simp [aD.slots,ht]);have ahD:pX rO (bV pr val aH j)->pX rO (nE pr val (bQ listed) aH):=by
       intro h;unfold pX at h⊢;split
       · trivial
       · rename_i s want hg;rw [hg]at h;rw [<-yS s (hgs s want hg)];exact h
      have ahE:sU rO (bV pr val aH j)->sU rO (nE pr val (bQ listed) aH):=by
       intro h;unfold sU at h⊢;split
       · rename_i hg;rw [hg]at h;exact h
       · rename_i s want hg;rw [hg]at h;rw [<-yS s (hgs s want hg)];exact h
      rcases htr j rO d qb with⟨hg,hv,hh⟩|⟨hg,hd,hWj⟩|⟨hg,hd,hh,hWj⟩
      ·
        rw [if_neg (by rw [QC hcomp hR.sl (ahE hg)];simp)];have hstep:=hR.step (Tr.refl B w) (Ext.refl B _ G) (R0 _) hR.hm c1 V.ud;rw [<-hv,<-c2,<-hnext]at hstep;rw [<-c2];cases hdd:d with
        |true=>
         obtain⟨e1,e2,e3⟩:=ags hdd;have e4:hp (j+1)=hp k:=hh.trans e1;rw [<-e4]at hstep;refine⟨fun _ _=>trivial,?_⟩;refine ih _ (j+1) G _ w (by omega) (by simpa using hs) JL h1' hcl' e3 hstep ?_;rw [e4];exact hS
        |false=>exact⟨fun _ _=>trivial,ih _ k G _ w hk (by simpa using hs) JL h1' hcl' (akd hdd) hstep hS⟩
      ·
        rw [if_pos (Mg hcomp hR.sl (ahD hg))];obtain⟨e1,e2,e3⟩:=ags hd;rw [e1]at hWj;have Oj:=Oh hks hWj;rw [c3]at Oj;refine(yQ Oj hR fun p H' G' x w' hK g1 g2 g3 g4 g5=> ?_);obtain⟨rfl,rfl⟩:=hK;have hstep:=hR.step g1 g2 g3 g4 c1 g5;rw [<-c2,<-hnext]at hstep;rw [<-c2];exact ih _ (j+1) G' _ w' (by omega) (by simpa using hs) JL h1' hcl' e3 hstep (hS.step g1 g2 g3)
      ·
        rw [if_pos (Mg hcomp hR.sl (ahD hg))];have Oj:=Oh hks (hWj (hp k) (hC k hk));rw [c3]at Oj;refine(yQ Oj hR fun p H' G' x w' hK g1 g2 g3 g4 g5=> ?_);obtain⟨rfl,rfl⟩:=hK;have hstep:=hR.step g1 g2 g3 g4 c1 g5;rw [<-c2,<-hnext]at hstep;rw [<-c2];exact ih _ k G' _ w' hk (by simpa using hs) JL h1' hcl' (akd hd) hstep (hS.step g1 g2 g3)
end
end Go.VL
end
section
namespace Go.VL
variable [Glob]
def ake (ops:List Oper) (pr:List (aD×Bool)):Bool:=
 let ms:=masks ops []
 (List.range ops.length).all (fun j=>
  (match ops[j]? with|some o=>(pY o).all (fun e=>decide (e<j))|none=>true)&&
  (List.range j).all fun i=>
   match pr[i]?,pr[j]? with
   |some (x,d),some (y,d')=> !(clash x y)||dS ms i j
   |_,none=>dS ms i j
   |none,_=>true)
structure Ve (ops:List Oper) (pr:List (aD×Bool)):Prop where
 deps: ∀(j:Nat) (o:Oper),ops[j]? =some o-> ∀e∈pY o,e<j
 clash: ∀(i j:Nat) (x y:aD×Bool),i<j->pr[i]? =some x->pr[j]? =some y->clash x.1 y.1=true->dS (masks ops []) i j=true
 post: ∀(i j:Nat),i<j->j<ops.length->pr.length<=j->dS (masks ops []) i j=true
theorem afk {ops:List Oper} {pr:List (aD×Bool)} (hl:pr.length<=ops.length) (h:ake ops pr=true):Ve ops pr:=by
 have hj: ∀j,j<ops.length->(match ops[j]? with|some o=>(pY o).all (fun e=>decide (e<j))|none=>true)=true/\ ∀i,i<j->(match pr[i]?,pr[j]? with
  |some (x,d),some (y,d')=> !(VL.clash x y)||dS (masks ops []) i j
  |_,none=>dS (masks ops []) i j
  |none,_=>true)=true:=by
  intro j hj;have:=S3.1 h j (B5.2 hj);simp only [z1]at this;exact⟨this.1,fun i hi=>S3.1 this.2 i (B5.2 hi)⟩
 have hlt: ∀{α:Type} (l:List α) (j:Nat) (x:α),l[j]? =some x->j<l.length:=fun l j x e=>by
  rcases D1 j l.length with h'|h'
  · exact h'
  · rw [R1 h']at e;cases e
 refine⟨fun j o e x hx=> ?_,fun i j x y hij ex ey hc=> ?_,fun i j hij hjo hjp=> ?_⟩
 · have:=(hj j (hlt _ _ _ e)).1;rw [e]at this;simpa using S3.1 this x hx
 · obtain⟨x,d⟩:=x;obtain⟨y,d'⟩:=y;have:=(hj j (K0 (hlt _ _ _ ey) hl)).2 i hij;rw [ex,ey]at this;simp only [C5,z7]at this;simp only at hc;rcases this with h'|h'
   · rw [hc]at h';cases h'
   · exact h'
 · have:=(hj j hjo).2 i hij;rw [R1 hjp]at this;cases hpi:pr[i]? <;>simpa [hpi]using this
theorem afl {sz b:Nat} {H:AH} {x y:PV} {K K':PV->AH->Prop} (hk: ∀p H',K p H'->K' p H') (h:vJ sz b H x y K):vJ sz b H x y K':=by
 unfold vJ at h⊢;generalize rowOf sz H x=r1 at*;generalize rowOf sz H y=r2 at*;cases r1 with
 |none=>exact h
 |some es=>
  cases r2 with
  |none=>exact h
  |some fs=>
   have fr:BN sz b H es fs K->BN sz b H es fs K':=fun g cap hcap=>hk _ _ (g cap hcap);simp only at h⊢;by_cases h0:fs.length=0
   · rw [if_pos h0]at h⊢;cases x with
     |bP id off len cap s=>
      simp only at h⊢;by_cases hl:len<=cap
      · rw [if_pos hl]at h⊢;exact hk _ _ h
      · rw [if_neg hl]at h;exact h.elim
     |_=>exact hk _ _ h
   · rw [if_neg h0]at h⊢;by_cases hc:rC sz es/\rC sz fs/\(es.length+fs.length)*b<=1099511627776
     · rw [if_pos hc]at h⊢;cases x with
       |ah es' c=>cases c<;>first|exact fr h|exact h
       |bP id off len cap s=>
        simp only at h⊢;by_cases hl:len+fs.length<=cap
        · rw [if_pos hl]at h⊢;cases ho:H.obj id with
          |none=>rw [ho]at h;exact h
          |some cs=>
           rw [ho]at h;simp only at h⊢;split
           · rename_i hl2;rw [if_pos hl2]at h;exact hk _ _ h
           · rename_i hl2;rw [if_neg hl2]at h;exact h
        · rw [if_neg hl]at h⊢;split
          · rename_i hl2;rw [if_pos hl2]at h;exact fr h
          · rename_i hl2;rw [if_neg hl2]at h;exact h
       |_=>exact h
     · rw [if_neg hc]at h;exact h.elim
theorem amW {k:NK} {K K':PV->AH->Prop} {σ:Nat->PV} {H:AH} (hk: ∀p H',K p H'->K' p H') (h:nop k K σ H):nop k K' σ H:=by
 cases k with
 |app sz b x y=>exact afl hk h
 |NY z ps=>
  simp only [nop]at h⊢;cases hb:kU σ z ps with
  |none=>rw [hb]at h;exact h
  |some cs=>rw [hb]at h;exact hk _ _ h
 |Y4 x=>
  simp only [nop]at h⊢;generalize x.ev σ=v at*;cases v<;>first|exact hk _ _ h|exact h
 |copy sz x y=>
  simp only [nop]at h⊢;generalize x.ev σ=v at*;generalize rowOf sz H (y.ev σ)=r at*;cases v<;>try exact h
  cases r with
  |none=>exact h
  |some fs=>
   rename_i id off len cap s;simp only at h⊢;cases ho:H.obj id with
   |none=>rw [ho]at h;exact h
   |some cs=>
    rw [ho]at h;simp only at h⊢;split
    · rename_i hc;rw [if_pos hc]at h;exact hk _ _ h
    · rename_i hc;rw [if_neg hc]at h;exact h
 |NZ sz ps=>
  simp only [nop]at h⊢;split
  · rename_i es he;rw [he]at h;simp only at h;split
    · rename_i hc;rw [if_pos hc]at h;exact hk _ _ h
    · rename_i hc;rw [if_neg hc]at h;exact h
  · rename_i he;rw [he]at h;exact h
 |Ri sz b z x n=>
  simp only [nop]at h⊢;generalize x.ev σ=v at*;generalize n.ev σ=u at*;split
  · rename_i m hv hu;simp only at h;split
    · rename_i hc;rw [if_pos hc]at h;exact fun cap hcap=>hk _ _ (h cap hcap)
    · rename_i hc;rw [if_neg hc]at h;exact h
  · rename_i hno;split at h
    · rename_i m;exact absurd rfl (hno m rfl)
    · exact h
 |clr sz z x=>
  simp only [nop]at h⊢;generalize x.ev σ=v at*;cases v<;>try exact h
  rename_i id off len cap s;simp only at h⊢;cases ho:H.obj id with
  |none=>rw [ho]at h;exact h
  |some cs=>
   rw [ho]at h;simp only at h⊢;split
   · rename_i hc;rw [if_pos hc]at h;exact hk _ _ h
   · rename_i hc;rw [if_neg hc]at h;exact h
theorem kI {P:Program} {k:AK} {K K':PV->AH->Prop} {σ:Nat->PV} {H:AH} (hk: ∀p H',K p H'->K' p H') (h:dQ P k K σ H):dQ P k K' σ H:=by
 cases k with
 |r k=>
  simp only [dQ]at*;cases hq:rop k σ H with
  |none=>rw [hq]at h;exact h
  |some p=>rw [hq]at h;exact hk _ _ h
 |d k=>
  simp only [dQ]at*;cases hq:jc k σ H with
  |none=>rw [hq]at h;exact h
  |some p=>rw [hq]at h;exact hk _ _ h
 |n k=>simp only [dQ]at*;exact amW hk h
 |call f l=>
  simp only [dQ]at*;generalize f.ev σ=v at*;cases v with
  |fn g fs cs=>
   cases g with
   |func g=>exact aW.mono h hk
   |_=>exact h
  |_=>exact h
 |bad=>exact h
def yT (P:Program) (ms:List Nat) (pr:List (aD×Bool)) (K:(Nat->PV)->AH->Prop) (aH:Nat->PV):Nat->List Nat->(Nat->PV)->AH->Prop
 |n,rem,val,H=>
  (∀(i:Nat) (o:aD),pr[i]? =some (o,false)->(∀s∈rem,dS ms s i=false)->(∀(s:Nat) (o':aD),pr[s]? =some (o',true)->s∉rem->dS ms i s=false)->
   (sU o (bV pr val aH i)/\val i=ud)\/(pX o (bV pr val aH i)/\dQ P o.k (fun r fu=>r=val i/\fu=H) (bV pr val aH i) H))/\
  (rem=[]->K (bV pr val aH pr.length) H)/\
  match n with
  |0=>rem=[]
  |n+1=> ∀j∈rem,∀(o:aD),pr[j]? =some (o,true)->(∀s∈rem,dS ms s j=false\/s=j)->
   pX o (bV pr val aH j)/\dQ P o.k (fun r H'=> ∃val':Nat->PV,(∀i,i∉rem->(∀s∈rem,dS ms s i=false)->val' i=val i)/\val' j=r/\yT P ms pr K aH n (rem.filter (·!=j)) val' H') (bV pr val aH j) H
theorem abK {P:Program} {ms:List Nat} {pr:List (aD×Bool)} {K K':(Nat->PV)->AH->Prop} {aH:Nat->PV} (hk: ∀σ H,K σ H->K' σ H): ∀(n:Nat) (rem:List Nat) (val:Nat->PV) (H:AH),yT P ms pr K aH n rem val H->yT P ms pr K' aH n rem val H
 |0,rem,val,H,h=>by
  unfold yT at h⊢;exact⟨h.1,fun e=>hk _ _ (h.2.1 e),h.2.2⟩
 |n+1,rem,val,H,h=>by
  unfold yT at h⊢;refine⟨h.1,fun e=>hk _ _ (h.2.1 e),fun j hj o ho hb=> ?_⟩;obtain⟨h1,h2⟩:=h.2.2 j hj o ho hb;exact⟨h1,kI (fun r H' ⟨val',g1,g2,g3⟩=>⟨val',g1,g2,abK hk n _ _ _ g3⟩) h2⟩
section
variable {P:Program} {rm:Bool} {B:Nat->Prop} {k0 N mm:Nat} {ro:Option Nat} {ops:Array Oper}
variable {w0:World} {G0:Gh} {n0:Nat} {K:(Nat->PV)->AH->Prop} {Q:Exit->Act->World->Prop}
open Classical in
theorem agt: ∀(l:List (aD×Bool)) (val val':Nat->PV) (E:Nat->Prop) (σ:Nat->PV),(∀i,E i->val' i=val i)->nE l val' E σ=nE l val E σ
 |[],_,_,_,_,_=>rfl
 |(o,d)::l,val,val',E,σ,h=>by
   simp only [nE];have e:(if E 0 then upd σ o.dst (val' 0)else σ)=(if E 0 then upd σ o.dst (val 0)else σ):=by
    by_cases h0:E 0
    · rw [if_pos h0,if_pos h0,h 0 h0]
    · rw [if_neg h0,if_neg h0]
   rw [e];exact agt l _ _ _ _ fun i hi=>h (i+1) hi
theorem ahF {pr:List (aD×Bool)} {post:List aD} (aH:Nat->PV) (hc:oD P rm N ops ops.toList=some (pr.map (·.1)++post)) (hok:Ve ops.toList pr)
 {listed:Array Bool} {j i0:Nat} (hs:listed.size=ops.size) (h1: ∀i,bQ listed i->i<pr.length) (hcl:Closed ops.toList (bQ listed)) (hi0:i0<pr.length) (abH: ¬bQ listed i0)
 (hj:j∈Region.ready .any ops listed): ∃(o:Oper) (ao:aD) (d:Bool),ops[j]? =some o/\pr[j]? =some (ao,d)/\vL P rm N ops o=some ao/\ ¬bQ listed j/\
  (∀i,i≠j->dS (masks ops.toList []) i j=true->bQ listed i)/\
  (∀(val:Nat->PV),∀t∈ao.slots,bV pr val aH j t=nE pr val (bQ listed) aH t)/\
  (∀(val:Nat->PV),nE pr val (bQ (listed.setIfInBounds j true)) aH=upd (nE pr val (bQ listed) aH) ao.dst (val j))/\
  Closed ops.toList (bQ (listed.setIfInBounds j true))/\(∀i,bQ (listed.setIfInBounds j true) i->i<pr.length)/\(∀i,bQ (listed.setIfInBounds j true) i↔i=j\/bQ listed i):=by
 obtain⟨hlen,hget⟩:=sD hc;have hlenS:pr.length+post.length=ops.size:=by simpa using hlen
 have hpost: ∀(i j:Nat),i<j->j<ops.size->pr.length<=j->dS (masks ops.toList []) i j=true:=fun i j h1 h2 h3=>hok.post i j h1 (by simpa using h2) h3;obtain⟨Nb,o,ho,hdj⟩:=(yR hs).1 hj;have hjo:=(Z2.1 ho).1
 let E:Nat->Prop:=fun i=>bQ listed i\/i=j
 have abJ:Closed ops.toList E:=by
  intro j' o' e hE' x hx;rcases hE' with hE'|rfl
  · exact .inl (hcl j' o' e hE' x hx)
  · have e':ops[j']? =some o':=by simpa using e
    rw [ho]at e';cases e';exact .inl (hdj x hx)
 have hbef: ∀i,i≠j->dS (masks ops.toList []) i j=true->bQ listed i:=fun i hij hb=>by
  rcases uT abJ hb (.inr rfl)with h|h
  · exact h
  · exact absurd h hij
 have aaT: ∀i,dS (masks ops.toList []) j i=true-> ¬bQ listed i:=fun i hb h=>Nb (uT hcl hb h);have hjn:j<pr.length:=by
  rcases D1 j pr.length with h|h
  · exact h
  · exact absurd (hbef i0 (by omega) (hpost i0 j (by omega) hjo h)) abH
 obtain⟨⟨ao,d⟩,qb⟩: ∃x,pr[j]? =some x:=⟨_,W2 hjn⟩;obtain⟨rO,hao,hcomp⟩:=hget j o (by simpa using ho);have:rO=ao:=by
  rw [C0 (by simpa using hjn),J0,qb]at hao;exact(V2 hao).symm
 subst this;have hlt: ∀(i:Nat) (x:aD×Bool),pr[i]? =some x->i<pr.length:=fun i x e=>by
  rcases D1 i pr.length with h'|h'
  · exact h'
  · rw [R1 h']at e;cases e
 have hcut: ∀t,(t∈rO.slots\/rO.dst=some t)-> ∀(i:Nat) (x:aD×Bool),pr[i]? =some x->x.1.dst=some t->(bQ listed i↔i<j):=by
  intro t ht i x e hx;rcases Nat.lt_trichotomy i j with h|h|h
  · refine⟨fun _=>h,fun _=>hbef i (by omega) (hok.clash i j x (rO,d) h e qb ?_)⟩;unfold clash;rcases ht with ht|ht
    · simp [Qi,hx,ht]
    · simp [Vd,hx,ht]
  · subst h;exact⟨fun h=>absurd h Nb,fun h=>by omega⟩
  · refine⟨fun h'=>absurd h' (aaT i (hok.clash j i (rO,d) x h qb e ?_)),fun h'=>by omega⟩;unfold clash;rcases ht with ht|ht
    · simp [Qi,hx,ht]
    · simp [Vd,hx,ht]
 have yS: ∀(val:Nat->PV),∀t∈rO.slots,bV pr val aH j t=nE pr val (bQ listed) aH t:=fun val t ht=>(yc pr val _ aH j t (hcut t (.inl ht))).symm;have hnext: ∀(val:Nat->PV),nE pr val (bQ (listed.setIfInBounds j true)) aH=upd (nE pr val (bQ listed) aH) rO.dst (val j):=by
  intro val
  funext t
  by_cases hd:rO.dst=some t
  · rw [hd,Va];rw [yc pr val _ aH (j+1) t (fun i x e hx=>by
     rw [tF (by omega),hcut t (.inr hd) i x e hx];omega),Rt pr val aH j (rO,d) qb,hd,Va]
  · rw [upd_ne hd];refine Oi pr val _ _ aH aH t rfl fun i x e hx=> ?_;rw [tF (by omega)];constructor
    · rintro(rfl|h)
      · rw [qb]at e;cases e;exact absurd hx hd
      · exact h
    · exact .inr
 have hcl':Closed ops.toList (bQ (listed.setIfInBounds j true)):=fun j' o' e h x hx=>by
  rw [tF (by omega)]at h⊢;rcases abJ j' o' e (h.symm.imp id id) x hx with h'|h'
  · exact .inr h'
  · exact .inl h'
 have h1': ∀i,bQ (listed.setIfInBounds j true) i->i<pr.length:=fun i h=>by
  rw [tF (by omega)]at h;rcases h with rfl|h
  · exact hjn
  · exact h1 i h
 exact⟨o,rO,d,ho,qb,hcomp,Nb,hbef,yS,hnext,hcl',h1',fun i=>tF (by omega)⟩
theorem apv {o:Oper} {ao:aD} {j:Nat} {σ σ':Nat->PV} {H:AH} {G:Gh} {a:Act} {w:World} {K1:PV->AH->Prop} {next:Act->World->Prop} (ho:ops[j]? =some o) (hcomp:vL P rm N ops o=some ao) (hR:Rl B k0 N σ H G a w) (hS:Since B w0 G0 n0 H G w)
 (hsl: ∀t∈ao.slots,σ' t=σ t) (hg:pX ao σ') (hW:dQ P ao.k K1 σ' H)
 (hn: ∀p H' G' a' w',K1 p H'->Rl B k0 N (upd σ ao.dst p) H' G' a' w'->Since B w0 G0 n0 H' G' w'->next a' w'):wpOpIn (Wd ro) mm P ops Q j next a w:=by
 obtain⟨c1,c2,c3,c4⟩:=tH hcomp;have hks: ∀t∈ao.k.slots,σ' t=σ t:=fun t ht=>hsl t (by simp [aD.slots,ht]);have ahD:pX ao σ:=by
  unfold pX at hg⊢;split
  · trivial
  · rename_i s want hg';rw [hg']at hg;rw [<-hsl s (by simp [aD.slots,hg'])];exact hg
 unfold wpOpIn;rw [ho];simp only;rw [if_pos (Mg hcomp hR.sl ahD)];have Oj:=Oh hks hW;rw [c3]at Oj;refine(yQ Oj hR fun p H' G' x w' hK g1 g2 g3 g4 g5=> ?_);have hstep:=hR.step g1 g2 g3 g4 c1 g5;rw [<-c2]at hstep;rw [<-c2];exact hn p H' G' _ w' hK hstep (hS.step g1 g2 g3)
theorem avw {o:Oper} {ao:aD} {j:Nat} {σ σ':Nat->PV} {H:AH} {G:Gh} {a:Act} {w:World} {next:Act->World->Prop} (ho:ops[j]? =some o) (hcomp:vL P rm N ops o=some ao) (hR:Rl B k0 N σ H G a w)
 (hsl: ∀t∈ao.slots,σ' t=σ t) (hg:sU ao σ')
 (hn: ∀a',Rl B k0 N (upd σ ao.dst ud) H G a' w->next a' w):wpOpIn (Wd ro) mm P ops Q j next a w:=by
 obtain⟨c1,c2,c3,c4⟩:=tH hcomp;have ahE:sU ao σ:=by
  unfold sU at hg⊢;split
  · rename_i hg';rw [hg']at hg;exact hg
  · rename_i s want hg';rw [hg']at hg;rw [<-hsl s (by simp [aD.slots,hg'])];exact hg
 unfold wpOpIn;rw [ho];simp only;rw [if_neg (by rw [QC hcomp hR.sl ahE];simp)];have hstep:=hR.step (Tr.refl B w) (Ext.refl B _ G) (R0 _) hR.hm c1 V.ud;rw [<-c2]at hstep;rw [<-c2];exact⟨fun _ _=>trivial,hn _ hstep⟩
theorem abL {pr:List (aD×Bool)} {post:List aD} {aH:Nat->PV} {rem:List Nat} {val:Nat->PV} {H:AH}
 (hQ: ∀σ H G a w,K σ H->Rl B k0 N σ H G a w->Since B w0 G0 n0 H G w->Q .normal a w) (hc:oD P rm N ops ops.toList=some (pr.map (·.1)++post)) (hok:Ve ops.toList pr)
 (hpure: ∀(i:Nat) (o:aD),pr[i]? =some (o,false)->(∀s∈rem,dS (masks ops.toList []) s i=false)->(∀(s:Nat) (o':aD),pr[s]? =some (o',true)->s∉rem->dS (masks ops.toList []) i s=false)->
  (sU o (bV pr val aH i)/\val i=ud)\/(pX o (bV pr val aH i)/\dQ P o.k (fun r fu=>r=val i/\fu=H) (bV pr val aH i) H))
 (hend:rem=[]->eZ P post K (bV pr val aH pr.length) H) (KA: ∀i∈rem,∃o,pr[i]? =some (o,true))
 (aE2: ∀(j:Nat) (o:Oper) (ao:aD) (fuel:Nat) (listed:Array Bool) (G:Gh) (a:Act) (w:World),j∈rem->ops[j]? =some o->pr[j]? =some (ao,true)->vL P rm N ops o=some ao->(∀s∈rem,dS (masks ops.toList []) s j=false\/s=j)->
  (∀(val:Nat->PV),∀t∈ao.slots,bV pr val aH j t=nE pr val (bQ listed) aH t)->
  (∀(val:Nat->PV),nE pr val (bQ (listed.setIfInBounds j true)) aH=upd (nE pr val (bQ listed) aH) ao.dst (val j))->
  (listed.setIfInBounds j true).size=ops.size->(listed.setIfInBounds j true).toList.countP (fun b=> !b)<=fuel->(∀i,bQ (listed.setIfInBounds j true) i->i<pr.length)->Closed ops.toList (bQ (listed.setIfInBounds j true))->
  (∀(i:Nat) (o:aD),pr[i]? =some (o,true)->(bQ (listed.setIfInBounds j true) i↔i∉rem.filter (·!=j)))->
  (∀i,bQ listed i->i∉rem/\ ∀s∈rem,dS (masks ops.toList []) s i=false)->
  Rl B k0 N (nE pr val (bQ listed) aH) H G a w->Since B w0 G0 n0 H G w->wpOpIn (Wd ro) mm P ops Q j (wpAnyIn (Wd ro) mm P .any ops Q fuel (listed.setIfInBounds j true)) a w):
 ∀(fuel:Nat) (listed:Array Bool) (G:Gh) (a:Act) (w:World),listed.size=ops.size->listed.toList.countP (fun b=> !b)<=fuel->(∀i,bQ listed i->i<pr.length)->Closed ops.toList (bQ listed)->
   (∀(i:Nat) (o:aD),pr[i]? =some (o,true)->(bQ listed i↔i∉rem))->Rl B k0 N (nE pr val (bQ listed) aH) H G a w->Since B w0 G0 n0 H G w->wpAnyIn (Wd ro) mm P .any ops Q fuel listed a w:=by
 obtain⟨hlen,hget⟩:=sD hc;have hlenS:pr.length+post.length=ops.size:=by simpa using hlen
 have JK: ∀(j:Nat) (o:Oper),ops[j]? =some o-> ∀e∈pY o,e<j:=fun j o e=>hok.deps j o (by simpa using e);have hpost: ∀(i j:Nat),i<j->j<ops.size->pr.length<=j->dS (masks ops.toList []) i j=true:=fun i j h1 h2 h3=>hok.post i j h1 (by simpa using h2) h3;have amX: ∀(i:Nat) (x:aD×Bool),pr[i]? =some x->i<pr.length:=fun i x e=>by
  rcases D1 i pr.length with h'|h'
  · exact h'
  · rw [R1 h']at e;cases e
 have finish: ∀(fuel:Nat) (listed:Array Bool) (G:Gh) (a:Act) (w:World),listed.size=ops.size->ops.size -pr.length<=fuel->(∀i,bQ listed i->i<pr.length)->(∀i,i<pr.length->bQ listed i)->
  (∀(i:Nat) (o:aD),pr[i]? =some (o,true)->(bQ listed i↔i∉rem))->Rl B k0 N (nE pr val (bQ listed) aH) H G a w->Since B w0 G0 n0 H G w->wpAnyIn (Wd ro) mm P .any ops Q fuel listed a w:=by
  intro fuel listed G a w hs hf h1 h2 hD hR hS;have hr0:rem=[]:=by
   rw [List.eq_nil_iff_forall_not_mem];intro i hi;obtain⟨o,e⟩:=KA i hi;exact(hD i o e).1 (h2 i (amX _ _ e)) hi
  have hE:nE pr val (bQ listed) aH=bV pr val aH pr.length:=funext fun t=>yc pr val _ aH _ t fun i o e _=>by
   have hi:=amX _ _ e;exact⟨fun _=>hi,fun _=>h2 i hi⟩
  rw [hE]at hR
  have hd:(pr.map (·.1)++post).drop pr.length=post:=by
   have:pr.length=(pr.map (·.1)).length:=by simp
   rw [this,PA]
  exact agr hQ hc JK hpost fuel listed pr.length _ _ _ _ _ (R0 _) (by omega) hs (fun i hi=>⟨fun h=>h1 i h,fun h=>h2 i h⟩) hf (by rw [hd];exact hend hr0) hR hS
 intro fuel
 induction fuel with
 |zero=>
  intro listed G a w hs hcnt h1 hcl hD hR hS;have hall: ∀i,i<ops.size->bQ listed i:=by
   intro i hi;have h0:listed.toList.countP (fun b=> !b)=0:=by omega
   rw [List.countP_eq_zero]at h0;have:=h0 (listed[i]'(by omega)) (by simp);simpa [bQ,A3 (show i<listed.size by omega)]using this
  have hsz:ops.size<=pr.length:=by
   rcases D1 pr.length ops.size with h|h
   · have:=h1 pr.length (hall _ h);omega
   · exact h
  exact finish 0 listed G a w hs (by omega) h1 (fun i hi=>hall i (by omega)) hD hR hS
 |succ fuel ih=>
  intro listed G a w hs hcnt h1 hcl hD hR hS;by_cases hdone: ∀i,i<pr.length->bQ listed i
  · refine finish (fuel+1) listed G a w hs ?_ h1 hdone hD hR hS;have hcount:post.length<=listed.toList.countP (fun b=> !b):=by
     have hsplit:listed.toList=listed.toList.take pr.length++listed.toList.drop pr.length:=(w6 _ _).symm;rw [hsplit,eA];have:(listed.toList.drop pr.length).countP (fun b=> !b)=(listed.toList.drop pr.length).length:=by
      rw [List.countP_eq_length];intro b hb;obtain⟨i,hi⟩:=a8 hb;rw [Q3]at hi;have hnl: ¬bQ listed (pr.length+i):=fun h=>by have:=h1 _ h;omega
      rw [W4]at hi;simp [bQ,hi]at hnl;simp [hnl]
     rw [this];simp;omega
    omega
  · obtain⟨i0,hi0,abH⟩: ∃i,i<pr.length/\ ¬bQ listed i:=by
     apply i7
     intro hno;exact hdone fun i hi=>i7 fun h=>hno ⟨i,hi,h⟩
    refine⟨fun hr=> ?_,fun j hj=> ?_⟩
    · have abI: ∃i,i<pr.length/\ ¬bQ listed i/\ ∀i',i'<i->bQ listed i':=by
       have: ∀n,(∀i',i'<n->bQ listed i')\/ ∃i,i<n/\ ¬bQ listed i/\ ∀i',i'<i->bQ listed i':=by
        intro n
        induction n with
        |zero=>exact .inl (fun i' h=>by omega)
        |succ n ihn=>
         rcases ihn with h|⟨i,h⟩
         · by_cases hn:bQ listed n
           · exact .inl fun i' hi'=>by
                 rcases D1 i' n with h'|h'
                 · exact h i' h'
                 · have:i'=n:=by omega
                   exact this▸hn
           · exact .inr ⟨n,by omega,hn,h⟩
         · exact .inr ⟨i,by omega,h.2⟩
       rcases this pr.length with h|⟨i,h⟩
       · exact absurd h hdone
       · exact⟨i,h⟩
      obtain⟨i,hi,hni,hlt⟩:=abI;have hio:i<ops.size:=by omega
      have:i∈Region.ready .any ops listed:=(yR hs).2 ⟨hni,ops[i],by simp,fun e he=>hlt e (JK i _ (by simp) e he)⟩;rw [hr]at this;cases this
    · obtain⟨o,ao,d,ho,qb,hcomp,Nb,hbef,yS,hnext,hcl',h1',hset⟩:=ahF aH hc hok hs h1 hcl hi0 abH hj;have JL:(listed.setIfInBounds j true).toList.countP (fun b=> !b)<=fuel:=by
       have:=agq (listed:=listed) (i:=j) (by have:=amX _ _ qb;omega) Nb;omega
      have hop: ∀s∈rem,dS (masks ops.toList []) s j=false\/s=j:=fun s hs'=>by
       by_cases hsj:s=j
       · exact .inr hsj
       · refine .inl ?_;cases hb:dS (masks ops.toList []) s j with
         |false=>rfl
         |true=>
          obtain⟨o',e'⟩:=KA s hs';exact absurd hs' ((hD s o' e').1 (hbef s hsj hb))
      cases d with
      |false=>
       have hjr:j∉rem:=fun h=>by
        obtain⟨o',e'⟩:=KA j h;rw [qb]at e';cases e'
       have hD': ∀(i:Nat) (o:aD),pr[i]? =some (o,true)->(bQ (listed.setIfInBounds j true) i↔i∉rem):=fun i o' e=>by
        rw [hset];constructor
        · rintro(rfl|h)
          · exact hjr
          · exact(hD i o' e).1 h
        · intro h;exact .inr ((hD i o' e).2 h)
       rcases hpure j ao qb (fun s hs'=>(hop s hs').resolve_right fun h=>hjr (h▸hs')) (fun s o' e' hs'=>by
        cases hb:dS (masks ops.toList []) j s with
        |false=>rfl
        |true=>exact absurd (uT hcl hb ((hD s o' e').2 hs')) Nb)with⟨hg,hv⟩|⟨hg,hWj⟩
       · refine avw ho hcomp hR (yS val) hg fun a' hR'=> ?_;rw [<-hv,<-hnext]at hR';exact ih _ G a' w (by simpa using hs) JL h1' hcl' hD' hR' hS
       · refine apv ho hcomp hR hS (yS val) hg hWj fun p H' G' a' w' hK hR' hS'=> ?_;obtain⟨rfl,rfl⟩:=hK;rw [<-hnext]at hR';exact ih _ G' a' w' (by simpa using hs) JL h1' hcl' hD' hR' hS'
      |true=>
       have hjr:j∈rem:=i7 fun h=>Nb ((hD j ao qb).2 h);refine aE2 j o ao fuel listed G a w hjr ho qb hcomp hop yS hnext (by simpa using hs) JL h1' hcl' (fun i o' e=> ?_) (fun i hi=> ?_) hR hS
       · rw [hset,hD i o' e,i6];by_cases hij:i=j
         · subst hij;simp
         · simp [hij]
       · refine⟨fun hr=> ?_,fun s hs'=> ?_⟩
         · obtain⟨o',e'⟩:=KA i hr;exact(hD i o' e').1 hi hr
         · cases hb:dS (masks ops.toList []) s i with
           |false=>rfl
           |true=>
            obtain⟨o',e'⟩:=KA s hs';exact absurd hs' ((hD s o' e').1 (uT hcl hb hi))
theorem avx {pr:List (aD×Bool)} {post:List aD} {aH:Nat->PV}
 (hQ: ∀σ H G a w,K σ H->Rl B k0 N σ H G a w->Since B w0 G0 n0 H G w->Q .normal a w) (hc:oD P rm N ops ops.toList=some (pr.map (·.1)++post)) (hok:Ve ops.toList pr):
 ∀(n:Nat) (rem:List Nat) (val:Nat->PV) (H:AH),yT P (masks ops.toList []) pr (eZ P post K) aH n rem val H->(∀i∈rem,∃o,pr[i]? =some (o,true))->
 ∀(fuel:Nat) (listed:Array Bool) (G:Gh) (a:Act) (w:World),listed.size=ops.size->listed.toList.countP (fun b=> !b)<=fuel->(∀i,bQ listed i->i<pr.length)->Closed ops.toList (bQ listed)->
   (∀(i:Nat) (o:aD),pr[i]? =some (o,true)->(bQ listed i↔i∉rem))->Rl B k0 N (nE pr val (bQ listed) aH) H G a w->Since B w0 G0 n0 H G w->wpAnyIn (Wd ro) mm P .any ops Q fuel listed a w:=by
 intro n
 induction n with
 |zero=>
  intro rem val H hW KA;unfold yT at hW;refine abL hQ hc hok hW.1 hW.2.1 KA fun j o ao fuel listed G a w hj=> ?_;rw [hW.2.2]at hj;cases hj
 |succ n ih=>
  intro rem val H hW KA;unfold yT at hW;refine abL hQ hc hok hW.1 hW.2.1 KA fun j o ao fuel listed G a w hj ho qb hcomp hop yS hnext q1 q2 q3 q4 q5 q6 hR hS=> ?_;obtain⟨h2,h3⟩:=hW.2.2 j hj ao qb hop;refine apv ho hcomp hR hS (yS val) h2 h3 fun p H2 G' a' w' hK hR' hS'=> ?_;obtain⟨val',h1,h4,h5⟩:=hK;have hv:nE pr val' (bQ listed) aH=nE pr val (bQ listed) aH:=agt pr val val' _ aH fun i hi=>h1 i (q6 i hi).1 (q6 i hi).2;rw [<-h4,<-hv,<-hnext]at hR';exact ih _ val' _ h5 (fun i hi=>KA i (i6.1 hi).1) fuel _ G' a' w' q1 q2 q3 q4 q5 hR' hS'
end
end Go.VL
end
section
namespace Go.VL
variable [Glob]
section
variable {B:Nat->Prop} {G:Gh} {H:AH} {w:World}
theorem HM.mq (hM:HM B H G w) {r:Nat} {o o':Obj} (h:w.heap[r]? =some o) (ho:o.isCells=false) (ho':o'.isCells=false):HM B H G (w.putObj r o'):=by
 have hne: ∀b arr t fr,w.heap[b]? =some (.cells arr t fr)->b≠r:=fun b arr t fr e hb=>by
  subst hb;rw [h]at e;cases e;simp [Obj.isCells]at ho
 have hkeep: ∀b,b≠r->(w.putObj r o').heap[b]? =w.heap[b]? :=fun b hb=>World.putObj_heap_other hb;refine⟨hM.glob,fun a x e=> ?_,fun id cs e=> ?_,hM.inj,fun k e=> ?_,hM.sS,hM.tobj,fun b arr e=>let ⟨h1,t,fr,h2⟩:=hM.wh b arr e;⟨h1,t,fr,(hkeep b (hne b arr t fr h2)).trans h2⟩⟩
 · have hc:=hM.su a x e;by_cases hb:a.block=r
   · obtain⟨ab,ao,az⟩:=a;simp only at hb;subst hb;unfold World.cell? at hc;simp only [h]at hc;cases o<;>simp_all [Obj.isCells]
   · exact(World.cell?_of_block (hkeep _ hb)).trans hc
 · obtain⟨k0,b,ar,t',k1,k2,k3,k4,k5⟩:=hM.obj id cs e;exact⟨k0,b,ar,t',k1,k2,(hkeep b (hne _ _ _ _ k3)).trans k3,k4,k5⟩
 · obtain⟨k0,b,o,ar,t',k1,k2,k3,k5⟩:=hM.tok k e;exact⟨k0,b,o,ar,t',k1,k2,(hkeep b (hne _ _ _ _ k3)).trans k3,k5⟩
theorem HM.Vf (hM:HM B H G w) (o:Obj):HM B H G (w.alloc o):=by
 have hlt: ∀b arr t fr,w.heap[b]? =some (.cells arr t fr)->b<w.heap.size:=fun b arr t fr e=>(Z2.1 e).1;refine⟨hM.glob,fun a x e=> ?_,fun id cs e=> ?_,hM.inj,fun k e=> ?_,hM.sS,hM.tobj,hM.wh.keep fun b _ hb=>heap_alloc_old w o b hb⟩
 · have hc:=hM.su a x e;exact(World.cell?_of_block (heap_alloc_old w o _ (World.block_lt_of_cell? w a hc))).trans hc
 · obtain⟨k0,b,ar,t',k1,k2,k3,k4,k5⟩:=hM.obj id cs e;exact⟨k0,b,ar,t',k1,k2,(heap_alloc_old w o b (hlt _ _ _ _ k3)).trans k3,k4,k5⟩
 · obtain⟨k0,b,o',ar,t',k1,k2,k3,k5⟩:=hM.tok k e;exact⟨k0,b,o',ar,t',k1,k2,(heap_alloc_old w o b (hlt _ _ _ _ k3)).trans k3,k5⟩
theorem Marks.mq {k0:Nat} {ds:List Deferred} (h:Marks k0 ds w) {r:Nat} {o o':Obj} (hr:w.heap[r]? =some o) (ho:o≠ .deferred (some [])):Marks k0 ds (w.putObj r o'):=by
 obtain⟨h0,rs,h1,h2,h3⟩:=h;refine⟨by rw [World.putObj_size];exact h0,rs,h1,h2,fun r' hr'=>⟨(h3 r' hr').1,?_⟩⟩;have hne:r'≠r:=fun e=>by
  subst e;have:=(h3 r' hr').2;rw [hr]at this;exact ho (V2 this)
 exact(World.putObj_heap_other hne).trans (h3 r' hr').2
theorem abM (hM:HM B H G w) {id bb:Nat} {v:PV} (ho:H.obj id=some [v]) (hm:G.m id=some bb): ∃x,w.cell? ⟨bb,0,none⟩=some x/\V G H.next v x:=by
 obtain⟨_,b',arr,t,k1,_,k3,k4,_⟩:=hM.obj id _ ho;have:b'=bb:=by rw [k1]at hm;exact V2 hm
 subst this;have hs:arr.size=1:=k4.1;exact⟨arr[0],by rw [wY k3];simp [hs],k4.2 0 v _ rfl (by simp)⟩
theorem Tr.mq {w W:World} (h:Tr B w W) {r:Nat} {o':Obj} (hr:w.heap.size<=r):Tr B w (W.putObj r o'):=
 ⟨by rw [World.putObj_size];exact h.size,fun b hb hB=>(World.putObj_heap_other (by omega)).trans (h.same b hb hB),h.os,h.tape,h.output,fun b o e ho=>by
  have:=(Z2.1 e).1;exact(World.putObj_heap_other (by omega)).trans (h.JG b o e ho)⟩
theorem Up.mq (h:Up B w) (r:Nat) (o':Obj):Up B (w.putObj r o'):=fun b hb=>h b (by rwa [World.putObj_size]at hb)
theorem Sl.mono {G':Gh} {n n':Nat} {σ:Nat->PV} {a:Act} (h:Sl G n σ a) (hE:Ext B n G G') (hn:n<=n'):Sl G' n' σ a:=⟨h.1.mono hE.F,fun t=>(h.2 t).mono hE hn⟩
theorem Since.trans {w0:World} {G0 G':Gh} {n0:Nat} {H':AH} {w':World} (h:Since B w0 G0 n0 H G w) (k:Since B w G H.next H' G' w'):Since B w0 G0 n0 H' G' w':=h.step k.tr k.ex k.le
theorem Since.mq {w0:World} {G0:Gh} {n0:Nat} (h:Since B w0 G0 n0 H G w) {r:Nat} {o':Obj} (hr:w0.heap.size<=r):Since B w0 G0 n0 H G (w.putObj r o'):=⟨h.tr.mq hr,h.ex,h.le⟩
end
def elemV (agg:Bool) (vs:Array Value):Value:=if agg then .agg vs else vs.getD 0 undef
def Vg (P:Program) (g:FuncId) (sz:Nat) (agg:Bool):Prop:=
 ∀(l m:Nat) (bx:Addr) (n:Nat) (J:Nat->World->Prop) (Jx:World->Prop) (W:World),n<=1099511627776->
   (∃ad cap,W.cell? bx=some (.slice ad n cap))->
   (∀k W,J (k+1) W-> ∃b o cap vs,W.cell? bx=some (.slice (some ⟨b,o,none⟩) n cap)/\k<n/\vs.size=sz/\(∀j x,vs[j]? =some x->W.cell? ⟨b,o+k*sz+j,none⟩=some x)/\
    YieldAt (Wd none) m P l #[.int .i64 k,elemV agg vs] W fun e W'=>(e= .returned (.bool true)/\J k W')\/(e= .returned (.bool false)/\Jx W'))->
   J n W->CallsIn (Wd none) m P g #[.func (.yield l) #[] #[],.pointer (some bx)] W fun e W'=>(∃v,e= .returned v)/\(J 0 W'\/Jx W')
theorem QD {ro:Option Nat} {n n':Nat} {P:Program} {l:Nat} {f:FuncId} {tmps:Array Value} {assign body:Code} {w:World} {R:Ending->World->Prop} (h:RoundIn (Wd ro) n P l f tmps assign body w R):RoundIn (Wd ro) n' P l f tmps assign body w R:=
 ⟨h.1,fun c cs _=>h.2 c cs (fun _ hd=>by simp [Fence.wide]at hd)⟩
end Go.VL
end
section
namespace Go.VL
variable [Glob]
def wZ (pr:List (aD×Bool)):List Nat:=(List.range pr.length).filter fun i=>match pr[i]? with|some (_,d)=>d|none=>false
theorem JM {pr:List (aD×Bool)} (i:Nat):i∈wZ pr↔ ∃o,pr[i]? =some (o,true):=by
 unfold wZ;rw [i6,B5];constructor
 · rintro⟨h1,h2⟩;cases e:pr[i]? with
   |none=>rw [e]at h2;cases h2
   |some x=>
    obtain⟨o,d⟩:=x;rw [e]at h2;simp only at h2;exact⟨o,by rw [h2]⟩
 · rintro⟨o,e⟩;refine⟨(S0.1 e).1,?_⟩;rw [e]
inductive AC where
 |skip
 |ops (l:List aD)
 |par (pr:List (aD×Bool)) (post:List aD)
 |sV (ms:List Nat) (pr:List (aD×Bool)) (post:List aD)
 |seq (a b:AC)
 |cond (c:AE) (a b:AC)
 |block (id:Nat) (a:AC)
 |loop (a:AC)
 |rf (f:AE) (p q:Nat) (a b:AC)
 |exit (id:Nat)
 |ret
inductive Ex where
 |normal|exit (id:Nat)|ret
abbrev Post:=Ex->(Nat->PV)->AH->Prop
def aaU (step:(Ex->(Nat->PV)->AH->Prop)->(Nat->PV)->AH->Prop) (Q:Post) (σ:Nat->PV) (H:AH):Prop:=
 ∀X:(Nat->PV)->AH->Prop,(∀σ H,step (fun e σ' H'=>match e with| .normal=>X σ' H'|e=>Q e σ' H') σ H->X σ H)->X σ H
def Ab (K:(Nat->PV)->AH->Prop) (Q:Post):Post:=fun e σ H=>match e with
 | .normal=>K σ H
 |e=>Q e σ H
def Ol (id:Nat) (Q:Post):Post:=fun e σ H=>match e with
 | .exit i=>if i=id then Q .normal σ H else Q (.exit i) σ H
 |e=>Q e σ H
def JN (K:(Nat->PV)->AH->Prop):Post:=fun e σ H=>match e with
 | .normal=>K σ H
 |_=>False
def ahG (Q:Post) (σ:Nat->PV) (X:AH->Prop):Post:=fun e _ H=>match e with
 | .normal=>X H
 | .exit i=>Q (.exit i) σ H
 | .ret=>Q .ret σ H
def E9 (agg:Bool) (cs:List PV):PV:=if agg then .agg cs else cs.headD .any
def GD (step:Post->(Nat->PV)->AH->Prop) (Q:Post) (σ:Nat->PV) (id:Nat) (o:List PV) (p q:Nat) (vs:List PV):Nat->AH->Prop
 |0,H=>Q .normal σ H
 |k+1,H=>H.obj id=some o/\ ∃v,vs[k]? =some v/\step (ahG Q σ (GD step Q σ id o p q vs k)) (upd (upd σ (some p) (.int .i64 k)) (some q) v) H
theorem Vh {step:Post->(Nat->PV)->AH->Prop} (hs: ∀Q Q':Post,(∀e σ H,Q e σ H->Q' e σ H)-> ∀σ H,step Q σ H->step Q' σ H) {Q Q':Post} (hq: ∀e σ H,Q e σ H->Q' e σ H) {σ:Nat->PV} {id:Nat} {o:List PV} {p q:Nat} {vs:List PV}:
 ∀(k:Nat) (H:AH),GD step Q σ id o p q vs k H->GD step Q' σ id o p q vs k H
 |0,H,h=>hq _ _ _ h
 |k+1,H,⟨h1,v,h2,h3⟩=>⟨h1,v,h2,hs _ _ (fun e σ' H' hQ=>by
  cases e with
  |normal=>exact Vh hs hq k H' hQ
  |exit i=>exact hq _ _ _ hQ
  |ret=>exact hq _ _ _ hQ) _ _ h3⟩
def W (P:Program):AC->Post->(Nat->PV)->AH->Prop
 | .skip,Q,σ,H=>Q .normal σ H
 | .ops l,Q,σ,H=>eZ P l (Q .normal) σ H
 | .par pr post,Q,σ,H=> ∃C:AH->Prop,C H/\jd P C pr (eZ P post (Q .normal)) σ H
 | .sV ms pr post,Q,σ,H=> ∃val:Nat->PV,yT P ms pr (eZ P post (Q .normal)) σ (wZ pr).length (wZ pr) val H
 | .seq a b,Q,σ,H=>W P a (Ab (fun σ' H'=>W P b Q σ' H') Q) σ H
 | .cond c a b,Q,σ,H=>match c.ev σ with
  | .bool t=>(t=true->W P a Q σ H)/\(t=false->W P b Q σ H)
  |_=>False
 | .block id a,Q,σ,H=>W P a (Ol id Q) σ H
 | .loop a,Q,σ,H=>aaU (W P a) Q σ H
 | .rf f p q a b,Q,σ,H=>match f.ev σ with
  | .fn (.func g) [] [.ref id 0]=> ∃sz agg es c,Enters P g/\Vg P g sz agg/\0<sz/\H.obj id=some [.ah es c]/\es.length<=1099511627776/\L9 sz es/\
   GD (fun Q' σ' H'=>W P a (JN (fun sF fu=>W P b Q' sF fu)) σ' H') Q σ id [.ah es c] p q (es.map (E9 agg)) es.length H
  |_=>False
 | .exit id,Q,σ,H=>Q (.exit id) σ H
 | .ret,Q,σ,H=>Q .ret σ H
theorem yU {P:Program}: ∀{l:List aD} {K K':(Nat->PV)->AH->Prop} {σ:Nat->PV} {H:AH},(∀σ H,K σ H->K' σ H)->eZ P l K σ H->eZ P l K' σ H
 |[],_,_,_,_,hk,h=>hk _ _ h
 |o::l,K,K',σ,H,hk,h=>by
  simp only [eZ]at*;split
  · rename_i hg;simp only [hg]at h;exact kI (fun _ _ h=>yU hk h) h
  · rename_i hg;simp only [hg]at h;split
    · rename_i hb;simp only [hb]at h;split
      · rename_i hw;rw [if_pos hw]at h;exact kI (fun _ _ h=>yU hk h) h
      · rename_i hw;rw [if_neg hw]at h;exact yU hk h
    · rename_i hb;simp only [hb]at h;exact yU hk h
    · rename_i hb hb2;split at h
      · rename_i b' hb';exact absurd hb' (hb b')
      · rename_i hb';exact absurd hb' hb2
      · exact h
theorem JO {P:Program} {C:AH->Prop}: ∀{l:List (aD×Bool)} {K K':(Nat->PV)->AH->Prop} {σ:Nat->PV} {H:AH},(∀σ H,K σ H->K' σ H)->jd P C l K σ H->jd P C l K' σ H
 |[],_,_,_,_,hk,h=>hk _ _ h
 |(o,d)::l,K,K',σ,H,hk,h=>by
   simp only [jd]at*;rcases h with⟨h1,h2⟩|⟨h1,h2⟩
   · exact .inl ⟨h1,JO hk h2⟩
   · refine .inr ⟨h1,?_⟩;cases d with
     |true=>obtain⟨p,H',g1,g2,g3⟩:=h2;exact⟨p,H',g1,g2,JO hk g3⟩
     |false=>obtain⟨p,g1,g3⟩:=h2;exact⟨p,g1,JO hk g3⟩
theorem ahH {step:Post->(Nat->PV)->AH->Prop} (hs: ∀Q Q':Post,(∀e σ H,Q e σ H->Q' e σ H)-> ∀σ H,step Q σ H->step Q' σ H) {Q Q':Post} (hq: ∀e σ H,Q e σ H->Q' e σ H) {σ:Nat->PV} {H:AH}
 (h:aaU step Q σ H):aaU step Q' σ H:=by
 intro X hX;refine h X fun σ H hst=>hX σ H (hs _ _ (fun e σ H hQ=> ?_) σ H hst);cases e with
 |normal=>exact hQ
 |exit i=>exact hq _ _ _ hQ
 |ret=>exact hq _ _ _ hQ
theorem CZ {P:Program}: ∀{c:AC} {Q Q':Post},(∀e σ H,Q e σ H->Q' e σ H)-> ∀{σ:Nat->PV} {H:AH},W P c Q σ H->W P c Q' σ H
 | .skip,_,_,hq,_,_,h=>hq _ _ _ h
 | .ops l,_,_,hq,_,_,h=>yU (hq .normal) h
 | .par pr post,_,_,hq,_,_,h=>by
  obtain⟨C,h1,h2⟩:=h;exact⟨C,h1,JO (fun _ _ h=>yU (hq .normal) h) h2⟩
 | .sV ms pr post,_,_,hq,_,_,h=>by
  obtain⟨val,h1⟩:=h;exact⟨val,abK (fun _ _ h=>yU (hq .normal) h) _ _ _ _ h1⟩
 | .seq a b,Q,Q',hq,σ,H,h=>by
  simp only [W]at*;refine CZ (c:=a) (fun e σ H h=> ?_) h;cases e with
  |normal=>exact CZ (c:=b) hq h
  |exit i=>exact hq _ _ _ h
  |ret=>exact hq _ _ _ h
 | .cond c a b,Q,Q',hq,σ,H,h=>by
  simp only [W]at*;split
  · rename_i t ht;simp only [ht]at h;exact⟨fun e=>CZ (c:=a) hq (h.1 e),fun e=>CZ (c:=b) hq (h.2 e)⟩
  · rename_i hno;split at h
    · rename_i t ht;exact absurd ht (hno t)
    · exact h
 | .block id a,Q,Q',hq,σ,H,h=>by
  simp only [W]at*;refine CZ (c:=a) (fun e σ H h=> ?_) h;cases e with
  |normal=>exact hq _ _ _ h
  |exit i=>
   simp only [Ol]at*;split
   · rename_i hi;rw [if_pos hi]at h;exact hq _ _ _ h
   · rename_i hi;rw [if_neg hi]at h;exact hq _ _ _ h
  |ret=>exact hq _ _ _ h
 | .loop a,Q,Q',hq,σ,H,h=>by
  simp only [W]at*;exact ahH (step:=W P a) (fun Q Q' hq σ H h=>CZ (c:=a) hq h) hq h
 | .rf f p q a b,Q,Q',hq,σ,H,h=>by
  simp only [W]at*;split
  · rename_i g id hf;simp only [hf]at h;obtain⟨sz,agg,es,c,h1,h2,h3,h4,h5,h6,h7⟩:=h;refine⟨sz,agg,es,c,h1,h2,h3,h4,h5,h6,Vh (step:=fun Q' σ' H'=>W P a (JN (fun sF fu=>W P b Q' sF fu)) σ' H') (fun Q1 Q2 h12 σ' H' hs=>CZ (c:=a) (fun e sF fu hh=> ?_) hs) hq _ _ h7⟩;cases e with
    |normal=>exact CZ (c:=b) h12 hh
    |exit i=>exact hh
    |ret=>exact hh
  · rename_i hno;split at h
    · rename_i g id hf;exact absurd hf (hno g id)
    · exact h
 | .exit id,_,_,hq,_,_,h=>hq _ _ _ h
 | .ret,_,_,hq,_,_,h=>hq _ _ _ h
theorem akf {P:Program} {a:AC} {Q:Post} {σ:Nat->PV} {H:AH} (h:W P a (Ab (fun σ' H'=>W P (.loop a) Q σ' H') Q) σ H):W P (.loop a) Q σ H:=by
 show aaU (W P a) Q σ H
 intro X hX;refine hX σ H (CZ (c:=a) (fun e σ' H' hQ=> ?_) h);cases e with
 |normal=>exact hQ X hX
 |exit i=>exact hQ
 |ret=>exact hQ
def Mh (dc:Nat->Bool):AK->Bool
 | .d _=>true
 | .n (.app ..)| .n (.Ri ..)| .n (.copy ..)| .n (.clr ..)| .n (.NZ ..)=>true
 | .call (.c (.fn (.func f) _ _)) _=>dc f
 |_=>false
def splitAt (ops:List Oper):Nat:=
 let ms:=masks ops []
 (List.range ops.length).foldl (fun k j=>if(List.range j).all (fun i=>dS ms i j)then k else j+1) 0
def AC.Ru:AC->Bool
 | .rf .. =>false
 | .seq a b| .cond _ a b=>a.Ru&&b.Ru
 | .block _ a| .loop a=>a.Ru
 |_=>true
def comp (P:Program) (rm:Bool) (N:Nat) (dc:Nat->Bool):Code->Option AC
 | .skip=>some .skip
 | .region _ ops draw=>match oD P rm N ops ops.toList with
  |some az=>if draw then
   (let n:=splitAt ops.toList
    let pr:=(az.take n).map fun o=>(o,Mh dc o.k)
    if(apt ops.toList pr&& !(dc 1000000&&pr.any (·.2)))=true then some (.par pr (az.drop n))else if ake ops.toList pr then some (.sV (masks ops.toList []) pr (az.drop n))else none)
   else some (.ops az)
  |none=>none
 | .seq a b=>match comp P rm N dc a,comp P rm N dc b with
  |some x,some y=>some (.seq x y)
  |_,_=>none
 | .cond c a b=>match cop c,comp P rm N dc a,comp P rm N dc b with
  |some e,some x,some y=>some (.cond e x y)
  |_,_,_=>none
 | .block id a=>match comp P rm N dc a with
  |some x=>some (.block id x)
  |none=>none
 | .loop a=>match comp P rm N dc a with
  |some x=>some (.loop x)
  |none=>none
 | .exit id=>some (.exit id)
 | .ret=>some .ret
 | .rangeFunc f ps a b=>match cop f,ps.toList,comp P rm N dc a,comp P rm N dc b with
  |some e,[p,q],some x,some y=>if p<N/\q<N/\x.Ru=true/\y.Ru=true then some (.rf e p q x y)else none
  |_,_,_,_=>none
 |_=>none
def avy:Ex->Exit
 | .normal=> .normal
 | .exit i=> .exit i
 | .ret=> .ret
section
variable {P:Program} {rm:Bool} {B:Nat->Prop} {k0 N mm:Nat} {ro:Option Nat} {w0:World} {G0:Gh} {n0:Nat}
def QOf (B:Nat->Prop) (k0 N:Nat) (w0:World) (G0:Gh) (n0:Nat) (Q:Post):Exit->Act->World->Prop:=fun x a w=>
 ∃e σ H G,x=avy e/\Q e σ H/\Rl B k0 N σ H G a w/\Since B w0 G0 n0 H G w
def Vi (F:Fence) (n:Nat) (P:Program) (c:Code) (Q:Exit->Act->World->Prop) (a:Act) (w:World):Prop:=
 ∀(b:Frame) (k:List Item) (cs:List Frame),b.roundOf=F.round->F.fn b.fn->F.room (cs.length+1+n)->
   ∃e a' w',Q e a' w'/\ArrivesIn (Machine.fenced P F) P (lone (b.atR a (.code c:: .inLoop c::k)) cs w) b k cs e a' w'
theorem abN {F:Fence} {n:Nat} {c:Code} {Q:Exit->Act->World->Prop} {a:Act} {w:World} (h:c.wpIn F n P (Exit.then (fun a' w'=>Vi F n P c Q a' w') Q) a w):Vi F n P c Q a w:=by
 intro b k cs hro hb hr;obtain⟨e,a₁,w₁,hq,harr⟩:=h b (.inLoop c::k) cs hro hb hr;cases e with
 |normal=>
  obtain⟨e₂,a₂,w₂,hq₂,harr₂⟩:=hq b k cs hro hb hr;exact⟨e₂,a₂,w₂,hq₂,.of_steps (StepsIn.trans harr (.one (fenced_calm hb hr rfl) stepR_inLoop)) harr₂⟩
 |exit id=>exact⟨_,a₁,w₁,hq,.pass (x:= .inLoop c) rfl (fun _ _=> .inl (by simp)) harr⟩
 |goto l=>exact⟨_,a₁,w₁,hq,.pass (x:= .inLoop c) rfl (fun _ _=> .inl (by simp)) harr⟩
 |ret=>exact⟨_,a₁,w₁,hq,.pass (x:= .inLoop c) rfl (fun _ _=> .inl (by simp)) harr⟩
 |panic ch=>exact⟨_,a₁,w₁,hq,.pass (x:= .inLoop c) rfl (fun _ _=> .inl (by simp)) harr⟩
 |outgrown=>exact⟨_,a₁,w₁,hq,.pass (x:= .inLoop c) rfl (fun _ _=> .inl (by simp)) harr⟩
theorem Xn {F:Fence} {n:Nat} {c:Code} {Q:Exit->Act->World->Prop} {a:Act} {w:World} (h:Vi F n P c Q a w):(Code.loop c).wpIn F n P Q a w:=by
 intro b k cs hro hb hr;obtain⟨e,a',w',hq,harr⟩:=h b k cs hro hb hr;exact⟨e,a',w',hq,.of_steps (.one (fenced_calm hb hr rfl) stepR_loop) harr⟩
theorem amY {f:Operand} {ps:Array Tmp} {x y:Code} {e:AE} {p q:Nat} {ax ay:AC} {mm:Nat} {w0:World} {G0:Gh} {n0:Nat} {Q:Post} {σ:Nat->PV} {H:AH} {G:Gh} {a:Act} {w:World} (he:cop f=some e) (hps:ps.toList=[p,q]) (hp:p<N) (hq:q<N)
 (ihx: ∀(ro:Option Nat) (mm:Nat) (w0:World) (G0:Gh) (n0:Nat) (Q:Post) (σ:Nat->PV) (H:AH) (G:Gh) (a:Act) (w:World),W P ax Q σ H->Rl B k0 N σ H G a w->Since B w0 G0 n0 H G w->x.wpIn (Wd ro) mm P (QOf B k0 N w0 G0 n0 Q) a w)
 (ihy: ∀(ro:Option Nat) (mm:Nat) (w0:World) (G0:Gh) (n0:Nat) (Q:Post) (σ:Nat->PV) (H:AH) (G:Gh) (a:Act) (w:World),W P ay Q σ H->Rl B k0 N σ H G a w->Since B w0 G0 n0 H G w->y.wpIn (Wd ro) mm P (QOf B k0 N w0 G0 n0 Q) a w)
 (hW:W P (.rf e p q ax ay) Q σ H) (hR:Rl B k0 N σ H G a w) (hS:Since B w0 G0 n0 H G w):(Code.rangeFunc f ps x y).wpIn (Wd none) mm P (QOf B k0 N w0 G0 n0 Q) a w:=by
 simp only [W]at hW;split at hW
 · rename_i g id hf;obtain⟨sz,agg,es,c,hent,hbk,hsz0,aE3,hlen,hsz,hB⟩:=hW;have hV:=fO hR.sl he;rw [hf]at hV;obtain rfl:ps=#[p,q]:=by
    apply Array.ext'
    simpa using hps
   generalize hfv:a.eval f=fv at hV;cases hV with
   |fn _ _ _ vs us h1 h2 h3 h4=>
   have hvs:vs=#[]:=Array.eq_empty_of_size_eq_zero (by simpa using h1);subst hvs;obtain⟨u0,rfl⟩: ∃u0,us=#[u0]:=by
    have:us.toList.length=1:=by simpa using h3
    match us,this with
    |⟨[u0]⟩,_=>exact⟨u0,rfl⟩
   have hu:=h4 0 (.ref id 0) u0 rfl rfl;cases hu with
   |ref _ _ bb hid hmid=>
   let rec' (fn:FuncId) (st:LoopState) (pe:Option Code):Loop:={state:=st,pending:=pe,fn,tmps:=a.tmps,params:=#[p,q],assign:=x,body:=y,defers:=w.heap.size}
   refine wpIn_rangeFunc ?_;intro fn _
   let W1:=(w.alloc (.deferred (some []))).alloc (.loop (rec' fn .ready none))
   have aLn:W1.heap.size=w.heap.size+2:=by simp [W1]
   have hL1:W1.heap[w.heap.size+1]? =some (.loop (rec' fn .ready none)):=by
    have:=World.alloc_heap_new (w.alloc (.deferred (some []))) (.loop (rec' fn .ready none));rwa [World.size_alloc]at this
   have hD1:W1.heap[w.heap.size]? =some (.deferred (some [])):=(heap_alloc_old _ _ _ (by simp)).trans (World.alloc_heap_new w _);have aE4:Tr B w W1:=(Tr.alloc w _).trans (Tr.alloc _ _);have hM1:HM B H G W1:=(hR.hm.Vf _).Vf _
   let vals:=es.map (E9 agg)
   let step:Post->(Nat->PV)->AH->Prop:=fun Q' σ' H'=>W P ax (JN (fun sF fu=>W P ay Q' sF fu)) σ' H'
   let J:Nat->World->Prop:=fun k W=> ∃H' G',GD step Q σ id [.ah es c] p q vals k H'/\HM B H' G' W/\Since B w G H.next H' G' W/\W.heap[w.heap.size+1]? =some (.loop (rec' fn .ready none))/\W.heap[w.heap.size]? =some (.deferred (some []))
   let Jx:World->Prop:=fun W=> ∃code H' G',((∃i,code=Code.exit i/\Q (.exit i) σ H')\/(code=Code.ret/\Q .ret σ H'))/\HM B H' G' W/\Since B w G H.next H' G' W/\W.heap[w.heap.size+1]? =some (.loop (rec' fn .done (some code)))/\W.heap[w.heap.size]? =some (.deferred (some []))
   have hrun:(invoke (Target.fn (.func g) #[.pointer (some ⟨bb,0,none⟩)]) #[.func (.yield (w.heap.size+1)) #[] #[]]).run P W1= .ok (.enter g #[.func (.yield (w.heap.size+1)) #[] #[],.pointer (some ⟨bb,0,none⟩)]) W1:=by
    obtain⟨fn',hfn',hbody,hname⟩:=hent;have hb: ¬(fn'.body=none):=by intro hq;rw [hq]at hbody;cases hbody
    have hn: ¬(fn'.name= "runtime.NumGoroutine"):=by simpa using hname
    simp [invoke,callFunc,hfn',hn,hb]
   refine⟨w.heap.size+1,[{target:= .collected w.heap.size,args:=#[]}],W1,{target:= .fn (.func g) #[.pointer (some ⟨bb,0,none⟩)],args:=#[.func (.yield (w.heap.size+1)) #[] #[]]},W1,g,
    #[.func (.yield (w.heap.size+1)) #[] #[],.pointer (some ⟨bb,0,none⟩)],W1,run_enterLoop_outer _ _ _ _ _,?_,fun _ _=>trivial,hrun,fun hd=>absurd hd (by simp [Fence.wide]),?_⟩
   · simp only [resolve,rangeCall,hfv];simp [go_sem]
   · refine(hbk (w.heap.size+1) (mm -1) ⟨bb,0,none⟩ es.length J Jx W1 hlen ?_ ?_ ⟨H,G,hB,hM1,⟨aE4,Ext.refl B _ G,R0 _⟩,hL1,hD1⟩).mono ?_
     · obtain⟨u,hu1,hu2⟩:=abM hM1 aE3 hmid;cases hu2 with
       |ah _ _ s ad cap _ _ _ _ _ _=>exact⟨ad,cap,hu1⟩
     ·
       rintro k W ⟨H',G',hBk,hM',hS',hL',hD'⟩;obtain⟨ho,v,hvk,hst⟩:=hBk;have hm':G'.m id=some bb:=(hS'.ex.m id hid).trans hmid;obtain⟨u,hu1,hu2⟩:=abM hM' ho hm';have hcs: ∃cs,es[k]? =some cs/\E9 agg cs=v:=by simpa [J0,Z1,vals]using hvk
       obtain⟨cs,hcs1,hcs2⟩:=hcs;have amZ:k<es.length:=(S0.1 hcs1).1;have ahI:cs.length=sz:=hsz cs (B1 hcs1);cases hu2 with
       |ah _ _ s ad cap f g1 g2 g3 g4 g5=>
       obtain rfl:s=sz:=(g1 k cs hcs1).symm.trans ahI;obtain⟨b,o,rfl,hF⟩:=g3 (fun h=>by rw [h]at amZ;simp at amZ)
       let vs:Array Value:=((List.range s).map (f k)).toArray
       have am0:vs.size=s:=by simp [vs]
       have ahJ: ∀j,j<s->vs[j]? =some (f k j):=fun j hj=>by simp [vs,hj]
       have hVe:V G' H'.next v (elemV agg vs):=by
        rw [<-hcs2];unfold E9 elemV;cases agg with
        |true=>
         refine .agg cs vs (by rw [am0,ahI]) fun j c' x ec ex=> ?_;have hj:j<s:=by rw [<-ahI];exact(S0.1 ec).1
         rw [ahJ j hj]at ex;cases ex;exact g4 k cs j c' hcs1 ec
        |false=>
         have h0:=ahJ 0 hsz0;have hc0:cs[0]? =some (cs.headD .any):=by
          cases cs with
          |nil=>simp at ahI;omega
          |cons c0 l=>rfl
         have:=g4 k cs 0 _ hcs1 hc0;simpa [T6,h0]using this
       refine⟨b,o,cap,vs,hu1,amZ,am0,fun j x ex=> ?_,?_⟩
       · have hj:j<s:=by rw [<-am0];exact(Z2.1 ex).1
         rw [ahJ j hj]at ex;cases ex;exact hM'.su _ _ (hF k cs hcs1 j (cs[j]'(by omega)) (by simp))
       · refine⟨fn,_,x,y,run_yield hL' rfl,?_⟩;refine roundIn_of_wpIn (F:=Wd none) trivial ?_;have hsl:Sl G' H'.next (upd (upd σ (some p) (.int .i64 k)) (some q) v) {tmps:=((#[p,q].zip #[Value.int .i64 k,elemV agg vs]).foldl (fun t (x:Nat×Value)=>t.setIfInBounds x.1 x.2) a.tmps),defers:=[]}:=by
          have s1:=hR.sl.upd (N:=N) hS'.ex hS'.le hR.sz (d:=some p) (by simpa [Mf]using hp) (.int .i64 (k:Int));have s2:=s1.upd (N:=N) (Ext.refl B _ _) (R0 _) (by rw [abF];exact hR.sz) (d:=some q) (by simpa [Mf]using hq) hVe;have hz:((#[p,q].zip #[Value.int .i64 k,elemV agg vs]).foldl (fun t (x:Nat×Value)=>t.setIfInBounds x.1 x.2) a.tmps)=((a.put (some p) (.int .i64 (k:Int))).put (some q) (elemV agg vs)).tmps:=by simp [Act.put]
          rw [hz];exact⟨s2.1,s2.2⟩
         have hmk:Marks k0 [] W:=⟨E1 hR.df.1 hS'.tr.size,[],.nil,rfl,by simp⟩
         have hRr:Rl B k0 N (upd (upd σ (some p) (.int .i64 k)) (some q) v) H' G' {tmps:=((#[p,q].zip #[Value.int .i64 k,elemV agg vs]).foldl (fun t (x:Nat×Value)=>t.setIfInBounds x.1 x.2) a.tmps),defers:=[]} W:=
          ⟨hsl,by simp [hR.sz],hmk,hR.up.tr hS'.tr,hM'⟩
         refine Code.wpIn_mono ?_ (ihx (some (w.heap.size+1)) (mm -1) W G' H'.next _ _ _ _ _ _ hst hRr (Since.refl B W G' H'));rintro e1 a1 w1 ⟨e1,σ1,H1,G1,rfl,hq1,hR1,hS1⟩;cases e1 with
         |exit i=>exact hq1.elim
         |ret=>exact hq1.elim
         |normal=>
          have hL1':=hS1.tr.JG _ _ hL' rfl;have aE5:=hS1.tr.JG _ _ hD' rfl;have t1:Since B w G H.next H1 G1 w1:=hS'.trans hS1;refine⟨_,run_beginRound hL1' rfl,?_⟩
          have aE6:Rl B k0 N σ1 H1 G1 a1 (w1.putObj (w.heap.size+1) (.loop {rec' fn .ready none with state:= .busy})):=
           ⟨hR1.sl,hR1.sz,hR1.df.mq hL1' (by simp),hR1.up.mq _ _,hR1.hm.mq hL1' rfl rfl⟩
          have hL2:(w1.putObj (w.heap.size+1) (.loop {rec' fn .ready none with state:= .busy})).heap[w.heap.size+1]? =some (.loop {rec' fn .ready none with state:= .busy}):=World.putObj_heap_same (Z2.1 hL1').1;have hD2:(w1.putObj (w.heap.size+1) (.loop {rec' fn .ready none with state:= .busy})).heap[w.heap.size]? =some (.deferred (some [])):=(World.putObj_heap_other (by omega)).trans aE5;have t2:=t1.mq (r:=w.heap.size+1) (o':= .loop {rec' fn .ready none with state:= .busy}) (by omega);refine Code.wpIn_mono ?_ (ihy (some (w.heap.size+1)) (mm -1) _ G1 H1.next _ _ _ _ _ _ hq1 aE6 (Since.refl B _ G1 H1));rintro e2 a2 w3 ⟨e2,σ2,H2,G2,rfl,hq2,hR2,hS2⟩;have hL3:=hS2.tr.JG _ _ hL2 rfl;have hD3:=hS2.tr.JG _ _ hD2 rfl;have t3:Since B w G H.next H2 G2 w3:=t2.trans hS2
          have fin: ∀(o':Obj),o'.isCells=false->HM B H2 G2 (w3.putObj (w.heap.size+1) o')/\Since B w G H.next H2 G2 (w3.putObj (w.heap.size+1) o')/\(w3.putObj (w.heap.size+1) o').heap[w.heap.size+1]? =some o'/\(w3.putObj (w.heap.size+1) o').heap[w.heap.size]? =some (.deferred (some [])):=
           fun o' ho'=>⟨hR2.hm.mq hL3 rfl ho',t3.mq (by omega),World.putObj_heap_same (Z2.1 hL3).1,(World.putObj_heap_other (by omega)).trans hD3⟩
          cases e2 with
          |normal=>
           refine⟨_,_,run_endRound none hL3,.inl ⟨rfl,H2,G2,hq2,?_⟩⟩;exact fin _ rfl
          |exit i=>
           refine⟨_,_,run_endRound (some (.exit i)) hL3,.inr ⟨rfl,.exit i,H2,G2,.inl ⟨i,rfl,hq2⟩,?_⟩⟩;exact fin _ rfl
          |ret=>
           refine⟨_,_,run_endRound (some .ret) hL3,.inr ⟨rfl,.ret,H2,G2,.inr ⟨rfl,hq2⟩,?_⟩⟩;exact fin _ rfl
     · rintro ex W' ⟨⟨v,rfl⟩,hj⟩
       have key: ∀(H':AH) (G':Gh) (st:LoopState) (pe:Option Code),HM B H' G' W'->Since B w G H.next H' G' W'->W'.heap[w.heap.size+1]? =some (.loop (rec' fn st pe))->W'.heap[w.heap.size]? =some (.deferred (some []))->
        Rl B k0 N σ H' G' {a with defers:=[{target:= .collected w.heap.size,args:=#[]}]++a.defers} (W'.putObj (w.heap.size+1) (.loop {rec' fn st pe with state:= .exhausted}))/\
        Since B w0 G0 n0 H' G' (W'.putObj (w.heap.size+1) (.loop {rec' fn st pe with state:= .exhausted})):=by
        intro H' G' st pe hM' hS' hL' hD';have hu:Up B W':=hR.up.tr hS'.tr;obtain⟨m0,rs,m1,m2,m3⟩:=hR.df;refine⟨⟨?_,hR.sz,?_,hu.mq _ _,hM'.mq hL' rfl rfl⟩,(hS.trans hS').mq ?_⟩
        · have:=hR.sl.mono hS'.ex hS'.le;exact⟨this.1,this.2⟩
        · refine⟨by rw [World.putObj_size];exact E1 m0 hS'.tr.size,w.heap.size::rs,lA.2 ⟨fun hm=> ?_,m1⟩,by simp [m2],fun r hr=> ?_⟩
          · have:=(Z2.1 (m3 _ hm).2).1;omega
          · rcases M1.1 hr with rfl|hr
            · exact⟨m0,(World.putObj_heap_other (by omega)).trans hD'⟩
            · have hlt:=(Z2.1 (m3 _ hr).2).1;exact⟨(m3 r hr).1,(World.putObj_heap_other (by omega)).trans (hS'.tr.JG _ _ (m3 r hr).2 rfl)⟩
        · have:=hS.tr.size;omega
       rcases hj with⟨H',G',hB0,hM',hS',hL',hD'⟩|⟨code,H',G',hcode,hM',hS',hL',hD'⟩
       · obtain⟨r1,r2⟩:=key H' G' _ _ hM' hS' hL' hD';exact⟨none,_,run_endLoop hL' (by simp [rec']),⟨.normal,σ,H',G',rfl,hB0,r1,r2⟩⟩
       · obtain⟨r1,r2⟩:=key H' G' _ _ hM' hS' hL' hD';refine⟨some code,_,run_endLoop hL' (by simp [rec']),?_⟩;rcases hcode with⟨i,rfl,hQ⟩|⟨rfl,hQ⟩
         · exact wpIn_exit ⟨.exit i,σ,H',G',rfl,hQ,r1,r2⟩
         · exact wpIn_ret ⟨.ret,σ,H',G',rfl,hQ,r1,r2⟩
 · cases hW
theorem as0 (Ez:P.follows .mixedOrders=true) (dc:Nat->Bool): ∀(c:Code) (ro:Option Nat) (mm:Nat) (w0:World) (G0:Gh) (n0:Nat) (ac:AC) (Q:Post) (σ:Nat->PV) (H:AH) (G:Gh) (a:Act) (w:World),(ro=none\/ac.Ru=true)->comp P rm N dc c=some ac->W P ac Q σ H->
 Rl B k0 N σ H G a w->Since B w0 G0 n0 H G w->c.wpIn (Wd ro) mm P (QOf B k0 N w0 G0 n0 Q) a w:=by
 intro c
 induction c with
 |skip=>
  intro ro mm w0 G0 n0 ac Q σ H G a w hro hc hW hR hS;simp [comp]at hc;subst hc;exact wpIn_skip ⟨.normal,σ,H,G,rfl,hW,hR,hS⟩
 |region rid ops draw=>
  intro ro mm w0 G0 n0 ac Q σ H G a w hro hc hW hR hS;unfold comp at hc;split at hc
  · rename_i az has;have hQ': ∀σ H G a w,Q .normal σ H->Rl B k0 N σ H G a w->Since B w0 G0 n0 H G w->QOf B k0 N w0 G0 n0 Q .normal a w:=fun σ H G a w h1 h2 h3=>⟨.normal,σ,H,G,rfl,h1,h2,h3⟩
    cases draw with
    |false=>
     simp at hc;subst hc;exact wpIn_region_list (CX hQ' ops.toList az σ H G a w has hW hR hS)
    |true=>
     simp only [A0]at hc;split at hc
     · rename_i hok;cases hc;obtain⟨C,hC0,hW⟩:=hW;obtain⟨val,hp,h0,h1,h2,h3⟩:=Vb _ σ H hC0 hW;generalize hpr:((az.take (splitAt ops.toList)).map fun o=>(o,Mh dc o.k))=pr at*
       have hsplit:pr.map (·.1)++az.drop (splitAt ops.toList)=az:=by
        rw [<-hpr,E7];have:((fun x:aD×Bool=>x.1)∘fun o=>(o,Mh dc o.k))=id:=rfl;rw [this,List.map_id,w6]
       have hlen:=(sD has).1;have Rv:pr.length<=ops.toList.length:=by rw [<-hlen,<-hpr];simp;omega
       refine wpIn_region_any Ez ?_;have hsl:nE pr val (bQ (Array.replicate ops.size false)) σ=σ:=by
        funext t
        rw [yc pr val _ σ 0 t (fun i o e _=>⟨fun h=>by
         exfalso;simp only [bQ,T6]at h;rw [UB]at h;split at h<;>simp at h,fun h=>by omega⟩),Rq]
       have hno: ∀i,¬bQ (Array.replicate ops.size false) i:=fun i h=>by
        simp only [bQ,T6]at h;rw [UB]at h;split at h<;>simp at h
       have hRd:Rl B k0 N (nE pr val (bQ (Array.replicate ops.size false)) σ) (hp 0) G a {w with drawn:=w.drawn+1}:=by
        rw [hsl,h0];exact⟨hR.sl,hR.sz,hR.df.tr (B:=B) ⟨R0 _,fun _ _ _=>rfl,rfl,rfl,rfl,fun _ _ h _=>h⟩,hR.up,hR.hm.drew⟩
       have hSd:Since B w0 G0 n0 (hp 0) G {w with drawn:=w.drawn+1}:=by
        rw [h0];exact⟨⟨hS.tr.size,hS.tr.same,hS.tr.os,hS.tr.tape,hS.tr.output,hS.tr.JG⟩,hS.ex,hS.le⟩
       exact asZ hQ' (by rw [hsplit];exact has) (ahC Rv (Bool.and_eq_true_iff.1 hok).1) h1 h2 h3 ops.size (Array.replicate ops.size false) 0 G a _ (N3 _) (by simp) (by simp [List.countP_replicate]) (fun i h=>absurd h (hno i)) (fun j o e h=>absurd h (hno j))
        (fun i o e=>⟨fun h=>absurd h (hno i),fun h=>by omega⟩) hRd hSd
     · split at hc
       · rename_i hok;cases hc;obtain⟨val,hW⟩:=hW;generalize hpr:((az.take (splitAt ops.toList)).map fun o=>(o,Mh dc o.k))=pr at*
         have hsplit:pr.map (·.1)++az.drop (splitAt ops.toList)=az:=by
          rw [<-hpr,E7];have:((fun x:aD×Bool=>x.1)∘fun o=>(o,Mh dc o.k))=id:=rfl;rw [this,List.map_id,w6]
         have hlen:=(sD has).1;have Rv:pr.length<=ops.toList.length:=by rw [<-hlen,<-hpr];simp;omega
         refine wpIn_region_any Ez ?_;have hno: ∀i,¬bQ (Array.replicate ops.size false) i:=fun i h=>by
          simp only [bQ,T6]at h;rw [UB]at h;split at h<;>simp at h
         have hsl:nE pr val (bQ (Array.replicate ops.size false)) σ=σ:=by
          funext t
          rw [yc pr val _ σ 0 t (fun i o e _=>⟨fun h=>absurd h (hno i),fun h=>by omega⟩),Rq]
         have hRd:Rl B k0 N (nE pr val (bQ (Array.replicate ops.size false)) σ) H G a {w with drawn:=w.drawn+1}:=by
          rw [hsl];exact⟨hR.sl,hR.sz,hR.df.tr (B:=B) ⟨R0 _,fun _ _ _=>rfl,rfl,rfl,rfl,fun _ _ h _=>h⟩,hR.up,hR.hm.drew⟩
         have hSd:Since B w0 G0 n0 H G {w with drawn:=w.drawn+1}:=⟨⟨hS.tr.size,hS.tr.same,hS.tr.os,hS.tr.tape,hS.tr.output,hS.tr.JG⟩,hS.ex,hS.le⟩
         exact avx hQ' (by rw [hsplit];exact has) (afk Rv hok) _ _ val H hW (fun i hi=>(JM i).1 hi) ops.size (Array.replicate ops.size false) G a _ (by simp) (by simp [List.countP_replicate]) (fun i h=>absurd h (hno i)) (fun j o e h=>absurd h (hno j))
          (fun i o e=>⟨fun h=>absurd h (hno i),fun h=>absurd ((JM i).2 ⟨o,e⟩) h⟩) hRd hSd
       · cases hc
  · cases hc
 |seq x y ihx ihy=>
  intro ro mm w0 G0 n0 ac Q σ H G a w hro hc hW hR hS;unfold comp at hc;split at hc
  · rename_i ax ay hx hy;cases hc;simp only [W]at hW;refine wpIn_seq (Code.wpIn_mono ?_ (ihx ro mm w0 G0 n0 ax _ σ H G a w (hro.imp_right fun h=>(z1 _ _▸h:_/\_).1) hx hW hR hS));rintro e a' w' ⟨e',σ',H',G',rfl,hq,hR',hS'⟩;cases e' with
    |normal=>exact ihy ro mm w0 G0 n0 ay Q σ' H' G' a' w' (hro.imp_right fun h=>(z1 _ _▸h:_/\_).2) hy hq hR' hS'
    |exit i=>exact⟨.exit i,σ',H',G',rfl,hq,hR',hS'⟩
    |ret=>exact⟨.ret,σ',H',G',rfl,hq,hR',hS'⟩
  · cases hc
 |cond c x y ihx ihy=>
  intro ro mm w0 G0 n0 ac Q σ H G a w hro hc hW hR hS;unfold comp at hc;split at hc
  · rename_i e ax ay he hx hy;cases hc;simp only [W]at hW;split at hW
    · rename_i t ht;have hV:=fO hR.sl he;rw [ht]at hV;generalize hv:a.eval c=v at hV;cases hV;cases t with
      |true=>exact wpIn_cond_true hv (ihx ro mm w0 G0 n0 ax Q σ H G a w (hro.imp_right fun h=>(z1 _ _▸h:_/\_).1) hx (hW.1 rfl) hR hS)
      |false=>exact wpIn_cond_false hv (ihy ro mm w0 G0 n0 ay Q σ H G a w (hro.imp_right fun h=>(z1 _ _▸h:_/\_).2) hy (hW.2 rfl) hR hS)
    · cases hW
  · cases hc
 |block id x ih=>
  intro ro mm w0 G0 n0 ac Q σ H G a w hro hc hW hR hS;unfold comp at hc;split at hc
  · rename_i ax hx;cases hc;simp only [W]at hW;refine wpIn_block (Code.wpIn_mono ?_ (ih ro mm w0 G0 n0 ax _ σ H G a w hro hx hW hR hS));rintro e a' w' ⟨e',σ',H',G',rfl,hq,hR',hS'⟩;cases e' with
    |normal=>exact⟨.normal,σ',H',G',rfl,hq,hR',hS'⟩
    |exit i=>
     simp only [Ol]at hq;simp only [avy,Exit.inBlock];split
     · rename_i hi;rw [if_pos hi]at hq;exact⟨.normal,σ',H',G',rfl,hq,hR',hS'⟩
     · rename_i hi;rw [if_neg hi]at hq;exact⟨.exit i,σ',H',G',rfl,hq,hR',hS'⟩
    |ret=>exact⟨.ret,σ',H',G',rfl,hq,hR',hS'⟩
  · cases hc
 |loop x ih=>
  intro ro mm w0 G0 n0 ac Q σ H G a w hro hc hW hR hS;unfold comp at hc;split at hc
  · rename_i ax hx;cases hc;have key:=hW (fun σ H=> ∀G a w,Rl B k0 N σ H G a w->Since B w0 G0 n0 H G w->Vi (Wd ro) mm P x (QOf B k0 N w0 G0 n0 Q) a w) ?_
    · exact Xn (key G a w hR hS)
    · intro σ H hst G a w hR hS;refine abN (Code.wpIn_mono ?_ (ih ro mm w0 G0 n0 ax _ σ H G a w hro hx hst hR hS));rintro e a' w' ⟨e',σ',H',G',rfl,hq,hR',hS'⟩;cases e' with
      |normal=>exact hq G' a' w' hR' hS'
      |exit i=>exact⟨.exit i,σ',H',G',rfl,hq,hR',hS'⟩
      |ret=>exact⟨.ret,σ',H',G',rfl,hq,hR',hS'⟩
  · cases hc
 |exit id=>
  intro ro mm w0 G0 n0 ac Q σ H G a w hro hc hW hR hS;simp [comp]at hc;subst hc;exact wpIn_exit ⟨.exit id,σ,H,G,rfl,hW,hR,hS⟩
 |ret=>
  intro ro mm w0 G0 n0 ac Q σ H G a w hro hc hW hR hS;simp [comp]at hc;subst hc;exact wpIn_ret ⟨.ret,σ,H,G,rfl,hW,hR,hS⟩
 |rangeFunc f ps x y ihx ihy=>
  intro ro mm w0 G0 n0 ac Q σ H G a w hro hc hW hR hS;unfold comp at hc;split at hc
  · rename_i e p q ax ay he hps hx hy;split at hc
    · rename_i hcond;cases hc;have aE7:ro=none:=hro.resolve_right (by simp [AC.Ru]);subst aE7;exact amY he hps hcond.1 hcond.2.1 (fun ro mm w0 G0 n0 Q σ H G a w=>ihx ro mm w0 G0 n0 ax Q σ H G a w (.inr hcond.2.2.1) hx) (fun ro mm w0 G0 n0 Q σ H G a w=>ihy ro mm w0 G0 n0 ay Q σ H G a w (.inr hcond.2.2.2) hy) hW hR hS
    · cases hc
  · cases hc
 |scope=>intro ro mm w0 G0 n0 ac Q σ H G a w hro hc;simp [comp]at hc
 |label=>intro ro mm w0 G0 n0 ac Q σ H G a w hro hc;simp [comp]at hc
 |goto=>intro ro mm w0 G0 n0 ac Q σ H G a w hro hc;simp [comp]at hc
 |refuse=>intro ro mm w0 G0 n0 ac Q σ H G a w hro hc;simp [comp]at hc
end
end Go.VL
end
section
namespace Go.VL
variable [Glob]
inductive RV where
 |tmp (t:Nat)
 |cell (t sz:Nat) (agg:Bool)
def ahK (σ:Nat->PV) (H:AH):RV->Option PV
 | .tmp t=>some (σ t)
 | .cell t sz agg=>CQ H sz agg (σ t)
def EA (σ:Nat->PV) (H:AH):List RV->Option (List PV)
 |[]=>some []
 |r::l=>match ahK σ H r,EA σ H l with
  |some p,some ps=>some (p::ps)
  |_,_=>none
def packed:List PV->PV
 |[p]=>p
 |ps=> .dn ps
def Iy (rs:List RV) (K:PV->AH->Prop):Post:=fun e σ H=>match e with
 | .exit _=>False
 |_=>match EA σ H rs with
  |some ps=>K (packed ps) H
  |none=>False
def Iz (P:Program):List ResultVar->Option (List RV)
 |[]=>some []
 | .tmp t::l=>(Iz P l).map fun r=> .tmp t::r
 | .cell a t::l=>match P.underlying t,sizeT P t,Iz P l with
  |some _,some s,some r=>some (.cell a s (Ew P t)::r)
  |_,_,_=>none
def KX (args:List PV):Nat->PV:=fun t=>(args[t]?).getD .any
structure aM (P:Program) (dc:Nat->Bool) (rm:Bool) (f:FuncId) (n:Nat) (rs:List RV) (ac:AC):Prop where
 mix:P.follows .mixedOrders=true
 ok: ∃fn c,P.funcs[f]? =some fn/\fn.body=some c/\(fn.name== "runtime.NumGoroutine")=false/\fn.ntmps=n/\comp P rm n dc c=some ac/\Iz P fn.results.toList=some rs

theorem aQ {P:Program} {dc:Nat->Bool} {rm:Bool} {f:FuncId} {n:Nat} {rs:List RV} {ac:AC} {fn:Func} {c:Code} (h:P.funcs[f]? =some fn) (h1:P.follows .mixedOrders=true:=by kernel_rfl) (h2:fn.body=some c:=by rfl) (h3:(fn.name== "runtime.NumGoroutine")=false:=by kernel_rfl) (h4:fn.ntmps=n:=by rfl) (h5:comp P rm n dc c=some ac:=by kernel_rfl) (h6:Iz P fn.results.toList=some rs:=by kernel_rfl):aM P dc rm f n rs ac:=⟨h1,fn,c,h,h2,h3,h4,h5,h6⟩
section
variable {P:Program} {B:Nat->Prop} {G:Gh} {H:AH} {σ:Nat->PV} {a:Act} {w:World}
theorem Rw (hs:Sl G H.next σ a) (hM:HM B H G w): ∀{l:List ResultVar} {rs:List RV} {ps:List PV},Iz P l=some rs->EA σ H rs=some ps->
 ∃vs:List Value,(l.mapM (fun| .tmp t=>pure (a.tmps.getD t undef)| .cell x t=>do loadVar t (<-asAddr (a.tmps.getD x undef)):ResultVar->Sem Value)).run P w= .ok vs w/\vs.length=ps.length/\
  ∀(j:Nat) (p:PV) (v:Value),ps[j]? =some p->vs[j]? =some v->V G H.next p v
 |[],rs,ps,h,hr=>by
  simp [Iz]at h;subst h;simp [EA]at hr;subst hr;exact⟨[],by simp,rfl,by simp⟩
 | .tmp t::l,rs,ps,h,hr=>by
  simp only [Iz,Z1]at h;obtain⟨r,h1,rfl⟩:=h;unfold EA at hr;split at hr
  · rename_i p ps' hp hps;cases hr;simp only [ahK,L1]at hp;subst hp;obtain⟨vs,g1,g2,g3⟩:=Rw hs hM h1 hps;refine⟨a.tmps.getD t undef::vs,?_,by simp [g2],fun j p v e e'=> ?_⟩
    · simp only [List.mapM_cons,Sem.run_bind,Sem.run_pure,Result.andThen_ok,g1]
    · cases j with
      |zero=>simp only [N2,L1]at e e';subst e;subst e';exact hs.2 t
      |succ j=>simp at e e';exact g3 j p v e e'
  · cases hr
 | .cell x t::l,rs,ps,h,hr=>by
  unfold Iz at h;split at h
  · rename_i d s r hd hsz h1;cases h;unfold EA at hr;split at hr
    · rename_i p ps' hp hps;cases hr;simp only [ahK]at hp;obtain⟨v0,q1,q2⟩:=U4 (P:=P) hM hsz (by simp [hd]) (hs.2 x) hp;obtain⟨vs,g1,g2,g3⟩:=Rw hs hM h1 hps;have q1':(do loadVar t (<-asAddr (a.tmps.getD x undef)):Sem Value).run P w= .ok v0 w:=by
       generalize a.tmps.getD x undef=u at q1;cases u with
       |pointer ad=>
            cases ad with
            |none=>simp [Instr.loadAt,Instr.sureAddr]at q1
            |some ad=>simpa [Instr.loadAt,Instr.sureAddr,asAddr]using q1
       |_=>simp [Instr.loadAt,Instr.sureAddr]at q1
      refine⟨v0::vs,?_,by simp [g2],fun j p v e e'=> ?_⟩
      · simp only [List.mapM_cons,Sem.run_bind,Sem.run_pure]at q1'⊢;rw [q1'];simp only [Result.andThen_ok,g1]
      · cases j with
        |zero=>simp only [N2,L1]at e e';subst e;subst e';exact q2
        |succ j=>simp at e e';exact g3 j p v e e'
    · cases hr
  · cases h
theorem afm (hs:Sl G H.next σ a) (hM:HM B H G w) {fn:Func} {rs:List RV} {ps:List PV} (h:Iz P fn.results.toList=some rs) (hr:EA σ H rs=some ps):
 ∃v,(results fn a.tmps).run P w= .ok v w/\V G H.next (packed ps) v:=by
 obtain⟨vs,h1,h2,h3⟩:=Rw hs hM h hr;have hrun:(fn.results.mapM (fun| .tmp t=>pure (a.tmps.getD t undef)| .cell x t=>do loadVar t (<-asAddr (a.tmps.getD x undef)):ResultVar->Sem Value)).run P w= .ok vs.toArray w:=by
  rw [Array.mapM_eq_mapM_toList,Sem.run_map,h1];rfl
 refine⟨if h:vs.toArray.size=1 then vs.toArray[0]else .tuple vs.toArray,?_,?_⟩
 · unfold results;rw [Sem.run_bind];exact(congrArg (fun r:Result (Array Value)=>r.andThen fun a w'=>Sem.run P (pure (if h:a.size=1 then a[0]else Value.tuple a)) w') hrun).trans rfl
 · match ps,vs,h2,h3 with
   |[],[],_,_=>exact .dn [] #[] rfl (by simp)
   |[p],[v],_,h3=>exact h3 0 p v rfl rfl
   |p::q::ps,u::v::vs,h2,h3=>
    have: ¬((u::v::vs).toArray.size=1):=by simp
    rw [dif_neg this];exact .dn _ _ (by simpa using h2) (fun j c x e e'=>h3 j c x e (by simpa using e'))
theorem Om {ro:Option Nat} {mm:Nat} {fn:Func} {tmps:Array Value} {R:Ending->World->Prop}: ∀(rs:List Nat) (w:World),rs.Nodup->(∀r∈rs,w.heap[r]? =some (.deferred (some [])))->HM B H G w->
 (∀w',HM B H G w'->w.heap.size=w'.heap.size->(∀k,k∉rs->w'.heap[k]? =w.heap[k]?)->w'.os=w.os->w'.tape=w.tape->w'.output=w.output-> ∃v,(results fn tmps).run P w'= .ok v w'/\R (.returned v) w')->
 LeavesInM (Wd ro) mm P fn tmps R (rs.map fun r=>{target:= .collected r,args:=#[]}) .returning w
 |[],w,_,_,hM,h=>h w hM rfl (fun _ _=>rfl) rfl rfl rfl
 |r::rs,w,hn,hr,hM,h=>by
  have hr0:=hr r (A1 ..);rw [lA]at hn;refine⟨by simp,.inl ⟨r,w.putObj r (.deferred none),rfl,run_takeDeferred hr0,Om rs _ hn.2 (fun r' hr'=> ?_) (hM.mq hr0 rfl rfl) fun w' h1 h2 h3 h4 h5 h6=> ?_⟩⟩
  · have hne:r'≠r:=fun e=>hn.1 (e▸hr');exact(World.putObj_heap_other hne).trans (hr r' (I1 _ hr'))
  · refine h w' h1 (by rw [<-h2];simp) (fun k hk=> ?_) h4 h5 h6;rw [h3 k (fun e=>hk (I1 _ e))];have hne:k≠r:=fun e=>hk (by rw [e];exact A1 ..);exact World.putObj_heap_other hne
theorem aL {rm:Bool} {dc:Nat->Bool} {f:FuncId} {n:Nat} {rs:List RV} {ac:AC} {args:List PV} {K:PV->AH->Prop} (hf:aM P dc rm f n rs ac) (hl:args.length<=n) (hW:W P ac (Iy rs K) (KX args) H):aW P f args H K:=by
 obtain⟨Ez,fn,c,h1,h2,h3,h4,h5,h6⟩:=hf;refine⟨⟨fn,h1,by simp [h2],h3⟩,fun B G w vs hU hM hv=> ?_⟩;refine(U9 (ro:=none) (n:=0)).1 (callsIn_of_wp_marks h1 h2 trivial ?_);have hsz:vs.size=args.length:=hv.1
 let a0:Act:={tmps:=vs++Array.replicate (fn.ntmps -vs.size) undef,defers:=[]}
 have hR:Rl B w.heap.size n (KX args) H G a0 w:=by
  refine⟨⟨hM.glob,fun t=> ?_⟩,by simp [a0];omega,⟨R0 _,[],.nil,rfl,by simp⟩,hU,hM⟩;unfold KX;cases ht:args[t]? with
  |none=>exact .any _
  |some p=>
   have hlt:t<args.length:=by
    rcases D1 t args.length with h'|h'
    · exact h'
    · rw [R1 h']at ht;cases ht
   have e:a0.tmps.getD t undef=vs[t]'(by omega):=by
    simp only [a0,T6];rw [B6 (by omega)];simp [hsz,hlt]
   rw [e];exact hv.2 t p _ ht (by simp)
 refine Code.wpIn_mono ?_ (as0 Ez dc c none 0 w G H.next ac (Iy rs K) (KX args) H G a0 w (.inl rfl) h5 hW hR (Since.refl B w G H));rintro x a' w' ⟨e,σ',H',G',rfl,hq,hR',hS'⟩;have fin: ∀ps,EA σ' H' rs=some ps->K (packed ps) H'->LeavesInM (Wd none) 0 P fn a'.tmps (fun e w'=> ∃r v H' G',e= .returned v/\Tr B w w'/\Ext B H.next G G'/\H.next<=H'.next/\HM B H' G' w'/\V G' H'.next r v/\K r H') a'.defers .returning w':=by
  intro ps hp hk;obtain⟨_,ms,m1,m2,m3⟩:=hR'.df;rw [m2];refine Om ms w' m1 (fun r hr=>(m3 r hr).2) hR'.hm fun w'' g1 g2 g3 g4 g5 g6=> ?_;obtain⟨v,hv1,hv2⟩:=afm hR'.sl g1 h6 hp;have hnot: ∀b,b<w.heap.size->b∉ms:=fun b hb hm=>by have:=(m3 b hm).1;omega
  exact⟨v,hv1,packed ps,v,H',G',rfl,⟨by rw [<-g2];exact hS'.tr.size,fun b hb hB=>(g3 b (hnot b hb)).trans (hS'.tr.same b hb hB),g4.trans hS'.tr.os,g5.trans hS'.tr.tape,g6.trans hS'.tr.output,fun b o e ho=>(g3 b (hnot b (Z2.1 e).1)).trans (hS'.tr.JG b o e ho)⟩,hS'.ex,hS'.le,g1,hv2,hk⟩
 cases e with
 |exit i=>exact hq.elim
 |normal=>
  simp only [Iy]at hq;split at hq
  · rename_i ps hp;exact fin ps hp hq
  · cases hq
 |ret=>
  simp only [Iy]at hq;split at hq
  · rename_i ps hp;exact fin ps hp hq
  · cases hq
end
end Go.VL
end
section
namespace Go.VL
variable [Glob]
section
variable {P:Program} {Q:Post} {σ:Nat->PV} {H:AH}
theorem bB {a:AC} (h: ∀K:(Nat->PV)->AH->Prop,(∀σ H,W P (.loop a) Q σ H->K σ H)->W P a (Ab K Q) σ H):W P (.loop a) Q σ H:=akf (h _ fun _ _ h=>h)
theorem aE8 {f:AE} {p q:Nat} {a b:AC} {g id sz:Nat} {agg:Bool} {es:List (List PV)} {c:Ck} (hf:f.ev σ= .fn (.func g) [] [.ref id 0]) (he:Enters P g) (hb:Vg P g sz agg) (h0:0<sz) (ho:H.obj id=some [.ah es c]) (hl:es.length<=1099511627776) (hs:L9 sz es)
 (h:GD (fun Q' σ' H'=>W P a (JN (fun sF fu=>W P b Q' sF fu)) σ' H') Q σ id [.ah es c] p q (es.map (E9 agg)) es.length H):W P (.rf f p q a b) Q σ H:=by
 simp only [W,hf];exact⟨sz,agg,es,c,he,hb,h0,ho,hl,hs,h⟩
theorem abP (K:(Nat->PV)->AH->Prop):Ab K Q .normal σ H=K σ H:=rfl
theorem ahL (K:(Nat->PV)->AH->Prop) (i:Nat):Ab K Q (.exit i) σ H=Q (.exit i) σ H:=rfl
theorem akh (K:(Nat->PV)->AH->Prop):Ab K Q .ret σ H=Q .ret σ H:=rfl
theorem BO (d:Nat) (v:PV) (t:Nat):upd σ (some d) v t=if t=d then v else σ t:=rfl
theorem am1 (v:PV):upd σ none v=σ:=rfl
theorem aki {d:Option Nat} {k:DK} {l:List aD} {K:(Nat->PV)->AH->Prop}:eZ P (⟨d,.d k,none⟩::l) K σ H=(match jc k σ H with|some (p,H')=>eZ P l K (upd σ d p) H'|none=>False):=rfl
theorem IB {d:Option Nat} {k:NK} {l:List aD} {K:(Nat->PV)->AH->Prop}:eZ P (⟨d,.n k,none⟩::l) K σ H=nop k (fun p H'=>eZ P l K (upd σ d p) H') σ H:=rfl
theorem av {g:FuncId} {args:List PV} {r:PV} {K:PV->AH->Prop} (h:aG P g args r) (hk:K r H):aW P g args H K:=(h H).mono fun _ _ ⟨h1,h2⟩=>by subst h1;subst h2;exact hk
theorem as1:evs σ []=[]:=rfl
theorem am2 (x:AE) (l:List AE):evs σ (x::l)=x.ev σ::evs σ l:=rfl
theorem aE9 (n:Nat):(AE.t n).ev σ=σ n:=rfl
theorem aFa (v:PV):(AE.c v).ev σ=v:=rfl
theorem aak (p:PV) (l:List PV):KX (p::l) 0=p:=rfl
theorem aAF (p q:PV) (l:List PV):KX (p::q::l) 1=q:=rfl
theorem aAG (p q r:PV) (l:List PV):KX (p::q::r::l) 2=r:=rfl
theorem aAH (p q r s:PV) (l:List PV):KX (p::q::r::s::l) 3=s:=rfl
theorem am3 {C:AH->Prop} {K:(Nat->PV)->AH->Prop}:jd P C [] K σ H=K σ H:=rfl
theorem dR {C:AH->Prop} {d:Option Nat} {k:RK} {l:List (aD×Bool)} {K:(Nat->PV)->AH->Prop} (p:PV) (hp: ∀H',C H'->rop k σ H'=some p) (h:jd P C l K (upd σ d p) H):
 jd P C ((⟨d,.r k,none⟩,false)::l) K σ H:=by
 refine .inr ⟨trivial,p,fun H' hC=> ?_,h⟩;simp [dQ,hp H' hC]
theorem Vj {C:AH->Prop} {d:Option Nat} {k:DK} {l:List (aD×Bool)} {K:(Nat->PV)->AH->Prop} (p:PV) (H':AH) (hp:jc k σ H=some (p,H')) (hC:C H') (h:jd P C l K (upd σ d p) H'):
 jd P C ((⟨d,.d k,none⟩,true)::l) K σ H:=by
 refine .inr ⟨trivial,p,H',?_,hC,h⟩;simp [dQ,hp]
theorem Ch {C:AH->Prop} {d:Option Nat} {g:FuncId} {fs cs:List PV} {az:List AE} {l:List (aD×Bool)} {K:(Nat->PV)->AH->Prop} (p:PV) (hp:aG P g (fs++evs σ az++cs) p) (h:jd P C l K (upd σ d p) H):
 jd P C ((⟨d,.call (.c (.fn (.func g) fs cs)) az,none⟩,false)::l) K σ H:=
 .inr ⟨trivial,p,fun H' hC=>hp H',h⟩
theorem as2 {C:AH->Prop} {d:Option Nat} {k:AK} {s:Nat} {want b:Bool} {l:List (aD×Bool)} {K:(Nat->PV)->AH->Prop} (hs:σ s= .bool want) (h:jd P C ((⟨d,k,none⟩,b)::l) K σ H):
 jd P C ((⟨d,k,some (s,want)⟩,b)::l) K σ H:=by
 rcases h with⟨h,_⟩|⟨_,h⟩
 · exact h.elim
 · exact .inr ⟨hs,h⟩
theorem abQ {C:AH->Prop} {d:Option Nat} {k:AK} {s:Nat} {want b:Bool} {l:List (aD×Bool)} {K:(Nat->PV)->AH->Prop} (hs:σ s= .bool (!want)\/σ s= .dn []) (h:jd P C l K (upd σ d ud) H):
 jd P C ((⟨d,k,some (s,want)⟩,b)::l) K σ H:= .inl ⟨hs,h⟩
end
attribute [go_sem] abP ahL akh BO am1 as1 am2 aE9 aFa aak aAF aAG aAH
attribute [go_sem] rop jc aaR KT U3 Ie isEq aht Gz zZ CQ pI putCells kU Aa Iy EA ahK packed
attribute [go_sem] List.getElem?_map List.getElem?_cons_zero List.getElem?_cons_succ Option.map_some Option.map_none List.length_cons List.length_nil List.length_map List.nil_append List.append_nil List.cons_append Option.getD_some
end Go.VL
end
section
namespace Go.VL
abbrev EB:=List (Nat×IntKind×List Int)
def EB.get (l:EB) (g:Nat):Option (IntKind×List Int):=(l.find? fun x=>x.1==g).map (·.2)
def EB.gc (l:EB) (a:Addr):Option Value:=match a.spot with
 |none=>match l.get a.block with
  |some (k,ns)=>ns[a.off]?.map (Value.int k)
  |none=>none
 |some _=>none
def EB.gv (l:EB) (g:Nat):Option PV:=(l.get g).map fun x=> .cK (x.2.map (.int x.1)) 0
def EB.wb (l:EB) (g:Nat):Option (Array Value):=(l.get g).map fun x=>(x.2.map (Value.int x.1)).toArray
@[reducible] def Glob.avA (l:EB):Glob where
 gc:=l.gc
 gv:=l.gv
 wb:=l.wb
 ok:=by
  intro g p h G n hF;simp only [EB.gv,Z1]at h;obtain⟨⟨k,ns⟩,h1,rfl⟩:=h;have key:=V.cK (G:=G) (n:=n) (ns.map (PV.int k)) 0 g 0 (fun j=> .int k (ns[j]?.getD 0)) (fun j c e=>by
   simp only [J0,Z1]at e;obtain⟨x,hx,rfl⟩:=e;rw [V1];refine hF _ _ ?_;simp only [EB.gc,h1,hx,X2,E2]) (fun j c e=>by
   simp only [J0,Z1]at e;obtain⟨x,hx,rfl⟩:=e;simp only [hx,E2];exact .int k x)
  exact key
end Go.VL
end
section
namespace Go.VL
open Go.RowKit
def Fw (w:World):Gh:=⟨w.cell?,fun _=>none,fun _=>none⟩
def IC (w:World) (ps:List PV) (cs:List Value):Prop:=ps.length=cs.length/\ ∀(j:Nat) (c:PV) (x:Value),ps[j]? =some c->cs[j]? =some x->V (Fw w) 0 c x
mutual
def blk {H:Type}:DataW H->Nat
 | .slice e _=>blks e+1
 | .agg p=>blks p+1
 |_=>1
def blks {H:Type}:List (DataW H)->Nat
 |[]=>0
 |d::r=>blk d+blks r
end
mutual
def bk:PV->Nat
 | .ah es _=>Gj es+1
 |_=>1
def mG:List PV->Nat
 |[]=>0
 |p::r=>bk p+mG r
def Gj:List (List PV)->Nat
 |[]=>0
 |p::r=>mG p+Gj r
end
theorem Vk: ∀a b:List PV,mG (a++b)=mG a+mG b
 |[],b=>by simp [mG]
 |p::a,b=>by rw [B4,mG,mG,Vk a b];omega
theorem agv {H M:Type}: ∀(l:List (DataW H×M)) (f:Nat->List PV),(∀(i:Nat) (h:i<l.length),mG (f i)<=blk l[i].1)->Gj ((List.range l.length).map f)<=blks (l.map (·.1))
 |[],f,_=>R0 _
 |d::l,f,h=>by
  rw [I0,List.range_succ_eq_map,M3,E7,M3,Gj,blks];have h0:=h 0 (Nat.zero_lt_succ _);have:=agv l (f∘Nat.succ) fun i hi=>h (i+1) (Nat.succ_lt_succ hi);simp only [List.getElem_cons_zero]at h0;omega
def Dec (P:Program) (t:TypeId) (R:List PV->Prop):Prop:= ∀(H:Type) (enc:TypeId×Value->H) (w:World) (fuel:Nat) (cs:List Value) (x:DataW H×List MemPlace),
 DataW.trod enc P w 0 (fun _=>true) true fuel t cs=some x-> ∃ps,IC w ps cs/\R ps/\mG ps<=blk x.1
theorem IC.one {w:World} {p:PV} {v:Value} (h:V (Fw w) 0 p v):IC w [p] [v]:=⟨rfl,fun j c x e e'=>by
 cases j with
 |zero=>simp at e e';subst e;subst e';exact h
 |succ j=>simp at e⟩
theorem IC.app {w:World} {ps qs:List PV} {cs ds:List Value} (h:IC w ps cs) (k:IC w qs ds):IC w (ps++qs) (cs++ds):=⟨by simp [h.1,k.1],fun j c x e e'=>by
 rcases D1 j ps.length with hj|hj
 · rw [C0 hj]at e;rw [C0 (by rw [<-h.1];exact hj)]at e';exact h.2 j c x e e'
 · rw [N0 hj]at e;rw [N0 (by rw [<-h.1];exact hj)]at e';rw [<-h.1]at e';exact k.2 _ c x e e'⟩
section
variable {P:Program}
theorem Dec.int {t:TypeId} {k:IntKind} (ht:P.underlying t=some (.int k)):Dec P t fun l=> ∃n,l=[.int k n]/\k.min<=n/\n<=k.max:=fun H enc w fuel cs x h=>by
 obtain⟨n,rfl,rfl,hw⟩:=DataW.trod_int ht h;simp only [Lit.wf,z1,B2]at hw;exact⟨[.int k n],.one (.int k n),⟨n,rfl,hw.1,hw.2⟩,R0 1⟩
theorem Dec.string {t:TypeId} (ht:P.underlying t=some .string):Dec P t fun l=> ∃s,l=[.str s]/\s.length<=maxLen:=fun H enc w fuel cs x h=>by
 obtain⟨s,rfl,rfl,hw⟩:=DataW.trod_string ht h;refine⟨[.str s.data.toList],.one ?_,⟨_,rfl,?_⟩,R0 1⟩
 · have:=V.str (G:=Fw w) (n:=0) s.data.toList;simpa using this
 · rw [RC];exact hw
theorem Dec.slice {t e:TypeId} {R:List PV->Prop} (ht:P.underlying t=some (.slice e)) (hc:0<P.cellsOf e) (he:Dec P e R):
 Dec P t fun l=> ∃es,l=[.ah es .unk]/\es.length<=maxLen/\ ∀cs∈es,cs.length=P.cellsOf e/\R cs:=fun H enc w fuel cs x h=>by
 rcases DataW.trod_slice ht h with⟨rfl,rfl⟩|⟨a,len,cap,elems,rest,n,_,rfl,rfl,_,hl,hm,hlen,hel,_,_⟩
 · refine⟨[.ah [] .unk],.one ?_,⟨[],rfl,N3 _,fun cs h=>by cases h⟩,R0 1⟩;exact .ah [] .unk 0 none 0 (fun _ _=>default) (by simp) (by simp) (by simp) (by simp) trivial
 have key: ∀i,i<len-> ∃vs ps,w.cells? 0 (a.add (i*P.cellsOf e)) (P.cellsOf e)=some vs/\IC w ps vs/\R ps/\ ∀d,elems[i]? =some d->mG ps<=blk d.1:=fun i hi=>by
  have h1:=hel i hi;rw [W2 (by omega)]at h1;obtain⟨vs,h2,h3⟩:=Option.bind_eq_some_iff.1 h1;obtain⟨ps,h4,h5,h6⟩:=he H enc w n vs _ h3;exact⟨vs,ps,h2,h4,h5,fun d hd=>by rw [W2 (by omega),L1]at hd;rw [<-hd];exact h6⟩
 obtain⟨g,hg⟩: ∃g:Nat->List Value×List PV,∀i,i<len->w.cells? 0 (a.add (i*P.cellsOf e)) (P.cellsOf e)=some (g i).1/\IC w (g i).2 (g i).1/\R (g i).2/\ ∀d,elems[i]? =some d->mG (g i).2<=blk d.1:=by
  refine⟨fun i=>if hi:i<len then(Classical.choose (key i hi),Classical.choose (sB (key i hi)))else([],[]),fun i hi=> ?_⟩;simp only [dif_pos hi];exact sB (sB (key i hi))
 have hsz: ∀i,i<len->(g i).1.length=P.cellsOf e/\(g i).2.length=P.cellsOf e:=fun i hi=>by
  obtain⟨h1,h2,_⟩:=hg i hi;have:=(World.cells?_some h1).2.1;exact⟨this,h2.1.trans this⟩
 have hcell: ∀i,i<len-> ∀j,j<P.cellsOf e->w.cell? ((a.add (i*P.cellsOf e)).add j)=(g i).1[j]? :=fun i hi j hj=>(World.cells?_some (hg i hi).1).2.2 j hj
 let es:List (List PV):=(List.range len).map fun i=>(g i).2
 have hes: ∀(i:Nat) (cs:List PV),es[i]? =some cs->i<len/\cs=(g i).2:=fun i cs h=>by
  simp only [es,J0,Z1]at h;obtain⟨y,h1,h2⟩:=h;rw [S0]at h1;obtain⟨h3,h4⟩:=h1;simp at h3 h4;subst h4;exact⟨h3,h2.symm⟩
 have ahM:es.length=len:=by simp [es]
 refine⟨[.ah es .unk],?_,⟨es,rfl,by rw [ahM];omega,fun cs hcs=> ?_⟩,?_⟩
 · rcases uC len with h0|hpos
   · have:es=[]:=T4 (by rw [ahM,h0]);refine IC.one ?_;rw [this,h0];exact .ah [] .unk 0 (some a) cap (fun _ _=>default) (by simp) (by simp) (by simp) (by simp) trivial
   have hspot:a.spot=none:=by
    have h1:=hcell 0 hpos 0 hc;have h2:(g 0).1[0]? =some ((g 0).1[0]'(by have:=(hsz 0 hpos).1;omega)):=by simp
    rw [h2]at h1;have:=World.cell?_spot h1;simpa [Addr.add]using this
   obtain⟨b,o,sp⟩:=a;simp only at hspot;subst hspot;have hadd: ∀o m,(⟨b,o,none⟩:Addr).add m=⟨b,o+m,none⟩:=fun o m=>by
    unfold Addr.add;split
    · rename_i h;subst h;rfl
    · rfl
   refine IC.one ?_;rw [<-ahM];refine .ah es .unk (P.cellsOf e) (some ⟨b,o,none⟩) cap (fun i j=>(g i).1[j]?.getD default) (fun i cs h=> ?_) (by rw [ahM];exact hl) (fun _=>⟨b,o,rfl,fun i cs h j c hj=> ?_⟩) (fun i cs j c h hj=> ?_) trivial
   · obtain⟨h1,rfl⟩:=hes i cs h;exact(hsz i h1).2
   · obtain⟨h1,rfl⟩:=hes i cs h;have hjl:j<P.cellsOf e:=by
      rw [<-(hsz i h1).2];exact(S0.1 hj).1
     have h2:=hcell i h1 j hjl;rw [hadd,hadd]at h2;show w.cell? ⟨b,o+i*P.cellsOf e+j,none⟩=_;rw [h2];have:j<(g i).1.length:=by rw [(hsz i h1).1];exact hjl
     simp [this]
   · obtain⟨h1,rfl⟩:=hes i cs h;have hjl:j<(g i).1.length:=by
      rw [(hsz i h1).1,<-(hsz i h1).2];exact(S0.1 hj).1
     refine(hg i h1).2.1.2 j c _ hj ?_;simp [hjl]
 · obtain⟨i,hi,rfl⟩:=G3.1 hcs;have hi:=B5.1 hi;exact⟨(hsz i hi).2,(hg i hi).2.2.1⟩
 · have:=agv elems (fun i=>(g i).2) fun i hi=>(hg i (by omega)).2.2.2 _ (W2 hi);rw [hlen]at this
   have h0:Gj es<=blks (elems.map (·.1)):=this
   simp only [mG,bk,blk];omega
def ahN (P:Program):Nat->List Field->List (List PV->Prop)->Prop
 |_,[],[]=>True
 |o,f::fs,R::Rs=>f.offset=o/\Dec P f.type R/\ahN P (o+P.cellsOf f.type) fs Rs
 |_,_,_=>False
def RFs (P:Program):List Field->List (List PV->Prop)->List PV->Prop
 |[],[],l=>l=[]
 |f::fs,R::Rs,l=> ∃a b,l=a++b/\a.length=P.cellsOf f.type/\R a/\RFs P fs Rs b
 |_,_,_=>False
def KY (P:Program):List Field->Nat
 |[]=>0
 |f::fs=>P.cellsOf f.type+KY P fs
theorem Y9 {H:Type} {enc:TypeId×Value->H} {w:World} {n:Nat} {cs:List Value}: ∀(fs:List Field) (Rs:List (List PV->Prop)) (xs:List (DataW H×List MemPlace)) (o:Nat),ahN P o fs Rs->o+KY P fs=cs.length->xs.length=fs.length->
 (∀(i:Nat) f,fs[i]? =some f->DataW.trod enc P w 0 (fun _=>true) true n f.type ((cs.drop f.offset).take (P.cellsOf f.type))=xs[i]?)-> ∃ps,IC w ps (cs.drop o)/\RFs P fs Rs ps/\mG ps<=blks (xs.map (·.1))
 |[],[],[],o,_,hs,_,_=>⟨[],⟨by simp [KY]at hs;simp;omega,by simp⟩,rfl,R0 _⟩
 |f::fs,R::Rs,x::xs,o,⟨h1,h2,h3⟩,hs,hx,ht=>by
  obtain⟨qs,h4,h5,h8⟩:=h2 H enc w n _ x (ht 0 f rfl);obtain⟨ps,h6,h7,h9⟩:=Y9 fs Rs xs _ h3 (by simp only [KY]at hs;omega) (by simpa using hx) (fun i g hg=>ht (i+1) g hg);have hl:((cs.drop f.offset).take (P.cellsOf f.type)).length=P.cellsOf f.type:=by
   simp only [KY]at hs;simp only [P3,E4,h1];omega
  refine⟨qs++ps,?_,⟨qs,ps,rfl,h4.1.trans hl,h5,h7⟩,by rw [Vk,M3,blks];omega⟩;have:=h4.app h6;rw [h1]at this;rw [show cs.drop o=(cs.drop o).take (P.cellsOf f.type)++cs.drop (o+P.cellsOf f.type) by rw [<-CC,w6]];exact this
 |[],_::_,_,_,h,_,_,_=>h.elim
 |_::_,[],_,_,h,_,_,_=>h.elim
 |[],[],_::_,_,_,_,h,_=>by cases h
 |_::_,_::_,[],_,_,_,h,_=>by cases h
theorem Dec.struct {t:TypeId} {fs:Array Field} {Rs:List (List PV->Prop)} (ht:P.underlying t=some (.struct fs)) (hs:KY P fs.toList=P.cellsOf t) (hf:ahN P 0 fs.toList Rs):Dec P t (RFs P fs.toList Rs):=fun H enc w fuel cs x h=>by
 obtain⟨xs,n,_,rfl,hl,hn,hi⟩:=DataW.trod_struct ht h;obtain⟨ps,h1,h2,h3⟩:=Y9 (enc:=enc) (w:=w) (n:=n) (cs:=cs) fs.toList Rs xs 0 hf (by omega) (by simpa using hn) (fun i f hf=>hi i f (by simpa using hf));exact⟨ps,by simpa using h1,h2,by rw [blk];omega⟩
theorem Dec.mono {t:TypeId} {R R':List PV->Prop} (h:Dec P t R) (hr: ∀l,R l->R' l):Dec P t R':=fun H enc w fuel cs x e=>by
 obtain⟨ps,h1,h2,h3⟩:=h H enc w fuel cs x e;exact⟨ps,h1,hr _ h2,h3⟩
variable [Glob]
theorem aW.top {f:FuncId} {args:List PV} {r:Bool} {W:World} {vs:Array Value} (h:aW P f args AH.empty fun v _=>v= .bool r) (hg: ∀a x,Glob.gc a=some x->W.cell? a=some x) (hw:WH (fun b=>W.heap.size<=b) W) (hv:IC W args vs.toList):
 Calls P f vs W fun e W'=>e= .returned (.bool r)/\Below W.heap.size W W':=by
 refine(h.call (fun b=>W.heap.size<=b) (Fw W) W vs (fun b hb=>hb) (HM.empty hg (fun a x e=>e) hw) ⟨by simpa using hv.1.symm,fun j c x e e'=>hv.2 j c x e (by simpa using e')⟩).mono ?_;rintro e w' ⟨q,v,H',G',rfl,h2,h3,h4,h5,h6,rfl⟩;cases h6;exact⟨rfl,⟨h2.os,h2.tape,h2.output,h2.size,fun k hk=>h2.same k hk (by omega)⟩⟩
end
end Go.VL
end
section
namespace Go.VL
abbrev Str:=List UInt8
structure Nd where
 kind:Int
 n:Int
 text:Str
 names:List Str
 args:List Int
deriving DecidableEq
def aF (s:Str):List PV:=[.str s]
def aK (n:Int):List PV:=[.int .i64 n]
abbrev aAI (l:List Str) (c:Ck):PV:= .ah (l.map aF) c
abbrev aAJ (l:List Int) (c:Ck):PV:= .ah (l.map aK) c
abbrev FE (l:List Str):PV:=aAI l .unk
abbrev akj (l:List Int):PV:=aAJ l .unk
def Nd.cells (x:Nd):List PV:=[.int .i64 x.kind,.int .i64 x.n,.str x.text,FE x.names,akj x.args]
abbrev aaV (e:List Nd) (c:Ck):PV:= .ah (e.map Nd.cells) c
abbrev gH (e:List Nd):PV:=aaV e .unk
end Go.VL
end
section
namespace Go.VL
def C8:List Int:=[0,0,0,0,0,0,0,0,0,1,1,1,1,1,0,0,0,0,0,0,0,0,0,0,0,0,0,0,0,0,0,0,1,0,0,0,0,0,0,0,0,0,0,0,0,0,0,0,0,0,0,0,0,0,0,0,0,0,0,0,0,0,0,0,0,0,0,0,0,0,0,0,0,0,0,0,0,0,0,0,0,0,0,0,0,0,0,0,0,0,0,0,0,0,0,0,0,0,0,0,0,0,0,0,0,0,0,0,0,0,0,0,0,0,0,0,0,0,0,0,0,0,0,0,0,0,0,0,0,0,0,0,0,0,0,0,0,0,0,0,0,0,0,0,0,0,0,0,0,0,0,0,0,0,0,0,0,0,0,0,0,0,0,0,0,0,0,0,0,0,0,0,0,0,0,0,0,0,0,0,0,0,0,0,0,0,0,0,0,0,0,0,0,0,0,0,0,0,0,0,0,0,0,0,0,0,0,0,0,0,0,0,0,0,0,0,0,0,0,0,0,0,0,0,0,0,0,0,0,0,0,0,0,0,0,0,0,0,0,0,0,0,0,0,0,0,0,0,0,0,0,0,0,0,0,0]
def Rx:List Int:=[1,10,100,1000,10000,100000,1000000,10000000,100000000,1000000000,10000000000,100000000000,1000000000000,10000000000000,100000000000000,1000000000000000,10000000000000000,100000000000000000,1000000000000000000,10000000000000000000]
def Xo:List Int:=[0,1,28,2,29,14,24,3,30,22,20,15,25,17,4,8,31,27,13,23,21,19,16,7,26,12,18,6,11,5,10,9]
def Xp:List Int:=[0,1,56,2,57,49,28,3,61,58,42,50,38,29,17,4,62,47,59,36,45,43,51,22,53,39,33,30,24,18,12,5,63,55,48,27,60,41,37,16,46,35,44,21,52,32,23,11,54,26,40,15,34,20,31,10,25,14,19,9,13,8,7,6]
def tabs:EB:=[(0,.u8,C8),(3,.u64,Rx),(4,.u8,Xo),(5,.u8,Xp)]
@[reducible] instance as3:Glob:=Glob.avA tabs
end Go.VL
end
