/- Part 2. -/
import Derived.Test.YthebklihgmhgoaaGreatDoorKi1
import Derived.Below
import Derived.ChangeArms
import Derived.RowKit
import Derived.IntWalk
set_option linter.unusedVariables false
set_option linter.unusedSectionVars false
set_option linter.unusedSimpArgs false
section
namespace Go.VL
variable [Glob]
def bM (listed:Array Bool) (i:Nat):Prop:=listed.getD i false=true
section
variable {P:Program} {rm:Bool} {B:Nat->Prop} {k0 N mm:Nat} {ro:Option Nat} {ops:Array Oper}
theorem vP {listed:Array Bool} (hs:listed.size=ops.size) {j:Nat}:j∈Region.ready .any ops listed↔ ¬bM listed j/\ ∃o,ops[j]? =some o/\ ∀e∈nQ o,bM listed e:=by
  rw [mem_ready];have hd: ∀o:Oper,(∀e∈o.after,Region.binds .any e=true->listed.getD e.on false=true)↔ ∀e∈nQ o,bM listed e:=by
    intro o;constructor
    · intro h e he;simp only [nQ,List.mem_map,List.mem_filter]at he;obtain⟨x,⟨hx,hb⟩,rfl⟩:=he;exact h x (by simpa using hx) hb
    · intro h e he hb;exact h e.on (by simp only [nQ,List.mem_map,List.mem_filter];exact⟨e,⟨by simpa using he,hb⟩,rfl⟩)
  constructor
  · rintro⟨h0,o,ho,hall⟩;have hlt:j<listed.size:=by rw [hs];exact(Array.getElem?_eq_some_iff.1 ho).1
    refine⟨?_,o,ho,(hd o).1 hall⟩;simp [bM,Array.getElem?_eq_getElem hlt]at h0⊢;exact h0
  · rintro⟨h0,o,ho,hall⟩;have hlt:j<listed.size:=by rw [hs];exact(Array.getElem?_eq_some_iff.1 ho).1
    refine⟨?_,o,ho,(hd o).2 hall⟩;simp [bM,Array.getElem?_eq_getElem hlt]at h0⊢;exact h0
theorem qU {listed:Array Bool} {i j:Nat} (hi:i<listed.size):bM (listed.setIfInBounds i true) j↔j=i\/bM listed j:=by
  by_cases h:j=i
  · subst h;simp [bM,hi]
  · have:(listed.setIfInBounds i true).getD j false=listed.getD j false:=getD_set_ne false (Ne.symm h);simp only [bM,this,h,false_or]
theorem qy: ∀{l:List Oper} {az:List aQ},mU P rm N ops l=some az->az.length=l.length/\ ∀(i:Nat) (o:Oper),l[i]? =some o-> ∃ao,az[i]? =some ao/\sG P rm N ops o=some ao
  |[],az,h=>by simp [mU]at h;subst h;simp
  |o::l,az,h=>by
    unfold mU at h;split at h
    · rename_i ao r ho hr;cases h;obtain⟨h1,h2⟩:=qy hr;refine⟨by simp [h1],fun i o' e=> ?_⟩;cases i with
      |zero=>simp at e;subst e;exact⟨ao,rfl,ho⟩
      |succ i=>simp at e;simpa using h2 i o' e
    · cases h
theorem qV {o:Oper} {ao:aQ} (h:sG P rm N ops o=some ao):KT N o.dst=true/\ao.dst=o.dst/\ao.k=Ii P rm o/\
    ((o.guard=none/\ao.g=none)\/ ∃j want s,o.guard=some (j,want)/\(ops[j]?).bind (·.dst)=some s/\ao.g=some (s,want)):=by
  unfold sG at h;split at h
  · rename_i hd;split at h
    · rename_i hg;cases h;exact⟨hd,rfl,rfl,.inl ⟨hg,rfl⟩⟩
    · rename_i j want hg;split at h
      · rename_i s hs;cases h;exact⟨hd,rfl,rfl,.inr ⟨j,want,s,hg,hs,rfl⟩⟩
      · cases h
  · cases h
theorem KU {o:Oper} {ao:aQ} {σ:Nat->PV} {a:Act} {G:Gh} {n:Nat} (h:sG P rm N ops o=some ao) (hs:Sl G n σ a) (hg:uM ao σ):Region.wanted o (yielded ops a.tmps)=true:=by
  obtain⟨_,_,_,h4⟩:=qV h;rcases h4 with⟨h4,_⟩|⟨j,want,s,h4,h5,h6⟩
  · exact Jj h4
  · simp only [uM,h6]at hg;rw [Dz h4 h5 hs hg];simp
theorem Qd {o:Oper} {ao:aQ} {σ:Nat->PV} {a:Act} {G:Gh} {n:Nat} (h:sG P rm N ops o=some ao) (hs:Sl G n σ a) (hg:vO ao σ):Region.wanted o (yielded ops a.tmps)=false:=by
  obtain⟨_,_,_,h4⟩:=qV h;rcases h4 with⟨_,h4⟩|⟨j,want,s,h4,h5,h6⟩
  · simp [vO,h4]at hg
  · simp only [vO,h6]at hg;rcases hg with hg|hg
    · rw [Dz h4 h5 hs hg];cases want<;>rfl
    · exact M5 h4 h5 hs hg
variable {w0:World} {G0:Gh} {n0:Nat} {K:(Nat->PV)->AH->Prop} {Q:Exit->Act->World->Prop}
theorem adW {listed:Array Bool} {i:Nat} (hi:i<listed.size) (h: ¬bM listed i):(listed.setIfInBounds i true).toList.countP (fun b=> !b)+1=listed.toList.countP (fun b=> !b):=by
  have hf:listed[i]=false:=by simpa [bM,Array.getElem?_eq_getElem hi]using h
  have e:(listed.setIfInBounds i true).toList=listed.toList.set i true:=by simp
  rw [e,List.countP_set (by simpa using hi)];have hpos:0<listed.toList.countP (fun b=> !b):=List.countP_pos_iff.2 ⟨listed[i],by simp,by simp [hf]⟩;have e2:listed.toList[i]'(by simpa using hi)=false:=by simp [hf]
  rw [e2];simp only [Bool.not_false,if_true,Bool.not_true,Bool.false_eq_true,if_false];omega
theorem adX {az:List aQ} {n:Nat} (hQ: ∀σ H G a w,K σ H->Rl B k0 N σ H G a w->Since B w0 G0 n0 H G w->Q .normal a w) (hc:mU P rm N ops ops.toList=some az)
    (Ik: ∀(j:Nat) (o:Oper),ops[j]? =some o-> ∀e∈nQ o,e<j) (hpost: ∀(i j:Nat),i<j->j<ops.size->n<=j->gZ (masks ops.toList []) i j=true):
    ∀(fuel:Nat) (listed:Array Bool) (m:Nat) (σ:Nat->PV) (H:AH) (G:Gh) (a:Act) (w:World),n<=m->m<=ops.size->listed.size=ops.size->(∀i,i<ops.size->(bM listed i↔i<m))->ops.size -m<=fuel->
      dD P (az.drop m) K σ H->Rl B k0 N σ H G a w->Since B w0 G0 n0 H G w->wpAnyIn (Wd ro) mm P .any ops Q fuel listed a w:=by
  obtain⟨hlen,hget⟩:=qy hc;intro fuel
  induction fuel with
  |zero=>
    intro listed m σ H G a w hnm hm hs hE hf hW hR hS;have hmN:m=ops.size:=by omega
    subst hmN;have hd:az.drop ops.size=[]:=List.drop_eq_nil_of_le (by rw [hlen];simp);rw [hd]at hW;refine⟨?_,hQ σ H G a w hW hR hS⟩;rw [List.eq_nil_iff_forall_not_mem];intro j hj;obtain⟨h1,o,ho,_⟩:=(vP hs).1 hj;have hlt:=(Array.getElem?_eq_some_iff.1 ho).1;exact h1 ((hE j hlt).2 hlt)
  |succ fuel ih=>
    intro listed m σ H G a w hnm hm hs hE hf hW hR hS;refine⟨fun hr=> ?_,fun j hj=> ?_⟩
    · rcases Nat.lt_or_ge m ops.size with hlt|hge
      · have:m∈Region.ready .any ops listed:=(vP hs).2 ⟨fun h=>by have:=(hE m hlt).1 h;omega,ops[m],by simp,fun e he=>by
          have:=Ik m ops[m] (by simp) e he;exact(hE e (by omega)).2 this⟩
        rw [hr]at this;cases this
      · have hmN:m=ops.size:=by omega
        subst hmN;have hd:az.drop ops.size=[]:=List.drop_eq_nil_of_le (by rw [hlen];simp);rw [hd]at hW;exact hQ σ H G a w hW hR hS
    · obtain⟨h1,o,ho,h3⟩:=(vP hs).1 hj;have hlt:=(Array.getElem?_eq_some_iff.1 ho).1;have hmj:m<=j:=by
        rcases Nat.lt_or_ge j m with h|h
        · exact absurd ((hE j hlt).2 h) h1
        · exact h
      have hjm:j=m:=by
        rcases Nat.lt_or_ge m j with h|h
        ·
          have hb:=hpost m j h hlt (by omega)
          let E:Nat->Prop:=fun i=>bM listed i\/i=j
          have hcl:Closed ops.toList E:=by
            intro j' o' e hE' x hx;have e':ops[j']? =some o':=by simpa using e
            have hlt':=(Array.getElem?_eq_some_iff.1 e').1;rcases hE' with hE'|rfl
            · have:=Ik j' o' e' x hx;exact .inl ((hE x (by omega)).2 (by have:=(hE j' hlt').1 hE';omega))
            · rw [ho]at e';cases e';exact .inl (h3 x hx)
          have:=rU hcl hb (.inr rfl);rcases this with h'|h'
          · have:=(hE m (by omega)).1 h';omega
          · omega
        · omega
      subst hjm;obtain⟨ao,hao,hcomp⟩:=hget j o (by simpa using ho);obtain⟨c1,c2,c3,c4⟩:=qV hcomp;have hdrop:az.drop j=ao::az.drop (j+1):=by
        have hjl:j<az.length:=by rw [hlen];simpa using hlt
        rw [List.drop_eq_getElem_cons hjl];congr 1
        rw [List.getElem?_eq_getElem hjl]at hao;exact Option.some.inj hao
      rw [hdrop]at hW;have hE': ∀i,i<ops.size->(bM (listed.setIfInBounds j true) i↔i<j+1):=fun i hi=>by
        rw [qU (by omega),hE i hi];omega
      have next: ∀σ' H' G' a' w',dD P (az.drop (j+1)) K σ' H'->Rl B k0 N σ' H' G' a' w'->Since B w0 G0 n0 H' G' w'->wpAnyIn (Wd ro) mm P .any ops Q fuel (listed.setIfInBounds j true) a' w':=
        fun σ' H' G' a' w' h1 h2 h3=>ih _ (j+1) σ' H' G' a' w' (by omega) (by omega) (by simpa using hs) hE' (by omega) h1 h2 h3
      unfold wpOpIn;rw [ho];simp only [dD]at hW;rcases c4 with⟨g1,g2⟩|⟨j',want,s,g1,g2,g3⟩
      · rw [g2]at hW;simp only at hW;simp only [Jj g1,if_true];rw [c3]at hW;exact(vN hW hR fun p H' G' x w' hK h1 h2 h3 h4 h5=>next _ _ _ _ _ hK (by rw [c2];exact hR.step h1 h2 h3 h4 c1 h5) (hS.step h1 h2 h3))
      · rw [g3]at hW;simp only at hW;split at hW
        · rename_i b hb;simp only [Dz g1 g2 hR.sl hb];by_cases hbw:b=want
          · rw [if_pos hbw]at hW;rw [if_pos (by simp [hbw])];rw [c3]at hW;exact(vN hW hR fun p H' G' x w' hK h1 h2 h3 h4 h5=>next _ _ _ _ _ hK (by rw [c2];exact hR.step h1 h2 h3 h4 c1 h5) (hS.step h1 h2 h3))
          · rw [if_neg hbw]at hW;rw [if_neg (by simpa using hbw)];rw [c2]at hW;refine⟨fun _ _=>trivial,?_⟩;exact next _ _ _ _ _ hW (hR.step (Tr.refl B w) (Ext.refl B _ G) (Nat.le_refl _) hR.hm c1 V.ud) hS
        · rename_i hb;simp only [M5 g1 g2 hR.sl hb];rw [if_neg (by simp)];rw [c2]at hW;refine⟨fun _ _=>trivial,?_⟩;exact next _ _ _ _ _ hW (hR.step (Tr.refl B w) (Ext.refl B _ G) (Nat.le_refl _) hR.hm c1 V.ud) hS
        · cases hW
theorem amH {pr:List (aQ×Bool)} {post:List aQ} {C:AH->Prop} {aA:Nat->PV} {val:Nat->PV} {hp:Nat->AH}
    (hQ: ∀σ H G a w,K σ H->Rl B k0 N σ H G a w->Since B w0 G0 n0 H G w->Q .normal a w) (hc:mU P rm N ops ops.toList=some (pr.map (·.1)++post)) (hok:akU ops.toList pr)
    (hW:dD P post K (fO pr val aA pr.length) (hp pr.length)) (hC: ∀i,i<=pr.length->C (hp i))
    (htr: ∀(i:Nat) (o:aQ) (d:Bool),pr[i]? =some (o,d)->
      (vO o (fO pr val aA i)/\val i=ud/\hp (i+1)=hp i)\/
      (uM o (fO pr val aA i)/\d=true/\jN P o.k (fun r kg=>r=val i/\kg=hp (i+1)) (fO pr val aA i) (hp i))\/
      (uM o (fO pr val aA i)/\d=false/\hp (i+1)=hp i/\ ∀H',C H'->jN P o.k (fun r kg=>r=val i/\kg=H') (fO pr val aA i) H')):
    ∀(fuel:Nat) (listed:Array Bool) (k:Nat) (G:Gh) (a:Act) (w:World),k<=pr.length->listed.size=ops.size->listed.toList.countP (fun b=> !b)<=fuel->(∀i,bM listed i->i<pr.length)->Closed ops.toList (bM listed)->
      (∀(i:Nat) (o:aQ),pr[i]? =some (o,true)->(bM listed i↔i<k))->Rl B k0 N (l7 pr val (bM listed) aA) (hp k) G a w->Since B w0 G0 n0 (hp k) G w->wpAnyIn (Wd ro) mm P .any ops Q fuel listed a w:=by
  obtain⟨hlen,hget⟩:=qy hc;have hlenS:pr.length+post.length=ops.size:=by simpa using hlen
  have Ik: ∀(j:Nat) (o:Oper),ops[j]? =some o-> ∀e∈nQ o,e<j:=fun j o e=>hok.deps j o (by simpa using e);have hpost: ∀(i j:Nat),i<j->j<ops.size->pr.length<=j->gZ (masks ops.toList []) i j=true:=fun i j h1 h2 h3=>hok.post i j h1 (by simpa using h2) h3;have agQ: ∀(k j:Nat),k<=j->j<=pr.length->(∀(i:Nat) (o:aQ),pr[i]? =some (o,true)->k<=i->i<j->False)->hp j=hp k:=by
    intro k j hkj
    induction j with
    |zero=>
      intro _ _;have:k=0:=by omega
      subst this;rfl
    |succ j ih=>
      intro hj hno;rcases Nat.lt_or_ge j k with h|h
      · have:k=j+1:=by omega
        subst this;rfl
      · have e1:=ih h (by omega) (fun i o e h1 h2=>hno i o e h1 (by omega));obtain⟨o,d⟩:=pr[j]'(by omega)|>fun x=>(x:aQ×Bool)
        have hx:pr[j]? =some (pr[j]'(by omega)):=by simp
        rcases htr j (pr[j]'(by omega)).1 (pr[j]'(by omega)).2 hx with⟨_,_,h3⟩|⟨_,h3,_⟩|⟨_,_,h3,_⟩
        · rw [h3,e1]
        · exact(hno j (pr[j]'(by omega)).1 (by rw [hx,<-h3]) h (by omega)).elim
        · rw [h3,e1]
  have finish: ∀(fuel:Nat) (listed:Array Bool) (k:Nat) (G:Gh) (a:Act) (w:World),k<=pr.length->listed.size=ops.size->ops.size -pr.length<=fuel->(∀i,bM listed i->i<pr.length)->(∀i,i<pr.length->bM listed i)->
      (∀(i:Nat) (o:aQ),pr[i]? =some (o,true)->(bM listed i↔i<k))->Rl B k0 N (l7 pr val (bM listed) aA) (hp k) G a w->Since B w0 G0 n0 (hp k) G w->wpAnyIn (Wd ro) mm P .any ops Q fuel listed a w:=by
    intro fuel listed k G a w hk hs hf h1 h2 hD hR hS;have hE:l7 pr val (bM listed) aA=fO pr val aA pr.length:=funext fun t=>uU pr val _ aA _ t fun i o e _=>by
      have hi:i<pr.length:=by
        rcases Nat.lt_or_ge i pr.length with h'|h'
        · exact h'
        · rw [List.getElem?_eq_none h']at e;cases e
      exact⟨fun _=>hi,fun _=>h2 i hi⟩
    have hH:hp pr.length=hp k:=agQ k pr.length hk (Nat.le_refl _) fun i o e hki hi=>by
      have:=(hD i o e).1 (h2 i hi);omega
    rw [hE,<-hH]at hR;rw [<-hH]at hS
    have hd:(pr.map (·.1)++post).drop pr.length=post:=by
      have:pr.length=(pr.map (·.1)).length:=by simp
      rw [this,List.drop_left]
    exact adX hQ hc Ik hpost fuel listed pr.length _ _ _ _ _ (Nat.le_refl _) (by omega) hs (fun i hi=>⟨fun h=>h1 i h,fun h=>h2 i h⟩) hf (by rw [hd];exact hW) hR hS
  intro fuel
  induction fuel with
  |zero=>
    intro listed k G a w hk hs hcnt h1 hcl hD hR hS;have hall: ∀i,i<ops.size->bM listed i:=by
      intro i hi;have h0:listed.toList.countP (fun b=> !b)=0:=by omega
      rw [List.countP_eq_zero]at h0;have:=h0 (listed[i]'(by omega)) (by simp);simpa [bM,Array.getElem?_eq_getElem (show i<listed.size by omega)]using this
    have hsz:ops.size<=pr.length:=by
      rcases Nat.lt_or_ge pr.length ops.size with h|h
      · have:=h1 pr.length (hall _ h);omega
      · exact h
    exact finish 0 listed k G a w hk hs (by omega) h1 (fun i hi=>hall i (by omega)) hD hR hS
  |succ fuel ih=>
    intro listed k G a w hk hs hcnt h1 hcl hD hR hS;by_cases hdone: ∀i,i<pr.length->bM listed i
    · refine finish (fuel+1) listed k G a w hk hs ?_ h1 hdone hD hR hS;have hcount:post.length<=listed.toList.countP (fun b=> !b):=by
        have hsplit:listed.toList=listed.toList.take pr.length++listed.toList.drop pr.length:=(List.take_append_drop _ _).symm;rw [hsplit,List.countP_append];have:(listed.toList.drop pr.length).countP (fun b=> !b)=(listed.toList.drop pr.length).length:=by
          rw [List.countP_eq_length];intro b hb;obtain⟨i,hi⟩:=List.getElem?_of_mem hb;rw [List.getElem?_drop]at hi;have hnl: ¬bM listed (pr.length+i):=fun h=>by have:=h1 _ h;omega
          rw [Array.getElem?_toList]at hi;simp [bM,hi]at hnl;simp [hnl]
        rw [this];simp;omega
      omega
    · obtain⟨i0,hi0,aaf⟩: ∃i,i<pr.length/\ ¬bM listed i:=by
        apply Classical.byContradiction
        intro hno;exact hdone fun i hi=>Classical.byContradiction fun h=>hno ⟨i,hi,h⟩
      refine⟨fun hr=> ?_,fun j hj=> ?_⟩
      ·
        have aag: ∃i,i<pr.length/\ ¬bM listed i/\ ∀i',i'<i->bM listed i':=by
          have: ∀n,(∀i',i'<n->bM listed i')\/ ∃i,i<n/\ ¬bM listed i/\ ∀i',i'<i->bM listed i':=by
            intro n
            induction n with
            |zero=>exact .inl (fun i' h=>by omega)
            |succ n ihn=>
              rcases ihn with h|⟨i,h⟩
              · by_cases hn:bM listed n
                · exact .inl fun i' hi'=>by
                    rcases Nat.lt_or_ge i' n with h'|h'
                    · exact h i' h'
                    · have:i'=n:=by omega
                      exact this▸hn
                · exact .inr ⟨n,by omega,hn,h⟩
              · exact .inr ⟨i,by omega,h.2⟩
          rcases this pr.length with h|⟨i,h⟩
          · exact absurd h hdone
          · exact⟨i,h⟩
        obtain⟨i,hi,hni,hlt⟩:=aag;have hio:i<ops.size:=by omega
        have:i∈Region.ready .any ops listed:=(vP hs).2 ⟨hni,ops[i],by simp,fun e he=>hlt e (Ik i _ (by simp) e he)⟩;rw [hr]at this;cases this
      · obtain⟨JM,o,ho,hdj⟩:=(vP hs).1 hj;have hjo:=(Array.getElem?_eq_some_iff.1 ho).1
        let E:Nat->Prop:=fun i=>bM listed i\/i=j
        have aah:Closed ops.toList E:=by
          intro j' o' e hE' x hx;rcases hE' with hE'|rfl
          · exact .inl (hcl j' o' e hE' x hx)
          · have e':ops[j']? =some o':=by simpa using e
            rw [ho]at e';cases e';exact .inl (hdj x hx)
        have hbef: ∀i,i≠j->gZ (masks ops.toList []) i j=true->bM listed i:=fun i hij hb=>by
          rcases rU aah hb (.inr rfl)with h|h
          · exact h
          · exact absurd h hij
        have ZH: ∀i,gZ (masks ops.toList []) j i=true-> ¬bM listed i:=fun i hb h=>JM (rU hcl hb h);have hjn:j<pr.length:=by
          rcases Nat.lt_or_ge j pr.length with h|h
          · exact h
          · exact absurd (hbef i0 (by omega) (hpost i0 j (by omega) hjo h)) aaf
        obtain⟨⟨ao,d⟩,nR⟩: ∃x,pr[j]? =some x:=⟨_,List.getElem?_eq_getElem hjn⟩;obtain⟨pR,hao,hcomp⟩:=hget j o (by simpa using ho);have:pR=ao:=by
          rw [List.getElem?_append_left (by simpa using hjn),List.getElem?_map,nR]at hao;exact(Option.some.inj hao).symm
        subst this;obtain⟨c1,c2,c3,c4⟩:=qV hcomp;have hlt: ∀(i:Nat) (x:aQ×Bool),pr[i]? =some x->i<pr.length:=fun i x e=>by
          rcases Nat.lt_or_ge i pr.length with h'|h'
          · exact h'
          · rw [List.getElem?_eq_none h']at e;cases e
        have hcut: ∀t,(t∈pR.slots\/pR.dst=some t)-> ∀(i:Nat) (x:aQ×Bool),pr[i]? =some x->x.1.dst=some t->(bM listed i↔i<j):=by
          intro t ht i x e hx;rcases Nat.lt_trichotomy i j with h|h|h
          · refine⟨fun _=>h,fun _=>hbef i (by omega) (hok.clash i j x (pR,d) h e nR ?_)⟩;unfold clash;rcases ht with ht|ht
            · simp [OX,hx,ht]
            · simp [SI,hx,ht]
          · subst h;exact⟨fun h=>absurd h JM,fun h=>by omega⟩
          · refine⟨fun h'=>absurd h' (ZH i (hok.clash j i (pR,d) x h nR e ?_)),fun h'=>by omega⟩;unfold clash;rcases ht with ht|ht
            · simp [OX,hx,ht]
            · simp [SI,hx,ht]
        have vQ: ∀t∈pR.slots,fO pr val aA j t=l7 pr val (bM listed) aA t:=fun t ht=>(uU pr val _ aA j t (hcut t (.inl ht))).symm;have hnext:l7 pr val (bM (listed.setIfInBounds j true)) aA=upd (l7 pr val (bM listed) aA) pR.dst (val j):=by
          funext t
          by_cases hd:pR.dst=some t
          · rw [hd,SG];rw [uU pr val _ aA (j+1) t (fun i x e hx=>by
              rw [qU (by omega),hcut t (.inr hd) i x e hx];omega),QW pr val aA j (pR,d) nR,hd,SG]
          · rw [upd_ne hd];refine M8 pr val _ _ aA aA t rfl fun i x e hx=> ?_;rw [qU (by omega)];constructor
            · rintro(rfl|h)
              · rw [nR]at e;cases e;exact absurd hx hd
              · exact h
            · exact .inr
        have hcl':Closed ops.toList (bM (listed.setIfInBounds j true)):=fun j' o' e h x hx=>by
          rw [qU (by omega)]at h⊢;rcases aah j' o' e (h.symm.imp id id) x hx with h'|h'
          · exact .inr h'
          · exact .inl h'
        have Il:(listed.setIfInBounds j true).toList.countP (fun b=> !b)<=fuel:=by
          have:=adW (listed:=listed) (i:=j) (by omega) JM;omega
        have h1': ∀i,bM (listed.setIfInBounds j true) i->i<pr.length:=fun i h=>by
          rw [qU (by omega)]at h;rcases h with rfl|h
          · exact hjn
          · exact h1 i h
        have adY:d=true->hp j=hp k/\k<=j/\ ∀(i:Nat) (o:aQ),pr[i]? =some (o,true)->(bM (listed.setIfInBounds j true) i↔i<j+1):=by
          intro hd;subst hd;have hkj:k<=j:=by
            rcases Nat.lt_or_ge j k with h|h
            · exact absurd ((hD j pR nR).2 h) JM
            · exact h
          refine⟨agQ k j hkj (by omega) fun i o' e h2 h3=> ?_,hkj,fun i o' e=> ?_⟩
          · have:=hbef i (by omega) (hok.d i j o' pR h3 e nR);have:=(hD i o' e).1 this;omega
          · rw [qU (by omega)];rcases Nat.lt_trichotomy i j with h|h|h
            · exact⟨fun _=>by omega,fun _=> .inr (hbef i (by omega) (hok.d i j o' pR h e nR))⟩
            · subst h;exact⟨fun _=>by omega,fun _=> .inl rfl⟩
            · refine⟨fun h'=> ?_,fun h'=>by omega⟩;rcases h' with h'|h'
              · omega
              · exact absurd h' (ZH i (hok.d j i pR o' h nR e))
        have agR:d=false-> ∀(i:Nat) (o:aQ),pr[i]? =some (o,true)->(bM (listed.setIfInBounds j true) i↔i<k):=by
          intro hd i o' e;rw [qU (by omega)];constructor
          · rintro(rfl|h)
            · rw [nR]at e;cases e;cases hd
            · exact(hD i o' e).1 h
          · intro h;exact .inr ((hD i o' e).2 h)
        unfold wpOpIn;rw [ho];simp only;have hgs: ∀s want,pR.g=some (s,want)->s∈pR.slots:=fun s want h=>by simp [aQ.slots,h]
        have hks: ∀t∈pR.k.slots,fO pr val aA j t=l7 pr val (bM listed) aA t:=fun t ht=>vQ t (by simp [aQ.slots,ht]);have afe:uM pR (fO pr val aA j)->uM pR (l7 pr val (bM listed) aA):=by
          intro h;unfold uM at h⊢;split
          · trivial
          · rename_i s want hg;rw [hg]at h;rw [<-vQ s (hgs s want hg)];exact h
        have aff:vO pR (fO pr val aA j)->vO pR (l7 pr val (bM listed) aA):=by
          intro h;unfold vO at h⊢;split
          · rename_i hg;rw [hg]at h;exact h
          · rename_i s want hg;rw [hg]at h;rw [<-vQ s (hgs s want hg)];exact h
        rcases htr j pR d nR with⟨hg,hv,hh⟩|⟨hg,hd,hWj⟩|⟨hg,hd,hh,hWj⟩
        ·
          rw [if_neg (by rw [Qd hcomp hR.sl (aff hg)];simp)];have hstep:=hR.step (Tr.refl B w) (Ext.refl B _ G) (Nat.le_refl _) hR.hm c1 V.ud;rw [<-hv,<-c2,<-hnext]at hstep;rw [<-c2];cases hdd:d with
          |true=>
            obtain⟨e1,e2,e3⟩:=adY hdd;have e4:hp (j+1)=hp k:=hh.trans e1;rw [<-e4]at hstep;refine⟨fun _ _=>trivial,?_⟩;refine ih _ (j+1) G _ w (by omega) (by simpa using hs) Il h1' hcl' e3 hstep ?_;rw [e4];exact hS
          |false=>exact⟨fun _ _=>trivial,ih _ k G _ w hk (by simpa using hs) Il h1' hcl' (agR hdd) hstep hS⟩
        ·
          rw [if_pos (KU hcomp hR.sl (afe hg))];obtain⟨e1,e2,e3⟩:=adY hd;rw [e1]at hWj;have M9:=M7 hks hWj;rw [c3]at M9;refine(vN M9 hR fun p H' G' x w' hK g1 g2 g3 g4 g5=> ?_);obtain⟨rfl,rfl⟩:=hK;have hstep:=hR.step g1 g2 g3 g4 c1 g5;rw [<-c2,<-hnext]at hstep;rw [<-c2];exact ih _ (j+1) G' _ w' (by omega) (by simpa using hs) Il h1' hcl' e3 hstep (hS.step g1 g2 g3)
        ·
          rw [if_pos (KU hcomp hR.sl (afe hg))];have M9:=M7 hks (hWj (hp k) (hC k hk));rw [c3]at M9;refine(vN M9 hR fun p H' G' x w' hK g1 g2 g3 g4 g5=> ?_);obtain⟨rfl,rfl⟩:=hK;have hstep:=hR.step g1 g2 g3 g4 c1 g5;rw [<-c2,<-hnext]at hstep;rw [<-c2];exact ih _ k G' _ w' hk (by simpa using hs) Il h1' hcl' (agR hd) hstep (hS.step g1 g2 g3)
end
end Go.VL
end
section
namespace Go.VL
variable [Glob]
def agS (ops:List Oper) (pr:List (aQ×Bool)):Bool:=
  let ms:=masks ops []
  (List.range ops.length).all (fun j=>
    (match ops[j]? with|some o=>(nQ o).all (fun e=>decide (e<j))|none=>true)&&
    (List.range j).all fun i=>
      match pr[i]?,pr[j]? with
      |some (x,d),some (y,d')=> !(clash x y)||gZ ms i j
      |_,none=>gZ ms i j
      |none,_=>true)
structure SK (ops:List Oper) (pr:List (aQ×Bool)):Prop where
  deps: ∀(j:Nat) (o:Oper),ops[j]? =some o-> ∀e∈nQ o,e<j
  clash: ∀(i j:Nat) (x y:aQ×Bool),i<j->pr[i]? =some x->pr[j]? =some y->clash x.1 y.1=true->gZ (masks ops []) i j=true
  post: ∀(i j:Nat),i<j->j<ops.length->pr.length<=j->gZ (masks ops []) i j=true
theorem adg {ops:List Oper} {pr:List (aQ×Bool)} (hl:pr.length<=ops.length) (h:agS ops pr=true):SK ops pr:=by
  have hj: ∀j,j<ops.length->(match ops[j]? with|some o=>(nQ o).all (fun e=>decide (e<j))|none=>true)=true/\ ∀i,i<j->(match pr[i]?,pr[j]? with
      |some (x,d),some (y,d')=> !(VL.clash x y)||gZ (masks ops []) i j
      |_,none=>gZ (masks ops []) i j
      |none,_=>true)=true:=by
    intro j hj;have:=List.all_eq_true.1 h j (List.mem_range.2 hj);simp only [Bool.and_eq_true]at this;exact⟨this.1,fun i hi=>List.all_eq_true.1 this.2 i (List.mem_range.2 hi)⟩
  have hlt: ∀{α:Type} (l:List α) (j:Nat) (x:α),l[j]? =some x->j<l.length:=fun l j x e=>by
    rcases Nat.lt_or_ge j l.length with h'|h'
    · exact h'
    · rw [List.getElem?_eq_none h']at e;cases e
  refine⟨fun j o e x hx=> ?_,fun i j x y hij ex ey hc=> ?_,fun i j hij hjo hjp=> ?_⟩
  · have:=(hj j (hlt _ _ _ e)).1;rw [e]at this;simpa using List.all_eq_true.1 this x hx
  · obtain⟨x,d⟩:=x;obtain⟨y,d'⟩:=y;have:=(hj j (Nat.lt_of_lt_of_le (hlt _ _ _ ey) hl)).2 i hij;rw [ex,ey]at this;simp only [Bool.or_eq_true,Bool.not_eq_true']at this;simp only at hc;rcases this with h'|h'
    · rw [hc]at h';cases h'
    · exact h'
  · have:=(hj j hjo).2 i hij;rw [List.getElem?_eq_none hjp]at this;cases hpi:pr[i]? <;>simpa [hpi]using this
theorem adh {sz b:Nat} {H:AH} {x y:PV} {K K':PV->AH->Prop} (hk: ∀p H',K p H'->K' p H') (h:DV sz b H x y K):DV sz b H x y K':=by
  unfold DV at h⊢;generalize rowOf sz H x=r1 at*;generalize rowOf sz H y=r2 at*;cases r1 with
  |none=>exact h
  |some es=>
    cases r2 with
    |none=>exact h
    |some fs=>
      have fr:zw sz b H es fs K->zw sz b H es fs K':=fun g cap hcap=>hk _ _ (g cap hcap);simp only at h⊢;by_cases h0:fs.length=0
      · rw [if_pos h0]at h⊢;cases x with
        |dQ id off len cap s=>
          simp only at h⊢;by_cases hl:len<=cap
          · rw [if_pos hl]at h⊢;exact hk _ _ h
          · rw [if_neg hl]at h;exact h.elim
        |_=>exact hk _ _ h
      · rw [if_neg h0]at h⊢;by_cases hc:qN sz es/\qN sz fs/\(es.length+fs.length)*b<=1099511627776
        · rw [if_pos hc]at h⊢;cases x with
          |aB es' c=>cases c<;>first|exact fr h|exact h
          |dQ id off len cap s=>
            simp only at h⊢;by_cases hl:len+fs.length<=cap
            · rw [if_pos hl]at h⊢;cases ho:H.obj id with
              |none=>rw [ho]at h;exact h
              |some cs=>
                rw [ho]at h;simp only at h⊢;split
                · rename_i hl2;rw [if_pos hl2]at h;exact hk _ _ h
                · rename_i hl2;rw [if_neg hl2]at h;exact h
            · rw [if_neg hl]at h⊢;split
              · rename_i hl2;rw [if_pos hl2]at h;exact fr h
              · rename_i hl2;rw [if_neg hl2]at h;exact h
          |_=>exact h
        · rw [if_neg hc]at h;exact h.elim
theorem aiI {k:NK} {K K':PV->AH->Prop} {σ:Nat->PV} {H:AH} (hk: ∀p H',K p H'->K' p H') (h:nop k K σ H):nop k K' σ H:=by
  cases k with
  |app sz b x y=>exact adh hk h
  |jf z ps=>
    simp only [nop]at h⊢;cases hb:kL σ z ps with
    |none=>rw [hb]at h;exact h
    |some cs=>rw [hb]at h;exact hk _ _ h
  |ZU x=>
    simp only [nop]at h⊢;generalize x.ev σ=v at*;cases v<;>first|exact hk _ _ h|exact h
  |copy sz x y=>
    simp only [nop]at h⊢;generalize x.ev σ=v at*;generalize rowOf sz H (y.ev σ)=r at*;cases v<;>try exact h
    cases r with
    |none=>exact h
    |some fs=>
      rename_i id off len cap s;simp only at h⊢;cases ho:H.obj id with
      |none=>rw [ho]at h;exact h
      |some cs=>
        rw [ho]at h;simp only at h⊢;split
        · rename_i hc;rw [if_pos hc]at h;exact hk _ _ h
        · rename_i hc;rw [if_neg hc]at h;exact h
  |UY sz b z x n=>
    simp only [nop]at h⊢;generalize x.ev σ=v at*;generalize n.ev σ=u at*;split
    · rename_i m hv hu;simp only at h;split
      · rename_i hc;rw [if_pos hc]at h;exact fun cap hcap=>hk _ _ (h cap hcap)
      · rename_i hc;rw [if_neg hc]at h;exact h
    · rename_i hno;split at h
      · rename_i m;exact absurd rfl (hno m rfl)
      · exact h
  |clr sz z x=>
    simp only [nop]at h⊢;generalize x.ev σ=v at*;cases v<;>try exact h
    rename_i id off len cap s;simp only at h⊢;cases ho:H.obj id with
    |none=>rw [ho]at h;exact h
    |some cs=>
      rw [ho]at h;simp only at h⊢;split
      · rename_i hc;rw [if_pos hc]at h;exact hk _ _ h
      · rename_i hc;rw [if_neg hc]at h;exact h
theorem zx {P:Program} {k:AK} {K K':PV->AH->Prop} {σ:Nat->PV} {H:AH} (hk: ∀p H',K p H'->K' p H') (h:jN P k K σ H):jN P k K' σ H:=by
  cases k with
  |r k=>
    simp only [jN]at*;cases hq:rop k σ H with
    |none=>rw [hq]at h;exact h
    |some p=>rw [hq]at h;exact hk _ _ h
  |d k=>
    simp only [jN]at*;cases hq:ni k σ H with
    |none=>rw [hq]at h;exact h
    |some p=>rw [hq]at h;exact hk _ _ h
  |n k=>simp only [jN]at*;exact aiI hk h
  |call f l=>
    simp only [jN]at*;generalize f.ev σ=v at*;cases v with
    |fn g fs cs=>
      cases g with
      |func g=>exact dU.mono h hk
      |_=>exact h
    |_=>exact h
  |bad=>exact h
def EN (P:Program) (ms:List Nat) (pr:List (aQ×Bool)) (K:(Nat->PV)->AH->Prop) (aA:Nat->PV):Nat->List Nat->(Nat->PV)->AH->Prop
  |n,rem,val,H=>
    (∀(i:Nat) (o:aQ),pr[i]? =some (o,false)->(∀s∈rem,gZ ms s i=false)->(∀(s:Nat) (o':aQ),pr[s]? =some (o',true)->s∉rem->gZ ms i s=false)->
      (vO o (fO pr val aA i)/\val i=ud)\/(uM o (fO pr val aA i)/\jN P o.k (fun r kg=>r=val i/\kg=H) (fO pr val aA i) H))/\
    (rem=[]->K (fO pr val aA pr.length) H)/\
    match n with
    |0=>rem=[]
    |n+1=> ∀j∈rem,∀(o:aQ),pr[j]? =some (o,true)->(∀s∈rem,gZ ms s j=false\/s=j)->
      uM o (fO pr val aA j)/\jN P o.k (fun r H'=> ∃val':Nat->PV,(∀i,i∉rem->(∀s∈rem,gZ ms s i=false)->val' i=val i)/\val' j=r/\EN P ms pr K aA n (rem.filter (·!=j)) val' H') (fO pr val aA j) H
theorem aai {P:Program} {ms:List Nat} {pr:List (aQ×Bool)} {K K':(Nat->PV)->AH->Prop} {aA:Nat->PV} (hk: ∀σ H,K σ H->K' σ H): ∀(n:Nat) (rem:List Nat) (val:Nat->PV) (H:AH),EN P ms pr K aA n rem val H->EN P ms pr K' aA n rem val H
  |0,rem,val,H,h=>by
    unfold EN at h⊢;exact⟨h.1,fun e=>hk _ _ (h.2.1 e),h.2.2⟩
  |n+1,rem,val,H,h=>by
    unfold EN at h⊢;refine⟨h.1,fun e=>hk _ _ (h.2.1 e),fun j hj o ho hb=> ?_⟩;obtain⟨h1,h2⟩:=h.2.2 j hj o ho hb;exact⟨h1,zx (fun r H' ⟨val',g1,g2,g3⟩=>⟨val',g1,g2,aai hk n _ _ _ g3⟩) h2⟩
section
variable {P:Program} {rm:Bool} {B:Nat->Prop} {k0 N mm:Nat} {ro:Option Nat} {ops:Array Oper}
variable {w0:World} {G0:Gh} {n0:Nat} {K:(Nat->PV)->AH->Prop} {Q:Exit->Act->World->Prop}
open Classical in
theorem adZ: ∀(l:List (aQ×Bool)) (val val':Nat->PV) (E:Nat->Prop) (σ:Nat->PV),(∀i,E i->val' i=val i)->l7 l val' E σ=l7 l val E σ
  |[],_,_,_,_,_=>rfl
  |(o,d)::l,val,val',E,σ,h=>by
    simp only [l7];have e:(if E 0 then upd σ o.dst (val' 0)else σ)=(if E 0 then upd σ o.dst (val 0)else σ):=by
      by_cases h0:E 0
      · rw [if_pos h0,if_pos h0,h 0 h0]
      · rw [if_neg h0,if_neg h0]
    rw [e];exact adZ l _ _ _ _ fun i hi=>h (i+1) hi
theorem afg {pr:List (aQ×Bool)} {post:List aQ} (aA:Nat->PV) (hc:mU P rm N ops ops.toList=some (pr.map (·.1)++post)) (hok:SK ops.toList pr)
    {listed:Array Bool} {j i0:Nat} (hs:listed.size=ops.size) (h1: ∀i,bM listed i->i<pr.length) (hcl:Closed ops.toList (bM listed)) (hi0:i0<pr.length) (aaf: ¬bM listed i0)
    (hj:j∈Region.ready .any ops listed): ∃(o:Oper) (ao:aQ) (d:Bool),ops[j]? =some o/\pr[j]? =some (ao,d)/\sG P rm N ops o=some ao/\ ¬bM listed j/\
      (∀i,i≠j->gZ (masks ops.toList []) i j=true->bM listed i)/\
      (∀(val:Nat->PV),∀t∈ao.slots,fO pr val aA j t=l7 pr val (bM listed) aA t)/\
      (∀(val:Nat->PV),l7 pr val (bM (listed.setIfInBounds j true)) aA=upd (l7 pr val (bM listed) aA) ao.dst (val j))/\
      Closed ops.toList (bM (listed.setIfInBounds j true))/\(∀i,bM (listed.setIfInBounds j true) i->i<pr.length)/\(∀i,bM (listed.setIfInBounds j true) i↔i=j\/bM listed i):=by
  obtain⟨hlen,hget⟩:=qy hc;have hlenS:pr.length+post.length=ops.size:=by simpa using hlen
  have hpost: ∀(i j:Nat),i<j->j<ops.size->pr.length<=j->gZ (masks ops.toList []) i j=true:=fun i j h1 h2 h3=>hok.post i j h1 (by simpa using h2) h3;obtain⟨JM,o,ho,hdj⟩:=(vP hs).1 hj;have hjo:=(Array.getElem?_eq_some_iff.1 ho).1
  let E:Nat->Prop:=fun i=>bM listed i\/i=j
  have aah:Closed ops.toList E:=by
    intro j' o' e hE' x hx;rcases hE' with hE'|rfl
    · exact .inl (hcl j' o' e hE' x hx)
    · have e':ops[j']? =some o':=by simpa using e
      rw [ho]at e';cases e';exact .inl (hdj x hx)
  have hbef: ∀i,i≠j->gZ (masks ops.toList []) i j=true->bM listed i:=fun i hij hb=>by
    rcases rU aah hb (.inr rfl)with h|h
    · exact h
    · exact absurd h hij
  have ZH: ∀i,gZ (masks ops.toList []) j i=true-> ¬bM listed i:=fun i hb h=>JM (rU hcl hb h);have hjn:j<pr.length:=by
    rcases Nat.lt_or_ge j pr.length with h|h
    · exact h
    · exact absurd (hbef i0 (by omega) (hpost i0 j (by omega) hjo h)) aaf
  obtain⟨⟨ao,d⟩,nR⟩: ∃x,pr[j]? =some x:=⟨_,List.getElem?_eq_getElem hjn⟩;obtain⟨pR,hao,hcomp⟩:=hget j o (by simpa using ho);have:pR=ao:=by
    rw [List.getElem?_append_left (by simpa using hjn),List.getElem?_map,nR]at hao;exact(Option.some.inj hao).symm
  subst this;have hlt: ∀(i:Nat) (x:aQ×Bool),pr[i]? =some x->i<pr.length:=fun i x e=>by
    rcases Nat.lt_or_ge i pr.length with h'|h'
    · exact h'
    · rw [List.getElem?_eq_none h']at e;cases e
  have hcut: ∀t,(t∈pR.slots\/pR.dst=some t)-> ∀(i:Nat) (x:aQ×Bool),pr[i]? =some x->x.1.dst=some t->(bM listed i↔i<j):=by
    intro t ht i x e hx;rcases Nat.lt_trichotomy i j with h|h|h
    · refine⟨fun _=>h,fun _=>hbef i (by omega) (hok.clash i j x (pR,d) h e nR ?_)⟩;unfold clash;rcases ht with ht|ht
      · simp [OX,hx,ht]
      · simp [SI,hx,ht]
    · subst h;exact⟨fun h=>absurd h JM,fun h=>by omega⟩
    · refine⟨fun h'=>absurd h' (ZH i (hok.clash j i (pR,d) x h nR e ?_)),fun h'=>by omega⟩;unfold clash;rcases ht with ht|ht
      · simp [OX,hx,ht]
      · simp [SI,hx,ht]
  have vQ: ∀(val:Nat->PV),∀t∈pR.slots,fO pr val aA j t=l7 pr val (bM listed) aA t:=fun val t ht=>(uU pr val _ aA j t (hcut t (.inl ht))).symm;have hnext: ∀(val:Nat->PV),l7 pr val (bM (listed.setIfInBounds j true)) aA=upd (l7 pr val (bM listed) aA) pR.dst (val j):=by
    intro val
    funext t
    by_cases hd:pR.dst=some t
    · rw [hd,SG];rw [uU pr val _ aA (j+1) t (fun i x e hx=>by
        rw [qU (by omega),hcut t (.inr hd) i x e hx];omega),QW pr val aA j (pR,d) nR,hd,SG]
    · rw [upd_ne hd];refine M8 pr val _ _ aA aA t rfl fun i x e hx=> ?_;rw [qU (by omega)];constructor
      · rintro(rfl|h)
        · rw [nR]at e;cases e;exact absurd hx hd
        · exact h
      · exact .inr
  have hcl':Closed ops.toList (bM (listed.setIfInBounds j true)):=fun j' o' e h x hx=>by
    rw [qU (by omega)]at h⊢;rcases aah j' o' e (h.symm.imp id id) x hx with h'|h'
    · exact .inr h'
    · exact .inl h'
  have h1': ∀i,bM (listed.setIfInBounds j true) i->i<pr.length:=fun i h=>by
    rw [qU (by omega)]at h;rcases h with rfl|h
    · exact hjn
    · exact h1 i h
  exact⟨o,pR,d,ho,nR,hcomp,JM,hbef,vQ,hnext,hcl',h1',fun i=>qU (by omega)⟩
theorem akV {o:Oper} {ao:aQ} {j:Nat} {σ σ':Nat->PV} {H:AH} {G:Gh} {a:Act} {w:World} {K1:PV->AH->Prop} {next:Act->World->Prop} (ho:ops[j]? =some o) (hcomp:sG P rm N ops o=some ao) (hR:Rl B k0 N σ H G a w) (hS:Since B w0 G0 n0 H G w)
    (hsl: ∀t∈ao.slots,σ' t=σ t) (hg:uM ao σ') (hW:jN P ao.k K1 σ' H)
    (hn: ∀p H' G' a' w',K1 p H'->Rl B k0 N (upd σ ao.dst p) H' G' a' w'->Since B w0 G0 n0 H' G' w'->next a' w'):wpOpIn (Wd ro) mm P ops Q j next a w:=by
  obtain⟨c1,c2,c3,c4⟩:=qV hcomp;have hks: ∀t∈ao.k.slots,σ' t=σ t:=fun t ht=>hsl t (by simp [aQ.slots,ht]);have afe:uM ao σ:=by
    unfold uM at hg⊢;split
    · trivial
    · rename_i s want hg';rw [hg']at hg;rw [<-hsl s (by simp [aQ.slots,hg'])];exact hg
  unfold wpOpIn;rw [ho];simp only;rw [if_pos (KU hcomp hR.sl afe)];have M9:=M7 hks hW;rw [c3]at M9;refine(vN M9 hR fun p H' G' x w' hK g1 g2 g3 g4 g5=> ?_);have hstep:=hR.step g1 g2 g3 g4 c1 g5;rw [<-c2]at hstep;rw [<-c2];exact hn p H' G' _ w' hK hstep (hS.step g1 g2 g3)
theorem aoC {o:Oper} {ao:aQ} {j:Nat} {σ σ':Nat->PV} {H:AH} {G:Gh} {a:Act} {w:World} {next:Act->World->Prop} (ho:ops[j]? =some o) (hcomp:sG P rm N ops o=some ao) (hR:Rl B k0 N σ H G a w)
    (hsl: ∀t∈ao.slots,σ' t=σ t) (hg:vO ao σ')
    (hn: ∀a',Rl B k0 N (upd σ ao.dst ud) H G a' w->next a' w):wpOpIn (Wd ro) mm P ops Q j next a w:=by
  obtain⟨c1,c2,c3,c4⟩:=qV hcomp;have aff:vO ao σ:=by
    unfold vO at hg⊢;split
    · rename_i hg';rw [hg']at hg;exact hg
    · rename_i s want hg';rw [hg']at hg;rw [<-hsl s (by simp [aQ.slots,hg'])];exact hg
  unfold wpOpIn;rw [ho];simp only;rw [if_neg (by rw [Qd hcomp hR.sl aff];simp)];have hstep:=hR.step (Tr.refl B w) (Ext.refl B _ G) (Nat.le_refl _) hR.hm c1 V.ud;rw [<-c2]at hstep;rw [<-c2];exact⟨fun _ _=>trivial,hn _ hstep⟩
theorem aaj {pr:List (aQ×Bool)} {post:List aQ} {aA:Nat->PV} {rem:List Nat} {val:Nat->PV} {H:AH}
    (hQ: ∀σ H G a w,K σ H->Rl B k0 N σ H G a w->Since B w0 G0 n0 H G w->Q .normal a w) (hc:mU P rm N ops ops.toList=some (pr.map (·.1)++post)) (hok:SK ops.toList pr)
    (hpure: ∀(i:Nat) (o:aQ),pr[i]? =some (o,false)->(∀s∈rem,gZ (masks ops.toList []) s i=false)->(∀(s:Nat) (o':aQ),pr[s]? =some (o',true)->s∉rem->gZ (masks ops.toList []) i s=false)->
      (vO o (fO pr val aA i)/\val i=ud)\/(uM o (fO pr val aA i)/\jN P o.k (fun r kg=>r=val i/\kg=H) (fO pr val aA i) H))
    (hend:rem=[]->dD P post K (fO pr val aA pr.length) H) (Jk: ∀i∈rem,∃o,pr[i]? =some (o,true))
    (av5: ∀(j:Nat) (o:Oper) (ao:aQ) (fuel:Nat) (listed:Array Bool) (G:Gh) (a:Act) (w:World),j∈rem->ops[j]? =some o->pr[j]? =some (ao,true)->sG P rm N ops o=some ao->(∀s∈rem,gZ (masks ops.toList []) s j=false\/s=j)->
      (∀(val:Nat->PV),∀t∈ao.slots,fO pr val aA j t=l7 pr val (bM listed) aA t)->
      (∀(val:Nat->PV),l7 pr val (bM (listed.setIfInBounds j true)) aA=upd (l7 pr val (bM listed) aA) ao.dst (val j))->
      (listed.setIfInBounds j true).size=ops.size->(listed.setIfInBounds j true).toList.countP (fun b=> !b)<=fuel->(∀i,bM (listed.setIfInBounds j true) i->i<pr.length)->Closed ops.toList (bM (listed.setIfInBounds j true))->
      (∀(i:Nat) (o:aQ),pr[i]? =some (o,true)->(bM (listed.setIfInBounds j true) i↔i∉rem.filter (·!=j)))->
      (∀i,bM listed i->i∉rem/\ ∀s∈rem,gZ (masks ops.toList []) s i=false)->
      Rl B k0 N (l7 pr val (bM listed) aA) H G a w->Since B w0 G0 n0 H G w->wpOpIn (Wd ro) mm P ops Q j (wpAnyIn (Wd ro) mm P .any ops Q fuel (listed.setIfInBounds j true)) a w):
    ∀(fuel:Nat) (listed:Array Bool) (G:Gh) (a:Act) (w:World),listed.size=ops.size->listed.toList.countP (fun b=> !b)<=fuel->(∀i,bM listed i->i<pr.length)->Closed ops.toList (bM listed)->
      (∀(i:Nat) (o:aQ),pr[i]? =some (o,true)->(bM listed i↔i∉rem))->Rl B k0 N (l7 pr val (bM listed) aA) H G a w->Since B w0 G0 n0 H G w->wpAnyIn (Wd ro) mm P .any ops Q fuel listed a w:=by
  obtain⟨hlen,hget⟩:=qy hc;have hlenS:pr.length+post.length=ops.size:=by simpa using hlen
  have Ik: ∀(j:Nat) (o:Oper),ops[j]? =some o-> ∀e∈nQ o,e<j:=fun j o e=>hok.deps j o (by simpa using e);have hpost: ∀(i j:Nat),i<j->j<ops.size->pr.length<=j->gZ (masks ops.toList []) i j=true:=fun i j h1 h2 h3=>hok.post i j h1 (by simpa using h2) h3;have aiJ: ∀(i:Nat) (x:aQ×Bool),pr[i]? =some x->i<pr.length:=fun i x e=>by
    rcases Nat.lt_or_ge i pr.length with h'|h'
    · exact h'
    · rw [List.getElem?_eq_none h']at e;cases e
  have finish: ∀(fuel:Nat) (listed:Array Bool) (G:Gh) (a:Act) (w:World),listed.size=ops.size->ops.size -pr.length<=fuel->(∀i,bM listed i->i<pr.length)->(∀i,i<pr.length->bM listed i)->
      (∀(i:Nat) (o:aQ),pr[i]? =some (o,true)->(bM listed i↔i∉rem))->Rl B k0 N (l7 pr val (bM listed) aA) H G a w->Since B w0 G0 n0 H G w->wpAnyIn (Wd ro) mm P .any ops Q fuel listed a w:=by
    intro fuel listed G a w hs hf h1 h2 hD hR hS;have hr0:rem=[]:=by
      rw [List.eq_nil_iff_forall_not_mem];intro i hi;obtain⟨o,e⟩:=Jk i hi;exact(hD i o e).1 (h2 i (aiJ _ _ e)) hi
    have hE:l7 pr val (bM listed) aA=fO pr val aA pr.length:=funext fun t=>uU pr val _ aA _ t fun i o e _=>by
      have hi:=aiJ _ _ e;exact⟨fun _=>hi,fun _=>h2 i hi⟩
    rw [hE]at hR
    have hd:(pr.map (·.1)++post).drop pr.length=post:=by
      have:pr.length=(pr.map (·.1)).length:=by simp
      rw [this,List.drop_left]
    exact adX hQ hc Ik hpost fuel listed pr.length _ _ _ _ _ (Nat.le_refl _) (by omega) hs (fun i hi=>⟨fun h=>h1 i h,fun h=>h2 i h⟩) hf (by rw [hd];exact hend hr0) hR hS
  intro fuel
  induction fuel with
  |zero=>
    intro listed G a w hs hcnt h1 hcl hD hR hS;have hall: ∀i,i<ops.size->bM listed i:=by
      intro i hi;have h0:listed.toList.countP (fun b=> !b)=0:=by omega
      rw [List.countP_eq_zero]at h0;have:=h0 (listed[i]'(by omega)) (by simp);simpa [bM,Array.getElem?_eq_getElem (show i<listed.size by omega)]using this
    have hsz:ops.size<=pr.length:=by
      rcases Nat.lt_or_ge pr.length ops.size with h|h
      · have:=h1 pr.length (hall _ h);omega
      · exact h
    exact finish 0 listed G a w hs (by omega) h1 (fun i hi=>hall i (by omega)) hD hR hS
  |succ fuel ih=>
    intro listed G a w hs hcnt h1 hcl hD hR hS;by_cases hdone: ∀i,i<pr.length->bM listed i
    · refine finish (fuel+1) listed G a w hs ?_ h1 hdone hD hR hS;have hcount:post.length<=listed.toList.countP (fun b=> !b):=by
        have hsplit:listed.toList=listed.toList.take pr.length++listed.toList.drop pr.length:=(List.take_append_drop _ _).symm;rw [hsplit,List.countP_append];have:(listed.toList.drop pr.length).countP (fun b=> !b)=(listed.toList.drop pr.length).length:=by
          rw [List.countP_eq_length];intro b hb;obtain⟨i,hi⟩:=List.getElem?_of_mem hb;rw [List.getElem?_drop]at hi;have hnl: ¬bM listed (pr.length+i):=fun h=>by have:=h1 _ h;omega
          rw [Array.getElem?_toList]at hi;simp [bM,hi]at hnl;simp [hnl]
        rw [this];simp;omega
      omega
    · obtain⟨i0,hi0,aaf⟩: ∃i,i<pr.length/\ ¬bM listed i:=by
        apply Classical.byContradiction
        intro hno;exact hdone fun i hi=>Classical.byContradiction fun h=>hno ⟨i,hi,h⟩
      refine⟨fun hr=> ?_,fun j hj=> ?_⟩
      · have aag: ∃i,i<pr.length/\ ¬bM listed i/\ ∀i',i'<i->bM listed i':=by
          have: ∀n,(∀i',i'<n->bM listed i')\/ ∃i,i<n/\ ¬bM listed i/\ ∀i',i'<i->bM listed i':=by
            intro n
            induction n with
            |zero=>exact .inl (fun i' h=>by omega)
            |succ n ihn=>
              rcases ihn with h|⟨i,h⟩
              · by_cases hn:bM listed n
                · exact .inl fun i' hi'=>by
                    rcases Nat.lt_or_ge i' n with h'|h'
                    · exact h i' h'
                    · have:i'=n:=by omega
                      exact this▸hn
                · exact .inr ⟨n,by omega,hn,h⟩
              · exact .inr ⟨i,by omega,h.2⟩
          rcases this pr.length with h|⟨i,h⟩
          · exact absurd h hdone
          · exact⟨i,h⟩
        obtain⟨i,hi,hni,hlt⟩:=aag;have hio:i<ops.size:=by omega
        have:i∈Region.ready .any ops listed:=(vP hs).2 ⟨hni,ops[i],by simp,fun e he=>hlt e (Ik i _ (by simp) e he)⟩;rw [hr]at this;cases this
      · obtain⟨o,ao,d,ho,nR,hcomp,JM,hbef,vQ,hnext,hcl',h1',hset⟩:=afg aA hc hok hs h1 hcl hi0 aaf hj;have Il:(listed.setIfInBounds j true).toList.countP (fun b=> !b)<=fuel:=by
          have:=adW (listed:=listed) (i:=j) (by have:=aiJ _ _ nR;omega) JM;omega
        have hop: ∀s∈rem,gZ (masks ops.toList []) s j=false\/s=j:=fun s hs'=>by
          by_cases hsj:s=j
          · exact .inr hsj
          · refine .inl ?_;cases hb:gZ (masks ops.toList []) s j with
            |false=>rfl
            |true=>
              obtain⟨o',e'⟩:=Jk s hs';exact absurd hs' ((hD s o' e').1 (hbef s hsj hb))
        cases d with
        |false=>
          have hjr:j∉rem:=fun h=>by
            obtain⟨o',e'⟩:=Jk j h;rw [nR]at e';cases e'
          have hD': ∀(i:Nat) (o:aQ),pr[i]? =some (o,true)->(bM (listed.setIfInBounds j true) i↔i∉rem):=fun i o' e=>by
            rw [hset];constructor
            · rintro(rfl|h)
              · exact hjr
              · exact(hD i o' e).1 h
            · intro h;exact .inr ((hD i o' e).2 h)
          rcases hpure j ao nR (fun s hs'=>(hop s hs').resolve_right fun h=>hjr (h▸hs')) (fun s o' e' hs'=>by
            cases hb:gZ (masks ops.toList []) j s with
            |false=>rfl
            |true=>exact absurd (rU hcl hb ((hD s o' e').2 hs')) JM)with⟨hg,hv⟩|⟨hg,hWj⟩
          · refine aoC ho hcomp hR (vQ val) hg fun a' hR'=> ?_;rw [<-hv,<-hnext]at hR';exact ih _ G a' w (by simpa using hs) Il h1' hcl' hD' hR' hS
          · refine akV ho hcomp hR hS (vQ val) hg hWj fun p H' G' a' w' hK hR' hS'=> ?_;obtain⟨rfl,rfl⟩:=hK;rw [<-hnext]at hR';exact ih _ G' a' w' (by simpa using hs) Il h1' hcl' hD' hR' hS'
        |true=>
          have hjr:j∈rem:=Classical.byContradiction fun h=>JM ((hD j ao nR).2 h);refine av5 j o ao fuel listed G a w hjr ho nR hcomp hop vQ hnext (by simpa using hs) Il h1' hcl' (fun i o' e=> ?_) (fun i hi=> ?_) hR hS
          · rw [hset,hD i o' e,List.mem_filter];by_cases hij:i=j
            · subst hij;simp
            · simp [hij]
          · refine⟨fun hr=> ?_,fun s hs'=> ?_⟩
            · obtain⟨o',e'⟩:=Jk i hr;exact(hD i o' e').1 hi hr
            · cases hb:gZ (masks ops.toList []) s i with
              |false=>rfl
              |true=>
                obtain⟨o',e'⟩:=Jk s hs';exact absurd hs' ((hD s o' e').1 (rU hcl hb hi))
theorem aoD {pr:List (aQ×Bool)} {post:List aQ} {aA:Nat->PV}
    (hQ: ∀σ H G a w,K σ H->Rl B k0 N σ H G a w->Since B w0 G0 n0 H G w->Q .normal a w) (hc:mU P rm N ops ops.toList=some (pr.map (·.1)++post)) (hok:SK ops.toList pr):
    ∀(n:Nat) (rem:List Nat) (val:Nat->PV) (H:AH),EN P (masks ops.toList []) pr (dD P post K) aA n rem val H->(∀i∈rem,∃o,pr[i]? =some (o,true))->
    ∀(fuel:Nat) (listed:Array Bool) (G:Gh) (a:Act) (w:World),listed.size=ops.size->listed.toList.countP (fun b=> !b)<=fuel->(∀i,bM listed i->i<pr.length)->Closed ops.toList (bM listed)->
      (∀(i:Nat) (o:aQ),pr[i]? =some (o,true)->(bM listed i↔i∉rem))->Rl B k0 N (l7 pr val (bM listed) aA) H G a w->Since B w0 G0 n0 H G w->wpAnyIn (Wd ro) mm P .any ops Q fuel listed a w:=by
  intro n
  induction n with
  |zero=>
    intro rem val H hW Jk;unfold EN at hW;refine aaj hQ hc hok hW.1 hW.2.1 Jk fun j o ao fuel listed G a w hj=> ?_;rw [hW.2.2]at hj;cases hj
  |succ n ih=>
    intro rem val H hW Jk;unfold EN at hW;refine aaj hQ hc hok hW.1 hW.2.1 Jk fun j o ao fuel listed G a w hj ho nR hcomp hop vQ hnext q1 q2 q3 q4 q5 q6 hR hS=> ?_;obtain⟨h2,h3⟩:=hW.2.2 j hj ao nR hop;refine akV ho hcomp hR hS (vQ val) h2 h3 fun p H2 G' a' w' hK hR' hS'=> ?_;obtain⟨val',h1,h4,h5⟩:=hK;have hv:l7 pr val' (bM listed) aA=l7 pr val (bM listed) aA:=adZ pr val val' _ aA fun i hi=>h1 i (q6 i hi).1 (q6 i hi).2;rw [<-h4,<-hv,<-hnext]at hR';exact ih _ val' _ h5 (fun i hi=>Jk i (List.mem_filter.1 hi).1) fuel _ G' a' w' q1 q2 q3 q4 q5 hR' hS'
end
end Go.VL
end
section
namespace Go.VL
variable [Glob]
section
variable {B:Nat->Prop} {G:Gh} {H:AH} {w:World}
theorem HM.lG (hM:HM B H G w) {r:Nat} {o o':Obj} (h:w.heap[r]? =some o) (ho:o.isCells=false) (ho':o'.isCells=false):HM B H G (w.putObj r o'):=by
  have hne: ∀b arr t fr,w.heap[b]? =some (.cells arr t fr)->b≠r:=fun b arr t fr e hb=>by
    subst hb;rw [h]at e;cases e;simp [Obj.isCells]at ho
  have hkeep: ∀b,b≠r->(w.putObj r o').heap[b]? =w.heap[b]? :=fun b hb=>World.putObj_heap_other hb;refine⟨hM.glob,fun a x e=> ?_,fun id cs e=> ?_,hM.inj,fun k e=> ?_,hM.sD,hM.tobj,fun b arr e=>let ⟨h1,t,fr,h2⟩:=hM.wh b arr e;⟨h1,t,fr,(hkeep b (hne b arr t fr h2)).trans h2⟩⟩
  · have hc:=hM.tu a x e;by_cases hb:a.block=r
    · obtain⟨ab,ao,az⟩:=a;simp only at hb;subst hb;unfold World.cell? at hc;simp only [h]at hc;cases o<;>simp_all [Obj.isCells]
    · exact(World.cell?_of_block (hkeep _ hb)).trans hc
  · obtain⟨k0,b,ar,t',k1,k2,k3,k4,k5⟩:=hM.obj id cs e;exact⟨k0,b,ar,t',k1,k2,(hkeep b (hne _ _ _ _ k3)).trans k3,k4,k5⟩
  · obtain⟨k0,b,o,ar,t',k1,k2,k3,k5⟩:=hM.tok k e;exact⟨k0,b,o,ar,t',k1,k2,(hkeep b (hne _ _ _ _ k3)).trans k3,k5⟩
theorem HM.SL (hM:HM B H G w) (o:Obj):HM B H G (w.alloc o):=by
  have hlt: ∀b arr t fr,w.heap[b]? =some (.cells arr t fr)->b<w.heap.size:=fun b arr t fr e=>(Array.getElem?_eq_some_iff.1 e).1;refine⟨hM.glob,fun a x e=> ?_,fun id cs e=> ?_,hM.inj,fun k e=> ?_,hM.sD,hM.tobj,hM.wh.keep fun b _ hb=>heap_alloc_old w o b hb⟩
  · have hc:=hM.tu a x e;exact(World.cell?_of_block (heap_alloc_old w o _ (World.block_lt_of_cell? w a hc))).trans hc
  · obtain⟨k0,b,ar,t',k1,k2,k3,k4,k5⟩:=hM.obj id cs e;exact⟨k0,b,ar,t',k1,k2,(heap_alloc_old w o b (hlt _ _ _ _ k3)).trans k3,k4,k5⟩
  · obtain⟨k0,b,o',ar,t',k1,k2,k3,k5⟩:=hM.tok k e;exact⟨k0,b,o',ar,t',k1,k2,(heap_alloc_old w o b (hlt _ _ _ _ k3)).trans k3,k5⟩
theorem Marks.lG {k0:Nat} {ds:List Deferred} (h:Marks k0 ds w) {r:Nat} {o o':Obj} (hr:w.heap[r]? =some o) (ho:o≠ .deferred (some [])):Marks k0 ds (w.putObj r o'):=by
  obtain⟨h0,rs,h1,h2,h3⟩:=h;refine⟨by rw [World.putObj_size];exact h0,rs,h1,h2,fun r' hr'=>⟨(h3 r' hr').1,?_⟩⟩;have hne:r'≠r:=fun e=>by
    subst e;have:=(h3 r' hr').2;rw [hr]at this;exact ho (Option.some.inj this)
  exact(World.putObj_heap_other hne).trans (h3 r' hr').2
theorem aak (hM:HM B H G w) {id bb:Nat} {v:PV} (ho:H.obj id=some [v]) (hm:G.m id=some bb): ∃x,w.cell? ⟨bb,0,none⟩=some x/\V G H.next v x:=by
  obtain⟨_,b',arr,t,k1,_,k3,k4,_⟩:=hM.obj id _ ho;have:b'=bb:=by rw [k1]at hm;exact Option.some.inj hm
  subst this;have hs:arr.size=1:=k4.1;exact⟨arr[0],by rw [tQ k3];simp [hs],k4.2 0 v _ rfl (by simp)⟩
theorem Tr.lG {w W:World} (h:Tr B w W) {r:Nat} {o':Obj} (hr:w.heap.size<=r):Tr B w (W.putObj r o'):=
  ⟨by rw [World.putObj_size];exact h.size,fun b hb hB=>(World.putObj_heap_other (by omega)).trans (h.same b hb hB),h.os,h.tape,h.output,fun b o e ho=>by
    have:=(Array.getElem?_eq_some_iff.1 e).1;exact(World.putObj_heap_other (by omega)).trans (h.Ig b o e ho)⟩
theorem Up.lG (h:Up B w) (r:Nat) (o':Obj):Up B (w.putObj r o'):=fun b hb=>h b (by rwa [World.putObj_size]at hb)
theorem Sl.mono {G':Gh} {n n':Nat} {σ:Nat->PV} {a:Act} (h:Sl G n σ a) (hE:Ext B n G G') (hn:n<=n'):Sl G' n' σ a:=⟨h.1.mono hE.F,fun t=>(h.2 t).mono hE hn⟩
theorem Since.trans {w0:World} {G0 G':Gh} {n0:Nat} {H':AH} {w':World} (h:Since B w0 G0 n0 H G w) (k:Since B w G H.next H' G' w'):Since B w0 G0 n0 H' G' w':=h.step k.tr k.ex k.le
theorem Since.lG {w0:World} {G0:Gh} {n0:Nat} (h:Since B w0 G0 n0 H G w) {r:Nat} {o':Obj} (hr:w0.heap.size<=r):Since B w0 G0 n0 H G (w.putObj r o'):=⟨h.tr.lG hr,h.ex,h.le⟩
end
def elemV (agg:Bool) (vs:Array Value):Value:=if agg then .agg vs else vs.getD 0 undef
def ZI (P:Program) (g:FuncId) (sz:Nat) (agg:Bool):Prop:=
  ∀(l m:Nat) (bx:Addr) (n:Nat) (J:Nat->World->Prop) (Jx:World->Prop) (W:World),n<=1099511627776->
    (∃ad cap,W.cell? bx=some (.slice ad n cap))->
    (∀k W,J (k+1) W-> ∃b o cap vs,W.cell? bx=some (.slice (some ⟨b,o,none⟩) n cap)/\k<n/\vs.size=sz/\(∀j x,vs[j]? =some x->W.cell? ⟨b,o+k*sz+j,none⟩=some x)/\
      YieldAt (Wd none) m P l #[.int .i64 k,elemV agg vs] W fun e W'=>(e= .returned (.bool true)/\J k W')\/(e= .returned (.bool false)/\Jx W'))->
    J n W->CallsIn (Wd none) m P g #[.func (.yield l) #[] #[],.pointer (some bx)] W fun e W'=>(∃v,e= .returned v)/\(J 0 W'\/Jx W')
theorem adi {ro:Option Nat} {n n':Nat} {P:Program} {l:Nat} {f:FuncId} {tmps:Array Value} {assign body:Code} {w:World} {R:Ending->World->Prop} (h:RoundIn (Wd ro) n P l f tmps assign body w R):RoundIn (Wd ro) n' P l f tmps assign body w R:=
  ⟨h.1,fun c cs _=>h.2 c cs (fun _ hd=>by simp [Fence.wide]at hd)⟩
end Go.VL
end
section
namespace Go.VL
variable [Glob]
def KV (pr:List (aQ×Bool)):List Nat:=(List.range pr.length).filter fun i=>match pr[i]? with|some (_,d)=>d|none=>false
theorem Yl {pr:List (aQ×Bool)} (i:Nat):i∈KV pr↔ ∃o,pr[i]? =some (o,true):=by
  unfold KV;rw [List.mem_filter,List.mem_range];constructor
  · rintro⟨h1,h2⟩;cases e:pr[i]? with
    |none=>rw [e]at h2;cases h2
    |some x=>
      obtain⟨o,d⟩:=x;rw [e]at h2;simp only at h2;exact⟨o,by rw [h2]⟩
  · rintro⟨o,e⟩;refine⟨(List.getElem?_eq_some_iff.1 e).1,?_⟩;rw [e]
inductive AC where
  |skip
  |ops (l:List aQ)
  |par (pr:List (aQ×Bool)) (post:List aQ)
  |aal (ms:List Nat) (pr:List (aQ×Bool)) (post:List aQ)
  |seq (a b:AC)
  |cond (c:AE) (a b:AC)
  |block (id:Nat) (a:AC)
  |loop (a:AC)
  |rf (f:AE) (p q:Nat) (a b:AC)
  |exit (id:Nat)
  |ret
inductive Ex where
  |normal|exit (id:Nat)|ret
abbrev Post:=Ex->(Nat->PV)->AH->Prop
def ZJ (step:(Ex->(Nat->PV)->AH->Prop)->(Nat->PV)->AH->Prop) (Q:Post) (σ:Nat->PV) (H:AH):Prop:=
  ∀X:(Nat->PV)->AH->Prop,(∀σ H,step (fun e σ' H'=>match e with| .normal=>X σ' H'|e=>Q e σ' H') σ H->X σ H)->X σ H
def Im (K:(Nat->PV)->AH->Prop) (Q:Post):Post:=fun e σ H=>match e with
  | .normal=>K σ H
  |e=>Q e σ H
def SN (id:Nat) (Q:Post):Post:=fun e σ H=>match e with
  | .exit i=>if i=id then Q .normal σ H else Q (.exit i) σ H
  |e=>Q e σ H
def KW (K:(Nat->PV)->AH->Prop):Post:=fun e σ H=>match e with
  | .normal=>K σ H
  |_=>False
def afh (Q:Post) (σ:Nat->PV) (X:AH->Prop):Post:=fun e _ H=>match e with
  | .normal=>X H
  | .exit i=>Q (.exit i) σ H
  | .ret=>Q .ret σ H
def EX (agg:Bool) (cs:List PV):PV:=if agg then .agg cs else cs.headD .any
def Io (step:Post->(Nat->PV)->AH->Prop) (Q:Post) (σ:Nat->PV) (id:Nat) (o:List PV) (p q:Nat) (vs:List PV):Nat->AH->Prop
  |0,H=>Q .normal σ H
  |k+1,H=>H.obj id=some o/\ ∃v,vs[k]? =some v/\step (afh Q σ (Io step Q σ id o p q vs k)) (upd (upd σ (some p) (.int .i64 k)) (some q) v) H
theorem SQ {step:Post->(Nat->PV)->AH->Prop} (hs: ∀Q Q':Post,(∀e σ H,Q e σ H->Q' e σ H)-> ∀σ H,step Q σ H->step Q' σ H) {Q Q':Post} (hq: ∀e σ H,Q e σ H->Q' e σ H) {σ:Nat->PV} {id:Nat} {o:List PV} {p q:Nat} {vs:List PV}:
    ∀(k:Nat) (H:AH),Io step Q σ id o p q vs k H->Io step Q' σ id o p q vs k H
  |0,H,h=>hq _ _ _ h
  |k+1,H,⟨h1,v,h2,h3⟩=>⟨h1,v,h2,hs _ _ (fun e σ' H' hQ=>by
      cases e with
      |normal=>exact SQ hs hq k H' hQ
      |exit i=>exact hq _ _ _ hQ
      |ret=>exact hq _ _ _ hQ) _ _ h3⟩
def W (P:Program):AC->Post->(Nat->PV)->AH->Prop
  | .skip,Q,σ,H=>Q .normal σ H
  | .ops l,Q,σ,H=>dD P l (Q .normal) σ H
  | .par pr post,Q,σ,H=> ∃C:AH->Prop,C H/\iZ P C pr (dD P post (Q .normal)) σ H
  | .aal ms pr post,Q,σ,H=> ∃val:Nat->PV,EN P ms pr (dD P post (Q .normal)) σ (KV pr).length (KV pr) val H
  | .seq a b,Q,σ,H=>W P a (Im (fun σ' H'=>W P b Q σ' H') Q) σ H
  | .cond c a b,Q,σ,H=>match c.ev σ with
    | .bool t=>(t=true->W P a Q σ H)/\(t=false->W P b Q σ H)
    |_=>False
  | .block id a,Q,σ,H=>W P a (SN id Q) σ H
  | .loop a,Q,σ,H=>ZJ (W P a) Q σ H
  | .rf f p q a b,Q,σ,H=>match f.ev σ with
    | .fn (.func g) [] [.ref id 0]=> ∃sz agg es c,Enters P g/\ZI P g sz agg/\0<sz/\H.obj id=some [.aB es c]/\es.length<=1099511627776/\KP sz es/\
        Io (fun Q' σ' H'=>W P a (KW (fun zy kg=>W P b Q' zy kg)) σ' H') Q σ id [.aB es c] p q (es.map (EX agg)) es.length H
    |_=>False
  | .exit id,Q,σ,H=>Q (.exit id) σ H
  | .ret,Q,σ,H=>Q .ret σ H
theorem vR {P:Program}: ∀{l:List aQ} {K K':(Nat->PV)->AH->Prop} {σ:Nat->PV} {H:AH},(∀σ H,K σ H->K' σ H)->dD P l K σ H->dD P l K' σ H
  |[],_,_,_,_,hk,h=>hk _ _ h
  |o::l,K,K',σ,H,hk,h=>by
    simp only [dD]at*;split
    · rename_i hg;simp only [hg]at h;exact zx (fun _ _ h=>vR hk h) h
    · rename_i hg;simp only [hg]at h;split
      · rename_i hb;simp only [hb]at h;split
        · rename_i hw;rw [if_pos hw]at h;exact zx (fun _ _ h=>vR hk h) h
        · rename_i hw;rw [if_neg hw]at h;exact vR hk h
      · rename_i hb;simp only [hb]at h;exact vR hk h
      · rename_i hb hb2;split at h
        · rename_i b' hb';exact absurd hb' (hb b')
        · rename_i hb';exact absurd hb' hb2
        · exact h
theorem Ip {P:Program} {C:AH->Prop}: ∀{l:List (aQ×Bool)} {K K':(Nat->PV)->AH->Prop} {σ:Nat->PV} {H:AH},(∀σ H,K σ H->K' σ H)->iZ P C l K σ H->iZ P C l K' σ H
  |[],_,_,_,_,hk,h=>hk _ _ h
  |(o,d)::l,K,K',σ,H,hk,h=>by
    simp only [iZ]at*;rcases h with⟨h1,h2⟩|⟨h1,h2⟩
    · exact .inl ⟨h1,Ip hk h2⟩
    · refine .inr ⟨h1,?_⟩;cases d with
      |true=>obtain⟨p,H',g1,g2,g3⟩:=h2;exact⟨p,H',g1,g2,Ip hk g3⟩
      |false=>obtain⟨p,g1,g3⟩:=h2;exact⟨p,g1,Ip hk g3⟩
theorem afi {step:Post->(Nat->PV)->AH->Prop} (hs: ∀Q Q':Post,(∀e σ H,Q e σ H->Q' e σ H)-> ∀σ H,step Q σ H->step Q' σ H) {Q Q':Post} (hq: ∀e σ H,Q e σ H->Q' e σ H) {σ:Nat->PV} {H:AH}
    (h:ZJ step Q σ H):ZJ step Q' σ H:=by
  intro X hX;refine h X fun σ H hst=>hX σ H (hs _ _ (fun e σ H hQ=> ?_) σ H hst);cases e with
  |normal=>exact hQ
  |exit i=>exact hq _ _ _ hQ
  |ret=>exact hq _ _ _ hQ
theorem Ao {P:Program}: ∀{c:AC} {Q Q':Post},(∀e σ H,Q e σ H->Q' e σ H)-> ∀{σ:Nat->PV} {H:AH},W P c Q σ H->W P c Q' σ H
  | .skip,_,_,hq,_,_,h=>hq _ _ _ h
  | .ops l,_,_,hq,_,_,h=>vR (hq .normal) h
  | .par pr post,_,_,hq,_,_,h=>by
    obtain⟨C,h1,h2⟩:=h;exact⟨C,h1,Ip (fun _ _ h=>vR (hq .normal) h) h2⟩
  | .aal ms pr post,_,_,hq,_,_,h=>by
    obtain⟨val,h1⟩:=h;exact⟨val,aai (fun _ _ h=>vR (hq .normal) h) _ _ _ _ h1⟩
  | .seq a b,Q,Q',hq,σ,H,h=>by
    simp only [W]at*;refine Ao (c:=a) (fun e σ H h=> ?_) h;cases e with
    |normal=>exact Ao (c:=b) hq h
    |exit i=>exact hq _ _ _ h
    |ret=>exact hq _ _ _ h
  | .cond c a b,Q,Q',hq,σ,H,h=>by
    simp only [W]at*;split
    · rename_i t ht;simp only [ht]at h;exact⟨fun e=>Ao (c:=a) hq (h.1 e),fun e=>Ao (c:=b) hq (h.2 e)⟩
    · rename_i hno;split at h
      · rename_i t ht;exact absurd ht (hno t)
      · exact h
  | .block id a,Q,Q',hq,σ,H,h=>by
    simp only [W]at*;refine Ao (c:=a) (fun e σ H h=> ?_) h;cases e with
    |normal=>exact hq _ _ _ h
    |exit i=>
      simp only [SN]at*;split
      · rename_i hi;rw [if_pos hi]at h;exact hq _ _ _ h
      · rename_i hi;rw [if_neg hi]at h;exact hq _ _ _ h
    |ret=>exact hq _ _ _ h
  | .loop a,Q,Q',hq,σ,H,h=>by
    simp only [W]at*;exact afi (step:=W P a) (fun Q Q' hq σ H h=>Ao (c:=a) hq h) hq h
  | .rf f p q a b,Q,Q',hq,σ,H,h=>by
    simp only [W]at*;split
    · rename_i g id hf;simp only [hf]at h;obtain⟨sz,agg,es,c,h1,h2,h3,h4,h5,h6,h7⟩:=h;refine⟨sz,agg,es,c,h1,h2,h3,h4,h5,h6,SQ (step:=fun Q' σ' H'=>W P a (KW (fun zy kg=>W P b Q' zy kg)) σ' H') (fun Q1 Q2 h12 σ' H' hs=>Ao (c:=a) (fun e zy kg hh=> ?_) hs) hq _ _ h7⟩;cases e with
      |normal=>exact Ao (c:=b) h12 hh
      |exit i=>exact hh
      |ret=>exact hh
    · rename_i hno;split at h
      · rename_i g id hf;exact absurd hf (hno g id)
      · exact h
  | .exit id,_,_,hq,_,_,h=>hq _ _ _ h
  | .ret,_,_,hq,_,_,h=>hq _ _ _ h
theorem aoE {P:Program} {a:AC} {Q:Post} {σ:Nat->PV} {H:AH} (h:W P a (Im (fun σ' H'=>W P (.loop a) Q σ' H') Q) σ H):W P (.loop a) Q σ H:=by
  show ZJ (W P a) Q σ H
  intro X hX;refine hX σ H (Ao (c:=a) (fun e σ' H' hQ=> ?_) h);cases e with
  |normal=>exact hQ X hX
  |exit i=>exact hQ
  |ret=>exact hQ
def SS (dc:Nat->Bool):AK->Bool
  | .d _=>true
  | .n (.app ..)| .n (.UY ..)| .n (.copy ..)| .n (.clr ..)=>true
  | .call (.c (.fn (.func f) _ _)) _=>dc f
  |_=>false
def splitAt (ops:List Oper):Nat:=
  let ms:=masks ops []
  (List.range ops.length).foldl (fun k j=>if(List.range j).all (fun i=>gZ ms i j)then k else j+1) 0
def AC.QX:AC->Bool
  | .rf .. =>false
  | .seq a b| .cond _ a b=>a.QX&&b.QX
  | .block _ a| .loop a=>a.QX
  |_=>true
def comp (P:Program) (rm:Bool) (N:Nat) (dc:Nat->Bool):Code->Option AC
  | .skip=>some .skip
  | .region _ ops draw=>match mU P rm N ops ops.toList with
    |some az=>if draw then
        (let n:=splitAt ops.toList
         let pr:=(az.take n).map fun o=>(o,SS dc o.k)
         if(akT ops.toList pr&& !(dc 1000000&&pr.any (·.2)))=true then some (.par pr (az.drop n))else if agS ops.toList pr then some (.aal (masks ops.toList []) pr (az.drop n))else none)
      else some (.ops az)
    |none=>none
  | .seq a b=>match comp P rm N dc a,comp P rm N dc b with
    |some x,some y=>some (.seq x y)
    |_,_=>none
  | .cond c a b=>match cop c,comp P rm N dc a,comp P rm N dc b with
    |some e,some x,some y=>some (.cond e x y)
    |_,_,_=>none
  | .block id a=>match comp P rm N dc a with
    |some x=>some (.block id x)
    |none=>none
  | .loop a=>match comp P rm N dc a with
    |some x=>some (.loop x)
    |none=>none
  | .exit id=>some (.exit id)
  | .ret=>some .ret
  | .rangeFunc f ps a b=>match cop f,ps.toList,comp P rm N dc a,comp P rm N dc b with
    |some e,[p,q],some x,some y=>if p<N/\q<N/\x.QX=true/\y.QX=true then some (.rf e p q x y)else none
    |_,_,_,_=>none
  |_=>none
def aoF:Ex->Exit
  | .normal=> .normal
  | .exit i=> .exit i
  | .ret=> .ret
section
variable {P:Program} {rm:Bool} {B:Nat->Prop} {k0 N mm:Nat} {ro:Option Nat} {w0:World} {G0:Gh} {n0:Nat}
def QOf (B:Nat->Prop) (k0 N:Nat) (w0:World) (G0:Gh) (n0:Nat) (Q:Post):Exit->Act->World->Prop:=fun x a w=>
  ∃e σ H G,x=aoF e/\Q e σ H/\Rl B k0 N σ H G a w/\Since B w0 G0 n0 H G w
def SV (F:Fence) (n:Nat) (P:Program) (c:Code) (Q:Exit->Act->World->Prop) (a:Act) (w:World):Prop:=
  ∀(b:Frame) (k:List Item) (cs:List Frame),b.roundOf=F.round->F.fn b.fn->F.room (cs.length+1+n)->
    ∃e a' w',Q e a' w'/\ArrivesIn (Machine.fenced P F) P (lone (b.atR a (.code c:: .inLoop c::k)) cs w) b k cs e a' w'
theorem aam {F:Fence} {n:Nat} {c:Code} {Q:Exit->Act->World->Prop} {a:Act} {w:World} (h:c.wpIn F n P (Exit.then (fun a' w'=>SV F n P c Q a' w') Q) a w):SV F n P c Q a w:=by
  intro b k cs hro hb hr;obtain⟨e,a₁,w₁,hq,harr⟩:=h b (.inLoop c::k) cs hro hb hr;cases e with
  |normal=>
    obtain⟨e₂,a₂,w₂,hq₂,harr₂⟩:=hq b k cs hro hb hr;exact⟨e₂,a₂,w₂,hq₂,.of_steps (StepsIn.trans harr (.one (fenced_calm hb hr rfl) stepR_inLoop)) harr₂⟩
  |exit id=>exact⟨_,a₁,w₁,hq,.pass (x:= .inLoop c) rfl (fun _ _=> .inl (by simp)) harr⟩
  |goto l=>exact⟨_,a₁,w₁,hq,.pass (x:= .inLoop c) rfl (fun _ _=> .inl (by simp)) harr⟩
  |ret=>exact⟨_,a₁,w₁,hq,.pass (x:= .inLoop c) rfl (fun _ _=> .inl (by simp)) harr⟩
  |panic ch=>exact⟨_,a₁,w₁,hq,.pass (x:= .inLoop c) rfl (fun _ _=> .inl (by simp)) harr⟩
  |outgrown=>exact⟨_,a₁,w₁,hq,.pass (x:= .inLoop c) rfl (fun _ _=> .inl (by simp)) harr⟩
theorem U2 {F:Fence} {n:Nat} {c:Code} {Q:Exit->Act->World->Prop} {a:Act} {w:World} (h:SV F n P c Q a w):(Code.loop c).wpIn F n P Q a w:=by
  intro b k cs hro hb hr;obtain⟨e,a',w',hq,harr⟩:=h b k cs hro hb hr;exact⟨e,a',w',hq,.of_steps (.one (fenced_calm hb hr rfl) stepR_loop) harr⟩
theorem aiK {f:Operand} {ps:Array Tmp} {x y:Code} {e:AE} {p q:Nat} {ax ay:AC} {mm:Nat} {w0:World} {G0:Gh} {n0:Nat} {Q:Post} {σ:Nat->PV} {H:AH} {G:Gh} {a:Act} {w:World} (he:cop f=some e) (hps:ps.toList=[p,q]) (hp:p<N) (hq:q<N)
    (ihx: ∀(ro:Option Nat) (mm:Nat) (w0:World) (G0:Gh) (n0:Nat) (Q:Post) (σ:Nat->PV) (H:AH) (G:Gh) (a:Act) (w:World),W P ax Q σ H->Rl B k0 N σ H G a w->Since B w0 G0 n0 H G w->x.wpIn (Wd ro) mm P (QOf B k0 N w0 G0 n0 Q) a w)
    (ihy: ∀(ro:Option Nat) (mm:Nat) (w0:World) (G0:Gh) (n0:Nat) (Q:Post) (σ:Nat->PV) (H:AH) (G:Gh) (a:Act) (w:World),W P ay Q σ H->Rl B k0 N σ H G a w->Since B w0 G0 n0 H G w->y.wpIn (Wd ro) mm P (QOf B k0 N w0 G0 n0 Q) a w)
    (hW:W P (.rf e p q ax ay) Q σ H) (hR:Rl B k0 N σ H G a w) (hS:Since B w0 G0 n0 H G w):(Code.rangeFunc f ps x y).wpIn (Wd none) mm P (QOf B k0 N w0 G0 n0 Q) a w:=by
  simp only [W]at hW;split at hW
  · rename_i g id hf;obtain⟨sz,agg,es,c,hent,hbk,hsz0,av6,hlen,hsz,hB⟩:=hW;have hV:=fM hR.sl he;rw [hf]at hV;obtain rfl:ps=#[p,q]:=by
      apply Array.ext'
      simpa using hps
    generalize hfv:a.eval f=fv at hV;cases hV with
    |fn _ _ _ vs us h1 h2 h3 h4=>
    have hvs:vs=#[]:=Array.eq_empty_of_size_eq_zero (by simpa using h1);subst hvs;obtain⟨u0,rfl⟩: ∃u0,us=#[u0]:=by
      have:us.toList.length=1:=by simpa using h3
      match us,this with
      |⟨[u0]⟩,_=>exact⟨u0,rfl⟩
    have hu:=h4 0 (.ref id 0) u0 rfl rfl;cases hu with
    |ref _ _ bb hid hmid=>
    let rec' (fn:FuncId) (st:LoopState) (pe:Option Code):Loop:={state:=st,pending:=pe,fn,tmps:=a.tmps,params:=#[p,q],assign:=x,body:=y,defers:=w.heap.size}
    refine wpIn_rangeFunc ?_;intro fn _
    let W1:=(w.alloc (.deferred (some []))).alloc (.loop (rec' fn .ready none))
    have aA8:W1.heap.size=w.heap.size+2:=by simp [W1]
    have hL1:W1.heap[w.heap.size+1]? =some (.loop (rec' fn .ready none)):=by
      have:=World.alloc_heap_new (w.alloc (.deferred (some []))) (.loop (rec' fn .ready none));rwa [World.size_alloc]at this
    have hD1:W1.heap[w.heap.size]? =some (.deferred (some [])):=(heap_alloc_old _ _ _ (by simp)).trans (World.alloc_heap_new w _);have av7:Tr B w W1:=(Tr.alloc w _).trans (Tr.alloc _ _);have hM1:HM B H G W1:=(hR.hm.SL _).SL _
    let vals:=es.map (EX agg)
    let step:Post->(Nat->PV)->AH->Prop:=fun Q' σ' H'=>W P ax (KW (fun zy kg=>W P ay Q' zy kg)) σ' H'
    let J:Nat->World->Prop:=fun k W=> ∃H' G',Io step Q σ id [.aB es c] p q vals k H'/\HM B H' G' W/\Since B w G H.next H' G' W/\W.heap[w.heap.size+1]? =some (.loop (rec' fn .ready none))/\W.heap[w.heap.size]? =some (.deferred (some []))
    let Jx:World->Prop:=fun W=> ∃code H' G',((∃i,code=Code.exit i/\Q (.exit i) σ H')\/(code=Code.ret/\Q .ret σ H'))/\HM B H' G' W/\Since B w G H.next H' G' W/\W.heap[w.heap.size+1]? =some (.loop (rec' fn .done (some code)))/\W.heap[w.heap.size]? =some (.deferred (some []))
    have hrun:(invoke (Target.fn (.func g) #[.pointer (some ⟨bb,0,none⟩)]) #[.func (.yield (w.heap.size+1)) #[] #[]]).run P W1= .ok (.enter g #[.func (.yield (w.heap.size+1)) #[] #[],.pointer (some ⟨bb,0,none⟩)]) W1:=by
      obtain⟨fn',hfn',hbody,hname⟩:=hent;have hb: ¬(fn'.body=none):=by intro hq;rw [hq]at hbody;cases hbody
      have hn: ¬(fn'.name= "runtime.NumGoroutine"):=by simpa using hname
      simp [invoke,callFunc,hfn',hn,hb]
    refine⟨w.heap.size+1,[{target:= .collected w.heap.size,args:=#[]}],W1,{target:= .fn (.func g) #[.pointer (some ⟨bb,0,none⟩)],args:=#[.func (.yield (w.heap.size+1)) #[] #[]]},W1,g,
      #[.func (.yield (w.heap.size+1)) #[] #[],.pointer (some ⟨bb,0,none⟩)],W1,run_enterLoop_outer _ _ _ _ _,?_,fun _ _=>trivial,hrun,fun hd=>absurd hd (by simp [Fence.wide]),?_⟩
    · simp only [resolve,rangeCall,hfv];simp [go_sem]
    · refine(hbk (w.heap.size+1) (mm -1) ⟨bb,0,none⟩ es.length J Jx W1 hlen ?_ ?_ ⟨H,G,hB,hM1,⟨av7,Ext.refl B _ G,Nat.le_refl _⟩,hL1,hD1⟩).mono ?_
      · obtain⟨u,hu1,hu2⟩:=aak hM1 av6 hmid;cases hu2 with
        |aB _ _ s ad cap _ _ _ _ _ _=>exact⟨ad,cap,hu1⟩
      ·
        rintro k W ⟨H',G',hBk,hM',hS',hL',hD'⟩;obtain⟨ho,v,hvk,hst⟩:=hBk;have hm':G'.m id=some bb:=(hS'.ex.m id hid).trans hmid;obtain⟨u,hu1,hu2⟩:=aak hM' ho hm';have hcs: ∃cs,es[k]? =some cs/\EX agg cs=v:=by simpa [List.getElem?_map,Option.map_eq_some_iff,vals]using hvk
        obtain⟨cs,hcs1,hcs2⟩:=hcs;have aiL:k<es.length:=(List.getElem?_eq_some_iff.1 hcs1).1;have afj:cs.length=sz:=hsz cs (List.mem_of_getElem? hcs1);cases hu2 with
        |aB _ _ s ad cap f g1 g2 g3 g4 g5=>
        obtain rfl:s=sz:=(g1 k cs hcs1).symm.trans afj;obtain⟨b,o,rfl,hF⟩:=g3 (fun h=>by rw [h]at aiL;simp at aiL)
        let vs:Array Value:=((List.range s).map (f k)).toArray
        have aiM:vs.size=s:=by simp [vs]
        have afk: ∀j,j<s->vs[j]? =some (f k j):=fun j hj=>by simp [vs,hj]
        have hVe:V G' H'.next v (elemV agg vs):=by
          rw [<-hcs2];unfold EX elemV;cases agg with
          |true=>
            refine .agg cs vs (by rw [aiM,afj]) fun j c' x ec ex=> ?_;have hj:j<s:=by rw [<-afj];exact(List.getElem?_eq_some_iff.1 ec).1
            rw [afk j hj]at ex;cases ex;exact g4 k cs j c' hcs1 ec
          |false=>
            have h0:=afk 0 hsz0;have hc0:cs[0]? =some (cs.headD .any):=by
              cases cs with
              |nil=>simp at afj;omega
              |cons c0 l=>rfl
            have:=g4 k cs 0 _ hcs1 hc0;simpa [Array.getD_eq_getD_getElem?,h0]using this
        refine⟨b,o,cap,vs,hu1,aiL,aiM,fun j x ex=> ?_,?_⟩
        · have hj:j<s:=by rw [<-aiM];exact(Array.getElem?_eq_some_iff.1 ex).1
          rw [afk j hj]at ex;cases ex;exact hM'.tu _ _ (hF k cs hcs1 j (cs[j]'(by omega)) (by simp))
        · refine⟨fn,_,x,y,run_yield hL' rfl,?_⟩;refine roundIn_of_wpIn (F:=Wd none) trivial ?_;have hsl:Sl G' H'.next (upd (upd σ (some p) (.int .i64 k)) (some q) v) {tmps:=((#[p,q].zip #[Value.int .i64 k,elemV agg vs]).foldl (fun t (x:Nat×Value)=>t.setIfInBounds x.1 x.2) a.tmps),defers:=[]}:=by
            have s1:=hR.sl.upd (N:=N) hS'.ex hS'.le hR.sz (d:=some p) (by simpa [KT]using hp) (.int .i64 (k:Int));have s2:=s1.upd (N:=N) (Ext.refl B _ _) (Nat.le_refl _) (by rw [aad];exact hR.sz) (d:=some q) (by simpa [KT]using hq) hVe;have hz:((#[p,q].zip #[Value.int .i64 k,elemV agg vs]).foldl (fun t (x:Nat×Value)=>t.setIfInBounds x.1 x.2) a.tmps)=((a.put (some p) (.int .i64 (k:Int))).put (some q) (elemV agg vs)).tmps:=by simp [Act.put]
            rw [hz];exact⟨s2.1,s2.2⟩
          have hmk:Marks k0 [] W:=⟨Nat.le_trans hR.df.1 hS'.tr.size,[],.nil,rfl,by simp⟩
          have hRr:Rl B k0 N (upd (upd σ (some p) (.int .i64 k)) (some q) v) H' G' {tmps:=((#[p,q].zip #[Value.int .i64 k,elemV agg vs]).foldl (fun t (x:Nat×Value)=>t.setIfInBounds x.1 x.2) a.tmps),defers:=[]} W:=
            ⟨hsl,by simp [hR.sz],hmk,hR.up.tr hS'.tr,hM'⟩
          refine Code.wpIn_mono ?_ (ihx (some (w.heap.size+1)) (mm -1) W G' H'.next _ _ _ _ _ _ hst hRr (Since.refl B W G' H'));rintro e1 a1 w1 ⟨e1,σ1,H1,G1,rfl,hq1,hR1,hS1⟩;cases e1 with
          |exit i=>exact hq1.elim
          |ret=>exact hq1.elim
          |normal=>
            have hL1':=hS1.tr.Ig _ _ hL' rfl;have av8:=hS1.tr.Ig _ _ hD' rfl;have t1:Since B w G H.next H1 G1 w1:=hS'.trans hS1;refine⟨_,run_beginRound hL1' rfl,?_⟩
            have av9:Rl B k0 N σ1 H1 G1 a1 (w1.putObj (w.heap.size+1) (.loop {rec' fn .ready none with state:= .busy})):=
              ⟨hR1.sl,hR1.sz,hR1.df.lG hL1' (by simp),hR1.up.lG _ _,hR1.hm.lG hL1' rfl rfl⟩
            have hL2:(w1.putObj (w.heap.size+1) (.loop {rec' fn .ready none with state:= .busy})).heap[w.heap.size+1]? =some (.loop {rec' fn .ready none with state:= .busy}):=World.putObj_heap_same (Array.getElem?_eq_some_iff.1 hL1').1;have hD2:(w1.putObj (w.heap.size+1) (.loop {rec' fn .ready none with state:= .busy})).heap[w.heap.size]? =some (.deferred (some [])):=(World.putObj_heap_other (by omega)).trans av8;have t2:=t1.lG (r:=w.heap.size+1) (o':= .loop {rec' fn .ready none with state:= .busy}) (by omega);refine Code.wpIn_mono ?_ (ihy (some (w.heap.size+1)) (mm -1) _ G1 H1.next _ _ _ _ _ _ hq1 av9 (Since.refl B _ G1 H1));rintro e2 a2 w3 ⟨e2,σ2,H2,G2,rfl,hq2,hR2,hS2⟩;have hL3:=hS2.tr.Ig _ _ hL2 rfl;have hD3:=hS2.tr.Ig _ _ hD2 rfl;have t3:Since B w G H.next H2 G2 w3:=t2.trans hS2
            have fin: ∀(o':Obj),o'.isCells=false->HM B H2 G2 (w3.putObj (w.heap.size+1) o')/\Since B w G H.next H2 G2 (w3.putObj (w.heap.size+1) o')/\(w3.putObj (w.heap.size+1) o').heap[w.heap.size+1]? =some o'/\(w3.putObj (w.heap.size+1) o').heap[w.heap.size]? =some (.deferred (some [])):=
              fun o' ho'=>⟨hR2.hm.lG hL3 rfl ho',t3.lG (by omega),World.putObj_heap_same (Array.getElem?_eq_some_iff.1 hL3).1,(World.putObj_heap_other (by omega)).trans hD3⟩
            cases e2 with
            |normal=>
              refine⟨_,_,run_endRound none hL3,.inl ⟨rfl,H2,G2,hq2,?_⟩⟩;exact fin _ rfl
            |exit i=>
              refine⟨_,_,run_endRound (some (.exit i)) hL3,.inr ⟨rfl,.exit i,H2,G2,.inl ⟨i,rfl,hq2⟩,?_⟩⟩;exact fin _ rfl
            |ret=>
              refine⟨_,_,run_endRound (some .ret) hL3,.inr ⟨rfl,.ret,H2,G2,.inr ⟨rfl,hq2⟩,?_⟩⟩;exact fin _ rfl
      · rintro ex W' ⟨⟨v,rfl⟩,hj⟩
        have key: ∀(H':AH) (G':Gh) (st:LoopState) (pe:Option Code),HM B H' G' W'->Since B w G H.next H' G' W'->W'.heap[w.heap.size+1]? =some (.loop (rec' fn st pe))->W'.heap[w.heap.size]? =some (.deferred (some []))->
            Rl B k0 N σ H' G' {a with defers:=[{target:= .collected w.heap.size,args:=#[]}]++a.defers} (W'.putObj (w.heap.size+1) (.loop {rec' fn st pe with state:= .exhausted}))/\
            Since B w0 G0 n0 H' G' (W'.putObj (w.heap.size+1) (.loop {rec' fn st pe with state:= .exhausted})):=by
          intro H' G' st pe hM' hS' hL' hD';have hu:Up B W':=hR.up.tr hS'.tr;obtain⟨m0,rs,m1,m2,m3⟩:=hR.df;refine⟨⟨?_,hR.sz,?_,hu.lG _ _,hM'.lG hL' rfl rfl⟩,(hS.trans hS').lG ?_⟩
          · have:=hR.sl.mono hS'.ex hS'.le;exact⟨this.1,this.2⟩
          · refine⟨by rw [World.putObj_size];exact Nat.le_trans m0 hS'.tr.size,w.heap.size::rs,List.nodup_cons.2 ⟨fun hm=> ?_,m1⟩,by simp [m2],fun r hr=> ?_⟩
            · have:=(Array.getElem?_eq_some_iff.1 (m3 _ hm).2).1;omega
            · rcases List.mem_cons.1 hr with rfl|hr
              · exact⟨m0,(World.putObj_heap_other (by omega)).trans hD'⟩
              · have hlt:=(Array.getElem?_eq_some_iff.1 (m3 _ hr).2).1;exact⟨(m3 r hr).1,(World.putObj_heap_other (by omega)).trans (hS'.tr.Ig _ _ (m3 r hr).2 rfl)⟩
          · have:=hS.tr.size;omega
        rcases hj with⟨H',G',hB0,hM',hS',hL',hD'⟩|⟨code,H',G',hcode,hM',hS',hL',hD'⟩
        · obtain⟨r1,r2⟩:=key H' G' _ _ hM' hS' hL' hD';exact⟨none,_,run_endLoop hL' (by simp [rec']),⟨.normal,σ,H',G',rfl,hB0,r1,r2⟩⟩
        · obtain⟨r1,r2⟩:=key H' G' _ _ hM' hS' hL' hD';refine⟨some code,_,run_endLoop hL' (by simp [rec']),?_⟩;rcases hcode with⟨i,rfl,hQ⟩|⟨rfl,hQ⟩
          · exact wpIn_exit ⟨.exit i,σ,H',G',rfl,hQ,r1,r2⟩
          · exact wpIn_ret ⟨.ret,σ,H',G',rfl,hQ,r1,r2⟩
  · cases hW
theorem amI (afl:P.follows .mixedOrders=true) (dc:Nat->Bool): ∀(c:Code) (ro:Option Nat) (mm:Nat) (w0:World) (G0:Gh) (n0:Nat) (ac:AC) (Q:Post) (σ:Nat->PV) (H:AH) (G:Gh) (a:Act) (w:World),(ro=none\/ac.QX=true)->comp P rm N dc c=some ac->W P ac Q σ H->
    Rl B k0 N σ H G a w->Since B w0 G0 n0 H G w->c.wpIn (Wd ro) mm P (QOf B k0 N w0 G0 n0 Q) a w:=by
  intro c
  induction c with
  |skip=>
    intro ro mm w0 G0 n0 ac Q σ H G a w hro hc hW hR hS;simp [comp]at hc;subst hc;exact wpIn_skip ⟨.normal,σ,H,G,rfl,hW,hR,hS⟩
  |region rid ops draw=>
    intro ro mm w0 G0 n0 ac Q σ H G a w hro hc hW hR hS;unfold comp at hc;split at hc
    · rename_i az has;have hQ': ∀σ H G a w,Q .normal σ H->Rl B k0 N σ H G a w->Since B w0 G0 n0 H G w->QOf B k0 N w0 G0 n0 Q .normal a w:=fun σ H G a w h1 h2 h3=>⟨.normal,σ,H,G,rfl,h1,h2,h3⟩
      cases draw with
      |false=>
        simp at hc;subst hc;exact wpIn_region_list (Am hQ' ops.toList az σ H G a w has hW hR hS)
      |true=>
        simp only [if_true]at hc;split at hc
        · rename_i hok;cases hc;obtain⟨C,hC0,hW⟩:=hW;obtain⟨val,hp,h0,h1,h2,h3⟩:=SH _ σ H hC0 hW;generalize hpr:((az.take (splitAt ops.toList)).map fun o=>(o,SS dc o.k))=pr at*
          have hsplit:pr.map (·.1)++az.drop (splitAt ops.toList)=az:=by
            rw [<-hpr,List.map_map];have:((fun x:aQ×Bool=>x.1)∘fun o=>(o,SS dc o.k))=id:=rfl;rw [this,List.map_id,List.take_append_drop]
          have hlen:=(qy has).1;have aiN:pr.length<=ops.toList.length:=by rw [<-hlen,<-hpr];simp;omega
          refine wpIn_region_any afl ?_;have hsl:l7 pr val (bM (Array.replicate ops.size false)) σ=σ:=by
            funext t
            rw [uU pr val _ σ 0 t (fun i o e _=>⟨fun h=>by
              exfalso;simp only [bM,Array.getD_eq_getD_getElem?]at h;rw [Array.getElem?_replicate]at h;split at h<;>simp at h,fun h=>by omega⟩),QV]
          have hno: ∀i,¬bM (Array.replicate ops.size false) i:=fun i h=>by
            simp only [bM,Array.getD_eq_getD_getElem?]at h;rw [Array.getElem?_replicate]at h;split at h<;>simp at h
          have hRd:Rl B k0 N (l7 pr val (bM (Array.replicate ops.size false)) σ) (hp 0) G a {w with drawn:=w.drawn+1}:=by
            rw [hsl,h0];exact⟨hR.sl,hR.sz,hR.df.tr (B:=B) ⟨Nat.le_refl _,fun _ _ _=>rfl,rfl,rfl,rfl,fun _ _ h _=>h⟩,hR.up,hR.hm.drew⟩
          have hSd:Since B w0 G0 n0 (hp 0) G {w with drawn:=w.drawn+1}:=by
            rw [h0];exact⟨⟨hS.tr.size,hS.tr.same,hS.tr.os,hS.tr.tape,hS.tr.output,hS.tr.Ig⟩,hS.ex,hS.le⟩
          exact amH hQ' (by rw [hsplit];exact has) (afd aiN (Bool.and_eq_true_iff.1 hok).1) h1 h2 h3 ops.size (Array.replicate ops.size false) 0 G a _ (Nat.zero_le _) (by simp) (by simp [List.countP_replicate]) (fun i h=>absurd h (hno i)) (fun j o e h=>absurd h (hno j))
            (fun i o e=>⟨fun h=>absurd h (hno i),fun h=>by omega⟩) hRd hSd
        · split at hc
          · rename_i hok;cases hc;obtain⟨val,hW⟩:=hW;generalize hpr:((az.take (splitAt ops.toList)).map fun o=>(o,SS dc o.k))=pr at*
            have hsplit:pr.map (·.1)++az.drop (splitAt ops.toList)=az:=by
              rw [<-hpr,List.map_map];have:((fun x:aQ×Bool=>x.1)∘fun o=>(o,SS dc o.k))=id:=rfl;rw [this,List.map_id,List.take_append_drop]
            have hlen:=(qy has).1;have aiN:pr.length<=ops.toList.length:=by rw [<-hlen,<-hpr];simp;omega
            refine wpIn_region_any afl ?_;have hno: ∀i,¬bM (Array.replicate ops.size false) i:=fun i h=>by
              simp only [bM,Array.getD_eq_getD_getElem?]at h;rw [Array.getElem?_replicate]at h;split at h<;>simp at h
            have hsl:l7 pr val (bM (Array.replicate ops.size false)) σ=σ:=by
              funext t
              rw [uU pr val _ σ 0 t (fun i o e _=>⟨fun h=>absurd h (hno i),fun h=>by omega⟩),QV]
            have hRd:Rl B k0 N (l7 pr val (bM (Array.replicate ops.size false)) σ) H G a {w with drawn:=w.drawn+1}:=by
              rw [hsl];exact⟨hR.sl,hR.sz,hR.df.tr (B:=B) ⟨Nat.le_refl _,fun _ _ _=>rfl,rfl,rfl,rfl,fun _ _ h _=>h⟩,hR.up,hR.hm.drew⟩
            have hSd:Since B w0 G0 n0 H G {w with drawn:=w.drawn+1}:=⟨⟨hS.tr.size,hS.tr.same,hS.tr.os,hS.tr.tape,hS.tr.output,hS.tr.Ig⟩,hS.ex,hS.le⟩
            exact aoD hQ' (by rw [hsplit];exact has) (adg aiN hok) _ _ val H hW (fun i hi=>(Yl i).1 hi) ops.size (Array.replicate ops.size false) G a _ (by simp) (by simp [List.countP_replicate]) (fun i h=>absurd h (hno i)) (fun j o e h=>absurd h (hno j))
              (fun i o e=>⟨fun h=>absurd h (hno i),fun h=>absurd ((Yl i).2 ⟨o,e⟩) h⟩) hRd hSd
          · cases hc
    · cases hc
  |seq x y ihx ihy=>
    intro ro mm w0 G0 n0 ac Q σ H G a w hro hc hW hR hS;unfold comp at hc;split at hc
    · rename_i ax ay hx hy;cases hc;simp only [W]at hW;refine wpIn_seq (Code.wpIn_mono ?_ (ihx ro mm w0 G0 n0 ax _ σ H G a w (hro.imp_right fun h=>(Bool.and_eq_true _ _▸h:_/\_).1) hx hW hR hS));rintro e a' w' ⟨e',σ',H',G',rfl,hq,hR',hS'⟩;cases e' with
      |normal=>exact ihy ro mm w0 G0 n0 ay Q σ' H' G' a' w' (hro.imp_right fun h=>(Bool.and_eq_true _ _▸h:_/\_).2) hy hq hR' hS'
      |exit i=>exact⟨.exit i,σ',H',G',rfl,hq,hR',hS'⟩
      |ret=>exact⟨.ret,σ',H',G',rfl,hq,hR',hS'⟩
    · cases hc
  |cond c x y ihx ihy=>
    intro ro mm w0 G0 n0 ac Q σ H G a w hro hc hW hR hS;unfold comp at hc;split at hc
    · rename_i e ax ay he hx hy;cases hc;simp only [W]at hW;split at hW
      · rename_i t ht;have hV:=fM hR.sl he;rw [ht]at hV;generalize hv:a.eval c=v at hV;cases hV;cases t with
        |true=>exact wpIn_cond_true hv (ihx ro mm w0 G0 n0 ax Q σ H G a w (hro.imp_right fun h=>(Bool.and_eq_true _ _▸h:_/\_).1) hx (hW.1 rfl) hR hS)
        |false=>exact wpIn_cond_false hv (ihy ro mm w0 G0 n0 ay Q σ H G a w (hro.imp_right fun h=>(Bool.and_eq_true _ _▸h:_/\_).2) hy (hW.2 rfl) hR hS)
      · cases hW
    · cases hc
  |block id x ih=>
    intro ro mm w0 G0 n0 ac Q σ H G a w hro hc hW hR hS;unfold comp at hc;split at hc
    · rename_i ax hx;cases hc;simp only [W]at hW;refine wpIn_block (Code.wpIn_mono ?_ (ih ro mm w0 G0 n0 ax _ σ H G a w hro hx hW hR hS));rintro e a' w' ⟨e',σ',H',G',rfl,hq,hR',hS'⟩;cases e' with
      |normal=>exact⟨.normal,σ',H',G',rfl,hq,hR',hS'⟩
      |exit i=>
        simp only [SN]at hq;simp only [aoF,Exit.inBlock];split
        · rename_i hi;rw [if_pos hi]at hq;exact⟨.normal,σ',H',G',rfl,hq,hR',hS'⟩
        · rename_i hi;rw [if_neg hi]at hq;exact⟨.exit i,σ',H',G',rfl,hq,hR',hS'⟩
      |ret=>exact⟨.ret,σ',H',G',rfl,hq,hR',hS'⟩
    · cases hc
  |loop x ih=>
    intro ro mm w0 G0 n0 ac Q σ H G a w hro hc hW hR hS;unfold comp at hc;split at hc
    · rename_i ax hx;cases hc;have key:=hW (fun σ H=> ∀G a w,Rl B k0 N σ H G a w->Since B w0 G0 n0 H G w->SV (Wd ro) mm P x (QOf B k0 N w0 G0 n0 Q) a w) ?_
      · exact U2 (key G a w hR hS)
      · intro σ H hst G a w hR hS;refine aam (Code.wpIn_mono ?_ (ih ro mm w0 G0 n0 ax _ σ H G a w hro hx hst hR hS));rintro e a' w' ⟨e',σ',H',G',rfl,hq,hR',hS'⟩;cases e' with
        |normal=>exact hq G' a' w' hR' hS'
        |exit i=>exact⟨.exit i,σ',H',G',rfl,hq,hR',hS'⟩
        |ret=>exact⟨.ret,σ',H',G',rfl,hq,hR',hS'⟩
    · cases hc
  |exit id=>
    intro ro mm w0 G0 n0 ac Q σ H G a w hro hc hW hR hS;simp [comp]at hc;subst hc;exact wpIn_exit ⟨.exit id,σ,H,G,rfl,hW,hR,hS⟩
  |ret=>
    intro ro mm w0 G0 n0 ac Q σ H G a w hro hc hW hR hS;simp [comp]at hc;subst hc;exact wpIn_ret ⟨.ret,σ,H,G,rfl,hW,hR,hS⟩
  |rangeFunc f ps x y ihx ihy=>
    intro ro mm w0 G0 n0 ac Q σ H G a w hro hc hW hR hS;unfold comp at hc;split at hc
    · rename_i e p q ax ay he hps hx hy;split at hc
      · rename_i hcond;cases hc;have awc:ro=none:=hro.resolve_right (by simp [AC.QX]);subst awc;exact aiK he hps hcond.1 hcond.2.1 (fun ro mm w0 G0 n0 Q σ H G a w=>ihx ro mm w0 G0 n0 ax Q σ H G a w (.inr hcond.2.2.1) hx) (fun ro mm w0 G0 n0 Q σ H G a w=>ihy ro mm w0 G0 n0 ay Q σ H G a w (.inr hcond.2.2.2) hy) hW hR hS
      · cases hc
    · cases hc
  |scope=>intro ro mm w0 G0 n0 ac Q σ H G a w hro hc;simp [comp]at hc
  |label=>intro ro mm w0 G0 n0 ac Q σ H G a w hro hc;simp [comp]at hc
  |goto=>intro ro mm w0 G0 n0 ac Q σ H G a w hro hc;simp [comp]at hc
  |refuse=>intro ro mm w0 G0 n0 ac Q σ H G a w hro hc;simp [comp]at hc
end
end Go.VL
end
section
namespace Go.VL
variable [Glob]
inductive RV where
  |tmp (t:Nat)
  |cell (t sz:Nat) (agg:Bool)
def afm (σ:Nat->PV) (H:AH):RV->Option PV
  | .tmp t=>some (σ t)
  | .cell t sz agg=>F4 H sz agg (σ t)
def KX (σ:Nat->PV) (H:AH):List RV->Option (List PV)
  |[]=>some []
  |r::l=>match afm σ H r,KX σ H l with
    |some p,some ps=>some (p::ps)
    |_,_=>none
def packed:List PV->PV
  |[p]=>p
  |ps=> .dR ps
def aao (rs:List RV) (K:PV->AH->Prop):Post:=fun e σ H=>match e with
  | .exit _=>False
  |_=>match KX σ H rs with
    |some ps=>K (packed ps) H
    |none=>False
def KY (P:Program):List ResultVar->Option (List RV)
  |[]=>some []
  | .tmp t::l=>(KY P l).map fun r=> .tmp t::r
  | .cell a t::l=>match P.underlying t,sizeT P t,KY P l with
    |some _,some s,some r=>some (.cell a s (CF P t)::r)
    |_,_,_=>none
def Ym (args:List PV):Nat->PV:=fun t=>(args[t]?).getD .any
structure bg (P:Program) (dc:Nat->Bool) (rm:Bool) (f:FuncId) (n:Nat) (rs:List RV) (ac:AC):Prop where
  mix:P.follows .mixedOrders=true
  ok: ∃fn c,P.funcs[f]? =some fn/\fn.body=some c/\(fn.name== "runtime.NumGoroutine")=false/\fn.ntmps=n/\comp P rm n dc c=some ac/\KY P fn.results.toList=some rs

theorem bA {P:Program} {dc:Nat->Bool} {rm:Bool} {f:FuncId} {n:Nat} {rs:List RV} {ac:AC} {fn:Func} {c:Code} (h:P.funcs[f]? =some fn) (h1:P.follows .mixedOrders=true:=by kernel_rfl) (h2:fn.body=some c:=by rfl) (h3:(fn.name== "runtime.NumGoroutine")=false:=by kernel_rfl) (h4:fn.ntmps=n:=by rfl) (h5:comp P rm n dc c=some ac:=by kernel_rfl) (h6:KY P fn.results.toList=some rs:=by kernel_rfl):bg P dc rm f n rs ac:=⟨h1,fn,c,h,h2,h3,h4,h5,h6⟩
section
variable {P:Program} {B:Nat->Prop} {G:Gh} {H:AH} {σ:Nat->PV} {a:Act} {w:World}
theorem QY (hs:Sl G H.next σ a) (hM:HM B H G w): ∀{l:List ResultVar} {rs:List RV} {ps:List PV},KY P l=some rs->KX σ H rs=some ps->
    ∃vs:List Value,(l.mapM (fun| .tmp t=>pure (a.tmps.getD t undef)| .cell x t=>do loadVar t (<-asAddr (a.tmps.getD x undef)):ResultVar->Sem Value)).run P w= .ok vs w/\vs.length=ps.length/\
      ∀(j:Nat) (p:PV) (v:Value),ps[j]? =some p->vs[j]? =some v->V G H.next p v
  |[],rs,ps,h,hr=>by
    simp [KY]at h;subst h;simp [KX]at hr;subst hr;exact⟨[],by simp,rfl,by simp⟩
  | .tmp t::l,rs,ps,h,hr=>by
    simp only [KY,Option.map_eq_some_iff]at h;obtain⟨r,h1,rfl⟩:=h;unfold KX at hr;split at hr
    · rename_i p ps' hp hps;cases hr;simp only [afm,Option.some.injEq]at hp;subst hp;obtain⟨vs,g1,g2,g3⟩:=QY hs hM h1 hps;refine⟨a.tmps.getD t undef::vs,?_,by simp [g2],fun j p v e e'=> ?_⟩
      · simp only [List.mapM_cons,Sem.run_bind,Sem.run_pure,Result.andThen_ok,g1]
      · cases j with
        |zero=>simp only [List.getElem?_cons_zero,Option.some.injEq]at e e';subst e;subst e';exact hs.2 t
        |succ j=>simp at e e';exact g3 j p v e e'
    · cases hr
  | .cell x t::l,rs,ps,h,hr=>by
    unfold KY at h;split at h
    · rename_i d s r hd hsz h1;cases h;unfold KX at hr;split at hr
      · rename_i p ps' hp hps;cases hr;simp only [afm]at hp;obtain⟨v0,q1,q2⟩:=SA (P:=P) hM hsz (by simp [hd]) (hs.2 x) hp;obtain⟨vs,g1,g2,g3⟩:=QY hs hM h1 hps;have q1':(do loadVar t (<-asAddr (a.tmps.getD x undef)):Sem Value).run P w= .ok v0 w:=by
          generalize a.tmps.getD x undef=u at q1;cases u with
          |pointer ad=>
            cases ad with
            |none=>simp [Instr.loadAt,Instr.sureAddr]at q1
            |some ad=>simpa [Instr.loadAt,Instr.sureAddr,asAddr]using q1
          |_=>simp [Instr.loadAt,Instr.sureAddr]at q1
        refine⟨v0::vs,?_,by simp [g2],fun j p v e e'=> ?_⟩
        · simp only [List.mapM_cons,Sem.run_bind,Sem.run_pure]at q1'⊢;rw [q1'];simp only [Result.andThen_ok,g1]
        · cases j with
          |zero=>simp only [List.getElem?_cons_zero,Option.some.injEq]at e e';subst e;subst e';exact q2
          |succ j=>simp at e e';exact g3 j p v e e'
      · cases hr
    · cases h
theorem adj (hs:Sl G H.next σ a) (hM:HM B H G w) {fn:Func} {rs:List RV} {ps:List PV} (h:KY P fn.results.toList=some rs) (hr:KX σ H rs=some ps):
    ∃v,(results fn a.tmps).run P w= .ok v w/\V G H.next (packed ps) v:=by
  obtain⟨vs,h1,h2,h3⟩:=QY hs hM h hr;have hrun:(fn.results.mapM (fun| .tmp t=>pure (a.tmps.getD t undef)| .cell x t=>do loadVar t (<-asAddr (a.tmps.getD x undef)):ResultVar->Sem Value)).run P w= .ok vs.toArray w:=by
    rw [Array.mapM_eq_mapM_toList,Sem.run_map,h1];rfl
  refine⟨if h:vs.toArray.size=1 then vs.toArray[0]else .tuple vs.toArray,?_,?_⟩
  · unfold results;rw [Sem.run_bind];exact(congrArg (fun r:Result (Array Value)=>r.andThen fun a w'=>Sem.run P (pure (if h:a.size=1 then a[0]else Value.tuple a)) w') hrun).trans rfl
  · match ps,vs,h2,h3 with
    |[],[],_,_=>exact .dR [] #[] rfl (by simp)
    |[p],[v],_,h3=>exact h3 0 p v rfl rfl
    |p::q::ps,u::v::vs,h2,h3=>
      have: ¬((u::v::vs).toArray.size=1):=by simp
      rw [dif_neg this];exact .dR _ _ (by simpa using h2) (fun j c x e e'=>h3 j c x e (by simpa using e'))
theorem Na {ro:Option Nat} {mm:Nat} {fn:Func} {tmps:Array Value} {R:Ending->World->Prop}: ∀(rs:List Nat) (w:World),rs.Nodup->(∀r∈rs,w.heap[r]? =some (.deferred (some [])))->HM B H G w->
    (∀w',HM B H G w'->w.heap.size=w'.heap.size->(∀k,k∉rs->w'.heap[k]? =w.heap[k]?)->w'.os=w.os->w'.tape=w.tape->w'.output=w.output-> ∃v,(results fn tmps).run P w'= .ok v w'/\R (.returned v) w')->
    LeavesInM (Wd ro) mm P fn tmps R (rs.map fun r=>{target:= .collected r,args:=#[]}) .returning w
  |[],w,_,_,hM,h=>h w hM rfl (fun _ _=>rfl) rfl rfl rfl
  |r::rs,w,hn,hr,hM,h=>by
    have hr0:=hr r (List.mem_cons_self ..);rw [List.nodup_cons]at hn;refine⟨by simp,.inl ⟨r,w.putObj r (.deferred none),rfl,run_takeDeferred hr0,Na rs _ hn.2 (fun r' hr'=> ?_) (hM.lG hr0 rfl rfl) fun w' h1 h2 h3 h4 h5 h6=> ?_⟩⟩
    · have hne:r'≠r:=fun e=>hn.1 (e▸hr');exact(World.putObj_heap_other hne).trans (hr r' (List.mem_cons_of_mem _ hr'))
    · refine h w' h1 (by rw [<-h2];simp) (fun k hk=> ?_) h4 h5 h6;rw [h3 k (fun e=>hk (List.mem_cons_of_mem _ e))];have hne:k≠r:=fun e=>hk (by rw [e];exact List.mem_cons_self ..);exact World.putObj_heap_other hne
theorem aK {rm:Bool} {dc:Nat->Bool} {f:FuncId} {n:Nat} {rs:List RV} {ac:AC} {args:List PV} {K:PV->AH->Prop} (hf:bg P dc rm f n rs ac) (hl:args.length<=n) (hW:W P ac (aao rs K) (Ym args) H):dU P f args H K:=by
  obtain⟨afl,fn,c,h1,h2,h3,h4,h5,h6⟩:=hf;refine⟨⟨fn,h1,by simp [h2],h3⟩,fun B G w vs hU hM hv=> ?_⟩;refine(SF (ro:=none) (n:=0)).1 (callsIn_of_wp_marks h1 h2 trivial ?_);have hsz:vs.size=args.length:=hv.1
  let a0:Act:={tmps:=vs++Array.replicate (fn.ntmps -vs.size) undef,defers:=[]}
  have hR:Rl B w.heap.size n (Ym args) H G a0 w:=by
    refine⟨⟨hM.glob,fun t=> ?_⟩,by simp [a0];omega,⟨Nat.le_refl _,[],.nil,rfl,by simp⟩,hU,hM⟩;unfold Ym;cases ht:args[t]? with
    |none=>exact .any _
    |some p=>
      have hlt:t<args.length:=by
        rcases Nat.lt_or_ge t args.length with h'|h'
        · exact h'
        · rw [List.getElem?_eq_none h']at ht;cases ht
      have e:a0.tmps.getD t undef=vs[t]'(by omega):=by
        simp only [a0,Array.getD_eq_getD_getElem?];rw [Array.getElem?_append_left (by omega)];simp [hsz,hlt]
      rw [e];exact hv.2 t p _ ht (by simp)
  refine Code.wpIn_mono ?_ (amI afl dc c none 0 w G H.next ac (aao rs K) (Ym args) H G a0 w (.inl rfl) h5 hW hR (Since.refl B w G H));rintro x a' w' ⟨e,σ',H',G',rfl,hq,hR',hS'⟩;have fin: ∀ps,KX σ' H' rs=some ps->K (packed ps) H'->LeavesInM (Wd none) 0 P fn a'.tmps (fun e w'=> ∃r v H' G',e= .returned v/\Tr B w w'/\Ext B H.next G G'/\H.next<=H'.next/\HM B H' G' w'/\V G' H'.next r v/\K r H') a'.defers .returning w':=by
    intro ps hp hk;obtain⟨_,ms,m1,m2,m3⟩:=hR'.df;rw [m2];refine Na ms w' m1 (fun r hr=>(m3 r hr).2) hR'.hm fun w'' g1 g2 g3 g4 g5 g6=> ?_;obtain⟨v,hv1,hv2⟩:=adj hR'.sl g1 h6 hp;have hnot: ∀b,b<w.heap.size->b∉ms:=fun b hb hm=>by have:=(m3 b hm).1;omega
    exact⟨v,hv1,packed ps,v,H',G',rfl,⟨by rw [<-g2];exact hS'.tr.size,fun b hb hB=>(g3 b (hnot b hb)).trans (hS'.tr.same b hb hB),g4.trans hS'.tr.os,g5.trans hS'.tr.tape,g6.trans hS'.tr.output,fun b o e ho=>(g3 b (hnot b (Array.getElem?_eq_some_iff.1 e).1)).trans (hS'.tr.Ig b o e ho)⟩,hS'.ex,hS'.le,g1,hv2,hk⟩
  cases e with
  |exit i=>exact hq.elim
  |normal=>
    simp only [aao]at hq;split at hq
    · rename_i ps hp;exact fin ps hp hq
    · cases hq
  |ret=>
    simp only [aao]at hq;split at hq
    · rename_i ps hp;exact fin ps hp hq
    · cases hq
end
end Go.VL
end
section
namespace Go.VL
variable [Glob]
section
variable {P:Program} {Q:Post} {σ:Nat->PV} {H:AH}
theorem bf {a:AC} (h: ∀K:(Nat->PV)->AH->Prop,(∀σ H,W P (.loop a) Q σ H->K σ H)->W P a (Im K Q) σ H):W P (.loop a) Q σ H:=aoE (h _ fun _ _ h=>h)
theorem awd {f:AE} {p q:Nat} {a b:AC} {g id sz:Nat} {agg:Bool} {es:List (List PV)} {c:Ck} (hf:f.ev σ= .fn (.func g) [] [.ref id 0]) (he:Enters P g) (hb:ZI P g sz agg) (h0:0<sz) (ho:H.obj id=some [.aB es c]) (hl:es.length<=1099511627776) (hs:KP sz es)
    (h:Io (fun Q' σ' H'=>W P a (KW (fun zy kg=>W P b Q' zy kg)) σ' H') Q σ id [.aB es c] p q (es.map (EX agg)) es.length H):W P (.rf f p q a b) Q σ H:=by
  simp only [W,hf];exact⟨sz,agg,es,c,he,hb,h0,ho,hl,hs,h⟩
theorem aap (K:(Nat->PV)->AH->Prop):Im K Q .normal σ H=K σ H:=rfl
theorem afn (K:(Nat->PV)->AH->Prop) (i:Nat):Im K Q (.exit i) σ H=Q (.exit i) σ H:=rfl
theorem agU (K:(Nat->PV)->AH->Prop):Im K Q .ret σ H=Q .ret σ H:=rfl
theorem mV (d:Nat) (v:PV) (t:Nat):upd σ (some d) v t=if t=d then v else σ t:=rfl
theorem aiO (v:PV):upd σ none v=σ:=rfl
theorem agV {d:Option Nat} {k:DK} {l:List aQ} {K:(Nat->PV)->AH->Prop}:dD P (⟨d,.d k,none⟩::l) K σ H=(match ni k σ H with|some (p,H')=>dD P l K (upd σ d p) H'|none=>False):=rfl
theorem SX {d:Option Nat} {k:NK} {l:List aQ} {K:(Nat->PV)->AH->Prop}:dD P (⟨d,.n k,none⟩::l) K σ H=nop k (fun p H'=>dD P l K (upd σ d p) H') σ H:=rfl
theorem av {g:FuncId} {args:List PV} {r:PV} {K:PV->AH->Prop} (h:aC P g args r) (hk:K r H):dU P g args H K:=(h H).mono fun _ _ ⟨h1,h2⟩=>by subst h1;subst h2;exact hk
theorem amJ:evs σ []=[]:=rfl
theorem aiP (x:AE) (l:List AE):evs σ (x::l)=x.ev σ::evs σ l:=rfl
theorem awe (n:Nat):(AE.t n).ev σ=σ n:=rfl
theorem awf (v:PV):(AE.c v).ev σ=v:=rfl
theorem Y4 (p:PV) (l:List PV):Ym (p::l) 0=p:=rfl
theorem ati (p q:PV) (l:List PV):Ym (p::q::l) 1=q:=rfl
theorem atj (p q r:PV) (l:List PV):Ym (p::q::r::l) 2=r:=rfl
theorem atl (p q r s:PV) (l:List PV):Ym (p::q::r::s::l) 3=s:=rfl
theorem aiQ {C:AH->Prop} {K:(Nat->PV)->AH->Prop}:iZ P C [] K σ H=K σ H:=rfl
theorem uN {C:AH->Prop} {d:Option Nat} {k:RK} {l:List (aQ×Bool)} {K:(Nat->PV)->AH->Prop} (p:PV) (hp: ∀H',C H'->rop k σ H'=some p) (h:iZ P C l K (upd σ d p) H):
    iZ P C ((⟨d,.r k,none⟩,false)::l) K σ H:=by
  refine .inr ⟨trivial,p,fun H' hC=> ?_,h⟩;simp [jN,hp H' hC]
theorem aaq {C:AH->Prop} {d:Option Nat} {k:DK} {l:List (aQ×Bool)} {K:(Nat->PV)->AH->Prop} (p:PV) (H':AH) (hp:ni k σ H=some (p,H')) (hC:C H') (h:iZ P C l K (upd σ d p) H'):
    iZ P C ((⟨d,.d k,none⟩,true)::l) K σ H:=by
  refine .inr ⟨trivial,p,H',?_,hC,h⟩;simp [jN,hp]
theorem D5 {C:AH->Prop} {d:Option Nat} {g:FuncId} {fs cs:List PV} {az:List AE} {l:List (aQ×Bool)} {K:(Nat->PV)->AH->Prop} (p:PV) (hp:aC P g (fs++evs σ az++cs) p) (h:iZ P C l K (upd σ d p) H):
    iZ P C ((⟨d,.call (.c (.fn (.func g) fs cs)) az,none⟩,false)::l) K σ H:=
  .inr ⟨trivial,p,fun H' hC=>hp H',h⟩
theorem amK {C:AH->Prop} {d:Option Nat} {k:AK} {s:Nat} {want b:Bool} {l:List (aQ×Bool)} {K:(Nat->PV)->AH->Prop} (hs:σ s= .bool want) (h:iZ P C ((⟨d,k,none⟩,b)::l) K σ H):
    iZ P C ((⟨d,k,some (s,want)⟩,b)::l) K σ H:=by
  rcases h with⟨h,_⟩|⟨_,h⟩
  · exact h.elim
  · exact .inr ⟨hs,h⟩
theorem aar {C:AH->Prop} {d:Option Nat} {k:AK} {s:Nat} {want b:Bool} {l:List (aQ×Bool)} {K:(Nat->PV)->AH->Prop} (hs:σ s= .bool (!want)\/σ s= .dR []) (h:iZ P C l K (upd σ d ud) H):
    iZ P C ((⟨d,k,some (s,want)⟩,b)::l) K σ H:= .inl ⟨hs,h⟩
end
attribute [go_sem] aap afn agU mV aiO amJ aiP awe awf Y4 ati atj atl
attribute [go_sem] rop ni ZF JI Sz FL isEq ae5 EU zT F4 om putCells kL Dy aao KX afm packed
attribute [go_sem] List.getElem?_map List.getElem?_cons_zero List.getElem?_cons_succ Option.map_some Option.map_none List.length_cons List.length_nil List.length_map List.nil_append List.append_nil List.cons_append Option.getD_some
end Go.VL
end
section
namespace Go.VL
variable [Glob]
inductive Sc:PV->Prop where
  |bool (b:Bool):Sc (.bool b)
  |int (k:IntKind) (x:Int):Sc (.int k x)
  |str (s:List UInt8):Sc (.str s)
  |any:Sc .any
  |dR (cs:List PV) (h: ∀c∈cs,Sc c):Sc (.dR cs)
theorem V.sc {G G':Gh} {n n':Nat} {p:PV} {v:Value} (k:V G n p v) (hp:Sc p):V G' n' p v:=by
  induction k with
  |any v=>exact .any v
  |bool b=>exact .bool b
  |int k x=>exact .int k x
  |str s=>exact .str s
  |dR cs vs h1 _ ih=>
    cases hp with
    |dR _ h=>exact .dR cs vs h1 (fun j c x hc hx=>ih j c x hc hx (h c (List.mem_of_getElem? hc)))
  |_=>cases hp
theorem aC.frozen {P:Program} {f:FuncId} {args args':List PV} {r:PV} {H:AH} (hz:args'.length=args.length/\ ∀(j:Nat) (a a':PV),args[j]? =some a->args'[j]? =some a'->Fz H a a') (ha: ∀a∈args',Pu a)
    (h:aC P f args' r) (hr:Sc r):dU P f args H fun v H'=>v=r/\H'=H:=by
  refine⟨(h AH.empty).enters,fun B G w vs hU hM hv=> ?_⟩
  let F0:=(G.froze H w).F
  have hF0: ∀a x,G.F a=some x->F0 a=some x:=fun a x e=>FK e;have awg: ∀a x,F0 a=some x->w.cell? a=some x:=by
    intro a x e;simp only [F0,Gh.froze]at e;split at e
    · rename_i y hy;cases e;exact hM.tu a x hy
    · split at e
      · exact e
      · cases e
  have hv':Vs ⟨F0,fun _=>none,fun _=>none⟩ 0 args' vs:=⟨hv.1.trans hz.1.symm,fun j c x hc hx=>by
    have hj:j<args.length:=by
      rw [<-hz.1];exact(List.getElem?_eq_some_iff.1 hc).1
    have hf:=hz.2 j args[j] c (by simp) hc;have:=hf.reads hM x (hv.2 j args[j] x (by simp) hx);exact V.pure (fun _ _ e=>e) this (ha c (List.mem_of_getElem? hc))⟩
  refine(((h AH.empty).call (fun b=>w.heap.size<=b) _ w vs (fun b hb=>hb) (HM.empty (fun a x e=>hF0 a x (hM.glob a x e)) awg hM.wh.old) hv')).mono ?_;rintro e w' ⟨q,v,H',G',h1,h2,h3,h4,h5,h6,rfl,rfl⟩;have hold: ∀b,b<w.heap.size->w'.heap[b]? =w.heap[b]? :=fun b hb=>h2.same b hb (by omega);have hlt: ∀b arr t fr,w.heap[b]? =some (.cells arr t fr)->b<w.heap.size:=fun b arr t fr e=>(Array.getElem?_eq_some_iff.1 e).1
  have hM2:HM B H G w':={
    glob:=hM.glob
    tu:=fun a x e=>by
      have hc:=hM.tu a x e;exact(World.cell?_of_block (hold _ (World.block_lt_of_cell? w a hc))).trans hc
    obj:=fun id cs e=>by
      obtain⟨k0,b,arr,t,k1,k2,k3,k4,k5⟩:=hM.obj id cs e;exact⟨k0,b,arr,t,k1,k2,(hold b (hlt _ _ _ _ k3)).trans k3,k4,k5⟩
    inj:=hM.inj
    tok:=fun k e=>by
      obtain⟨k0,b,o,arr,t,k1,k2,k3,k5⟩:=hM.tok k e;exact⟨k0,b,o,arr,t,k1,k2,(hold b (hlt _ _ _ _ k3)).trans k3,k5⟩
    sD:=hM.sD
    tobj:=hM.tobj
    wh:=hM.wh.keep fun b _ hb=>hold b hb}
  exact⟨_,v,H,G,h1,⟨h2.size,fun b hb _=>hold b hb,h2.os,h2.tape,h2.output,h2.Ig⟩,Ext.refl B _ G,Nat.le_refl _,hM2,h6.sc hr,rfl,rfl⟩
end Go.VL
end
section
namespace Go.VL
variable [Glob]
section
variable {P:Program} {Q:Post} {σ:Nat->PV} {H:AH} {K:(Nat->PV)->AH->Prop}
def PC (P:Program) (g:FuncId) (args:List PV) (k:PV->Prop):Prop:= ∃p,aC P g args p/\k p
theorem PC.mk {g:FuncId} {args:List PV} {k:PV->Prop} {p:PV} (h:aC P g args p) (hk:k p):PC P g args k:=⟨p,h,hk⟩
theorem aoH {pr:List (aQ×Bool)} {post:List aQ} (h:iZ P (·=H) pr (dD P post (Q .normal)) σ H):W P (.par pr post) Q σ H:=⟨(·=H),rfl,h⟩
theorem ad3 {d:Option Nat} {k:RK} {l:List (aQ×Bool)} (h:match rop k σ H with|some p=>iZ P (·=H) l K (upd σ d p) H|none=>False):iZ P (·=H) ((⟨d,.r k,none⟩,false)::l) K σ H:=by
  cases hr:rop k σ H with
  |none=>rw [hr]at h;exact h.elim
  |some p=>
    rw [hr]at h;exact uN p (fun H' e=>by subst e;exact hr) h
theorem U3 {d:Option Nat} {k:AK} {s:Nat} {want b:Bool} {l:List (aQ×Bool)}
    (h:match σ s with| .bool t=>if t=want then iZ P (·=H) ((⟨d,k,none⟩,b)::l) K σ H else iZ P (·=H) l K (upd σ d ud) H| .dR []=>iZ P (·=H) l K (upd σ d ud) H|_=>False):iZ P (·=H) ((⟨d,k,some (s,want)⟩,b)::l) K σ H:=by
  split at h
  · rename_i t ht;split at h
    · rename_i e;subst e;exact amK ht h
    · rename_i e;refine aar (.inl ?_) h;rw [ht];cases t<;>cases want<;>first|rfl|exact absurd rfl e
  · rename_i ht;exact aar (.inr ht) h
  · exact h.elim
theorem EY {d:Option Nat} {g:FuncId} {fs cs:List PV} {az:List AE} {l:List (aQ×Bool)} (h:PC P g (fs++evs σ az++cs) fun p=>iZ P (·=H) l K (upd σ d p) H):
    iZ P (·=H) ((⟨d,.call (.c (.fn (.func g) fs cs)) az,none⟩,false)::l) K σ H:=by
  obtain⟨p,h1,h2⟩:=h;exact D5 p h1 h2
theorem AH.amL (cs:List PV) (i:Nat):(H.new cs).obj i=if i=H.next then some cs else H.obj i:=rfl
theorem AH.amM (id:Nat) (cs:List PV) (i:Nat):(H.put id cs).obj i=if i=id then some cs else H.obj i:=rfl
theorem AH.aF (cs:List PV):(H.new cs).next=H.next+1:=rfl
theorem AH.aG (id:Nat) (cs:List PV):(H.put id cs).next=H.next:=rfl
theorem AH.aH:H.tok.next=H.next+1:=rfl
theorem AH.aI (k:Nat):(H.use k).next=H.next:=rfl
end
attribute [go_sem] AH.amL AH.amM AH.aF AH.aG AH.aH AH.aI
theorem amN (k:IntKind) (x:Int):(PV.int k x).one=true:=rfl
theorem aiR (b:Bool):(PV.bool b).one=true:=rfl
theorem amO (s:List UInt8):(PV.str s).one=true:=rfl
theorem amP (es:List (List PV)) (c:Ck):(PV.aB es c).one=true:=rfl
theorem amQ (a b c d e:Nat):(PV.dQ a b c d e).one=true:=rfl
theorem adk (l:List PV):cellsOf (.agg l)=some l:=rfl
theorem adl (k:IntKind) (x:Int):cellsOf (.int k x)=some [.int k x]:=rfl
theorem aas (b:Bool):cellsOf (.bool b)=some [.bool b]:=rfl
theorem adn (s:List UInt8):cellsOf (.str s)=some [.str s]:=rfl
theorem ado (es:List (List PV)) (c:Ck):cellsOf (.aB es c)=some [.aB es c]:=rfl
theorem adp (a b c d e:Nat):cellsOf (.dQ a b c d e)=some [.dQ a b c d e]:=rfl
attribute [go_sem] List.length_take
attribute [go_sem] adk adl aas adn ado adp amN aiR amO amP amQ Bool.true_and List.drop_zero List.drop_succ_cons List.take_succ_cons List.take_zero List.all_cons List.all_nil Bool.and_true Bool.and_self List.drop_nil Nat.zero_add Nat.add_zero Nat.le_refl and_self
end Go.VL
end
section
namespace Go.VL
abbrev CJ:=List (Nat×IntKind×List Int)
def CJ.get (l:CJ) (g:Nat):Option (IntKind×List Int):=(l.find? fun x=>x.1==g).map (·.2)
def CJ.gc (l:CJ) (a:Addr):Option Value:=match a.spot with
  |none=>match l.get a.block with
    |some (k,ns)=>ns[a.off]?.map (Value.int k)
    |none=>none
  |some _=>none
def CJ.gv (l:CJ) (g:Nat):Option PV:=(l.get g).map fun x=> .eP (x.2.map (.int x.1)) 0
def CJ.wb (l:CJ) (g:Nat):Option (Array Value):=(l.get g).map fun x=>(x.2.map (Value.int x.1)).toArray
@[reducible] def Glob.aoI (l:CJ):Glob where
  gc:=l.gc
  gv:=l.gv
  wb:=l.wb
  ok:=by
    intro g p h G n hF;simp only [CJ.gv,Option.map_eq_some_iff]at h;obtain⟨⟨k,ns⟩,h1,rfl⟩:=h;have key:=V.eP (G:=G) (n:=n) (ns.map (PV.int k)) 0 g 0 (fun j=> .int k (ns[j]?.getD 0)) (fun j c e=>by
      simp only [List.getElem?_map,Option.map_eq_some_iff]at e;obtain⟨x,hx,rfl⟩:=e;rw [Nat.zero_add];refine hF _ _ ?_;simp only [CJ.gc,h1,hx,Option.map_some,Option.getD_some]) (fun j c e=>by
      simp only [List.getElem?_map,Option.map_eq_some_iff]at e;obtain⟨x,hx,rfl⟩:=e;simp only [hx,Option.getD_some];exact .int k x)
    exact key
end Go.VL
end
section
namespace Go.VL
open Go.RowKit
def Fw (w:World):Gh:=⟨w.cell?,fun _=>none,fun _=>none⟩
def Gc (w:World) (ps:List PV) (cs:List Value):Prop:=ps.length=cs.length/\ ∀(j:Nat) (c:PV) (x:Value),ps[j]? =some c->cs[j]? =some x->V (Fw w) 0 c x
def Dec (P:Program) (t:TypeId) (R:List PV->Prop):Prop:= ∀(H:Type) (enc:TypeId×Value->H) (w:World) (fuel:Nat) (cs:List Value) (x:DataW H×List MemPlace),
  DataW.trod enc P w 0 (fun _=>true) true fuel t cs=some x-> ∃ps,Gc w ps cs/\R ps
theorem Gc.one {w:World} {p:PV} {v:Value} (h:V (Fw w) 0 p v):Gc w [p] [v]:=⟨rfl,fun j c x e e'=>by
  cases j with
  |zero=>simp at e e';subst e;subst e';exact h
  |succ j=>simp at e⟩
theorem Gc.app {w:World} {ps qs:List PV} {cs ds:List Value} (h:Gc w ps cs) (k:Gc w qs ds):Gc w (ps++qs) (cs++ds):=⟨by simp [h.1,k.1],fun j c x e e'=>by
  rcases Nat.lt_or_ge j ps.length with hj|hj
  · rw [List.getElem?_append_left hj]at e;rw [List.getElem?_append_left (by rw [<-h.1];exact hj)]at e';exact h.2 j c x e e'
  · rw [List.getElem?_append_right hj]at e;rw [List.getElem?_append_right (by rw [<-h.1];exact hj)]at e';rw [<-h.1]at e';exact k.2 _ c x e e'⟩
section
variable {P:Program}
theorem Dec.int {t:TypeId} {k:IntKind} (ht:P.underlying t=some (.int k)):Dec P t fun l=> ∃n,l=[.int k n]/\k.min<=n/\n<=k.max:=fun H enc w fuel cs x h=>by
  obtain⟨n,rfl,_,hw⟩:=DataW.trod_int ht h;simp only [Lit.wf,Bool.and_eq_true,decide_eq_true_eq]at hw;exact⟨[.int k n],.one (.int k n),n,rfl,hw.1,hw.2⟩
theorem Dec.string {t:TypeId} (ht:P.underlying t=some .string):Dec P t fun l=> ∃s,l=[.str s]/\s.length<=maxLen:=fun H enc w fuel cs x h=>by
  obtain⟨s,rfl,_,hw⟩:=DataW.trod_string ht h;refine⟨[.str s.data.toList],.one ?_,_,rfl,?_⟩
  · have:=V.str (G:=Fw w) (n:=0) s.data.toList;simpa using this
  · rw [Array.length_toList];exact hw
theorem Dec.slice {t e:TypeId} {R:List PV->Prop} (ht:P.underlying t=some (.slice e)) (hc:0<P.cellsOf e) (he:Dec P e R):
    Dec P t fun l=> ∃es,l=[.aB es .unk]/\es.length<=maxLen/\ ∀cs∈es,cs.length=P.cellsOf e/\R cs:=fun H enc w fuel cs x h=>by
  rcases DataW.trod_slice ht h with⟨rfl,_⟩|⟨a,len,cap,elems,rest,n,_,rfl,_,_,hl,hm,hlen,hel,_,_⟩
  · refine⟨[.aB [] .unk],.one ?_,[],rfl,Nat.zero_le _,fun cs h=>by cases h⟩;exact .aB [] .unk 0 none 0 (fun _ _=>default) (by simp) (by simp) (by simp) (by simp) trivial
  have key: ∀i,i<len-> ∃vs ps,w.cells? 0 (a.add (i*P.cellsOf e)) (P.cellsOf e)=some vs/\Gc w ps vs/\R ps:=fun i hi=>by
    have h1:=hel i hi;rw [List.getElem?_eq_getElem (by omega)]at h1;obtain⟨vs,h2,h3⟩:=Option.bind_eq_some_iff.1 h1;obtain⟨ps,h4,h5⟩:=he H enc w n vs _ h3;exact⟨vs,ps,h2,h4,h5⟩
  obtain⟨g,hg⟩: ∃g:Nat->List Value×List PV,∀i,i<len->w.cells? 0 (a.add (i*P.cellsOf e)) (P.cellsOf e)=some (g i).1/\Gc w (g i).2 (g i).1/\R (g i).2:=by
    refine⟨fun i=>if hi:i<len then(Classical.choose (key i hi),Classical.choose (Classical.choose_spec (key i hi)))else([],[]),fun i hi=> ?_⟩;simp only [dif_pos hi];exact Classical.choose_spec (Classical.choose_spec (key i hi))
  have hsz: ∀i,i<len->(g i).1.length=P.cellsOf e/\(g i).2.length=P.cellsOf e:=fun i hi=>by
    obtain⟨h1,h2,_⟩:=hg i hi;have:=(World.cells?_some h1).2.1;exact⟨this,h2.1.trans this⟩
  have hcell: ∀i,i<len-> ∀j,j<P.cellsOf e->w.cell? ((a.add (i*P.cellsOf e)).add j)=(g i).1[j]? :=fun i hi j hj=>(World.cells?_some (hg i hi).1).2.2 j hj
  let es:List (List PV):=(List.range len).map fun i=>(g i).2
  have hes: ∀(i:Nat) (cs:List PV),es[i]? =some cs->i<len/\cs=(g i).2:=fun i cs h=>by
    simp only [es,List.getElem?_map,Option.map_eq_some_iff]at h;obtain⟨y,h1,h2⟩:=h;rw [List.getElem?_eq_some_iff]at h1;obtain⟨h3,h4⟩:=h1;simp at h3 h4;subst h4;exact⟨h3,h2.symm⟩
  have afo:es.length=len:=by simp [es]
  refine⟨[.aB es .unk],?_,es,rfl,by rw [afo];omega,fun cs hcs=> ?_⟩
  · rcases Nat.eq_zero_or_pos len with h0|hpos
    · have:es=[]:=List.eq_nil_of_length_eq_zero (by rw [afo,h0]);refine Gc.one ?_;rw [this,h0];exact .aB [] .unk 0 (some a) cap (fun _ _=>default) (by simp) (by simp) (by simp) (by simp) trivial
    have hspot:a.spot=none:=by
      have h1:=hcell 0 hpos 0 hc;have h2:(g 0).1[0]? =some ((g 0).1[0]'(by have:=(hsz 0 hpos).1;omega)):=by simp
      rw [h2]at h1;have:=World.cell?_spot h1;simpa [Addr.add]using this
    obtain⟨b,o,sp⟩:=a;simp only at hspot;subst hspot;have hadd: ∀o m,(⟨b,o,none⟩:Addr).add m=⟨b,o+m,none⟩:=fun o m=>by
      unfold Addr.add;split
      · rename_i h;subst h;rfl
      · rfl
    refine Gc.one ?_;rw [<-afo];refine .aB es .unk (P.cellsOf e) (some ⟨b,o,none⟩) cap (fun i j=>(g i).1[j]?.getD default) (fun i cs h=> ?_) (by rw [afo];exact hl) (fun _=>⟨b,o,rfl,fun i cs h j c hj=> ?_⟩) (fun i cs j c h hj=> ?_) trivial
    · obtain⟨h1,rfl⟩:=hes i cs h;exact(hsz i h1).2
    · obtain⟨h1,rfl⟩:=hes i cs h;have hjl:j<P.cellsOf e:=by
        rw [<-(hsz i h1).2];exact(List.getElem?_eq_some_iff.1 hj).1
      have h2:=hcell i h1 j hjl;rw [hadd,hadd]at h2;show w.cell? ⟨b,o+i*P.cellsOf e+j,none⟩=_
      rw [h2];have:j<(g i).1.length:=by rw [(hsz i h1).1];exact hjl
      simp [this]
    · obtain⟨h1,rfl⟩:=hes i cs h;have hjl:j<(g i).1.length:=by
        rw [(hsz i h1).1,<-(hsz i h1).2];exact(List.getElem?_eq_some_iff.1 hj).1
      refine(hg i h1).2.1.2 j c _ hj ?_;simp [hjl]
  · obtain⟨i,hi,rfl⟩:=List.mem_map.1 hcs;have hi:=List.mem_range.1 hi;exact⟨(hsz i hi).2,(hg i hi).2.2⟩
def afp (P:Program):Nat->List Field->List (List PV->Prop)->Prop
  |_,[],[]=>True
  |o,f::fs,R::Rs=>f.offset=o/\Dec P f.type R/\afp P (o+P.cellsOf f.type) fs Rs
  |_,_,_=>False
def RFs (P:Program):List Field->List (List PV->Prop)->List PV->Prop
  |[],[],l=>l=[]
  |f::fs,R::Rs,l=> ∃a b,l=a++b/\a.length=P.cellsOf f.type/\R a/\RFs P fs Rs b
  |_,_,_=>False
def Gd (P:Program):List Field->Nat
  |[]=>0
  |f::fs=>P.cellsOf f.type+Gd P fs
theorem Yn {H:Type} {enc:TypeId×Value->H} {w:World} {n:Nat} {cs:List Value}: ∀(fs:List Field) (Rs:List (List PV->Prop)) (o:Nat),afp P o fs Rs->o+Gd P fs=cs.length->
    (∀f∈fs,∃x,DataW.trod enc P w 0 (fun _=>true) true n f.type ((cs.drop f.offset).take (P.cellsOf f.type))=some x)-> ∃ps,Gc w ps (cs.drop o)/\RFs P fs Rs ps
  |[],[],o,_,hs,_=>⟨[],⟨by simp [Gd]at hs;simp;omega,by simp⟩,rfl⟩
  |f::fs,R::Rs,o,⟨h1,h2,h3⟩,hs,ht=>by
    obtain⟨x,hx⟩:=ht f (by simp);obtain⟨qs,h4,h5⟩:=h2 H enc w n _ x hx;obtain⟨ps,h6,h7⟩:=Yn fs Rs _ h3 (by simp only [Gd]at hs;omega) (fun g hg=>ht g (List.mem_cons_of_mem _ hg));have hl:((cs.drop f.offset).take (P.cellsOf f.type)).length=P.cellsOf f.type:=by
      simp only [Gd]at hs;simp only [List.length_take,List.length_drop,h1];omega
    refine⟨qs++ps,?_,qs,ps,rfl,h4.1.trans hl,h5,h7⟩;have:=h4.app h6;rw [h1]at this;rw [show cs.drop o=(cs.drop o).take (P.cellsOf f.type)++cs.drop (o+P.cellsOf f.type) by rw [<-List.drop_drop,List.take_append_drop]];exact this
  |[],_::_,_,h,_,_=>h.elim
  |_::_,[],_,h,_,_=>h.elim
theorem Dec.struct {t:TypeId} {fs:Array Field} {Rs:List (List PV->Prop)} (ht:P.underlying t=some (.struct fs)) (hs:Gd P fs.toList=P.cellsOf t) (hf:afp P 0 fs.toList Rs):Dec P t (RFs P fs.toList Rs):=fun H enc w fuel cs x h=>by
  obtain⟨xs,n,_,_,hl,hn,hi⟩:=DataW.trod_struct ht h;obtain⟨ps,h1,h2⟩:=Yn (enc:=enc) (w:=w) (n:=n) (cs:=cs) fs.toList Rs 0 hf (by omega) (fun f hf=>by
    obtain⟨i,hi',rfl⟩:=List.mem_iff_getElem.1 hf;have h3:=hi i fs[i] (by simp);rw [List.getElem?_eq_getElem (by simpa [hn]using hi')]at h3;exact⟨_,by simpa using h3⟩)
  exact⟨ps,by simpa using h1,h2⟩
theorem Dec.mono {t:TypeId} {R R':List PV->Prop} (h:Dec P t R) (hr: ∀l,R l->R' l):Dec P t R':=fun H enc w fuel cs x e=>by
  obtain⟨ps,h1,h2⟩:=h H enc w fuel cs x e;exact⟨ps,h1,hr _ h2⟩
theorem Dec.arg {t:TypeId} {R:List PV->Prop} (h:Dec P t R) {H:Type} {enc:TypeId×Value->H} {w:World} {v:Value} {d:DataW H} {ps:List MemPlace} (ht:DataW.Trod enc P w 0 (fun _=>true) true t v d ps) (hv:v.cells.toList=[v]):
    ∃q,R q/\Gc w q [v]:=by
  obtain⟨fuel,hf⟩:=ht;rw [hv]at hf;obtain⟨ps,h1,h2⟩:=h H enc w fuel _ _ hf;exact⟨ps,h2,h1⟩
variable [Glob]
theorem dU.top {f:FuncId} {args:List PV} {r:Bool} {W:World} {vs:Array Value} (h:dU P f args AH.empty fun v _=>v= .bool r) (hg: ∀a x,Glob.gc a=some x->W.cell? a=some x) (hw:WH (fun b=>W.heap.size<=b) W) (hv:Gc W args vs.toList):
    Calls P f vs W fun e W'=>e= .returned (.bool r)/\Below W.heap.size W W':=by
  refine(h.call (fun b=>W.heap.size<=b) (Fw W) W vs (fun b hb=>hb) (HM.empty hg (fun a x e=>e) hw) ⟨by simpa using hv.1.symm,fun j c x e e'=>hv.2 j c x e (by simpa using e')⟩).mono ?_;rintro e w' ⟨q,v,H',G',rfl,h2,h3,h4,h5,h6,rfl⟩;cases h6;exact⟨rfl,⟨h2.os,h2.tape,h2.output,h2.size,fun k hk=>h2.same k hk (by omega)⟩⟩
end
end Go.VL
end
section
namespace Go.VL
abbrev Str:=List UInt8
structure Nd where
  kind:Int
  n:Int
  text:Str
  names:List Str
  args:List Int
deriving DecidableEq
def InI (n:Int):Prop:=IntKind.i64.min<=n/\n<=IntKind.i64.max
def aU (s:Str):List PV:=[.str s]
def bD (n:Int):List PV:=[.int .i64 n]
abbrev atm (l:List Str) (c:Ck):PV:= .aB (l.map aU) c
abbrev atn (l:List Int) (c:Ck):PV:= .aB (l.map bD) c
abbrev Ap (l:List Str):PV:=atm l .unk
abbrev aat (l:List Int):PV:=atn l .unk
def Nd.cells (x:Nd):List PV:=[.int .i64 x.kind,.int .i64 x.n,.str x.text,Ap x.names,aat x.args]
abbrev ato (e:List Nd) (c:Ck):PV:= .aB (e.map Nd.cells) c
abbrev jg (e:List Nd):PV:=ato e .unk
structure Nd.Wf (x:Nd):Prop where
  kind:InI x.kind
  n:InI x.n
  text:x.text.length<=maxLen
  names:x.names.length<=maxLen
  name: ∀s∈x.names,s.length<=maxLen
  args:x.args.length<=maxLen
  arg: ∀a∈x.args,InI a
def LZ (e:List Nd):Prop:=e.length<=maxLen/\ ∀x∈e,x.Wf
theorem DC {α β:Type} {f:α->β} {p:α->Prop}: ∀{l:List β},(∀y∈l,∃x,y=f x/\p x)-> ∃xs:List α,l=xs.map f/\ ∀x∈xs,p x
  |[],_=>⟨[],rfl,by simp⟩
  |y::l,h=>by
    obtain⟨x,rfl,hx⟩:=h _ (List.mem_cons_self ..);obtain⟨xs,rfl,hxs⟩:=DC fun z hz=>h z (List.mem_cons_of_mem _ hz);exact⟨x::xs,rfl,fun z hz=>by
      rcases List.mem_cons.1 hz with rfl|hz
      · exact hx
      · exact hxs z hz⟩
section
variable {P:Program}
theorem Dec.strs {t e:TypeId} (ht:P.underlying t=some (.slice e)) (hc:P.cellsOf e=1) (he:P.underlying e=some .string):Dec P t fun l=> ∃ls,l=[Ap ls]/\ls.length<=maxLen/\ ∀s∈ls,s.length<=maxLen:=
  (Dec.slice ht (by omega) (Dec.string he)).mono fun l ⟨es,h1,h2,h3⟩=>by
    obtain⟨ls,rfl,h4⟩:=DC (f:=aU) (p:=fun s=>s.length<=maxLen) fun y hy=>(h3 y hy).2;exact⟨ls,h1,by simpa using h2,h4⟩
theorem Dec.ints {t e:TypeId} (ht:P.underlying t=some (.slice e)) (hc:P.cellsOf e=1) (he:P.underlying e=some (.int .i64)):Dec P t fun l=> ∃ls,l=[aat ls]/\ls.length<=maxLen/\ ∀n∈ls,InI n:=
  (Dec.slice ht (by omega) (Dec.int he)).mono fun l ⟨es,h1,h2,h3⟩=>by
    obtain⟨ls,rfl,h4⟩:=DC (f:=bD) (p:=InI) fun y hy=>(h3 y hy).2;exact⟨ls,h1,by simpa using h2,h4⟩
theorem Dec.node {t tS tI tL tN:TypeId} {f0 f1 f2 f3 f4:Field} (ht:P.underlying t=some (.struct #[f0,f1,f2,f3,f4])) (hc:P.cellsOf t=5)
    (h0:f0.type=tI/\f0.offset=0) (h1:f1.type=tI/\f1.offset=1) (h2:f2.type=tS/\f2.offset=2) (h3:f3.type=tL/\f3.offset=3) (h4:f4.type=tN/\f4.offset=4)
    (hS:P.underlying tS=some .string) (hI:P.underlying tI=some (.int .i64)) (hL:P.underlying tL=some (.slice tS)) (hN:P.underlying tN=some (.slice tI))
    (cS:P.cellsOf tS=1) (cI:P.cellsOf tI=1) (cL:P.cellsOf tL=1) (cN:P.cellsOf tN=1):Dec P t fun l=> ∃x:Nd,l=x.cells/\x.Wf:=by
  obtain⟨a0,b0⟩:=h0;obtain⟨a1,b1⟩:=h1;obtain⟨a2,b2⟩:=h2;obtain⟨a3,b3⟩:=h3;obtain⟨a4,b4⟩:=h4
  refine(Dec.struct (Rs:=[_,_,_,_,_]) ht (by simp [Gd,a0,a1,a2,a3,a4,cS,cI,cL,cN,hc])
    ⟨b0,a0▸Dec.int hI,by rw [a0,cI];exact b1,a1▸Dec.int hI,by rw [a0,a1,cI];exact b2,a2▸Dec.string hS,by rw [a0,a1,a2,cI,cS];exact b3,a3▸Dec.strs hL cS hS,by rw [a0,a1,a2,a3,cI,cS,cL];exact b4,a4▸Dec.ints hN cI hI,trivial⟩).mono ?_
  rintro l ⟨l0,r0,rfl,-,⟨kind,rfl,k1,k2⟩,l1,r1,rfl,-,⟨n,rfl,n1,n2⟩,l2,r2,rfl,-,⟨s,rfl,s1⟩,l3,r3,rfl,-,⟨ls,rfl,g1,g2⟩,l4,r4,rfl,-,⟨ns,rfl,m1,m2⟩,rfl⟩;exact⟨⟨kind,n,s,ls,ns⟩,rfl,⟨k1,k2⟩,⟨n1,n2⟩,s1,g1,g2,m1,m2⟩
theorem Dec.expr {t e:TypeId} (ht:P.underlying t=some (.slice e)) (hc:P.cellsOf e=5) (he:Dec P e fun l=> ∃x:Nd,l=x.cells/\x.Wf):Dec P t fun l=> ∃e,l=[jg e]/\LZ e:=
  (Dec.slice ht (by omega) he).mono fun l ⟨es,h1,h2,h3⟩=>by
    obtain⟨ls,rfl,h4⟩:=DC (f:=Nd.cells) (p:=Nd.Wf) fun y hy=>(h3 y hy).2;exact⟨ls,h1,by simpa using h2,h4⟩
end
end Go.VL
end
section
namespace Go.VL
section
variable {H:AH}
theorem Nb {α:Type} {sz:Nat} {f:α->List PV} (hf: ∀x,(f x).length=sz) (l:List α):KP sz (l.map f):=by
  intro cs h;obtain⟨x,_,rfl⟩:=List.mem_map.1 h;exact hf x
class Aq {α:Type} (f:α->List PV) (sz:outParam Nat):Prop where
  len: ∀x,(f x).length=sz
  wkf: ∀x,(f x).map wk=f x
theorem aoK {α:Type} {sz:Nat} {f:α->List PV} {l:List α} {c:Ck} {k:IntKind} {n:Int} [hr:Aq f sz]:
    tX sz (.aB (l.map f) c) (some (.int k n)) none none=if 0<=n/\n.toNat<=l.length then some (.aB ((l.drop n.toNat).map f) .unk)else none:=by
  simp only [tX,om];by_cases h1:0<=n
  · by_cases h2:n.toNat<=l.length
    · simp [h1,h2,Nb hr.len,List.map_drop,List.take_of_length_le]
    · simp [h1,h2]
  · simp [h1]
theorem aoL {α:Type} {sz:Nat} {f:α->List PV} {l:List α} {c:Ck} {k:IntKind} {n:Int} [hr:Aq f sz]:
    tX sz (.aB (l.map f) c) none (some (.int k n)) none=if 0<=n/\n.toNat<=l.length then some (.aB ((l.take n.toNat).map f) .unk)else none:=by
  simp only [tX,om];by_cases h1:0<=n
  · by_cases h2:n.toNat<=l.length
    · simp [h1,h2,Nb hr.len,List.map_take]
    · simp [h1,h2]
  · simp [h1]
theorem amR {s:List UInt8} {k:IntKind} {n:Int}:yD (.str s) (some (.int k n)) none=if 0<=n/\n.toNat<=s.length then some (.str (s.drop n.toNat))else none:=by
  simp only [yD,om];by_cases h1:0<=n
  · by_cases h2:n.toNat<=s.length
    · simp [h1,h2]
    · simp [h1,h2]
  · simp [h1]
theorem amS {s:List UInt8} {k:IntKind} {n:Int}:yD (.str s) none (some (.int k n))=if 0<=n/\n.toNat<=s.length then some (.str (s.take n.toNat))else none:=by
  simp only [yD,om];by_cases h1:0<=n
  · by_cases h2:n.toNat<=s.length
    · simp [h1,h2]
    · simp [h1,h2]
  · simp [h1]
theorem agX {s:List UInt8} {k k':IntKind} {m n:Int}:yD (.str s) (some (.int k m)) (some (.int k' n))=if 0<=m/\m<=n/\n.toNat<=s.length then some (.str ((s.take n.toNat).drop m.toNat))else none:=by
  simp only [yD,om];by_cases h0:0<=m
  · by_cases h1:0<=n
    · by_cases h4:m<=n
      · have h4':m.toNat<=n.toNat:=by omega
        simp [h0,h1,h4,h4']
      · have h4': ¬m.toNat<=n.toNat:=by omega
        simp [h0,h1,h4,h4']
    · have h4: ¬m<=n:=by omega
      simp [h0,h1,h4]
  · simp [h0]
inductive Lw:List PV->List PV->Prop where
  |nil:Lw [] []
  |same {p:PV} {l m:List PV} (h:Lw l m):Lw (p::l) (p::m)
  |aB {es:List (List PV)} {c:Ck} {l m:List PV} (h:Lw l m):Lw (.aB es c::l) (.aB es .unk::m)
theorem Lw.get {l m:List PV} (h:Lw l m):l.length=m.length/\ ∀(j:Nat) (q:PV),m[j]? =some q-> ∃p,l[j]? =some p/\ ∀(G:Gh) (n:Nat) (v:Value),V G n p v->V G n q v:=by
  induction h with
  |nil=>exact⟨rfl,fun j q e=>by simp at e⟩
  |same _ ih=>
    refine⟨by simp [ih.1],fun j q e=> ?_⟩;cases j with
    |zero=>simp at e;subst e;exact⟨_,rfl,fun _ _ _ h=>h⟩
    |succ j=>simp at e;simpa using ih.2 j q e
  |aB _ ih=>
    refine⟨by simp [ih.1],fun j q e=> ?_⟩;cases j with
    |zero=>simp at e;subst e;exact⟨_,rfl,fun _ _ _ h=>h.wk⟩
    |succ j=>simp at e;simpa using ih.2 j q e
theorem bC {α:Type} {f:α->List PV} (hf: ∀x,∀c∈f x,Pu c) (l:List α):Pu (.aB (l.map f) .unk):=by
  refine .aB _ _ (fun cs h c hc=> ?_) (by simp);obtain⟨x,_,rfl⟩:=List.mem_map.1 h;exact hf x c hc
inductive bn:List PV->Prop where
  |nil:bn []
  |cons {p:PV} {l:List PV} (h:Pu p) (t:bn l):bn (p::l)
theorem bn.mem {l:List PV} (h:bn l): ∀c∈l,Pu c:=by
  induction h with
  |nil=>intro c h;cases h
  |cons h _ ih=>
    intro c hc;rcases List.mem_cons.1 hc with rfl|hc
    · exact h
    · exact ih c hc
inductive L6 (H:AH):List PV->List PV->Prop where
  |nil:L6 H [] []
  |cons {p q:PV} {l m:List PV} (h:Fz H p q) (t:L6 H l m):L6 H (p::l) (q::m)

theorem aN {H:AH} {k:IntKind} {n:Int} {l m:List PV} (t:L6 H l m):L6 H (.int k n::l) (.int k n::m):= .cons (.pure _ (.int _ _)) t
theorem L6.get {l m:List PV} (h:L6 H l m):m.length=l.length/\ ∀(j:Nat) (c c':PV),l[j]? =some c->m[j]? =some c'->Fz H c c':=by
  induction h with
  |nil=>exact⟨rfl,fun j c c' e=>by simp at e⟩
  |cons h _ ih=>
    refine⟨by simp [ih.1],fun j c c' e e'=> ?_⟩;cases j with
    |zero=>simp at e e';subst e;subst e';exact h
    |succ j=>simp at e e';exact ih.2 j c c' e e'
theorem aoM {id off:Nat} {cs cs':List PV} (ho:H.obj id=some cs) (h:L6 H cs cs'):Fz H (.ref id off) (.eP cs' off):= .ref id off cs cs' ho h.get.1 h.get.2
theorem atp {g:Fn} {cs cs':List PV} (h:L6 H cs cs'):Fz H (.fn g [] cs) (.fn g [] cs'):= .fn g [] [] cs cs' rfl (fun j c c' e=>by simp at e) h.get.1 h.get.2
theorem dN {l m:List PV} (h:L6 H l m):Fz H (.agg l) (.agg m):= .agg l m h.get.1 h.get.2
theorem dJ {l m:List PV} (h:L6 H l m):Fz H (.dR l) (.dR m):= .dR l m h.get.1 h.get.2
theorem jB {α:Type} {f:α->List PV} (hf: ∀x,∀c∈f x,Pu c) (l:List α) (c:Ck):Fz H (.aB (l.map f) c) (.aB (l.map f) .unk):=by
  refine .aB _ _ c .unk (.inl rfl) rfl (fun i cs cs' h1 h2=>by rw [h1]at h2;cases h2;rfl) (fun i cs cs' h1 h2 j c c' h3 h4=> ?_);rw [h1]at h2;cases h2;rw [h3]at h4;cases h4;obtain⟨x,_,rfl⟩:=List.mem_map.1 (List.mem_of_getElem? h1);exact .pure _ (hf x c (List.mem_of_getElem? h3))
theorem amT {α:Type} {sz:Nat} {f:α->List PV} [hr:Aq f sz] (l:List α) (c:Ck):LX (.aB (l.map f) c)= .aB (l.map f) c:=by
  simp only [LX,List.map_map];congr 1
  exact List.map_congr_left fun x _=>hr.wkf x
end
def u8L (n:Int):List PV:=[.int .u8 n]
def sH (s:List UInt8):List Int:=s.map fun b=>(b.toNat:Int)
variable [Glob]
section
variable {P:Program} {Q:Post} {σ σ':Nat->PV} {H H':AH} {K:(Nat->PV)->AH->Prop}
inductive Fm where
  |seq (b:AC)
  |ops (l:List aQ)
  |block (id:Nat)
def Gf (P:Program):List Fm->Post->Post
  |[],Q=>Q
  | .seq b::s,Q=>Im (fun σ H=>W P b (Gf P s Q) σ H) (Gf P s Q)
  | .ops l::s,Q=>Im (fun σ H=>dD P l (Gf P s Q .normal) σ H) (Gf P s Q)
  | .block id::s,Q=>SN id (Gf P s Q)
variable {s:List Fm}
def WS (P:Program) (a:AC) (s:List Fm) (Q:Post) (σ:Nat->PV) (H:AH):Prop:=W P a (Gf P s Q) σ H
def WO (P:Program) (l:List aQ) (s:List Fm) (Q:Post) (σ:Nat->PV) (H:AH):Prop:=dD P l (Gf P s Q .normal) σ H
def WE (P:Program) (e:Ex) (s:List Fm) (Q:Post) (σ:Nat->PV) (H:AH):Prop:=Gf P s Q e σ H
theorem aD {a:AC} (h:WS P a [] Q σ H):W P a Q σ H:=h
theorem dB {l:List aQ} (h:WO P l [] Q σ H):dD P l (Q .normal) σ H:=h
def WCd (P:Program):PV->AC->AC->List Fm->Post->(Nat->PV)->AH->Prop
  | .bool true,a,_,s,Q,σ,H=>WS P a s Q σ H
  | .bool false,_,b,s,Q,σ,H=>WS P b s Q σ H
  |_,_,_,_,_,_,_=>False
def WR (P:Program) (o:Option PV) (d:Option Nat) (l:List aQ) (s:List Fm) (Q:Post) (σ:Nat->PV) (H:AH):Prop:=match o with
  |some p=>WO P l s Q (upd σ d p) H
  |none=>False
def WD (P:Program) (o:Option (PV×AH)) (d:Option Nat) (l:List aQ) (s:List Fm) (Q:Post) (σ:Nat->PV):Prop:=match o with
  |some (p,H)=>WO P l s Q (upd σ d p) H
  |none=>False
def WG (P:Program) (v:PV) (want:Bool) (d:Option Nat) (k:AK) (l:List aQ) (s:List Fm) (Q:Post) (σ:Nat->PV) (H:AH):Prop:=match v with
  | .bool b=>if b=want then WO P (⟨d,k,none⟩::l) s Q σ H else WO P l s Q (upd σ d ud) H
  | .dR []=>WO P l s Q (upd σ d ud) H
  |_=>False
def MC (P:Program) (g:FuncId) (az:List PV) (d:Option Nat) (l:List aQ) (s:List Fm) (Q:Post) (σ:Nat->PV) (H:AH):Prop:=dU P g az H fun r H'=>WO P l s Q (upd σ d r) H'
def MV (P:Program) (v:PV) (az:List PV) (d:Option Nat) (l:List aQ) (s:List Fm) (Q:Post) (σ:Nat->PV) (H:AH):Prop:=match v with
  | .fn (.func g) fs cs=>MC P g (fs++az++cs) d l s Q σ H
  |_=>False
theorem aoN {a b:AC}:WS P (.seq a b) s Q σ H=WS P a (.seq b::s) Q σ H:=rfl
theorem aiS {id:Nat} {a:AC}:WS P (.block id a) s Q σ H=WS P a (.block id::s) Q σ H:=rfl
theorem aoO {l:List aQ}:WS P (.ops l) s Q σ H=WO P l s Q σ H:=rfl
theorem amU {id:Nat}:WS P (.exit id) s Q σ H=WE P (.exit id) s Q σ H:=rfl
theorem aoP:WS P .ret s Q σ H=WE P .ret s Q σ H:=rfl
theorem amV:WS P .skip s Q σ H=WE P .normal s Q σ H:=rfl
theorem amW {c:AE} {a b:AC}:WS P (.cond c a b) s Q σ H=WCd P (c.ev σ) a b s Q σ H:=by
  simp only [WS,W];cases c.ev σ with
  |bool t=>cases t<;>simp [WCd,WS]
  |_=>rfl
theorem atq {f:AE} {p q:Nat} {a b:AC} {g id sz:Nat} {agg:Bool} {es:List (List PV)} {c:Ck} (hf:f.ev σ= .fn (.func g) [] [.ref id 0]) (he:Enters P g) (hb:ZI P g sz agg) (h0:0<sz) (ho:H.obj id=some [.aB es c]) (hl:es.length<=1099511627776) (hs:KP sz es)
    (h:Io (fun Q' σ' H'=>W P a (KW (fun zy kg=>W P b Q' zy kg)) σ' H') (Gf P s Q) σ id [.aB es c] p q (es.map (EX agg)) es.length H):WS P (.rf f p q a b) s Q σ H:=awd hf he hb h0 ho hl hs h
theorem aau {K:(Nat->PV)->AH->Prop}:KW K .normal σ H=K σ H:=rfl
theorem aav {X:AH->Prop}:afh Q σ X .normal σ' H=X H:=rfl
theorem afq {X:AH->Prop} {i:Nat}:afh Q σ X (.exit i) σ' H=Q (.exit i) σ H:=rfl
theorem adq {p:PV} {cs:List PV}:EX false (p::cs)=p:=rfl
theorem aiT {a b:AC}:WCd P (.bool true) a b s Q σ H=WS P a s Q σ H:=rfl
theorem agZ {a b:AC}:WCd P (.bool false) a b s Q σ H=WS P b s Q σ H:=rfl
theorem aoQ {e:Ex}:WE P e [] Q σ H=Q e σ H:=rfl
theorem aiU {b:AC}:WE P .normal (.seq b::s) Q σ H=WS P b s Q σ H:=rfl
theorem aiV {i:Nat} {b:AC}:WE P (.exit i) (.seq b::s) Q σ H=WE P (.exit i) s Q σ H:=rfl
theorem aiW {b:AC}:WE P .ret (.seq b::s) Q σ H=WE P .ret s Q σ H:=rfl
theorem aiX {l:List aQ}:WE P .normal (.ops l::s) Q σ H=WO P l s Q σ H:=rfl
theorem afr {i:Nat}:WE P .normal (.block i::s) Q σ H=WE P .normal s Q σ H:=rfl
theorem afs {i:Nat}:WE P .ret (.block i::s) Q σ H=WE P .ret s Q σ H:=rfl
theorem aft {i j:Nat}:WE P (.exit j) (.block i::s) Q σ H=if j=i then WE P .normal s Q σ H else WE P (.exit j) s Q σ H:=rfl
theorem amX {e:Ex} {f:Fm}:Gf P (f::s) Q e σ H=WE P e (f::s) Q σ H:=rfl
theorem adr {l m:List aQ}:dD P (l++m) K σ H=dD P l (fun σ' H'=>dD P m K σ' H') σ H:=by
  induction l generalizing σ H with
  |nil=>rfl
  |cons o l ih=>
    simp only [List.cons_append,dD];cases o.g with
    |none=>simp only [ih]
    |some sw=>
      obtain⟨s,want⟩:=sw;simp only [ih]
theorem aoR:WO P [] s Q σ H=WE P .normal s Q σ H:=rfl
theorem ag0 {l m:List aQ}:WO P (l++m) s Q σ H=WO P l (.ops m::s) Q σ H:=adr
theorem awh {d:Option Nat} {k:RK} {l:List aQ}:WO P (⟨d,.r k,none⟩::l) s Q σ H=WR P (rop k σ H) d l s Q σ H:=rfl
theorem amY {p:PV} {d:Option Nat} {l:List aQ}:WR P (some p) d l s Q σ H=WO P l s Q (upd σ d p) H:=rfl
theorem aY {x y:List UInt8} {d:Option Nat} {l:List aQ} (hb:x.length+y.length<=4611686018427387904) (h:WO P l s Q (upd σ d (.str (x++y))) H):WR P (Ai .add x y) d l s Q σ H:=by
  rw [Ai,if_pos hb];exact h
theorem amZ {p:PV} {d:Option Nat} {l:List aQ}:WD P (some (p,H)) d l s Q σ=WO P l s Q (upd σ d p) H:=rfl
theorem awi {d:Option Nat} {k:AK} {t:Nat} {want:Bool} {l:List aQ}:WO P (⟨d,k,some (t,want)⟩::l) s Q σ H=WG P (σ t) want d k l s Q σ H:=rfl
section
variable {d:Option Nat} {k:AK} {l:List aQ} {want:Bool}
theorem atr:WG P (.bool true) true d k l s Q σ H=WO P (⟨d,k,none⟩::l) s Q σ H:=rfl
theorem att:WG P (.bool false) false d k l s Q σ H=WO P (⟨d,k,none⟩::l) s Q σ H:=rfl
theorem atu:WG P (.bool true) false d k l s Q σ H=WO P l s Q (upd σ d ud) H:=rfl
theorem atv:WG P (.bool false) true d k l s Q σ H=WO P l s Q (upd σ d ud) H:=rfl
theorem atw:WG P (.dR []) want d k l s Q σ H=WO P l s Q (upd σ d ud) H:=rfl
end
theorem aiY {d:Option Nat} {z:List PV} {l:List aQ}:WO P (⟨d,.d (.alloc z),none⟩::l) s Q σ H=WO P l s Q (upd σ d (.ref H.next 0)) (H.new z):=rfl
theorem aoS {d:Option Nat} {n:Nat} {x:AE} {l:List aQ}:WO P (⟨d,.d (.box n x),none⟩::l) s Q σ H=WD P (ni (.box n x) σ H) d l s Q σ:=rfl
theorem KZ {d:Option Nat} {n:Nat} {x v:AE} {l:List aQ}:WO P (⟨d,.d (.store n x v),none⟩::l) s Q σ H=WD P (ni (.store n x v) σ H) d l s Q σ:=rfl
theorem am0 {d:Option Nat} {z:List PV} {ps:List (Nat×Nat×AE)} {l:List aQ}:WO P (⟨d,.n (.jf z ps),none⟩::l) s Q σ H=WR P ((kL σ z ps).map .agg) d l s Q σ H:=by
  show dD P _ _ σ H=_
  rw [SX];simp only [nop];cases kL σ z ps<;>rfl
def aiZ (P:Program):PV->Option Nat->List aQ->List Fm->Post->(Nat->PV)->AH->Prop
  | .str x,d,l,s,Q,σ,H=>WO P l s Q (upd σ d (.aB ((sH x).map u8L) .unk)) H
  |_,_,_,_,_,_,_=>False
theorem aoT {d:Option Nat} {x:AE} {l:List aQ}:WO P (⟨d,.n (.ZU x),none⟩::l) s Q σ H=aiZ P (x.ev σ) d l s Q σ H:=by
  show dD P _ _ σ H=_
  rw [SX,nop];cases x.ev σ with
  |str x=>
    simp only [aiZ,sH,List.map_map];rfl
  |_=>rfl
theorem ai0 {d:Option Nat} {x:List UInt8} {l:List aQ}:aiZ P (.str x) d l s Q σ H=WO P l s Q (upd σ d (.aB ((sH x).map u8L) .unk)) H:=rfl
theorem am1 {d:Option Nat} {g:FuncId} {fs cs:List PV} {az:List AE} {l:List aQ}:WO P (⟨d,.call (.c (.fn (.func g) fs cs)) az,none⟩::l) s Q σ H=MC P g (fs++evs σ az++cs) d l s Q σ H:=rfl
theorem ai1 {d:Option Nat} {n:Nat} {az:List AE} {l:List aQ}:WO P (⟨d,.call (.t n) az,none⟩::l) s Q σ H=MV P (σ n) (evs σ az) d l s Q σ H:=rfl
theorem atx {g:FuncId} {fs cs az:List PV} {d:Option Nat} {l:List aQ}:MV P (.fn (.func g) fs cs) az d l s Q σ H=MC P g (fs++az++cs) d l s Q σ H:=rfl
def jC (P:Program):List (aQ×Bool)->((Nat->PV)->AH->Prop)->(Nat->PV)->AH->Prop
  |[],K,σ,H=>K σ H
  |(⟨d,.r k,none⟩,false)::l,K,σ,H=>match rop k σ H with
    |some p=>jC P l K (upd σ d p) H
    |none=>False
  |(⟨d,.call (.c (.fn (.func g) fs cs)) az,none⟩,false)::l,K,σ,H=>PC P g (fs++evs σ az++cs) fun p=>jC P l K (upd σ d p) H
  |(⟨d,.r k,some (s,want)⟩,false)::l,K,σ,H=>match σ s with
    | .bool t=>if t=want then(match rop k σ H with
      |some p=>jC P l K (upd σ d p) H
      |none=>False)else jC P l K (upd σ d ud) H
    | .dR []=>jC P l K (upd σ d ud) H
    |_=>False
  |(⟨d,.call (.c (.fn (.func g) fs cs)) az,some (s,want)⟩,false)::l,K,σ,H=>match σ s with
    | .bool t=>if t=want then PC P g (fs++evs σ az++cs) fun p=>jC P l K (upd σ d p) H else jC P l K (upd σ d ud) H
    | .dR []=>jC P l K (upd σ d ud) H
    |_=>False
  |_,_,_,_=>False
theorem am2 {d:Option Nat} {k:RK} {l:List (aQ×Bool)}:jC P ((⟨d,.r k,none⟩,false)::l) K σ H=(match rop k σ H with|some p=>jC P l K (upd σ d p) H|none=>False):=rfl
theorem SY {d:Option Nat} {g:FuncId} {fs cs:List PV} {az:List AE} {l:List (aQ×Bool)}:
    jC P ((⟨d,.call (.c (.fn (.func g) fs cs)) az,none⟩,false)::l) K σ H=PC P g (fs++evs σ az++cs) fun p=>jC P l K (upd σ d p) H:=rfl
theorem ai2 {d:Option Nat} {k:RK} {s:Nat} {want:Bool} {l:List (aQ×Bool)}:jC P ((⟨d,.r k,some (s,want)⟩,false)::l) K σ H=
    (match σ s with| .bool t=>if t=want then(match rop k σ H with|some p=>jC P l K (upd σ d p) H|none=>False)else jC P l K (upd σ d ud) H| .dR []=>jC P l K (upd σ d ud) H|_=>False):=rfl
theorem Qe {d:Option Nat} {g:FuncId} {fs cs:List PV} {az:List AE} {s:Nat} {want:Bool} {l:List (aQ×Bool)}:
    jC P ((⟨d,.call (.c (.fn (.func g) fs cs)) az,some (s,want)⟩,false)::l) K σ H=
    (match σ s with| .bool t=>if t=want then PC P g (fs++evs σ az++cs) fun p=>jC P l K (upd σ d p) H else jC P l K (upd σ d ud) H| .dR []=>jC P l K (upd σ d ud) H|_=>False):=rfl
theorem jl: ∀(l:List (aQ×Bool)) (σ:Nat->PV),jC P l K σ H->iZ P (·=H) l K σ H
  |[],σ,h=>h
  |(⟨d,.r k,none⟩,false)::l,σ,h=>by
    refine ad3 ?_;rw [am2]at h;cases hp:rop k σ H with
    |some p=>rw [hp]at h;exact jl l _ h
    |none=>rw [hp]at h;exact h.elim
  |(⟨d,.call (.c (.fn (.func g) fs cs)) az,none⟩,false)::l,σ,h=>by
    refine EY ?_;obtain⟨p,h1,h2⟩:=(SY (K:=K)▸h);exact⟨p,h1,jl l _ h2⟩
  |(⟨d,.r k,some (s,want)⟩,false)::l,σ,h=>by
    refine U3 ?_;rw [ai2]at h;generalize σ s=v at h;cases v with
    |bool t=>
      simp only at h⊢;by_cases hw:t=want
      · rw [if_pos hw]at h⊢;refine ad3 ?_;cases hp:rop k σ H with
        |some p=>rw [hp]at h;exact jl l _ h
        |none=>rw [hp]at h;exact h.elim
      · rw [if_neg hw]at h⊢;exact jl l _ h
    |dR l'=>cases l' with
      |nil=>exact jl l _ h
      |cons=>exact h.elim
    |_=>exact h.elim
  |(⟨d,.call (.c (.fn (.func g) fs cs)) az,some (s,want)⟩,false)::l,σ,h=>by
    refine U3 ?_;rw [Qe]at h;generalize σ s=v at h;cases v with
    |bool t=>
      simp only at h⊢;by_cases hw:t=want
      · rw [if_pos hw]at h⊢;refine EY ?_;obtain⟨p,h1,h2⟩:=h;exact⟨p,h1,jl l _ h2⟩
      · rw [if_neg hw]at h⊢;exact jl l _ h
    |dR l'=>cases l' with
      |nil=>exact jl l _ h
      |cons=>exact h.elim
    |_=>exact h.elim
  |(_,true)::_,_,h=>by simp [jC]at h
  |(⟨_,.d _,_⟩,false)::_,_,h=>by simp [jC]at h
  |(⟨_,.n _,_⟩,false)::_,_,h=>by simp [jC]at h
  |(⟨_,.bad,_⟩,false)::_,_,h=>by simp [jC]at h
  |(⟨_,.call (.t _) _,_⟩,false)::_,_,h=>by simp [jC]at h
  |(⟨_,.call (.c v) az,g⟩,false)::l,σ,h=>by
    cases v with
    |fn f fs cs=>
      cases f with
      |func n=>cases g with
        |none=>
          refine EY ?_;obtain⟨p,h1,h2⟩:=(SY (K:=K)▸h);exact⟨p,h1,jl l _ h2⟩
        |some sw=>
          obtain⟨s,want⟩:=sw;refine U3 ?_;rw [Qe]at h;generalize σ s=v at h;cases v with
          |bool t=>
            simp only at h⊢;by_cases hw:t=want
            · rw [if_pos hw]at h⊢;refine EY ?_;obtain⟨p,h1,h2⟩:=h;exact⟨p,h1,jl l _ h2⟩
            · rw [if_neg hw]at h⊢;exact jl l _ h
          |dR l'=>cases l' with
            |nil=>exact jl l _ h
            |cons=>exact h.elim
          |_=>exact h.elim
      |_=>simp [jC]at h
    |_=>simp [jC]at h
def mM (P:Program) (m:Nat):List (aQ×Bool)->((Nat->PV)->AH->Prop)->(Nat->PV)->AH->Prop
  |[],K,σ,H=>K σ H
  |(⟨d,.r (.load n a x),none⟩,false)::l,K,σ,H=>(match x.ev σ with| .ref id _=>id≠m|_=>True)/\match rop (.load n a x) σ H with
    |some p=>mM P m l K (upd σ d p) H
    |none=>False
  |(⟨d,.r k,none⟩,false)::l,K,σ,H=>match rop k σ H with
    |some p=>mM P m l K (upd σ d p) H
    |none=>False
  |(⟨d,.call (.c (.fn (.func g) fs cs)) az,none⟩,false)::l,K,σ,H=>PC P g (fs++evs σ az++cs) fun p=>mM P m l K (upd σ d p) H
  |(⟨d,.d (.store n x v),none⟩,true)::l,K,σ,H=>(match x.ev σ with| .ref id _=>id=m|_=>False)/\match ni (.store n x v) σ H with
    |some (p,H')=>mM P m l K (upd σ d p) H'
    |none=>False
  |(⟨d,.d (.alloc z),none⟩,true)::l,K,σ,H=>H.next=m/\mM P m l K (upd σ d (.ref H.next 0)) (H.new z)
  |_,_,_,_=>False
theorem am3 {k:RK} (hk: ∀n a x,k≠ .load n a x) (H1 H2:AH):rop k σ H1=rop k σ H2:=by
  cases k<;>first|rfl|exact absurd rfl (hk _ _ _)
theorem rV {m:Nat} (H0:AH): ∀(l:List (aQ×Bool)) (σ:Nat->PV) (H:AH),(∀i,i≠m->H.obj i=H0.obj i)->mM P m l K σ H->iZ P (fun H'=> ∀i,i≠m->H'.obj i=H0.obj i) l K σ H
  |[],σ,H,hC,h=>h
  |(⟨d,.r k,none⟩,false)::l,σ,H,hC,h=>by
    by_cases hk: ∃n a x,k= .load n a x
    · obtain⟨n,a,x,rfl⟩:=hk;obtain⟨h1,h2⟩:=h;cases hp:rop (.load n a x) σ H with
      |none=>rw [hp]at h2;exact h2.elim
      |some p=>
        rw [hp]at h2;refine uN p (fun H' hC'=> ?_) (rV H0 l _ _ hC h2);rw [<-hp];simp only [rop];generalize x.ev σ=v at*;cases v<;>first|rfl|skip
        rename_i id o;simp only at h1;simp only [F4];rw [hC' id h1,hC id h1]
    · have h':match rop k σ H with|some p=>mM P m l K (upd σ d p) H|none=>False:=by
        cases k<;>first|exact h|exact absurd ⟨_,_,_,rfl⟩ hk
      cases hp:rop k σ H with
      |none=>rw [hp]at h';exact h'.elim
      |some p=>
        rw [hp]at h';exact uN p (fun H' _=>by rw [<-hp];exact am3 (fun n a x e=>hk ⟨n,a,x,e⟩) H' H) (rV H0 l _ _ hC h')
  |(⟨d,.call (.c (.fn (.func g) fs cs)) az,none⟩,false)::l,σ,H,hC,h=>by
    obtain⟨p,h1,h2⟩:=h;exact D5 p h1 (rV H0 l _ _ hC h2)
  |(⟨d,.d (.store n x v),none⟩,true)::l,σ,H,hC,h=>by
    obtain⟨h1,h2⟩:=h;cases hp:ni (.store n x v) σ H with
    |none=>rw [hp]at h2;exact h2.elim
    |some q=>
      obtain⟨p,H'⟩:=q;rw [hp]at h2;have hC': ∀i,i≠m->H'.obj i=H0.obj i:=by
        intro i hi;simp only [ni]at hp;generalize x.ev σ=u at*;cases u<;>try exact h1.elim
        rename_i id o;simp only at h1;subst h1;split at hp
        · rename_i id' o' vs e1 e2;cases e1;split at hp
          · split at hp
            · cases hp;show(if i=id then _ else H.obj i)=_
              rw [if_neg hi];exact hC i hi
            · cases hp
          · cases hp
        · cases hp
      exact aaq p H' hp hC' (rV H0 l _ _ hC' h2)
  |(⟨_,.r _,some _⟩,_)::_,_,_,_,h=>by simp [mM]at h
  |(⟨_,.r _,none⟩,true)::_,_,_,_,h=>by simp [mM]at h
  |(⟨_,.n _,_⟩,_)::_,_,_,_,h=>by simp [mM]at h
  |(⟨_,.bad,_⟩,_)::_,_,_,_,h=>by simp [mM]at h
  |(⟨_,.d _,_⟩,false)::_,_,_,_,h=>by simp [mM]at h
  |(⟨_,.d _,some _⟩,true)::_,_,_,_,h=>by simp [mM]at h
  |(⟨d,.d (.alloc z),none⟩,true)::l,σ,H,hC,h=>by
    obtain⟨h1,h2⟩:=h;have hC': ∀i,i≠m->(H.new z).obj i=H0.obj i:=by
      intro i hi;show(if i=H.next then _ else H.obj i)=_
      rw [if_neg (by rw [h1];exact hi)];exact hC i hi
    exact aaq (.ref H.next 0) (H.new z) rfl hC' (rV H0 l _ _ hC' h2)
  |(⟨_,.d (.box _ _),none⟩,true)::_,_,_,_,h=>by simp [mM]at h
  |(⟨_,.d (.app _ _ _ _),none⟩,true)::_,_,_,_,h=>by simp [mM]at h
  |(⟨_,.d (.tV _ _ _ _ _),none⟩,true)::_,_,_,_,h=>by simp [mM]at h
  |(⟨_,.call _ _,some _⟩,_)::_,_,_,_,h=>by simp [mM]at h
  |(⟨_,.call _ _,none⟩,true)::_,_,_,_,h=>by simp [mM]at h
  |(⟨_,.call (.t _) _,none⟩,false)::_,_,_,_,h=>by simp [mM]at h
  |(⟨d,.call (.c v) az,none⟩,false)::l,σ,H,hC,h=>by
    cases v with
    |fn f fs cs=>
      cases f with
      |func n=>
        obtain⟨p,h1,h2⟩:=h;exact D5 p h1 (rV H0 l _ _ hC h2)
      |_=>simp [mM]at h
    |_=>simp [mM]at h
def D6 (P:Program) (pr:List (aQ×Bool)) (post:List aQ) (s:List Fm) (Q:Post) (σ:Nat->PV) (H:AH):Prop:=jC P pr (fun σ' H'=>WO P post s Q σ' H') σ H
def WPR (P:Program) (o:Option PV) (d:Option Nat) (l:List (aQ×Bool)) (post:List aQ) (s:List Fm) (Q:Post) (σ:Nat->PV) (H:AH):Prop:=match o with
  |some p=>D6 P l post s Q (upd σ d p) H
  |none=>False
def WPG (P:Program) (v:PV) (want:Bool) (d:Option Nat) (k:AK) (l:List (aQ×Bool)) (post:List aQ) (s:List Fm) (Q:Post) (σ:Nat->PV) (H:AH):Prop:=match v with
  | .bool b=>if b=want then D6 P ((⟨d,k,none⟩,false)::l) post s Q σ H else D6 P l post s Q (upd σ d ud) H
  | .dR []=>D6 P l post s Q (upd σ d ud) H
  |_=>False
def PCs (P:Program) (g:FuncId) (az:List PV) (d:Option Nat) (l:List (aQ×Bool)) (post:List aQ) (s:List Fm) (Q:Post) (σ:Nat->PV) (H:AH):Prop:=PC P g az fun p=>D6 P l post s Q (upd σ d p) H
def Cz (P:Program) (m:Nat) (pr:List (aQ×Bool)) (post:List aQ) (s:List Fm) (Q:Post) (σ:Nat->PV) (H:AH):Prop:=mM P m pr (fun σ' H'=>WO P post s Q σ' H') σ H
def Yo (P:Program) (m:Nat) (o:Option PV) (d:Option Nat) (l:List (aQ×Bool)) (post:List aQ) (s:List Fm) (Q:Post) (σ:Nat->PV) (H:AH):Prop:=match o with
  |some p=>Cz P m l post s Q (upd σ d p) H
  |none=>False
def WTD (P:Program) (m:Nat) (o:Option (PV×AH)) (d:Option Nat) (l:List (aQ×Bool)) (post:List aQ) (s:List Fm) (Q:Post) (σ:Nat->PV):Prop:=match o with
  |some (p,H)=>Cz P m l post s Q (upd σ d p) H
  |none=>False
def noM (m:Nat):PV->Prop
  | .ref id _=>(id=m)=False
  |_=>True
def isM (m:Nat):PV->Prop
  | .ref id _=>id=m
  |_=>False
def PCt (P:Program) (m:Nat) (g:FuncId) (az:List PV) (d:Option Nat) (l:List (aQ×Bool)) (post:List aQ) (s:List Fm) (Q:Post) (σ:Nat->PV) (H:AH):Prop:=PC P g az fun p=>Cz P m l post s Q (upd σ d p) H
theorem U4 {pr:List (aQ×Bool)} {post:List aQ} (m:Nat) (h:Cz P m pr post s Q σ H):WS P (.par pr post) s Q σ H:=⟨_,fun _ _=>rfl,rV H _ _ _ (fun _ _=>rfl) h⟩
section
variable {m:Nat} {d:Option Nat} {l:List (aQ×Bool)} {post:List aQ}
theorem am4:Cz P m [] post s Q σ H=WO P post s Q σ H:=rfl
theorem ai3 {p:PV}:Yo P m (some p) d l post s Q σ H=Cz P m l post s Q (upd σ d p) H:=rfl
theorem ai4 {p:PV}:WTD P m (some (p,H)) d l post s Q σ=Cz P m l post s Q (upd σ d p) H:=rfl
theorem ai5 {n:Nat} {a:Bool} {x:AE}:Cz P m ((⟨d,.r (.load n a x),none⟩,false)::l) post s Q σ H=(noM m (x.ev σ)/\Yo P m (rop (.load n a x) σ H) d l post s Q σ H):=by
  show(_/\_)=_
  congr 1
  cases x.ev σ<;>simp [noM]
theorem am5 {x:AE}:Cz P m ((⟨d,.r (.aT x),none⟩,false)::l) post s Q σ H=Yo P m (rop (.aT x) σ H) d l post s Q σ H:=rfl
theorem am6 {o:Nat} {x:AE}:Cz P m ((⟨d,.r (.je o x),none⟩,false)::l) post s Q σ H=Yo P m (rop (.je o x) σ H) d l post s Q σ H:=rfl
theorem am7 {x:AE}:Cz P m ((⟨d,.r (.len x),none⟩,false)::l) post s Q σ H=Yo P m (rop (.len x) σ H) d l post s Q σ H:=rfl
theorem ai6 {n z:Nat} {x i:AE}:Cz P m ((⟨d,.r (.sF n z x i),none⟩,false)::l) post s Q σ H=Yo P m (rop (.sF n z x i) σ H) d l post s Q σ H:=rfl
theorem am8 {n:Nat} {x i:AE}:Cz P m ((⟨d,.r (.idx n x i),none⟩,false)::l) post s Q σ H=Yo P m (rop (.idx n x i) σ H) d l post s Q σ H:=rfl
theorem am9 {x:AE} {i:Nat}:Cz P m ((⟨d,.r (.ext x i),none⟩,false)::l) post s Q σ H=Yo P m (rop (.ext x i) σ H) d l post s Q σ H:=rfl
theorem ag1 {z:List PV}:Cz P m ((⟨d,.d (.alloc z),none⟩,true)::l) post s Q σ H=(H.next=m/\Cz P m l post s Q (upd σ d (.ref H.next 0)) (H.new z)):=rfl
theorem ag2 {n:Nat} {x v:AE}:Cz P m ((⟨d,.d (.store n x v),none⟩,true)::l) post s Q σ H=(isM m (x.ev σ)/\WTD P m (ni (.store n x v) σ H) d l post s Q σ):=rfl
theorem ai7 {g:FuncId} {fs cs:List PV} {az:List AE}:Cz P m ((⟨d,.call (.c (.fn (.func g) fs cs)) az,none⟩,false)::l) post s Q σ H=PCt P m g (fs++evs σ az++cs) d l post s Q σ H:=rfl
theorem ana {id o:Nat}:noM m (.ref id o)=((id=m)=False):=rfl
theorem ai8 {cs:List PV} {o:Nat}:noM m (.eP cs o)=True:=rfl
theorem anb {id o:Nat}:isM m (.ref id o)=(id=m):=rfl
end
theorem dI {pr:List (aQ×Bool)} {post:List aQ} (h:D6 P pr post s Q σ H):WS P (.par pr post) s Q σ H:=aoH (jl _ _ h)
section
variable {d:Option Nat} {l:List (aQ×Bool)} {post:List aQ} {want:Bool} {k:AK}
theorem anc:D6 P [] post s Q σ H=WO P post s Q σ H:=rfl
theorem aty {k:RK}:D6 P ((⟨d,.r k,none⟩,false)::l) post s Q σ H=WPR P (rop k σ H) d l post s Q σ H:=rfl
theorem cu {x y:List UInt8} (hb:x.length+y.length<=4611686018427387904) (h:D6 P l post s Q (upd σ d (.str (x++y))) H):WPR P (Ai .add x y) d l post s Q σ H:=by
  rw [Ai,if_pos hb];exact h
theorem ai9 {p:PV}:WPR P (some p) d l post s Q σ H=D6 P l post s Q (upd σ d p) H:=rfl
theorem aja {g:FuncId} {fs cs:List PV} {az:List AE}:D6 P ((⟨d,.call (.c (.fn (.func g) fs cs)) az,none⟩,false)::l) post s Q σ H=PCs P g (fs++evs σ az++cs) d l post s Q σ H:=rfl
theorem aoV {k:RK} {t:Nat}:D6 P ((⟨d,.r k,some (t,want)⟩,false)::l) post s Q σ H=WPG P (σ t) want d (.r k) l post s Q σ H:=rfl
theorem ag3 {g:FuncId} {fs cs:List PV} {az:List AE} {t:Nat}:D6 P ((⟨d,.call (.c (.fn (.func g) fs cs)) az,some (t,want)⟩,false)::l) post s Q σ H=WPG P (σ t) want d (.call (.c (.fn (.func g) fs cs)) az) l post s Q σ H:=rfl
theorem aoW:WPG P (.bool true) true d k l post s Q σ H=D6 P ((⟨d,k,none⟩,false)::l) post s Q σ H:=rfl
theorem aoX:WPG P (.bool false) false d k l post s Q σ H=D6 P ((⟨d,k,none⟩,false)::l) post s Q σ H:=rfl
theorem aoY:WPG P (.bool true) false d k l post s Q σ H=D6 P l post s Q (upd σ d ud) H:=rfl
theorem aoZ:WPG P (.bool false) true d k l post s Q σ H=D6 P l post s Q (upd σ d ud) H:=rfl
end
def eD (H:AH):Ck->Prop
  | .unk=>False
  | .tok t=>H.live t=true/\t<H.next
  |_=>True
def qz (c d:Ck):Prop:= ∀t,c= .tok t->d≠ .tok t
theorem eD.nil:eD H .nil:=trivial
theorem eD.exact:eD H .exact:=trivial
theorem eD.new {c:Ck} {cs:List PV} (h:eD H c):eD (H.new cs) c:=by
  cases c with
  |tok t=>exact⟨h.1,Nat.lt_succ_of_lt h.2⟩
  |unk=>exact h
  |nil=>trivial
  |exact=>trivial
theorem eD.put {c:Ck} {id:Nat} {cs:List PV} (h:eD H c):eD (H.put id cs) c:=by
  cases c with
  |tok t=>exact h
  |unk=>exact h
  |nil=>trivial
  |exact=>trivial
theorem qz.nil {c:Ck}:qz .nil c:=fun _ h=>by cases h
theorem qz.exact {c:Ck}:qz .exact c:=fun _ h=>by cases h
theorem qz.symm {c d:Ck} (h:qz c d):qz d c:=fun t h1 h2=>h t h2 h1
def xw (sz:Nat) (cs:List PV):Prop:=cs.length=sz/\ ∀c∈cs,c.one=true
theorem CK {α:Type} {sz:Nat} {f:α->List PV} (hf: ∀x,xw sz (f x)) (l:List α):qN sz (l.map f):=by
  intro cs h;obtain⟨x,_,rfl⟩:=List.mem_map.1 h;exact hf x
theorem kN {α:Type} {d:Option Nat} {sz b:Nat} {x y:AE} {l:List aQ} {f:α->List PV} (hf: ∀x,xw sz (f x)) (xs ys:List α) (c c2:Ck)
    (hx:x.ev σ= .aB (xs.map f) c) (hy:LX (y.ev σ)= .aB (ys.map f) c2) (hok:eD H c) (hb:(xs.length+ys.length)*b<=1099511627776)
    (h: ∀(c':Ck) (H':AH),eD H' c'->H.next<=H'.next->(∀i,H'.obj i=H.obj i)->(∀c3,eD H c3->qz c c3->eD H' c3/\qz c' c3)->WO P l s Q (upd σ d (.aB ((xs++ys).map f) c')) H'):
    WO P (⟨d,.d (.app sz b x y),none⟩::l) s Q σ H:=by
  show dD P _ _ σ H
  simp only [agV,ni,hx,hy,OV];by_cases h0:ys=[]
  · subst h0;simp only [List.map_nil,List.length_nil,↓reduceIte];have:=h c H hok (Nat.le_refl _) (fun _=>rfl) (fun c3 h1 h2=>⟨h1,h2⟩);show WO P l s Q _ H
    simpa using this
  · have h1: ¬((ys.map f).length=0):=by simpa using h0
    rw [if_neg h1,if_pos ⟨CK hf xs,CK hf ys,by simpa using hb⟩,<-List.map_append];have fresh: ∀H1:AH,H1.next=H.next->(∀i,H1.obj i=H.obj i)->(∀t,c≠ .tok t->H.live t=true->H1.live t=true)->WO P l s Q (upd σ d (.aB ((xs++ys).map f) (.tok H.next))) H1.tok:=by
      intro H1 e1 e2 e3;refine h (.tok H.next) H1.tok ⟨?_,?_⟩ ?_ (fun i=>e2 i) (fun c3 k1 k2=> ?_)
      · show(if H.next=H1.next then true else H1.live H.next)=true
        rw [if_pos e1.symm]
      · show H.next<H1.next+1
        omega
      · show H.next<=H1.next+1
        omega
      · cases c3 with
        |tok t=>
          refine⟨⟨?_,?_⟩,fun t' h1' h2'=> ?_⟩
          · show(if t=H1.next then true else H1.live t)=true
            split
            · rfl
            · exact e3 t (fun e=>k2 t e rfl) k1.1
          · show t<H1.next+1
            have:=k1.2;omega
          · cases h1';cases h2';exact absurd k1.2 (Nat.lt_irrefl _)
        |unk=>exact k1.elim
        |nil=>exact⟨trivial,fun t h1' h2'=>by cases h2'⟩
        |exact=>exact⟨trivial,fun t h1' h2'=>by cases h2'⟩
    cases c with
    |unk=>exact hok.elim
    |nil=>exact fresh H rfl (fun _=>rfl) (fun _ _ h=>h)
    |exact=>exact fresh H rfl (fun _=>rfl) (fun _ _ h=>h)
    |tok t=>
      simp only [hok.1,↓reduceIte];refine fresh (H.use t) rfl (fun _=>rfl) (fun t' hne hl=> ?_);show(if t'=t then false else H.live t')=true
      rw [if_neg (fun e=>hne (by rw [e])),hl]
theorem dU.wk {f:FuncId} {args args':List PV} {k:PV->AH->Prop} (h:dU P f args H k) (hw:Lw args' args):dU P f args' H k:=by
  obtain⟨h1,h2⟩:=hw.get;refine⟨h.enters,fun B G w vs hU hM hv=>h.call B G w vs hU hM ⟨hv.1.trans h1,fun j c x hc hx=> ?_⟩⟩;obtain⟨p,e,hp⟩:=h2 j c hc;exact hp _ _ _ (hv.2 j p x e hx)
theorem Nc {f:FuncId} {args args':List PV} {r:PV} {k:PV->AH->Prop} (h:aC P f args' r) (hz:L6 H args args') (ha:bn args') (hr:Sc r) (hk:k r H):dU P f args H k:=
  (aC.frozen hz.get ha.mem h hr).mono fun _ _ ⟨h1,h2⟩=>by subst h1;subst h2;exact hk
theorem aC.wk {f:FuncId} {args args':List PV} {r:PV} (h:aC P f args r) (hw:Lw args' args):aC P f args' r:=fun H=>(h H).wk hw
end
theorem ag4 (es:List (List PV)) (c:Ck):Ih (.aB es c)=some (.int .i64 es.length):=rfl
theorem ag5 (a b c d e:Nat):Ih (.dQ a b c d e)=some (.int .i64 c):=rfl
theorem ag6 (sz:Nat) (es:List (List PV)) (c:Ck) (k:IntKind) (n:Int):qL sz (.aB es c) (.int k n)=if 0<=n then(match es[n.toNat]? with
    |some cs=>if cs.length=sz then some (.eP cs 0)else none
    |none=>none)else none:=rfl
theorem afu (a b:List UInt8):Ai .eql a b=some (.bool (a==b)):=rfl
theorem afv (a b:List UInt8):Ai .neq a b=some (.bool (!(a==b))):=rfl
theorem ao0 (k:IntKind) (x:Int):wk (.int k x)= .int k x:=rfl
theorem ane (b:Bool):wk (.bool b)= .bool b:=rfl
theorem ao1 (s:List UInt8):wk (.str s)= .str s:=rfl
theorem ao2 (es:List (List PV)) (c:Ck):wk (.aB es c)= .aB es .unk:=rfl
theorem anf (c:Ck):LX (.aB [] c)= .aB [] c:=rfl
theorem ajb (cs:List PV) (es:List (List PV)) (c:Ck):LX (.aB (cs::es) c)= .aB (cs.map wk::es.map fun cs=>cs.map wk) c:=rfl
attribute [go_sem] aoN aiS aoO amU aoP amV amW aiT agZ aoQ aiU aiV aiW aiX afr afs aft amX
attribute [go_sem] aoR ag0 awh amY amZ awi atr att atu atv atw aiY aoS am0 aoT ai0 am1 ai1 atx
attribute [go_sem] am4 ai3 ai4 ai5 am5 am6 am7 ai6 am8 am9 ag1 ag2 ai7 ana ai8 anb
attribute [go_sem] ag4 ag5 ag6 afu afv
attribute [go_sem] aau aav afq adq
attribute [go_sem] anc aty ai9 aja aoV ag3 aoW aoX aoY aoZ
attribute [go_sem] ao0 ane ao1 ao2 anf ajb amT aoK aoL amR amS agX List.map_cons List.map_nil
end Go.VL
end
section
namespace Go.VL
theorem Ar {α:Type} {b:Bool} {x y:α} (h:b=true):cond b x y=x:=by rw [h];rfl
theorem uO {α:Type} {b:Bool} {x y:α} (h:b=false):cond b x y=y:=by rw [h];rfl
theorem Au {α β:Type} {x:Option α} {f:α->Option β} (h:x=none):Option.bind x f=none:=by rw [h];rfl
theorem Av {α β:Type} {x:Option α} {f:α->Option β} {a:α} (h:x=some a):Option.bind x f=f a:=by rw [h];rfl
theorem bZ {α β γ:Type} {f:α->γ} {g:β->γ} {a:α}:Sum.elim f g (.inl a)=f a:=rfl
theorem dn {α β γ:Type} {f:α->γ} {g:β->γ} {a:β}:Sum.elim f g (.inr a)=g a:=rfl
def Fr (L:List Nat) (σ σ':Nat->PV):Prop:= ∀t,t∉L->σ' t=σ t
theorem Fr.refl (L:List Nat) (σ:Nat->PV):Fr L σ σ:=fun _ _=>rfl
theorem Fr.upd {L:List Nat} {σ σ':Nat->PV} {d:Nat} {v:PV} (hd:d∈L) (h:Fr L σ σ'):Fr L σ (upd σ' (some d) v):=fun t ht=>by
  have: ¬t=d:=fun e=>ht (e▸hd);show(if t=d then v else σ' t)=σ t
  rw [if_neg this];exact h t ht
theorem Fr.via {L L':List Nat} {σ σ' zy:Nat->PV} (h':Fr L' σ' zy) (hL: ∀t∈L',t∈L) (h:Fr L σ σ'):Fr L σ zy:=fun t ht=>(h' t fun e=>ht (hL t e)).trans (h t ht)
def Nf {α:Type} (f:α->List PV) (l:List α):List PV:=[.aB (l.map f) .unk]
theorem ang (s:Str):aU s=[.str s]:=rfl
theorem anh (n:Int):bD n=[.int .i64 n]:=rfl
theorem ao3 (n:Int):u8L n=[.int .u8 n]:=rfl
theorem ao4 {α:Type} (f:α->List PV) (l:List α):Nf f l=[.aB (l.map f) .unk]:=rfl
theorem dw (s:Str): ∀c∈aU s,Pu c:=bn.mem (.cons (.str _) .nil)
theorem iO (n:Int): ∀c∈bD n,Pu c:=bn.mem (.cons (.int _ _) .nil)
theorem ag7 {α:Type} {f:α->List PV} (hf: ∀x,∀c∈f x,Pu c) (l:List α): ∀c∈Nf f l,Pu c:=bn.mem (.cons (bC hf l) .nil)
theorem row_of {sz:Nat} {l:List PV} (h:l.length=sz) (h':l.all PV.one=true):xw sz l:=⟨h,fun c hc=>List.all_eq_true.1 h' c hc⟩
theorem uV (s:Str):xw 1 (aU s):=row_of rfl rfl
theorem JN (n:Int):xw 1 (bD n):=row_of rfl rfl
instance:Aq aU 1:=⟨fun _=>rfl,fun _=>rfl⟩
instance:Aq bD 1:=⟨fun _=>rfl,fun _=>rfl⟩
theorem ajc (n k:Nat):(n=n+k)=(k=0):=propext ⟨fun h=>by omega,fun h=>by omega⟩
theorem add_add (n j k:Nat):(n+j=n+k)=(j=k):=propext ⟨fun h=>by omega,fun h=>by omega⟩
theorem Nd.pu (x:Nd): ∀c∈x.cells,Pu c:=bn.mem (.cons (.int _ _) (.cons (.int _ _) (.cons (.str _) (.cons (bC dw _) (.cons (bC iO _) .nil)))))
theorem Nd.row (x:Nd):xw 5 x.cells:=row_of rfl rfl
theorem Nd.zA (x:Nd):x.cells=[.int .i64 x.kind,.int .i64 x.n,.str x.text,.aB (x.names.map aU) .unk,.aB (x.args.map bD) .unk]:=rfl
attribute [go_sem] Int.natCast_nonneg Nat.mul_one Nat.zero_le ajc add_add Nat.add_assoc ang anh ao3 ao4 Nd.zA
attribute [go_sem] Bool.not_true Bool.not_false Bool.true_eq_false Bool.false_eq_true true_implies false_implies and_true true_and implies_true if_true if_false ne_eq not_true_eq_false not_false_eq_true Int.cast_ofNat_Int Int.toNat_natCast beq_self_eq_true decide_true decide_false List.append_assoc
end Go.VL
namespace Go.VL
def HF (M:List Nat) (H H':AH):Prop:=H.next<=H'.next/\ ∀i,i<H.next->i∉M->H'.obj i=H.obj i
section
variable {M M':List Nat} {H H' kg:AH}
theorem HF.refl (M:List Nat) (H:AH):HF M H H:=⟨Nat.le_refl _,fun _ _ _=>rfl⟩
theorem HF.new {cs:List PV} (h:HF M H H'):HF M H (H'.new cs):=⟨Nat.le_succ_of_le h.1,fun i hi hm=>by
  show(if i=H'.next then some cs else H'.obj i)=_
  have:i<H'.next:=Nat.lt_of_lt_of_le hi h.1;rw [if_neg (by omega)];exact h.2 i hi hm⟩
theorem HF.put {id:Nat} {cs:List PV} (hid:id∈M\/H.next<=id) (h:HF M H H'):HF M H (H'.put id cs):=⟨h.1,fun i hi hm=>by
  show(if i=id then some cs else H'.obj i)=_
  have: ¬i=id:=fun e=>by
    subst e;rcases hid with hid|hid
    · exact hm hid
    · omega
  rw [if_neg this];exact h.2 i hi hm⟩
theorem HF.via (h':HF M' H' kg) (hM: ∀i∈M',i∈M\/H.next<=i) (h:HF M H H'):HF M H kg:=⟨Nat.le_trans h.1 h'.1,fun i hi hm=>by
  rw [h'.2 i (Nat.lt_of_lt_of_le hi h.1) (fun e=>by
    rcases hM i e with q|q
    · exact hm q
    · omega)]
  exact h.2 i hi hm⟩
end
theorem ne_next {o n:Nat} (h:o<n):(o=n)=False:=eq_false (by omega)
theorem aR {o n:Nat} (h:o<n) (j:Nat):(o=n+j)=False:=eq_false (by omega)
end Go.VL
end
section
namespace Go.VL
def Ev {α:Type} (f:Nat->Option α) (v:α):Prop:= ∃K,∀k,K<=k->f k=some v
section
variable {α β:Type} {f:Nat->Option α} {v w:α}
theorem Ev.of_eq {o:Option α} (h:o=some v):Ev (fun _=>o) v:=⟨0,fun _ _=>h⟩
theorem Ev.some:Ev (fun _=>Option.some v) v:=⟨0,fun _ _=>rfl⟩
theorem Ev.some' (h:w=v):Ev (fun _=>Option.some w) v:=h▸Ev.some
theorem Ev.succ (h:Ev (fun k=>f (k+1)) v):Ev f v:=by
  obtain⟨K,h⟩:=h;refine⟨K+1,fun k hk=> ?_⟩;obtain⟨k,rfl⟩: ∃j,k=j+1:=⟨k -1,by omega⟩;exact h k (by omega)
theorem Ev.bind {f:Nat->Option β} {g:Nat->β->Option α} {x:β} (hf:Ev f x) (hg:Ev (fun k=>g k x) v):Ev (fun k=>Option.bind (f k) (g k)) v:=by
  obtain⟨K,hK⟩:=hf;obtain⟨L,hL⟩:=hg;refine⟨max K L,fun k hk=> ?_⟩;show Option.bind (f k) (g k)=_
  rw [hK k (by omega)];exact hL k (by omega)
theorem Ev.lV {o:Option β} {g:Nat->β->Option α} {x:β} (hf:o=Option.some x) (hg:Ev (fun k=>g k x) v):Ev (fun k=>Option.bind o (g k)) v:=Ev.bind (Ev.of_eq hf) hg
theorem Ev.aX {p:Prop} [Decidable p] {g:Nat->Option α} (hp:p) (hg:Ev g v):Ev (fun k=>if p then g k else none) v:=by
  obtain⟨K,hK⟩:=hg;exact⟨K,fun k hk=>(if_pos hp).trans (hK k hk)⟩
theorem Ev.cT {b:Bool} {g g':Nat->Option α} (hb:b=true) (hg:Ev g v):Ev (fun k=>cond b (g k) (g' k)) v:=by subst hb;exact hg
theorem Ev.cF {b:Bool} {g g':Nat->Option α} (hb:b=false) (hg:Ev g' v):Ev (fun k=>cond b (g k) (g' k)) v:=by subst hb;exact hg
theorem Ev.to (h:Ev f v) (e:v=w):Ev f w:=e▸h
theorem Ev.cg {f g:Nat->Option α} (h:Ev f v) (e: ∀k,g k=f k):Ev g v:=by
  obtain⟨K,hK⟩:=h;exact⟨K,fun k hk=>(e k).trans (hK k hk)⟩
theorem Ev.uniq (h:Ev f v) (h':Ev f w):v=w:=by
  obtain⟨K,hK⟩:=h;obtain⟨L,hL⟩:=h';have a:=hK (max K L) (by omega);have b:=hL (max K L) (by omega);rw [a]at b;exact Option.some.inj b
theorem Ev.get (h:Ev f v): ∃k,f k=Option.some v:=by
  obtain⟨K,hK⟩:=h;exact⟨K,hK K (Nat.le_refl _)⟩
end
theorem wrap64 {x:Int} (h1: -9223372036854775808<=x) (h2:x<=9223372036854775807):IntKind.wrap .i64 x=x:=by rw [IntKind.wrap_i64];omega
theorem bE {α:Type} {l:List α} {i:Nat} (h:i<l.length):l[i]? =some l[i]:=List.getElem?_eq_getElem h
end Go.VL
end
section
namespace Go.VL
def Aw:List Int:=[0,0,0,0,0,0,0,0,0,1,1,1,1,1,0,0,0,0,0,0,0,0,0,0,0,0,0,0,0,0,0,0,1,0,0,0,0,0,0,0,0,0,0,0,0,0,0,0,0,0,0,0,0,0,0,0,0,0,0,0,0,0,0,0,0,0,0,0,0,0,0,0,0,0,0,0,0,0,0,0,0,0,0,0,0,0,0,0,0,0,0,0,0,0,0,0,0,0,0,0,0,0,0,0,0,0,0,0,0,0,0,0,0,0,0,0,0,0,0,0,0,0,0,0,0,0,0,0,0,0,0,0,0,0,0,0,0,0,0,0,0,0,0,0,0,0,0,0,0,0,0,0,0,0,0,0,0,0,0,0,0,0,0,0,0,0,0,0,0,0,0,0,0,0,0,0,0,0,0,0,0,0,0,0,0,0,0,0,0,0,0,0,0,0,0,0,0,0,0,0,0,0,0,0,0,0,0,0,0,0,0,0,0,0,0,0,0,0,0,0,0,0,0,0,0,0,0,0,0,0,0,0,0,0,0,0,0,0,0,0,0,0,0,0,0,0,0,0,0,0,0,0,0,0,0,0]
def QZ:List Int:=[1,10,100,1000,10000,100000,1000000,10000000,100000000,1000000000,10000000000,100000000000,1000000000000,10000000000000,100000000000000,1000000000000000,10000000000000000,100000000000000000,1000000000000000000,10000000000000000000]
def U5:List Int:=[0,1,28,2,29,14,24,3,30,22,20,15,25,17,4,8,31,27,13,23,21,19,16,7,26,12,18,6,11,5,10,9]
def U6:List Int:=[0,1,56,2,57,49,28,3,61,58,42,50,38,29,17,4,62,47,59,36,45,43,51,22,53,39,33,30,24,18,12,5,63,55,48,27,60,41,37,16,46,35,44,21,52,32,23,11,54,26,40,15,34,20,31,10,25,14,19,9,13,8,7,6]
def tabs:CJ:=[(0,.u8,Aw),(3,.u64,QZ),(4,.u8,U5),(5,.u8,U6)]
@[reducible] instance ani:Glob:=Glob.aoI tabs
end Go.VL
end
section
namespace Go.VL
abbrev oM (d s:Nat):aQ:=⟨some d,.r (.aT (.t s)),none⟩
abbrev sO (l:List aQ) (b:AC):AC:= .seq (.ops l) b
abbrev zO:List PV:=[(.str []),(.int .i64 0),(.int .i64 0),(.int .i64 0),(.bool false),(.int .i64 0),(.int .i64 0)]
abbrev zN:List PV:=[(.int .i64 0),(.int .i64 0),(.str []),(.aB [] .nil),(.aB [] .nil)]
theorem awj:zO=[(.str []),(.int .i64 0),(.int .i64 0),(.int .i64 0),(.bool false),(.int .i64 0),(.int .i64 0)]:=rfl
theorem awk:zN=[(.int .i64 0),(.int .i64 0),(.str []),(.aB [] .nil),(.aB [] .nil)]:=rfl
attribute [go_sem] awj awk
abbrev bL (d s g:Nat) (w:Bool):aQ:=⟨some d,.r (.aT (.t s)),some (g,w)⟩
abbrev oI (d:Nat) (n:Int):aQ:=⟨some d,.r (.aT (.c (.int .i64 n))),none⟩
abbrev oL (d n s:Nat):aQ:=⟨some d,.r (.load n false (.t s)),none⟩
abbrev dF (d n s g:Nat) (w:Bool):aQ:=⟨some d,.r (.load n false (.t s)),some (g,w)⟩
abbrev oA (d n s:Nat):aQ:=⟨some d,.r (.load n true (.t s)),none⟩
abbrev oF (d n s:Nat):aQ:=⟨some d,.r (.je n (.t s)),none⟩
abbrev dV (d n s g:Nat) (w:Bool):aQ:=⟨some d,.r (.je n (.t s)),some (g,w)⟩
abbrev oX (d n s i:Nat):aQ:=⟨some d,.r (.idx n (.t s) (.t i)),none⟩
abbrev oN (d s:Nat):aQ:=⟨some d,.r (.len (.t s)),none⟩
abbrev oE (d s i:Nat):aQ:=⟨some d,.r (.ext (.t s) i),none⟩
abbrev oB (d:Nat) (o:BinOp) (x y:AE):aQ:=⟨some d,.r (.bin o .no x y),none⟩
abbrev dW (d:Nat) (o:BinOp) (x y:AE) (g:Nat) (w:Bool):aQ:=⟨some d,.r (.bin o .no x y),some (g,w)⟩
abbrev oR (d:Nat) (k:RK):aQ:=⟨some d,.r k,none⟩
abbrev cB (d:Nat) (k:RK) (g:Nat) (w:Bool):aQ:=⟨some d,.r k,some (g,w)⟩
abbrev oC (d f:Nat) (l:List AE):aQ:=⟨some d,.call (.c (.fn (.func f) [] [])) l,none⟩
abbrev jR (d f:Nat) (l:List AE) (g:Nat) (w:Bool):aQ:=⟨some d,.call (.c (.fn (.func f) [] [])) l,some (g,w)⟩
abbrev oS (n x v:Nat):aQ:=⟨none,.d (.store n (.t x) (.t v)),none⟩
attribute [go_sem] Nat.reduceEqDiff Nat.reduceLeDiff Nat.reduceAdd Nat.reduceMul Nat.reduceSub Int.reduceLT Int.reduceLE Int.reduceToNat Int.reduceNeg Int.reduceEq reduceCtorEq
attribute [go_sem↓] reduceIte
end Go.VL
end
