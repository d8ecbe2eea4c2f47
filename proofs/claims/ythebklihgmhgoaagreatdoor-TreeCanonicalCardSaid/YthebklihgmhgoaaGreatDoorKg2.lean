/- Part 2. -/
import Derived.Test.YthebklihgmhgoaaGreatDoorKg1
import Derived.Below
import Derived.ChangeArms
import Derived.RowKit
import Derived.Shelf.Spec.SlicesGrow
import Derived.Shelf.Strings.Builder1
import Derived.Shelf.Strings.Builder2
import Derived.Shelf.Strings.OnBuilder
import Derived.Shelf.Small.Bits
import Derived.Shelf.Strings.Builder2Cap
import Derived.Shelf.Strconv.Itoa0
import Derived.Shelf.Strconv.Itoa1
import Derived.Shelf.LaysM
import Derived.Shelf.Strconv.Itoa2
import Derived.Shelf.Strconv.Itoa3
import Derived.Shelf.Strings.Search1
import Derived.Shelf.Strings.Search2
import Derived.Shelf.Strings.Cut
import Derived.Shelf.Strings.Shaped
import Derived.Shelf.Sort.Plain
import Derived.Shelf.GgClosure.StringsIndexFunc
import Derived.Ground.GgwProg
import Derived.Shelf.GgClosure.StringsIndexFuncTop
import Derived.Shelf.Strings.Prefix
import Derived.Shelf.Strings.Fields
import Derived.Shelf.Unicode.Latin
import Derived.Shelf.Bits.Mul64
import Derived.Shelf.Unicode.Is16White
import Derived.Shelf.Unicode.IsSpaceAny
import Derived.Shelf.Unicode.Is16WhiteD
import Derived.Shelf.Unicode.IsSpaceAnyD
import Derived.Shelf.Strings.FieldsAny
import Derived.Shelf.Strings.FieldsFuncAny
import Derived.Shelf.Unicode.Is16Any
import Derived.Shelf.Unicode.Is32Any
import Derived.Shelf.Unicode.ExclAny
import Derived.Shelf.Strings.FuncGrows
import Derived.Shelf.Slices.Equal
import Derived.Ground.Names2Prog
import Derived.Shelf.Slices.Clone
import Derived.Shelf.Slices.CompactS
import Derived.Shelf.Slices.Cells
import Derived.Shelf.Slices.In.SortNone
import Derived.Shelf.Slices.Empties2
import Derived.Test.YthebklihgmhgoaaGreatDoorProg
import Derived.KernelRfl
set_option linter.unusedVariables false
set_option linter.unusedSectionVars false
set_option linter.unusedSimpArgs false
section
namespace Go.VL
variable [Glob]
def bM (listed:Array Bool) (i:Nat):Prop:=listed.getD i false=true
section
variable {P:Program} {rm:Bool} {B:Nat->Prop} {k0 N mm:Nat} {ro:Option Nat} {ops:Array Oper}
theorem vB {listed:Array Bool} (hs:listed.size=ops.size) {j:Nat}:j∈Region.ready .any ops listed↔ ¬bM listed j/\ ∃o,ops[j]? =some o/\ ∀e∈mU o,bM listed e:=by
  rw [mem_ready];have hd: ∀o:Oper,(∀e∈o.after,Region.binds .any e=true->listed.getD e.on false=true)↔ ∀e∈mU o,bM listed e:=by
    intro o;constructor
    · intro h e he;simp only [mU,List.mem_map,List.mem_filter]at he;obtain⟨x,⟨hx,hb⟩,rfl⟩:=he;exact h x (by simpa using hx) hb
    · intro h e he hb;exact h e.on (by simp only [mU,List.mem_map,List.mem_filter];exact⟨e,⟨by simpa using he,hb⟩,rfl⟩)
  constructor
  · rintro⟨h0,o,ho,hall⟩;have hlt:j<listed.size:=by rw [hs];exact(Array.getElem?_eq_some_iff.1 ho).1
    refine⟨?_,o,ho,(hd o).1 hall⟩;simp [bM,Array.getElem?_eq_getElem hlt]at h0⊢;exact h0
  · rintro⟨h0,o,ho,hall⟩;have hlt:j<listed.size:=by rw [hs];exact(Array.getElem?_eq_some_iff.1 ho).1
    refine⟨?_,o,ho,(hd o).2 hall⟩;simp [bM,Array.getElem?_eq_getElem hlt]at h0⊢;exact h0
theorem qj {listed:Array Bool} {i j:Nat} (hi:i<listed.size):bM (listed.setIfInBounds i true) j↔j=i\/bM listed j:=by
  by_cases h:j=i
  · subst h;simp [bM,hi]
  · have:(listed.setIfInBounds i true).getD j false=listed.getD j false:=getD_set_ne false (Ne.symm h);simp only [bM,this,h,false_or]
theorem pF: ∀{l:List Oper} {az:List aS},mh P rm N ops l=some az->az.length=l.length/\ ∀(i:Nat) (o:Oper),l[i]? =some o-> ∃ao,az[i]? =some ao/\rJ P rm N ops o=some ao
  |[],az,h=>by simp [mh]at h;subst h;simp
  |o::l,az,h=>by
    unfold mh at h;split at h
    · rename_i ao r ho hr;cases h;obtain⟨h1,h2⟩:=pF hr;refine⟨by simp [h1],fun i o' e=> ?_⟩;cases i with
      |zero=>simp at e;subst e;exact⟨ao,rfl,ho⟩
      |succ i=>simp at e;simpa using h2 i o' e
    · cases h
theorem ql {o:Oper} {ao:aS} (h:rJ P rm N ops o=some ao):Jd N o.dst=true/\ao.dst=o.dst/\ao.k=FY P rm o/\
    ((o.guard=none/\ao.g=none)\/ ∃j want s,o.guard=some (j,want)/\(ops[j]?).bind (·.dst)=some s/\ao.g=some (s,want)):=by
  unfold rJ at h;split at h
  · rename_i hd;split at h
    · rename_i hg;cases h;exact⟨hd,rfl,rfl,.inl ⟨hg,rfl⟩⟩
    · rename_i j want hg;split at h
      · rename_i s hs;cases h;exact⟨hd,rfl,rfl,.inr ⟨j,want,s,hg,hs,rfl⟩⟩
      · cases h
  · cases h
theorem Je {o:Oper} {ao:aS} {σ:Nat->PV} {a:Act} {G:Gh} {n:Nat} (h:rJ P rm N ops o=some ao) (hs:Sl G n σ a) (hg:qp ao σ):Region.wanted o (yielded ops a.tmps)=true:=by
  obtain⟨_,_,_,h4⟩:=ql h;rcases h4 with⟨h4,_⟩|⟨j,want,s,h4,h5,h6⟩
  · exact GV h4
  · simp only [qp,h6]at hg;rw [BU h4 h5 hs hg];simp
theorem Nu {o:Oper} {ao:aS} {σ:Nat->PV} {a:Act} {G:Gh} {n:Nat} (h:rJ P rm N ops o=some ao) (hs:Sl G n σ a) (hg:uN ao σ):Region.wanted o (yielded ops a.tmps)=false:=by
  obtain⟨_,_,_,h4⟩:=ql h;rcases h4 with⟨_,h4⟩|⟨j,want,s,h4,h5,h6⟩
  · simp [uN,h4]at hg
  · simp only [uN,h6]at hg;rcases hg with hg|hg
    · rw [BU h4 h5 hs hg];cases want<;>rfl
    · exact KI h4 h5 hs hg
variable {w0:World} {G0:Gh} {n0:Nat} {K:(Nat->PV)->AH->Prop} {Q:Exit->Act->World->Prop}
theorem aco {listed:Array Bool} {i:Nat} (hi:i<listed.size) (h: ¬bM listed i):(listed.setIfInBounds i true).toList.countP (fun b=> !b)+1=listed.toList.countP (fun b=> !b):=by
  have hf:listed[i]=false:=by simpa [bM,Array.getElem?_eq_getElem hi]using h
  have e:(listed.setIfInBounds i true).toList=listed.toList.set i true:=by simp
  rw [e,List.countP_set (by simpa using hi)];have hpos:0<listed.toList.countP (fun b=> !b):=List.countP_pos_iff.2 ⟨listed[i],by simp,by simp [hf]⟩;have e2:listed.toList[i]'(by simpa using hi)=false:=by simp [hf]
  rw [e2];simp only [Bool.not_false,if_true,Bool.not_true,Bool.false_eq_true,if_false];omega
theorem acp {az:List aS} {n:Nat} (hQ: ∀σ H G a w,K σ H->Rl B k0 N σ H G a w->Since B w0 G0 n0 H G w->Q .normal a w) (hc:mh P rm N ops ops.toList=some az)
    (F4: ∀(j:Nat) (o:Oper),ops[j]? =some o-> ∀e∈mU o,e<j) (hpost: ∀(i j:Nat),i<j->j<ops.size->n<=j->fG (masks ops.toList []) i j=true):
    ∀(fuel:Nat) (listed:Array Bool) (m:Nat) (σ:Nat->PV) (H:AH) (G:Gh) (a:Act) (w:World),n<=m->m<=ops.size->listed.size=ops.size->(∀i,i<ops.size->(bM listed i↔i<m))->ops.size -m<=fuel->
      dz P (az.drop m) K σ H->Rl B k0 N σ H G a w->Since B w0 G0 n0 H G w->wpAnyIn (Wd ro) mm P .any ops Q fuel listed a w:=by
  obtain⟨hlen,hget⟩:=pF hc;intro fuel
  induction fuel with
  |zero=>
    intro listed m σ H G a w hnm hm hs hE hf hW hR hS;have hmN:m=ops.size:=by omega
    subst hmN;have hd:az.drop ops.size=[]:=List.drop_eq_nil_of_le (by rw [hlen];simp);rw [hd]at hW;refine⟨?_,hQ σ H G a w hW hR hS⟩;rw [List.eq_nil_iff_forall_not_mem];intro j hj;obtain⟨h1,o,ho,_⟩:=(vB hs).1 hj;have hlt:=(Array.getElem?_eq_some_iff.1 ho).1;exact h1 ((hE j hlt).2 hlt)
  |succ fuel ih=>
    intro listed m σ H G a w hnm hm hs hE hf hW hR hS;refine⟨fun hr=> ?_,fun j hj=> ?_⟩
    · rcases Nat.lt_or_ge m ops.size with hlt|hge
      · have:m∈Region.ready .any ops listed:=(vB hs).2 ⟨fun h=>by have:=(hE m hlt).1 h;omega,ops[m],by simp,fun e he=>by
          have:=F4 m ops[m] (by simp) e he;exact(hE e (by omega)).2 this⟩
        rw [hr]at this;cases this
      · have hmN:m=ops.size:=by omega
        subst hmN;have hd:az.drop ops.size=[]:=List.drop_eq_nil_of_le (by rw [hlen];simp);rw [hd]at hW;exact hQ σ H G a w hW hR hS
    · obtain⟨h1,o,ho,h3⟩:=(vB hs).1 hj;have hlt:=(Array.getElem?_eq_some_iff.1 ho).1;have hmj:m<=j:=by
        rcases Nat.lt_or_ge j m with h|h
        · exact absurd ((hE j hlt).2 h) h1
        · exact h
      have hjm:j=m:=by
        rcases Nat.lt_or_ge m j with h|h
        ·
          have hb:=hpost m j h hlt (by omega)
          let E:Nat->Prop:=fun i=>bM listed i\/i=j
          have hcl:Closed ops.toList E:=by
            intro j' o' e hE' x hx;have e':ops[j']? =some o':=by simpa using e
            have hlt':=(Array.getElem?_eq_some_iff.1 e').1;rcases hE' with hE'|rfl
            · have:=F4 j' o' e' x hx;exact .inl ((hE x (by omega)).2 (by have:=(hE j' hlt').1 hE';omega))
            · rw [ho]at e';cases e';exact .inl (h3 x hx)
          have:=qU hcl hb (.inr rfl);rcases this with h'|h'
          · have:=(hE m (by omega)).1 h';omega
          · omega
        · omega
      subst hjm;obtain⟨ao,hao,hcomp⟩:=hget j o (by simpa using ho);obtain⟨c1,c2,c3,c4⟩:=ql hcomp;have hdrop:az.drop j=ao::az.drop (j+1):=by
        have hjl:j<az.length:=by rw [hlen];simpa using hlt
        rw [List.drop_eq_getElem_cons hjl];congr 1
        rw [List.getElem?_eq_getElem hjl]at hao;exact Option.some.inj hao
      rw [hdrop]at hW;have hE': ∀i,i<ops.size->(bM (listed.setIfInBounds j true) i↔i<j+1):=fun i hi=>by
        rw [qj (by omega),hE i hi];omega
      have next: ∀σ' H' G' a' w',dz P (az.drop (j+1)) K σ' H'->Rl B k0 N σ' H' G' a' w'->Since B w0 G0 n0 H' G' w'->wpAnyIn (Wd ro) mm P .any ops Q fuel (listed.setIfInBounds j true) a' w':=
        fun σ' H' G' a' w' h1 h2 h3=>ih _ (j+1) σ' H' G' a' w' (by omega) (by omega) (by simpa using hs) hE' (by omega) h1 h2 h3
      unfold wpOpIn;rw [ho];simp only [dz]at hW;rcases c4 with⟨g1,g2⟩|⟨j',want,s,g1,g2,g3⟩
      · rw [g2]at hW;simp only at hW;simp only [GV g1,if_true];rw [c3]at hW;exact(vw hW hR fun p H' G' x w' hK h1 h2 h3 h4 h5=>next _ _ _ _ _ hK (by rw [c2];exact hR.step h1 h2 h3 h4 c1 h5) (hS.step h1 h2 h3))
      · rw [g3]at hW;simp only at hW;split at hW
        · rename_i b hb;simp only [BU g1 g2 hR.sl hb];by_cases hbw:b=want
          · rw [if_pos hbw]at hW;rw [if_pos (by simp [hbw])];rw [c3]at hW;exact(vw hW hR fun p H' G' x w' hK h1 h2 h3 h4 h5=>next _ _ _ _ _ hK (by rw [c2];exact hR.step h1 h2 h3 h4 c1 h5) (hS.step h1 h2 h3))
          · rw [if_neg hbw]at hW;rw [if_neg (by simpa using hbw)];rw [c2]at hW;refine⟨fun _ _=>trivial,?_⟩;exact next _ _ _ _ _ hW (hR.step (Tr.refl B w) (Ext.refl B _ G) (Nat.le_refl _) hR.hm c1 V.ud) hS
        · rename_i hb;simp only [KI g1 g2 hR.sl hb];rw [if_neg (by simp)];rw [c2]at hW;refine⟨fun _ _=>trivial,?_⟩;exact next _ _ _ _ _ hW (hR.step (Tr.refl B w) (Ext.refl B _ G) (Nat.le_refl _) hR.hm c1 V.ud) hS
        · cases hW
theorem alv {pr:List (aS×Bool)} {post:List aS} {C:AH->Prop} {aC:Nat->PV} {val:Nat->PV} {hp:Nat->AH}
    (hQ: ∀σ H G a w,K σ H->Rl B k0 N σ H G a w->Since B w0 G0 n0 H G w->Q .normal a w) (hc:mh P rm N ops ops.toList=some (pr.map (·.1)++post)) (hok:ajA ops.toList pr)
    (hW:dz P post K (dU pr val aC pr.length) (hp pr.length)) (hC: ∀i,i<=pr.length->C (hp i))
    (htr: ∀(i:Nat) (o:aS) (d:Bool),pr[i]? =some (o,d)->
      (uN o (dU pr val aC i)/\val i=ud/\hp (i+1)=hp i)\/
      (qp o (dU pr val aC i)/\d=true/\iR P o.k (fun r iw=>r=val i/\iw=hp (i+1)) (dU pr val aC i) (hp i))\/
      (qp o (dU pr val aC i)/\d=false/\hp (i+1)=hp i/\ ∀H',C H'->iR P o.k (fun r iw=>r=val i/\iw=H') (dU pr val aC i) H')):
    ∀(fuel:Nat) (listed:Array Bool) (k:Nat) (G:Gh) (a:Act) (w:World),k<=pr.length->listed.size=ops.size->listed.toList.countP (fun b=> !b)<=fuel->(∀i,bM listed i->i<pr.length)->Closed ops.toList (bM listed)->
      (∀(i:Nat) (o:aS),pr[i]? =some (o,true)->(bM listed i↔i<k))->Rl B k0 N (lG pr val (bM listed) aC) (hp k) G a w->Since B w0 G0 n0 (hp k) G w->wpAnyIn (Wd ro) mm P .any ops Q fuel listed a w:=by
  obtain⟨hlen,hget⟩:=pF hc;have hlenS:pr.length+post.length=ops.size:=by simpa using hlen
  have F4: ∀(j:Nat) (o:Oper),ops[j]? =some o-> ∀e∈mU o,e<j:=fun j o e=>hok.deps j o (by simpa using e);have hpost: ∀(i j:Nat),i<j->j<ops.size->pr.length<=j->fG (masks ops.toList []) i j=true:=fun i j h1 h2 h3=>hok.post i j h1 (by simpa using h2) h3;have aff: ∀(k j:Nat),k<=j->j<=pr.length->(∀(i:Nat) (o:aS),pr[i]? =some (o,true)->k<=i->i<j->False)->hp j=hp k:=by
    intro k j hkj
    induction j with
    |zero=>
      intro _ _;have:k=0:=by omega
      subst this;rfl
    |succ j ih=>
      intro hj hno;rcases Nat.lt_or_ge j k with h|h
      · have:k=j+1:=by omega
        subst this;rfl
      · have e1:=ih h (by omega) (fun i o e h1 h2=>hno i o e h1 (by omega));obtain⟨o,d⟩:=pr[j]'(by omega)|>fun x=>(x:aS×Bool)
        have hx:pr[j]? =some (pr[j]'(by omega)):=by simp
        rcases htr j (pr[j]'(by omega)).1 (pr[j]'(by omega)).2 hx with⟨_,_,h3⟩|⟨_,h3,_⟩|⟨_,_,h3,_⟩
        · rw [h3,e1]
        · exact(hno j (pr[j]'(by omega)).1 (by rw [hx,<-h3]) h (by omega)).elim
        · rw [h3,e1]
  have finish: ∀(fuel:Nat) (listed:Array Bool) (k:Nat) (G:Gh) (a:Act) (w:World),k<=pr.length->listed.size=ops.size->ops.size -pr.length<=fuel->(∀i,bM listed i->i<pr.length)->(∀i,i<pr.length->bM listed i)->
      (∀(i:Nat) (o:aS),pr[i]? =some (o,true)->(bM listed i↔i<k))->Rl B k0 N (lG pr val (bM listed) aC) (hp k) G a w->Since B w0 G0 n0 (hp k) G w->wpAnyIn (Wd ro) mm P .any ops Q fuel listed a w:=by
    intro fuel listed k G a w hk hs hf h1 h2 hD hR hS;have hE:lG pr val (bM listed) aC=dU pr val aC pr.length:=funext fun t=>uE pr val _ aC _ t fun i o e _=>by
      have hi:i<pr.length:=by
        rcases Nat.lt_or_ge i pr.length with h'|h'
        · exact h'
        · rw [List.getElem?_eq_none h']at e;cases e
      exact⟨fun _=>hi,fun _=>h2 i hi⟩
    have hH:hp pr.length=hp k:=aff k pr.length hk (Nat.le_refl _) fun i o e hki hi=>by
      have:=(hD i o e).1 (h2 i hi);omega
    rw [hE,<-hH]at hR;rw [<-hH]at hS
    have hd:(pr.map (·.1)++post).drop pr.length=post:=by
      have:pr.length=(pr.map (·.1)).length:=by simp
      rw [this,List.drop_left]
    exact acp hQ hc F4 hpost fuel listed pr.length _ _ _ _ _ (Nat.le_refl _) (by omega) hs (fun i hi=>⟨fun h=>h1 i h,fun h=>h2 i h⟩) hf (by rw [hd];exact hW) hR hS
  intro fuel
  induction fuel with
  |zero=>
    intro listed k G a w hk hs hcnt h1 hcl hD hR hS;have hall: ∀i,i<ops.size->bM listed i:=by
      intro i hi;have h0:listed.toList.countP (fun b=> !b)=0:=by omega
      rw [List.countP_eq_zero]at h0;have:=h0 (listed[i]'(by omega)) (by simp);simpa [bM,Array.getElem?_eq_getElem (show i<listed.size by omega)]using this
    have hsz:ops.size<=pr.length:=by
      rcases Nat.lt_or_ge pr.length ops.size with h|h
      · have:=h1 pr.length (hall _ h);omega
      · exact h
    exact finish 0 listed k G a w hk hs (by omega) h1 (fun i hi=>hall i (by omega)) hD hR hS
  |succ fuel ih=>
    intro listed k G a w hk hs hcnt h1 hcl hD hR hS;by_cases hdone: ∀i,i<pr.length->bM listed i
    · refine finish (fuel+1) listed k G a w hk hs ?_ h1 hdone hD hR hS;have hcount:post.length<=listed.toList.countP (fun b=> !b):=by
        have hsplit:listed.toList=listed.toList.take pr.length++listed.toList.drop pr.length:=(List.take_append_drop _ _).symm;rw [hsplit,List.countP_append];have:(listed.toList.drop pr.length).countP (fun b=> !b)=(listed.toList.drop pr.length).length:=by
          rw [List.countP_eq_length];intro b hb;obtain⟨i,hi⟩:=List.getElem?_of_mem hb;rw [List.getElem?_drop]at hi;have hnl: ¬bM listed (pr.length+i):=fun h=>by have:=h1 _ h;omega
          rw [Array.getElem?_toList]at hi;simp [bM,hi]at hnl;simp [hnl]
        rw [this];simp;omega
      omega
    · obtain⟨i0,hi0,Yy⟩: ∃i,i<pr.length/\ ¬bM listed i:=by
        apply Classical.byContradiction
        intro hno;exact hdone fun i hi=>Classical.byContradiction fun h=>hno ⟨i,hi,h⟩
      refine⟨fun hr=> ?_,fun j hj=> ?_⟩
      ·
        have Yz: ∃i,i<pr.length/\ ¬bM listed i/\ ∀i',i'<i->bM listed i':=by
          have: ∀n,(∀i',i'<n->bM listed i')\/ ∃i,i<n/\ ¬bM listed i/\ ∀i',i'<i->bM listed i':=by
            intro n
            induction n with
            |zero=>exact .inl (fun i' h=>by omega)
            |succ n ihn=>
              rcases ihn with h|⟨i,h⟩
              · by_cases hn:bM listed n
                · exact .inl fun i' hi'=>by
                    rcases Nat.lt_or_ge i' n with h'|h'
                    · exact h i' h'
                    · have:i'=n:=by omega
                      exact this▸hn
                · exact .inr ⟨n,by omega,hn,h⟩
              · exact .inr ⟨i,by omega,h.2⟩
          rcases this pr.length with h|⟨i,h⟩
          · exact absurd h hdone
          · exact⟨i,h⟩
        obtain⟨i,hi,hni,hlt⟩:=Yz;have hio:i<ops.size:=by omega
        have:i∈Region.ready .any ops listed:=(vB hs).2 ⟨hni,ops[i],by simp,fun e he=>hlt e (F4 i _ (by simp) e he)⟩;rw [hr]at this;cases this
      · obtain⟨JQ,o,ho,hdj⟩:=(vB hs).1 hj;have hjo:=(Array.getElem?_eq_some_iff.1 ho).1
        let E:Nat->Prop:=fun i=>bM listed i\/i=j
        have YA:Closed ops.toList E:=by
          intro j' o' e hE' x hx;rcases hE' with hE'|rfl
          · exact .inl (hcl j' o' e hE' x hx)
          · have e':ops[j']? =some o':=by simpa using e
            rw [ho]at e';cases e';exact .inl (hdj x hx)
        have hbef: ∀i,i≠j->fG (masks ops.toList []) i j=true->bM listed i:=fun i hij hb=>by
          rcases qU YA hb (.inr rfl)with h|h
          · exact h
          · exact absurd h hij
        have X6: ∀i,fG (masks ops.toList []) j i=true-> ¬bM listed i:=fun i hb h=>JQ (qU hcl hb h);have hjn:j<pr.length:=by
          rcases Nat.lt_or_ge j pr.length with h|h
          · exact h
          · exact absurd (hbef i0 (by omega) (hpost i0 j (by omega) hjo h)) Yy
        obtain⟨⟨ao,d⟩,mV⟩: ∃x,pr[j]? =some x:=⟨_,List.getElem?_eq_getElem hjn⟩;obtain⟨oz,hao,hcomp⟩:=hget j o (by simpa using ho);have:oz=ao:=by
          rw [List.getElem?_append_left (by simpa using hjn),List.getElem?_map,mV]at hao;exact(Option.some.inj hao).symm
        subst this;obtain⟨c1,c2,c3,c4⟩:=ql hcomp;have hlt: ∀(i:Nat) (x:aS×Bool),pr[i]? =some x->i<pr.length:=fun i x e=>by
          rcases Nat.lt_or_ge i pr.length with h'|h'
          · exact h'
          · rw [List.getElem?_eq_none h']at e;cases e
        have hcut: ∀t,(t∈oz.slots\/oz.dst=some t)-> ∀(i:Nat) (x:aS×Bool),pr[i]? =some x->x.1.dst=some t->(bM listed i↔i<j):=by
          intro t ht i x e hx;rcases Nat.lt_trichotomy i j with h|h|h
          · refine⟨fun _=>h,fun _=>hbef i (by omega) (hok.clash i j x (oz,d) h e mV ?_)⟩;unfold clash;rcases ht with ht|ht
            · simp [MG,hx,ht]
            · simp [Qh,hx,ht]
          · subst h;exact⟨fun h=>absurd h JQ,fun h=>by omega⟩
          · refine⟨fun h'=>absurd h' (X6 i (hok.clash j i (oz,d) x h mV e ?_)),fun h'=>by omega⟩;unfold clash;rcases ht with ht|ht
            · simp [MG,hx,ht]
            · simp [Qh,hx,ht]
        have vC: ∀t∈oz.slots,dU pr val aC j t=lG pr val (bM listed) aC t:=fun t ht=>(uE pr val _ aC j t (hcut t (.inl ht))).symm;have hnext:lG pr val (bM (listed.setIfInBounds j true)) aC=upd (lG pr val (bM listed) aC) oz.dst (val j):=by
          funext t
          by_cases hd:oz.dst=some t
          · rw [hd,Qf];rw [uE pr val _ aC (j+1) t (fun i x e hx=>by
              rw [qj (by omega),hcut t (.inr hd) i x e hx];omega),Ov pr val aC j (oz,d) mV,hd,Qf]
          · rw [upd_ne hd];refine KM pr val _ _ aC aC t rfl fun i x e hx=> ?_;rw [qj (by omega)];constructor
            · rintro(rfl|h)
              · rw [mV]at e;cases e;exact absurd hx hd
              · exact h
            · exact .inr
        have hcl':Closed ops.toList (bM (listed.setIfInBounds j true)):=fun j' o' e h x hx=>by
          rw [qj (by omega)]at h⊢;rcases YA j' o' e (h.symm.imp id id) x hx with h'|h'
          · exact .inr h'
          · exact .inl h'
        have F5:(listed.setIfInBounds j true).toList.countP (fun b=> !b)<=fuel:=by
          have:=aco (listed:=listed) (i:=j) (by omega) JQ;omega
        have h1': ∀i,bM (listed.setIfInBounds j true) i->i<pr.length:=fun i h=>by
          rw [qj (by omega)]at h;rcases h with rfl|h
          · exact hjn
          · exact h1 i h
        have acr:d=true->hp j=hp k/\k<=j/\ ∀(i:Nat) (o:aS),pr[i]? =some (o,true)->(bM (listed.setIfInBounds j true) i↔i<j+1):=by
          intro hd;subst hd;have hkj:k<=j:=by
            rcases Nat.lt_or_ge j k with h|h
            · exact absurd ((hD j oz mV).2 h) JQ
            · exact h
          refine⟨aff k j hkj (by omega) fun i o' e h2 h3=> ?_,hkj,fun i o' e=> ?_⟩
          · have:=hbef i (by omega) (hok.d i j o' oz h3 e mV);have:=(hD i o' e).1 this;omega
          · rw [qj (by omega)];rcases Nat.lt_trichotomy i j with h|h|h
            · exact⟨fun _=>by omega,fun _=> .inr (hbef i (by omega) (hok.d i j o' oz h e mV))⟩
            · subst h;exact⟨fun _=>by omega,fun _=> .inl rfl⟩
            · refine⟨fun h'=> ?_,fun h'=>by omega⟩;rcases h' with h'|h'
              · omega
              · exact absurd h' (X6 i (hok.d j i oz o' h mV e))
        have afg:d=false-> ∀(i:Nat) (o:aS),pr[i]? =some (o,true)->(bM (listed.setIfInBounds j true) i↔i<k):=by
          intro hd i o' e;rw [qj (by omega)];constructor
          · rintro(rfl|h)
            · rw [mV]at e;cases e;cases hd
            · exact(hD i o' e).1 h
          · intro h;exact .inr ((hD i o' e).2 h)
        unfold wpOpIn;rw [ho];simp only;have hgs: ∀s want,oz.g=some (s,want)->s∈oz.slots:=fun s want h=>by simp [aS.slots,h]
        have hks: ∀t∈oz.k.slots,dU pr val aC j t=lG pr val (bM listed) aC t:=fun t ht=>vC t (by simp [aS.slots,ht]);have adu:qp oz (dU pr val aC j)->qp oz (lG pr val (bM listed) aC):=by
          intro h;unfold qp at h⊢;split
          · trivial
          · rename_i s want hg;rw [hg]at h;rw [<-vC s (hgs s want hg)];exact h
        have adv:uN oz (dU pr val aC j)->uN oz (lG pr val (bM listed) aC):=by
          intro h;unfold uN at h⊢;split
          · rename_i hg;rw [hg]at h;exact h
          · rename_i s want hg;rw [hg]at h;rw [<-vC s (hgs s want hg)];exact h
        rcases htr j oz d mV with⟨hg,hv,hh⟩|⟨hg,hd,hWj⟩|⟨hg,hd,hh,hWj⟩
        ·
          rw [if_neg (by rw [Nu hcomp hR.sl (adv hg)];simp)];have hstep:=hR.step (Tr.refl B w) (Ext.refl B _ G) (Nat.le_refl _) hR.hm c1 V.ud;rw [<-hv,<-c2,<-hnext]at hstep;rw [<-c2];cases hdd:d with
          |true=>
            obtain⟨e1,e2,e3⟩:=acr hdd;have e4:hp (j+1)=hp k:=hh.trans e1;rw [<-e4]at hstep;refine⟨fun _ _=>trivial,?_⟩;refine ih _ (j+1) G _ w (by omega) (by simpa using hs) F5 h1' hcl' e3 hstep ?_;rw [e4];exact hS
          |false=>exact⟨fun _ _=>trivial,ih _ k G _ w hk (by simpa using hs) F5 h1' hcl' (afg hdd) hstep hS⟩
        ·
          rw [if_pos (Je hcomp hR.sl (adu hg))];obtain⟨e1,e2,e3⟩:=acr hd;rw [e1]at hWj;have KN:=KL hks hWj;rw [c3]at KN;refine(vw KN hR fun p H' G' x w' hK g1 g2 g3 g4 g5=> ?_);obtain⟨rfl,rfl⟩:=hK;have hstep:=hR.step g1 g2 g3 g4 c1 g5;rw [<-c2,<-hnext]at hstep;rw [<-c2];exact ih _ (j+1) G' _ w' (by omega) (by simpa using hs) F5 h1' hcl' e3 hstep (hS.step g1 g2 g3)
        ·
          rw [if_pos (Je hcomp hR.sl (adu hg))];have KN:=KL hks (hWj (hp k) (hC k hk));rw [c3]at KN;refine(vw KN hR fun p H' G' x w' hK g1 g2 g3 g4 g5=> ?_);obtain⟨rfl,rfl⟩:=hK;have hstep:=hR.step g1 g2 g3 g4 c1 g5;rw [<-c2,<-hnext]at hstep;rw [<-c2];exact ih _ k G' _ w' hk (by simpa using hs) F5 h1' hcl' (afg hd) hstep (hS.step g1 g2 g3)
end
end Go.VL
end
section
namespace Go.VL
variable [Glob]
def afh (ops:List Oper) (pr:List (aS×Bool)):Bool:=
  let ms:=masks ops []
  (List.range ops.length).all (fun j=>
    (match ops[j]? with|some o=>(mU o).all (fun e=>decide (e<j))|none=>true)&&
    (List.range j).all fun i=>
      match pr[i]?,pr[j]? with
      |some (x,d),some (y,d')=> !(clash x y)||fG ms i j
      |_,none=>fG ms i j
      |none,_=>true)
structure Qi (ops:List Oper) (pr:List (aS×Bool)):Prop where
  deps: ∀(j:Nat) (o:Oper),ops[j]? =some o-> ∀e∈mU o,e<j
  clash: ∀(i j:Nat) (x y:aS×Bool),i<j->pr[i]? =some x->pr[j]? =some y->clash x.1 y.1=true->fG (masks ops []) i j=true
  post: ∀(i j:Nat),i<j->j<ops.length->pr.length<=j->fG (masks ops []) i j=true
theorem abu {ops:List Oper} {pr:List (aS×Bool)} (hl:pr.length<=ops.length) (h:afh ops pr=true):Qi ops pr:=by
  have hj: ∀j,j<ops.length->(match ops[j]? with|some o=>(mU o).all (fun e=>decide (e<j))|none=>true)=true/\ ∀i,i<j->(match pr[i]?,pr[j]? with
      |some (x,d),some (y,d')=> !(VL.clash x y)||fG (masks ops []) i j
      |_,none=>fG (masks ops []) i j
      |none,_=>true)=true:=by
    intro j hj;have:=List.all_eq_true.1 h j (List.mem_range.2 hj);simp only [Bool.and_eq_true]at this;exact⟨this.1,fun i hi=>List.all_eq_true.1 this.2 i (List.mem_range.2 hi)⟩
  have hlt: ∀{α:Type} (l:List α) (j:Nat) (x:α),l[j]? =some x->j<l.length:=fun l j x e=>by
    rcases Nat.lt_or_ge j l.length with h'|h'
    · exact h'
    · rw [List.getElem?_eq_none h']at e;cases e
  refine⟨fun j o e x hx=> ?_,fun i j x y hij ex ey hc=> ?_,fun i j hij hjo hjp=> ?_⟩
  · have:=(hj j (hlt _ _ _ e)).1;rw [e]at this;simpa using List.all_eq_true.1 this x hx
  · obtain⟨x,d⟩:=x;obtain⟨y,d'⟩:=y;have:=(hj j (Nat.lt_of_lt_of_le (hlt _ _ _ ey) hl)).2 i hij;rw [ex,ey]at this;simp only [Bool.or_eq_true,Bool.not_eq_true']at this;simp only at hc;rcases this with h'|h'
    · rw [hc]at h';cases h'
    · exact h'
  · have:=(hj j hjo).2 i hij;rw [List.getElem?_eq_none hjp]at this;cases hpi:pr[i]? <;>simpa [hpi]using this
theorem abv {sz b:Nat} {H:AH} {x y:PV} {K K':PV->AH->Prop} (hk: ∀p H',K p H'->K' p H') (h:xK sz b H x y K):xK sz b H x y K':=by
  unfold xK at h⊢;generalize rowOf sz H x=r1 at*;generalize rowOf sz H y=r2 at*;cases r1 with
  |none=>exact h
  |some es=>
    cases r2 with
    |none=>exact h
    |some fs=>
      have fr:yK sz b H es fs K->yK sz b H es fs K':=fun g cap hcap=>hk _ _ (g cap hcap);simp only at h⊢;by_cases h0:fs.length=0
      · rw [if_pos h0]at h⊢;cases x with
        |bV id off len cap s=>
          simp only at h⊢;by_cases hl:len<=cap
          · rw [if_pos hl]at h⊢;exact hk _ _ h
          · rw [if_neg hl]at h;exact h.elim
        |_=>exact hk _ _ h
      · rw [if_neg h0]at h⊢;by_cases hc:qR sz es/\qR sz fs/\(es.length+fs.length)*b<=1099511627776
        · rw [if_pos hc]at h⊢;cases x with
          |aB es' c=>cases c<;>first|exact fr h|exact h
          |bV id off len cap s=>
            simp only at h⊢;by_cases hl:len+fs.length<=cap
            · rw [if_pos hl]at h⊢;cases ho:H.obj id with
              |none=>rw [ho]at h;exact h
              |some cs=>
                rw [ho]at h;simp only at h⊢;split
                · rename_i hl2;rw [if_pos hl2]at h;exact hk _ _ h
                · rename_i hl2;rw [if_neg hl2]at h;exact h
            · rw [if_neg hl]at h⊢;split
              · rename_i hl2;rw [if_pos hl2]at h;exact fr h
              · rename_i hl2;rw [if_neg hl2]at h;exact h
          |_=>exact h
        · rw [if_neg hc]at h;exact h.elim
theorem ahl {k:NK} {K K':PV->AH->Prop} {σ:Nat->PV} {H:AH} (hk: ∀p H',K p H'->K' p H') (h:nop k K σ H):nop k K' σ H:=by
  cases k with
  |app sz b x y=>exact abv hk h
  |iU z ps=>
    simp only [nop]at h⊢;cases hb:jZ σ z ps with
    |none=>rw [hb]at h;exact h
    |some cs=>rw [hb]at h;exact hk _ _ h
  |Yi x=>
    simp only [nop]at h⊢;generalize x.ev σ=v at*;cases v<;>first|exact hk _ _ h|exact h
  |copy sz x y=>
    simp only [nop]at h⊢;generalize x.ev σ=v at*;generalize rowOf sz H (y.ev σ)=r at*;cases v<;>try exact h
    cases r with
    |none=>exact h
    |some fs=>
      rename_i id off len cap s;simp only at h⊢;cases ho:H.obj id with
      |none=>rw [ho]at h;exact h
      |some cs=>
        rw [ho]at h;simp only at h⊢;split
        · rename_i hc;rw [if_pos hc]at h;exact hk _ _ h
        · rename_i hc;rw [if_neg hc]at h;exact h
  |R9 sz b z x n=>
    simp only [nop]at h⊢;generalize x.ev σ=v at*;generalize n.ev σ=u at*;split
    · rename_i m hv hu;simp only at h;split
      · rename_i hc;rw [if_pos hc]at h;exact fun cap hcap=>hk _ _ (h cap hcap)
      · rename_i hc;rw [if_neg hc]at h;exact h
    · rename_i hno;split at h
      · rename_i m;exact absurd rfl (hno m rfl)
      · exact h
  |clr sz z x=>
    simp only [nop]at h⊢;generalize x.ev σ=v at*;cases v<;>try exact h
    rename_i id off len cap s;simp only at h⊢;cases ho:H.obj id with
    |none=>rw [ho]at h;exact h
    |some cs=>
      rw [ho]at h;simp only at h⊢;split
      · rename_i hc;rw [if_pos hc]at h;exact hk _ _ h
      · rename_i hc;rw [if_neg hc]at h;exact h
theorem vD {P:Program} {k:AK} {K K':PV->AH->Prop} {σ:Nat->PV} {H:AH} (hk: ∀p H',K p H'->K' p H') (h:iR P k K σ H):iR P k K' σ H:=by
  cases k with
  |r k=>
    simp only [iR]at*;cases hq:rop k σ H with
    |none=>rw [hq]at h;exact h
    |some p=>rw [hq]at h;exact hk _ _ h
  |d k=>
    simp only [iR]at*;cases hq:jH k σ H with
    |none=>rw [hq]at h;exact h
    |some p=>rw [hq]at h;exact hk _ _ h
  |n k=>simp only [iR]at*;exact ahl hk h
  |call f l=>
    simp only [iR]at*;generalize f.ev σ=v at*;cases v with
    |fn g fs cs=>
      cases g with
      |func g=>exact bE.mono h hk
      |_=>exact h
    |_=>exact h
  |bad=>exact h
def yT (P:Program) (ms:List Nat) (pr:List (aS×Bool)) (K:(Nat->PV)->AH->Prop) (aC:Nat->PV):Nat->List Nat->(Nat->PV)->AH->Prop
  |n,rem,val,H=>
    (∀(i:Nat) (o:aS),pr[i]? =some (o,false)->(∀s∈rem,fG ms s i=false)->(∀(s:Nat) (o':aS),pr[s]? =some (o',true)->s∉rem->fG ms i s=false)->
      (uN o (dU pr val aC i)/\val i=ud)\/(qp o (dU pr val aC i)/\iR P o.k (fun r iw=>r=val i/\iw=H) (dU pr val aC i) H))/\
    (rem=[]->K (dU pr val aC pr.length) H)/\
    match n with
    |0=>rem=[]
    |n+1=> ∀j∈rem,∀(o:aS),pr[j]? =some (o,true)->(∀s∈rem,fG ms s j=false\/s=j)->
      qp o (dU pr val aC j)/\iR P o.k (fun r H'=> ∃val':Nat->PV,(∀i,i∉rem->(∀s∈rem,fG ms s i=false)->val' i=val i)/\val' j=r/\yT P ms pr K aC n (rem.filter (·!=j)) val' H') (dU pr val aC j) H
theorem YB {P:Program} {ms:List Nat} {pr:List (aS×Bool)} {K K':(Nat->PV)->AH->Prop} {aC:Nat->PV} (hk: ∀σ H,K σ H->K' σ H): ∀(n:Nat) (rem:List Nat) (val:Nat->PV) (H:AH),yT P ms pr K aC n rem val H->yT P ms pr K' aC n rem val H
  |0,rem,val,H,h=>by
    unfold yT at h⊢;exact⟨h.1,fun e=>hk _ _ (h.2.1 e),h.2.2⟩
  |n+1,rem,val,H,h=>by
    unfold yT at h⊢;refine⟨h.1,fun e=>hk _ _ (h.2.1 e),fun j hj o ho hb=> ?_⟩;obtain⟨h1,h2⟩:=h.2.2 j hj o ho hb;exact⟨h1,vD (fun r H' ⟨val',g1,g2,g3⟩=>⟨val',g1,g2,YB hk n _ _ _ g3⟩) h2⟩
section
variable {P:Program} {rm:Bool} {B:Nat->Prop} {k0 N mm:Nat} {ro:Option Nat} {ops:Array Oper}
variable {w0:World} {G0:Gh} {n0:Nat} {K:(Nat->PV)->AH->Prop} {Q:Exit->Act->World->Prop}
open Classical in
theorem acs: ∀(l:List (aS×Bool)) (val val':Nat->PV) (E:Nat->Prop) (σ:Nat->PV),(∀i,E i->val' i=val i)->lG l val' E σ=lG l val E σ
  |[],_,_,_,_,_=>rfl
  |(o,d)::l,val,val',E,σ,h=>by
    simp only [lG];have e:(if E 0 then upd σ o.dst (val' 0)else σ)=(if E 0 then upd σ o.dst (val 0)else σ):=by
      by_cases h0:E 0
      · rw [if_pos h0,if_pos h0,h 0 h0]
      · rw [if_neg h0,if_neg h0]
    rw [e];exact acs l _ _ _ _ fun i hi=>h (i+1) hi
theorem adw {pr:List (aS×Bool)} {post:List aS} (aC:Nat->PV) (hc:mh P rm N ops ops.toList=some (pr.map (·.1)++post)) (hok:Qi ops.toList pr)
    {listed:Array Bool} {j i0:Nat} (hs:listed.size=ops.size) (h1: ∀i,bM listed i->i<pr.length) (hcl:Closed ops.toList (bM listed)) (hi0:i0<pr.length) (Yy: ¬bM listed i0)
    (hj:j∈Region.ready .any ops listed): ∃(o:Oper) (ao:aS) (d:Bool),ops[j]? =some o/\pr[j]? =some (ao,d)/\rJ P rm N ops o=some ao/\ ¬bM listed j/\
      (∀i,i≠j->fG (masks ops.toList []) i j=true->bM listed i)/\
      (∀(val:Nat->PV),∀t∈ao.slots,dU pr val aC j t=lG pr val (bM listed) aC t)/\
      (∀(val:Nat->PV),lG pr val (bM (listed.setIfInBounds j true)) aC=upd (lG pr val (bM listed) aC) ao.dst (val j))/\
      Closed ops.toList (bM (listed.setIfInBounds j true))/\(∀i,bM (listed.setIfInBounds j true) i->i<pr.length)/\(∀i,bM (listed.setIfInBounds j true) i↔i=j\/bM listed i):=by
  obtain⟨hlen,hget⟩:=pF hc;have hlenS:pr.length+post.length=ops.size:=by simpa using hlen
  have hpost: ∀(i j:Nat),i<j->j<ops.size->pr.length<=j->fG (masks ops.toList []) i j=true:=fun i j h1 h2 h3=>hok.post i j h1 (by simpa using h2) h3;obtain⟨JQ,o,ho,hdj⟩:=(vB hs).1 hj;have hjo:=(Array.getElem?_eq_some_iff.1 ho).1
  let E:Nat->Prop:=fun i=>bM listed i\/i=j
  have YA:Closed ops.toList E:=by
    intro j' o' e hE' x hx;rcases hE' with hE'|rfl
    · exact .inl (hcl j' o' e hE' x hx)
    · have e':ops[j']? =some o':=by simpa using e
      rw [ho]at e';cases e';exact .inl (hdj x hx)
  have hbef: ∀i,i≠j->fG (masks ops.toList []) i j=true->bM listed i:=fun i hij hb=>by
    rcases qU YA hb (.inr rfl)with h|h
    · exact h
    · exact absurd h hij
  have X6: ∀i,fG (masks ops.toList []) j i=true-> ¬bM listed i:=fun i hb h=>JQ (qU hcl hb h);have hjn:j<pr.length:=by
    rcases Nat.lt_or_ge j pr.length with h|h
    · exact h
    · exact absurd (hbef i0 (by omega) (hpost i0 j (by omega) hjo h)) Yy
  obtain⟨⟨ao,d⟩,mV⟩: ∃x,pr[j]? =some x:=⟨_,List.getElem?_eq_getElem hjn⟩;obtain⟨oz,hao,hcomp⟩:=hget j o (by simpa using ho);have:oz=ao:=by
    rw [List.getElem?_append_left (by simpa using hjn),List.getElem?_map,mV]at hao;exact(Option.some.inj hao).symm
  subst this;have hlt: ∀(i:Nat) (x:aS×Bool),pr[i]? =some x->i<pr.length:=fun i x e=>by
    rcases Nat.lt_or_ge i pr.length with h'|h'
    · exact h'
    · rw [List.getElem?_eq_none h']at e;cases e
  have hcut: ∀t,(t∈oz.slots\/oz.dst=some t)-> ∀(i:Nat) (x:aS×Bool),pr[i]? =some x->x.1.dst=some t->(bM listed i↔i<j):=by
    intro t ht i x e hx;rcases Nat.lt_trichotomy i j with h|h|h
    · refine⟨fun _=>h,fun _=>hbef i (by omega) (hok.clash i j x (oz,d) h e mV ?_)⟩;unfold clash;rcases ht with ht|ht
      · simp [MG,hx,ht]
      · simp [Qh,hx,ht]
    · subst h;exact⟨fun h=>absurd h JQ,fun h=>by omega⟩
    · refine⟨fun h'=>absurd h' (X6 i (hok.clash j i (oz,d) x h mV e ?_)),fun h'=>by omega⟩;unfold clash;rcases ht with ht|ht
      · simp [MG,hx,ht]
      · simp [Qh,hx,ht]
  have vC: ∀(val:Nat->PV),∀t∈oz.slots,dU pr val aC j t=lG pr val (bM listed) aC t:=fun val t ht=>(uE pr val _ aC j t (hcut t (.inl ht))).symm;have hnext: ∀(val:Nat->PV),lG pr val (bM (listed.setIfInBounds j true)) aC=upd (lG pr val (bM listed) aC) oz.dst (val j):=by
    intro val
    funext t
    by_cases hd:oz.dst=some t
    · rw [hd,Qf];rw [uE pr val _ aC (j+1) t (fun i x e hx=>by
        rw [qj (by omega),hcut t (.inr hd) i x e hx];omega),Ov pr val aC j (oz,d) mV,hd,Qf]
    · rw [upd_ne hd];refine KM pr val _ _ aC aC t rfl fun i x e hx=> ?_;rw [qj (by omega)];constructor
      · rintro(rfl|h)
        · rw [mV]at e;cases e;exact absurd hx hd
        · exact h
      · exact .inr
  have hcl':Closed ops.toList (bM (listed.setIfInBounds j true)):=fun j' o' e h x hx=>by
    rw [qj (by omega)]at h⊢;rcases YA j' o' e (h.symm.imp id id) x hx with h'|h'
    · exact .inr h'
    · exact .inl h'
  have h1': ∀i,bM (listed.setIfInBounds j true) i->i<pr.length:=fun i h=>by
    rw [qj (by omega)]at h;rcases h with rfl|h
    · exact hjn
    · exact h1 i h
  exact⟨o,oz,d,ho,mV,hcomp,JQ,hbef,vC,hnext,hcl',h1',fun i=>qj (by omega)⟩
theorem ajB {o:Oper} {ao:aS} {j:Nat} {σ σ':Nat->PV} {H:AH} {G:Gh} {a:Act} {w:World} {K1:PV->AH->Prop} {next:Act->World->Prop} (ho:ops[j]? =some o) (hcomp:rJ P rm N ops o=some ao) (hR:Rl B k0 N σ H G a w) (hS:Since B w0 G0 n0 H G w)
    (hsl: ∀t∈ao.slots,σ' t=σ t) (hg:qp ao σ') (hW:iR P ao.k K1 σ' H)
    (hn: ∀p H' G' a' w',K1 p H'->Rl B k0 N (upd σ ao.dst p) H' G' a' w'->Since B w0 G0 n0 H' G' w'->next a' w'):wpOpIn (Wd ro) mm P ops Q j next a w:=by
  obtain⟨c1,c2,c3,c4⟩:=ql hcomp;have hks: ∀t∈ao.k.slots,σ' t=σ t:=fun t ht=>hsl t (by simp [aS.slots,ht]);have adu:qp ao σ:=by
    unfold qp at hg⊢;split
    · trivial
    · rename_i s want hg';rw [hg']at hg;rw [<-hsl s (by simp [aS.slots,hg'])];exact hg
  unfold wpOpIn;rw [ho];simp only;rw [if_pos (Je hcomp hR.sl adu)];have KN:=KL hks hW;rw [c3]at KN;refine(vw KN hR fun p H' G' x w' hK g1 g2 g3 g4 g5=> ?_);have hstep:=hR.step g1 g2 g3 g4 c1 g5;rw [<-c2]at hstep;rw [<-c2];exact hn p H' G' _ w' hK hstep (hS.step g1 g2 g3)
theorem ank {o:Oper} {ao:aS} {j:Nat} {σ σ':Nat->PV} {H:AH} {G:Gh} {a:Act} {w:World} {next:Act->World->Prop} (ho:ops[j]? =some o) (hcomp:rJ P rm N ops o=some ao) (hR:Rl B k0 N σ H G a w)
    (hsl: ∀t∈ao.slots,σ' t=σ t) (hg:uN ao σ')
    (hn: ∀a',Rl B k0 N (upd σ ao.dst ud) H G a' w->next a' w):wpOpIn (Wd ro) mm P ops Q j next a w:=by
  obtain⟨c1,c2,c3,c4⟩:=ql hcomp;have adv:uN ao σ:=by
    unfold uN at hg⊢;split
    · rename_i hg';rw [hg']at hg;exact hg
    · rename_i s want hg';rw [hg']at hg;rw [<-hsl s (by simp [aS.slots,hg'])];exact hg
  unfold wpOpIn;rw [ho];simp only;rw [if_neg (by rw [Nu hcomp hR.sl adv];simp)];have hstep:=hR.step (Tr.refl B w) (Ext.refl B _ G) (Nat.le_refl _) hR.hm c1 V.ud;rw [<-c2]at hstep;rw [<-c2];exact⟨fun _ _=>trivial,hn _ hstep⟩
theorem YC {pr:List (aS×Bool)} {post:List aS} {aC:Nat->PV} {rem:List Nat} {val:Nat->PV} {H:AH}
    (hQ: ∀σ H G a w,K σ H->Rl B k0 N σ H G a w->Since B w0 G0 n0 H G w->Q .normal a w) (hc:mh P rm N ops ops.toList=some (pr.map (·.1)++post)) (hok:Qi ops.toList pr)
    (hpure: ∀(i:Nat) (o:aS),pr[i]? =some (o,false)->(∀s∈rem,fG (masks ops.toList []) s i=false)->(∀(s:Nat) (o':aS),pr[s]? =some (o',true)->s∉rem->fG (masks ops.toList []) i s=false)->
      (uN o (dU pr val aC i)/\val i=ud)\/(qp o (dU pr val aC i)/\iR P o.k (fun r iw=>r=val i/\iw=H) (dU pr val aC i) H))
    (hend:rem=[]->dz P post K (dU pr val aC pr.length) H) (GX: ∀i∈rem,∃o,pr[i]? =some (o,true))
    (avj: ∀(j:Nat) (o:Oper) (ao:aS) (fuel:Nat) (listed:Array Bool) (G:Gh) (a:Act) (w:World),j∈rem->ops[j]? =some o->pr[j]? =some (ao,true)->rJ P rm N ops o=some ao->(∀s∈rem,fG (masks ops.toList []) s j=false\/s=j)->
      (∀(val:Nat->PV),∀t∈ao.slots,dU pr val aC j t=lG pr val (bM listed) aC t)->
      (∀(val:Nat->PV),lG pr val (bM (listed.setIfInBounds j true)) aC=upd (lG pr val (bM listed) aC) ao.dst (val j))->
      (listed.setIfInBounds j true).size=ops.size->(listed.setIfInBounds j true).toList.countP (fun b=> !b)<=fuel->(∀i,bM (listed.setIfInBounds j true) i->i<pr.length)->Closed ops.toList (bM (listed.setIfInBounds j true))->
      (∀(i:Nat) (o:aS),pr[i]? =some (o,true)->(bM (listed.setIfInBounds j true) i↔i∉rem.filter (·!=j)))->
      (∀i,bM listed i->i∉rem/\ ∀s∈rem,fG (masks ops.toList []) s i=false)->
      Rl B k0 N (lG pr val (bM listed) aC) H G a w->Since B w0 G0 n0 H G w->wpOpIn (Wd ro) mm P ops Q j (wpAnyIn (Wd ro) mm P .any ops Q fuel (listed.setIfInBounds j true)) a w):
    ∀(fuel:Nat) (listed:Array Bool) (G:Gh) (a:Act) (w:World),listed.size=ops.size->listed.toList.countP (fun b=> !b)<=fuel->(∀i,bM listed i->i<pr.length)->Closed ops.toList (bM listed)->
      (∀(i:Nat) (o:aS),pr[i]? =some (o,true)->(bM listed i↔i∉rem))->Rl B k0 N (lG pr val (bM listed) aC) H G a w->Since B w0 G0 n0 H G w->wpAnyIn (Wd ro) mm P .any ops Q fuel listed a w:=by
  obtain⟨hlen,hget⟩:=pF hc;have hlenS:pr.length+post.length=ops.size:=by simpa using hlen
  have F4: ∀(j:Nat) (o:Oper),ops[j]? =some o-> ∀e∈mU o,e<j:=fun j o e=>hok.deps j o (by simpa using e);have hpost: ∀(i j:Nat),i<j->j<ops.size->pr.length<=j->fG (masks ops.toList []) i j=true:=fun i j h1 h2 h3=>hok.post i j h1 (by simpa using h2) h3;have ahm: ∀(i:Nat) (x:aS×Bool),pr[i]? =some x->i<pr.length:=fun i x e=>by
    rcases Nat.lt_or_ge i pr.length with h'|h'
    · exact h'
    · rw [List.getElem?_eq_none h']at e;cases e
  have finish: ∀(fuel:Nat) (listed:Array Bool) (G:Gh) (a:Act) (w:World),listed.size=ops.size->ops.size -pr.length<=fuel->(∀i,bM listed i->i<pr.length)->(∀i,i<pr.length->bM listed i)->
      (∀(i:Nat) (o:aS),pr[i]? =some (o,true)->(bM listed i↔i∉rem))->Rl B k0 N (lG pr val (bM listed) aC) H G a w->Since B w0 G0 n0 H G w->wpAnyIn (Wd ro) mm P .any ops Q fuel listed a w:=by
    intro fuel listed G a w hs hf h1 h2 hD hR hS;have hr0:rem=[]:=by
      rw [List.eq_nil_iff_forall_not_mem];intro i hi;obtain⟨o,e⟩:=GX i hi;exact(hD i o e).1 (h2 i (ahm _ _ e)) hi
    have hE:lG pr val (bM listed) aC=dU pr val aC pr.length:=funext fun t=>uE pr val _ aC _ t fun i o e _=>by
      have hi:=ahm _ _ e;exact⟨fun _=>hi,fun _=>h2 i hi⟩
    rw [hE]at hR
    have hd:(pr.map (·.1)++post).drop pr.length=post:=by
      have:pr.length=(pr.map (·.1)).length:=by simp
      rw [this,List.drop_left]
    exact acp hQ hc F4 hpost fuel listed pr.length _ _ _ _ _ (Nat.le_refl _) (by omega) hs (fun i hi=>⟨fun h=>h1 i h,fun h=>h2 i h⟩) hf (by rw [hd];exact hend hr0) hR hS
  intro fuel
  induction fuel with
  |zero=>
    intro listed G a w hs hcnt h1 hcl hD hR hS;have hall: ∀i,i<ops.size->bM listed i:=by
      intro i hi;have h0:listed.toList.countP (fun b=> !b)=0:=by omega
      rw [List.countP_eq_zero]at h0;have:=h0 (listed[i]'(by omega)) (by simp);simpa [bM,Array.getElem?_eq_getElem (show i<listed.size by omega)]using this
    have hsz:ops.size<=pr.length:=by
      rcases Nat.lt_or_ge pr.length ops.size with h|h
      · have:=h1 pr.length (hall _ h);omega
      · exact h
    exact finish 0 listed G a w hs (by omega) h1 (fun i hi=>hall i (by omega)) hD hR hS
  |succ fuel ih=>
    intro listed G a w hs hcnt h1 hcl hD hR hS;by_cases hdone: ∀i,i<pr.length->bM listed i
    · refine finish (fuel+1) listed G a w hs ?_ h1 hdone hD hR hS;have hcount:post.length<=listed.toList.countP (fun b=> !b):=by
        have hsplit:listed.toList=listed.toList.take pr.length++listed.toList.drop pr.length:=(List.take_append_drop _ _).symm;rw [hsplit,List.countP_append];have:(listed.toList.drop pr.length).countP (fun b=> !b)=(listed.toList.drop pr.length).length:=by
          rw [List.countP_eq_length];intro b hb;obtain⟨i,hi⟩:=List.getElem?_of_mem hb;rw [List.getElem?_drop]at hi;have hnl: ¬bM listed (pr.length+i):=fun h=>by have:=h1 _ h;omega
          rw [Array.getElem?_toList]at hi;simp [bM,hi]at hnl;simp [hnl]
        rw [this];simp;omega
      omega
    · obtain⟨i0,hi0,Yy⟩: ∃i,i<pr.length/\ ¬bM listed i:=by
        apply Classical.byContradiction
        intro hno;exact hdone fun i hi=>Classical.byContradiction fun h=>hno ⟨i,hi,h⟩
      refine⟨fun hr=> ?_,fun j hj=> ?_⟩
      · have Yz: ∃i,i<pr.length/\ ¬bM listed i/\ ∀i',i'<i->bM listed i':=by
          have: ∀n,(∀i',i'<n->bM listed i')\/ ∃i,i<n/\ ¬bM listed i/\ ∀i',i'<i->bM listed i':=by
            intro n
            induction n with
            |zero=>exact .inl (fun i' h=>by omega)
            |succ n ihn=>
              rcases ihn with h|⟨i,h⟩
              · by_cases hn:bM listed n
                · exact .inl fun i' hi'=>by
                    rcases Nat.lt_or_ge i' n with h'|h'
                    · exact h i' h'
                    · have:i'=n:=by omega
                      exact this▸hn
                · exact .inr ⟨n,by omega,hn,h⟩
              · exact .inr ⟨i,by omega,h.2⟩
          rcases this pr.length with h|⟨i,h⟩
          · exact absurd h hdone
          · exact⟨i,h⟩
        obtain⟨i,hi,hni,hlt⟩:=Yz;have hio:i<ops.size:=by omega
        have:i∈Region.ready .any ops listed:=(vB hs).2 ⟨hni,ops[i],by simp,fun e he=>hlt e (F4 i _ (by simp) e he)⟩;rw [hr]at this;cases this
      · obtain⟨o,ao,d,ho,mV,hcomp,JQ,hbef,vC,hnext,hcl',h1',hset⟩:=adw aC hc hok hs h1 hcl hi0 Yy hj;have F5:(listed.setIfInBounds j true).toList.countP (fun b=> !b)<=fuel:=by
          have:=aco (listed:=listed) (i:=j) (by have:=ahm _ _ mV;omega) JQ;omega
        have hop: ∀s∈rem,fG (masks ops.toList []) s j=false\/s=j:=fun s hs'=>by
          by_cases hsj:s=j
          · exact .inr hsj
          · refine .inl ?_;cases hb:fG (masks ops.toList []) s j with
            |false=>rfl
            |true=>
              obtain⟨o',e'⟩:=GX s hs';exact absurd hs' ((hD s o' e').1 (hbef s hsj hb))
        cases d with
        |false=>
          have hjr:j∉rem:=fun h=>by
            obtain⟨o',e'⟩:=GX j h;rw [mV]at e';cases e'
          have hD': ∀(i:Nat) (o:aS),pr[i]? =some (o,true)->(bM (listed.setIfInBounds j true) i↔i∉rem):=fun i o' e=>by
            rw [hset];constructor
            · rintro(rfl|h)
              · exact hjr
              · exact(hD i o' e).1 h
            · intro h;exact .inr ((hD i o' e).2 h)
          rcases hpure j ao mV (fun s hs'=>(hop s hs').resolve_right fun h=>hjr (h▸hs')) (fun s o' e' hs'=>by
            cases hb:fG (masks ops.toList []) j s with
            |false=>rfl
            |true=>exact absurd (qU hcl hb ((hD s o' e').2 hs')) JQ)with⟨hg,hv⟩|⟨hg,hWj⟩
          · refine ank ho hcomp hR (vC val) hg fun a' hR'=> ?_;rw [<-hv,<-hnext]at hR';exact ih _ G a' w (by simpa using hs) F5 h1' hcl' hD' hR' hS
          · refine ajB ho hcomp hR hS (vC val) hg hWj fun p H' G' a' w' hK hR' hS'=> ?_;obtain⟨rfl,rfl⟩:=hK;rw [<-hnext]at hR';exact ih _ G' a' w' (by simpa using hs) F5 h1' hcl' hD' hR' hS'
        |true=>
          have hjr:j∈rem:=Classical.byContradiction fun h=>JQ ((hD j ao mV).2 h);refine avj j o ao fuel listed G a w hjr ho mV hcomp hop vC hnext (by simpa using hs) F5 h1' hcl' (fun i o' e=> ?_) (fun i hi=> ?_) hR hS
          · rw [hset,hD i o' e,List.mem_filter];by_cases hij:i=j
            · subst hij;simp
            · simp [hij]
          · refine⟨fun hr=> ?_,fun s hs'=> ?_⟩
            · obtain⟨o',e'⟩:=GX i hr;exact(hD i o' e').1 hi hr
            · cases hb:fG (masks ops.toList []) s i with
              |false=>rfl
              |true=>
                obtain⟨o',e'⟩:=GX s hs';exact absurd hs' ((hD s o' e').1 (qU hcl hb hi))
theorem anl {pr:List (aS×Bool)} {post:List aS} {aC:Nat->PV}
    (hQ: ∀σ H G a w,K σ H->Rl B k0 N σ H G a w->Since B w0 G0 n0 H G w->Q .normal a w) (hc:mh P rm N ops ops.toList=some (pr.map (·.1)++post)) (hok:Qi ops.toList pr):
    ∀(n:Nat) (rem:List Nat) (val:Nat->PV) (H:AH),yT P (masks ops.toList []) pr (dz P post K) aC n rem val H->(∀i∈rem,∃o,pr[i]? =some (o,true))->
    ∀(fuel:Nat) (listed:Array Bool) (G:Gh) (a:Act) (w:World),listed.size=ops.size->listed.toList.countP (fun b=> !b)<=fuel->(∀i,bM listed i->i<pr.length)->Closed ops.toList (bM listed)->
      (∀(i:Nat) (o:aS),pr[i]? =some (o,true)->(bM listed i↔i∉rem))->Rl B k0 N (lG pr val (bM listed) aC) H G a w->Since B w0 G0 n0 H G w->wpAnyIn (Wd ro) mm P .any ops Q fuel listed a w:=by
  intro n
  induction n with
  |zero=>
    intro rem val H hW GX;unfold yT at hW;refine YC hQ hc hok hW.1 hW.2.1 GX fun j o ao fuel listed G a w hj=> ?_;rw [hW.2.2]at hj;cases hj
  |succ n ih=>
    intro rem val H hW GX;unfold yT at hW;refine YC hQ hc hok hW.1 hW.2.1 GX fun j o ao fuel listed G a w hj ho mV hcomp hop vC hnext q1 q2 q3 q4 q5 q6 hR hS=> ?_;obtain⟨h2,h3⟩:=hW.2.2 j hj ao mV hop;refine ajB ho hcomp hR hS (vC val) h2 h3 fun p H2 G' a' w' hK hR' hS'=> ?_;obtain⟨val',h1,h4,h5⟩:=hK;have hv:lG pr val' (bM listed) aC=lG pr val (bM listed) aC:=acs pr val val' _ aC fun i hi=>h1 i (q6 i hi).1 (q6 i hi).2;rw [<-h4,<-hv,<-hnext]at hR';exact ih _ val' _ h5 (fun i hi=>GX i (List.mem_filter.1 hi).1) fuel _ G' a' w' q1 q2 q3 q4 q5 hR' hS'
end
end Go.VL
end
section
namespace Go.VL
variable [Glob]
section
variable {B:Nat->Prop} {G:Gh} {H:AH} {w:World}
theorem HM.kL (hM:HM B H G w) {r:Nat} {o o':Obj} (h:w.heap[r]? =some o) (ho:o.isCells=false) (ho':o'.isCells=false):HM B H G (w.putObj r o'):=by
  have hne: ∀b arr t fr,w.heap[b]? =some (.cells arr t fr)->b≠r:=fun b arr t fr e hb=>by
    subst hb;rw [h]at e;cases e;simp [Obj.isCells]at ho
  have hkeep: ∀b,b≠r->(w.putObj r o').heap[b]? =w.heap[b]? :=fun b hb=>World.putObj_heap_other hb;refine⟨hM.glob,fun a x e=> ?_,fun id cs e=> ?_,hM.inj,fun k e=> ?_,hM.qb,hM.tobj,fun b arr e=>let ⟨h1,t,fr,h2⟩:=hM.wh b arr e;⟨h1,t,fr,(hkeep b (hne b arr t fr h2)).trans h2⟩⟩
  · have hc:=hM.pq a x e;by_cases hb:a.block=r
    · obtain⟨ab,ao,az⟩:=a;simp only at hb;subst hb;unfold World.cell? at hc;simp only [h]at hc;cases o<;>simp_all [Obj.isCells]
    · exact(World.cell?_of_block (hkeep _ hb)).trans hc
  · obtain⟨k0,b,ar,t',k1,k2,k3,k4,k5⟩:=hM.obj id cs e;exact⟨k0,b,ar,t',k1,k2,(hkeep b (hne _ _ _ _ k3)).trans k3,k4,k5⟩
  · obtain⟨k0,b,o,ar,t',k1,k2,k3,k5⟩:=hM.tok k e;exact⟨k0,b,o,ar,t',k1,k2,(hkeep b (hne _ _ _ _ k3)).trans k3,k5⟩
theorem HM.Qj (hM:HM B H G w) (o:Obj):HM B H G (w.alloc o):=by
  have hlt: ∀b arr t fr,w.heap[b]? =some (.cells arr t fr)->b<w.heap.size:=fun b arr t fr e=>(Array.getElem?_eq_some_iff.1 e).1;refine⟨hM.glob,fun a x e=> ?_,fun id cs e=> ?_,hM.inj,fun k e=> ?_,hM.qb,hM.tobj,hM.wh.keep fun b _ hb=>heap_alloc_old w o b hb⟩
  · have hc:=hM.pq a x e;exact(World.cell?_of_block (heap_alloc_old w o _ (World.block_lt_of_cell? w a hc))).trans hc
  · obtain⟨k0,b,ar,t',k1,k2,k3,k4,k5⟩:=hM.obj id cs e;exact⟨k0,b,ar,t',k1,k2,(heap_alloc_old w o b (hlt _ _ _ _ k3)).trans k3,k4,k5⟩
  · obtain⟨k0,b,o',ar,t',k1,k2,k3,k5⟩:=hM.tok k e;exact⟨k0,b,o',ar,t',k1,k2,(heap_alloc_old w o b (hlt _ _ _ _ k3)).trans k3,k5⟩
theorem Marks.kL {k0:Nat} {ds:List Deferred} (h:Marks k0 ds w) {r:Nat} {o o':Obj} (hr:w.heap[r]? =some o) (ho:o≠ .deferred (some [])):Marks k0 ds (w.putObj r o'):=by
  obtain⟨h0,rs,h1,h2,h3⟩:=h;refine⟨by rw [World.putObj_size];exact h0,rs,h1,h2,fun r' hr'=>⟨(h3 r' hr').1,?_⟩⟩;have hne:r'≠r:=fun e=>by
    subst e;have:=(h3 r' hr').2;rw [hr]at this;exact ho (Option.some.inj this)
  exact(World.putObj_heap_other hne).trans (h3 r' hr').2
theorem YD (hM:HM B H G w) {id bb:Nat} {v:PV} (ho:H.obj id=some [v]) (hm:G.m id=some bb): ∃x,w.cell? ⟨bb,0,none⟩=some x/\V G H.next v x:=by
  obtain⟨_,b',arr,t,k1,_,k3,k4,_⟩:=hM.obj id _ ho;have:b'=bb:=by rw [k1]at hm;exact Option.some.inj hm
  subst this;have hs:arr.size=1:=k4.1;exact⟨arr[0],by rw [sO k3];simp [hs],k4.2 0 v _ rfl (by simp)⟩
theorem Tr.kL {w W:World} (h:Tr B w W) {r:Nat} {o':Obj} (hr:w.heap.size<=r):Tr B w (W.putObj r o'):=
  ⟨by rw [World.putObj_size];exact h.size,fun b hb hB=>(World.putObj_heap_other (by omega)).trans (h.same b hb hB),h.os,h.tape,h.output,fun b o e ho=>by
    have:=(Array.getElem?_eq_some_iff.1 e).1;exact(World.putObj_heap_other (by omega)).trans (h.FX b o e ho)⟩
theorem Up.kL (h:Up B w) (r:Nat) (o':Obj):Up B (w.putObj r o'):=fun b hb=>h b (by rwa [World.putObj_size]at hb)
theorem Sl.mono {G':Gh} {n n':Nat} {σ:Nat->PV} {a:Act} (h:Sl G n σ a) (hE:Ext B n G G') (hn:n<=n'):Sl G' n' σ a:=⟨h.1.mono hE.F,fun t=>(h.2 t).mono hE hn⟩
theorem Since.trans {w0:World} {G0 G':Gh} {n0:Nat} {H':AH} {w':World} (h:Since B w0 G0 n0 H G w) (k:Since B w G H.next H' G' w'):Since B w0 G0 n0 H' G' w':=h.step k.tr k.ex k.le
theorem Since.kL {w0:World} {G0:Gh} {n0:Nat} (h:Since B w0 G0 n0 H G w) {r:Nat} {o':Obj} (hr:w0.heap.size<=r):Since B w0 G0 n0 H G (w.putObj r o'):=⟨h.tr.kL hr,h.ex,h.le⟩
end
def elemV (agg:Bool) (vs:Array Value):Value:=if agg then .agg vs else vs.getD 0 undef
def Qk (P:Program) (g:FuncId) (sz:Nat) (agg:Bool):Prop:=
  ∀(l m:Nat) (bx:Addr) (n:Nat) (J:Nat->World->Prop) (Jx:World->Prop) (W:World),n<=1099511627776->
    (∃ad cap,W.cell? bx=some (.slice ad n cap))->
    (∀k W,J (k+1) W-> ∃b o cap vs,W.cell? bx=some (.slice (some ⟨b,o,none⟩) n cap)/\k<n/\vs.size=sz/\(∀j x,vs[j]? =some x->W.cell? ⟨b,o+k*sz+j,none⟩=some x)/\
      YieldAt (Wd none) m P l #[.int .i64 k,elemV agg vs] W fun e W'=>(e= .returned (.bool true)/\J k W')\/(e= .returned (.bool false)/\Jx W'))->
    J n W->CallsIn (Wd none) m P g #[.func (.yield l) #[] #[],.pointer (some bx)] W fun e W'=>(∃v,e= .returned v)/\(J 0 W'\/Jx W')
theorem Nv {ro:Option Nat} {n n':Nat} {P:Program} {l:Nat} {f:FuncId} {tmps:Array Value} {assign body:Code} {w:World} {R:Ending->World->Prop} (h:RoundIn (Wd ro) n P l f tmps assign body w R):RoundIn (Wd ro) n' P l f tmps assign body w R:=
  ⟨h.1,fun c cs _=>h.2 c cs (fun _ hd=>by simp [Fence.wide]at hd)⟩
end Go.VL
end
section
namespace Go.VL
variable [Glob]
def Bq (pr:List (aS×Bool)):List Nat:=(List.range pr.length).filter fun i=>match pr[i]? with|some (_,d)=>d|none=>false
theorem KO {pr:List (aS×Bool)} (i:Nat):i∈Bq pr↔ ∃o,pr[i]? =some (o,true):=by
  unfold Bq;rw [List.mem_filter,List.mem_range];constructor
  · rintro⟨h1,h2⟩;cases e:pr[i]? with
    |none=>rw [e]at h2;cases h2
    |some x=>
      obtain⟨o,d⟩:=x;rw [e]at h2;simp only at h2;exact⟨o,by rw [h2]⟩
  · rintro⟨o,e⟩;refine⟨(List.getElem?_eq_some_iff.1 e).1,?_⟩;rw [e]
inductive AC where
  |skip
  |ops (l:List aS)
  |par (pr:List (aS×Bool)) (post:List aS)
  |Si (ms:List Nat) (pr:List (aS×Bool)) (post:List aS)
  |seq (a b:AC)
  |cond (c:AE) (a b:AC)
  |block (id:Nat) (a:AC)
  |loop (a:AC)
  |rf (f:AE) (p q:Nat) (a b:AC)
  |exit (id:Nat)
  |ret
inductive Ex where
  |normal|exit (id:Nat)|ret
abbrev Post:=Ex->(Nat->PV)->AH->Prop
def X7 (step:(Ex->(Nat->PV)->AH->Prop)->(Nat->PV)->AH->Prop) (Q:Post) (σ:Nat->PV) (H:AH):Prop:=
  ∀X:(Nat->PV)->AH->Prop,(∀σ H,step (fun e σ' H'=>match e with| .normal=>X σ' H'|e=>Q e σ' H') σ H->X σ H)->X σ H
def zo (K:(Nat->PV)->AH->Prop) (Q:Post):Post:=fun e σ H=>match e with
  | .normal=>K σ H
  |e=>Q e σ H
def Ql (id:Nat) (Q:Post):Post:=fun e σ H=>match e with
  | .exit i=>if i=id then Q .normal σ H else Q (.exit i) σ H
  |e=>Q e σ H
def F6 (K:(Nat->PV)->AH->Prop):Post:=fun e σ H=>match e with
  | .normal=>K σ H
  |_=>False
def adx (Q:Post) (σ:Nat->PV) (X:AH->Prop):Post:=fun e _ H=>match e with
  | .normal=>X H
  | .exit i=>Q (.exit i) σ H
  | .ret=>Q .ret σ H
def BX (agg:Bool) (cs:List PV):PV:=if agg then .agg cs else cs.headD .any
def DF (step:Post->(Nat->PV)->AH->Prop) (Q:Post) (σ:Nat->PV) (id:Nat) (o:List PV) (p q:Nat) (vs:List PV):Nat->AH->Prop
  |0,H=>Q .normal σ H
  |k+1,H=>H.obj id=some o/\ ∃v,vs[k]? =some v/\step (adx Q σ (DF step Q σ id o p q vs k)) (upd (upd σ (some p) (.int .i64 k)) (some q) v) H
theorem Qm {step:Post->(Nat->PV)->AH->Prop} (hs: ∀Q Q':Post,(∀e σ H,Q e σ H->Q' e σ H)-> ∀σ H,step Q σ H->step Q' σ H) {Q Q':Post} (hq: ∀e σ H,Q e σ H->Q' e σ H) {σ:Nat->PV} {id:Nat} {o:List PV} {p q:Nat} {vs:List PV}:
    ∀(k:Nat) (H:AH),DF step Q σ id o p q vs k H->DF step Q' σ id o p q vs k H
  |0,H,h=>hq _ _ _ h
  |k+1,H,⟨h1,v,h2,h3⟩=>⟨h1,v,h2,hs _ _ (fun e σ' H' hQ=>by
      cases e with
      |normal=>exact Qm hs hq k H' hQ
      |exit i=>exact hq _ _ _ hQ
      |ret=>exact hq _ _ _ hQ) _ _ h3⟩
def W (P:Program):AC->Post->(Nat->PV)->AH->Prop
  | .skip,Q,σ,H=>Q .normal σ H
  | .ops l,Q,σ,H=>dz P l (Q .normal) σ H
  | .par pr post,Q,σ,H=> ∃C:AH->Prop,C H/\iP P C pr (dz P post (Q .normal)) σ H
  | .Si ms pr post,Q,σ,H=> ∃val:Nat->PV,yT P ms pr (dz P post (Q .normal)) σ (Bq pr).length (Bq pr) val H
  | .seq a b,Q,σ,H=>W P a (zo (fun σ' H'=>W P b Q σ' H') Q) σ H
  | .cond c a b,Q,σ,H=>match c.ev σ with
    | .bool t=>(t=true->W P a Q σ H)/\(t=false->W P b Q σ H)
    |_=>False
  | .block id a,Q,σ,H=>W P a (Ql id Q) σ H
  | .loop a,Q,σ,H=>X7 (W P a) Q σ H
  | .rf f p q a b,Q,σ,H=>match f.ev σ with
    | .fn (.func g) [] [.ref id 0]=> ∃sz agg es c,Enters P g/\Qk P g sz agg/\0<sz/\H.obj id=some [.aB es c]/\es.length<=1099511627776/\I9 sz es/\
        DF (fun Q' σ' H'=>W P a (F6 (fun vE iw=>W P b Q' vE iw)) σ' H') Q σ id [.aB es c] p q (es.map (BX agg)) es.length H
    |_=>False
  | .exit id,Q,σ,H=>Q (.exit id) σ H
  | .ret,Q,σ,H=>Q .ret σ H
theorem vF {P:Program}: ∀{l:List aS} {K K':(Nat->PV)->AH->Prop} {σ:Nat->PV} {H:AH},(∀σ H,K σ H->K' σ H)->dz P l K σ H->dz P l K' σ H
  |[],_,_,_,_,hk,h=>hk _ _ h
  |o::l,K,K',σ,H,hk,h=>by
    simp only [dz]at*;split
    · rename_i hg;simp only [hg]at h;exact vD (fun _ _ h=>vF hk h) h
    · rename_i hg;simp only [hg]at h;split
      · rename_i hb;simp only [hb]at h;split
        · rename_i hw;rw [if_pos hw]at h;exact vD (fun _ _ h=>vF hk h) h
        · rename_i hw;rw [if_neg hw]at h;exact vF hk h
      · rename_i hb;simp only [hb]at h;exact vF hk h
      · rename_i hb hb2;split at h
        · rename_i b' hb';exact absurd hb' (hb b')
        · rename_i hb';exact absurd hb' hb2
        · exact h
theorem F7 {P:Program} {C:AH->Prop}: ∀{l:List (aS×Bool)} {K K':(Nat->PV)->AH->Prop} {σ:Nat->PV} {H:AH},(∀σ H,K σ H->K' σ H)->iP P C l K σ H->iP P C l K' σ H
  |[],_,_,_,_,hk,h=>hk _ _ h
  |(o,d)::l,K,K',σ,H,hk,h=>by
    simp only [iP]at*;rcases h with⟨h1,h2⟩|⟨h1,h2⟩
    · exact .inl ⟨h1,F7 hk h2⟩
    · refine .inr ⟨h1,?_⟩;cases d with
      |true=>obtain⟨p,H',g1,g2,g3⟩:=h2;exact⟨p,H',g1,g2,F7 hk g3⟩
      |false=>obtain⟨p,g1,g3⟩:=h2;exact⟨p,g1,F7 hk g3⟩
theorem ady {step:Post->(Nat->PV)->AH->Prop} (hs: ∀Q Q':Post,(∀e σ H,Q e σ H->Q' e σ H)-> ∀σ H,step Q σ H->step Q' σ H) {Q Q':Post} (hq: ∀e σ H,Q e σ H->Q' e σ H) {σ:Nat->PV} {H:AH}
    (h:X7 step Q σ H):X7 step Q' σ H:=by
  intro X hX;refine h X fun σ H hst=>hX σ H (hs _ _ (fun e σ H hQ=> ?_) σ H hst);cases e with
  |normal=>exact hQ
  |exit i=>exact hq _ _ _ hQ
  |ret=>exact hq _ _ _ hQ
theorem zq {P:Program}: ∀{c:AC} {Q Q':Post},(∀e σ H,Q e σ H->Q' e σ H)-> ∀{σ:Nat->PV} {H:AH},W P c Q σ H->W P c Q' σ H
  | .skip,_,_,hq,_,_,h=>hq _ _ _ h
  | .ops l,_,_,hq,_,_,h=>vF (hq .normal) h
  | .par pr post,_,_,hq,_,_,h=>by
    obtain⟨C,h1,h2⟩:=h;exact⟨C,h1,F7 (fun _ _ h=>vF (hq .normal) h) h2⟩
  | .Si ms pr post,_,_,hq,_,_,h=>by
    obtain⟨val,h1⟩:=h;exact⟨val,YB (fun _ _ h=>vF (hq .normal) h) _ _ _ _ h1⟩
  | .seq a b,Q,Q',hq,σ,H,h=>by
    simp only [W]at*;refine zq (c:=a) (fun e σ H h=> ?_) h;cases e with
    |normal=>exact zq (c:=b) hq h
    |exit i=>exact hq _ _ _ h
    |ret=>exact hq _ _ _ h
  | .cond c a b,Q,Q',hq,σ,H,h=>by
    simp only [W]at*;split
    · rename_i t ht;simp only [ht]at h;exact⟨fun e=>zq (c:=a) hq (h.1 e),fun e=>zq (c:=b) hq (h.2 e)⟩
    · rename_i hno;split at h
      · rename_i t ht;exact absurd ht (hno t)
      · exact h
  | .block id a,Q,Q',hq,σ,H,h=>by
    simp only [W]at*;refine zq (c:=a) (fun e σ H h=> ?_) h;cases e with
    |normal=>exact hq _ _ _ h
    |exit i=>
      simp only [Ql]at*;split
      · rename_i hi;rw [if_pos hi]at h;exact hq _ _ _ h
      · rename_i hi;rw [if_neg hi]at h;exact hq _ _ _ h
    |ret=>exact hq _ _ _ h
  | .loop a,Q,Q',hq,σ,H,h=>by
    simp only [W]at*;exact ady (step:=W P a) (fun Q Q' hq σ H h=>zq (c:=a) hq h) hq h
  | .rf f p q a b,Q,Q',hq,σ,H,h=>by
    simp only [W]at*;split
    · rename_i g id hf;simp only [hf]at h;obtain⟨sz,agg,es,c,h1,h2,h3,h4,h5,h6,h7⟩:=h;refine⟨sz,agg,es,c,h1,h2,h3,h4,h5,h6,Qm (step:=fun Q' σ' H'=>W P a (F6 (fun vE iw=>W P b Q' vE iw)) σ' H') (fun Q1 Q2 h12 σ' H' hs=>zq (c:=a) (fun e vE iw hh=> ?_) hs) hq _ _ h7⟩;cases e with
      |normal=>exact zq (c:=b) h12 hh
      |exit i=>exact hh
      |ret=>exact hh
    · rename_i hno;split at h
      · rename_i g id hf;exact absurd hf (hno g id)
      · exact h
  | .exit id,_,_,hq,_,_,h=>hq _ _ _ h
  | .ret,_,_,hq,_,_,h=>hq _ _ _ h
theorem anm {P:Program} {a:AC} {Q:Post} {σ:Nat->PV} {H:AH} (h:W P a (zo (fun σ' H'=>W P (.loop a) Q σ' H') Q) σ H):W P (.loop a) Q σ H:=by
  show X7 (W P a) Q σ H
  intro X hX;refine hX σ H (zq (c:=a) (fun e σ' H' hQ=> ?_) h);cases e with
  |normal=>exact hQ X hX
  |exit i=>exact hQ
  |ret=>exact hQ
def Qn (dc:Nat->Bool):AK->Bool
  | .d _=>true
  | .n (.app ..)| .n (.R9 ..)| .n (.copy ..)| .n (.clr ..)=>true
  | .call (.c (.fn (.func f) _ _)) _=>dc f
  |_=>false
def splitAt (ops:List Oper):Nat:=
  let ms:=masks ops []
  (List.range ops.length).foldl (fun k j=>if(List.range j).all (fun i=>fG ms i j)then k else j+1) 0
def AC.Ow:AC->Bool
  | .rf .. =>false
  | .seq a b| .cond _ a b=>a.Ow&&b.Ow
  | .block _ a| .loop a=>a.Ow
  |_=>true
def comp (P:Program) (rm:Bool) (N:Nat) (dc:Nat->Bool):Code->Option AC
  | .skip=>some .skip
  | .region _ ops draw=>match mh P rm N ops ops.toList with
    |some az=>if draw then
        (let n:=splitAt ops.toList
         let pr:=(az.take n).map fun o=>(o,Qn dc o.k)
         if(ajz ops.toList pr&& !(dc 1000000&&pr.any (·.2)))=true then some (.par pr (az.drop n))else if afh ops.toList pr then some (.Si (masks ops.toList []) pr (az.drop n))else none)
      else some (.ops az)
    |none=>none
  | .seq a b=>match comp P rm N dc a,comp P rm N dc b with
    |some x,some y=>some (.seq x y)
    |_,_=>none
  | .cond c a b=>match cop c,comp P rm N dc a,comp P rm N dc b with
    |some e,some x,some y=>some (.cond e x y)
    |_,_,_=>none
  | .block id a=>match comp P rm N dc a with
    |some x=>some (.block id x)
    |none=>none
  | .loop a=>match comp P rm N dc a with
    |some x=>some (.loop x)
    |none=>none
  | .exit id=>some (.exit id)
  | .ret=>some .ret
  | .rangeFunc f ps a b=>match cop f,ps.toList,comp P rm N dc a,comp P rm N dc b with
    |some e,[p,q],some x,some y=>if p<N/\q<N/\x.Ow=true/\y.Ow=true then some (.rf e p q x y)else none
    |_,_,_,_=>none
  |_=>none
def ano:Ex->Exit
  | .normal=> .normal
  | .exit i=> .exit i
  | .ret=> .ret
section
variable {P:Program} {rm:Bool} {B:Nat->Prop} {k0 N mm:Nat} {ro:Option Nat} {w0:World} {G0:Gh} {n0:Nat}
def QOf (B:Nat->Prop) (k0 N:Nat) (w0:World) (G0:Gh) (n0:Nat) (Q:Post):Exit->Act->World->Prop:=fun x a w=>
  ∃e σ H G,x=ano e/\Q e σ H/\Rl B k0 N σ H G a w/\Since B w0 G0 n0 H G w
def Qo (F:Fence) (n:Nat) (P:Program) (c:Code) (Q:Exit->Act->World->Prop) (a:Act) (w:World):Prop:=
  ∀(b:Frame) (k:List Item) (cs:List Frame),b.roundOf=F.round->F.fn b.fn->F.room (cs.length+1+n)->
    ∃e a' w',Q e a' w'/\ArrivesIn (Machine.fenced P F) P (lone (b.atR a (.code c:: .inLoop c::k)) cs w) b k cs e a' w'
theorem YE {F:Fence} {n:Nat} {c:Code} {Q:Exit->Act->World->Prop} {a:Act} {w:World} (h:c.wpIn F n P (Exit.then (fun a' w'=>Qo F n P c Q a' w') Q) a w):Qo F n P c Q a w:=by
  intro b k cs hro hb hr;obtain⟨e,a₁,w₁,hq,harr⟩:=h b (.inLoop c::k) cs hro hb hr;cases e with
  |normal=>
    obtain⟨e₂,a₂,w₂,hq₂,harr₂⟩:=hq b k cs hro hb hr;exact⟨e₂,a₂,w₂,hq₂,.of_steps (StepsIn.trans harr (.one (fenced_calm hb hr rfl) stepR_inLoop)) harr₂⟩
  |exit id=>exact⟨_,a₁,w₁,hq,.pass (x:= .inLoop c) rfl (fun _ _=> .inl (by simp)) harr⟩
  |goto l=>exact⟨_,a₁,w₁,hq,.pass (x:= .inLoop c) rfl (fun _ _=> .inl (by simp)) harr⟩
  |ret=>exact⟨_,a₁,w₁,hq,.pass (x:= .inLoop c) rfl (fun _ _=> .inl (by simp)) harr⟩
  |panic ch=>exact⟨_,a₁,w₁,hq,.pass (x:= .inLoop c) rfl (fun _ _=> .inl (by simp)) harr⟩
  |outgrown=>exact⟨_,a₁,w₁,hq,.pass (x:= .inLoop c) rfl (fun _ _=> .inl (by simp)) harr⟩
theorem Sj {F:Fence} {n:Nat} {c:Code} {Q:Exit->Act->World->Prop} {a:Act} {w:World} (h:Qo F n P c Q a w):(Code.loop c).wpIn F n P Q a w:=by
  intro b k cs hro hb hr;obtain⟨e,a',w',hq,harr⟩:=h b k cs hro hb hr;exact⟨e,a',w',hq,.of_steps (.one (fenced_calm hb hr rfl) stepR_loop) harr⟩
theorem ahn {f:Operand} {ps:Array Tmp} {x y:Code} {e:AE} {p q:Nat} {ax ay:AC} {mm:Nat} {w0:World} {G0:Gh} {n0:Nat} {Q:Post} {σ:Nat->PV} {H:AH} {G:Gh} {a:Act} {w:World} (he:cop f=some e) (hps:ps.toList=[p,q]) (hp:p<N) (hq:q<N)
    (YF: ∀(ro:Option Nat) (mm:Nat) (w0:World) (G0:Gh) (n0:Nat) (Q:Post) (σ:Nat->PV) (H:AH) (G:Gh) (a:Act) (w:World),W P ax Q σ H->Rl B k0 N σ H G a w->Since B w0 G0 n0 H G w->x.wpIn (Wd ro) mm P (QOf B k0 N w0 G0 n0 Q) a w)
    (ihy: ∀(ro:Option Nat) (mm:Nat) (w0:World) (G0:Gh) (n0:Nat) (Q:Post) (σ:Nat->PV) (H:AH) (G:Gh) (a:Act) (w:World),W P ay Q σ H->Rl B k0 N σ H G a w->Since B w0 G0 n0 H G w->y.wpIn (Wd ro) mm P (QOf B k0 N w0 G0 n0 Q) a w)
    (hW:W P (.rf e p q ax ay) Q σ H) (hR:Rl B k0 N σ H G a w) (hS:Since B w0 G0 n0 H G w):(Code.rangeFunc f ps x y).wpIn (Wd none) mm P (QOf B k0 N w0 G0 n0 Q) a w:=by
  simp only [W]at hW;split at hW
  · rename_i g id hf;obtain⟨sz,agg,es,c,hent,hbk,hsz0,avk,hlen,hsz,hB⟩:=hW;have hV:=fF hR.sl he;rw [hf]at hV;obtain rfl:ps=#[p,q]:=by
      apply Array.ext'
      simpa using hps
    generalize hfv:a.eval f=fv at hV;cases hV with
    |fn _ _ _ vs us h1 h2 h3 h4=>
    have hvs:vs=#[]:=Array.eq_empty_of_size_eq_zero (by simpa using h1);subst hvs;obtain⟨u0,rfl⟩: ∃u0,us=#[u0]:=by
      have:us.toList.length=1:=by simpa using h3
      match us,this with
      |⟨[u0]⟩,_=>exact⟨u0,rfl⟩
    have hu:=h4 0 (.ref id 0) u0 rfl rfl;cases hu with
    |ref _ _ bb hid hmid=>
    let rec' (fn:FuncId) (st:LoopState) (pe:Option Code):Loop:={state:=st,pending:=pe,fn,tmps:=a.tmps,params:=#[p,q],assign:=x,body:=y,defers:=w.heap.size}
    refine wpIn_rangeFunc ?_;intro fn _
    let W1:=(w.alloc (.deferred (some []))).alloc (.loop (rec' fn .ready none))
    have aAW:W1.heap.size=w.heap.size+2:=by simp [W1]
    have hL1:W1.heap[w.heap.size+1]? =some (.loop (rec' fn .ready none)):=by
      have:=World.alloc_heap_new (w.alloc (.deferred (some []))) (.loop (rec' fn .ready none));rwa [World.size_alloc]at this
    have hD1:W1.heap[w.heap.size]? =some (.deferred (some [])):=(heap_alloc_old _ _ _ (by simp)).trans (World.alloc_heap_new w _);have avl:Tr B w W1:=(Tr.alloc w _).trans (Tr.alloc _ _);have hM1:HM B H G W1:=(hR.hm.Qj _).Qj _
    let vals:=es.map (BX agg)
    let step:Post->(Nat->PV)->AH->Prop:=fun Q' σ' H'=>W P ax (F6 (fun vE iw=>W P ay Q' vE iw)) σ' H'
    let J:Nat->World->Prop:=fun k W=> ∃H' G',DF step Q σ id [.aB es c] p q vals k H'/\HM B H' G' W/\Since B w G H.next H' G' W/\W.heap[w.heap.size+1]? =some (.loop (rec' fn .ready none))/\W.heap[w.heap.size]? =some (.deferred (some []))
    let Jx:World->Prop:=fun W=> ∃code H' G',((∃i,code=Code.exit i/\Q (.exit i) σ H')\/(code=Code.ret/\Q .ret σ H'))/\HM B H' G' W/\Since B w G H.next H' G' W/\W.heap[w.heap.size+1]? =some (.loop (rec' fn .done (some code)))/\W.heap[w.heap.size]? =some (.deferred (some []))
    have hrun:(invoke (Target.fn (.func g) #[.pointer (some ⟨bb,0,none⟩)]) #[.func (.yield (w.heap.size+1)) #[] #[]]).run P W1= .ok (.enter g #[.func (.yield (w.heap.size+1)) #[] #[],.pointer (some ⟨bb,0,none⟩)]) W1:=by
      obtain⟨fn',hfn',hbody,hname⟩:=hent;have hb: ¬(fn'.body=none):=by intro hq;rw [hq]at hbody;cases hbody
      have hn: ¬(fn'.name= "runtime.NumGoroutine"):=by simpa using hname
      simp [invoke,callFunc,hfn',hn,hb]
    refine⟨w.heap.size+1,[{target:= .collected w.heap.size,args:=#[]}],W1,{target:= .fn (.func g) #[.pointer (some ⟨bb,0,none⟩)],args:=#[.func (.yield (w.heap.size+1)) #[] #[]]},W1,g,
      #[.func (.yield (w.heap.size+1)) #[] #[],.pointer (some ⟨bb,0,none⟩)],W1,run_enterLoop_outer _ _ _ _ _,?_,fun _ _=>trivial,hrun,fun hd=>absurd hd (by simp [Fence.wide]),?_⟩
    · simp only [resolve,rangeCall,hfv];simp [go_sem]
    · refine(hbk (w.heap.size+1) (mm -1) ⟨bb,0,none⟩ es.length J Jx W1 hlen ?_ ?_ ⟨H,G,hB,hM1,⟨avl,Ext.refl B _ G,Nat.le_refl _⟩,hL1,hD1⟩).mono ?_
      · obtain⟨u,hu1,hu2⟩:=YD hM1 avk hmid;cases hu2 with
        |aB _ _ s ad cap _ _ _ _ _ _=>exact⟨ad,cap,hu1⟩
      ·
        rintro k W ⟨H',G',hBk,hM',hS',hL',hD'⟩;obtain⟨ho,v,hvk,hst⟩:=hBk;have hm':G'.m id=some bb:=(hS'.ex.m id hid).trans hmid;obtain⟨u,hu1,hu2⟩:=YD hM' ho hm';have hcs: ∃cs,es[k]? =some cs/\BX agg cs=v:=by simpa [List.getElem?_map,Option.map_eq_some_iff,vals]using hvk
        obtain⟨cs,hcs1,hcs2⟩:=hcs;have aho:k<es.length:=(List.getElem?_eq_some_iff.1 hcs1).1;have adz:cs.length=sz:=hsz cs (List.mem_of_getElem? hcs1);cases hu2 with
        |aB _ _ s ad cap f g1 g2 g3 g4 g5=>
        obtain rfl:s=sz:=(g1 k cs hcs1).symm.trans adz;obtain⟨b,o,rfl,hF⟩:=g3 (fun h=>by rw [h]at aho;simp at aho)
        let vs:Array Value:=((List.range s).map (f k)).toArray
        have ahp:vs.size=s:=by simp [vs]
        have adA: ∀j,j<s->vs[j]? =some (f k j):=fun j hj=>by simp [vs,hj]
        have hVe:V G' H'.next v (elemV agg vs):=by
          rw [<-hcs2];unfold BX elemV;cases agg with
          |true=>
            refine .agg cs vs (by rw [ahp,adz]) fun j c' x ec ex=> ?_;have hj:j<s:=by rw [<-adz];exact(List.getElem?_eq_some_iff.1 ec).1
            rw [adA j hj]at ex;cases ex;exact g4 k cs j c' hcs1 ec
          |false=>
            have h0:=adA 0 hsz0;have hc0:cs[0]? =some (cs.headD .any):=by
              cases cs with
              |nil=>simp at adz;omega
              |cons c0 l=>rfl
            have:=g4 k cs 0 _ hcs1 hc0;simpa [Array.getD_eq_getD_getElem?,h0]using this
        refine⟨b,o,cap,vs,hu1,aho,ahp,fun j x ex=> ?_,?_⟩
        · have hj:j<s:=by rw [<-ahp];exact(Array.getElem?_eq_some_iff.1 ex).1
          rw [adA j hj]at ex;cases ex;exact hM'.pq _ _ (hF k cs hcs1 j (cs[j]'(by omega)) (by simp))
        · refine⟨fn,_,x,y,run_yield hL' rfl,?_⟩;refine roundIn_of_wpIn (F:=Wd none) trivial ?_;have hsl:Sl G' H'.next (upd (upd σ (some p) (.int .i64 k)) (some q) v) {tmps:=((#[p,q].zip #[Value.int .i64 k,elemV agg vs]).foldl (fun t (x:Nat×Value)=>t.setIfInBounds x.1 x.2) a.tmps),defers:=[]}:=by
            have s1:=hR.sl.upd (N:=N) hS'.ex hS'.le hR.sz (d:=some p) (by simpa [Jd]using hp) (.int .i64 (k:Int));have s2:=s1.upd (N:=N) (Ext.refl B _ _) (Nat.le_refl _) (by rw [Yw];exact hR.sz) (d:=some q) (by simpa [Jd]using hq) hVe;have hz:((#[p,q].zip #[Value.int .i64 k,elemV agg vs]).foldl (fun t (x:Nat×Value)=>t.setIfInBounds x.1 x.2) a.tmps)=((a.put (some p) (.int .i64 (k:Int))).put (some q) (elemV agg vs)).tmps:=by simp [Act.put]
            rw [hz];exact⟨s2.1,s2.2⟩
          have hmk:Marks k0 [] W:=⟨Nat.le_trans hR.df.1 hS'.tr.size,[],.nil,rfl,by simp⟩
          have hRr:Rl B k0 N (upd (upd σ (some p) (.int .i64 k)) (some q) v) H' G' {tmps:=((#[p,q].zip #[Value.int .i64 k,elemV agg vs]).foldl (fun t (x:Nat×Value)=>t.setIfInBounds x.1 x.2) a.tmps),defers:=[]} W:=
            ⟨hsl,by simp [hR.sz],hmk,hR.up.tr hS'.tr,hM'⟩
          refine Code.wpIn_mono ?_ (YF (some (w.heap.size+1)) (mm -1) W G' H'.next _ _ _ _ _ _ hst hRr (Since.refl B W G' H'));rintro e1 a1 w1 ⟨e1,σ1,H1,G1,rfl,hq1,hR1,hS1⟩;cases e1 with
          |exit i=>exact hq1.elim
          |ret=>exact hq1.elim
          |normal=>
            have hL1':=hS1.tr.FX _ _ hL' rfl;have avm:=hS1.tr.FX _ _ hD' rfl;have t1:Since B w G H.next H1 G1 w1:=hS'.trans hS1;refine⟨_,run_beginRound hL1' rfl,?_⟩
            have avn:Rl B k0 N σ1 H1 G1 a1 (w1.putObj (w.heap.size+1) (.loop {rec' fn .ready none with state:= .busy})):=
              ⟨hR1.sl,hR1.sz,hR1.df.kL hL1' (by simp),hR1.up.kL _ _,hR1.hm.kL hL1' rfl rfl⟩
            have hL2:(w1.putObj (w.heap.size+1) (.loop {rec' fn .ready none with state:= .busy})).heap[w.heap.size+1]? =some (.loop {rec' fn .ready none with state:= .busy}):=World.putObj_heap_same (Array.getElem?_eq_some_iff.1 hL1').1;have hD2:(w1.putObj (w.heap.size+1) (.loop {rec' fn .ready none with state:= .busy})).heap[w.heap.size]? =some (.deferred (some [])):=(World.putObj_heap_other (by omega)).trans avm;have t2:=t1.kL (r:=w.heap.size+1) (o':= .loop {rec' fn .ready none with state:= .busy}) (by omega);refine Code.wpIn_mono ?_ (ihy (some (w.heap.size+1)) (mm -1) _ G1 H1.next _ _ _ _ _ _ hq1 avn (Since.refl B _ G1 H1));rintro e2 a2 w3 ⟨e2,σ2,H2,G2,rfl,hq2,hR2,hS2⟩;have hL3:=hS2.tr.FX _ _ hL2 rfl;have hD3:=hS2.tr.FX _ _ hD2 rfl;have t3:Since B w G H.next H2 G2 w3:=t2.trans hS2
            have fin: ∀(o':Obj),o'.isCells=false->HM B H2 G2 (w3.putObj (w.heap.size+1) o')/\Since B w G H.next H2 G2 (w3.putObj (w.heap.size+1) o')/\(w3.putObj (w.heap.size+1) o').heap[w.heap.size+1]? =some o'/\(w3.putObj (w.heap.size+1) o').heap[w.heap.size]? =some (.deferred (some [])):=
              fun o' ho'=>⟨hR2.hm.kL hL3 rfl ho',t3.kL (by omega),World.putObj_heap_same (Array.getElem?_eq_some_iff.1 hL3).1,(World.putObj_heap_other (by omega)).trans hD3⟩
            cases e2 with
            |normal=>
              refine⟨_,_,run_endRound none hL3,.inl ⟨rfl,H2,G2,hq2,?_⟩⟩;exact fin _ rfl
            |exit i=>
              refine⟨_,_,run_endRound (some (.exit i)) hL3,.inr ⟨rfl,.exit i,H2,G2,.inl ⟨i,rfl,hq2⟩,?_⟩⟩;exact fin _ rfl
            |ret=>
              refine⟨_,_,run_endRound (some .ret) hL3,.inr ⟨rfl,.ret,H2,G2,.inr ⟨rfl,hq2⟩,?_⟩⟩;exact fin _ rfl
      · rintro ex W' ⟨⟨v,rfl⟩,hj⟩
        have key: ∀(H':AH) (G':Gh) (st:LoopState) (pe:Option Code),HM B H' G' W'->Since B w G H.next H' G' W'->W'.heap[w.heap.size+1]? =some (.loop (rec' fn st pe))->W'.heap[w.heap.size]? =some (.deferred (some []))->
            Rl B k0 N σ H' G' {a with defers:=[{target:= .collected w.heap.size,args:=#[]}]++a.defers} (W'.putObj (w.heap.size+1) (.loop {rec' fn st pe with state:= .exhausted}))/\
            Since B w0 G0 n0 H' G' (W'.putObj (w.heap.size+1) (.loop {rec' fn st pe with state:= .exhausted})):=by
          intro H' G' st pe hM' hS' hL' hD';have hu:Up B W':=hR.up.tr hS'.tr;obtain⟨m0,rs,m1,m2,m3⟩:=hR.df;refine⟨⟨?_,hR.sz,?_,hu.kL _ _,hM'.kL hL' rfl rfl⟩,(hS.trans hS').kL ?_⟩
          · have:=hR.sl.mono hS'.ex hS'.le;exact⟨this.1,this.2⟩
          · refine⟨by rw [World.putObj_size];exact Nat.le_trans m0 hS'.tr.size,w.heap.size::rs,List.nodup_cons.2 ⟨fun hm=> ?_,m1⟩,by simp [m2],fun r hr=> ?_⟩
            · have:=(Array.getElem?_eq_some_iff.1 (m3 _ hm).2).1;omega
            · rcases List.mem_cons.1 hr with rfl|hr
              · exact⟨m0,(World.putObj_heap_other (by omega)).trans hD'⟩
              · have hlt:=(Array.getElem?_eq_some_iff.1 (m3 _ hr).2).1;exact⟨(m3 r hr).1,(World.putObj_heap_other (by omega)).trans (hS'.tr.FX _ _ (m3 r hr).2 rfl)⟩
          · have:=hS.tr.size;omega
        rcases hj with⟨H',G',hB0,hM',hS',hL',hD'⟩|⟨code,H',G',hcode,hM',hS',hL',hD'⟩
        · obtain⟨r1,r2⟩:=key H' G' _ _ hM' hS' hL' hD';exact⟨none,_,run_endLoop hL' (by simp [rec']),⟨.normal,σ,H',G',rfl,hB0,r1,r2⟩⟩
        · obtain⟨r1,r2⟩:=key H' G' _ _ hM' hS' hL' hD';refine⟨some code,_,run_endLoop hL' (by simp [rec']),?_⟩;rcases hcode with⟨i,rfl,hQ⟩|⟨rfl,hQ⟩
          · exact wpIn_exit ⟨.exit i,σ,H',G',rfl,hQ,r1,r2⟩
          · exact wpIn_ret ⟨.ret,σ,H',G',rfl,hQ,r1,r2⟩
  · cases hW
theorem alx (adB:P.follows .mixedOrders=true) (dc:Nat->Bool): ∀(c:Code) (ro:Option Nat) (mm:Nat) (w0:World) (G0:Gh) (n0:Nat) (ac:AC) (Q:Post) (σ:Nat->PV) (H:AH) (G:Gh) (a:Act) (w:World),(ro=none\/ac.Ow=true)->comp P rm N dc c=some ac->W P ac Q σ H->
    Rl B k0 N σ H G a w->Since B w0 G0 n0 H G w->c.wpIn (Wd ro) mm P (QOf B k0 N w0 G0 n0 Q) a w:=by
  intro c
  induction c with
  |skip=>
    intro ro mm w0 G0 n0 ac Q σ H G a w hro hc hW hR hS;simp [comp]at hc;subst hc;exact wpIn_skip ⟨.normal,σ,H,G,rfl,hW,hR,hS⟩
  |region rid ops draw=>
    intro ro mm w0 G0 n0 ac Q σ H G a w hro hc hW hR hS;unfold comp at hc;split at hc
    · rename_i az has;have hQ': ∀σ H G a w,Q .normal σ H->Rl B k0 N σ H G a w->Since B w0 G0 n0 H G w->QOf B k0 N w0 G0 n0 Q .normal a w:=fun σ H G a w h1 h2 h3=>⟨.normal,σ,H,G,rfl,h1,h2,h3⟩
      cases draw with
      |false=>
        simp at hc;subst hc;exact wpIn_region_list (zn hQ' ops.toList az σ H G a w has hW hR hS)
      |true=>
        simp only [if_true]at hc;split at hc
        · rename_i hok;cases hc;obtain⟨C,hC0,hW⟩:=hW;obtain⟨val,hp,h0,h1,h2,h3⟩:=Qg _ σ H hC0 hW;generalize hpr:((az.take (splitAt ops.toList)).map fun o=>(o,Qn dc o.k))=pr at*
          have hsplit:pr.map (·.1)++az.drop (splitAt ops.toList)=az:=by
            rw [<-hpr,List.map_map];have:((fun x:aS×Bool=>x.1)∘fun o=>(o,Qn dc o.k))=id:=rfl;rw [this,List.map_id,List.take_append_drop]
          have hlen:=(pF has).1;have Ox:pr.length<=ops.toList.length:=by rw [<-hlen,<-hpr];simp;omega
          refine wpIn_region_any adB ?_;have hsl:lG pr val (bM (Array.replicate ops.size false)) σ=σ:=by
            funext t
            rw [uE pr val _ σ 0 t (fun i o e _=>⟨fun h=>by
              exfalso;simp only [bM,Array.getD_eq_getD_getElem?]at h;rw [Array.getElem?_replicate]at h;split at h<;>simp at h,fun h=>by omega⟩),Ou]
          have hno: ∀i,¬bM (Array.replicate ops.size false) i:=fun i h=>by
            simp only [bM,Array.getD_eq_getD_getElem?]at h;rw [Array.getElem?_replicate]at h;split at h<;>simp at h
          have hRd:Rl B k0 N (lG pr val (bM (Array.replicate ops.size false)) σ) (hp 0) G a {w with drawn:=w.drawn+1}:=by
            rw [hsl,h0];exact⟨hR.sl,hR.sz,hR.df.tr (B:=B) ⟨Nat.le_refl _,fun _ _ _=>rfl,rfl,rfl,rfl,fun _ _ h _=>h⟩,hR.up,hR.hm.drew⟩
          have hSd:Since B w0 G0 n0 (hp 0) G {w with drawn:=w.drawn+1}:=by
            rw [h0];exact⟨⟨hS.tr.size,hS.tr.same,hS.tr.os,hS.tr.tape,hS.tr.output,hS.tr.FX⟩,hS.ex,hS.le⟩
          exact alv hQ' (by rw [hsplit];exact has) (adt Ox (Bool.and_eq_true_iff.1 hok).1) h1 h2 h3 ops.size (Array.replicate ops.size false) 0 G a _ (Nat.zero_le _) (by simp) (by simp [List.countP_replicate]) (fun i h=>absurd h (hno i)) (fun j o e h=>absurd h (hno j))
            (fun i o e=>⟨fun h=>absurd h (hno i),fun h=>by omega⟩) hRd hSd
        · split at hc
          · rename_i hok;cases hc;obtain⟨val,hW⟩:=hW;generalize hpr:((az.take (splitAt ops.toList)).map fun o=>(o,Qn dc o.k))=pr at*
            have hsplit:pr.map (·.1)++az.drop (splitAt ops.toList)=az:=by
              rw [<-hpr,List.map_map];have:((fun x:aS×Bool=>x.1)∘fun o=>(o,Qn dc o.k))=id:=rfl;rw [this,List.map_id,List.take_append_drop]
            have hlen:=(pF has).1;have Ox:pr.length<=ops.toList.length:=by rw [<-hlen,<-hpr];simp;omega
            refine wpIn_region_any adB ?_;have hno: ∀i,¬bM (Array.replicate ops.size false) i:=fun i h=>by
              simp only [bM,Array.getD_eq_getD_getElem?]at h;rw [Array.getElem?_replicate]at h;split at h<;>simp at h
            have hsl:lG pr val (bM (Array.replicate ops.size false)) σ=σ:=by
              funext t
              rw [uE pr val _ σ 0 t (fun i o e _=>⟨fun h=>absurd h (hno i),fun h=>by omega⟩),Ou]
            have hRd:Rl B k0 N (lG pr val (bM (Array.replicate ops.size false)) σ) H G a {w with drawn:=w.drawn+1}:=by
              rw [hsl];exact⟨hR.sl,hR.sz,hR.df.tr (B:=B) ⟨Nat.le_refl _,fun _ _ _=>rfl,rfl,rfl,rfl,fun _ _ h _=>h⟩,hR.up,hR.hm.drew⟩
            have hSd:Since B w0 G0 n0 H G {w with drawn:=w.drawn+1}:=⟨⟨hS.tr.size,hS.tr.same,hS.tr.os,hS.tr.tape,hS.tr.output,hS.tr.FX⟩,hS.ex,hS.le⟩
            exact anl hQ' (by rw [hsplit];exact has) (abu Ox hok) _ _ val H hW (fun i hi=>(KO i).1 hi) ops.size (Array.replicate ops.size false) G a _ (by simp) (by simp [List.countP_replicate]) (fun i h=>absurd h (hno i)) (fun j o e h=>absurd h (hno j))
              (fun i o e=>⟨fun h=>absurd h (hno i),fun h=>absurd ((KO i).2 ⟨o,e⟩) h⟩) hRd hSd
          · cases hc
    · cases hc
  |seq x y YF ihy=>
    intro ro mm w0 G0 n0 ac Q σ H G a w hro hc hW hR hS;unfold comp at hc;split at hc
    · rename_i ax ay hx hy;cases hc;simp only [W]at hW;refine wpIn_seq (Code.wpIn_mono ?_ (YF ro mm w0 G0 n0 ax _ σ H G a w (hro.imp_right fun h=>(Bool.and_eq_true _ _▸h:_/\_).1) hx hW hR hS));rintro e a' w' ⟨e',σ',H',G',rfl,hq,hR',hS'⟩;cases e' with
      |normal=>exact ihy ro mm w0 G0 n0 ay Q σ' H' G' a' w' (hro.imp_right fun h=>(Bool.and_eq_true _ _▸h:_/\_).2) hy hq hR' hS'
      |exit i=>exact⟨.exit i,σ',H',G',rfl,hq,hR',hS'⟩
      |ret=>exact⟨.ret,σ',H',G',rfl,hq,hR',hS'⟩
    · cases hc
  |cond c x y YF ihy=>
    intro ro mm w0 G0 n0 ac Q σ H G a w hro hc hW hR hS;unfold comp at hc;split at hc
    · rename_i e ax ay he hx hy;cases hc;simp only [W]at hW;split at hW
      · rename_i t ht;have hV:=fF hR.sl he;rw [ht]at hV;generalize hv:a.eval c=v at hV;cases hV;cases t with
        |true=>exact wpIn_cond_true hv (YF ro mm w0 G0 n0 ax Q σ H G a w (hro.imp_right fun h=>(Bool.and_eq_true _ _▸h:_/\_).1) hx (hW.1 rfl) hR hS)
        |false=>exact wpIn_cond_false hv (ihy ro mm w0 G0 n0 ay Q σ H G a w (hro.imp_right fun h=>(Bool.and_eq_true _ _▸h:_/\_).2) hy (hW.2 rfl) hR hS)
      · cases hW
    · cases hc
  |block id x ih=>
    intro ro mm w0 G0 n0 ac Q σ H G a w hro hc hW hR hS;unfold comp at hc;split at hc
    · rename_i ax hx;cases hc;simp only [W]at hW;refine wpIn_block (Code.wpIn_mono ?_ (ih ro mm w0 G0 n0 ax _ σ H G a w hro hx hW hR hS));rintro e a' w' ⟨e',σ',H',G',rfl,hq,hR',hS'⟩;cases e' with
      |normal=>exact⟨.normal,σ',H',G',rfl,hq,hR',hS'⟩
      |exit i=>
        simp only [Ql]at hq;simp only [ano,Exit.inBlock];split
        · rename_i hi;rw [if_pos hi]at hq;exact⟨.normal,σ',H',G',rfl,hq,hR',hS'⟩
        · rename_i hi;rw [if_neg hi]at hq;exact⟨.exit i,σ',H',G',rfl,hq,hR',hS'⟩
      |ret=>exact⟨.ret,σ',H',G',rfl,hq,hR',hS'⟩
    · cases hc
  |loop x ih=>
    intro ro mm w0 G0 n0 ac Q σ H G a w hro hc hW hR hS;unfold comp at hc;split at hc
    · rename_i ax hx;cases hc;have key:=hW (fun σ H=> ∀G a w,Rl B k0 N σ H G a w->Since B w0 G0 n0 H G w->Qo (Wd ro) mm P x (QOf B k0 N w0 G0 n0 Q) a w) ?_
      · exact Sj (key G a w hR hS)
      · intro σ H hst G a w hR hS;refine YE (Code.wpIn_mono ?_ (ih ro mm w0 G0 n0 ax _ σ H G a w hro hx hst hR hS));rintro e a' w' ⟨e',σ',H',G',rfl,hq,hR',hS'⟩;cases e' with
        |normal=>exact hq G' a' w' hR' hS'
        |exit i=>exact⟨.exit i,σ',H',G',rfl,hq,hR',hS'⟩
        |ret=>exact⟨.ret,σ',H',G',rfl,hq,hR',hS'⟩
    · cases hc
  |exit id=>
    intro ro mm w0 G0 n0 ac Q σ H G a w hro hc hW hR hS;simp [comp]at hc;subst hc;exact wpIn_exit ⟨.exit id,σ,H,G,rfl,hW,hR,hS⟩
  |ret=>
    intro ro mm w0 G0 n0 ac Q σ H G a w hro hc hW hR hS;simp [comp]at hc;subst hc;exact wpIn_ret ⟨.ret,σ,H,G,rfl,hW,hR,hS⟩
  |rangeFunc f ps x y YF ihy=>
    intro ro mm w0 G0 n0 ac Q σ H G a w hro hc hW hR hS;unfold comp at hc;split at hc
    · rename_i e p q ax ay he hps hx hy;split at hc
      · rename_i hcond;cases hc;have avo:ro=none:=hro.resolve_right (by simp [AC.Ow]);subst avo;exact ahn he hps hcond.1 hcond.2.1 (fun ro mm w0 G0 n0 Q σ H G a w=>YF ro mm w0 G0 n0 ax Q σ H G a w (.inr hcond.2.2.1) hx) (fun ro mm w0 G0 n0 Q σ H G a w=>ihy ro mm w0 G0 n0 ay Q σ H G a w (.inr hcond.2.2.2) hy) hW hR hS
      · cases hc
    · cases hc
  |scope=>intro ro mm w0 G0 n0 ac Q σ H G a w hro hc;simp [comp]at hc
  |label=>intro ro mm w0 G0 n0 ac Q σ H G a w hro hc;simp [comp]at hc
  |goto=>intro ro mm w0 G0 n0 ac Q σ H G a w hro hc;simp [comp]at hc
  |refuse=>intro ro mm w0 G0 n0 ac Q σ H G a w hro hc;simp [comp]at hc
end
end Go.VL
end
section
namespace Go.VL
variable [Glob]
inductive RV where
  |tmp (t:Nat)
  |cell (t sz:Nat) (agg:Bool)
def adC (σ:Nat->PV) (H:AH):RV->Option PV
  | .tmp t=>some (σ t)
  | .cell t sz agg=>En H sz agg (σ t)
def Jf (σ:Nat->PV) (H:AH):List RV->Option (List PV)
  |[]=>some []
  |r::l=>match adC σ H r,Jf σ H l with
    |some p,some ps=>some (p::ps)
    |_,_=>none
def packed:List PV->PV
  |[p]=>p
  |ps=> .dJ ps
def Sk (rs:List RV) (K:PV->AH->Prop):Post:=fun e σ H=>match e with
  | .exit _=>False
  |_=>match Jf σ H rs with
    |some ps=>K (packed ps) H
    |none=>False
def KP (P:Program):List ResultVar->Option (List RV)
  |[]=>some []
  | .tmp t::l=>(KP P l).map fun r=> .tmp t::r
  | .cell a t::l=>match P.underlying t,sizeT P t,KP P l with
    |some _,some s,some r=>some (.cell a s (Bo P t)::r)
    |_,_,_=>none
def V4 (args:List PV):Nat->PV:=fun t=>(args[t]?).getD .any
structure bf (P:Program) (dc:Nat->Bool) (rm:Bool) (f:FuncId) (n:Nat) (rs:List RV) (ac:AC):Prop where
  mix:P.follows .mixedOrders=true
  ok: ∃fn c,P.funcs[f]? =some fn/\fn.body=some c/\(fn.name== "runtime.NumGoroutine")=false/\fn.ntmps=n/\comp P rm n dc c=some ac/\KP P fn.results.toList=some rs
section
variable {P:Program} {B:Nat->Prop} {G:Gh} {H:AH} {σ:Nat->PV} {a:Act} {w:World}
theorem Oy (hs:Sl G H.next σ a) (hM:HM B H G w): ∀{l:List ResultVar} {rs:List RV} {ps:List PV},KP P l=some rs->Jf σ H rs=some ps->
    ∃vs:List Value,(l.mapM (fun| .tmp t=>pure (a.tmps.getD t undef)| .cell x t=>do loadVar t (<-asAddr (a.tmps.getD x undef)):ResultVar->Sem Value)).run P w= .ok vs w/\vs.length=ps.length/\
      ∀(j:Nat) (p:PV) (v:Value),ps[j]? =some p->vs[j]? =some v->V G H.next p v
  |[],rs,ps,h,hr=>by
    simp [KP]at h;subst h;simp [Jf]at hr;subst hr;exact⟨[],by simp,rfl,by simp⟩
  | .tmp t::l,rs,ps,h,hr=>by
    simp only [KP,Option.map_eq_some_iff]at h;obtain⟨r,h1,rfl⟩:=h;unfold Jf at hr;split at hr
    · rename_i p ps' hp hps;cases hr;simp only [adC,Option.some.injEq]at hp;subst hp;obtain⟨vs,g1,g2,g3⟩:=Oy hs hM h1 hps;refine⟨a.tmps.getD t undef::vs,?_,by simp [g2],fun j p v e e'=> ?_⟩
      · simp only [List.mapM_cons,Sem.run_bind,Sem.run_pure,Result.andThen_ok,g1]
      · cases j with
        |zero=>simp only [List.getElem?_cons_zero,Option.some.injEq]at e e';subst e;subst e';exact hs.2 t
        |succ j=>simp at e e';exact g3 j p v e e'
    · cases hr
  | .cell x t::l,rs,ps,h,hr=>by
    unfold KP at h;split at h
    · rename_i d s r hd hsz h1;cases h;unfold Jf at hr;split at hr
      · rename_i p ps' hp hps;cases hr;simp only [adC]at hp;obtain⟨v0,q1,q2⟩:=Qa (P:=P) hM hsz (by simp [hd]) (hs.2 x) hp;obtain⟨vs,g1,g2,g3⟩:=Oy hs hM h1 hps;have q1':(do loadVar t (<-asAddr (a.tmps.getD x undef)):Sem Value).run P w= .ok v0 w:=by
          generalize a.tmps.getD x undef=u at q1;cases u with
          |pointer ad=>
            cases ad with
            |none=>simp [Instr.loadAt,Instr.sureAddr]at q1
            |some ad=>simpa [Instr.loadAt,Instr.sureAddr,asAddr]using q1
          |_=>simp [Instr.loadAt,Instr.sureAddr]at q1
        refine⟨v0::vs,?_,by simp [g2],fun j p v e e'=> ?_⟩
        · simp only [List.mapM_cons,Sem.run_bind,Sem.run_pure]at q1'⊢;rw [q1'];simp only [Result.andThen_ok,g1]
        · cases j with
          |zero=>simp only [List.getElem?_cons_zero,Option.some.injEq]at e e';subst e;subst e';exact q2
          |succ j=>simp at e e';exact g3 j p v e e'
      · cases hr
    · cases h
theorem abw (hs:Sl G H.next σ a) (hM:HM B H G w) {fn:Func} {rs:List RV} {ps:List PV} (h:KP P fn.results.toList=some rs) (hr:Jf σ H rs=some ps):
    ∃v,(results fn a.tmps).run P w= .ok v w/\V G H.next (packed ps) v:=by
  obtain⟨vs,h1,h2,h3⟩:=Oy hs hM h hr;have hrun:(fn.results.mapM (fun| .tmp t=>pure (a.tmps.getD t undef)| .cell x t=>do loadVar t (<-asAddr (a.tmps.getD x undef)):ResultVar->Sem Value)).run P w= .ok vs.toArray w:=by
    rw [Array.mapM_eq_mapM_toList,Sem.run_map,h1];rfl
  refine⟨if h:vs.toArray.size=1 then vs.toArray[0]else .tuple vs.toArray,?_,?_⟩
  · unfold results;rw [Sem.run_bind];exact(congrArg (fun r:Result (Array Value)=>r.andThen fun a w'=>Sem.run P (pure (if h:a.size=1 then a[0]else Value.tuple a)) w') hrun).trans rfl
  · match ps,vs,h2,h3 with
    |[],[],_,_=>exact .dJ [] #[] rfl (by simp)
    |[p],[v],_,h3=>exact h3 0 p v rfl rfl
    |p::q::ps,u::v::vs,h2,h3=>
      have: ¬((u::v::vs).toArray.size=1):=by simp
      rw [dif_neg this];exact .dJ _ _ (by simpa using h2) (fun j c x e e'=>h3 j c x e (by simpa using e'))
theorem KQ {ro:Option Nat} {mm:Nat} {fn:Func} {tmps:Array Value} {R:Ending->World->Prop}: ∀(rs:List Nat) (w:World),rs.Nodup->(∀r∈rs,w.heap[r]? =some (.deferred (some [])))->HM B H G w->
    (∀w',HM B H G w'->w.heap.size=w'.heap.size->(∀k,k∉rs->w'.heap[k]? =w.heap[k]?)->w'.os=w.os->w'.tape=w.tape->w'.output=w.output-> ∃v,(results fn tmps).run P w'= .ok v w'/\R (.returned v) w')->
    LeavesInM (Wd ro) mm P fn tmps R (rs.map fun r=>{target:= .collected r,args:=#[]}) .returning w
  |[],w,_,_,hM,h=>h w hM rfl (fun _ _=>rfl) rfl rfl rfl
  |r::rs,w,hn,hr,hM,h=>by
    have hr0:=hr r (List.mem_cons_self ..);rw [List.nodup_cons]at hn;refine⟨by simp,.inl ⟨r,w.putObj r (.deferred none),rfl,run_takeDeferred hr0,KQ rs _ hn.2 (fun r' hr'=> ?_) (hM.kL hr0 rfl rfl) fun w' h1 h2 h3 h4 h5 h6=> ?_⟩⟩
    · have hne:r'≠r:=fun e=>hn.1 (e▸hr');exact(World.putObj_heap_other hne).trans (hr r' (List.mem_cons_of_mem _ hr'))
    · refine h w' h1 (by rw [<-h2];simp) (fun k hk=> ?_) h4 h5 h6;rw [h3 k (fun e=>hk (List.mem_cons_of_mem _ e))];have hne:k≠r:=fun e=>hk (by rw [e];exact List.mem_cons_self ..);exact World.putObj_heap_other hne
theorem aG {rm:Bool} {dc:Nat->Bool} {f:FuncId} {n:Nat} {rs:List RV} {ac:AC} {args:List PV} {K:PV->AH->Prop} (hf:bf P dc rm f n rs ac) (hl:args.length<=n) (hW:W P ac (Sk rs K) (V4 args) H):bE P f args H K:=by
  obtain⟨adB,fn,c,h1,h2,h3,h4,h5,h6⟩:=hf;refine⟨⟨fn,h1,by simp [h2],h3⟩,fun B G w vs hU hM hv=> ?_⟩;refine(Qe (ro:=none) (n:=0)).1 (callsIn_of_wp_marks h1 h2 trivial ?_);have hsz:vs.size=args.length:=hv.1
  let a0:Act:={tmps:=vs++Array.replicate (fn.ntmps -vs.size) undef,defers:=[]}
  have hR:Rl B w.heap.size n (V4 args) H G a0 w:=by
    refine⟨⟨hM.glob,fun t=> ?_⟩,by simp [a0];omega,⟨Nat.le_refl _,[],.nil,rfl,by simp⟩,hU,hM⟩;unfold V4;cases ht:args[t]? with
    |none=>exact .any _
    |some p=>
      have hlt:t<args.length:=by
        rcases Nat.lt_or_ge t args.length with h'|h'
        · exact h'
        · rw [List.getElem?_eq_none h']at ht;cases ht
      have e:a0.tmps.getD t undef=vs[t]'(by omega):=by
        simp only [a0,Array.getD_eq_getD_getElem?];rw [Array.getElem?_append_left (by omega)];simp [hsz,hlt]
      rw [e];exact hv.2 t p _ ht (by simp)
  refine Code.wpIn_mono ?_ (alx adB dc c none 0 w G H.next ac (Sk rs K) (V4 args) H G a0 w (.inl rfl) h5 hW hR (Since.refl B w G H));rintro x a' w' ⟨e,σ',H',G',rfl,hq,hR',hS'⟩;have fin: ∀ps,Jf σ' H' rs=some ps->K (packed ps) H'->LeavesInM (Wd none) 0 P fn a'.tmps (fun e w'=> ∃r v H' G',e= .returned v/\Tr B w w'/\Ext B H.next G G'/\H.next<=H'.next/\HM B H' G' w'/\V G' H'.next r v/\K r H') a'.defers .returning w':=by
    intro ps hp hk;obtain⟨_,ms,m1,m2,m3⟩:=hR'.df;rw [m2];refine KQ ms w' m1 (fun r hr=>(m3 r hr).2) hR'.hm fun w'' g1 g2 g3 g4 g5 g6=> ?_;obtain⟨v,hv1,hv2⟩:=abw hR'.sl g1 h6 hp;have hnot: ∀b,b<w.heap.size->b∉ms:=fun b hb hm=>by have:=(m3 b hm).1;omega
    exact⟨v,hv1,packed ps,v,H',G',rfl,⟨by rw [<-g2];exact hS'.tr.size,fun b hb hB=>(g3 b (hnot b hb)).trans (hS'.tr.same b hb hB),g4.trans hS'.tr.os,g5.trans hS'.tr.tape,g6.trans hS'.tr.output,fun b o e ho=>(g3 b (hnot b (Array.getElem?_eq_some_iff.1 e).1)).trans (hS'.tr.FX b o e ho)⟩,hS'.ex,hS'.le,g1,hv2,hk⟩
  cases e with
  |exit i=>exact hq.elim
  |normal=>
    simp only [Sk]at hq;split at hq
    · rename_i ps hp;exact fin ps hp hq
    · cases hq
  |ret=>
    simp only [Sk]at hq;split at hq
    · rename_i ps hp;exact fin ps hp hq
    · cases hq
end
end Go.VL
end
section
namespace Go.VL
variable [Glob]
section
variable {P:Program} {Q:Post} {σ:Nat->PV} {H:AH}
theorem aU {a:AC} (h: ∀K:(Nat->PV)->AH->Prop,(∀σ H,W P (.loop a) Q σ H->K σ H)->W P a (zo K Q) σ H):W P (.loop a) Q σ H:=anm (h _ fun _ _ h=>h)
theorem avp {f:AE} {p q:Nat} {a b:AC} {g id sz:Nat} {agg:Bool} {es:List (List PV)} {c:Ck} (hf:f.ev σ= .fn (.func g) [] [.ref id 0]) (he:Enters P g) (hb:Qk P g sz agg) (h0:0<sz) (ho:H.obj id=some [.aB es c]) (hl:es.length<=1099511627776) (hs:I9 sz es)
    (h:DF (fun Q' σ' H'=>W P a (F6 (fun vE iw=>W P b Q' vE iw)) σ' H') Q σ id [.aB es c] p q (es.map (BX agg)) es.length H):W P (.rf f p q a b) Q σ H:=by
  simp only [W,hf];exact⟨sz,agg,es,c,he,hb,h0,ho,hl,hs,h⟩
theorem YG (K:(Nat->PV)->AH->Prop):zo K Q .normal σ H=K σ H:=rfl
theorem adD (K:(Nat->PV)->AH->Prop) (i:Nat):zo K Q (.exit i) σ H=Q (.exit i) σ H:=rfl
theorem afj (K:(Nat->PV)->AH->Prop):zo K Q .ret σ H=Q .ret σ H:=rfl
theorem yL (d:Nat) (v:PV) (t:Nat):upd σ (some d) v t=if t=d then v else σ t:=rfl
theorem ahq (v:PV):upd σ none v=σ:=rfl
theorem afk {d:Option Nat} {k:DK} {l:List aS} {K:(Nat->PV)->AH->Prop}:dz P (⟨d,.d k,none⟩::l) K σ H=(match jH k σ H with|some (p,H')=>dz P l K (upd σ d p) H'|none=>False):=rfl
theorem Ie {d:Option Nat} {k:NK} {l:List aS} {K:(Nat->PV)->AH->Prop}:dz P (⟨d,.n k,none⟩::l) K σ H=nop k (fun p H'=>dz P l K (upd σ d p) H') σ H:=rfl
theorem aA {g:FuncId} {args:List PV} {r:PV} {K:PV->AH->Prop} (h:aF P g args r) (hk:K r H):bE P g args H K:=(h H).mono fun _ _ ⟨h1,h2⟩=>by subst h1;subst h2;exact hk
theorem aly:evs σ []=[]:=rfl
theorem ahr (x:AE) (l:List AE):evs σ (x::l)=x.ev σ::evs σ l:=rfl
theorem avq (n:Nat):(AE.t n).ev σ=σ n:=rfl
theorem avr (v:PV):(AE.c v).ev σ=v:=rfl
theorem Xp (p:PV) (l:List PV):V4 (p::l) 0=p:=rfl
theorem asg (p q:PV) (l:List PV):V4 (p::q::l) 1=q:=rfl
theorem ash (p q r:PV) (l:List PV):V4 (p::q::r::l) 2=r:=rfl
theorem asi (p q r s:PV) (l:List PV):V4 (p::q::r::s::l) 3=s:=rfl
theorem ahs {C:AH->Prop} {K:(Nat->PV)->AH->Prop}:iP P C [] K σ H=K σ H:=rfl
theorem dR {C:AH->Prop} {d:Option Nat} {k:RK} {l:List (aS×Bool)} {K:(Nat->PV)->AH->Prop} (p:PV) (hp: ∀H',C H'->rop k σ H'=some p) (h:iP P C l K (upd σ d p) H):
    iP P C ((⟨d,.r k,none⟩,false)::l) K σ H:=by
  refine .inr ⟨trivial,p,fun H' hC=> ?_,h⟩;simp [iR,hp H' hC]
theorem Qp {C:AH->Prop} {d:Option Nat} {k:DK} {l:List (aS×Bool)} {K:(Nat->PV)->AH->Prop} (p:PV) (H':AH) (hp:jH k σ H=some (p,H')) (hC:C H') (h:iP P C l K (upd σ d p) H'):
    iP P C ((⟨d,.d k,none⟩,true)::l) K σ H:=by
  refine .inr ⟨trivial,p,H',?_,hC,h⟩;simp [iR,hp]
theorem yU {C:AH->Prop} {d:Option Nat} {g:FuncId} {fs cs:List PV} {az:List AE} {l:List (aS×Bool)} {K:(Nat->PV)->AH->Prop} (p:PV) (hp:aF P g (fs++evs σ az++cs) p) (h:iP P C l K (upd σ d p) H):
    iP P C ((⟨d,.call (.c (.fn (.func g) fs cs)) az,none⟩,false)::l) K σ H:=
  .inr ⟨trivial,p,fun H' hC=>hp H',h⟩
theorem alz {C:AH->Prop} {d:Option Nat} {k:AK} {s:Nat} {want b:Bool} {l:List (aS×Bool)} {K:(Nat->PV)->AH->Prop} (hs:σ s= .bool want) (h:iP P C ((⟨d,k,none⟩,b)::l) K σ H):
    iP P C ((⟨d,k,some (s,want)⟩,b)::l) K σ H:=by
  rcases h with⟨h,_⟩|⟨_,h⟩
  · exact h.elim
  · exact .inr ⟨hs,h⟩
theorem YH {C:AH->Prop} {d:Option Nat} {k:AK} {s:Nat} {want b:Bool} {l:List (aS×Bool)} {K:(Nat->PV)->AH->Prop} (hs:σ s= .bool (!want)\/σ s= .dJ []) (h:iP P C l K (upd σ d ud) H):
    iP P C ((⟨d,k,some (s,want)⟩,b)::l) K σ H:= .inl ⟨hs,h⟩
end
attribute [go_sem] YG adD afj yL ahq aly ahr avq avr Xp asg ash asi
attribute [go_sem] rop jH X4 H8 P9 Ed isEq adk Dz yP En nI putCells jZ BS Sk Jf adC packed
attribute [go_sem] List.getElem?_map List.getElem?_cons_zero List.getElem?_cons_succ Option.map_some Option.map_none List.length_cons List.length_nil List.length_map List.nil_append List.append_nil List.cons_append Option.getD_some
end Go.VL
end
section
namespace Go.VL
variable [Glob]
inductive Sc:PV->Prop where
  |bool (b:Bool):Sc (.bool b)
  |int (k:IntKind) (x:Int):Sc (.int k x)
  |str (s:List UInt8):Sc (.str s)
  |any:Sc .any
  |dJ (cs:List PV) (h: ∀c∈cs,Sc c):Sc (.dJ cs)
theorem V.sc {G G':Gh} {n n':Nat} {p:PV} {v:Value} (k:V G n p v) (hp:Sc p):V G' n' p v:=by
  induction k with
  |any v=>exact .any v
  |bool b=>exact .bool b
  |int k x=>exact .int k x
  |str s=>exact .str s
  |dJ cs vs h1 _ ih=>
    cases hp with
    |dJ _ h=>exact .dJ cs vs h1 (fun j c x hc hx=>ih j c x hc hx (h c (List.mem_of_getElem? hc)))
  |_=>cases hp
theorem aF.frozen {P:Program} {f:FuncId} {args args':List PV} {r:PV} {H:AH} (hz:args'.length=args.length/\ ∀(j:Nat) (a a':PV),args[j]? =some a->args'[j]? =some a'->Fz H a a') (ha: ∀a∈args',Pu a)
    (h:aF P f args' r) (hr:Sc r):bE P f args H fun v H'=>v=r/\H'=H:=by
  refine⟨(h AH.empty).enters,fun B G w vs hU hM hv=> ?_⟩
  let F0:=(G.froze H w).F
  have hF0: ∀a x,G.F a=some x->F0 a=some x:=fun a x e=>Ec e;have avs: ∀a x,F0 a=some x->w.cell? a=some x:=by
    intro a x e;simp only [F0,Gh.froze]at e;split at e
    · rename_i y hy;cases e;exact hM.pq a x hy
    · split at e
      · exact e
      · cases e
  have hv':Vs ⟨F0,fun _=>none,fun _=>none⟩ 0 args' vs:=⟨hv.1.trans hz.1.symm,fun j c x hc hx=>by
    have hj:j<args.length:=by
      rw [<-hz.1];exact(List.getElem?_eq_some_iff.1 hc).1
    have hf:=hz.2 j args[j] c (by simp) hc;have:=hf.reads hM x (hv.2 j args[j] x (by simp) hx);exact V.pure (fun _ _ e=>e) this (ha c (List.mem_of_getElem? hc))⟩
  refine(((h AH.empty).call (fun b=>w.heap.size<=b) _ w vs (fun b hb=>hb) (HM.empty (fun a x e=>hF0 a x (hM.glob a x e)) avs hM.wh.old) hv')).mono ?_;rintro e w' ⟨q,v,H',G',h1,h2,h3,h4,h5,h6,rfl,rfl⟩;have hold: ∀b,b<w.heap.size->w'.heap[b]? =w.heap[b]? :=fun b hb=>h2.same b hb (by omega);have hlt: ∀b arr t fr,w.heap[b]? =some (.cells arr t fr)->b<w.heap.size:=fun b arr t fr e=>(Array.getElem?_eq_some_iff.1 e).1
  have hM2:HM B H G w':={
    glob:=hM.glob
    pq:=fun a x e=>by
      have hc:=hM.pq a x e;exact(World.cell?_of_block (hold _ (World.block_lt_of_cell? w a hc))).trans hc
    obj:=fun id cs e=>by
      obtain⟨k0,b,arr,t,k1,k2,k3,k4,k5⟩:=hM.obj id cs e;exact⟨k0,b,arr,t,k1,k2,(hold b (hlt _ _ _ _ k3)).trans k3,k4,k5⟩
    inj:=hM.inj
    tok:=fun k e=>by
      obtain⟨k0,b,o,arr,t,k1,k2,k3,k5⟩:=hM.tok k e;exact⟨k0,b,o,arr,t,k1,k2,(hold b (hlt _ _ _ _ k3)).trans k3,k5⟩
    qb:=hM.qb
    tobj:=hM.tobj
    wh:=hM.wh.keep fun b _ hb=>hold b hb}
  exact⟨_,v,H,G,h1,⟨h2.size,fun b hb _=>hold b hb,h2.os,h2.tape,h2.output,h2.FX⟩,Ext.refl B _ G,Nat.le_refl _,hM2,h6.sc hr,rfl,rfl⟩
end Go.VL
end
section
namespace Go.VL
variable [Glob]
section
variable {P:Program} {Q:Post} {σ:Nat->PV} {H:AH} {K:(Nat->PV)->AH->Prop}
def PC (P:Program) (g:FuncId) (args:List PV) (k:PV->Prop):Prop:= ∃p,aF P g args p/\k p
theorem PC.mk {g:FuncId} {args:List PV} {k:PV->Prop} {p:PV} (h:aF P g args p) (hk:k p):PC P g args k:=⟨p,h,hk⟩
theorem anq {pr:List (aS×Bool)} {post:List aS} (h:iP P (·=H) pr (dz P post (Q .normal)) σ H):W P (.par pr post) Q σ H:=⟨(·=H),rfl,h⟩
theorem acv {d:Option Nat} {k:RK} {l:List (aS×Bool)} (h:match rop k σ H with|some p=>iP P (·=H) l K (upd σ d p) H|none=>False):iP P (·=H) ((⟨d,.r k,none⟩,false)::l) K σ H:=by
  cases hr:rop k σ H with
  |none=>rw [hr]at h;exact h.elim
  |some p=>
    rw [hr]at h;exact dR p (fun H' e=>by subst e;exact hr) h
theorem Sm {d:Option Nat} {k:AK} {s:Nat} {want b:Bool} {l:List (aS×Bool)}
    (h:match σ s with| .bool t=>if t=want then iP P (·=H) ((⟨d,k,none⟩,b)::l) K σ H else iP P (·=H) l K (upd σ d ud) H| .dJ []=>iP P (·=H) l K (upd σ d ud) H|_=>False):iP P (·=H) ((⟨d,k,some (s,want)⟩,b)::l) K σ H:=by
  split at h
  · rename_i t ht;split at h
    · rename_i e;subst e;exact alz ht h
    · rename_i e;refine YH (.inl ?_) h;rw [ht];cases t<;>cases want<;>first|rfl|exact absurd rfl e
  · rename_i ht;exact YH (.inr ht) h
  · exact h.elim
theorem DI {d:Option Nat} {g:FuncId} {fs cs:List PV} {az:List AE} {l:List (aS×Bool)} (h:PC P g (fs++evs σ az++cs) fun p=>iP P (·=H) l K (upd σ d p) H):
    iP P (·=H) ((⟨d,.call (.c (.fn (.func g) fs cs)) az,none⟩,false)::l) K σ H:=by
  obtain⟨p,h1,h2⟩:=h;exact yU p h1 h2
theorem AH.alA (cs:List PV) (i:Nat):(H.new cs).obj i=if i=H.next then some cs else H.obj i:=rfl
theorem AH.alB (id:Nat) (cs:List PV) (i:Nat):(H.put id cs).obj i=if i=id then some cs else H.obj i:=rfl
theorem AH.aK (cs:List PV):(H.new cs).next=H.next+1:=rfl
theorem AH.aL (id:Nat) (cs:List PV):(H.put id cs).next=H.next:=rfl
theorem AH.aM:H.tok.next=H.next+1:=rfl
theorem AH.aN (k:Nat):(H.use k).next=H.next:=rfl
end
attribute [go_sem] AH.alA AH.alB AH.aK AH.aL AH.aM AH.aN
theorem alC (k:IntKind) (x:Int):(PV.int k x).one=true:=rfl
theorem aht (b:Bool):(PV.bool b).one=true:=rfl
theorem alD (s:List UInt8):(PV.str s).one=true:=rfl
theorem alE (es:List (List PV)) (c:Ck):(PV.aB es c).one=true:=rfl
theorem alF (a b c d e:Nat):(PV.bV a b c d e).one=true:=rfl
theorem alG (a b:Nat):(PV.ref a b).one=true:=rfl
theorem abx (l:List PV):cellsOf (.agg l)=some l:=rfl
theorem aby (k:IntKind) (x:Int):cellsOf (.int k x)=some [.int k x]:=rfl
theorem YI (b:Bool):cellsOf (.bool b)=some [.bool b]:=rfl
theorem abz (s:List UInt8):cellsOf (.str s)=some [.str s]:=rfl
theorem abA (es:List (List PV)) (c:Ck):cellsOf (.aB es c)=some [.aB es c]:=rfl
theorem abB (a b c d e:Nat):cellsOf (.bV a b c d e)=some [.bV a b c d e]:=rfl
theorem abC (a b:Nat):cellsOf (.ref a b)=some [.ref a b]:=rfl
attribute [go_sem] List.length_take
attribute [go_sem] abx aby YI abz abA abB abC alC aht alD alE alF alG Bool.true_and List.drop_zero List.drop_succ_cons List.take_succ_cons List.take_zero List.all_cons List.all_nil Bool.and_true Bool.and_self List.drop_nil Nat.zero_add Nat.add_zero Nat.le_refl and_self
end Go.VL
end
section
namespace Go.VL
abbrev Br:=List (Nat×IntKind×List Int)
def Br.get (l:Br) (g:Nat):Option (IntKind×List Int):=(l.find? fun x=>x.1==g).map (·.2)
def Br.gc (l:Br) (a:Addr):Option Value:=match a.spot with
  |none=>match l.get a.block with
    |some (k,ns)=>ns[a.off]?.map (Value.int k)
    |none=>none
  |some _=>none
def Br.gv (l:Br) (g:Nat):Option PV:=(l.get g).map fun x=> .eB (x.2.map (.int x.1)) 0
def Br.wb (l:Br) (g:Nat):Option (Array Value):=(l.get g).map fun x=>(x.2.map (Value.int x.1)).toArray
@[reducible] def Glob.anr (l:Br):Glob where
  gc:=l.gc
  gv:=l.gv
  wb:=l.wb
  ok:=by
    intro g p h G n hF;simp only [Br.gv,Option.map_eq_some_iff]at h;obtain⟨⟨k,ns⟩,h1,rfl⟩:=h;have key:=V.eB (G:=G) (n:=n) (ns.map (PV.int k)) 0 g 0 (fun j=> .int k (ns[j]?.getD 0)) (fun j c e=>by
      simp only [List.getElem?_map,Option.map_eq_some_iff]at e;obtain⟨x,hx,rfl⟩:=e;rw [Nat.zero_add];refine hF _ _ ?_;simp only [Br.gc,h1,hx,Option.map_some,Option.getD_some]) (fun j c e=>by
      simp only [List.getElem?_map,Option.map_eq_some_iff]at e;obtain⟨x,hx,rfl⟩:=e;simp only [hx,Option.getD_some];exact .int k x)
    exact key
end Go.VL
end
section
namespace Go.VL
open Go.RowKit
def Fw (w:World):Gh:=⟨w.cell?,fun _=>none,fun _=>none⟩
def Ey (w:World) (ps:List PV) (cs:List Value):Prop:=ps.length=cs.length/\ ∀(j:Nat) (c:PV) (x:Value),ps[j]? =some c->cs[j]? =some x->V (Fw w) 0 c x
def Dec (P:Program) (t:TypeId) (R:List PV->Prop):Prop:= ∀(H:Type) (enc:TypeId×Value->H) (w:World) (fuel:Nat) (cs:List Value) (x:DataW H×List MemPlace),
  DataW.trod enc P w 0 (fun _=>true) true fuel t cs=some x-> ∃ps,Ey w ps cs/\R ps
theorem Ey.one {w:World} {p:PV} {v:Value} (h:V (Fw w) 0 p v):Ey w [p] [v]:=⟨rfl,fun j c x e e'=>by
  cases j with
  |zero=>simp at e e';subst e;subst e';exact h
  |succ j=>simp at e⟩
theorem Ey.app {w:World} {ps qs:List PV} {cs ds:List Value} (h:Ey w ps cs) (k:Ey w qs ds):Ey w (ps++qs) (cs++ds):=⟨by simp [h.1,k.1],fun j c x e e'=>by
  rcases Nat.lt_or_ge j ps.length with hj|hj
  · rw [List.getElem?_append_left hj]at e;rw [List.getElem?_append_left (by rw [<-h.1];exact hj)]at e';exact h.2 j c x e e'
  · rw [List.getElem?_append_right hj]at e;rw [List.getElem?_append_right (by rw [<-h.1];exact hj)]at e';rw [<-h.1]at e';exact k.2 _ c x e e'⟩
section
variable {P:Program}
theorem Dec.int {t:TypeId} {k:IntKind} (ht:P.underlying t=some (.int k)):Dec P t fun l=> ∃n,l=[.int k n]/\k.min<=n/\n<=k.max:=fun H enc w fuel cs x h=>by
  obtain⟨n,rfl,_,hw⟩:=DataW.trod_int ht h;simp only [Lit.wf,Bool.and_eq_true,decide_eq_true_eq]at hw;exact⟨[.int k n],.one (.int k n),n,rfl,hw.1,hw.2⟩
theorem Dec.string {t:TypeId} (ht:P.underlying t=some .string):Dec P t fun l=> ∃s,l=[.str s]/\s.length<=maxLen:=fun H enc w fuel cs x h=>by
  obtain⟨s,rfl,_,hw⟩:=DataW.trod_string ht h;refine⟨[.str s.data.toList],.one ?_,_,rfl,?_⟩
  · have:=V.str (G:=Fw w) (n:=0) s.data.toList;simpa using this
  · rw [Array.length_toList];exact hw
theorem Dec.slice {t e:TypeId} {R:List PV->Prop} (ht:P.underlying t=some (.slice e)) (hc:0<P.cellsOf e) (he:Dec P e R):
    Dec P t fun l=> ∃es,l=[.aB es .unk]/\es.length<=maxLen/\ ∀cs∈es,cs.length=P.cellsOf e/\R cs:=fun H enc w fuel cs x h=>by
  rcases DataW.trod_slice ht h with⟨rfl,_⟩|⟨a,len,cap,elems,rest,n,_,rfl,_,_,hl,hm,hlen,hel,_,_⟩
  · refine⟨[.aB [] .unk],.one ?_,[],rfl,Nat.zero_le _,fun cs h=>by cases h⟩;exact .aB [] .unk 0 none 0 (fun _ _=>default) (by simp) (by simp) (by simp) (by simp) trivial
  have key: ∀i,i<len-> ∃vs ps,w.cells? 0 (a.add (i*P.cellsOf e)) (P.cellsOf e)=some vs/\Ey w ps vs/\R ps:=fun i hi=>by
    have h1:=hel i hi;rw [List.getElem?_eq_getElem (by omega)]at h1;obtain⟨vs,h2,h3⟩:=Option.bind_eq_some_iff.1 h1;obtain⟨ps,h4,h5⟩:=he H enc w n vs _ h3;exact⟨vs,ps,h2,h4,h5⟩
  obtain⟨g,hg⟩: ∃g:Nat->List Value×List PV,∀i,i<len->w.cells? 0 (a.add (i*P.cellsOf e)) (P.cellsOf e)=some (g i).1/\Ey w (g i).2 (g i).1/\R (g i).2:=by
    refine⟨fun i=>if hi:i<len then(Classical.choose (key i hi),Classical.choose (Classical.choose_spec (key i hi)))else([],[]),fun i hi=> ?_⟩;simp only [dif_pos hi];exact Classical.choose_spec (Classical.choose_spec (key i hi))
  have hsz: ∀i,i<len->(g i).1.length=P.cellsOf e/\(g i).2.length=P.cellsOf e:=fun i hi=>by
    obtain⟨h1,h2,_⟩:=hg i hi;have:=(World.cells?_some h1).2.1;exact⟨this,h2.1.trans this⟩
  have hcell: ∀i,i<len-> ∀j,j<P.cellsOf e->w.cell? ((a.add (i*P.cellsOf e)).add j)=(g i).1[j]? :=fun i hi j hj=>(World.cells?_some (hg i hi).1).2.2 j hj
  let es:List (List PV):=(List.range len).map fun i=>(g i).2
  have hes: ∀(i:Nat) (cs:List PV),es[i]? =some cs->i<len/\cs=(g i).2:=fun i cs h=>by
    simp only [es,List.getElem?_map,Option.map_eq_some_iff]at h;obtain⟨y,h1,h2⟩:=h;rw [List.getElem?_eq_some_iff]at h1;obtain⟨h3,h4⟩:=h1;simp at h3 h4;subst h4;exact⟨h3,h2.symm⟩
  have adE:es.length=len:=by simp [es]
  refine⟨[.aB es .unk],?_,es,rfl,by rw [adE];omega,fun cs hcs=> ?_⟩
  · rcases Nat.eq_zero_or_pos len with h0|hpos
    · have:es=[]:=List.eq_nil_of_length_eq_zero (by rw [adE,h0]);refine Ey.one ?_;rw [this,h0];exact .aB [] .unk 0 (some a) cap (fun _ _=>default) (by simp) (by simp) (by simp) (by simp) trivial
    have hspot:a.spot=none:=by
      have h1:=hcell 0 hpos 0 hc;have h2:(g 0).1[0]? =some ((g 0).1[0]'(by have:=(hsz 0 hpos).1;omega)):=by simp
      rw [h2]at h1;have:=World.cell?_spot h1;simpa [Addr.add]using this
    obtain⟨b,o,sp⟩:=a;simp only at hspot;subst hspot;have hadd: ∀o m,(⟨b,o,none⟩:Addr).add m=⟨b,o+m,none⟩:=fun o m=>by
      unfold Addr.add;split
      · rename_i h;subst h;rfl
      · rfl
    refine Ey.one ?_;rw [<-adE];refine .aB es .unk (P.cellsOf e) (some ⟨b,o,none⟩) cap (fun i j=>(g i).1[j]?.getD default) (fun i cs h=> ?_) (by rw [adE];exact hl) (fun _=>⟨b,o,rfl,fun i cs h j c hj=> ?_⟩) (fun i cs j c h hj=> ?_) trivial
    · obtain⟨h1,rfl⟩:=hes i cs h;exact(hsz i h1).2
    · obtain⟨h1,rfl⟩:=hes i cs h;have hjl:j<P.cellsOf e:=by
        rw [<-(hsz i h1).2];exact(List.getElem?_eq_some_iff.1 hj).1
      have h2:=hcell i h1 j hjl;rw [hadd,hadd]at h2;show w.cell? ⟨b,o+i*P.cellsOf e+j,none⟩=_
      rw [h2];have:j<(g i).1.length:=by rw [(hsz i h1).1];exact hjl
      simp [this]
    · obtain⟨h1,rfl⟩:=hes i cs h;have hjl:j<(g i).1.length:=by
        rw [(hsz i h1).1,<-(hsz i h1).2];exact(List.getElem?_eq_some_iff.1 hj).1
      refine(hg i h1).2.1.2 j c _ hj ?_;simp [hjl]
  · obtain⟨i,hi,rfl⟩:=List.mem_map.1 hcs;have hi:=List.mem_range.1 hi;exact⟨(hsz i hi).2,(hg i hi).2.2⟩
def adF (P:Program):Nat->List Field->List (List PV->Prop)->Prop
  |_,[],[]=>True
  |o,f::fs,R::Rs=>f.offset=o/\Dec P f.type R/\adF P (o+P.cellsOf f.type) fs Rs
  |_,_,_=>False
def RFs (P:Program):List Field->List (List PV->Prop)->List PV->Prop
  |[],[],l=>l=[]
  |f::fs,R::Rs,l=> ∃a b,l=a++b/\a.length=P.cellsOf f.type/\R a/\RFs P fs Rs b
  |_,_,_=>False
def Ez (P:Program):List Field->Nat
  |[]=>0
  |f::fs=>P.cellsOf f.type+Ez P fs
theorem V5 {H:Type} {enc:TypeId×Value->H} {w:World} {n:Nat} {cs:List Value}: ∀(fs:List Field) (Rs:List (List PV->Prop)) (o:Nat),adF P o fs Rs->o+Ez P fs=cs.length->
    (∀f∈fs,∃x,DataW.trod enc P w 0 (fun _=>true) true n f.type ((cs.drop f.offset).take (P.cellsOf f.type))=some x)-> ∃ps,Ey w ps (cs.drop o)/\RFs P fs Rs ps
  |[],[],o,_,hs,_=>⟨[],⟨by simp [Ez]at hs;simp;omega,by simp⟩,rfl⟩
  |f::fs,R::Rs,o,⟨h1,h2,h3⟩,hs,ht=>by
    obtain⟨x,hx⟩:=ht f (by simp);obtain⟨qs,h4,h5⟩:=h2 H enc w n _ x hx;obtain⟨ps,h6,h7⟩:=V5 fs Rs _ h3 (by simp only [Ez]at hs;omega) (fun g hg=>ht g (List.mem_cons_of_mem _ hg));have hl:((cs.drop f.offset).take (P.cellsOf f.type)).length=P.cellsOf f.type:=by
      simp only [Ez]at hs;simp only [List.length_take,List.length_drop,h1];omega
    refine⟨qs++ps,?_,qs,ps,rfl,h4.1.trans hl,h5,h7⟩;have:=h4.app h6;rw [h1]at this;rw [show cs.drop o=(cs.drop o).take (P.cellsOf f.type)++cs.drop (o+P.cellsOf f.type) by rw [<-List.drop_drop,List.take_append_drop]];exact this
  |[],_::_,_,h,_,_=>h.elim
  |_::_,[],_,h,_,_=>h.elim
theorem Dec.struct {t:TypeId} {fs:Array Field} {Rs:List (List PV->Prop)} (ht:P.underlying t=some (.struct fs)) (hs:Ez P fs.toList=P.cellsOf t) (hf:adF P 0 fs.toList Rs):Dec P t (RFs P fs.toList Rs):=fun H enc w fuel cs x h=>by
  obtain⟨xs,n,_,_,hl,hn,hi⟩:=DataW.trod_struct ht h;obtain⟨ps,h1,h2⟩:=V5 (enc:=enc) (w:=w) (n:=n) (cs:=cs) fs.toList Rs 0 hf (by omega) (fun f hf=>by
    obtain⟨i,hi',rfl⟩:=List.mem_iff_getElem.1 hf;have h3:=hi i fs[i] (by simp);rw [List.getElem?_eq_getElem (by simpa [hn]using hi')]at h3;exact⟨_,by simpa using h3⟩)
  exact⟨ps,by simpa using h1,h2⟩
theorem Dec.mono {t:TypeId} {R R':List PV->Prop} (h:Dec P t R) (hr: ∀l,R l->R' l):Dec P t R':=fun H enc w fuel cs x e=>by
  obtain⟨ps,h1,h2⟩:=h H enc w fuel cs x e;exact⟨ps,h1,hr _ h2⟩
theorem Dec.arg {t:TypeId} {R:List PV->Prop} (h:Dec P t R) {H:Type} {enc:TypeId×Value->H} {w:World} {v:Value} {d:DataW H} {ps:List MemPlace} (ht:DataW.Trod enc P w 0 (fun _=>true) true t v d ps) (hv:v.cells.toList=[v]):
    ∃q,R q/\Ey w q [v]:=by
  obtain⟨fuel,hf⟩:=ht;rw [hv]at hf;obtain⟨ps,h1,h2⟩:=h H enc w fuel _ _ hf;exact⟨ps,h2,h1⟩
variable [Glob]
theorem bE.top {f:FuncId} {args:List PV} {r:Bool} {W:World} {vs:Array Value} (h:bE P f args AH.empty fun v _=>v= .bool r) (hg: ∀a x,Glob.gc a=some x->W.cell? a=some x) (hw:WH (fun b=>W.heap.size<=b) W) (hv:Ey W args vs.toList):
    Calls P f vs W fun e W'=>e= .returned (.bool r)/\Below W.heap.size W W':=by
  refine(h.call (fun b=>W.heap.size<=b) (Fw W) W vs (fun b hb=>hb) (HM.empty hg (fun a x e=>e) hw) ⟨by simpa using hv.1.symm,fun j c x e e'=>hv.2 j c x e (by simpa using e')⟩).mono ?_;rintro e w' ⟨q,v,H',G',rfl,h2,h3,h4,h5,h6,rfl⟩;cases h6;exact⟨rfl,⟨h2.os,h2.tape,h2.output,h2.size,fun k hk=>h2.same k hk (by omega)⟩⟩
end
end Go.VL
end
section
namespace Go.VL
abbrev Str:=List UInt8
structure Nd where
  kind:Int
  n:Int
  text:Str
  names:List Str
  args:List Int
deriving DecidableEq
def InI (n:Int):Prop:=IntKind.i64.min<=n/\n<=IntKind.i64.max
def aI (s:Str):List PV:=[.str s]
def aY (n:Int):List PV:=[.int .i64 n]
abbrev asj (l:List Str) (c:Ck):PV:= .aB (l.map aI) c
abbrev asl (l:List Int) (c:Ck):PV:= .aB (l.map aY) c
abbrev zu (l:List Str):PV:=asj l .unk
abbrev YJ (l:List Int):PV:=asl l .unk
def Nd.cells (x:Nd):List PV:=[.int .i64 x.kind,.int .i64 x.n,.str x.text,zu x.names,YJ x.args]
abbrev X8 (e:List Nd) (c:Ck):PV:= .aB (e.map Nd.cells) c
abbrev dW (e:List Nd):PV:=X8 e .unk
structure Nd.Wf (x:Nd):Prop where
  kind:InI x.kind
  n:InI x.n
  text:x.text.length<=maxLen
  names:x.names.length<=maxLen
  name: ∀s∈x.names,s.length<=maxLen
  args:x.args.length<=maxLen
  arg: ∀a∈x.args,InI a
def YK (e:List Nd):Prop:=e.length<=maxLen/\ ∀x∈e,x.Wf
theorem BZ {α β:Type} {f:α->β} {p:α->Prop}: ∀{l:List β},(∀y∈l,∃x,y=f x/\p x)-> ∃xs:List α,l=xs.map f/\ ∀x∈xs,p x
  |[],_=>⟨[],rfl,by simp⟩
  |y::l,h=>by
    obtain⟨x,rfl,hx⟩:=h _ (List.mem_cons_self ..);obtain⟨xs,rfl,hxs⟩:=BZ fun z hz=>h z (List.mem_cons_of_mem _ hz);exact⟨x::xs,rfl,fun z hz=>by
      rcases List.mem_cons.1 hz with rfl|hz
      · exact hx
      · exact hxs z hz⟩
section
variable {P:Program}
theorem Dec.strs {t e:TypeId} (ht:P.underlying t=some (.slice e)) (hc:P.cellsOf e=1) (he:P.underlying e=some .string):Dec P t fun l=> ∃ls,l=[zu ls]/\ls.length<=maxLen/\ ∀s∈ls,s.length<=maxLen:=
  (Dec.slice ht (by omega) (Dec.string he)).mono fun l ⟨es,h1,h2,h3⟩=>by
    obtain⟨ls,rfl,h4⟩:=BZ (f:=aI) (p:=fun s=>s.length<=maxLen) fun y hy=>(h3 y hy).2;exact⟨ls,h1,by simpa using h2,h4⟩
theorem Dec.ints {t e:TypeId} (ht:P.underlying t=some (.slice e)) (hc:P.cellsOf e=1) (he:P.underlying e=some (.int .i64)):Dec P t fun l=> ∃ls,l=[YJ ls]/\ls.length<=maxLen/\ ∀n∈ls,InI n:=
  (Dec.slice ht (by omega) (Dec.int he)).mono fun l ⟨es,h1,h2,h3⟩=>by
    obtain⟨ls,rfl,h4⟩:=BZ (f:=aY) (p:=InI) fun y hy=>(h3 y hy).2;exact⟨ls,h1,by simpa using h2,h4⟩
theorem Dec.node {t tS tI tL tN:TypeId} {f0 f1 f2 f3 f4:Field} (ht:P.underlying t=some (.struct #[f0,f1,f2,f3,f4])) (hc:P.cellsOf t=5)
    (h0:f0.type=tI/\f0.offset=0) (h1:f1.type=tI/\f1.offset=1) (h2:f2.type=tS/\f2.offset=2) (h3:f3.type=tL/\f3.offset=3) (h4:f4.type=tN/\f4.offset=4)
    (hS:P.underlying tS=some .string) (hI:P.underlying tI=some (.int .i64)) (hL:P.underlying tL=some (.slice tS)) (hN:P.underlying tN=some (.slice tI))
    (cS:P.cellsOf tS=1) (cI:P.cellsOf tI=1) (cL:P.cellsOf tL=1) (cN:P.cellsOf tN=1):Dec P t fun l=> ∃x:Nd,l=x.cells/\x.Wf:=by
  obtain⟨a0,b0⟩:=h0;obtain⟨a1,b1⟩:=h1;obtain⟨a2,b2⟩:=h2;obtain⟨a3,b3⟩:=h3;obtain⟨a4,b4⟩:=h4
  refine(Dec.struct (Rs:=[_,_,_,_,_]) ht (by simp [Ez,a0,a1,a2,a3,a4,cS,cI,cL,cN,hc])
    ⟨b0,a0▸Dec.int hI,by rw [a0,cI];exact b1,a1▸Dec.int hI,by rw [a0,a1,cI];exact b2,a2▸Dec.string hS,by rw [a0,a1,a2,cI,cS];exact b3,a3▸Dec.strs hL cS hS,by rw [a0,a1,a2,a3,cI,cS,cL];exact b4,a4▸Dec.ints hN cI hI,trivial⟩).mono ?_
  rintro l ⟨l0,r0,rfl,-,⟨kind,rfl,k1,k2⟩,l1,r1,rfl,-,⟨n,rfl,n1,n2⟩,l2,r2,rfl,-,⟨s,rfl,s1⟩,l3,r3,rfl,-,⟨ls,rfl,g1,g2⟩,l4,r4,rfl,-,⟨ns,rfl,m1,m2⟩,rfl⟩;exact⟨⟨kind,n,s,ls,ns⟩,rfl,⟨k1,k2⟩,⟨n1,n2⟩,s1,g1,g2,m1,m2⟩
theorem Dec.expr {t e:TypeId} (ht:P.underlying t=some (.slice e)) (hc:P.cellsOf e=5) (he:Dec P e fun l=> ∃x:Nd,l=x.cells/\x.Wf):Dec P t fun l=> ∃e,l=[dW e]/\YK e:=
  (Dec.slice ht (by omega) he).mono fun l ⟨es,h1,h2,h3⟩=>by
    obtain⟨ls,rfl,h4⟩:=BZ (f:=Nd.cells) (p:=Nd.Wf) fun y hy=>(h3 y hy).2;exact⟨ls,h1,by simpa using h2,h4⟩
end
end Go.VL
end
section
namespace Go.VL
section
variable {H:AH}
theorem F8 {α:Type} {sz:Nat} {f:α->List PV} (hf: ∀x,(f x).length=sz) (l:List α):I9 sz (l.map f):=by
  intro cs h;obtain⟨x,_,rfl⟩:=List.mem_map.1 h;exact hf x
class qV {α:Type} (f:α->List PV) (sz:outParam Nat):Prop where
  len: ∀x,(f x).length=sz
  wkf: ∀x,(f x).map wk=f x
theorem anu {α:Type} {sz:Nat} {f:α->List PV} {l:List α} {c:Ck} {k:IntKind} {n:Int} [hr:qV f sz]:
    pX sz (.aB (l.map f) c) (some (.int k n)) none none=if 0<=n/\n.toNat<=l.length then some (.aB ((l.drop n.toNat).map f) .unk)else none:=by
  simp only [pX,nI];by_cases h1:0<=n
  · by_cases h2:n.toNat<=l.length
    · simp [h1,h2,F8 hr.len,List.map_drop,List.take_of_length_le]
    · simp [h1,h2]
  · simp [h1]
theorem anv {α:Type} {sz:Nat} {f:α->List PV} {l:List α} {c:Ck} {k:IntKind} {n:Int} [hr:qV f sz]:
    pX sz (.aB (l.map f) c) none (some (.int k n)) none=if 0<=n/\n.toNat<=l.length then some (.aB ((l.take n.toNat).map f) .unk)else none:=by
  simp only [pX,nI];by_cases h1:0<=n
  · by_cases h2:n.toNat<=l.length
    · simp [h1,h2,F8 hr.len,List.map_take]
    · simp [h1,h2]
  · simp [h1]
theorem alH {s:List UInt8} {k:IntKind} {n:Int}:xJ (.str s) (some (.int k n)) none=if 0<=n/\n.toNat<=s.length then some (.str (s.drop n.toNat))else none:=by
  simp only [xJ,nI];by_cases h1:0<=n
  · by_cases h2:n.toNat<=s.length
    · simp [h1,h2]
    · simp [h1,h2]
  · simp [h1]
theorem alI {s:List UInt8} {k:IntKind} {n:Int}:xJ (.str s) none (some (.int k n))=if 0<=n/\n.toNat<=s.length then some (.str (s.take n.toNat))else none:=by
  simp only [xJ,nI];by_cases h1:0<=n
  · by_cases h2:n.toNat<=s.length
    · simp [h1,h2]
    · simp [h1,h2]
  · simp [h1]
theorem afm {s:List UInt8} {k k':IntKind} {m n:Int}:xJ (.str s) (some (.int k m)) (some (.int k' n))=if 0<=m/\m<=n/\n.toNat<=s.length then some (.str ((s.take n.toNat).drop m.toNat))else none:=by
  simp only [xJ,nI];by_cases h0:0<=m
  · by_cases h1:0<=n
    · by_cases h4:m<=n
      · have h4':m.toNat<=n.toNat:=by omega
        simp [h0,h1,h4,h4']
      · have h4': ¬m.toNat<=n.toNat:=by omega
        simp [h0,h1,h4,h4']
    · have h4: ¬m<=n:=by omega
      simp [h0,h1,h4]
  · simp [h0]
inductive Lw:List PV->List PV->Prop where
  |nil:Lw [] []
  |same {p:PV} {l m:List PV} (h:Lw l m):Lw (p::l) (p::m)
  |aB {es:List (List PV)} {c:Ck} {l m:List PV} (h:Lw l m):Lw (.aB es c::l) (.aB es .unk::m)
theorem Lw.get {l m:List PV} (h:Lw l m):l.length=m.length/\ ∀(j:Nat) (q:PV),m[j]? =some q-> ∃p,l[j]? =some p/\ ∀(G:Gh) (n:Nat) (v:Value),V G n p v->V G n q v:=by
  induction h with
  |nil=>exact⟨rfl,fun j q e=>by simp at e⟩
  |same _ ih=>
    refine⟨by simp [ih.1],fun j q e=> ?_⟩;cases j with
    |zero=>simp at e;subst e;exact⟨_,rfl,fun _ _ _ h=>h⟩
    |succ j=>simp at e;simpa using ih.2 j q e
  |aB _ ih=>
    refine⟨by simp [ih.1],fun j q e=> ?_⟩;cases j with
    |zero=>simp at e;subst e;exact⟨_,rfl,fun _ _ _ h=>h.wk⟩
    |succ j=>simp at e;simpa using ih.2 j q e
theorem aV {α:Type} {f:α->List PV} (hf: ∀x,∀c∈f x,Pu c) (l:List α):Pu (.aB (l.map f) .unk):=by
  refine .aB _ _ (fun cs h c hc=> ?_) (by simp);obtain⟨x,_,rfl⟩:=List.mem_map.1 h;exact hf x c hc
inductive bg:List PV->Prop where
  |nil:bg []
  |cons {p:PV} {l:List PV} (h:Pu p) (t:bg l):bg (p::l)
theorem bg.mem {l:List PV} (h:bg l): ∀c∈l,Pu c:=by
  induction h with
  |nil=>intro c h;cases h
  |cons h _ ih=>
    intro c hc;rcases List.mem_cons.1 hc with rfl|hc
    · exact h
    · exact ih c hc
inductive KR (H:AH):List PV->List PV->Prop where
  |nil:KR H [] []
  |cons {p q:PV} {l m:List PV} (h:Fz H p q) (t:KR H l m):KR H (p::l) (q::m)
theorem KR.get {l m:List PV} (h:KR H l m):m.length=l.length/\ ∀(j:Nat) (c c':PV),l[j]? =some c->m[j]? =some c'->Fz H c c':=by
  induction h with
  |nil=>exact⟨rfl,fun j c c' e=>by simp at e⟩
  |cons h _ ih=>
    refine⟨by simp [ih.1],fun j c c' e e'=> ?_⟩;cases j with
    |zero=>simp at e e';subst e;subst e';exact h
    |succ j=>simp at e e';exact ih.2 j c c' e e'
theorem anw {id off:Nat} {cs cs':List PV} (ho:H.obj id=some cs) (h:KR H cs cs'):Fz H (.ref id off) (.eB cs' off):= .ref id off cs cs' ho h.get.1 h.get.2
theorem asn {g:Fn} {cs cs':List PV} (h:KR H cs cs'):Fz H (.fn g [] cs) (.fn g [] cs'):= .fn g [] [] cs cs' rfl (fun j c c' e=>by simp at e) h.get.1 h.get.2
theorem dK {l m:List PV} (h:KR H l m):Fz H (.agg l) (.agg m):= .agg l m h.get.1 h.get.2
theorem cZ {l m:List PV} (h:KR H l m):Fz H (.dJ l) (.dJ m):= .dJ l m h.get.1 h.get.2
theorem d9 {α:Type} {f:α->List PV} (hf: ∀x,∀c∈f x,Pu c) (l:List α) (c:Ck):Fz H (.aB (l.map f) c) (.aB (l.map f) .unk):=by
  refine .aB _ _ c .unk (.inl rfl) rfl (fun i cs cs' h1 h2=>by rw [h1]at h2;cases h2;rfl) (fun i cs cs' h1 h2 j c c' h3 h4=> ?_);rw [h1]at h2;cases h2;rw [h3]at h4;cases h4;obtain⟨x,_,rfl⟩:=List.mem_map.1 (List.mem_of_getElem? h1);exact .pure _ (hf x c (List.mem_of_getElem? h3))
theorem alJ {α:Type} {sz:Nat} {f:α->List PV} [hr:qV f sz] (l:List α) (c:Ck):H7 (.aB (l.map f) c)= .aB (l.map f) c:=by
  simp only [H7,List.map_map];congr 1
  exact List.map_congr_left fun x _=>hr.wkf x
end
def u8L (n:Int):List PV:=[.int .u8 n]
def rM (s:List UInt8):List Int:=s.map fun b=>(b.toNat:Int)
variable [Glob]
section
variable {P:Program} {Q:Post} {σ σ':Nat->PV} {H H':AH} {K:(Nat->PV)->AH->Prop}
inductive Fm where
  |seq (b:AC)
  |ops (l:List aS)
  |block (id:Nat)
def EA (P:Program):List Fm->Post->Post
  |[],Q=>Q
  | .seq b::s,Q=>zo (fun σ H=>W P b (EA P s Q) σ H) (EA P s Q)
  | .ops l::s,Q=>zo (fun σ H=>dz P l (EA P s Q .normal) σ H) (EA P s Q)
  | .block id::s,Q=>Ql id (EA P s Q)
variable {s:List Fm}
def WS (P:Program) (a:AC) (s:List Fm) (Q:Post) (σ:Nat->PV) (H:AH):Prop:=W P a (EA P s Q) σ H
def WO (P:Program) (l:List aS) (s:List Fm) (Q:Post) (σ:Nat->PV) (H:AH):Prop:=dz P l (EA P s Q .normal) σ H
def WE (P:Program) (e:Ex) (s:List Fm) (Q:Post) (σ:Nat->PV) (H:AH):Prop:=EA P s Q e σ H
theorem aD {a:AC} (h:WS P a [] Q σ H):W P a Q σ H:=h
theorem eD {l:List aS} (h:WO P l [] Q σ H):dz P l (Q .normal) σ H:=h
def WCd (P:Program):PV->AC->AC->List Fm->Post->(Nat->PV)->AH->Prop
  | .bool true,a,_,s,Q,σ,H=>WS P a s Q σ H
  | .bool false,_,b,s,Q,σ,H=>WS P b s Q σ H
  |_,_,_,_,_,_,_=>False
def WR (P:Program) (o:Option PV) (d:Option Nat) (l:List aS) (s:List Fm) (Q:Post) (σ:Nat->PV) (H:AH):Prop:=match o with
  |some p=>WO P l s Q (upd σ d p) H
  |none=>False
def WD (P:Program) (o:Option (PV×AH)) (d:Option Nat) (l:List aS) (s:List Fm) (Q:Post) (σ:Nat->PV):Prop:=match o with
  |some (p,H)=>WO P l s Q (upd σ d p) H
  |none=>False
def WG (P:Program) (v:PV) (want:Bool) (d:Option Nat) (k:AK) (l:List aS) (s:List Fm) (Q:Post) (σ:Nat->PV) (H:AH):Prop:=match v with
  | .bool b=>if b=want then WO P (⟨d,k,none⟩::l) s Q σ H else WO P l s Q (upd σ d ud) H
  | .dJ []=>WO P l s Q (upd σ d ud) H
  |_=>False
def MC (P:Program) (g:FuncId) (az:List PV) (d:Option Nat) (l:List aS) (s:List Fm) (Q:Post) (σ:Nat->PV) (H:AH):Prop:=bE P g az H fun r H'=>WO P l s Q (upd σ d r) H'
def MV (P:Program) (v:PV) (az:List PV) (d:Option Nat) (l:List aS) (s:List Fm) (Q:Post) (σ:Nat->PV) (H:AH):Prop:=match v with
  | .fn (.func g) fs cs=>MC P g (fs++az++cs) d l s Q σ H
  |_=>False
theorem anx {a b:AC}:WS P (.seq a b) s Q σ H=WS P a (.seq b::s) Q σ H:=rfl
theorem ahu {id:Nat} {a:AC}:WS P (.block id a) s Q σ H=WS P a (.block id::s) Q σ H:=rfl
theorem anz {l:List aS}:WS P (.ops l) s Q σ H=WO P l s Q σ H:=rfl
theorem alK {id:Nat}:WS P (.exit id) s Q σ H=WE P (.exit id) s Q σ H:=rfl
theorem anA:WS P .ret s Q σ H=WE P .ret s Q σ H:=rfl
theorem alL:WS P .skip s Q σ H=WE P .normal s Q σ H:=rfl
theorem alM {c:AE} {a b:AC}:WS P (.cond c a b) s Q σ H=WCd P (c.ev σ) a b s Q σ H:=by
  simp only [WS,W];cases c.ev σ with
  |bool t=>cases t<;>simp [WCd,WS]
  |_=>rfl
theorem ajD {f:AE} {p q:Nat} {a b:AC} {g id sz:Nat} {agg:Bool} {es:List (List PV)} {c:Ck} (hf:f.ev σ= .fn (.func g) [] [.ref id 0]) (he:Enters P g) (hb:Qk P g sz agg) (h0:0<sz) (ho:H.obj id=some [.aB es c]) (hl:es.length<=1099511627776) (hs:I9 sz es)
    (h:DF (fun Q' σ' H'=>W P a (F6 (fun vE iw=>W P b Q' vE iw)) σ' H') (EA P s Q) σ id [.aB es c] p q (es.map (BX agg)) es.length H):WS P (.rf f p q a b) s Q σ H:=avp hf he hb h0 ho hl hs h
theorem YL {K:(Nat->PV)->AH->Prop}:F6 K .normal σ H=K σ H:=rfl
theorem YM {X:AH->Prop}:adx Q σ X .normal σ' H=X H:=rfl
theorem adG {X:AH->Prop} {i:Nat}:adx Q σ X (.exit i) σ' H=Q (.exit i) σ H:=rfl
theorem abD {p:PV} {cs:List PV}:BX false (p::cs)=p:=rfl
theorem ahv {a b:AC}:WCd P (.bool true) a b s Q σ H=WS P a s Q σ H:=rfl
theorem afo {a b:AC}:WCd P (.bool false) a b s Q σ H=WS P b s Q σ H:=rfl
theorem anB {e:Ex}:WE P e [] Q σ H=Q e σ H:=rfl
theorem ahw {b:AC}:WE P .normal (.seq b::s) Q σ H=WS P b s Q σ H:=rfl
theorem ahx {i:Nat} {b:AC}:WE P (.exit i) (.seq b::s) Q σ H=WE P (.exit i) s Q σ H:=rfl
theorem ahy {b:AC}:WE P .ret (.seq b::s) Q σ H=WE P .ret s Q σ H:=rfl
theorem ahz {l:List aS}:WE P .normal (.ops l::s) Q σ H=WO P l s Q σ H:=rfl
theorem adH {i:Nat}:WE P .normal (.block i::s) Q σ H=WE P .normal s Q σ H:=rfl
theorem adI {i:Nat}:WE P .ret (.block i::s) Q σ H=WE P .ret s Q σ H:=rfl
theorem adJ {i j:Nat}:WE P (.exit j) (.block i::s) Q σ H=if j=i then WE P .normal s Q σ H else WE P (.exit j) s Q σ H:=rfl
theorem alN {e:Ex} {f:Fm}:EA P (f::s) Q e σ H=WE P e (f::s) Q σ H:=rfl
theorem abE {l m:List aS}:dz P (l++m) K σ H=dz P l (fun σ' H'=>dz P m K σ' H') σ H:=by
  induction l generalizing σ H with
  |nil=>rfl
  |cons o l ih=>
    simp only [List.cons_append,dz];cases o.g with
    |none=>simp only [ih]
    |some sw=>
      obtain⟨s,want⟩:=sw;simp only [ih]
theorem anC:WO P [] s Q σ H=WE P .normal s Q σ H:=rfl
theorem afp {l m:List aS}:WO P (l++m) s Q σ H=WO P l (.ops m::s) Q σ H:=abE
theorem avt {d:Option Nat} {k:RK} {l:List aS}:WO P (⟨d,.r k,none⟩::l) s Q σ H=WR P (rop k σ H) d l s Q σ H:=rfl
theorem alO {p:PV} {d:Option Nat} {l:List aS}:WR P (some p) d l s Q σ H=WO P l s Q (upd σ d p) H:=rfl
theorem dA {x y:List UInt8} {d:Option Nat} {l:List aS} (hb:x.length+y.length<=4611686018427387904) (h:WO P l s Q (upd σ d (.str (x++y))) H):WR P (xI .add x y) d l s Q σ H:=by
  rw [xI,if_pos hb];exact h
theorem alP {p:PV} {d:Option Nat} {l:List aS}:WD P (some (p,H)) d l s Q σ=WO P l s Q (upd σ d p) H:=rfl
theorem avu {d:Option Nat} {k:AK} {t:Nat} {want:Bool} {l:List aS}:WO P (⟨d,k,some (t,want)⟩::l) s Q σ H=WG P (σ t) want d k l s Q σ H:=rfl
section
variable {d:Option Nat} {k:AK} {l:List aS} {want:Bool}
theorem aso:WG P (.bool true) true d k l s Q σ H=WO P (⟨d,k,none⟩::l) s Q σ H:=rfl
theorem asq:WG P (.bool false) false d k l s Q σ H=WO P (⟨d,k,none⟩::l) s Q σ H:=rfl
theorem asr:WG P (.bool true) false d k l s Q σ H=WO P l s Q (upd σ d ud) H:=rfl
theorem asu:WG P (.bool false) true d k l s Q σ H=WO P l s Q (upd σ d ud) H:=rfl
theorem asv:WG P (.dJ []) want d k l s Q σ H=WO P l s Q (upd σ d ud) H:=rfl
end
theorem ahA {d:Option Nat} {z:List PV} {l:List aS}:WO P (⟨d,.d (.alloc z),none⟩::l) s Q σ H=WO P l s Q (upd σ d (.ref H.next 0)) (H.new z):=rfl
theorem anD {d:Option Nat} {n:Nat} {x:AE} {l:List aS}:WO P (⟨d,.d (.box n x),none⟩::l) s Q σ H=WD P (jH (.box n x) σ H) d l s Q σ:=rfl
theorem dM {d:Option Nat} {n:Nat} {x v:AE} {l:List aS}:WO P (⟨d,.d (.store n x v),none⟩::l) s Q σ H=WD P (jH (.store n x v) σ H) d l s Q σ:=rfl
theorem alQ {d:Option Nat} {z:List PV} {ps:List (Nat×Nat×AE)} {l:List aS}:WO P (⟨d,.n (.iU z ps),none⟩::l) s Q σ H=WR P ((jZ σ z ps).map .agg) d l s Q σ H:=by
  show dz P _ _ σ H=_
  rw [Ie];simp only [nop];cases jZ σ z ps<;>rfl
def ahB (P:Program):PV->Option Nat->List aS->List Fm->Post->(Nat->PV)->AH->Prop
  | .str x,d,l,s,Q,σ,H=>WO P l s Q (upd σ d (.aB ((rM x).map u8L) .unk)) H
  |_,_,_,_,_,_,_=>False
theorem anE {d:Option Nat} {x:AE} {l:List aS}:WO P (⟨d,.n (.Yi x),none⟩::l) s Q σ H=ahB P (x.ev σ) d l s Q σ H:=by
  show dz P _ _ σ H=_
  rw [Ie,nop];cases x.ev σ with
  |str x=>
    simp only [ahB,rM,List.map_map];rfl
  |_=>rfl
theorem ahC {d:Option Nat} {x:List UInt8} {l:List aS}:ahB P (.str x) d l s Q σ H=WO P l s Q (upd σ d (.aB ((rM x).map u8L) .unk)) H:=rfl
theorem alR {d:Option Nat} {g:FuncId} {fs cs:List PV} {az:List AE} {l:List aS}:WO P (⟨d,.call (.c (.fn (.func g) fs cs)) az,none⟩::l) s Q σ H=MC P g (fs++evs σ az++cs) d l s Q σ H:=rfl
theorem ahD {d:Option Nat} {n:Nat} {az:List AE} {l:List aS}:WO P (⟨d,.call (.t n) az,none⟩::l) s Q σ H=MV P (σ n) (evs σ az) d l s Q σ H:=rfl
theorem asw {g:FuncId} {fs cs az:List PV} {d:Option Nat} {l:List aS}:MV P (.fn (.func g) fs cs) az d l s Q σ H=MC P g (fs++az++cs) d l s Q σ H:=rfl
def jm (P:Program):List (aS×Bool)->((Nat->PV)->AH->Prop)->(Nat->PV)->AH->Prop
  |[],K,σ,H=>K σ H
  |(⟨d,.r k,none⟩,false)::l,K,σ,H=>match rop k σ H with
    |some p=>jm P l K (upd σ d p) H
    |none=>False
  |(⟨d,.call (.c (.fn (.func g) fs cs)) az,none⟩,false)::l,K,σ,H=>PC P g (fs++evs σ az++cs) fun p=>jm P l K (upd σ d p) H
  |(⟨d,.r k,some (s,want)⟩,false)::l,K,σ,H=>match σ s with
    | .bool t=>if t=want then(match rop k σ H with
      |some p=>jm P l K (upd σ d p) H
      |none=>False)else jm P l K (upd σ d ud) H
    | .dJ []=>jm P l K (upd σ d ud) H
    |_=>False
  |(⟨d,.call (.c (.fn (.func g) fs cs)) az,some (s,want)⟩,false)::l,K,σ,H=>match σ s with
    | .bool t=>if t=want then PC P g (fs++evs σ az++cs) fun p=>jm P l K (upd σ d p) H else jm P l K (upd σ d ud) H
    | .dJ []=>jm P l K (upd σ d ud) H
    |_=>False
  |_,_,_,_=>False
theorem alS {d:Option Nat} {k:RK} {l:List (aS×Bool)}:jm P ((⟨d,.r k,none⟩,false)::l) K σ H=(match rop k σ H with|some p=>jm P l K (upd σ d p) H|none=>False):=rfl
theorem Qq {d:Option Nat} {g:FuncId} {fs cs:List PV} {az:List AE} {l:List (aS×Bool)}:
    jm P ((⟨d,.call (.c (.fn (.func g) fs cs)) az,none⟩,false)::l) K σ H=PC P g (fs++evs σ az++cs) fun p=>jm P l K (upd σ d p) H:=rfl
theorem ahE {d:Option Nat} {k:RK} {s:Nat} {want:Bool} {l:List (aS×Bool)}:jm P ((⟨d,.r k,some (s,want)⟩,false)::l) K σ H=
    (match σ s with| .bool t=>if t=want then(match rop k σ H with|some p=>jm P l K (upd σ d p) H|none=>False)else jm P l K (upd σ d ud) H| .dJ []=>jm P l K (upd σ d ud) H|_=>False):=rfl
theorem Ny {d:Option Nat} {g:FuncId} {fs cs:List PV} {az:List AE} {s:Nat} {want:Bool} {l:List (aS×Bool)}:
    jm P ((⟨d,.call (.c (.fn (.func g) fs cs)) az,some (s,want)⟩,false)::l) K σ H=
    (match σ s with| .bool t=>if t=want then PC P g (fs++evs σ az++cs) fun p=>jm P l K (upd σ d p) H else jm P l K (upd σ d ud) H| .dJ []=>jm P l K (upd σ d ud) H|_=>False):=rfl
theorem iZ: ∀(l:List (aS×Bool)) (σ:Nat->PV),jm P l K σ H->iP P (·=H) l K σ H
  |[],σ,h=>h
  |(⟨d,.r k,none⟩,false)::l,σ,h=>by
    refine acv ?_;rw [alS]at h;cases hp:rop k σ H with
    |some p=>rw [hp]at h;exact iZ l _ h
    |none=>rw [hp]at h;exact h.elim
  |(⟨d,.call (.c (.fn (.func g) fs cs)) az,none⟩,false)::l,σ,h=>by
    refine DI ?_;obtain⟨p,h1,h2⟩:=(Qq (K:=K)▸h);exact⟨p,h1,iZ l _ h2⟩
  |(⟨d,.r k,some (s,want)⟩,false)::l,σ,h=>by
    refine Sm ?_;rw [ahE]at h;generalize σ s=v at h;cases v with
    |bool t=>
      simp only at h⊢;by_cases hw:t=want
      · rw [if_pos hw]at h⊢;refine acv ?_;cases hp:rop k σ H with
        |some p=>rw [hp]at h;exact iZ l _ h
        |none=>rw [hp]at h;exact h.elim
      · rw [if_neg hw]at h⊢;exact iZ l _ h
    |dJ l'=>cases l' with
      |nil=>exact iZ l _ h
      |cons=>exact h.elim
    |_=>exact h.elim
  |(⟨d,.call (.c (.fn (.func g) fs cs)) az,some (s,want)⟩,false)::l,σ,h=>by
    refine Sm ?_;rw [Ny]at h;generalize σ s=v at h;cases v with
    |bool t=>
      simp only at h⊢;by_cases hw:t=want
      · rw [if_pos hw]at h⊢;refine DI ?_;obtain⟨p,h1,h2⟩:=h;exact⟨p,h1,iZ l _ h2⟩
      · rw [if_neg hw]at h⊢;exact iZ l _ h
    |dJ l'=>cases l' with
      |nil=>exact iZ l _ h
      |cons=>exact h.elim
    |_=>exact h.elim
  |(_,true)::_,_,h=>by simp [jm]at h
  |(⟨_,.d _,_⟩,false)::_,_,h=>by simp [jm]at h
  |(⟨_,.n _,_⟩,false)::_,_,h=>by simp [jm]at h
  |(⟨_,.bad,_⟩,false)::_,_,h=>by simp [jm]at h
  |(⟨_,.call (.t _) _,_⟩,false)::_,_,h=>by simp [jm]at h
  |(⟨_,.call (.c v) az,g⟩,false)::l,σ,h=>by
    cases v with
    |fn f fs cs=>
      cases f with
      |func n=>cases g with
        |none=>
          refine DI ?_;obtain⟨p,h1,h2⟩:=(Qq (K:=K)▸h);exact⟨p,h1,iZ l _ h2⟩
        |some sw=>
          obtain⟨s,want⟩:=sw;refine Sm ?_;rw [Ny]at h;generalize σ s=v at h;cases v with
          |bool t=>
            simp only at h⊢;by_cases hw:t=want
            · rw [if_pos hw]at h⊢;refine DI ?_;obtain⟨p,h1,h2⟩:=h;exact⟨p,h1,iZ l _ h2⟩
            · rw [if_neg hw]at h⊢;exact iZ l _ h
          |dJ l'=>cases l' with
            |nil=>exact iZ l _ h
            |cons=>exact h.elim
          |_=>exact h.elim
      |_=>simp [jm]at h
    |_=>simp [jm]at h
def lX (P:Program) (m:Nat):List (aS×Bool)->((Nat->PV)->AH->Prop)->(Nat->PV)->AH->Prop
  |[],K,σ,H=>K σ H
  |(⟨d,.r (.load n a x),none⟩,false)::l,K,σ,H=>(match x.ev σ with| .ref id _=>id≠m|_=>True)/\match rop (.load n a x) σ H with
    |some p=>lX P m l K (upd σ d p) H
    |none=>False
  |(⟨d,.r k,none⟩,false)::l,K,σ,H=>match rop k σ H with
    |some p=>lX P m l K (upd σ d p) H
    |none=>False
  |(⟨d,.call (.c (.fn (.func g) fs cs)) az,none⟩,false)::l,K,σ,H=>PC P g (fs++evs σ az++cs) fun p=>lX P m l K (upd σ d p) H
  |(⟨d,.d (.store n x v),none⟩,true)::l,K,σ,H=>(match x.ev σ with| .ref id _=>id=m|_=>False)/\match jH (.store n x v) σ H with
    |some (p,H')=>lX P m l K (upd σ d p) H'
    |none=>False
  |(⟨d,.d (.alloc z),none⟩,true)::l,K,σ,H=>H.next=m/\lX P m l K (upd σ d (.ref H.next 0)) (H.new z)
  |_,_,_,_=>False
theorem alT {k:RK} (hk: ∀n a x,k≠ .load n a x) (H1 H2:AH):rop k σ H1=rop k σ H2:=by
  cases k<;>first|rfl|exact absurd rfl (hk _ _ _)
theorem qW {m:Nat} (H0:AH): ∀(l:List (aS×Bool)) (σ:Nat->PV) (H:AH),(∀i,i≠m->H.obj i=H0.obj i)->lX P m l K σ H->iP P (fun H'=> ∀i,i≠m->H'.obj i=H0.obj i) l K σ H
  |[],σ,H,hC,h=>h
  |(⟨d,.r k,none⟩,false)::l,σ,H,hC,h=>by
    by_cases hk: ∃n a x,k= .load n a x
    · obtain⟨n,a,x,rfl⟩:=hk;obtain⟨h1,h2⟩:=h;cases hp:rop (.load n a x) σ H with
      |none=>rw [hp]at h2;exact h2.elim
      |some p=>
        rw [hp]at h2;refine dR p (fun H' hC'=> ?_) (qW H0 l _ _ hC h2);rw [<-hp];simp only [rop];generalize x.ev σ=v at*;cases v<;>first|rfl|skip
        rename_i id o;simp only at h1;simp only [En];rw [hC' id h1,hC id h1]
    · have h':match rop k σ H with|some p=>lX P m l K (upd σ d p) H|none=>False:=by
        cases k<;>first|exact h|exact absurd ⟨_,_,_,rfl⟩ hk
      cases hp:rop k σ H with
      |none=>rw [hp]at h';exact h'.elim
      |some p=>
        rw [hp]at h';exact dR p (fun H' _=>by rw [<-hp];exact alT (fun n a x e=>hk ⟨n,a,x,e⟩) H' H) (qW H0 l _ _ hC h')
  |(⟨d,.call (.c (.fn (.func g) fs cs)) az,none⟩,false)::l,σ,H,hC,h=>by
    obtain⟨p,h1,h2⟩:=h;exact yU p h1 (qW H0 l _ _ hC h2)
  |(⟨d,.d (.store n x v),none⟩,true)::l,σ,H,hC,h=>by
    obtain⟨h1,h2⟩:=h;cases hp:jH (.store n x v) σ H with
    |none=>rw [hp]at h2;exact h2.elim
    |some q=>
      obtain⟨p,H'⟩:=q;rw [hp]at h2;have hC': ∀i,i≠m->H'.obj i=H0.obj i:=by
        intro i hi;simp only [jH]at hp;generalize x.ev σ=u at*;cases u<;>try exact h1.elim
        rename_i id o;simp only at h1;subst h1;split at hp
        · rename_i id' o' vs e1 e2;cases e1;split at hp
          · split at hp
            · cases hp;show(if i=id then _ else H.obj i)=_
              rw [if_neg hi];exact hC i hi
            · cases hp
          · cases hp
        · cases hp
      exact Qp p H' hp hC' (qW H0 l _ _ hC' h2)
  |(⟨_,.r _,some _⟩,_)::_,_,_,_,h=>by simp [lX]at h
  |(⟨_,.r _,none⟩,true)::_,_,_,_,h=>by simp [lX]at h
  |(⟨_,.n _,_⟩,_)::_,_,_,_,h=>by simp [lX]at h
  |(⟨_,.bad,_⟩,_)::_,_,_,_,h=>by simp [lX]at h
  |(⟨_,.d _,_⟩,false)::_,_,_,_,h=>by simp [lX]at h
  |(⟨_,.d _,some _⟩,true)::_,_,_,_,h=>by simp [lX]at h
  |(⟨d,.d (.alloc z),none⟩,true)::l,σ,H,hC,h=>by
    obtain⟨h1,h2⟩:=h;have hC': ∀i,i≠m->(H.new z).obj i=H0.obj i:=by
      intro i hi;show(if i=H.next then _ else H.obj i)=_
      rw [if_neg (by rw [h1];exact hi)];exact hC i hi
    exact Qp (.ref H.next 0) (H.new z) rfl hC' (qW H0 l _ _ hC' h2)
  |(⟨_,.d (.box _ _),none⟩,true)::_,_,_,_,h=>by simp [lX]at h
  |(⟨_,.d (.app _ _ _ _),none⟩,true)::_,_,_,_,h=>by simp [lX]at h
  |(⟨_,.d (.xD _ _ _ _ _),none⟩,true)::_,_,_,_,h=>by simp [lX]at h
  |(⟨_,.call _ _,some _⟩,_)::_,_,_,_,h=>by simp [lX]at h
  |(⟨_,.call _ _,none⟩,true)::_,_,_,_,h=>by simp [lX]at h
  |(⟨_,.call (.t _) _,none⟩,false)::_,_,_,_,h=>by simp [lX]at h
  |(⟨d,.call (.c v) az,none⟩,false)::l,σ,H,hC,h=>by
    cases v with
    |fn f fs cs=>
      cases f with
      |func n=>
        obtain⟨p,h1,h2⟩:=h;exact yU p h1 (qW H0 l _ _ hC h2)
      |_=>simp [lX]at h
    |_=>simp [lX]at h
def Cy (P:Program) (pr:List (aS×Bool)) (post:List aS) (s:List Fm) (Q:Post) (σ:Nat->PV) (H:AH):Prop:=jm P pr (fun σ' H'=>WO P post s Q σ' H') σ H
def WPR (P:Program) (o:Option PV) (d:Option Nat) (l:List (aS×Bool)) (post:List aS) (s:List Fm) (Q:Post) (σ:Nat->PV) (H:AH):Prop:=match o with
  |some p=>Cy P l post s Q (upd σ d p) H
  |none=>False
def WPG (P:Program) (v:PV) (want:Bool) (d:Option Nat) (k:AK) (l:List (aS×Bool)) (post:List aS) (s:List Fm) (Q:Post) (σ:Nat->PV) (H:AH):Prop:=match v with
  | .bool b=>if b=want then Cy P ((⟨d,k,none⟩,false)::l) post s Q σ H else Cy P l post s Q (upd σ d ud) H
  | .dJ []=>Cy P l post s Q (upd σ d ud) H
  |_=>False
def PCs (P:Program) (g:FuncId) (az:List PV) (d:Option Nat) (l:List (aS×Bool)) (post:List aS) (s:List Fm) (Q:Post) (σ:Nat->PV) (H:AH):Prop:=PC P g az fun p=>Cy P l post s Q (upd σ d p) H
def Bj (P:Program) (m:Nat) (pr:List (aS×Bool)) (post:List aS) (s:List Fm) (Q:Post) (σ:Nat->PV) (H:AH):Prop:=lX P m pr (fun σ' H'=>WO P post s Q σ' H') σ H
def V6 (P:Program) (m:Nat) (o:Option PV) (d:Option Nat) (l:List (aS×Bool)) (post:List aS) (s:List Fm) (Q:Post) (σ:Nat->PV) (H:AH):Prop:=match o with
  |some p=>Bj P m l post s Q (upd σ d p) H
  |none=>False
def WTD (P:Program) (m:Nat) (o:Option (PV×AH)) (d:Option Nat) (l:List (aS×Bool)) (post:List aS) (s:List Fm) (Q:Post) (σ:Nat->PV):Prop:=match o with
  |some (p,H)=>Bj P m l post s Q (upd σ d p) H
  |none=>False
def noM (m:Nat):PV->Prop
  | .ref id _=>(id=m)=False
  |_=>True
def isM (m:Nat):PV->Prop
  | .ref id _=>id=m
  |_=>False
def PCt (P:Program) (m:Nat) (g:FuncId) (az:List PV) (d:Option Nat) (l:List (aS×Bool)) (post:List aS) (s:List Fm) (Q:Post) (σ:Nat->PV) (H:AH):Prop:=PC P g az fun p=>Bj P m l post s Q (upd σ d p) H
theorem Sn {pr:List (aS×Bool)} {post:List aS} (m:Nat) (h:Bj P m pr post s Q σ H):WS P (.par pr post) s Q σ H:=⟨_,fun _ _=>rfl,qW H _ _ _ (fun _ _=>rfl) h⟩
section
variable {m:Nat} {d:Option Nat} {l:List (aS×Bool)} {post:List aS}
theorem alU:Bj P m [] post s Q σ H=WO P post s Q σ H:=rfl
theorem ahF {p:PV}:V6 P m (some p) d l post s Q σ H=Bj P m l post s Q (upd σ d p) H:=rfl
theorem ahG {p:PV}:WTD P m (some (p,H)) d l post s Q σ=Bj P m l post s Q (upd σ d p) H:=rfl
theorem ahH {n:Nat} {a:Bool} {x:AE}:Bj P m ((⟨d,.r (.load n a x),none⟩,false)::l) post s Q σ H=(noM m (x.ev σ)/\V6 P m (rop (.load n a x) σ H) d l post s Q σ H):=by
  show(_/\_)=_
  congr 1
  cases x.ev σ<;>simp [noM]
theorem alV {x:AE}:Bj P m ((⟨d,.r (.aT x),none⟩,false)::l) post s Q σ H=V6 P m (rop (.aT x) σ H) d l post s Q σ H:=rfl
theorem alW {o:Nat} {x:AE}:Bj P m ((⟨d,.r (.VW o x),none⟩,false)::l) post s Q σ H=V6 P m (rop (.VW o x) σ H) d l post s Q σ H:=rfl
theorem alX {x:AE}:Bj P m ((⟨d,.r (.len x),none⟩,false)::l) post s Q σ H=V6 P m (rop (.len x) σ H) d l post s Q σ H:=rfl
theorem ahI {n z:Nat} {x i:AE}:Bj P m ((⟨d,.r (.rH n z x i),none⟩,false)::l) post s Q σ H=V6 P m (rop (.rH n z x i) σ H) d l post s Q σ H:=rfl
theorem alY {n:Nat} {x i:AE}:Bj P m ((⟨d,.r (.idx n x i),none⟩,false)::l) post s Q σ H=V6 P m (rop (.idx n x i) σ H) d l post s Q σ H:=rfl
theorem alZ {x:AE} {i:Nat}:Bj P m ((⟨d,.r (.ext x i),none⟩,false)::l) post s Q σ H=V6 P m (rop (.ext x i) σ H) d l post s Q σ H:=rfl
theorem afq {z:List PV}:Bj P m ((⟨d,.d (.alloc z),none⟩,true)::l) post s Q σ H=(H.next=m/\Bj P m l post s Q (upd σ d (.ref H.next 0)) (H.new z)):=rfl
theorem afr {n:Nat} {x v:AE}:Bj P m ((⟨d,.d (.store n x v),none⟩,true)::l) post s Q σ H=(isM m (x.ev σ)/\WTD P m (jH (.store n x v) σ H) d l post s Q σ):=rfl
theorem ahJ {g:FuncId} {fs cs:List PV} {az:List AE}:Bj P m ((⟨d,.call (.c (.fn (.func g) fs cs)) az,none⟩,false)::l) post s Q σ H=PCt P m g (fs++evs σ az++cs) d l post s Q σ H:=rfl
theorem al0 {id o:Nat}:noM m (.ref id o)=((id=m)=False):=rfl
theorem ahK {cs:List PV} {o:Nat}:noM m (.eB cs o)=True:=rfl
theorem al1 {id o:Nat}:isM m (.ref id o)=(id=m):=rfl
end
theorem eZ {pr:List (aS×Bool)} {post:List aS} (h:Cy P pr post s Q σ H):WS P (.par pr post) s Q σ H:=anq (iZ _ _ h)
section
variable {d:Option Nat} {l:List (aS×Bool)} {post:List aS} {want:Bool} {k:AK}
theorem al2:Cy P [] post s Q σ H=WO P post s Q σ H:=rfl
theorem asx {k:RK}:Cy P ((⟨d,.r k,none⟩,false)::l) post s Q σ H=WPR P (rop k σ H) d l post s Q σ H:=rfl
theorem iH {x y:List UInt8} (hb:x.length+y.length<=4611686018427387904) (h:Cy P l post s Q (upd σ d (.str (x++y))) H):WPR P (xI .add x y) d l post s Q σ H:=by
  rw [xI,if_pos hb];exact h
theorem ahL {p:PV}:WPR P (some p) d l post s Q σ H=Cy P l post s Q (upd σ d p) H:=rfl
theorem ahM {g:FuncId} {fs cs:List PV} {az:List AE}:Cy P ((⟨d,.call (.c (.fn (.func g) fs cs)) az,none⟩,false)::l) post s Q σ H=PCs P g (fs++evs σ az++cs) d l post s Q σ H:=rfl
theorem anG {k:RK} {t:Nat}:Cy P ((⟨d,.r k,some (t,want)⟩,false)::l) post s Q σ H=WPG P (σ t) want d (.r k) l post s Q σ H:=rfl
theorem afs {g:FuncId} {fs cs:List PV} {az:List AE} {t:Nat}:Cy P ((⟨d,.call (.c (.fn (.func g) fs cs)) az,some (t,want)⟩,false)::l) post s Q σ H=WPG P (σ t) want d (.call (.c (.fn (.func g) fs cs)) az) l post s Q σ H:=rfl
theorem anH:WPG P (.bool true) true d k l post s Q σ H=Cy P ((⟨d,k,none⟩,false)::l) post s Q σ H:=rfl
theorem anI:WPG P (.bool false) false d k l post s Q σ H=Cy P ((⟨d,k,none⟩,false)::l) post s Q σ H:=rfl
theorem anJ:WPG P (.bool true) false d k l post s Q σ H=Cy P l post s Q (upd σ d ud) H:=rfl
theorem anK:WPG P (.bool false) true d k l post s Q σ H=Cy P l post s Q (upd σ d ud) H:=rfl
end
def bA (H:AH):Ck->Prop
  | .unk=>False
  | .tok t=>H.live t=true/\t<H.next
  |_=>True
def kQ (c d:Ck):Prop:= ∀t,c= .tok t->d≠ .tok t
theorem bA.nil:bA H .nil:=trivial
theorem bA.exact:bA H .exact:=trivial
theorem bA.new {c:Ck} {cs:List PV} (h:bA H c):bA (H.new cs) c:=by
  cases c with
  |tok t=>exact⟨h.1,Nat.lt_succ_of_lt h.2⟩
  |unk=>exact h
  |nil=>trivial
  |exact=>trivial
theorem bA.put {c:Ck} {id:Nat} {cs:List PV} (h:bA H c):bA (H.put id cs) c:=by
  cases c with
  |tok t=>exact h
  |unk=>exact h
  |nil=>trivial
  |exact=>trivial
theorem kQ.nil {c:Ck}:kQ .nil c:=fun _ h=>by cases h
theorem kQ.exact {c:Ck}:kQ .exact c:=fun _ h=>by cases h
theorem kQ.symm {c d:Ck} (h:kQ c d):kQ d c:=fun t h1 h2=>h t h2 h1
def mo (sz:Nat) (cs:List PV):Prop:=cs.length=sz/\ ∀c∈cs,c.one=true
theorem qX {α:Type} {sz:Nat} {f:α->List PV} (hf: ∀x,mo sz (f x)) (l:List α):qR sz (l.map f):=by
  intro cs h;obtain⟨x,_,rfl⟩:=List.mem_map.1 h;exact hf x
theorem gF {α:Type} {d:Option Nat} {sz b:Nat} {x y:AE} {l:List aS} {f:α->List PV} (hf: ∀x,mo sz (f x)) (xs ys:List α) (c c2:Ck)
    (hx:x.ev σ= .aB (xs.map f) c) (hy:H7 (y.ev σ)= .aB (ys.map f) c2) (hok:bA H c) (hb:(xs.length+ys.length)*b<=1099511627776)
    (h: ∀(c':Ck) (H':AH),bA H' c'->H.next<=H'.next->(∀i,H'.obj i=H.obj i)->(∀c3,bA H c3->kQ c c3->bA H' c3/\kQ c' c3)->WO P l s Q (upd σ d (.aB ((xs++ys).map f) c')) H'):
    WO P (⟨d,.d (.app sz b x y),none⟩::l) s Q σ H:=by
  show dz P _ _ σ H
  simp only [afk,jH,hx,hy,ME];by_cases h0:ys=[]
  · subst h0;simp only [List.map_nil,List.length_nil,↓reduceIte];have:=h c H hok (Nat.le_refl _) (fun _=>rfl) (fun c3 h1 h2=>⟨h1,h2⟩);show WO P l s Q _ H
    simpa using this
  · have h1: ¬((ys.map f).length=0):=by simpa using h0
    rw [if_neg h1,if_pos ⟨qX hf xs,qX hf ys,by simpa using hb⟩,<-List.map_append];have fresh: ∀H1:AH,H1.next=H.next->(∀i,H1.obj i=H.obj i)->(∀t,c≠ .tok t->H.live t=true->H1.live t=true)->WO P l s Q (upd σ d (.aB ((xs++ys).map f) (.tok H.next))) H1.tok:=by
      intro H1 e1 e2 e3;refine h (.tok H.next) H1.tok ⟨?_,?_⟩ ?_ (fun i=>e2 i) (fun c3 k1 k2=> ?_)
      · show(if H.next=H1.next then true else H1.live H.next)=true
        rw [if_pos e1.symm]
      · show H.next<H1.next+1
        omega
      · show H.next<=H1.next+1
        omega
      · cases c3 with
        |tok t=>
          refine⟨⟨?_,?_⟩,fun t' h1' h2'=> ?_⟩
          · show(if t=H1.next then true else H1.live t)=true
            split
            · rfl
            · exact e3 t (fun e=>k2 t e rfl) k1.1
          · show t<H1.next+1
            have:=k1.2;omega
          · cases h1';cases h2';exact absurd k1.2 (Nat.lt_irrefl _)
        |unk=>exact k1.elim
        |nil=>exact⟨trivial,fun t h1' h2'=>by cases h2'⟩
        |exact=>exact⟨trivial,fun t h1' h2'=>by cases h2'⟩
    cases c with
    |unk=>exact hok.elim
    |nil=>exact fresh H rfl (fun _=>rfl) (fun _ _ h=>h)
    |exact=>exact fresh H rfl (fun _=>rfl) (fun _ _ h=>h)
    |tok t=>
      simp only [hok.1,↓reduceIte];refine fresh (H.use t) rfl (fun _=>rfl) (fun t' hne hl=> ?_);show(if t'=t then false else H.live t')=true
      rw [if_neg (fun e=>hne (by rw [e])),hl]
theorem bE.wk {f:FuncId} {args args':List PV} {k:PV->AH->Prop} (h:bE P f args H k) (hw:Lw args' args):bE P f args' H k:=by
  obtain⟨h1,h2⟩:=hw.get;refine⟨h.enters,fun B G w vs hU hM hv=>h.call B G w vs hU hM ⟨hv.1.trans h1,fun j c x hc hx=> ?_⟩⟩;obtain⟨p,e,hp⟩:=h2 j c hc;exact hp _ _ _ (hv.2 j p x e hx)
theorem F9 {f:FuncId} {args args':List PV} {r:PV} {k:PV->AH->Prop} (h:aF P f args' r) (hz:KR H args args') (ha:bg args') (hr:Sc r) (hk:k r H):bE P f args H k:=
  (aF.frozen hz.get ha.mem h hr).mono fun _ _ ⟨h1,h2⟩=>by subst h1;subst h2;exact hk
theorem aF.wk {f:FuncId} {args args':List PV} {r:PV} (h:aF P f args r) (hw:Lw args' args):aF P f args' r:=fun H=>(h H).wk hw
end
theorem aft (es:List (List PV)) (c:Ck):yA (.aB es c)=some (.int .i64 es.length):=rfl
theorem afu (a b c d e:Nat):yA (.bV a b c d e)=some (.int .i64 c):=rfl
theorem afv (sz:Nat) (es:List (List PV)) (c:Ck) (k:IntKind) (n:Int):lq sz (.aB es c) (.int k n)=if 0<=n then(match es[n.toNat]? with
    |some cs=>if cs.length=sz then some (.eB cs 0)else none
    |none=>none)else none:=rfl
theorem adK (a b:List UInt8):xI .eql a b=some (.bool (a==b)):=rfl
theorem adL (a b:List UInt8):xI .neq a b=some (.bool (!(a==b))):=rfl
theorem adM (a b:List UInt8):xI .lss a b=some (.bool (strLt a b)):=rfl
theorem anL (k:IntKind) (x:Int):wk (.int k x)= .int k x:=rfl
theorem al3 (b:Bool):wk (.bool b)= .bool b:=rfl
theorem anM (s:List UInt8):wk (.str s)= .str s:=rfl
theorem anN (es:List (List PV)) (c:Ck):wk (.aB es c)= .aB es .unk:=rfl
theorem al4 (c:Ck):H7 (.aB [] c)= .aB [] c:=rfl
theorem ahN (cs:List PV) (es:List (List PV)) (c:Ck):H7 (.aB (cs::es) c)= .aB (cs.map wk::es.map fun cs=>cs.map wk) c:=rfl
attribute [go_sem] anx ahu anz alK anA alL alM ahv afo anB ahw ahx ahy ahz adH adI adJ alN
attribute [go_sem] anC afp avt alO alP avu aso asq asr asu asv ahA anD alQ anE ahC alR ahD asw
attribute [go_sem] alU ahF ahG ahH alV alW alX ahI alY alZ afq afr ahJ al0 ahK al1
attribute [go_sem] aft afu afv adK adL adM
attribute [go_sem] YL YM adG abD
attribute [go_sem] al2 asx ahL ahM anG afs anH anI anJ anK
attribute [go_sem] anL al3 anM anN al4 ahN alJ anu anv alH alI afm List.map_cons List.map_nil
end Go.VL
end
section
namespace Go.VL
theorem vG {α:Type} {b:Bool} {x y:α} (h:b=true):cond b x y=x:=by rw [h];rfl
theorem nR {α:Type} {b:Bool} {x y:α} (h:b=false):cond b x y=y:=by rw [h];rfl
theorem zw {α β:Type} {x:Option α} {f:α->Option β} (h:x=none):Option.bind x f=none:=by rw [h];rfl
theorem zx {α β:Type} {x:Option α} {f:α->Option β} {a:α} (h:x=some a):Option.bind x f=f a:=by rw [h];rfl
theorem bL {α β γ:Type} {f:α->γ} {g:β->γ} {a:α}:Sum.elim f g (.inl a)=f a:=rfl
theorem bP {α β γ:Type} {f:α->γ} {g:β->γ} {a:β}:Sum.elim f g (.inr a)=g a:=rfl
def Fr (L:List Nat) (σ σ':Nat->PV):Prop:= ∀t,t∉L->σ' t=σ t
theorem Fr.refl (L:List Nat) (σ:Nat->PV):Fr L σ σ:=fun _ _=>rfl
theorem Fr.upd {L:List Nat} {σ σ':Nat->PV} {d:Nat} {v:PV} (hd:d∈L) (h:Fr L σ σ'):Fr L σ (upd σ' (some d) v):=fun t ht=>by
  have: ¬t=d:=fun e=>ht (e▸hd);show(if t=d then v else σ' t)=σ t
  rw [if_neg this];exact h t ht
theorem Fr.via {L L':List Nat} {σ σ' vE:Nat->PV} (h':Fr L' σ' vE) (hL: ∀t∈L',t∈L) (h:Fr L σ σ'):Fr L σ vE:=fun t ht=>(h' t fun e=>ht (hL t e)).trans (h t ht)
def Du {α:Type} (f:α->List PV) (l:List α):List PV:=[.aB (l.map f) .unk]
theorem al5 (s:Str):aI s=[.str s]:=rfl
theorem al6 (n:Int):aY n=[.int .i64 n]:=rfl
theorem anO (n:Int):u8L n=[.int .u8 n]:=rfl
theorem anP {α:Type} (f:α->List PV) (l:List α):Du f l=[.aB (l.map f) .unk]:=rfl
theorem bn (s:Str): ∀c∈aI s,Pu c:=bg.mem (.cons (.str _) .nil)
theorem fO (n:Int): ∀c∈aY n,Pu c:=bg.mem (.cons (.int _ _) .nil)
theorem afw {α:Type} {f:α->List PV} (hf: ∀x,∀c∈f x,Pu c) (l:List α): ∀c∈Du f l,Pu c:=bg.mem (.cons (aV hf l) .nil)
theorem row_of {sz:Nat} {l:List PV} (h:l.length=sz) (h':l.all PV.one=true):mo sz l:=⟨h,fun c hc=>List.all_eq_true.1 h' c hc⟩
theorem jw (s:Str):mo 1 (aI s):=row_of rfl rfl
theorem Ig (n:Int):mo 1 (aY n):=row_of rfl rfl
theorem anQ {α:Type} {f:α->List PV} (l:List α):mo 1 (Du f l):=row_of rfl rfl
instance:qV aI 1:=⟨fun _=>rfl,fun _=>rfl⟩
instance:qV aY 1:=⟨fun _=>rfl,fun _=>rfl⟩
instance:qV Nd.cells 5:=⟨fun _=>rfl,fun _=>rfl⟩
theorem ahO (n k:Nat):(n=n+k)=(k=0):=propext ⟨fun h=>by omega,fun h=>by omega⟩
theorem add_add (n j k:Nat):(n+j=n+k)=(j=k):=propext ⟨fun h=>by omega,fun h=>by omega⟩
theorem Nd.pu (x:Nd): ∀c∈x.cells,Pu c:=bg.mem (.cons (.int _ _) (.cons (.int _ _) (.cons (.str _) (.cons (aV bn _) (.cons (aV fO _) .nil)))))
theorem Nd.row (x:Nd):mo 5 x.cells:=row_of rfl rfl
theorem Nd.qY (x:Nd):x.cells=[.int .i64 x.kind,.int .i64 x.n,.str x.text,.aB (x.names.map aI) .unk,.aB (x.args.map aY) .unk]:=rfl
attribute [go_sem] Int.natCast_nonneg Nat.mul_one Nat.zero_le ahO add_add Nat.add_assoc al5 al6 anO anP Nd.qY
attribute [go_sem] Bool.not_true Bool.not_false Bool.true_eq_false Bool.false_eq_true true_implies false_implies and_true true_and implies_true if_true if_false ne_eq not_true_eq_false not_false_eq_true Int.cast_ofNat_Int Int.toNat_natCast beq_self_eq_true decide_true decide_false List.append_assoc
end Go.VL
namespace Go.VL
def HF (M:List Nat) (H H':AH):Prop:=H.next<=H'.next/\ ∀i,i<H.next->i∉M->H'.obj i=H.obj i
section
variable {M M':List Nat} {H H' iw:AH}
theorem HF.refl (M:List Nat) (H:AH):HF M H H:=⟨Nat.le_refl _,fun _ _ _=>rfl⟩
theorem HF.new {cs:List PV} (h:HF M H H'):HF M H (H'.new cs):=⟨Nat.le_succ_of_le h.1,fun i hi hm=>by
  show(if i=H'.next then some cs else H'.obj i)=_
  have:i<H'.next:=Nat.lt_of_lt_of_le hi h.1;rw [if_neg (by omega)];exact h.2 i hi hm⟩
theorem HF.put {id:Nat} {cs:List PV} (hid:id∈M\/H.next<=id) (h:HF M H H'):HF M H (H'.put id cs):=⟨h.1,fun i hi hm=>by
  show(if i=id then some cs else H'.obj i)=_
  have: ¬i=id:=fun e=>by
    subst e;rcases hid with hid|hid
    · exact hm hid
    · omega
  rw [if_neg this];exact h.2 i hi hm⟩
theorem HF.via (h':HF M' H' iw) (hM: ∀i∈M',i∈M\/H.next<=i) (h:HF M H H'):HF M H iw:=⟨Nat.le_trans h.1 h'.1,fun i hi hm=>by
  rw [h'.2 i (Nat.lt_of_lt_of_le hi h.1) (fun e=>by
    rcases hM i e with q|q
    · exact hm q
    · omega)]
  exact h.2 i hi hm⟩
end
theorem ne_next {o n:Nat} (h:o<n):(o=n)=False:=eq_false (by omega)
theorem aW {o n:Nat} (h:o<n) (j:Nat):(o=n+j)=False:=eq_false (by omega)
end Go.VL
end
section
namespace Go.VL
open Go.RowKit
variable [Glob]
section
variable {P:Program} {B:Nat->Prop} {G:Gh} {H:AH} {w w':World}
theorem HM.below (hM:HM B H G w) (h:Below w.heap.size w w'):HM B H G w':=by
  have hlt: ∀b arr t fr,w.heap[b]? =some (.cells arr t fr)->b<w.heap.size:=fun b arr t fr e=>(Array.getElem?_eq_some_iff.1 e).1
  exact{
    glob:=hM.glob
    pq:=fun a x e=>by
      have hc:=hM.pq a x e;exact(World.cell?_of_block (h.block _ (World.block_lt_of_cell? w a hc))).trans hc
    obj:=fun id cs e=>by
      obtain⟨k0,b,arr,t,k1,k2,k3,k4,k5⟩:=hM.obj id cs e;exact⟨k0,b,arr,t,k1,k2,(h.block b (hlt _ _ _ _ k3)).trans k3,k4,k5⟩
    inj:=hM.inj
    tok:=fun k e=>by
      obtain⟨k0,b,o,arr,t,k1,k2,k3,k5⟩:=hM.tok k e;exact⟨k0,b,o,arr,t,k1,k2,(h.block b (hlt _ _ _ _ k3)).trans k3,k5⟩
    qb:=hM.qb
    tobj:=hM.tobj
    wh:=hM.wh.keep fun b _ hb=>h.block b hb}
theorem Tr.below (h:Below w.heap.size w w'):Tr B w w':=
  ⟨h.size,fun b hb _=>h.block b hb,h.os,h.tape,h.output,fun b o e _=>(h.block b (Array.getElem?_eq_some_iff.1 e).1).trans e⟩
theorem KS {f:FuncId} {args:List PV} {r:PV} (he:Enters P f)
    (h: ∀(w:World) (G:Gh) (vs:Array Value),(∀a x,Glob.gc a=some x->w.cell? a=some x)->(∀a x,G.F a=some x->w.cell? a=some x)->WH (fun b=>w.heap.size<=b) w->Vs G 0 args vs->Calls P f vs w fun e w'=> ∃v,e= .returned v/\Below w.heap.size w w'/\ ∀G n,V G n r v)
    (hp: ∀a∈args,Pu a):aF P f args r:=by
  intro H;refine⟨he,fun B G w vs hU hM hv=> ?_⟩;have hv':Vs ⟨G.F,fun _=>none,fun _=>none⟩ 0 args vs:=⟨hv.1,fun j c x hc hx=>V.pure (G:=G) (G':=⟨G.F,fun _=>none,fun _=>none⟩) (n':=0) (fun(_:Addr) (_:Value) e=>e) (hv.2 j c x hc hx) (hp c (List.mem_of_getElem? hc))⟩;refine(h w ⟨G.F,fun _=>none,fun _=>none⟩ vs (fun a x e=>hM.pq a x (hM.glob a x e)) hM.pq hM.wh.old hv').mono ?_;rintro e w' ⟨v,h1,h2,h3⟩;exact⟨r,v,H,G,h1,Tr.below h2,Ext.refl B _ G,Nat.le_refl _,hM.below h2,h3 G _,rfl,rfl⟩
theorem Jg {f:FuncId} {args:List PV} {r:PV} (he:Enters P f)
    (h: ∀(w:World) (G:Gh) (vs:Array Value),(∀a x,Glob.gc a=some x->w.cell? a=some x)->(∀a x,G.F a=some x->w.cell? a=some x)->Vs G 0 args vs->Calls P f vs w fun e w'=> ∃v,e= .returned v/\Below w.heap.size w w'/\ ∀G n,V G n r v)
    (hp: ∀a∈args,Pu a):aF P f args r:=KS he (fun w G vs h1 h2 _=>h w G vs h1 h2) hp
theorem Nz {f:FuncId} {args:List PV} {r:PV} (he:Enters P f)
    (h: ∀(w:World) (G:Gh) (vs:Array Value),(∀a x,Glob.gc a=some x->w.cell? a=some x)->(∀a x,G.F a=some x->w.cell? a=some x)->Vs G 0 args vs->Calls P f vs w fun e w'=> ∃v,e= .returned v/\Below w.heap.size w w'/\
      ∀(G':Gh) (n:Nat),(∀a x,w.heap.size<=a.block->w'.cell? a=some x->G'.F a=some x)->V G' n r v)
    (hp: ∀a∈args,Pu a):aF P f args r:=by
  intro H;refine⟨he,fun B G w vs hU hM hv=> ?_⟩;have hv':Vs ⟨G.F,fun _=>none,fun _=>none⟩ 0 args vs:=⟨hv.1,fun j c x hc hx=>V.pure (G:=G) (G':=⟨G.F,fun _=>none,fun _=>none⟩) (n':=0) (fun(_:Addr) (_:Value) e=>e) (hv.2 j c x hc hx) (hp c (List.mem_of_getElem? hc))⟩;refine(h w ⟨G.F,fun _=>none,fun _=>none⟩ vs (fun a x e=>hM.pq a x (hM.glob a x e)) hM.pq hv').mono ?_;rintro e w' ⟨v,h1,h2,h3⟩;have hM1:=hM.below h2
  let G2:Gh:=⟨fun a=>match G.F a with|some x=>some x|none=>if w.heap.size<=a.block then w'.cell? a else none,G.m,G.τ⟩
  have hF: ∀a x,G.F a=some x->G2.F a=some x:=fun a x e=>by simp only [G2,e]
  have hnone: ∀a,a.block<w.heap.size->G.F a=none->G2.F a=none:=fun a ha e=>by
    simp only [G2,e];rw [if_neg (by omega)]
  have hE:Ext B H.next G G2:=⟨hF,fun _ _=>rfl,fun _ _=>rfl,fun a e1 e2=>hU _ (by
    rcases Nat.lt_or_ge a.block w.heap.size with q|q
    · exact absurd (hnone a q e1) e2
    · exact q)⟩
  have asy: ∀a x,G2.F a=some x->w'.cell? a=some x:=fun a x e=>by
    simp only [G2]at e;split at e
    · rename_i y hy;cases e;exact hM1.pq a x hy
    · split at e
      · exact e
      · cases e
  have hlt: ∀b arr t fr,w.heap[b]? =some (.cells arr t fr)->b<w.heap.size:=fun b arr t fr e=>(Array.getElem?_eq_some_iff.1 e).1
  have hM2:HM B H G2 w':={
    glob:=fun a x e=>hF a x (hM.glob a x e)
    pq:=asy
    obj:=fun id cs e=>by
      obtain⟨k0,b,arr,t,k1,k2,k3,k4,k5⟩:=hM.obj id cs e;have hb:=hlt _ _ _ _ k3;exact⟨k0,b,arr,t,k1,k2,(h2.block b hb).trans k3,k4.mono hE (Nat.le_refl _),fun off=>hnone _ hb (k5 off)⟩
    inj:=hM.inj
    tok:=fun k e=>by
      obtain⟨k0,b,o,arr,t,k1,k2,k3,k5⟩:=hM.tok k e;have hb:=hlt _ _ _ _ k3;exact⟨k0,b,o,arr,t,k1,k2,(h2.block b hb).trans k3,fun off ho=>hnone _ hb (k5 off ho)⟩
    qb:=hM.qb
    tobj:=hM.tobj
    wh:=hM.wh.keep fun b _ hb=>h2.block b hb}
  refine⟨r,v,H,G2,h1,Tr.below h2,hE,Nat.le_refl _,hM2,h3 G2 _ (fun a x ha e=> ?_),rfl,rfl⟩;cases hg:G.F a with
  |some y=>
    have:=hM1.pq a y hg;rw [e]at this;cases this;simp only [G2,hg]
  |none=>simp only [G2,hg];rw [if_pos ha];exact e
theorem Vs.str2 {n:Nat} {s t:List UInt8} {vs:Array Value} (h:Vs G n [.str s,.str t] vs):vs=#[.string ⟨s.toArray⟩,.string ⟨t.toArray⟩]:=by
  obtain⟨h1,h2⟩:=h
  match vs,h1,h2 with
  |⟨[v,u]⟩,_,h2=>
    have a:=h2 0 (.str s) v rfl rfl;have b:=h2 1 (.str t) u rfl rfl;cases a;cases b;rfl
theorem Vs.anR {n:Nat} {k:IntKind} {x:Int} {vs:Array Value} (h:Vs G n [.int k x] vs):vs=#[.int k x]:=by
  obtain⟨h1,h2⟩:=h
  match vs,h1,h2 with
  |⟨[v]⟩,_,h2=>
    have:=h2 0 (.int k x) v rfl rfl;cases this;rfl
theorem Vs.al7 {n:Nat} {l:List (List UInt8)} {t:List UInt8} {vs:Array Value} (hi: ∀a x,G.F a=some x->w.cell? a=some x) (h:Vs G n [.aB (l.map aI) .unk,.str t] vs):
    (∃ad cap,l.length<=cap/\vs=#[.slice ad l.length cap,.string ⟨t.toArray⟩]/\(l≠[]-> ∃b o,ad=some ⟨b,o,none⟩/\b<w.heap.size/\ ∀(j:Nat) (x:ByteArray),(l.map fun s=>(⟨s.toArray⟩:ByteArray))[j]? =some x->w.cell? ⟨b,o+j,none⟩=some (.string x))):=by
  obtain⟨h1,h2⟩:=h
  match vs,h1,h2 with
  |⟨[v,u]⟩,_,h2=>
    have a:=h2 0 _ v rfl rfl;have b:=h2 1 (.str t) u rfl rfl;cases b;generalize hes:l.map aI=es at a;have hl:l.length=es.length:=by rw [<-hes];simp
    cases a with
    |aB _ _ sz ad cap f k1 k2 k3 k4 k5=>
      refine⟨ad,cap,by omega,by rw [hl],fun hne=> ?_⟩;have hne':es≠[]:=fun e=>hne (List.eq_nil_of_length_eq_zero (by rw [hl,e];rfl));obtain⟨bk,o,rfl,k6⟩:=k3 hne';have get: ∀j s,l[j]? =some s->es[j]? =some (aI s):=fun j s e=>by rw [<-hes,List.getElem?_map,e];rfl
      have hsz:sz=1:=by
        obtain⟨s,l',rfl⟩:=List.exists_cons_of_ne_nil hne;have:=k1 0 _ (get 0 s rfl);exact this.symm
      subst hsz;have cell: ∀j s,l[j]? =some s->w.cell? ⟨bk,o+j,none⟩=some (.string ⟨s.toArray⟩):=fun j s e=>by
        have e1:=get j s e;have e2:=k6 j _ e1 0 (.str s) rfl;have e3:=k4 j _ 0 (.str s) e1 rfl;generalize f j 0=v at e2 e3;cases e3;have:=hi _ _ e2;simpa using this
      refine⟨bk,o,rfl,?_,fun j x e=> ?_⟩
      · obtain⟨s,l',rfl⟩:=List.exists_cons_of_ne_nil hne;exact World.block_lt_of_cell? w _ (cell 0 s rfl)
      · simp only [List.getElem?_map,Option.map_eq_some_iff]at e;obtain⟨s,e1,rfl⟩:=e;exact cell j s e1
end
end Go.VL
end
section
namespace Go.VL
def zy:List Int:=[0,0,0,0,0,0,0,0,0,1,1,1,1,1,0,0,0,0,0,0,0,0,0,0,0,0,0,0,0,0,0,0,1,0,0,0,0,0,0,0,0,0,0,0,0,0,0,0,0,0,0,0,0,0,0,0,0,0,0,0,0,0,0,0,0,0,0,0,0,0,0,0,0,0,0,0,0,0,0,0,0,0,0,0,0,0,0,0,0,0,0,0,0,0,0,0,0,0,0,0,0,0,0,0,0,0,0,0,0,0,0,0,0,0,0,0,0,0,0,0,0,0,0,0,0,0,0,0,0,0,0,0,0,0,0,0,0,0,0,0,0,0,0,0,0,0,0,0,0,0,0,0,0,0,0,0,0,0,0,0,0,0,0,0,0,0,0,0,0,0,0,0,0,0,0,0,0,0,0,0,0,0,0,0,0,0,0,0,0,0,0,0,0,0,0,0,0,0,0,0,0,0,0,0,0,0,0,0,0,0,0,0,0,0,0,0,0,0,0,0,0,0,0,0,0,0,0,0,0,0,0,0,0,0,0,0,0,0,0,0,0,0,0,0,0,0,0,0,0,0,0,0,0,0,0,0]
def Oz:List Int:=[1,10,100,1000,10000,100000,1000000,10000000,100000000,1000000000,10000000000,100000000000,1000000000000,10000000000000,100000000000000,1000000000000000,10000000000000000,100000000000000000,1000000000000000000,10000000000000000000]
def Sq:List Int:=[0,1,28,2,29,14,24,3,30,22,20,15,25,17,4,8,31,27,13,23,21,19,16,7,26,12,18,6,11,5,10,9]
def Sr:List Int:=[0,1,56,2,57,49,28,3,61,58,42,50,38,29,17,4,62,47,59,36,45,43,51,22,53,39,33,30,24,18,12,5,63,55,48,27,60,41,37,16,46,35,44,21,52,32,23,11,54,26,40,15,34,20,31,10,25,14,19,9,13,8,7,6]
def tabs:Br:=[(0,.u8,zy),(3,.u64,Oz),(4,.u8,Sq),(5,.u8,Sr)]
@[reducible] instance al8:Glob:=Glob.anr tabs
end Go.VL
end
section
namespace Go.Proofs
open Go.Shelf
def Tryz.lays156_ren:Go.Shelf.Ren:=⟨fun|156=>151|165=>191|166=>192|169=>193|240=>208|241=>209|276=>215|277=>216|n=>n,fun|31=>37|9=>9|3=>3|4=>4|0=>0|20=>20|72=>204|76=>208|70=>202|37=>141|75=>207|127=>220|164=>231|5=>5|80=>149|n=>n,fun|n=>n⟩
theorem Tryz.lays156:Go.Proofs.Lays.n156 Tryz.prog Tryz.lays156_ren:={
  mixed:=by kernel_rfl
  f156:=Tryz.func151.trans (congrArg some (by kernel_rfl))
  f165:=Tryz.func191.trans (congrArg some (by kernel_rfl))
  f166:=Tryz.func192.trans (congrArg some (by kernel_rfl))
  f169:=Tryz.func193.trans (congrArg some (by kernel_rfl))
  f240:=Tryz.func208.trans (congrArg some (by kernel_rfl))
  f241:=Tryz.func209.trans (congrArg some (by kernel_rfl))
  f276:=Tryz.func215.trans (congrArg some (by kernel_rfl))
  f277:=Tryz.func216.trans (congrArg some (by kernel_rfl))
  t0:=Tryz.underlying0
  a0:=Tryz.isAgg0
  z0:=Tryz.sizeOf0
  v0:=Tryz.zeroValue0
  t3:=Tryz.underlying3
  a3:=Tryz.isAgg3
  z3:=Tryz.sizeOf3
  v3:=Tryz.zeroValue3
  t4:=Tryz.underlying4
  a4:=Tryz.isAgg4
  z4:=Tryz.sizeOf4
  v4:=Tryz.zeroValue4
  t9:=Tryz.underlying9
  a9:=Tryz.isAgg9
  z9:=Tryz.sizeOf9
  v9:=Tryz.zeroValue9
  t20:=Tryz.underlying20
  a20:=Tryz.isAgg20
  z20:=Tryz.sizeOf20
  v20:=Tryz.zeroValue20
  t31:=Tryz.underlying37
  a31:=Tryz.isAgg37
  z31:=Tryz.sizeOf37
  v31:=Tryz.zeroValue37
  t37:=Tryz.underlying141
  a37:=Tryz.isAgg141
  z37:=Tryz.sizeOf141
  v37:=Tryz.zeroValue141
  t70:=Tryz.underlying202
  a70:=Tryz.isAgg202
  z70:=Tryz.sizeOf202
  v70:=Tryz.zeroValue202
  t72:=Tryz.underlying204
  a72:=Tryz.isAgg204
  z72:=Tryz.sizeOf204
  v72:=Tryz.zeroValue204
  t75:=Tryz.underlying207
  a75:=Tryz.isAgg207
  z75:=Tryz.sizeOf207
  v75:=Tryz.zeroValue207
  t76:=Tryz.underlying208
  a76:=Tryz.isAgg208
  z76:=Tryz.sizeOf208
  v76:=Tryz.zeroValue208
  t127:=Tryz.underlying220
  a127:=Tryz.isAgg220
  z127:=Tryz.sizeOf220
  v127:=Tryz.zeroValue220
  t164:=Tryz.underlying231
  a164:=Tryz.isAgg231
  z164:=Tryz.sizeOf231
  v164:=Tryz.zeroValue231}
theorem Tryz.Builder_Extra_156:Builder.Extra Tryz.prog Tryz.lays156_ren:={
  sizeBuilder:=by kernel_rfl
  liesBuilder:=by kernel_rfl
  t5:=Tryz.underlying5
  a5:=Tryz.isAgg5
  z5:=Tryz.sizeOf5
  v5:=Tryz.zeroValue5
  infoByte:=by kernel_rfl
  cellsByte:=by kernel_rfl
  sizeByte:=by kernel_rfl
  neB5:=by decide}
open Go.RowKit in
theorem Tryz.strings_Join_none (a:Option Addr) (c:Nat) (sep:ByteArray) (w:World):
    Calls Tryz.prog 151 #[.slice a 0 c,.string sep] w fun e w'=>e= .returned (.string ⟨#[]⟩)/\w'=w:=Any.strings_Join_none Tryz.lays156 Tryz.Builder_Extra_156 a c sep w
open Go.RowKit in
theorem Tryz.strings_Join (bk o c:Nat) (xs:List ByteArray) (sep:ByteArray) (w:World) (hcells: ∀(j:Nat) x,xs[j]? =some x->w.cell? ⟨bk,o+j,none⟩=some (.string x)) (hbk:bk<w.heap.size) (hN:xs.length<=140737488355328) (hcap:xs.length<=c) (hlen:(Lib.join (xs.map (·.data.toList)) sep.data.toList).length<=140737488355328):
    Calls Tryz.prog 151 #[.slice (some ⟨bk,o,none⟩) xs.length c,.string sep] w fun e w'=>e= .returned (.string ⟨(Lib.join (xs.map (·.data.toList)) sep.data.toList).toArray⟩)/\Below w.heap.size w w':=Any.strings_Join Tryz.lays156 Tryz.Builder_Extra_156 bk o c xs sep w hcells hbk hN hcap hlen
def Tryz.laysM246_ren:Go.Shelf.Ren:=⟨fun|246=>210|283=>217|284=>218|285=>219|286=>220|129=>178|317=>227|318=>228|319=>229|320=>230|337=>233|338=>234|n=>n,fun|2=>2|3=>3|9=>9|4=>4|171=>234|0=>0|53=>183|37=>141|5=>5|173=>236|212=>250|51=>181|20=>20|213=>251|46=>138|232=>255|233=>256|n=>n,fun|17=>3|18=>4|19=>5|n=>n⟩
def Tryz.laysM243_ren:Go.Shelf.Ren:=⟨fun|243=>194|246=>210|283=>217|284=>218|285=>219|286=>220|129=>178|317=>227|318=>228|319=>229|320=>230|337=>233|338=>234|n=>n,fun|3=>3|9=>9|2=>2|4=>4|171=>234|0=>0|53=>183|37=>141|5=>5|173=>236|212=>250|51=>181|20=>20|213=>251|46=>138|232=>255|233=>256|n=>n,fun|17=>3|18=>4|19=>5|n=>n⟩
def Tryz.laysM171_ren:Go.Shelf.Ren:=⟨fun|171=>152|243=>194|246=>210|283=>217|284=>218|285=>219|286=>220|129=>178|317=>227|318=>228|319=>229|320=>230|337=>233|338=>234|n=>n,fun|3=>3|9=>9|2=>2|4=>4|171=>234|0=>0|53=>183|37=>141|5=>5|173=>236|212=>250|51=>181|20=>20|213=>251|46=>138|232=>255|233=>256|n=>n,fun|17=>3|18=>4|19=>5|n=>n⟩
theorem Tryz.laysM171:Go.Proofs.LaysM.n171 Tryz.prog Tryz.laysM171_ren:={
  mixed:=by kernel_rfl
  f129:=Tryz.func178.trans (congrArg some (by kernel_rfl))
  f171:=Tryz.func152.trans (congrArg some (by kernel_rfl))
  f243:=Tryz.func194.trans (congrArg some (by kernel_rfl))
  f246:=Tryz.func210.trans (congrArg some (by kernel_rfl))
  f283:=Tryz.func217.trans (congrArg some (by kernel_rfl))
  f284:=Tryz.func218.trans (congrArg some (by kernel_rfl))
  f285:=Tryz.func219.trans (congrArg some (by kernel_rfl))
  f286:=Tryz.func220.trans (congrArg some (by kernel_rfl))
  f317:=Tryz.func227.trans (congrArg some (by kernel_rfl))
  f318:=Tryz.func228.trans (congrArg some (by kernel_rfl))
  f319:=Tryz.func229.trans (congrArg some (by kernel_rfl))
  f320:=Tryz.func230.trans (congrArg some (by kernel_rfl))
  f337:=Tryz.func233.trans (congrArg some (by kernel_rfl))
  f338:=Tryz.func234.trans (congrArg some (by kernel_rfl))
  t0:=Tryz.underlying0
  a0:=Tryz.isAgg0
  z0:=Tryz.sizeOf0
  v0:=Tryz.zeroValue0
  t2:=Tryz.underlying2
  a2:=Tryz.isAgg2
  z2:=Tryz.sizeOf2
  v2:=Tryz.zeroValue2
  t3:=Tryz.underlying3
  a3:=Tryz.isAgg3
  z3:=Tryz.sizeOf3
  v3:=Tryz.zeroValue3
  t4:=Tryz.underlying4
  a4:=Tryz.isAgg4
  z4:=Tryz.sizeOf4
  v4:=Tryz.zeroValue4
  t5:=Tryz.underlying5
  a5:=Tryz.isAgg5
  z5:=Tryz.sizeOf5
  v5:=Tryz.zeroValue5
  t9:=Tryz.underlying9
  a9:=Tryz.isAgg9
  z9:=Tryz.sizeOf9
  v9:=Tryz.zeroValue9
  t20:=Tryz.underlying20
  a20:=Tryz.isAgg20
  z20:=Tryz.sizeOf20
  v20:=Tryz.zeroValue20
  t37:=Tryz.underlying141
  a37:=Tryz.isAgg141
  z37:=Tryz.sizeOf141
  v37:=Tryz.zeroValue141
  t46:=Tryz.underlying138
  a46:=Tryz.isAgg138
  z46:=Tryz.sizeOf138
  v46:=Tryz.zeroValue138
  t51:=Tryz.underlying181
  a51:=Tryz.isAgg181
  z51:=Tryz.sizeOf181
  v51:=Tryz.zeroValue181
  t53:=Tryz.underlying183
  a53:=Tryz.isAgg183
  z53:=Tryz.sizeOf183
  v53:=Tryz.zeroValue183
  t171:=Tryz.underlying234
  a171:=Tryz.isAgg234
  z171:=Tryz.sizeOf234
  v171:=Tryz.zeroValue234
  t173:=Tryz.underlying236
  a173:=Tryz.isAgg236
  z173:=Tryz.sizeOf236
  v173:=Tryz.zeroValue236
  t212:=Tryz.underlying250
  a212:=Tryz.isAgg250
  z212:=Tryz.sizeOf250
  v212:=Tryz.zeroValue250
  t213:=Tryz.underlying251
  a213:=Tryz.isAgg251
  z213:=Tryz.sizeOf251
  t232:=Tryz.underlying255
  a232:=Tryz.isAgg255
  z232:=Tryz.sizeOf255
  v232:=Tryz.zeroValue255
  t233:=Tryz.underlying256
  a233:=Tryz.isAgg256
  z233:=Tryz.sizeOf256
  v233:=Tryz.zeroValue256
  g17:=by kernel_rfl
  g18:=by kernel_rfl
  g19:=by kernel_rfl
  i0:=by kernel_rfl
  i2:=by kernel_rfl
  i3:=by kernel_rfl
  i4:=by kernel_rfl
  i5:=by kernel_rfl
  i9:=by kernel_rfl
  i20:=by kernel_rfl
  i37:=by kernel_rfl
  i46:=by kernel_rfl
  i51:=by kernel_rfl
  i53:=by kernel_rfl
  i171:=by kernel_rfl
  i173:=by kernel_rfl
  i212:=by kernel_rfl
  i232:=by kernel_rfl
  i233:=by kernel_rfl
  m17:=by kernel_rfl
  m18:=by kernel_rfl
  m19:=by kernel_rfl}
open Go.RowKit Go.Sort Go.Lib in
theorem Tryz.strconv_Itoa (n:Int) (h0: -9223372036854775808<=n) (h1:n<=9223372036854775807) (w:World) (htab:Lib.TabIs Tryz.prog w "internal/strconv.uint64pow10" .u64 Lib.pow10Tab):
    Calls Tryz.prog 152 #[.int .i64 n] w fun e w'=>e= .returned (.string ⟨(Lib.itoa n).toArray⟩)/\ ∃k os,w'=grow (w.drewN k) os:=Any.strconv_Itoa Tryz.laysM171 n h0 h1 w htab
def Tryz.lays171_ren:Go.Shelf.Ren:=⟨fun|171=>152|243=>194|246=>210|283=>217|284=>218|285=>219|286=>220|129=>178|317=>227|318=>228|319=>229|320=>230|337=>233|338=>234|n=>n,fun|3=>3|9=>9|2=>2|4=>4|171=>234|0=>0|53=>183|37=>141|5=>5|173=>236|212=>250|51=>181|20=>20|213=>251|46=>138|232=>255|233=>256|n=>n,fun|17=>3|18=>4|19=>5|n=>n⟩
theorem Tryz.lays171:Go.Proofs.Lays.n171 Tryz.prog Tryz.lays171_ren:={
  mixed:=by kernel_rfl
  f129:=Tryz.func178.trans (congrArg some (by kernel_rfl))
  f171:=Tryz.func152.trans (congrArg some (by kernel_rfl))
  f243:=Tryz.func194.trans (congrArg some (by kernel_rfl))
  f246:=Tryz.func210.trans (congrArg some (by kernel_rfl))
  f283:=Tryz.func217.trans (congrArg some (by kernel_rfl))
  f284:=Tryz.func218.trans (congrArg some (by kernel_rfl))
  f285:=Tryz.func219.trans (congrArg some (by kernel_rfl))
  f286:=Tryz.func220.trans (congrArg some (by kernel_rfl))
  f317:=Tryz.func227.trans (congrArg some (by kernel_rfl))
  f318:=Tryz.func228.trans (congrArg some (by kernel_rfl))
  f319:=Tryz.func229.trans (congrArg some (by kernel_rfl))
  f320:=Tryz.func230.trans (congrArg some (by kernel_rfl))
  f337:=Tryz.func233.trans (congrArg some (by kernel_rfl))
  f338:=Tryz.func234.trans (congrArg some (by kernel_rfl))
  t0:=Tryz.underlying0
  a0:=Tryz.isAgg0
  z0:=Tryz.sizeOf0
  v0:=Tryz.zeroValue0
  t2:=Tryz.underlying2
  a2:=Tryz.isAgg2
  z2:=Tryz.sizeOf2
  v2:=Tryz.zeroValue2
  t3:=Tryz.underlying3
  a3:=Tryz.isAgg3
  z3:=Tryz.sizeOf3
  v3:=Tryz.zeroValue3
  t4:=Tryz.underlying4
  a4:=Tryz.isAgg4
  z4:=Tryz.sizeOf4
  v4:=Tryz.zeroValue4
  t5:=Tryz.underlying5
  a5:=Tryz.isAgg5
  z5:=Tryz.sizeOf5
  v5:=Tryz.zeroValue5
  t9:=Tryz.underlying9
  a9:=Tryz.isAgg9
  z9:=Tryz.sizeOf9
  v9:=Tryz.zeroValue9
  t20:=Tryz.underlying20
  a20:=Tryz.isAgg20
  z20:=Tryz.sizeOf20
  v20:=Tryz.zeroValue20
  t37:=Tryz.underlying141
  a37:=Tryz.isAgg141
  z37:=Tryz.sizeOf141
  v37:=Tryz.zeroValue141
  t46:=Tryz.underlying138
  a46:=Tryz.isAgg138
  z46:=Tryz.sizeOf138
  v46:=Tryz.zeroValue138
  t51:=Tryz.underlying181
  a51:=Tryz.isAgg181
  z51:=Tryz.sizeOf181
  v51:=Tryz.zeroValue181
  t53:=Tryz.underlying183
  a53:=Tryz.isAgg183
  z53:=Tryz.sizeOf183
  v53:=Tryz.zeroValue183
  t171:=Tryz.underlying234
  a171:=Tryz.isAgg234
  z171:=Tryz.sizeOf234
  v171:=Tryz.zeroValue234
  t173:=Tryz.underlying236
  a173:=Tryz.isAgg236
  z173:=Tryz.sizeOf236
  v173:=Tryz.zeroValue236
  t212:=Tryz.underlying250
  a212:=Tryz.isAgg250
  z212:=Tryz.sizeOf250
  v212:=Tryz.zeroValue250
  t213:=Tryz.underlying251
  a213:=Tryz.isAgg251
  z213:=Tryz.sizeOf251
  t232:=Tryz.underlying255
  a232:=Tryz.isAgg255
  z232:=Tryz.sizeOf255
  v232:=Tryz.zeroValue255
  t233:=Tryz.underlying256
  a233:=Tryz.isAgg256
  z233:=Tryz.sizeOf256
  v233:=Tryz.zeroValue256
  g17:=by kernel_rfl
  g18:=by kernel_rfl
  g19:=by kernel_rfl}
open Go.RowKit Go.Sort Go.Lib in
theorem Tryz.strconv_Itoa_small (i:Nat) (hi:i<100) (w:World):
    Calls Tryz.prog 152 #[.int .i64 i] w fun e w'=>e= .returned (.string ⟨(Lib.decDigits i).toArray⟩)/\w'=w:=Any.strconv_Itoa_small Tryz.lays171 i hi w
def Tryz.lays219_ren:Go.Shelf.Ren:=⟨fun|219=>214|217=>223|225=>224|224=>225|267=>226|266=>231|314=>232|n=>n,fun|9=>9|3=>3|4=>4|5=>5|46=>138|146=>197|51=>181|n=>n,fun|1=>2|n=>n⟩
theorem Tryz.lays219:Go.Proofs.Lays.n219 Tryz.prog Tryz.lays219_ren:={
  mixed:=by kernel_rfl
  f217:=Tryz.func223.trans (congrArg some (by kernel_rfl))
  f219:=Tryz.func214.trans (congrArg some (by kernel_rfl))
  f224:=Tryz.func225.trans (congrArg some (by kernel_rfl))
  f225:=Tryz.func224.trans (congrArg some (by kernel_rfl))
  f266:=Tryz.func231.trans (congrArg some (by kernel_rfl))
  f267:=Tryz.func226.trans (congrArg some (by kernel_rfl))
  f314:=Tryz.func232.trans (congrArg some (by kernel_rfl))
  t3:=Tryz.underlying3
  a3:=Tryz.isAgg3
  z3:=Tryz.sizeOf3
  v3:=Tryz.zeroValue3
  t4:=Tryz.underlying4
  a4:=Tryz.isAgg4
  z4:=Tryz.sizeOf4
  v4:=Tryz.zeroValue4
  t5:=Tryz.underlying5
  a5:=Tryz.isAgg5
  z5:=Tryz.sizeOf5
  v5:=Tryz.zeroValue5
  t9:=Tryz.underlying9
  a9:=Tryz.isAgg9
  z9:=Tryz.sizeOf9
  v9:=Tryz.zeroValue9
  t46:=Tryz.underlying138
  a46:=Tryz.isAgg138
  z46:=Tryz.sizeOf138
  v46:=Tryz.zeroValue138
  t51:=Tryz.underlying181
  a51:=Tryz.isAgg181
  z51:=Tryz.sizeOf181
  v51:=Tryz.zeroValue181
  t146:=Tryz.underlying197
  a146:=Tryz.isAgg197
  z146:=Tryz.sizeOf197
  v146:=Tryz.zeroValue197
  g1:=by kernel_rfl}
open Go.RowKit Go.Lib in
theorem Tryz.stringslite_Index_one (s:ByteArray) (c:UInt8) (w:World):
    Calls Tryz.prog 214 #[.string s,.string ⟨#[c]⟩] w fun e w'=>e= .returned (.int .i64 (Lib.indexByte s.data.toList c))/\w'=w:=Any.stringslite_Index_one Tryz.lays219 s c w
def Tryz.lays190_ren:Go.Shelf.Ren:=⟨fun|190=>66|125=>117|258=>116|128=>177|129=>178|302=>168|303=>169|304=>170|305=>171|306=>172|307=>173|308=>174|309=>175|310=>176|333=>197|329=>198|330=>199|334=>200|335=>201|336=>202|344=>212|n=>n,fun|31=>37|9=>9|3=>3|46=>138|0=>0|51=>181|53=>183|4=>4|183=>174|182=>173|131=>178|5=>5|218=>210|222=>214|228=>223|229=>30|n=>n,fun|n=>n⟩
theorem Tryz.lays190:Go.Proofs.Lays.n190 Tryz.prog Tryz.lays190_ren:={
  mixed:=by kernel_rfl
  f125:=Tryz.func117.trans (congrArg some (by kernel_rfl))
  f128:=Tryz.func177.trans (congrArg some (by kernel_rfl))
  f129:=Tryz.func178.trans (congrArg some (by kernel_rfl))
  f190:=Tryz.func66.trans (congrArg some (by kernel_rfl))
  f258:=Tryz.func116.trans (congrArg some (by kernel_rfl))
  f302:=Tryz.func168.trans (congrArg some (by kernel_rfl))
  f303:=Tryz.func169.trans (congrArg some (by kernel_rfl))
  f304:=Tryz.func170.trans (congrArg some (by kernel_rfl))
  f305:=Tryz.func171.trans (congrArg some (by kernel_rfl))
  f306:=Tryz.func172.trans (congrArg some (by kernel_rfl))
  f307:=Tryz.func173.trans (congrArg some (by kernel_rfl))
  f308:=Tryz.func174.trans (congrArg some (by kernel_rfl))
  f309:=Tryz.func175.trans (congrArg some (by kernel_rfl))
  f310:=Tryz.func176.trans (congrArg some (by kernel_rfl))
  f329:=Tryz.func198.trans (congrArg some (by kernel_rfl))
  f330:=Tryz.func199.trans (congrArg some (by kernel_rfl))
  f333:=Tryz.func197.trans (congrArg some (by kernel_rfl))
  f334:=Tryz.func200.trans (congrArg some (by kernel_rfl))
  f335:=Tryz.func201.trans (congrArg some (by kernel_rfl))
  f336:=Tryz.func202.trans (congrArg some (by kernel_rfl))
  f344:=Tryz.func212.trans (congrArg some (by kernel_rfl))
  t0:=Tryz.underlying0
  a0:=Tryz.isAgg0
  z0:=Tryz.sizeOf0
  v0:=Tryz.zeroValue0
  t3:=Tryz.underlying3
  a3:=Tryz.isAgg3
  z3:=Tryz.sizeOf3
  v3:=Tryz.zeroValue3
  t4:=Tryz.underlying4
  a4:=Tryz.isAgg4
  z4:=Tryz.sizeOf4
  v4:=Tryz.zeroValue4
  t5:=Tryz.underlying5
  a5:=Tryz.isAgg5
  z5:=Tryz.sizeOf5
  v5:=Tryz.zeroValue5
  t9:=Tryz.underlying9
  a9:=Tryz.isAgg9
  z9:=Tryz.sizeOf9
  v9:=Tryz.zeroValue9
  t31:=Tryz.underlying37
  a31:=Tryz.isAgg37
  z31:=Tryz.sizeOf37
  v31:=Tryz.zeroValue37
  t46:=Tryz.underlying138
  a46:=Tryz.isAgg138
  z46:=Tryz.sizeOf138
  v46:=Tryz.zeroValue138
  t51:=Tryz.underlying181
  a51:=Tryz.isAgg181
  z51:=Tryz.sizeOf181
  v51:=Tryz.zeroValue181
  t53:=Tryz.underlying183
  a53:=Tryz.isAgg183
  z53:=Tryz.sizeOf183
  v53:=Tryz.zeroValue183
  t131:=Tryz.underlying178
  a131:=Tryz.isAgg178
  z131:=Tryz.sizeOf178
  v131:=Tryz.zeroValue178
  t182:=Tryz.underlying173
  a182:=Tryz.isAgg173
  z182:=Tryz.sizeOf173
  v182:=Tryz.zeroValue173
  t183:=Tryz.underlying174
  a183:=Tryz.isAgg174
  z183:=Tryz.sizeOf174
  v183:=Tryz.zeroValue174
  t218:=Tryz.underlying210
  a218:=Tryz.isAgg210
  z218:=Tryz.sizeOf210
  v218:=Tryz.zeroValue210
  t222:=Tryz.underlying214
  a222:=Tryz.isAgg214
  z222:=Tryz.sizeOf214
  v222:=Tryz.zeroValue214
  t228:=Tryz.underlying223
  a228:=Tryz.isAgg223
  z228:=Tryz.sizeOf223
  v228:=Tryz.zeroValue223
  t229:=Tryz.underlying30
  a229:=Tryz.isAgg30
  z229:=Tryz.sizeOf30
  v229:=Tryz.zeroValue30}
open Go.Sort Go.RowKit in
theorem Tryz.slices_Sort_string (blk off cap:Nat) (ss:List (List UInt8)) (w:World) (hH:Holds encStr w blk off ss.toArray) (hblk:blk<w.heap.size) (hsz:ss.length<4611686018427387904):
    Calls Tryz.prog 66 #[.slice (some ⟨blk,off,none⟩) ss.length cap] w fun e w'=>
      e= .returned (.tuple #[])/\ ∃n os,w'=grow (putRow encStr (Sort.ahead w n) blk off (ss.mergeSort fun x y=>decide (x<=y)).toArray) os:=Any.slices_Sort_string Tryz.lays190 blk off cap ss w hH hblk hsz
def Tryz.laysGw17_ren:Go.Shelf.Ren:=⟨fun|17=>143|15=>185|20=>206|n=>n,fun|9=>9|23=>152|4=>4|3=>3|0=>0|21=>21|n=>n,fun|n=>n⟩
theorem Tryz.laysGw17:Go.Proofs.LaysGw.n17 Tryz.prog Tryz.laysGw17_ren:={
  mixed:=by kernel_rfl
  f15:=Tryz.func185.trans (congrArg some (by kernel_rfl))
  f17:=Tryz.func143.trans (congrArg some (by kernel_rfl))
  f20:=Tryz.func206.trans (congrArg some (by kernel_rfl))
  t0:=Tryz.underlying0
  a0:=Tryz.isAgg0
  z0:=Tryz.sizeOf0
  v0:=Tryz.zeroValue0
  i0:=by kernel_rfl
  t3:=Tryz.underlying3
  a3:=Tryz.isAgg3
  z3:=Tryz.sizeOf3
  v3:=Tryz.zeroValue3
  i3:=by kernel_rfl
  t4:=Tryz.underlying4
  a4:=Tryz.isAgg4
  z4:=Tryz.sizeOf4
  v4:=Tryz.zeroValue4
  i4:=by kernel_rfl
  t9:=Tryz.underlying9
  a9:=Tryz.isAgg9
  z9:=Tryz.sizeOf9
  v9:=Tryz.zeroValue9
  i9:=by kernel_rfl
  t21:=Tryz.underlying21
  a21:=Tryz.isAgg21
  z21:=Tryz.sizeOf21
  v21:=Tryz.zeroValue21
  i21:=by kernel_rfl
  t23:=Tryz.underlying152
  a23:=Tryz.isAgg152
  z23:=Tryz.sizeOf152
  v23:=Tryz.zeroValue152
  i23:=by kernel_rfl}
def Tryz.lays264_ren:Go.Shelf.Ren:=⟨fun|264=>189|n=>n,fun|53=>183|46=>138|n=>n,fun|n=>n⟩
theorem Tryz.lays264:Go.Proofs.Lays.n264 Tryz.prog Tryz.lays264_ren:={
  mixed:=by kernel_rfl
  f264:=Tryz.func189.trans (congrArg some (by kernel_rfl))
  t46:=Tryz.underlying138
  a46:=Tryz.isAgg138
  z46:=Tryz.sizeOf138
  v46:=Tryz.zeroValue138
  t53:=Tryz.underlying183
  a53:=Tryz.isAgg183
  z53:=Tryz.sizeOf183
  v53:=Tryz.zeroValue183}
open Go.RowKit Go.Lib in
theorem Tryz.bits_Mul64 (x y:Nat) (hx:x<18446744073709551616) (hy:y<18446744073709551616) (w:World):
    Calls Tryz.prog 189 #[.int .u64 x,.int .u64 y] w fun e w'=>e= .returned (.tuple #[.int .u64 ((x*y/18446744073709551616:Nat):Int),.int .u64 ((x*y% 18446744073709551616:Nat):Int)])/\w'=w:=Any.bits_Mul64 Tryz.lays264 x y hx hy w
open Go.RowKit Go.Lib in
theorem Tryz.strings_ContainsFunc_grows (g:Nat) (lb:Array Value) (eg: ∀args w,(callFunc g args).run Tryz.prog w= .ok (.enter g args) w) (p:Nat->Bool) (s:ByteArray) (w:World) (hp:PredGrows Tryz.prog g lb p w):
    Calls Tryz.prog 143 #[.string s,.func (.func g) #[] lb] w fun e w'=>e= .returned (.bool (decide (0<=Lib.idxFunc p true s)))/\Below w.heap.size w w':=Any.strings_ContainsFunc_grows Tryz.laysGw17 g lb eg p s w hp
def Tryz.laysNm215_ren:Go.Shelf.Ren:=⟨fun|15=>128|n=>n,fun|22=>38|3=>3|4=>4|n=>n,fun|n=>n⟩
theorem Tryz.laysNm215:Go.Proofs.Lays2.n15 Tryz.prog Tryz.laysNm215_ren:={
  mixed:=by kernel_rfl
  f15:=Tryz.func128.trans (congrArg some (by kernel_rfl))
  t3:=Tryz.underlying3
  a3:=Tryz.isAgg3
  z3:=Tryz.sizeOf3
  v3:=Tryz.zeroValue3
  t4:=Tryz.underlying4
  a4:=Tryz.isAgg4
  z4:=Tryz.sizeOf4
  v4:=Tryz.zeroValue4
  t22:=Tryz.underlying38
  a22:=Tryz.isAgg38
  z22:=Tryz.sizeOf38
  v22:=Tryz.zeroValue38
  i3:=by kernel_rfl}
open Go.RowKit Go.Lib in
theorem Tryz.slices_Clone_int (b off n c:Nat) (zs:List Int) (w:World) (hz:n<=zs.length) (hbig:n*8<=140737488355328) (hc: ∀j,j<zs.length->w.cell? ⟨b,off+j,none⟩=some (.int .i64 (zs.getD j 0))):
    Calls Tryz.prog 128 #[.slice (some ⟨b,off,none⟩) n c] w fun e w'=> ∃v',e= .returned v'/\w'.ownsRow w.heap.size 3 1 v' n ((zs.take n).map (Value.int .i64))/\v'≠ .slice none 0 0/\Below w.heap.size w w':=Any.slices_Clone_int Tryz.laysNm215 b off n c zs w hz hbig hc
open Go.RowKit Go.Lib in
theorem Tryz.slices_Clone_int_nil (n c:Nat) (w:World):
    Calls Tryz.prog 128 #[.slice none n c] w fun e w'=>e= .returned (.slice none 0 0)/\w'=w:=Any.slices_Clone_int_nil Tryz.laysNm215 n c w
def Tryz.laysNm216_ren:Go.Shelf.Ren:=⟨fun|16=>72|n=>n,fun|24=>37|9=>9|4=>4|n=>n,fun|n=>n⟩
theorem Tryz.laysNm216:Go.Proofs.Lays2.n16 Tryz.prog Tryz.laysNm216_ren:={
  mixed:=by kernel_rfl
  f16:=Tryz.func72.trans (congrArg some (by kernel_rfl))
  t4:=Tryz.underlying4
  a4:=Tryz.isAgg4
  z4:=Tryz.sizeOf4
  v4:=Tryz.zeroValue4
  t9:=Tryz.underlying9
  a9:=Tryz.isAgg9
  z9:=Tryz.sizeOf9
  v9:=Tryz.zeroValue9
  t24:=Tryz.underlying37
  a24:=Tryz.isAgg37
  z24:=Tryz.sizeOf37
  v24:=Tryz.zeroValue37
  i9:=by kernel_rfl}
open Go.RowKit Go.Lib in
theorem Tryz.slices_Clone_string (b off n c:Nat) (zs:List ByteArray) (w:World) (hz:n<=zs.length) (hbig:n*16<=140737488355328) (hc: ∀j,j<zs.length->w.cell? ⟨b,off+j,none⟩=some (.string (zs.getD j ByteArray.empty))):
    Calls Tryz.prog 72 #[.slice (some ⟨b,off,none⟩) n c] w fun e w'=> ∃v',e= .returned v'/\w'.ownsRow w.heap.size 9 1 v' n ((zs.take n).map (Value.string))/\v'≠ .slice none 0 0/\Below w.heap.size w w':=Any.slices_Clone_string Tryz.laysNm216 b off n c zs w hz hbig hc
open Go.RowKit Go.Lib in
theorem Tryz.slices_Clone_string_nil (n c:Nat) (w:World):
    Calls Tryz.prog 72 #[.slice none n c] w fun e w'=>e= .returned (.slice none 0 0)/\w'=w:=Any.slices_Clone_string_nil Tryz.laysNm216 n c w
open Go.RowKit Go.Lib in
theorem Tryz.slices_Clone_int_zero (a:Addr) (c:Nat) (w:World):
    Calls Tryz.prog 128 #[.slice (some a) 0 c] w fun e w'=> ∃v',e= .returned v'/\w'.ownsRow w.heap.size 3 1 v' 0 []/\v'≠ .slice none 0 0/\Below w.heap.size w w':=Any.slices_Clone_int_zero Tryz.laysNm215 a c w
open Go.RowKit Go.Lib in
theorem Tryz.slices_Clone_string_zero (a:Addr) (c:Nat) (w:World):
    Calls Tryz.prog 72 #[.slice (some a) 0 c] w fun e w'=> ∃v',e= .returned v'/\w'.ownsRow w.heap.size 9 1 v' 0 []/\v'≠ .slice none 0 0/\Below w.heap.size w w':=Any.slices_Clone_string_zero Tryz.laysNm216 a c w
def Tryz.lays194_ren:Go.Shelf.Ren:=⟨fun|194=>119|n=>n,fun|31=>37|9=>9|3=>3|4=>4|0=>0|n=>n,fun|n=>n⟩
theorem Tryz.lays194:Go.Proofs.Lays.n194 Tryz.prog Tryz.lays194_ren:={
  mixed:=by kernel_rfl
  f194:=Tryz.func119.trans (congrArg some (by kernel_rfl))
  t0:=Tryz.underlying0
  a0:=Tryz.isAgg0
  z0:=Tryz.sizeOf0
  v0:=Tryz.zeroValue0
  t3:=Tryz.underlying3
  a3:=Tryz.isAgg3
  z3:=Tryz.sizeOf3
  v3:=Tryz.zeroValue3
  t4:=Tryz.underlying4
  a4:=Tryz.isAgg4
  z4:=Tryz.sizeOf4
  v4:=Tryz.zeroValue4
  t9:=Tryz.underlying9
  a9:=Tryz.isAgg9
  z9:=Tryz.sizeOf9
  v9:=Tryz.zeroValue9
  t31:=Tryz.underlying37
  a31:=Tryz.isAgg37
  z31:=Tryz.sizeOf37
  v31:=Tryz.zeroValue37}
open Go.RowKit Go.Lib Go.Sort in
theorem Tryz.slices_Compact_string (blk off cap:Nat) (zs:List (List UInt8)) (w:World) (hH:Holds encStr w blk off zs.toArray) (hsz:zs.length<=9223372036854775807) (hcap:zs.length<=cap):
    Calls Tryz.prog 119 #[.slice (some ⟨blk,off,none⟩) zs.length cap] w fun e w'=>e= .returned (.slice (some ⟨blk,off,none⟩) (Lib.compact zs).length cap)/\ ∃q,w'=putRow encStr (Sort.ahead w q) blk off (Lib.compact zs++List.replicate (zs.length -(Lib.compact zs).length) []).toArray:=Any.slices_Compact_string Tryz.lays194 blk off cap zs w hH hsz hcap
open Go.RowKit Go.Lib Go.Sort in
theorem Tryz.slices_Compact_string_empty (a:Option Addr) (cap:Nat) (w:World):
    Calls Tryz.prog 119 #[.slice a 0 cap] w fun e w'=>e= .returned (.slice a 0 cap)/\w'=w:=Any.slices_Compact_string_empty Tryz.lays194 a cap w
open Go.RowKit Go.Sort in
theorem Tryz.slices_Sort_string_none (p:Option Addr) (cap:Nat) (w:World):
    Calls Tryz.prog 66 #[.slice p 0 cap] w fun e w'=>e= .returned (.tuple #[])/\w'=w:=Any.slices_Sort_string_none Tryz.lays190 p cap w
def Tryz.growOp_ren:Go.Shelf.Ren:=⟨fun|4=>167|n=>n,fun|22=>93|25=>46|3=>3|4=>4|9=>9|20=>20|0=>0|n=>n,fun|n=>n⟩
theorem Tryz.growOp:Go.Proofs.Lays8.n4 Tryz.prog Tryz.growOp_ren:={
  mixed:=by kernel_rfl
  f4:=⟨Tryz.f167.name,by decide,Tryz.func167.trans (congrArg some (by kernel_rfl))⟩
  t0:=Tryz.underlying0
  a0:=Tryz.isAgg0
  z0:=Tryz.sizeOf0
  v0:=Tryz.zeroValue0
  t3:=Tryz.underlying3
  a3:=Tryz.isAgg3
  z3:=Tryz.sizeOf3
  v3:=Tryz.zeroValue3
  t4:=Tryz.underlying4
  a4:=Tryz.isAgg4
  z4:=Tryz.sizeOf4
  v4:=Tryz.zeroValue4
  t9:=Tryz.underlying9
  a9:=Tryz.isAgg9
  z9:=Tryz.sizeOf9
  v9:=Tryz.zeroValue9
  t20:=Tryz.underlying20
  a20:=Tryz.isAgg20
  z20:=Tryz.sizeOf20
  v20:=Tryz.zeroValue20
  t22:=Tryz.underlying93
  a22:=Tryz.isAgg93
  z22:=Tryz.sizeOf93
  v22:=Tryz.zeroValue93}
end Go.Proofs
end
section
namespace Go.VL
open Go.Proofs Go.RowKit
theorem anS (l:List Str) (sep:Str) {c:Ck} (h1:l.length<=1099511627776) (h2:(Lib.join l sep).length<=140737488355328):aF Tryz.prog 151 [.aB (l.map aI) c,.str sep] (.str (Lib.join l sep)):=by
  refine aF.wk (args:=[.aB (l.map aI) .unk,.str sep]) ?_ (.aB (.same .nil));refine Jg ⟨_,Tryz.func151,rfl,by kernel_rfl⟩ (fun w G vs hg hi hv=> ?_) (bg.mem (.cons (aV bn _) (.cons (.str _) .nil)));obtain⟨ad,cap,hc,rfl,hcells⟩:=Vs.al7 hi hv;by_cases h0:l=[]
  · subst h0;refine(Tryz.strings_Join_none ad cap ⟨sep.toArray⟩ w).mono ?_;rintro e w' ⟨rfl,rfl⟩;exact⟨_,rfl,Below.refl _ _,fun G n=> .str _⟩
  · obtain⟨b,o,rfl,hb,hx⟩:=hcells h0
    have e1:(l.map fun s=>(⟨s.toArray⟩:ByteArray)).map (·.data.toList)=l:=by simp [Function.comp_def]
    have key:=Tryz.strings_Join b o cap (l.map fun s=>⟨s.toArray⟩) ⟨sep.toArray⟩ w hx hb (by simp;omega) (by simp;exact hc) (by rw [e1];exact h2);rw [e1,List.length_map]at key;refine key.mono ?_;rintro e w' ⟨rfl,hb'⟩;exact⟨_,rfl,hb',fun G n=> .str _⟩
theorem YN (n:Int) (h:0<=n/\n<100):aF Tryz.prog 152 [.int .i64 n] (.str (Lib.decDigits n.toNat)):=by
  refine Jg ⟨_,Tryz.func152,rfl,by kernel_rfl⟩ (fun w G vs hg hi hv=> ?_) (bg.mem (.cons (.int _ _) .nil));rw [Vs.anR hv];have e1:n=((n.toNat:Nat):Int):=by omega
  have key:=Tryz.strconv_Itoa_small n.toNat (by omega) w;rw [<-e1]at key;refine key.mono ?_;rintro e w' ⟨rfl,rfl⟩;exact⟨_,rfl,Below.refl _ _,fun G n=> .str _⟩
theorem abF (s:Str) (c:UInt8):aF Tryz.prog 214 [.str s,.str [c]] (.int .i64 (Lib.indexByte s c)):=by
  refine Jg ⟨_,Tryz.func214,rfl,by kernel_rfl⟩ (fun w G vs hg hi hv=> ?_) (bg.mem (.cons (.str _) (.cons (.str _) .nil)));rw [Vs.str2 hv];refine(Tryz.stringslite_Index_one ⟨s.toArray⟩ c w).mono ?_;rintro e w' ⟨rfl,rfl⟩;exact⟨_,rfl,Below.refl _ _,fun G n=> .int _ _⟩
end Go.VL
end
section
namespace Go.VL
open Go.Proofs Go.RowKit
theorem ajF {G:Gh} {n:Nat} {es:List (List PV)} {v:Value} (h:V G n (.aB es .unk) v): ∃ad cap,v= .slice ad es.length cap/\es.length<=cap/\ ∀sz,(∀cs∈es,cs.length=sz)->es≠[]-> ∃b o,ad=some ⟨b,o,none⟩/\ ∃f:Nat->Nat->Value,(∀(i:Nat) (cs:List PV),es[i]? =some cs-> ∀(j:Nat) (c:PV),cs[j]? =some c->G.F ⟨b,o+i*sz+j,none⟩=some (f i j))/\ ∀(i:Nat) (cs:List PV) (j:Nat) (c:PV),es[i]? =some cs->cs[j]? =some c->V G n c (f i j):=by
  generalize hp:PV.aB es .unk=p at h;cases h with
  |aB es' c sz ad cap f h1 h2 h3 h4 h5=>
    cases hp;refine⟨ad,cap,rfl,h2,fun sz' hsz hne=> ?_⟩;obtain⟨b,o,e1,e2⟩:=h3 hne;have:sz=sz':=by
      obtain⟨cs,l',hl⟩:=List.exists_cons_of_ne_nil hne;have a:=h1 0 cs (by rw [hl];rfl);have b:=hsz cs (by rw [hl];exact List.mem_cons_self ..);omega
    subst this;exact⟨b,o,e1,f,e2,h4⟩
  |_=>cases hp
theorem afx (l:List Str) (hl:l.length<=1000000) {c:Ck}:aF Tryz.prog 72 [.aB (l.map aI) c] (.aB (l.map aI) .unk):=by
  refine aF.wk (args:=[.aB (l.map aI) .unk]) ?_ (.aB .nil);refine Nz ⟨_,Tryz.func72,rfl,by kernel_rfl⟩ (fun w G vs hg hi hv=> ?_) (bg.mem (.cons (aV bn _) .nil));obtain⟨u,rfl,hu⟩: ∃u,vs=#[u]/\V G 0 (.aB (l.map aI) .unk) u:=by
    obtain⟨h1,h2⟩:=hv
    match vs,h1,h2 with
    |⟨[u]⟩,_,h2=>exact⟨u,rfl,h2 0 _ u rfl rfl⟩
  obtain⟨ad,cap,rfl,hcap,hx⟩:=ajF hu;rw [List.length_map]at*;by_cases h0:l=[]
  · subst h0;cases ad with
    |none=>
      refine(Tryz.slices_Clone_string_nil 0 cap w).mono ?_;rintro e w' ⟨rfl,rfl⟩;exact⟨_,rfl,Below.refl _ _,fun G' n _=> .aB [] .unk 1 none 0 (fun _ _=> .bool true) (fun i cs e=>by simp at e) (Nat.le_refl _) (fun h=>absurd rfl h) (fun i cs j c e=>by simp at e) trivial⟩
    |some a=>
      refine(Tryz.slices_Clone_string_zero a cap w).mono ?_;rintro e w' ⟨v',rfl,⟨_,hown⟩,_,hb⟩;refine⟨_,rfl,hb,fun G' n _=> ?_⟩;rcases hown with⟨rfl,_⟩|⟨g,cp,cur,rfl,_,_,h1,_⟩
      · exact .aB [] .unk 1 none 0 (fun _ _=> .bool true) (fun i cs e=>by simp at e) (Nat.le_refl _) (fun h=>absurd rfl h) (fun i cs j c e=>by simp at e) trivial
      · exact .aB [] .unk 1 (some ⟨g,0,none⟩) cp (fun _ _=> .bool true) (fun i cs e=>by simp at e) h1 (fun h=>absurd rfl h) (fun i cs j c e=>by simp at e) trivial
  · obtain⟨b,o,rfl,f,e2,h4⟩:=hx 1 (fun cs h=>by obtain⟨s,_,rfl⟩:=List.mem_map.1 h;rfl) (by simpa using h0);have hcell: ∀j,j<l.length->w.cell? ⟨b,o+j,none⟩=some (.string ((l.map fun s=>(⟨s.toArray⟩:ByteArray)).getD j ByteArray.empty)):=by
      intro j hj;have hg:(l.map aI)[j]? =some (aI l[j]):=by simp [hj]
      have a:=e2 j _ hg 0 (.str l[j]) rfl;have b':=h4 j _ 0 (.str l[j]) hg rfl;generalize f j 0=v at a b';cases b';have:=hi _ _ a;rw [Nat.mul_one,Nat.add_zero]at this;rw [this];simp [List.getD,hj]
    refine(Tryz.slices_Clone_string b o l.length cap (l.map fun s=>(⟨s.toArray⟩:ByteArray)) w (by simp) (by omega) (by simpa using hcell)).mono ?_;rintro e w' ⟨v',rfl,⟨_,hown⟩,hne,hb⟩;refine⟨_,rfl,hb,fun G' n hnew=> ?_⟩;rcases hown with⟨rfl,_⟩|⟨g,cp,cur,rfl,hge,hblk,h1,h2,h3,h5⟩
    · exact absurd rfl hne
    · refine Eq.mp (by rw [List.length_map]) (V.aB (G:=G') (n:=n) (l.map aI) .unk 1 (some ⟨g,0,none⟩) cp (fun i _=> .string ⟨(l[i]?.getD []).toArray⟩) (fun i cs e=> ?_) (by simpa using h1) (fun _=>⟨g,0,rfl,fun i cs e j c ec=> ?_⟩) (fun i cs j c e ec=> ?_) trivial)
      · simp only [List.getElem?_map,Option.map_eq_some_iff]at e;obtain⟨s,_,rfl⟩:=e;rfl
      · simp only [List.getElem?_map,Option.map_eq_some_iff]at e;obtain⟨s,e1,rfl⟩:=e;have hj:j=0:=by
          have:=(List.getElem?_eq_some_iff.1 ec).1;simp [aI]at this;exact this
        subst hj;have hlt:=(List.getElem?_eq_some_iff.1 e1).1;refine hnew _ _ hge ?_;have hc:cur[i]? =some (.string ⟨s.toArray⟩):=by
          have:=congrArg (·[i]?) h5
          simp only [Nat.mul_one,List.getElem?_take,hlt,if_true,List.map_map]at this;rw [<-Array.getElem?_toList,this];simp [e1,List.take_of_length_le]
        simp only [World.cell?,hblk,Nat.zero_add,Nat.mul_one,Nat.add_zero,e1,Option.getD_some];simpa using hc
      · simp only [List.getElem?_map,Option.map_eq_some_iff]at e;obtain⟨s,e1,rfl⟩:=e;have hj:j=0:=by
          have:=(List.getElem?_eq_some_iff.1 ec).1;simp [aI]at this;exact this
        subst hj;simp only [aI,List.getElem?_cons_zero,Option.some.injEq]at ec;subst ec;simp only [e1,Option.getD_some];exact .str s
end Go.VL
end
section
namespace Go.VL
theorem zA {sz:Nat}: ∀(es:List (List PV)) (rest:List PV),(∀cs∈es,cs.length=sz)->chunks sz es.length (es.flatten++rest)=es
  |[],rest,_=>by simp [chunks]
  |c::es,rest,h=>by
    have hc:=h c (List.mem_cons_self ..);have ih:=zA es rest fun cs hcs=>h cs (List.mem_cons_of_mem _ hcs);unfold chunks at ih⊢;rw [List.length_cons,List.range_succ_eq_map,List.map_cons,List.map_map,List.flatten_cons,List.append_assoc];congr 1
    · rw [Nat.zero_mul,List.drop_zero,<-hc,List.take_left]
    · conv=>rhs;rw [<-ih]
      refine List.map_congr_left fun i _=> ?_;simp only [Function.comp];rw [show(i+1)*sz=sz+i*sz by rw [Nat.add_mul,Nat.one_mul,Nat.add_comm],<-List.drop_drop];congr 2
      rw [<-hc,List.drop_left]
theorem mH {α:Type} {sz:Nat} {f:α->List PV} (hf: ∀x,(f x).length=sz): ∀l:List α,((l.map f).flatten).length=l.length*sz
  |[]=>by simp
  |x::l=>by rw [List.map_cons,List.flatten_cons,List.length_append,hf,mH hf l,List.length_cons,Nat.succ_mul,Nat.add_comm]
theorem V7 {α:Type} {sz:Nat} {f:α->List PV} (hf: ∀x,(f x).length=sz): ∀(l:List α) (i:Nat),((l.map f).flatten).drop (i*sz)=((l.drop i).map f).flatten
  |l,0=>by simp
  |[],i+1=>by simp
  |x::l,i+1=>by
    rw [List.map_cons,List.flatten_cons,Nat.succ_mul,Nat.add_comm,<-List.drop_drop];have:List.drop sz (f x++(l.map f).flatten)=(l.map f).flatten:=by rw [<-hf x,List.drop_left]
    rw [this,V7 hf l i,List.drop_succ_cons]
theorem YO (A fa B vs:List PV) {j:Nat} (h:j+vs.length<=fa.length):putCells (A++(fa++B)) (A.length+j) vs=A++(putCells fa j vs++B):=by
  have h1:j -fa.length=0:=by omega
  have h2:A.length+j+vs.length -A.length=j+vs.length:=by omega
  have h3:j+vs.length -fa.length=0:=by omega
  have h4:A.take (A.length+j)=A:=List.take_of_length_le (by omega);have h5:A.drop (A.length+j+vs.length)=[]:=List.drop_eq_nil_of_le (by omega);have h6:A.length+j -A.length=j:=by omega
  simp only [putCells,List.take_append,List.drop_append,h1,h2,h3,h4,h5,h6,List.take_zero,List.drop_zero,List.append_nil,List.nil_append,List.append_assoc]
theorem V8 (z:List PV): ∀n,((List.replicate n z).flatten).length=n*z.length
  |0=>by simp
  |n+1=>by rw [List.replicate_succ,List.flatten_cons,List.length_append,V8 z n,Nat.add_mul,Nat.one_mul,Nat.add_comm]
theorem YP {α:Type} {l:List α} {i:Nat} {x:α} (h:l[i]? =some x):l.drop i=x::l.drop (i+1):=by
  have hlt:=(List.getElem?_eq_some_iff.1 h).1;rw [List.drop_eq_getElem_cons hlt];congr 1
  exact(List.getElem?_eq_some_iff.1 h).2
def aO {α:Type} (H:AH) (f:α->List PV) (sz:Nat) (l:List α) (v:PV) (ids:List Nat):Prop:=
  (v= .aB [] .nil/\l=[]/\ids=[])\/ ∃id cap junk,ids=[id]/\v= .bV id 0 l.length cap sz/\l.length<=cap/\id<H.next/\H.obj id=some ((l.map f).flatten++junk)/\junk.length=(cap -l.length)*sz
def Nw (H:AH) (ids mW:List Nat):Prop:= ∀i∈mW,i∈ids\/H.next<=i
theorem Nw.refl {H:AH} {ids:List Nat}:Nw H ids ids:=fun _ h=> .inl h
theorem Nw.trans {H H':AH} {a b c:List Nat} (h:Nw H a b) (hn:H.next<=H'.next) (k:Nw H' b c):Nw H a c:=fun i hi=>by
  rcases k i hi with q|q
  · exact h i q
  · exact .inr (Nat.le_trans hn q)
theorem Nw.via {H H':AH} {M N c:List Nat} (h: ∀i∈N,i∈M\/H.next<=i) (hn:H.next<=H'.next) (k:Nw H' N c):Nw H M c:=fun i hi=>by
  rcases k i hi with q|q
  · exact h i q
  · exact .inr (Nat.le_trans hn q)
def Dj (a b:List Nat):Prop:= ∀i∈a,i∉b
theorem Dj.nil {b:List Nat}:Dj [] b:=fun _ h=>by cases h
theorem Dj.symm {a b:List Nat} (h:Dj a b):Dj b a:=fun i hi hj=>h i hj hi
section
variable {α:Type} {H H':AH} {f:α->List PV} {sz:Nat} {l:List α} {v:PV} {ids:List Nat}
theorem aO.nil:aO H f sz ([]:List α) (.aB [] .nil) []:= .inl ⟨rfl,rfl,rfl⟩
theorem aO.lt (h:aO H f sz l v ids): ∀i∈ids,i<H.next:=by
  rcases h with⟨_,_,rfl⟩|⟨id,cap,junk,rfl,_,_,h,_⟩
  · intro i hi;cases hi
  · intro i hi;rw [List.mem_singleton.1 hi];exact h
theorem aO.hf {M:List Nat} (h:aO H f sz l v ids) (hf:HF M H H') (hd:Dj ids M):aO H' f sz l v ids:=by
  rcases h with⟨h1,h2,h3⟩|⟨id,cap,junk,rfl,h1,h2,h3,h4,h5⟩
  · exact .inl ⟨h1,h2,h3⟩
  · exact .inr ⟨id,cap,junk,rfl,h1,h2,Nat.lt_of_lt_of_le h3 hf.1,(hf.2 id h3 (hd id (List.mem_singleton.2 rfl))).trans h4,h5⟩
theorem aO.new {cs:List PV} (h:aO H f sz l v ids):aO (H.new cs) f sz l v ids:=h.hf (M:=[]) (HF.new (HF.refl _ _)) (fun _ _ h=>by cases h)
theorem aO.put {id:Nat} {cs:List PV} (h:aO H f sz l v ids) (hn:id∉ids):aO (H.put id cs) f sz l v ids:=
  h.hf (M:=[id]) (HF.put (.inl (List.mem_singleton.2 rfl)) (HF.refl _ _)) (fun i hi hj=>hn (List.mem_singleton.1 hj▸hi))
theorem aO.ahP (h:aO H f sz l v ids):yA v=some (.int .i64 l.length):=by
  rcases h with⟨rfl,rfl,_⟩|⟨id,cap,junk,rfl,rfl,_⟩
  · rfl
  · rfl
theorem aO.at (h:aO H f sz l v ids) {i:Nat} {x:α} (hx:l[i]? =some x): ∃id cap junk,ids=[id]/\v= .bV id 0 l.length cap sz/\l.length<=cap/\id<H.next/\H.obj id=some ((l.map f).flatten++junk)/\junk.length=(cap -l.length)*sz:=by
  rcases h with⟨_,rfl,_⟩|h
  · simp at hx
  · exact h
theorem aO.content [hr:qV f sz] (h:aO H f sz l v ids) {i:Nat} {x:α} (hx:l[i]? =some x):
    ∃id C,ids=[id]/\id<H.next/\H.obj id=some C/\(∀j c,(f x)[j]? =some c->C[i*sz+j]? =some c)/\(∀j,j<=sz->i*sz+j<=C.length)/\(C.drop (i*sz)).take sz=f x/\
      ∀k n,0<=n->n.toNat=i->lq sz v (.int k n)=some (.ref id (i*sz)):=by
  obtain⟨id,cap,junk,rfl,rfl,h2,h3,h4,h5⟩:=h.at hx;have hlt:=(List.getElem?_eq_some_iff.1 hx).1;have hd:((l.map f).flatten++junk).drop (i*sz)=f x++(((l.drop (i+1)).map f).flatten++junk):=by
    rw [List.drop_append_of_le_length (by rw [mH hr.len];exact Nat.mul_le_mul_right _ (by omega)),V7 hr.len,YP hx];simp
  have hlen:i*sz+sz<=((l.map f).flatten++junk).length:=by
    rw [List.length_append,mH hr.len];have:(i+1)*sz<=l.length*sz:=Nat.mul_le_mul_right _ hlt;rw [Nat.succ_mul]at this;omega
  refine⟨id,_,rfl,h3,h4,fun j c hc=> ?_,fun j hj=>by omega,?_,fun k n hn he=> ?_⟩
  · rw [<-List.getElem?_drop,hd];have hj:j<(f x).length:=(List.getElem?_eq_some_iff.1 hc).1;rw [List.getElem?_append_left hj];exact hc
  · rw [hd,List.take_append_of_le_length (by rw [hr.len];exact Nat.le_refl _),List.take_of_length_le (by rw [hr.len];exact Nat.le_refl _)]
  · subst he;have h6:n<(l.length:Int):=by omega
    simp [lq,hn,h6]
theorem aO.fz (hp: ∀x,∀c∈f x,Pu c) [hr:qV f sz] (h:aO H f sz l v ids):Fz H v (.aB (l.map f) .unk):=by
  rcases h with⟨rfl,rfl,_⟩|⟨id,cap,junk,rfl,rfl,h2,h3,h4,h5⟩
  · exact d9 hp [] .nil
  · refine .bV id 0 l.length cap sz _ _ (fun i j=>((l.map f)[i]?.bind (·[j]?)).getD .any) h4 (by simp) h2 (fun i cs e=> ?_) (fun i cs e j c ec=> ?_) (fun i cs e j c ec=> ?_)
    · simp only [List.getElem?_map,Option.map_eq_some_iff]at e;obtain⟨x,_,rfl⟩:=e;exact hr.len x
    · have e':=e;simp only [List.getElem?_map,Option.map_eq_some_iff]at e;obtain⟨x,hx,rfl⟩:=e;have hrow:aO H f sz l (.bV id 0 l.length cap sz) [id]:= .inr ⟨id,cap,junk,rfl,rfl,h2,h3,h4,h5⟩;obtain⟨id',C,e1,_,e2,e3,_⟩:=hrow.content hx;cases e1;rw [h4]at e2;cases e2;rw [e',Option.bind_some,ec,Option.getD_some,Nat.zero_add];exact e3 j c ec
    · rw [e,Option.bind_some,ec,Option.getD_some];simp only [List.getElem?_map,Option.map_eq_some_iff]at e;obtain⟨x,_,rfl⟩:=e;exact .pure _ (hp x c (List.mem_of_getElem? ec))
end
variable [Glob]
section
variable {P:Program} {Q:Post} {σ:Nat->PV} {s:List Fm} {α:Type} {H:AH} {f:α->List PV} {sz:Nat} {v:PV} {ids:List Nat}
theorem KT {d:Option Nat} {b:Nat} {x y:AE} {l:List aS} [hr:qV f sz] (hf: ∀x,mo sz (f x)) (xs ys:List α) (c2:Ck)
    (hx:x.ev σ=v) (hrow:aO H f sz xs v ids) (hy:y.ev σ= .aB (ys.map f) c2) (hs:0<ys.length) (hb:(xs.length+ys.length)*b<=1099511627776)
    (h: ∀(v':PV) (mW:List Nat) (H':AH),aO H' f sz (xs++ys) v' mW->Nw H ids mW->HF ids H H'->(∀c3,bA H c3->bA H' c3)->WO P l s Q (upd σ d v') H'):
    WO P (⟨d,.n (.app sz b x y),none⟩::l) s Q σ H:=by
  show dz P _ _ σ H
  rw [Ie];simp only [nop,hx,hy];have h0: ¬((ys.map f).length=0):=by rw [List.length_map];omega
  have fresh: ∀(es:List (List PV)),es=xs.map f->yK sz b H es (ys.map f) (fun p H'=>dz P l (EA P s Q .normal) (upd σ d p) H'):=by
    intro es he cap hcap;subst he;simp only [List.length_map]at hcap⊢;refine h _ [H.next] _ (.inr ⟨H.next,cap,List.replicate ((cap -(xs.length+ys.length))*sz) .any,rfl,by rw [List.length_append],by rw [List.length_append];exact hcap,Nat.lt_succ_self _,?_,by rw [List.length_replicate,List.length_append]⟩) (fun i hi=> .inr (by rw [List.mem_singleton.1 hi];exact Nat.le_refl _)) (HF.new (HF.refl _ _)) (fun c3 k=>k.new);show(if H.next=H.next then some _ else _)=_
    rw [if_pos rfl,List.map_append]
  rcases hrow with⟨rfl,rfl,rfl⟩|⟨id,cap,junk,rfl,rfl,h2,h3,h4,h5⟩
  · simp only [xK,rowOf];rw [if_neg h0];split
    · exact fresh [] rfl
    · rename_i hno;exact(hno ⟨qX hf ([]:List α),qX hf ys,by simpa using hb⟩).elim
  · have hfl:=mH (f:=f) hr.len xs;have hrow:rowOf sz H (.bV id 0 xs.length cap sz)=some (xs.map f):=by
      simp only [rowOf,h4];rw [if_pos ⟨trivial,by rw [List.length_append,hfl];omega⟩,List.drop_zero];have:=zA (sz:=sz) (xs.map f) junk (fun cs hcs=>by obtain⟨x,_,rfl⟩:=List.mem_map.1 hcs;exact hr.len x);rw [List.length_map]at this;rw [this]
    simp only [xK,hrow];have:rowOf sz H (.aB (ys.map f) c2)=some (ys.map f):=rfl;simp only [this];rw [if_neg h0,if_pos ⟨qX hf xs,qX hf ys,by simpa using hb⟩];simp only [List.length_map];by_cases hc:xs.length+ys.length<=cap
    · rw [if_pos hc,h4];have hsz:cap -xs.length=(cap -(xs.length+ys.length))+ys.length:=by omega
      have h6:0+(xs.length+ys.length)*sz<=((xs.map f).flatten++junk).length:=by
        rw [List.length_append,hfl,h5,Nat.add_mul,hsz,Nat.add_mul];omega
      simp only;rw [if_pos h6];have hyl:=mH (f:=f) hr.len ys;have hput:putCells ((xs.map f).flatten++junk) (0+xs.length*sz) (ys.map f).flatten=((xs++ys).map f).flatten++junk.drop (ys.length*sz):=by
        rw [Nat.zero_add,putCells,<-hfl,List.take_left,hyl,<-List.drop_drop,List.drop_left,List.map_append,List.flatten_append]
      rw [hput];refine h _ [id] _ (.inr ⟨id,cap,junk.drop (ys.length*sz),rfl,by rw [List.length_append],by rw [List.length_append];exact hc,h3,?_,?_⟩) Nw.refl (HF.put (.inl (List.mem_singleton.2 rfl)) (HF.refl _ _)) (fun c3 k=>k.put)
      · show(if id=id then some _ else _)=_
        rw [if_pos rfl]
      · rw [List.length_drop,h5,List.length_append,hsz,Nat.add_mul];omega
    · rw [if_neg hc,if_pos h2];have hfr:=fresh _ rfl;intro cap' asz;exact hfr cap' asz
theorem YQ {d:Option Nat} {bytes:Nat} {zero:List PV} {x y:AE} {l:List aS} [hr:qV f sz] (z:α) (hz:f z=zero) {k k':IntKind} {n c:Int} (hx:x.ev σ= .int k n) (hy:y.ev σ= .int k' c)
    (hb:0<=n/\n<=c/\c<=1099511627776/\bytes*c<=1099511627776) (hs:0<sz)
    (h: ∀(v':PV) (mW:List Nat) (H':AH),aO H' f sz (List.replicate n.toNat z) v' mW->Nw H [] mW->HF [] H H'->(∀c3,bA H c3->bA H' c3)->WO P l s Q (upd σ d v') H'):
    WO P (⟨d,.d (.xD sz bytes zero x y),none⟩::l) s Q σ H:=by
  show WD P (jH (.xD sz bytes zero x y) σ H) d l s Q σ
  simp only [jH,hx,hy];rw [if_pos ⟨hb.1,hb.2.1,hb.2.2.1,hb.2.2.2,by rw [<-hz,hr.len],hs⟩];show WO P l s Q (upd σ d _) _
  have hn:(List.replicate n.toNat z).length=n.toNat:=List.length_replicate;refine h _ [H.next] _ (.inr ⟨H.next,c.toNat,(List.replicate (c.toNat -n.toNat) zero).flatten,rfl,by rw [hn],by rw [hn];omega,Nat.lt_succ_self _,?_,?_⟩) (fun i hi=> .inr (by rw [List.mem_singleton.1 hi];exact Nat.le_refl _)) (HF.new (HF.refl _ _)) (fun c3 k=>k.new)
  · show(if H.next=H.next then some _ else _)=_
    rw [if_pos rfl,List.map_replicate,hz,<-List.flatten_append,List.replicate_append_replicate];congr 3
    omega
  · rw [hn,V8,<-hz,hr.len]
theorem qw {d:Option Nat} {n:Nat} {x w:AE} {l:List aS} [hr:qV f sz] {xs:List α} {id o i j:Nat} {a y:α} {vs:List PV}
    (hx:x.ev σ= .ref id o) (hid:ids=[id]) (ho:o=i*sz+j) (hrow:aO H f sz xs v ids) (ha:xs[i]? =some a) (hv:cellsOf (w.ev σ)=some vs) (hl:vs.length=n) (hone:vs.all PV.one=true) (hj:j+n<=sz) (hy:putCells (f a) j vs=f y)
    (h: ∀H':AH,aO H' f sz (xs.set i y) v ids->HF ids H H'->(∀c3,bA H c3->bA H' c3)->WO P l s Q (upd σ d .any) H'):
    WO P (⟨d,.d (.store n x w),none⟩::l) s Q σ H:=by
  obtain⟨id',cap,junk,e1,rfl,h2,h3,h4,h5⟩:=hrow.at ha;subst hid;cases e1;have hlt:=(List.getElem?_eq_some_iff.1 ha).1;have hfl:=mH (f:=f) hr.len xs;have hle:o+n<=((xs.map f).flatten++junk).length:=by
    rw [List.length_append,hfl,ho];have:(i+1)*sz<=xs.length*sz:=Nat.mul_le_mul_right _ hlt;rw [Nat.succ_mul]at this;omega
  show WD P (jH (.store n x w) σ H) d l s Q σ
  simp only [jH,hx,hv,h4];rw [if_pos ⟨hl,hle,hone⟩];show WO P l s Q (upd σ d .any) _
  have hxs:xs=xs.take i++a::xs.drop (i+1):=by rw [<-YP ha,List.take_append_drop]
  have hA:((xs.take i).map f).flatten.length=i*sz:=by rw [mH hr.len,List.length_take];congr 1;omega
  have hput:putCells ((xs.map f).flatten++junk) o vs=((xs.set i y).map f).flatten++junk:=by
    have e2:(xs.map f).flatten++junk=((xs.take i).map f).flatten++(f a++(((xs.drop (i+1)).map f).flatten++junk)):=by
      conv=>lhs;rw [hxs]
      simp
    have e3:xs.set i y=xs.take i++y::xs.drop (i+1):=by rw [List.set_eq_take_append_cons_drop,if_pos hlt]
    rw [e2,e3,ho,<-hA,YO _ _ _ _ (by rw [hr.len,hl];exact hj),hy];simp
  rw [hput];refine h _ (.inr ⟨id,cap,junk,rfl,by rw [List.length_set],by rw [List.length_set];exact h2,h3,?_,by rw [List.length_set];exact h5⟩) (HF.put (.inl (List.mem_singleton.2 rfl)) (HF.refl _ _)) (fun c3 k=>k.put);show(if id=id then some _ else _)=_
  rw [if_pos rfl]
end
end Go.VL
end
section
namespace Go.VL
variable [Glob]
section
variable {P:Program} {Q:Post} {σ:Nat->PV} {s:List Fm} {α β:Type} {H:AH} {f:α->List PV} {sz:Nat} {g:β->List PV} {sz2:Nat}
def Mk (f:α->List PV) (sz:Nat) (xs:List α) (H:AH) (v:PV) (H':AH):Prop:= ∃ids,aO H' f sz xs v ids/\Nw H [] ids/\HF [] H H'/\ ∀c3,bA H c3->bA H' c3
def Jh (P:Program) (g:FuncId) (args:List PV) (f:α->List PV) (sz:Nat) (xs:List α):Prop:= ∀H,bE P g args H (Mk f sz xs H)
theorem afy {d:Option Nat} {g:FuncId} {args:List PV} {l:List aS} {xs:List α} (hm:Jh P g args f sz xs)
    (h: ∀(v':PV) (mW:List Nat) (H':AH),aO H' f sz xs v' mW->Nw H [] mW->HF [] H H'->(∀c3,bA H c3->bA H' c3)->WO P l s Q (upd σ d v') H'):MC P g args d l s Q σ H:=
  bE.mono (hm H) fun v H' ⟨ids,h1,h2,h3,h4⟩=>h v ids H' h1 h2 h3 h4
theorem al9 {bytes:Nat} {zero:List PV} {x y:AE} [hr:qV f sz] (z:α) (hz:f z=zero) {k k':IntKind} {n:Int} (hx:x.ev σ= .int k n) (hy:y.ev σ= .int k' n)
    (hb:0<=n/\n<=1099511627776/\bytes*n<=1099511627776) (hs:0<sz):iR P (.d (.xD sz bytes zero x y)) (Mk f sz (List.replicate n.toNat z) H) σ H:=by
  have h:=YQ (P:=P) (s:=[]) (Q:=fun e σ' H'=> ∃v,σ'=upd σ (some 0) v/\Mk f sz (List.replicate n.toNat z) H v H') (d:=some 0) (l:=[]) (H:=H) (bytes:=bytes) (x:=x) (y:=y) z hz hx hy ⟨hb.1,Int.le_refl _,hb.2.1,hb.2.2⟩ hs
    (fun v' mW H' h1 h2 h3 h4=>⟨v',rfl,mW,h1,h2,h3,h4⟩)
  have h2:WD P (jH (.xD sz bytes zero x y) σ H) (some 0) [] [] (fun e σ' H'=> ∃v,σ'=upd σ (some 0) v/\Mk f sz (List.replicate n.toNat z) H v H') σ:=h;show(match jH (.xD sz bytes zero x y) σ H with|some (p,H')=>Mk f sz (List.replicate n.toNat z) H p H'|none=>False)
  revert h2;cases jH (.xD sz bytes zero x y) σ H with
  |none=>intro h2;exact h2
  |some q=>
    intro h2;obtain⟨v,e,h3⟩:=(h2: ∃v,upd σ (some 0) q.1=upd σ (some 0) v/\Mk f sz (List.replicate n.toNat z) H v q.2);have e2:=congrFun e 0;simp only [upd,if_true]at e2;show Mk f sz (List.replicate n.toNat z) H q.1 q.2
    rw [e2];exact h3
theorem ama {g:FuncId} {fs cs args:List PV} {es:List AE} {xs:List α} (hm:Jh P g args f sz xs) (ha:fs++evs σ es++cs=args):iR P (.call (.c (.fn (.func g) fs cs)) es) (Mk f sz xs H) σ H:=by
  show bE P g (fs++evs σ es++cs) H _
  rw [ha];exact hm H
def Qr (P:Program):List (aS×Bool)->(Nat->PV)->(Nat->PV)->Prop
  |[],_,_=>True
  |(o,d)::l,val,σ=>(d=true\/(o.g=none/\ ∀H,iR P o.k (fun r iw=>r=val 0/\iw=H) σ H))/\Qr P l (fun i=>val (i+1)) (upd σ o.dst (val 0))
theorem Qr.at {P:Program}: ∀{pr:List (aS×Bool)} {val σ:Nat->PV} (h:Qr P pr val σ) (i:Nat) (o:aS),pr[i]? =some (o,false)->qp o (dU pr val σ i)/\ ∀H,iR P o.k (fun r iw=>r=val i/\iw=H) (dU pr val σ i) H
  |(o,d)::l,val,σ,h,0,o',e=>by
    cases e;rcases h.1 with h1|⟨h1,h2⟩
    · cases h1
    · refine⟨?_,h2⟩;unfold qp;rw [h1];trivial
  |(o,d)::l,val,σ,h,i+1,o',e=>Qr.at (pr:=l) h.2 i o' e
theorem afz {ms:List Nat} {pr:List (aS×Bool)} {K:(Nat->PV)->AH->Prop} {a b:Nat} {oa ob:aS} {xs:List α} {ys:List β} (qc:PV->PV->Nat->PV) (hr:Bq pr=[a,b]) (hne:a≠b)
    (pra:pr[a]? =some (oa,true)) (prb:pr[b]? =some (ob,true)) (ha: ∀x y,qc x y a=x) (hb: ∀x y,qc x y b=y)
    (agA: ∀x x' y i,i≠a->fG ms a i=false->qc x y i=qc x' y i) (agB: ∀x y y' i,i≠b->fG ms b i=false->qc x y i=qc x y' i)
    (pure: ∀x y,Qr P pr (qc x y) σ)
    (mkA: ∀y H,qp oa (dU pr (qc ud y) σ a)/\iR P oa.k (Mk f sz xs H) (dU pr (qc ud y) σ a) H)
    (mkB: ∀x H,qp ob (dU pr (qc x ud) σ b)/\iR P ob.k (Mk g sz2 ys H) (dU pr (qc x ud) σ b) H)
    (hend: ∀va vb KU Ga H2,aO H2 f sz xs va KU->aO H2 g sz2 ys vb Ga->Dj KU Ga->Nw H [] KU->Nw H [] Ga->HF [] H H2->(∀c3,bA H c3->bA H2 c3)->K (dU pr (qc va vb) σ pr.length) H2):
    ∃val:Nat->PV,yT P ms pr K σ (Bq pr).length (Bq pr) val H:=by
  refine⟨qc ud ud,?_⟩;rw [hr]
  have hpure: ∀(rem:List Nat) (x y:PV) (H:AH) (i:Nat) (o:aS),pr[i]? =some (o,false)->(∀s∈rem,fG ms s i=false)->(∀(s:Nat) (o':aS),pr[s]? =some (o',true)->s∉rem->fG ms i s=false)->
      (uN o (dU pr (qc x y) σ i)/\qc x y i=ud)\/(qp o (dU pr (qc x y) σ i)/\iR P o.k (fun r iw=>r=qc x y i/\iw=H) (dU pr (qc x y) σ i) H):=
    fun rem x y H i o e _ _=> .inr ⟨((pure x y).at i o e).1,((pure x y).at i o e).2 H⟩
  have hfa:[a,b].filter (·!=a)=[b]:=by simp [Ne.symm hne]
  have hfb:[a,b].filter (·!=b)=[a]:=by simp [hne]
  have hj: ∀{KU Ga:List Nat} {H1:AH},(∀i∈KU,i<H1.next)->Nw H1 [] Ga->Dj KU Ga:=fun h1 h2 i hi hj=>by
    rcases h2 i hj with q|q
    · cases q
    · have:=h1 i hi;omega
  have hnw: ∀{H1:AH} {Ga:List Nat},HF [] H H1->Nw H1 [] Ga->Nw H [] Ga:=fun h1 h2 i hi=>by
    rcases h2 i hi with q|q
    · exact .inl q
    · exact .inr (Nat.le_trans h1.1 q)
  have hft: ∀{H1 H2:AH},HF [] H H1->HF [] H1 H2->HF [] H H2:=fun h1 h2=>⟨Nat.le_trans h1.1 h2.1,fun i hi hm=>(h2.2 i (Nat.lt_of_lt_of_le hi h1.1) hm).trans (h1.2 i hi hm)⟩
  unfold yT;refine⟨hpure _ ud ud H,(fun e=>by cases e),fun j hj' o e hbj=> ?_⟩;rcases List.mem_cons.1 hj' with rfl|hj'
  · rw [pra]at e;cases e;refine⟨(mkA ud H).1,vD (fun va H1 hm=> ?_) (mkA ud H).2⟩;obtain⟨KU,a1,a2,a3,a4⟩:=hm;refine⟨qc va ud,fun i hi hbi=> ?_,ha _ _,?_⟩
    · exact agA _ _ _ i (fun q=>hi (q▸List.mem_cons_self ..)) (hbi _ (List.mem_cons_self ..))
    · rw [hfa];unfold yT;refine⟨hpure _ va ud H1,(fun e=>by cases e),fun j hj2 o e hbj=> ?_⟩;rw [List.mem_singleton.1 hj2]at e⊢;rw [prb]at e;cases e;refine⟨(mkB va H1).1,vD (fun vb H2 hm=> ?_) (mkB va H1).2⟩;obtain⟨Ga,b1,b2,b3,b4⟩:=hm;refine⟨qc va vb,fun i hi hbi=>agB _ _ _ i (fun q=>hi (q▸List.mem_cons_self ..)) (hbi _ (List.mem_cons_self ..)),hb _ _,?_⟩
      have hf:[b].filter (·!=b)=[]:=by simp
      rw [hf];unfold yT;exact⟨hpure _ va vb H2,fun _=>hend va vb KU Ga H2 (a1.hf b3 Dj.nil.symm) b1 (hj (fun i hi=>a1.lt i hi) b2) a2 (hnw a3 b2) (hft a3 b3) (fun c3 h=>b4 c3 (a4 c3 h)),rfl⟩
  · rw [List.mem_singleton.1 hj']at e⊢;rw [prb]at e;cases e;refine⟨(mkB ud H).1,vD (fun vb H1 hm=> ?_) (mkB ud H).2⟩;obtain⟨Ga,b1,b2,b3,b4⟩:=hm;refine⟨qc ud vb,fun i hi hbi=> ?_,hb _ _,?_⟩
    · exact agB _ _ _ i (fun q=>hi (q▸List.mem_cons_of_mem _ (List.mem_cons_self ..))) (hbi _ (List.mem_cons_of_mem _ (List.mem_cons_self ..)))
    · rw [hfb];unfold yT;refine⟨hpure _ ud vb H1,(fun e=>by cases e),fun j hj2 o e hbj=> ?_⟩;rw [List.mem_singleton.1 hj2]at e⊢;rw [pra]at e;cases e;refine⟨(mkA vb H1).1,vD (fun va H2 hm=> ?_) (mkA vb H1).2⟩;obtain⟨KU,a1,a2,a3,a4⟩:=hm;refine⟨qc va vb,fun i hi hbi=>agA _ _ _ i (fun q=>hi (q▸List.mem_cons_self ..)) (hbi _ (List.mem_cons_self ..)),ha _ _,?_⟩
      have hf:[a].filter (·!=a)=[]:=by simp
      rw [hf];unfold yT;exact⟨hpure _ va vb H2,fun _=>hend va vb KU Ga H2 a1 (b1.hf a3 Dj.nil.symm) (Dj.symm (hj (fun i hi=>b1.lt i hi) a2)) (hnw b3 a2) b2 (hft b3 a3) (fun c3 h=>a4 c3 (b4 c3 h)),rfl⟩
def MH (P:Program) (H:AH) (skip:Nat->Bool):Nat->List (aS×Bool)->(Nat->PV)->(Nat->PV)->Prop
  |_,[],_,_=>True
  |n,(o,d)::l,val,σ=>(d=true\/skip n=true\/(o.g=none/\iR P o.k (fun r iw=>r=val 0/\iw=H) σ H))/\MH P H skip (n+1) l (fun i=>val (i+1)) (upd σ o.dst (val 0))
theorem MH.at {P:Program} {H:AH} {skip:Nat->Bool}: ∀{pr:List (aS×Bool)} {n:Nat} {val σ:Nat->PV} (h:MH P H skip n pr val σ) (i:Nat) (o:aS),pr[i]? =some (o,false)->skip (n+i)=false->qp o (dU pr val σ i)/\iR P o.k (fun r iw=>r=val i/\iw=H) (dU pr val σ i) H
  |(o,d)::l,n,val,σ,h,0,o',e,hk=>by
    cases e;rcases h.1 with h1|h1|⟨h1,h2⟩
    · cases h1
    · rw [Nat.add_zero,h1]at hk;cases hk
    · refine⟨?_,h2⟩;unfold qp;rw [h1];trivial
  |(o,d)::l,n,val,σ,h,i+1,o',e,hk=>MH.at (pr:=l) h.2 i o' e (by rw [Nat.add_assoc,Nat.add_comm 1 i];exact hk)
theorem amb {ms:List Nat} {pr:List (aS×Bool)} {K:(Nat->PV)->AH->Prop} (Inv:List Nat->(Nat->PV)->AH->Prop)
    (pure: ∀rem val H,Inv rem val H-> ∃skip,MH P H skip 0 pr val σ/\ ∀i,skip i=true->(∃s∈rem,fG ms s i=true)\/ ∃s,s∈Bq pr/\s∉rem/\fG ms i s=true)
    (step: ∀rem val H j o,Inv rem val H->j∈rem->pr[j]? =some (o,true)->(∀s∈rem,fG ms s j=false\/s=j)->
      qp o (dU pr val σ j)/\iR P o.k (fun r H'=> ∃val':Nat->PV,(∀i,i∉rem->(∀s∈rem,fG ms s i=false)->val' i=val i)/\val' j=r/\Inv (rem.filter (·!=j)) val' H') (dU pr val σ j) H)
    (fin: ∀val H,Inv [] val H->K (dU pr val σ pr.length) H): ∀(n:Nat) (rem:List Nat) (val:Nat->PV) (H:AH),rem.length<=n->Inv rem val H->yT P ms pr K σ n rem val H:=by
  have hp: ∀rem val H,Inv rem val H-> ∀(i:Nat) (o:aS),pr[i]? =some (o,false)->(∀s∈rem,fG ms s i=false)->(∀(s:Nat) (o':aS),pr[s]? =some (o',true)->s∉rem->fG ms i s=false)->
      (uN o (dU pr val σ i)/\val i=ud)\/(qp o (dU pr val σ i)/\iR P o.k (fun r iw=>r=val i/\iw=H) (dU pr val σ i) H):=by
    intro rem val H h i o e h1 h2;obtain⟨skip,k1,k2⟩:=pure rem val H h;refine .inr (k1.at i o e ?_);rw [Nat.zero_add];cases hk:skip i with
    |false=>rfl
    |true=>
      rcases k2 i hk with⟨s,hs,hb⟩|⟨s,hs,hn,hb⟩
      · rw [h1 s hs]at hb;cases hb
      · obtain⟨o',e'⟩:=(KO s).1 hs;rw [h2 s o' e' hn]at hb;cases hb
  intro n
  induction n with
  |zero=>
    intro rem val H hn h;obtain rfl:rem=[]:=List.length_eq_zero_iff.1 (by omega);unfold yT;exact⟨hp _ _ _ h,fun _=>fin _ _ h,rfl⟩
  |succ n ih=>
    intro rem val H hn h;unfold yT;refine⟨hp _ _ _ h,fun e=>fin _ _ (e▸h),fun j hj o e hb=> ?_⟩;obtain⟨h1,h2⟩:=step rem val H j o h hj e hb;refine⟨h1,vD (fun r H' ⟨val',g1,g2,g3⟩=>⟨val',g1,g2,ih _ _ _ ?_ g3⟩) h2⟩
    have:(rem.filter (·!=j)).length<rem.length:=by
      rw [List.length_filter_lt_length_iff_exists];exact⟨j,hj,by simp⟩
    omega
theorem acy {ms:List Nat} {pr:List (aS×Bool)} {post:List aS} (h: ∃val:Nat->PV,yT P ms pr (fun σ H=>WO P post s Q σ H) σ (Bq pr).length (Bq pr) val H):WS P (.Si ms pr post) s Q σ H:=h
end
end Go.VL
end
section
namespace Go.VL
abbrev oM (d s:Nat):aS:=⟨some d,.r (.aT (.t s)),none⟩
abbrev bD (d s g:Nat) (w:Bool):aS:=⟨some d,.r (.aT (.t s)),some (g,w)⟩
abbrev oI (d:Nat) (n:Int):aS:=⟨some d,.r (.aT (.c (.int .i64 n))),none⟩
abbrev oL (d n s:Nat):aS:=⟨some d,.r (.load n false (.t s)),none⟩
abbrev cu (d n s g:Nat) (w:Bool):aS:=⟨some d,.r (.load n false (.t s)),some (g,w)⟩
abbrev oA (d n s:Nat):aS:=⟨some d,.r (.load n true (.t s)),none⟩
abbrev oF (d n s:Nat):aS:=⟨some d,.r (.VW n (.t s)),none⟩
abbrev dH (d n s g:Nat) (w:Bool):aS:=⟨some d,.r (.VW n (.t s)),some (g,w)⟩
abbrev oX (d n s i:Nat):aS:=⟨some d,.r (.idx n (.t s) (.t i)),none⟩
abbrev oN (d s:Nat):aS:=⟨some d,.r (.len (.t s)),none⟩
abbrev oE (d s i:Nat):aS:=⟨some d,.r (.ext (.t s) i),none⟩
abbrev oB (d:Nat) (o:BinOp) (x y:AE):aS:=⟨some d,.r (.bin o .no x y),none⟩
abbrev dX (d:Nat) (o:BinOp) (x y:AE) (g:Nat) (w:Bool):aS:=⟨some d,.r (.bin o .no x y),some (g,w)⟩
abbrev oR (d:Nat) (k:RK):aS:=⟨some d,.r k,none⟩
abbrev bW (d:Nat) (k:RK) (g:Nat) (w:Bool):aS:=⟨some d,.r k,some (g,w)⟩
abbrev oC (d f:Nat) (l:List AE):aS:=⟨some d,.call (.c (.fn (.func f) [] [])) l,none⟩
abbrev jy (d f:Nat) (l:List AE) (g:Nat) (w:Bool):aS:=⟨some d,.call (.c (.fn (.func f) [] [])) l,some (g,w)⟩
abbrev oS (n x v:Nat):aS:=⟨none,.d (.store n (.t x) (.t v)),none⟩
attribute [go_sem] Nat.reduceEqDiff Nat.reduceLeDiff Nat.reduceAdd Nat.reduceMul Nat.reduceSub Int.reduceLT Int.reduceLE Int.reduceToNat Int.reduceNeg Int.reduceEq reduceCtorEq
attribute [go_sem↓] reduceIte
end Go.VL
end
