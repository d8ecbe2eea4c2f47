/- Part 11. -/
import Derived.Test.YtpkbfdgohkakaaaGreatDoorKc10
import Derived.Test.YtpkbfdgohkakaaaGreatDoorProg
import Derived.KernelRfl
set_option maxRecDepth 8000
set_option linter.unusedVariables false
set_option linter.unusedSectionVars false
set_option linter.unusedSimpArgs false
section
namespace Go.VL
variable [Glob]
section
variable {P:Program} {σ:Nat->PV}
def KW (P:Program) (H:AH) (o:aI) (v:PV) (σ:Nat->PV):Prop:=match o.g with
 |none=>d9 P o.k (fun r gy=>r=v/\gy=H) σ H
 |some (s,want)=>match σ s with
  | .bool b=>if b=want then d9 P o.k (fun r gy=>r=v/\gy=H) σ H else v=ud
  |_=>False
def Ht (P:Program) (H:AH) (skip:Nat->Bool):Nat->List (aI×Bool)->(Nat->PV)->(Nat->PV)->Prop
 |_,[],_,_=>True
 |n,(o,d)::l,val,σ=>(d=true\/skip n=true\/KW P H o (val 0) σ)/\Ht P H skip (n+1) l (fun i=>val (i+1)) (upd σ o.dst (val 0))
theorem KW.or {H:AH} {o:aI} {v:PV} (h:KW P H o v σ):(sj o σ/\v=ud)\/(pE o σ/\d9 P o.k (fun r gy=>r=v/\gy=H) σ H):=by
 unfold KW at h;unfold sj pE;split at h
 · rename_i e;rw [e];exact .inr ⟨trivial,h⟩
 · rename_i s want e;rw [e];split at h
   · rename_i b hb;split at h
     · rename_i hw;subst hw;exact .inr ⟨hb,h⟩
     · rename_i hw;refine .inl ⟨.inl ?_,h⟩;rw [hb];cases b<;>cases want<;>simp_all
   · exact h.elim
theorem Ht.at {H:AH} {skip:Nat->Bool}: ∀{pr:List (aI×Bool)} {n:Nat} {val σ:Nat->PV} (h:Ht P H skip n pr val σ) (i:Nat) (o:aI),pr[i]? =some (o,false)->skip (n+i)=false->KW P H o (val i) (bT pr val σ i)
 |(o,d)::l,n,val,σ,h,0,o',e,hk=>by
   cases e;rcases h.1 with h1|h1|h1
   · cases h1
   · rw [Nat.add_zero,h1]at hk;cases hk
   · exact h1
 |(o,d)::l,n,val,σ,h,i+1,o',e,hk=>Ht.at (pr:=l) h.2 i o' e (by rw [Nat.add_assoc,Nat.add_comm 1 i];exact hk)
def Hu (ms rs rem:List Nat) (i:Nat):Bool:=rem.any (fun s=>eB ms s i)||rs.any fun s=> !rem.contains s&&eB ms i s
theorem aol {ms:List Nat} {pr:List (aI×Bool)} {K:(Nat->PV)->AH->Prop} (rs:List Nat) (hrs:wo pr=rs) (gX:(Nat->PV)->Nat->PV) (Inv:List Nat->(Nat->PV)->AH->Prop)
 (hval: ∀r j,j∈rs->gX r j=r j)
 (dep: ∀r r' i,(∀s∈rs,(eB ms s i=true\/s=i)->r s=r' s)->gX r i=gX r' i)
 (pure: ∀rem r H,Inv rem r H->Ht P H (Hu ms rs rem) 0 pr (gX r) σ)
 (step: ∀rem r H j o,Inv rem r H->j∈rem->pr[j]? =some (o,true)->(∀s∈rem,eB ms s j=false\/s=j)->
  pE o (bT pr (gX r) σ j)/\d9 P o.k (fun p H'=> ∃r',r' j=p/\(∀s,s≠j->r' s=r s)/\Inv (rem.filter (·!=j)) r' H') (bT pr (gX r) σ j) H)
 (fin: ∀r H,Inv [] r H->K (bT pr (gX r) σ pr.length) H): ∀(n:Nat) (rem:List Nat) (r:Nat->PV) (H:AH),rem.length<=n->(∀j∈rem,j∈rs)->Inv rem r H->yw P ms pr K σ n rem (gX r) H:=by
 have hp: ∀rem r H,Inv rem r H-> ∀(i:Nat) (o:aI),pr[i]? =some (o,false)->(∀s∈rem,eB ms s i=false)->(∀(s:Nat) (o':aI),pr[s]? =some (o',true)->s∉rem->eB ms i s=false)->
  (sj o (bT pr (gX r) σ i)/\gX r i=ud)\/(pE o (bT pr (gX r) σ i)/\d9 P o.k (fun q gy=>q=gX r i/\gy=H) (bT pr (gX r) σ i) H):=by
  intro rem r H h i o e h1 h2;refine((pure rem r H h).at i o e ?_).or;rw [Nat.zero_add];cases hk:Hu ms rs rem i with
  |false=>rfl
  |true=>
   unfold Hu at hk;rw [Bool.or_eq_true,List.any_eq_true,List.any_eq_true]at hk;rcases hk with⟨s,hs,hb⟩|⟨s,hs,hb⟩
   · rw [h1 s hs]at hb;cases hb
   · rw [Bool.and_eq_true]at hb;obtain⟨o',e'⟩:=(JO s).1 (hrs▸hs);rw [h2 s o' e' (by have:=hb.1;simpa using this)]at hb;cases hb.2
 intro n
 induction n with
 |zero=>
  intro rem r H hn hm h;obtain rfl:rem=[]:=List.length_eq_zero_iff.1 (by omega);unfold yw;exact⟨hp _ _ _ h,fun _=>fin _ _ h,rfl⟩
 |succ n ih=>
  intro rem r H hn hm h;unfold yw;refine⟨hp _ _ _ h,fun e=>fin _ _ (e▸h),fun j hj o e hb=> ?_⟩;obtain⟨h1,h2⟩:=step rem r H j o h hj e hb;refine⟨h1,kC (fun p H' ⟨r',g1,g2,g3⟩=>⟨gX r',fun i hi hbi=>dep _ _ _ fun s hs hsi=> ?_,?_,ih _ _ _ ?_ (fun k hk=>hm k (List.mem_filter.1 hk).1) g3⟩) h2⟩
  · by_cases hsj:s=j
    · subst hsj;rcases hsi with h|h
      · rw [hbi s hj]at h;cases h
      · exact absurd (h▸hj) hi
    · exact g2 s hsj
  · rw [hval _ _ (hm j hj)];exact g1
  have:(rem.filter (·!=j)).length<rem.length:=by
   rw [List.length_filter_lt_length_iff_exists];exact⟨j,hj,by simp⟩
  omega
theorem Mq {ms:List Nat} {pr:List (aI×Bool)} {post:List aI} {s:List Fm} {Q:Post} {H:AH} (rs:List Nat) (hrs:wo pr=rs) (gX:(Nat->PV)->Nat->PV) (Inv:List Nat->(Nat->PV)->AH->Prop)
 (hval: ∀r j,j∈rs->gX r j=r j)
 (dep: ∀r r' i,(∀s∈rs,(eB ms s i=true\/s=i)->r s=r' s)->gX r i=gX r' i)
 (start: ∃r,Inv rs r H)
 (pure: ∀rem r H,Inv rem r H->Ht P H (Hu ms rs rem) 0 pr (gX r) σ)
 (step: ∀rem r H j o,Inv rem r H->j∈rem->pr[j]? =some (o,true)->(∀s∈rem,eB ms s j=false\/s=j)->
  pE o (bT pr (gX r) σ j)/\d9 P o.k (fun p H'=> ∃r',r' j=p/\(∀s,s≠j->r' s=r s)/\Inv (rem.filter (·!=j)) r' H') (bT pr (gX r) σ j) H)
 (fin: ∀r H,Inv [] r H->WO P post s Q (bT pr (gX r) σ pr.length) H):WS P (.su ms pr post) s Q σ H:=by
 obtain⟨r,hr⟩:=start;exact XI ⟨gX r,by rw [hrs];exact aol rs hrs gX Inv hval dep pure step fin _ _ _ _ (Nat.le_refl _) (fun _ h=>h) hr⟩
theorem zC.G {H:AH} {skip skip':Nat->Bool} (hs: ∀i,skip i=true->skip' i=true): ∀{pr:List (aI×Bool)} {n:Nat} {val σ:Nat->PV},zC P H skip n pr val σ->Ht P H skip' n pr val σ
 |[],_,_,_,_=>trivial
 |(o,d)::l,n,val,σ,h=>⟨by
  rcases h.1 with h1|h1|⟨h1,h2⟩
  · exact .inl h1
  · exact .inr (.inl (hs _ h1))
  · refine .inr (.inr ?_);unfold KW;rw [h1];exact h2,zC.G hs h.2⟩
def qK (a b:Nat) (vals:List PV) (x y:PV) (i:Nat):PV:=if i=a then x else if i=b then y else(vals[i]?).getD ud
theorem aom {ms:List Nat} {pr:List (aI×Bool)} {post:List aI} {s:List Fm} {Q:Post} {H:AH} (a b:Nat) (z:List PV) (vals:List PV) {da db:Option Nat} (hrs:wo pr=[a,b]) (hab:a≠b)
 (O4:pr[a]? =some (⟨da,.d (.alloc z),none⟩,true)) (O5:pr[b]? =some (⟨db,.d (.alloc z),none⟩,true))
 (pure: ∀x y H',(H'=H\/H'=H.new z\/H'=(H.new z).new z)->zC P H' (fun _=>false) 0 pr (qK a b vals x y) σ)
 (fin: ∀x y,(x=H.next/\y=H.next+1\/x=H.next+1/\y=H.next)->WO P post s Q (bT pr (qK a b vals (.ref x 0) (.ref y 0)) σ pr.length) ((H.new z).new z)):WS P (.su ms pr post) s Q σ H:=by
 have fa:[a,b].filter (·!=a)=[b]:=by simp [Ne.symm hab]
 have fb:[a,b].filter (·!=b)=[a]:=by simp [hab]
 refine Mq [a,b] hrs (fun r=>qK a b vals (r a) (r b)) (fun rem r H'=>(rem=[a,b]/\H'=H)\/(rem=[b]/\r a= .ref H.next 0/\H'=H.new z)\/(rem=[a]/\r b= .ref H.next 0/\H'=H.new z)\/
  (rem=[]/\H'=(H.new z).new z/\((r a= .ref H.next 0/\r b= .ref (H.next+1) 0)\/(r a= .ref (H.next+1) 0/\r b= .ref H.next 0)))) (fun r j hj=> ?_) (fun r r' i h=> ?_) ⟨fun _=>ud,.inl ⟨rfl,rfl⟩⟩ ?_ ?_ ?_
 · rcases(show j=a\/j=b by simpa using hj)with rfl|rfl
   · simp [qK]
   · simp [qK,Ne.symm hab]
 · simp only [qK];by_cases h1:i=a
   · rw [if_pos h1,if_pos h1];exact h a (by simp) (.inr h1.symm)
   · rw [if_neg h1,if_neg h1];by_cases h2:i=b
     · rw [if_pos h2,if_pos h2];exact h b (by simp) (.inr h2.symm)
     · rw [if_neg h2,if_neg h2]
 · rintro rem r H' (⟨rfl,rfl⟩|⟨rfl,h1,rfl⟩|⟨rfl,h1,rfl⟩|⟨rfl,rfl,h1⟩)
   · exact(pure _ _ _ (.inl rfl)).G (fun _ h=>by cases h)
   · exact(pure _ _ _ (.inr (.inl rfl))).G (fun _ h=>by cases h)
   · exact(pure _ _ _ (.inr (.inl rfl))).G (fun _ h=>by cases h)
   · exact(pure _ _ _ (.inr (.inr rfl))).G (fun _ h=>by cases h)
 · rintro rem r H' j o (⟨rfl,rfl⟩|⟨rfl,h1,rfl⟩|⟨rfl,h1,rfl⟩|⟨rfl,rfl,h1⟩) hj ho hb
   · rcases(show j=a\/j=b by simpa using hj)with rfl|rfl
     · rw [O4]at ho;cases ho;exact⟨trivial,fun s=>if s=j then .ref H'.next 0 else r s,if_pos rfl,fun s hs=>if_neg hs,.inr (.inl ⟨fa,if_pos rfl,rfl⟩)⟩
     · rw [O5]at ho;cases ho;exact⟨trivial,fun s=>if s=j then .ref H'.next 0 else r s,if_pos rfl,fun s hs=>if_neg hs,.inr (.inr (.inl ⟨fb,if_pos rfl,rfl⟩))⟩
   · obtain rfl:j=b:=by simpa using hj
     rw [O5]at ho;cases ho;exact⟨trivial,fun s=>if s=j then .ref (H.next+1) 0 else r s,if_pos rfl,fun s hs=>if_neg hs,.inr (.inr (.inr ⟨by simp,rfl,.inl ⟨(if_neg hab).trans h1,if_pos rfl⟩⟩))⟩
   · obtain rfl:j=a:=by simpa using hj
     rw [O4]at ho;cases ho;exact⟨trivial,fun s=>if s=j then .ref (H.next+1) 0 else r s,if_pos rfl,fun s hs=>if_neg hs,.inr (.inr (.inr ⟨by simp,rfl,.inr ⟨if_pos rfl,(if_neg (Ne.symm hab)).trans h1⟩⟩))⟩
   · cases hj
 · rintro r H' (⟨h,_⟩|⟨h,_⟩|⟨h,_⟩|⟨_,rfl,h1⟩)
   · cases h
   · cases h
   · cases h
   · rcases h1 with⟨h1,h2⟩|⟨h1,h2⟩
     · show WO P post s Q (bT pr (qK a b vals (r a) (r b)) σ pr.length) _
       rw [h1,h2];exact fin _ _ (.inl ⟨rfl,rfl⟩)
     · show WO P post s Q (bT pr (qK a b vals (r a) (r b)) σ pr.length) _
       rw [h1,h2];exact fin _ _ (.inr ⟨rfl,rfl⟩)
theorem aeo {ms:List Nat} {pr:List (aI×Bool)} {post:List aI} {s:List Fm} {Q:Post} {H:AH} (a b:Nat) (z:List PV) (vals:List PV) {da db:Option Nat} (hrs:wo pr=[a,b]) (hab:a≠b)
 (O4:pr[a]? =some (⟨da,.d (.alloc z),none⟩,true)) (O5:pr[b]? =some (⟨db,.d (.alloc z),none⟩,true))
 (pure: ∀x y H',(H'=H\/H'=H.new z\/H'=(H.new z).new z)->zC P H' (fun _=>false) 0 pr (qK a b vals x y) σ)
 (fin: ∀x y H',HF [] H H'->H.next<=x->x<H'.next->H.next<=y->y<H'.next->x≠y->H'.obj x=some z->H'.obj y=some z->(∀c,bf H c->bf H' c)->WO P post s Q (bT pr (qK a b vals (.ref x 0) (.ref y 0)) σ pr.length) H'):WS P (.su ms pr post) s Q σ H:=by
 refine aom a b z vals hrs hab O4 O5 pure fun x y h=> ?_;have n2:((H.new z).new z).next=H.next+2:=rfl;have o0:((H.new z).new z).obj H.next=some z:=by
  show(if H.next=H.next+1 then _ else if H.next=H.next then some z else _)=_
  rw [if_neg (by omega),if_pos rfl]
 have o1:((H.new z).new z).obj (H.next+1)=some z:=by
  show(if H.next+1=H.next+1 then some z else _)=_
  rw [if_pos rfl]
 refine fin x y _ (HF.new (HF.new (HF.refl _ _))) (by omega) (by omega) (by omega) (by omega) (by omega) ?_ ?_ (fun c hc=>hc.new.new)
 · rcases h with⟨rfl,rfl⟩|⟨rfl,rfl⟩<;>assumption
 · rcases h with⟨rfl,rfl⟩|⟨rfl,rfl⟩<;>assumption
theorem Cc (a b:Nat) (vals:List PV) (x y:PV) (i:Nat):qK a b vals x y i=if i=a then x else if i=b then y else(vals[i]?).getD ud:=rfl
theorem Qs {fs cs az:List PV} {g:FuncId} {es:List AE} {H:AH} {r q:PV} (h:aD P g az r) (ha:fs++evs σ es++cs=az:=by first|(simp -implicitDefEqProofs only [go_sem,Cc,reduceIte,Option.getD_some, *];done)|(simp -implicitDefEqProofs only [go_sem,Cc,reduceIte,Option.getD_some, *];rfl)) (hr:r=q:=by simp -implicitDefEqProofs only [go_sem,Cc,reduceIte,Option.getD_some, *]):d9 P (.call (.c (.fn (.func g) fs cs)) es) (fun p gy=>p=q/\gy=H) σ H:=by
 show bg P g (fs++evs σ es++cs) H _
 rw [ha,<-hr];exact h H
theorem mV {A:Prop} (h:A:=by simp -implicitDefEqProofs only [d9,go_sem,Cc,Nat.reduceAdd,Nat.reduceEqDiff,reduceIte,List.getElem?_cons_succ,List.getElem?_cons_zero,Option.getD_some,and_self, *]):A:=h
end
end Go.VL
end
section
namespace Go.VL
open Go.Proofs
def nz {α:Type} (l:List α):Ck:=if l.isEmpty then .nil else .unk
theorem azj {α:Type}:nz ([]:List α)= .nil:=rfl
theorem Y1 {α:Type} (x:α) (l:List α):nz (x::l)= .unk:=rfl
theorem Nl {α:Type} {f:α->List PV} (hf: ∀x,∀c∈f x,Pu c) (l:List α):Pu (.ah (l.map f) (nz l)):=by
 cases l with
 |nil=>exact bE (f:=f) hf []|>fun _=> .ah _ _ (fun cs h=>by cases h) (fun k=>by simp [nz])
 |cons x l=>exact bE hf _
structure Fo where
 us:List (List Nd)
 cs:List Int
 num:Int
 bad:Bool
deriving DecidableEq
def Fo.cells (x:Fo):List PV:=[(.ah (x.us.map (dx Nd.cells)) (nz x.us)),(.ah (x.cs.map aK) (nz x.cs)),(.int .i64 x.num),(.bool x.bad)]
theorem Fo.jP (x:Fo):x.cells=[(.ah (x.us.map (dx Nd.cells)) (nz x.us)),(.ah (x.cs.map aK) (nz x.cs)),(.int .i64 x.num),(.bool x.bad)]:=rfl
theorem Fo.pu (x:Fo): ∀c∈x.cells,Pu c:=dA.mem (.cons (Nl (fA Nd.pu) _) (.cons (Nl cZ _) (.cons (.int _ _) (.cons (.bool _) .nil))))
instance:NH Fo.cells:=⟨Fo.pu⟩
attribute [go_sem] Fo.jP azj Y1
theorem lW {H:AH} {p q:PV} (h:Fz H p q:=by first|exact .pure _ (Nl (fA Nd.pu) _)|exact .pure _ (Nl cZ _)|exact .pure _ (.ah _ _ (fun cs h=>by cases h) (fun k=>by simp))|exact cK (fA Nd.pu) [_] _|exact cK cZ [_] _):Fz H p q:=h
def Rz {α:Type} (H:AH) (f:α->List PV) (l:List α) (v:PV) (ids:List Nat):Prop:=aG H f 1 l v ids/\(l=[]->v= .ah [] .nil)
theorem Rz.fz {α:Type} {H:AH} {f:α->List PV} {l:List α} {v:PV} {ids:List Nat} (hp: ∀x,∀c∈f x,Pu c) [hr:ni f 1] (h:Rz H f l v ids):Fz H v (.ah (l.map f) (nz l)):=by
 cases l with
 |nil=>rw [h.2 rfl];exact .pure _ (.ah _ _ (fun cs h=>by cases h) (fun k=>by simp))
 |cons x l=>exact h.1.fz hp
def MkZ {α:Type} (f:α->List PV) (xs:List α) (H:AH) (v:PV) (H':AH):Prop:= ∃ids,Rz H' f xs v ids/\Nw H [] ids/\HF [] H H'/\ ∀c,bf H c->bf H' c
theorem aje (l:List (List Nd)) (hl:l.length<=1000000) (H:AH):bg Tryz.prog 107 [.ah (l.map (dx Nd.cells)) (nz l)] H (MkZ (dx Nd.cells) l H):=by
 refine aM Kp.aCt (by simp) (aJ ?_);unfold Kp.arp;cases l with
 |nil=>
  simp -implicitDefEqProofs only [go_sem,List.map_nil];exact⟨[],⟨aG.nil,fun _=>rfl⟩,(fun _ h=>by cases h),HF.refl _ _,fun _ h=>h⟩
 |cons x l=>
  have h1: ¬((x::l).map (dx Nd.cells)).length=0:=by simp
  rw [Y1];simp -implicitDefEqProofs only [go_sem,h1,if_true,ne_eq,not_false_eq_true,Nat.succ_ne_zero,Nat.add_eq_zero_iff,and_false];refine MW (f:=dx Nd.cells) (fun x=>Le x) (x::l) .unk aH aH (by simp) (by simp only [List.length_cons]at hl⊢;omega) (fun v' gK H' g1 g2 g3 g4=> ?_);simp -implicitDefEqProofs only [go_sem];exact⟨gK,⟨g1,fun h=>by cases h⟩,g2,g3,g4⟩
theorem Xe (l:List Int) (hl:l.length<=1000000) (H:AH):bg Tryz.prog 202 [.ah (l.map aK) (nz l)] H (MkZ aK l H):=by
 refine aM Kp.ars (by simp) (aJ ?_);unfold Kp.ajd;cases l with
 |nil=>
  simp -implicitDefEqProofs only [go_sem,List.map_nil];exact⟨[],⟨aG.nil,fun _=>rfl⟩,(fun _ h=>by cases h),HF.refl _ _,fun _ h=>h⟩
 |cons x l=>
  have h1: ¬((x::l).map aK).length=0:=by simp
  rw [Y1];simp -implicitDefEqProofs only [go_sem,h1,if_true,ne_eq,not_false_eq_true,Nat.succ_ne_zero,Nat.add_eq_zero_iff,and_false];refine MW (f:=aK) sK (x::l) .unk aH aH (by simp) (by simp only [List.length_cons]at hl⊢;omega) (fun v' gK H' g1 g2 g3 g4=> ?_);simp -implicitDefEqProofs only [go_sem];exact⟨gK,⟨g1,fun h=>by cases h⟩,g2,g3,g4⟩
section
variable {P:Program} {σ:Nat->PV} {H:AH} {α:Type} {f:α->List PV} {sz:Nat} {v:PV} {ids:List Nat}
theorem Kz {b:Nat} {x y:AE} [hr:ni f sz] (hf: ∀x,jY sz (f x)) (xs ys:List α) (c2:Ck)
 (hx:x.ev σ=v) (hrow:aG H f sz xs v ids) (hy:y.ev σ= .ah (ys.map f) c2) (hs:0<ys.length) (hb:(xs.length+ys.length)*b<=1099511627776):
 d9 P (.n (.app sz b x y)) (fun v' H'=> ∃gK,aG H' f sz (xs++ys) v' gK/\Nw H ids gK/\HF ids H H'/\ ∀c3,bf H c3->bf H' c3) σ H:=
 JX (P:=P) (s:=[]) (Q:=fun e σ' H'=> ∃gK,aG H' f sz (xs++ys) (σ' 0) gK/\Nw H ids gK/\HF ids H H'/\ ∀c3,bf H c3->bf H' c3) (d:=some 0) (l:=[]) hf xs ys c2 hx hrow hy hs hb (fun v' gK H' a b c d=>⟨gK,a,b,c,d⟩)
end
section
variable {P:Program} {Q:Post} {σ:Nat->PV} {s:List Fm} {α:Type} {H:AH} {f:α->List PV} {sz:Nat}
theorem aG.rowOf {l:List α} {v:PV} {ids:List Nat} [hr:ni f sz] (h:aG H f sz l v ids):rowOf sz H v=some (l.map f):=by
 rcases h with⟨rfl,rfl,rfl⟩|⟨id,cap,junk,rfl,rfl,h2,h3,h4,h5⟩
 · rfl
 · have hfl:=nu (f:=f) hr.len l;simp only [VL.rowOf,h4];rw [if_pos ⟨trivial,by rw [List.length_append,hfl];omega⟩,List.drop_zero];have:=yA (sz:=sz) (l.map f) junk (fun cs hcs=>by obtain⟨x,_,rfl⟩:=List.mem_map.1 hcs;exact hr.len x);rw [List.length_map]at this;rw [this]
theorem alP {d:Option Nat} {b:Nat} {x y:AE} {l:List aI} [hr:ni f sz] (hf: ∀x,jY sz (f x)) (ys:List α)
 (hx:x.ev σ= .ah [] .exact) (hy:rowOf sz H (y.ev σ)=some (ys.map f)) (hs:0<ys.length) (hb:ys.length*b<=1099511627776)
 (h: ∀(v':PV) (gK:List Nat) (H':AH),aG H' f sz ys v' gK->Nw H [] gK->HF [] H H'->(∀c3,bf H c3->bf H' c3)->WO P l s Q (upd σ d v') H'):
 WO P (⟨d,.n (.app sz b x y),none⟩::l) s Q σ H:=by
 show dM P _ _ σ H
 rw [II];have h0: ¬((ys.map f).length=0):=by rw [List.length_map];omega
 have hx':rowOf sz H (.ah [] .exact)=some []:=rfl;simp only [nop,hx,uS,hy,hx'];rw [if_neg h0];split
 · intro cap hcap;simp only [List.length_map,List.length_nil,Nat.zero_add,List.nil_append]at hcap⊢;refine h _ [H.next] _ (.inr ⟨H.next,cap,List.replicate ((cap -ys.length)*sz) .any,rfl,rfl,hcap,Nat.lt_succ_self _,?_,by rw [List.length_replicate]⟩) (fun i hi=> .inr (by rw [List.mem_singleton.1 hi];exact Nat.le_refl _)) (HF.new (HF.refl _ _)) (fun c3 k=>k.new);show(if H.next=H.next then some _ else _)=_;rw [if_pos rfl]
 · rename_i hno;exact(hno ⟨qC hf ([]:List α),qC hf ys,by simpa using hb⟩).elim
end
theorem ajf (l:List Int) (hl:l.length<=1000000) {v:PV} {ids:List Nat} {H:AH} (h:Rz H aK l v ids):bg Tryz.prog 202 [v] H (MkZ aK l H):=by
 cases l with
 |nil=>rw [h.2 rfl];exact Xe [] (by simp) H
 |cons x l=>
  have hro:=h.1.rowOf;rcases h.1 with⟨_,h,_⟩|⟨id,cap,junk,rfl,rfl,h2,h3,h4,h5⟩
  · cases h
  refine aM Kp.ars (by simp) (aJ ?_);unfold Kp.ajd;simp -implicitDefEqProofs only [go_sem];refine alP (f:=aK) sK (x::l) aH hro (by simp) (by simp only [List.length_cons]at hl⊢;omega) (fun v' gK H' g1 g2 g3 g4=> ?_);simp -implicitDefEqProofs only [go_sem];exact⟨gK,⟨g1,fun h=>by cases h⟩,g2,g3,g4⟩
end Go.VL
end
section
set_option maxHeartbeats 4000000
namespace Go.VL
open Go.Proofs
def Jy (k:Nat) (VZ:List Nd) (t_1:List Nd):Option Bool:=
 (Mi k VZ t_1).bind fun p2=>some p2
instance aCv (k:Nat) (VZ:List Nd) (t_1:List Nd):dN Tryz.prog 203 [(.ah (VZ.map Nd.cells) .unk),(.bY [(.ah (t_1.map Nd.cells) .unk)] 0)] (Jy k VZ t_1) (fun r=>(.bool r)):=bZ aA5 (by unfold Jy apA;exact bJ)
def gL:Nat->(List (List Nd))->(List Nd)->Int->Int->Option (Unit⊕Int)
 |0,_,_,_,_=>none
 |k+1,s_0,iV,jV,iI=>
  cond (decide (iI<jV)) (if 0<=iI then (s_0[iI.toNat]?).bind fun x3=>(Jy k x3 iV).bind fun p6=>cond p6 (some (.inr (iI))) (gL k s_0 iV jV (IntKind.wrap .i64 (iI+1)))else none) (some (.inl ()))
instance afT (k:Nat): ∀(s_0:List (List Nd)) (iV:List Nd) (jV:Int) (iI:Int),Lp Tryz.prog (.loop Ta) (gL k s_0 iV jV iI) [(4,6),(8,19)] [(0,(.ah (s_0.map (dx Nd.cells)) .unk)),(1,(.fn (.func 203) [] [(.bY [(.ah (iV.map Nd.cells) .unk)] 0)])),(7,(.int .i64 jV)),(8,(.int .i64 iI))] (Sum.elim (fun p=>(.exit 0,[])) (fun p=>(.ret,[(4,(.int .i64 p))]))):=by
 induction k with
 |zero=>exact fun _ _ _ _=>qL rfl
 |succ k ih=>exact fun _ _ _ _=>qM Ta.eq_1 (by unfold gL;exact bW)
def nK (k:Nat) (s_0:List (List Nd)) (iV:List Nd):Option Int:=
 Option.bind (gL k s_0 iV (s_0.length:Int) 0) (fun o=>Sum.elim (fun kQ=>some (-1)) (fun mq=>some mq) o)
instance Ox (k:Nat) (s_0:List (List Nd)) (iV:List Nd):dN Tryz.prog 161 [(.ah (s_0.map (dx Nd.cells)) .unk),(.fn (.func 203) [] [(.bY [(.ah (iV.map Nd.cells) .unk)] 0)])] (nK k s_0 iV) (fun r=>(.int .i64 r)):=bZ aAJ (by unfold nK apc;exact bJ)
theorem Oy {k:Nat} {s_0:List (List Nd)} {iV:List Nd} {c0:Ck} {r:Int} (h:nK k s_0 iV=some r):aD Tryz.prog 161 [(.ah (s_0.map (dx Nd.cells)) c0),(.fn (.func 203) [] [(.bY [(.ah (iV.map Nd.cells) .unk)] 0)])] (.int .i64 r):=((Ox _ _ _).c _ h).wk (.ah (.same .nil))
def k_in (aY:Int) (U9:Int) (Va:Int):Option Bool:=
 cond (decide (aY>=U9)) (some (decide (aY<=Va))) (some false)
instance azl (aY:Int) (U9:Int) (Va:Int):dN Tryz.prog 78 [(.int .i64 aY),(.int .i64 U9),(.int .i64 Va)] (k_in aY U9 Va) (fun r=>(.bool r)):=bZ aEQ (by unfold k_in avz;exact bJ)
theorem alQ {aY:Int} {U9:Int} {Va:Int} {r:Bool} (h:k_in aY U9 Va=some r):aD Tryz.prog 78 [(.int .i64 aY),(.int .i64 U9),(.int .i64 Va)] (.bool r):=(azl _ _ _).c _ h
abbrev tT:List PV:=[(.ah [] .nil),(.ah [] .nil),(.int .i64 0),(.bool false)]
def Vb (f g:Fo) (t:Int) (o3 o4:Nat) (r:Nat->PV):Nat->PV
 |0=> .ref o3 0
 |1=> .ah (f.us.map (dx Nd.cells)) (nz f.us)
 |2=>r 2
 |3=> .ref o3 1
 |4=> .ah (f.cs.map aK) (nz f.cs)
 |5=>r 5
 |6=> .ref o3 2
 |7=> .int .i64 f.num
 |8=> .int .i64 t
 |9=> .ref o4 2
 |10=> .int .i64 g.num
 |11=> .int .i64 (IntKind.wrap .i64 (t*g.num))
 |12=> .int .i64 (IntKind.wrap .i64 (f.num+IntKind.wrap .i64 (t*g.num)))
 |13=> .ref o3 3
 |14=> .bool f.bad
 |15=> .bool f.bad
 |16=>if f.bad then ud else .ref o4 3
 |17=>if f.bad then ud else .bool g.bad
 |18=> .bool (f.bad||g.bad)
 |19=> .agg [r 2,r 5,.int .i64 (IntKind.wrap .i64 (f.num+IntKind.wrap .i64 (t*g.num))),.bool (f.bad||g.bad)]
 |20=>r 20
 |_=>ud
structure PlI (f:Fo) (H:AH) (rem:List Nat) (r:Nat->PV) (H':AH):Prop where
 hf:HF [] H H'
 ok: ∀c,bf H c->bf H' c
 sub: ∀j∈rem,j=2\/j=5\/j=20
 ex: ∃(iU iB:List Nat) (o7:Nat),(2∉rem->Rz H' (dx Nd.cells) f.us (r 2) iU/\Nw H [] iU)/\(5∉rem->Rz H' aK f.cs (r 5) iB/\Nw H [] iB)/\(20∉rem->r 20= .ref o7 0/\H.next<=o7/\o7<H'.next/\H'.obj o7=some tT)/\
  (2∉rem->5∉rem->Dj iU iB)/\(2∉rem->20∉rem->o7∉iU)/\(5∉rem->20∉rem->o7∉iB)
theorem Rz.hf {α:Type} {H H':AH} {f:α->List PV} {l:List α} {v:PV} {ids M:List Nat} (h:Rz H f l v ids) (hf:HF M H H') (hd:Dj ids M):Rz H' f l v ids:=⟨h.1.hf hf hd,h.2⟩
theorem HF.tn {H H1 H2:AH} (h1:HF [] H H1) (h2:HF [] H1 H2):HF [] H H2:=⟨Nat.le_trans h1.1 h2.1,fun i hi hm=>(h2.2 i (Nat.lt_of_lt_of_le hi h1.1) hm).trans (h1.2 i hi hm)⟩
theorem Nw.fr {H H1:AH} {b:List Nat} (h1:HF [] H H1) (h2:Nw H1 [] b):Nw H [] b:=fun i hi=>by
 rcases h2 i hi with q|q
 · exact .inl q
 · exact .inr (Nat.le_trans h1.1 q)
theorem alR {H1:AH} {a b:List Nat} (h1: ∀i∈a,i<H1.next) (h2:Nw H1 [] b):Dj a b:=fun i hi hj=>by
 rcases h2 i hj with q|q
 · cases q
 · have:=h1 i hi;omega
theorem ahe {H1:AH} {b:List Nat} {i:Nat} (h1:i<H1.next) (h2:Nw H1 [] b):i∉b:=fun hj=>by
 rcases h2 i hj with q|q
 · cases q
 · omega
theorem Rz.co {α:Type} {H:AH} {f:α->List PV} {l:List α} {v:PV} {ids:List Nat} (h:Rz H f l v ids):cellsOf v=some [v]:=by
 rcases h.1 with⟨rfl,_⟩|⟨id,cap,junk,_,rfl,_⟩<;>rfl
theorem aG.co {α:Type} {H:AH} {f:α->List PV} {l:List α} {v:PV} {sz:Nat} {ids:List Nat} (h:aG H f sz l v ids):cellsOf v=some [v]:=by
 rcases h with⟨rfl,_⟩|⟨id,cap,junk,_,rfl,_⟩<;>rfl
theorem aG.one {α:Type} {H:AH} {f:α->List PV} {l:List α} {v:PV} {sz:Nat} {ids:List Nat} (h:aG H f sz l v ids):v.one=true:=by
 rcases h with⟨rfl,_⟩|⟨id,cap,junk,_,rfl,_⟩<;>rfl
theorem flt {rem:List Nat} {s j:Nat} (hs:s≠j) (h:s∉rem.filter (·!=j)):s∉rem:=fun hm=>h (List.mem_filter.2 ⟨hm,by simpa using hs⟩)
abbrev azm:List Nat:=[0,1,3,0,8,31,0,64,0,0,512,1792,4032,0,8192,24639,57407,122943,254015,524287,0,2097151]
abbrev Y2:List (aI×Bool):=[(oF 13 0 3,false),(oL 14 1 13,false),(oC 15 107 [(.t 14)],true),(oF 16 1 3,false),(oL 17 1 16,false),(oC 18 202 [(.t 17)],true),(oF 19 2 3,false),(oL 20 1 19,false),(oM 21 2,false),(oF 22 2 4,false),(oL 23 1 22,false),(oB 24 .mul (.t 21) (.t 23),false),(oB 25 .add (.t 20) (.t 24),false),(oF 26 3 3,false),(oL 27 1 26,false),(oM 28 27,false),(oFg 29 3 4 28 false,false),(ZA 30 1 29 28 false,false),(oR 31 (.pick (.t 28) (.c (.bool true)) (.t 30)),false),(oR 32 (.build [(.ah [] .nil),(.ah [] .nil),(.int .i64 0),(.bool false)] [(0,(1,(.t 15))),(1,(1,(.t 18))),(2,(1,(.t 25))),(3,(1,(.t 31)))]),false),(⟨(some 7),(.d (.alloc [(.ah [] .nil),(.ah [] .nil),(.int .i64 0),(.bool false)])),none⟩,true)]
theorem afU {f g:Fo} {t:Int} {o3 o4:Nat} {σ:Nat->PV} {H:AH} {post:List aI} {s:List Fm} {Q:Post} (s2:σ 2= .int .i64 t) (s3:σ 3= .ref o3 0) (s4:σ 4= .ref o4 0) (h3:H.obj o3=some f.cells) (h4:H.obj o4=some g.cells) (l3:o3<H.next) (l4:o4<H.next)
 (hu:f.us.length<=1000000) (hc:f.cs.length<=1000000)
 (hK: ∀(vU vB:PV) (iU iB:List Nat) (o7:Nat) (H':AH) (σ':Nat->PV),HF [] H H'->Rz H' (dx Nd.cells) f.us vU iU->Rz H' aK f.cs vB iB->Nw H [] iU->Nw H [] iB->Dj iU iB->H.next<=o7->o7<H'.next->H'.obj o7=some tT->o7∉iU->o7∉iB->
  σ' 7= .ref o7 0->σ' 32= .agg [vU,vB,.int .i64 (IntKind.wrap .i64 (f.num+IntKind.wrap .i64 (t*g.num))),.bool (f.bad||g.bad)]->σ' 2=σ 2->σ' 4=σ 4->σ' 6=σ 6->WO Tryz.prog post s Q σ' H'):WS Tryz.prog (.su azm Y2 post) s Q σ H:=by
 refine Mq [2,5,20] (by kernel_rfl) (Vb f g t o3 o4) (PlI f H) (fun r j hj=> ?_) (fun r r' i h=> ?_) ⟨fun _=>ud,HF.refl _ _,fun _ h=>h,fun j hj=>by simpa using hj,[],[],0,fun h=>absurd (by simp) h,fun h=>absurd (by simp) h,fun h=>absurd (by simp) h,fun h=>absurd (by simp) h,fun h=>absurd (by simp) h,fun h=>absurd (by simp) h⟩ ?_ ?_ ?_
 · rcases(show j=2\/j=5\/j=20 by simpa using hj)with rfl|rfl|rfl<;>rfl
 · unfold Vb;split<;>first|rfl|exact h _ (by simp) (.inr rfl)|(rw [h 2 (by simp) (.inl (by decide+kernel)),h 5 (by simp) (.inl (by decide+kernel))])
 · rintro rem r H' ⟨hf,hok,hsub,iU,iB,o7,e2,e5,e20,d1,d2,d3⟩;have h3':H'.obj o3=some f.cells:=(hf.2 o3 l3 List.not_mem_nil).trans h3;have h4':H'.obj o4=some g.cells:=(hf.2 o4 l4 List.not_mem_nil).trans h4;refine⟨.inr (.inr ?_),.inr (.inr ?_),.inl rfl,.inr (.inr ?_),.inr (.inr ?_),.inl rfl,.inr (.inr ?_),.inr (.inr ?_),.inr (.inr ?_),.inr (.inr ?_),.inr (.inr ?_),.inr (.inr ?_),.inr (.inr ?_),.inr (.inr ?_),.inr (.inr ?_),.inr (.inr ?_),.inr (.inr ?_),.inr (.inr ?_),.inr (.inr ?_),?_,.inl rfl,trivial⟩
   all_goals try simp -implicitDefEqProofs only [KW,d9,go_sem,Vb,s2,s3,s4,h3',h4',Nat.reduceAdd,and_self]
   · cases f.bad<;>simp -implicitDefEqProofs only [if_true,if_false,Bool.false_eq_true,Bool.true_eq_false,reduceIte]
   · cases f.bad<;>simp -implicitDefEqProofs only [if_true,if_false,Bool.false_eq_true,Bool.true_eq_false,reduceIte,h4',Fo.jP,List.getElem?_cons_succ,List.getElem?_cons_zero,Cm,zy,List.length_cons,List.length_nil,Nat.reduceAdd,Nat.reduceLeDiff]
   · cases f.bad<;>simp -implicitDefEqProofs only [if_true,if_false,Bool.false_eq_true,Bool.true_eq_false,reduceIte,Bool.true_or,Bool.false_or]
   · by_cases m2:2∈rem
     · exact .inr (.inl (by unfold Hu;rw [Bool.or_eq_true];exact .inl (List.any_eq_true.2 ⟨2,m2,by decide+kernel⟩)))
     by_cases m5:5∈rem
     · exact .inr (.inl (by unfold Hu;rw [Bool.or_eq_true];exact .inl (List.any_eq_true.2 ⟨5,m5,by decide+kernel⟩)))
     refine .inr (.inr ?_);rw [(e2 m2).1.co,(e5 m5).1.co];simp -implicitDefEqProofs only [go_sem,List.length_append,List.length_drop,Nat.reduceSub,and_self,if_true,List.drop_succ_cons,List.drop_zero,List.take_zero,List.take_succ_cons]
 · rintro rem r H' j o ⟨hf,hok,hsub,iU,iB,o7,e2,e5,e20,d1,d2,d3⟩ hj ho hb;rcases hsub j hj with rfl|rfl|rfl
   · obtain rfl:oC 15 107 [(.t 14)]=o:=(Prod.mk.inj (Option.some.inj ho)).1;refine⟨trivial,?_⟩;show bg Tryz.prog 107 [bT Y2 (Vb f g t o3 o4 r) σ 2 14] H' _;rw [show bT Y2 (Vb f g t o3 o4 r) σ 2 14= .ah (f.us.map (dx Nd.cells)) (nz f.us)from rfl];refine bg.mono (aje f.us hu H') fun p H2 ⟨i2,g1,g2,g3,g4⟩=>⟨fun s=>if s=2 then p else r s,rfl,fun s hs=>if_neg hs,hf.tn g3,fun c h=>g4 c (hok c h),fun k hk=>hsub k (List.mem_filter.1 hk).1,i2,iB,o7,fun _=>⟨g1,g2.fr hf⟩,fun h=> ?_,fun h=> ?_,fun _ h=> ?_,fun _ h=> ?_,fun h h'=>d3 (flt (by decide) h) (flt (by decide) h')⟩
     · obtain⟨a,b⟩:=e5 (flt (by decide) h);exact⟨a.hf g3 Dj.nil.symm,b⟩
     · obtain⟨a,b,c,d⟩:=e20 (flt (by decide) h);exact⟨a,b,Nat.lt_of_lt_of_le c g3.1,(g3.2 o7 c List.not_mem_nil).trans d⟩
     · exact(alR (e5 (flt (by decide) h)).1.1.lt g2).symm
     · exact ahe (e20 (flt (by decide) h)).2.2.1 g2
   · obtain rfl:oC 18 202 [(.t 17)]=o:=(Prod.mk.inj (Option.some.inj ho)).1;refine⟨trivial,?_⟩;show bg Tryz.prog 202 [bT Y2 (Vb f g t o3 o4 r) σ 5 17] H' _;rw [show bT Y2 (Vb f g t o3 o4 r) σ 5 17= .ah (f.cs.map aK) (nz f.cs)from rfl];refine bg.mono (Xe f.cs hc H') fun p H2 ⟨i2,g1,g2,g3,g4⟩=>⟨fun s=>if s=5 then p else r s,rfl,fun s hs=>if_neg hs,hf.tn g3,fun c h=>g4 c (hok c h),fun k hk=>hsub k (List.mem_filter.1 hk).1,iU,i2,o7,fun h=> ?_,fun _=>⟨g1,g2.fr hf⟩,fun h=> ?_,fun h _=> ?_,fun h h'=>d2 (flt (by decide) h) (flt (by decide) h'),fun _ h=> ?_⟩
     · obtain⟨a,b⟩:=e2 (flt (by decide) h);exact⟨a.hf g3 Dj.nil.symm,b⟩
     · obtain⟨a,b,c,d⟩:=e20 (flt (by decide) h);exact⟨a,b,Nat.lt_of_lt_of_le c g3.1,(g3.2 o7 c List.not_mem_nil).trans d⟩
     · exact alR (e2 (flt (by decide) h)).1.1.lt g2
     · exact ahe (e20 (flt (by decide) h)).2.2.1 g2
   · obtain rfl:(⟨(some 7),(.d (.alloc tT)),none⟩:aI)=o:=(Prod.mk.inj (Option.some.inj ho)).1;refine⟨trivial,⟨fun s=>if s=20 then .ref H'.next 0 else r s,rfl,fun s hs=>if_neg hs,HF.new hf,fun c h=>(hok c h).new,fun k hk=>hsub k (List.mem_filter.1 hk).1,iU,iB,H'.next,fun h=> ?_,fun h=> ?_,fun _=>⟨rfl,hf.1,Nat.lt_succ_self _,?_⟩,fun h h'=>d1 (flt (by decide) h) (flt (by decide) h'),fun h _ hm=> ?_,fun h _ hm=> ?_⟩⟩
     · obtain⟨a,b⟩:=e2 (flt (by decide) h);exact⟨a.hf (HF.new (HF.refl _ _)) Dj.nil.symm,b⟩
     · obtain⟨a,b⟩:=e5 (flt (by decide) h);exact⟨a.hf (HF.new (HF.refl _ _)) Dj.nil.symm,b⟩
     · show(if H'.next=H'.next then some tT else _)=_
       rw [if_pos rfl]
     · exact absurd ((e2 (flt (by decide) h)).1.1.lt _ hm) (Nat.lt_irrefl _)
     · exact absurd ((e5 (flt (by decide) h)).1.1.lt _ hm) (Nat.lt_irrefl _)
 · rintro r H' ⟨hf,hok,hsub,iU,iB,o7,e2,e5,e20,d1,d2,d3⟩;have n2:(2:Nat)∉([]:List Nat):=List.not_mem_nil;have n5:(5:Nat)∉([]:List Nat):=List.not_mem_nil;have n20:(20:Nat)∉([]:List Nat):=List.not_mem_nil;obtain⟨a1,a2⟩:=e2 n2;obtain⟨b1,b2⟩:=e5 n5;obtain⟨c1,c2,c3,c4⟩:=e20 n20;exact hK (r 2) (r 5) iU iB o7 H' _ hf a1 b1 a2 b2 (d1 n2 n5) c2 c3 c4 (d2 n2 n20) (d3 n5 n20) c1 rfl rfl rfl rfl
abbrev aru:List Nat:=[0,1,0,4,15,0,32,0,255,127,1023,2047,4095]
abbrev arv:List (aI×Bool):=[(oF 53 0 7,false),(oL 54 1 53,false),(oL 55 1 9,false),(oR 56 (.Ci 1 [(.t 55)]),false),(⟨(some 57),(.n (.app 1 24 (.t 54) (.t 56))),none⟩,true),(oF 58 1 7,false),(oL 59 1 58,false),(oR 60 (.Ci 1 [(.c (.int .i64 0))]),false),(⟨(some 61),(.n (.app 1 8 (.t 59) (.t 60))),none⟩,true),(oF 62 0 7,false)]
def abp (u:List Nd) (vU vB:PV) (o7:Nat) (r:Nat->PV):Nat->PV
 |0=> .ref o7 0
 |1=>vU
 |2=> .ah (u.map Nd.cells) .unk
 |3=> .ah [[.ah (u.map Nd.cells) .unk]] .exact
 |4=>r 4
 |5=> .ref o7 1
 |6=>vB
 |7=> .ah [[.int .i64 0]] .exact
 |8=>r 8
 |9=> .ref o7 0
 |_=>ud
theorem aep {u:List Nd} {us:List (List Nd)} {cs:List Int} {vU vB:PV} {iU iB:List Nat} {num:PV} {bad:PV} {o7 o9:Nat} {σ:Nat->PV} {H:AH} {post:List aI} {s:List Fm} {Q:Post} (s7:σ 7= .ref o7 0) (s9:σ 9= .ref o9 0) (h7:H.obj o7=some [vU,vB,num,bad]) (h9:H.obj o9=some [.ah (u.map Nd.cells) .unk]) (l7:o7<H.next) (l9:o9<H.next)
 (rU:aG H (dx Nd.cells) 1 us vU iU) (rB:aG H aK 1 cs vB iB) (dj:Dj iU iB) (Al:o7∉iU) (vI:o7∉iB) (n9U:o9∉iU) (n9B:o9∉iB)
 (hu:us.length<=1000000) (hc:cs.length<=1000000)
 (hK: ∀(wU wB:PV) (jU jB:List Nat) (H':AH) (σ':Nat->PV),HF (iU++iB) H H'->aG H' (dx Nd.cells) 1 (us++[u]) wU jU->aG H' aK 1 (cs++[0]) wB jB->Nw H iU jU->Nw H iB jB->Dj jU jB->
  σ' 62= .ref o7 0->σ' 57=wU->σ' 61=wB->σ' 7=σ 7->σ' 2=σ 2->σ' 4=σ 4->σ' 6=σ 6->σ' 8=σ 8->σ' 10=σ 10->σ' 37=σ 37->σ' 38=σ 38->σ' 39=σ 39->WO Tryz.prog post s Q σ' H'):WS Tryz.prog (.su aru arv post) s Q σ H:=by
 refine Mq [4,8] (by kernel_rfl) (abp u vU vB o7) (fun rem r H'=>(rem=[4,8]/\H'=H)\/
  (rem=[8]/\ ∃jU,aG H' (dx Nd.cells) 1 (us++[u]) (r 4) jU/\Nw H iU jU/\HF iU H H')\/
  (rem=[]/\ ∃jU jB,aG H' (dx Nd.cells) 1 (us++[u]) (r 4) jU/\aG H' aK 1 (cs++[0]) (r 8) jB/\Nw H iU jU/\Nw H iB jB/\Dj jU jB/\HF (iU++iB) H H')) (fun r j hj=> ?_) (fun r r' i h=> ?_) ⟨fun _=>ud,.inl ⟨rfl,rfl⟩⟩ ?_ ?_ ?_
 · rcases(show j=4\/j=8 by simpa using hj)with rfl|rfl<;>rfl
 · unfold abp;split<;>first|rfl|exact h _ (by simp) (.inr rfl)
 · have key: ∀rem r H',H'.obj o7=some [vU,vB,num,bad]->H'.obj o9=some [.ah (u.map Nd.cells) .unk]->Ht Tryz.prog H' (Hu aru [4,8] rem) 0 arv (abp u vU vB o7 r) σ:=by
    intro rem r H' h7' h9';refine⟨.inr (.inr ?_),.inr (.inr ?_),.inr (.inr ?_),.inr (.inr ?_),.inl rfl,.inr (.inr ?_),.inr (.inr ?_),.inr (.inr ?_),.inl rfl,.inr (.inr ?_),trivial⟩
    all_goals simp -implicitDefEqProofs only [KW,d9,go_sem,abp,s7,s9,h7',h9',Nat.reduceAdd,and_self]
   rintro rem r H' (⟨rfl,rfl⟩|⟨rfl,jU,g1,g2,g3⟩|⟨rfl,jU,jB,g1,g2,g3,g4,g5,g6⟩)
   · exact key _ _ _ h7 h9
   · exact key _ _ _ ((g3.2 o7 l7 Al).trans h7) ((g3.2 o9 l9 n9U).trans h9)
   · exact key _ _ _ ((g6.2 o7 l7 (fun h=>(List.mem_append.1 h).elim Al vI)).trans h7) ((g6.2 o9 l9 (fun h=>(List.mem_append.1 h).elim n9U n9B)).trans h9)
 · rintro rem r H' j o (⟨rfl,rfl⟩|⟨rfl,jU,g1,g2,g3⟩|⟨rfl,jU,jB,g1,g2,g3,g4,g5,g6⟩) hj ho hb
   · have hj4:j=4:=by
      rcases(show j=4\/j=8 by simpa using hj)with rfl|rfl
      · rfl
      · rcases hb 4 (by simp)with h|h
        · exact absurd h (by decide+kernel)
        · cases h
     subst hj4;obtain rfl:(⟨(some 57),(.n (.app 1 24 (.t 54) (.t 56))),none⟩:aI)=o:=(Prod.mk.inj (Option.some.inj ho)).1;refine⟨trivial,kC (fun p H2 ⟨i2,a1,a2,a3,a4⟩=>⟨fun s=>if s=4 then p else r s,rfl,fun s hs=>if_neg hs,.inr (.inl ⟨rfl,i2,a1,a2,a3⟩)⟩) (Kz (f:=dx Nd.cells) (fun x=>Le x) us [u] .exact rfl rU rfl (by simp) (by simp only [List.length_cons,List.length_nil];omega))⟩
   · obtain rfl:j=8:=by simpa using hj
     obtain rfl:(⟨(some 61),(.n (.app 1 8 (.t 59) (.t 60))),none⟩:aI)=o:=(Prod.mk.inj (Option.some.inj ho)).1;have rB':aG H' aK 1 cs vB iB:=rB.hf g3 dj.symm;refine⟨trivial,kC (fun p H2 ⟨i2,a1,a2,a3,a4⟩=>⟨fun s=>if s=8 then p else r s,rfl,fun s hs=>if_neg hs,.inr (.inr ⟨rfl,jU,i2,g1.hf a3 ?_,a1,g2,?_,?_,?_⟩)⟩) (Kz (f:=aK) sK cs [0] .exact rfl rB' rfl (by simp) (by simp only [List.length_cons,List.length_nil];omega))⟩
     · intro i hi hb';rcases g2 i hi with q|q
       · exact dj i q hb'
       · have:=rB.lt i hb';omega
     · exact Nw.trans (fun i h=> .inl h) g3.1 a2
     · intro i hi hb';rcases a2 i hb' with q|q
       · rcases g2 i hi with q'|q'
         · exact dj i q' q
         · have:=rB.lt i q;omega
       · have:=g1.lt i hi;omega
     · exact⟨Nat.le_trans g3.1 a3.1,fun i hi hm=>(a3.2 i (Nat.lt_of_lt_of_le hi g3.1) (fun h=>hm (List.mem_append_right _ h))).trans (g3.2 i hi (fun h=>hm (List.mem_append_left _ h)))⟩
   · cases hj
 · rintro r H' (⟨h,_⟩|⟨h,_⟩|⟨_,jU,jB,g1,g2,g3,g4,g5,g6⟩)
   · cases h
   · cases h
   · exact hK (r 4) (r 8) jU jB H' _ g6 g1 g2 g3 g4 g5 rfl rfl rfl rfl rfl rfl rfl rfl rfl rfl rfl rfl
theorem Y3 {P:Program} {l:List aI} {s:List Fm} {Q:Post} {σ:Nat->PV} {H:AH} (h: ∀fr,fr=s->WO P l fr Q σ H):WO P l s Q σ H:=h s rfl
abbrev arx:List (aI×Bool):=[(oF 64 1 7,false),(oL 65 1 64,false),(oM 66 10,false),(oX 67 1 65 66,false),(oL 68 1 67,false),(oM 69 2,false),(oF 70 1 4,false),(oL 71 1 70,false),(oM 72 8,false),(oX 73 1 71 72,false),(oL 74 1 73,false),(oB 75 .mul (.t 69) (.t 74),false)]
theorem aas {g:Fo} {t num a i c n:Int} {o4 o7:Nat} {cs:List Int} {vU vB:PV} {iB:List Nat} {σ:Nat->PV} {H:AH} {s:List Fm} {Q:Post} (s2:σ 2= .int .i64 t) (s4:σ 4= .ref o4 0) (s7:σ 7= .ref o7 0) (s8:σ 8= .int .i64 i) (s10:σ 10= .int .i64 a)
 (h4:H.obj o4=some g.cells) (h7:H.obj o7=some [vU,vB,.int .i64 num,.bool false]) (rB:Rz H aK cs vB iB) (ha:0<=a) (hc:cs[a.toNat]? =some c) (hi:0<=i) (hn:g.cs[i.toNat]? =some n)
 (hK: ∀(H':AH) (σ':Nat->PV),Rz H' aK (cs.set a.toNat (IntKind.wrap .i64 (c+IntKind.wrap .i64 (t*n)))) vB iB->HF iB H H'->(σ' 2=σ 2/\σ' 4=σ 4/\σ' 6=σ 6/\σ' 7=σ 7/\σ' 37=σ 37/\σ' 38=σ 38/\σ' 39=σ 39)->WE Tryz.prog .normal s Q σ' H'):
 WS Tryz.prog (.par arx [oB 76 .add (.t 68) (.t 75),oX 77 1 65 66,oS 1 77 76]) s Q σ H:=by
 obtain⟨id,C,hid,hlt,hC,hcell,hL,hD,hI⟩:=aG.content rB.1 hc;have hx:jR 1 vB (.int .i64 a)=some (.ref id a.toNat):=by simpa using hI .i64 a ha rfl
 have hcc:C[a.toNat]? =some (.int .i64 c):=by simpa using hcell 0 _ rfl
 unfold arx;refine jI ?_;refine dI ?_;refine pJ (f:=aK) (id:=id) (o:=a.toNat) (i:=a.toNat) (j:=0) (a:=c) (y:=IntKind.wrap .i64 (c+IntKind.wrap .i64 (t*n))) (vs:=[(.int .i64 (IntKind.wrap .i64 (c+IntKind.wrap .i64 (t*n))))]) aH hid (by omega) rB.1 hc aH rfl rfl (by decide) rfl (fun H' g1 g2 g3=> ?_);refine aj ?_;refine hK H' _ ⟨g1,fun h=> ?_⟩ g2 (by simp -implicitDefEqProofs only [go_sem,and_self]);have:=congrArg List.length h;simp only [List.length_set,List.length_nil]at this;have hl:=(List.getElem?_eq_some_iff.1 hc).1;omega
def zl (us:List (List Nd)) (cs:List Int) (a v:Int):Option (List (List Nd)×List Int):=
 if 0<=a then (cs[a.toNat]?).bind fun c=>some (us,cs.set a.toNat (IntKind.wrap .i64 (c+v)))else none
def tV:Nat->Fo->Int->List (List Nd)->List Int->Int->Option (List (List Nd)×List Int)
 |0,_,_,_,_,_=>none
 |k+1,g,t,us,cs,i=>
  cond (decide (i<(g.us.length:Int))) (if 0<=i then (g.us[i.toNat]?).bind fun u=>if us.length<=1000000/\cs.length<=1000000 then (nK k us u).bind fun a=>(g.cs[i.toNat]?).bind fun n=>
   (cond (decide (a<0)) (zl (us++[u]) (cs++[0]) (cs.length:Int) (IntKind.wrap .i64 (t*n))) (zl us cs a (IntKind.wrap .i64 (t*n)))).bind fun p=>tV k g t p.1 p.2 (IntKind.wrap .i64 (i+1))else none else none) (some (us,cs))
structure PlS (g:Fo) (t num:Int) (o4 o6 o7:Nat) (us:List (List Nd)) (cs:List Int) (vU vB:PV) (iU iB:List Nat) (σ:Nat->PV) (H:AH):Prop where
 s2:σ 2= .int .i64 t
 s4:σ 4= .ref o4 0
 s6:σ 6= .ref o6 0
 s7:σ 7= .ref o7 0
 h4:H.obj o4=some g.cells
 h6:H.obj o6=some tT
 h7:H.obj o7=some [vU,vB,.int .i64 num,.bool false]
 l4:o4<H.next
 l6:o6<H.next
 l7:o7<H.next
 n47:o4≠o7
 n67:o6≠o7
 rU:Rz H (dx Nd.cells) us vU iU
 rB:Rz H aK cs vB iB
 dj:Dj iU iB
 Mr:o4∉iU
 Jz:o6∉iU
 Al:o7∉iU
 Gb:o4∉iB
 Em:o6∉iB
 vI:o7∉iB
theorem afV (g:Fo) (t num:Int) (o4 o6 o7:Nat): ∀(k:Nat) (us:List (List Nd)) (cs:List Int) (i:Int) (vU vB:PV) (iU iB:List Nat) (σ:Nat->PV) (H:AH) (Q:Post) (us':List (List Nd)) (cs':List Int),PlS g t num o4 o6 o7 us cs vU vB iU iB σ H->σ 37= .ah (g.us.map (dx Nd.cells)) (nz g.us)->σ 38= .int .i64 g.us.length->σ 39= .int .i64 i->
 tV k g t us cs i=some (us',cs')->(∀(wU wB:PV) (jU jB:List Nat) (σ':Nat->PV) (H':AH),PlS g t num o4 o6 o7 us' cs' wU wB jU jB σ' H'->Q (.exit 0) σ' H')->W Tryz.prog (.loop Kp.U7) Q σ H:=by
 intro k
 induction k with
 |zero=>intro us cs i vU vB iU iB σ H Q us' cs' hS s37 s38 s39 h hQ;simp only [tV,reduceCtorEq]at h
 |succ k ih=>
  intro us cs i vU vB iU iB σ H Q us' cs' hS s37 s38 s39 h hQ;have s2:=hS.s2;have s4:=hS.s4;have s6:=hS.s6;have s7:=hS.s7;have h4:=hS.h4;have h7:=hS.h7;unfold tV at h;refine bA (fun K hK=>aJ ?_);unfold Kp.U7;obtain⟨e1,h⟩|⟨e1,h⟩:=aA h
  · obtain⟨e2,h⟩:=aZ h;obtain⟨u,e3,h⟩:=ak h;obtain⟨⟨e4,e4'⟩,h⟩:=aZ h;obtain⟨a,e5,h⟩:=ak h;obtain⟨n,e6,h⟩:=ak h;obtain⟨⟨us2,cs2⟩,e7,h⟩:=ak h;have n9U:H.next∉iU:=fun hm=>Nat.lt_irrefl _ (hS.rU.1.lt _ hm);have n9B:H.next∉iB:=fun hm=>Nat.lt_irrefl _ (hS.rB.1.lt _ hm);have l7:=hS.l7;have l4:=hS.l4;have w7:=ne_next l7;have w4:=ne_next l4;refine aj ?_;have hf1:HF [] H ((H.new [PV.ah [] Ck.nil]).put H.next [PV.ah (List.map Nd.cells u) Ck.unk]):=HF.put (.inr (Nat.le_refl _)) (HF.new (HF.refl _ _));have h91:((H.new [PV.ah [] Ck.nil]).put H.next [PV.ah (List.map Nd.cells u) Ck.unk]).obj H.next=some [PV.ah (List.map Nd.cells u) Ck.unk]:=if_pos rfl;have l91:H.next<((H.new [PV.ah [] Ck.nil]).put H.next [PV.ah (List.map Nd.cells u) Ck.unk]).next:=Nat.lt_succ_self _;generalize((H.new [PV.ah [] Ck.nil]).put H.next [PV.ah (List.map Nd.cells u) Ck.unk])=H1 at hf1 h91 l91⊢;have rU1:=hS.rU.hf hf1 Dj.nil.symm;have rB1:=hS.rB.hf hf1 Dj.nil.symm;have h41:=(hf1.2 o4 l4 List.not_mem_nil).trans h4;have h61:=(hf1.2 o6 hS.l6 List.not_mem_nil).trans hS.h6;have h71:=(hf1.2 o7 l7 List.not_mem_nil).trans h7;refine FV (Oy e5) (.cons (rU1.fz (fA Nd.pu)) (.cons (aoF (.cons (aj0 h91 (.cons (cK Nd.pu _ _) .nil)) .nil)) .nil)) (.cons (Nl (fA Nd.pu) _) (.cons (.fn _ _ _ (dA.mem .nil) (dA.mem (.cons (.bY _ _ (dA.mem (.cons (bE Nd.pu _) .nil))) .nil))) .nil)) (.int _ _) ?_;rcases hb:decide (a<0)with _|_
    · rw [hb,cond_false]at e7;refine aj ?_;unfold zl at e7;obtain⟨e8,e7⟩:=aZ e7;obtain⟨c,e9,e7⟩:=ak e7;cases e7;refine aas (g:=g) (t:=t) (num:=num) (o4:=o4) (o7:=o7) (i:=i) (n:=n) (vU:=vU) aH aH aH aH aH h41 h71 rB1 e8 e9 e2 e6 (fun H' σ' g1 g2 ⟨t2,t4,t6,t7,t37,t38,t39⟩=> ?_);refine aj ?_;refine hK _ _ ?_;have nm: ∀x,x<H.next->x∉iB->H'.obj x=H1.obj x:=fun x hx hm=>g2.2 x (Nat.lt_of_lt_of_le hx hf1.1) hm;refine ih us _ _ vU vB iU iB _ H' Q us' cs' ⟨aH,aH,aH,aH,(nm o4 l4 hS.Gb).trans h41,(nm o6 hS.l6 hS.Em).trans h61,(nm o7 l7 hS.vI).trans h71,?_,?_,?_,hS.n47,hS.n67,rU1.hf g2 hS.dj,g1,hS.dj,hS.Mr,hS.Jz,hS.Al,hS.Gb,hS.Em,hS.vI⟩ aH aH aH h hQ
      all_goals have:=hf1.1;have:=g2.1;have:=hS.l6;omega
    · rw [hb,cond_true]at e7;have lB:=rB1.1.O1;refine aj ?_;refine aep (u:=u) (us:=us) (cs:=cs) (vU:=vU) (vB:=vB) (iU:=iU) (iB:=iB) (o7:=o7) (o9:=H.next) aH aH h71 h91 (by have:=hf1.1;omega) l91 rU1.1 rB1.1 hS.dj hS.Al hS.vI n9U n9B e4 e4' (fun wU wB jU jB H2 σ2 f1 f2 f3 f4 f5 f6 t62 t57 t61 t7 t2 t4 t6 t8 t10 t37 t38 t39=> ?_);unfold zl at e7;obtain⟨e8,e7⟩:=aZ e7;obtain⟨c,e9,e7⟩:=ak e7;cases e7;have s7':σ2 7= .ref o7 0:=t7.trans aH;have n7:o7∉iU++iB:=fun h=>(List.mem_append.1 h).elim hS.Al hS.vI;have n4:o4∉iU++iB:=fun h=>(List.mem_append.1 h).elim hS.Mr hS.Gb;have n6:o6∉iU++iB:=fun h=>(List.mem_append.1 h).elim hS.Jz hS.Em;have l71:o7<H1.next:=by have:=hf1.1;omega
      have l41:o4<H1.next:=by have:=hf1.1;omega
      have l61:o6<H1.next:=by have:=hf1.1;have:=hS.l6;omega
      have h72:=(f1.2 o7 l71 n7).trans h71;have h42:=(f1.2 o4 l41 n4).trans h41;have VW:=(f1.2 o6 l61 n6).trans h61;have nw: ∀x,x<H1.next->x∉iU->x∉iB->x∉jU/\x∉jB:=fun x hx h1 h2=>⟨fun h=>by rcases f4 x h with q|q;exact h1 q;omega,fun h=>by rcases f5 x h with q|q;exact h2 q;omega⟩
      obtain⟨Al,vI⟩:=nw o7 l71 hS.Al hS.vI;obtain⟨Mr,Gb⟩:=nw o4 l41 hS.Mr hS.Gb;obtain⟨Jz,Em⟩:=nw o6 l61 hS.Jz hS.Em;have cU:=f2.co;have cB:=f3.co;have oU:=f2.one;have oB:=f3.one;refine Y3 fun fr hfr=> ?_;refine aj ?_;subst hfr;have q0:(cs++[0])[((cs.length:Nat):Int).toNat]? =some c:=e9;have o72:o7<H2.next:=Nat.lt_of_lt_of_le l71 f1.1;have pf:HF [o7] H2 ((H2.put o7 [wU,vB,PV.int IntKind.i64 num,PV.bool false]).put o7 [wU,wB,PV.int IntKind.i64 num,PV.bool false]):=HF.put (.inl (by simp)) (HF.put (.inl (by simp)) (HF.refl _ _));have p7:((H2.put o7 [wU,vB,PV.int IntKind.i64 num,PV.bool false]).put o7 [wU,wB,PV.int IntKind.i64 num,PV.bool false]).obj o7=some [wU,wB,PV.int IntKind.i64 num,PV.bool false]:=if_pos rfl;generalize((H2.put o7 [wU,vB,PV.int IntKind.i64 num,PV.bool false]).put o7 [wU,wB,PV.int IntKind.i64 num,PV.bool false])=H3 at pf p7⊢;have Ms: ∀(j:List Nat),o7∉j->Dj j [o7]:=fun j h x hx hm=>h (List.mem_singleton.1 hm▸hx);have h43:=(pf.2 o4 (Nat.lt_of_lt_of_le l41 f1.1) (by simpa using hS.n47)).trans h42;have h63:=(pf.2 o6 (Nat.lt_of_lt_of_le l61 f1.1) (by simpa using hS.n67)).trans VW;have rU3:Rz H3 (dx Nd.cells) (us++[u]) wU jU:=⟨f2.hf pf (Ms _ Al),fun h=>by simp at h⟩;have rB3:Rz H3 aK (cs++[0]) wB jB:=⟨f3.hf pf (Ms _ vI),fun h=>by simp at h⟩;refine aas (g:=g) (t:=t) (num:=num) (o4:=o4) (o7:=o7) (i:=i) (n:=n) (a:=cs.length) (vU:=wU) (t2.trans aH) (t4.trans aH) aH (t8.trans aH) (t10.trans aH) h43 p7 rB3 e8 q0 e2 e6 (fun H' σ' g1 g2 ⟨u2,u4,u6,u7,u37,u38,u39⟩=> ?_);have v2:σ2 2= .int .i64 t:=t2.trans aH;have v4:σ2 4= .ref o4 0:=t4.trans aH;have v6:σ2 6= .ref o6 0:=t6.trans aH;have v37:σ2 37= .ah (g.us.map (dx Nd.cells)) (nz g.us):=t37.trans aH;have v38:σ2 38= .int .i64 g.us.length:=t38.trans aH;have v39:σ2 39= .int .i64 i:=t39.trans aH;have w39:σ' 39= .int .i64 i:=u39.trans aH;refine aj ?_;refine hK _ _ ?_;have Xf: ∀x,x<H1.next->x<H3.next:=fun x hx=>Nat.lt_of_lt_of_le hx (Nat.le_trans f1.1 pf.1);have nm: ∀x,x<H1.next->x∉jB->H'.obj x=H3.obj x:=fun x hx hm=>g2.2 x (Xf x hx) hm;refine ih (us++[u]) _ _ wU wB jU jB _ H' Q us' cs' ⟨(show σ' 2=_ from u2.trans aH),(show σ' 4=_ from u4.trans aH),(show σ' 6=_ from u6.trans aH),(show σ' 7=_ from u7.trans aH),(nm o4 l41 Gb).trans h43,(nm o6 l61 Em).trans h63,(nm o7 l71 vI).trans p7,Nat.lt_of_lt_of_le (Xf _ l41) g2.1,Nat.lt_of_lt_of_le (Xf _ l61) g2.1,Nat.lt_of_lt_of_le (Xf _ l71) g2.1,hS.n47,hS.n67,rU3.hf g2 f6,g1,f6,Mr,Jz,Al,Gb,Em,vI⟩ (show σ' 37=_ from u37.trans aH) (show σ' 38=_ from u38.trans aH) aH h hQ
  · cases h;refine aj ?_;exact hQ vU vB iU iB _ _ ⟨aH,aH,aH,aH,hS.h4,hS.h6,hS.h7,hS.l4,hS.l6,hS.l7,hS.n47,hS.n67,hS.rU,hS.rB,hS.dj,hS.Mr,hS.Jz,hS.Al,hS.Gb,hS.Em,hS.vI⟩
abbrev arA:List Nat:=[0,1,3,0,8,24,63,127,0]
abbrev abq:List (aI×Bool):=[(oF 79 1 7,false),(oL 80 1 79,false),(oC 81 202 [(.t 80)],true),(oF 82 2 7,false),(oL 83 1 82,false),(oR 84 (.Ci 1 [(.t 83)]),false),(⟨(some 85),(.n (.app 1 8 (.t 81) (.t 84))),none⟩,true),(oN 86 85,false),(oI 87 0,false)]
def Nn (vB:PV) (m num:Int) (o7:Nat) (r:Nat->PV):Nat->PV
 |0=> .ref o7 1
 |1=>vB
 |2=>r 2
 |3=> .ref o7 2
 |4=> .int .i64 num
 |5=> .ah [[.int .i64 num]] .exact
 |6=>r 6
 |7=> .int .i64 m
 |8=> .int .i64 0
 |_=>ud
theorem aer {cs:List Int} {vU vB:PV} {iB:List Nat} {num:Int} {bad:PV} {o7:Nat} {σ:Nat->PV} {H:AH} {post:List aI} {s:List Fm} {Q:Post} (s7:σ 7= .ref o7 0) (h7:H.obj o7=some [vU,vB,.int .i64 num,bad]) (l7:o7<H.next)
 (rB:Rz H aK cs vB iB) (hc:cs.length<=1000000)
 (hK: ∀(w:PV) (j:List Nat) (H':AH) (σ':Nat->PV),HF [] H H'->aG H' aK 1 (cs++[num]) w j->Nw H [] j->
  (σ' 85=w/\σ' 86= .int .i64 (cs++[num]).length/\σ' 87= .int .i64 0/\σ' 7=σ 7/\σ' 6=σ 6)->WO Tryz.prog post s Q σ' H'):WS Tryz.prog (.su arA abq post) s Q σ H:=by
 refine Mq [2,6] (by kernel_rfl) (Nn vB (cs++[num]).length num o7) (fun rem r H'=>(rem=[2,6]/\H'=H)\/
  (rem=[6]/\ ∃j,aG H' aK 1 cs (r 2) j/\Nw H [] j/\HF [] H H')\/
  (rem=[]/\ ∃j,aG H' aK 1 (cs++[num]) (r 6) j/\Nw H [] j/\HF [] H H')) (fun r j hj=> ?_) (fun r r' i h=> ?_) ⟨fun _=>ud,.inl ⟨rfl,rfl⟩⟩ ?_ ?_ ?_
 · rcases(show j=2\/j=6 by simpa using hj)with rfl|rfl<;>rfl
 · unfold Nn;split<;>first|rfl|exact h _ (by simp) (.inr rfl)
 · have key: ∀rem r H',H'.obj o7=some [vU,vB,.int .i64 num,bad]->(6∈rem\/zA (r 6)=some (.int .i64 (cs++[num]).length))->Ht Tryz.prog H' (Hu arA [2,6] rem) 0 abq (Nn vB (cs++[num]).length num o7 r) σ:=by
    intro rem r H' h7' h6;refine⟨.inr (.inr ?_),.inr (.inr ?_),.inl rfl,.inr (.inr ?_),.inr (.inr ?_),.inr (.inr ?_),.inl rfl,.inr ?_,.inr (.inr ?_),trivial⟩
    all_goals try simp -implicitDefEqProofs only [KW,d9,go_sem,Nn,s7,h7',Nat.reduceAdd,and_self]
    rcases h6 with h6|h6
    · exact .inl (by unfold Hu;rw [Bool.or_eq_true];exact .inl (List.any_eq_true.2 ⟨6,h6,by decide+kernel⟩))
    · simp -implicitDefEqProofs only [KW,d9,go_sem,Nn,h6,Nat.reduceAdd,and_self,or_true]
   rintro rem r H' (⟨rfl,rfl⟩|⟨rfl,j,g1,g2,g3⟩|⟨rfl,j,g1,g2,g3⟩)
   · exact key _ _ _ h7 (.inl (by simp))
   · exact key _ _ _ ((g3.2 o7 l7 List.not_mem_nil).trans h7) (.inl (by simp))
   · exact key _ _ _ ((g3.2 o7 l7 List.not_mem_nil).trans h7) (.inr g1.O1)
 · rintro rem r H' j o (⟨rfl,rfl⟩|⟨rfl,i1,g1,g2,g3⟩|⟨rfl,i1,g1,g2,g3⟩) hj ho hb
   · have hj4:j=2:=by
      rcases(show j=2\/j=6 by simpa using hj)with rfl|rfl
      · rfl
      · rcases hb 2 (by simp)with h|h
        · exact absurd h (by decide+kernel)
        · cases h
     subst hj4;obtain rfl:oC 81 202 [(.t 80)]=o:=(Prod.mk.inj (Option.some.inj ho)).1;refine⟨trivial,?_⟩;show bg Tryz.prog 202 [bT abq (Nn vB (cs++[num]).length num o7 r) σ 2 80] H' _;rw [show bT abq (Nn vB (cs++[num]).length num o7 r) σ 2 80=vB from rfl];exact bg.mono (ajf cs hc rB) fun p H2 ⟨i2,a1,a2,a3,a4⟩=>⟨fun s=>if s=2 then p else r s,rfl,fun s hs=>if_neg hs,.inr (.inl ⟨rfl,i2,a1.1,a2,a3⟩)⟩
   · obtain rfl:j=6:=by simpa using hj
     obtain rfl:(⟨(some 85),(.n (.app 1 8 (.t 81) (.t 84))),none⟩:aI)=o:=(Prod.mk.inj (Option.some.inj ho)).1;refine⟨trivial,kC (fun p H2 ⟨i2,a1,a2,a3,a4⟩=>⟨fun s=>if s=6 then p else r s,rfl,fun s hs=>if_neg hs,.inr (.inr ⟨rfl,i2,a1,?_,?_⟩)⟩) (Kz (f:=aK) sK cs [num] .exact rfl g1 rfl (by simp) (by simp only [List.length_cons,List.length_nil];omega))⟩
     · exact Nw.trans g2 g3.1 a2
     · refine⟨Nat.le_trans g3.1 a3.1,fun i hi hm=>(a3.2 i (Nat.lt_of_lt_of_le hi g3.1) (fun h=> ?_)).trans (g3.2 i hi hm)⟩;rcases g2 i h with q|q
       · cases q
       · omega
   · cases hj
 · rintro r H' (⟨h,_⟩|⟨h,_⟩|⟨_,j,g1,g2,g3⟩)
   · cases h
   · cases h
   · exact hK (r 6) j H' _ g3 g1 g2 ⟨rfl,rfl,rfl,rfl,rfl⟩
def qg:Nat->List Int->Bool->Int->Option Bool
 |0,_,_,_=>none
 |k+1,l,b,i=>cond (decide (i<(l.length:Int))) (if 0<=i then (l[i.toNat]?).bind fun n=>cond b (qg k l true (IntKind.wrap .i64 (i+1))) ((k_in n (-1000000000) 1000000000).bind fun p=>qg k l (!p) (IntKind.wrap .i64 (i+1)))else none) (some b)
theorem afW (l:List Int) (w vU vB:PV) (j:List Nat) (num:Int) (o6 o7:Nat): ∀(k:Nat) (b:Bool) (i:Int) (σ:Nat->PV) (H:AH) (Q:Post) (b':Bool),σ 85=w->σ 86= .int .i64 l.length->σ 87= .int .i64 i->σ 7= .ref o7 0->σ 6= .ref o6 0->H.obj o7=some [vU,vB,.int .i64 num,.bool b]->aG H aK 1 l w j->o7∉j->o7<H.next->
 qg k l b i=some b'->(∀(σ':Nat->PV) (H':AH),HF [o7] H H'->H'.obj o7=some [vU,vB,.int .i64 num,.bool b']->σ' 7= .ref o7 0->σ' 6= .ref o6 0->Q (.exit 2) σ' H')->W Tryz.prog (.loop Kp.U8) Q σ H:=by
 intro k
 induction k with
 |zero=>intro b i σ H Q b' s85 s86 s87 s7 s6 h7 hr n7 l7 h hQ;simp only [qg,reduceCtorEq]at h
 |succ k ih=>
  intro b i σ H Q b' s85 s86 s87 s7 s6 h7 hr n7 l7 h hQ;unfold qg at h;refine bA (fun K hK=>aJ ?_);unfold Kp.U8;obtain⟨e1,h⟩|⟨e1,h⟩:=aA h
  · obtain⟨e2,h⟩:=aZ h;obtain⟨n,e3,h⟩:=ak h;obtain⟨id,C,hid,hlt,hC,hcell,hL,hD,hI⟩:=aG.content hr e3;have hx:jR 1 w (.int .i64 i)=some (.ref id i.toNat):=by simpa using hI .i64 i e2 rfl
    have hcc:C[i.toNat]? =some (.int .i64 n):=by simpa using hcell 0 _ rfl
    have n7':o7≠id:=fun e=>n7 (by rw [hid,e];simp);have step: ∀(p:Bool) (σ':Nat->PV),(σ' 85=w/\σ' 86= .int .i64 l.length/\σ' 87= .int .i64 (IntKind.wrap .i64 (i+1))/\σ' 7= .ref o7 0/\σ' 6= .ref o6 0)->qg k l p (IntKind.wrap .i64 (i+1))=some b'->K σ' (H.put o7 [vU,vB,.int .i64 num,.bool p]):=by
     intro p σ' ⟨t85,t86,t87,t7,t6⟩ h;refine hK _ _ ?_;have pf:HF [o7] H (H.put o7 [vU,vB,.int .i64 num,.bool p]):=HF.put (.inl (by simp)) (HF.refl _ _);refine ih p _ σ' _ Q b' t85 t86 t87 t7 t6 (if_pos rfl) (hr.hf pf (fun x hx hm=>n7 (List.mem_singleton.1 hm▸hx))) n7 l7 h (fun σ2 H2 g1 g2 g3 g4=>hQ σ2 H2 (pf.tr g1) g2 g3 g4)
    obtain⟨e4,h⟩|⟨e4,h⟩:=aA h
    · subst e4;refine aj ?_;first|trivial|exact step true _ ⟨aH,aH,aH,aH,aH⟩ h
    · subst e4;obtain⟨p,e5,h⟩:=ak h;refine aj ?_;refine au (alQ e5) ?_;refine aj ?_;first|trivial|exact step (!p) _ ⟨aH,aH,aH,aH,aH⟩ h
  · cases h;refine aj ?_;exact hQ _ _ (HF.refl _ _) h7 aH aH
def fJ (k:Nat) (f g:Fo) (t:Int):Option Fo:=
 if f.us.length<=1000000/\f.cs.length<=1000000 then
  cond (f.bad||g.bad) (some ⟨f.us,f.cs,IntKind.wrap .i64 (f.num+IntKind.wrap .i64 (t*g.num)),true⟩)
   ((tV k g t f.us f.cs 0).bind fun p=>if p.2.length<=1000000 then (qg k (p.2++[IntKind.wrap .i64 (f.num+IntKind.wrap .i64 (t*g.num))]) false 0).bind fun b=>some ⟨p.1,p.2,IntKind.wrap .i64 (f.num+IntKind.wrap .i64 (t*g.num)),b⟩else none)else none
theorem kD {k:Nat} {f g:Fo} {t:Int} {r:Fo} (h:fJ k f g t=some r):aD Tryz.prog 144 [(.agg f.cells),(.agg g.cells),(.int .i64 t)] (.agg r.cells):=by
 refine aD.bH (dA.mem (.cons (.agg _ (Fo.pu _)) (.cons (.agg _ (Fo.pu _)) (.cons (.int _ _) .nil)))) (aM Kp.aCu (by simp) (aJ ?_)) (.agg _ (Fo.pu _));unfold fJ at h;unfold Kp.arq;obtain⟨⟨hu,hc⟩,h⟩:=aZ h;refine aj ?_;have e3:(((AH.empty.new f.cells).new g.cells).new tT).obj AH.empty.next=some f.cells:=rfl;have e4:(((AH.empty.new f.cells).new g.cells).new tT).obj (AH.empty.next+1)=some g.cells:=rfl;have e6:(((AH.empty.new f.cells).new g.cells).new tT).obj (AH.empty.next+2)=some tT:=rfl;have en:(((AH.empty.new f.cells).new g.cells).new tT).next=AH.empty.next+3:=rfl;show WS Tryz.prog (.su azm Y2 _) _ _ _ (((AH.empty.new f.cells).new g.cells).new tT);generalize((AH.empty.new f.cells).new g.cells).new tT=H1 at e3 e4 e6 en⊢;generalize AH.empty.next=o3 at e3 e4 e6 en⊢;refine afU (f:=f) (g:=g) (t:=t) (o3:=o3) (o4:=o3+1) aH aH aH e3 e4 (by omega) (by omega) hu hc (fun vU vB iU iB o7 H2 σ2 g1 g2 g3 g4 g5 g6 g7 g8 g9 g10 g11 s7 s32 s2 s4 s6=> ?_);have v2:σ2 2= .int .i64 t:=s2.trans aH;have v4:σ2 4= .ref (o3+1) 0:=s4.trans aH;have v6:σ2 6= .ref (o3+2) 0:=s6.trans aH;have f4:=(g1.2 (o3+1) (by omega) List.not_mem_nil).trans e4;have f6:=(g1.2 (o3+2) (by omega) List.not_mem_nil).trans e6;have n47: ¬o3+1=o7:=by omega
 have n67: ¬o3+2=o7:=by omega
 have oU:=g2.1.one;have oB:=g3.1.one;have nU: ∀x,x<H1.next->x∉iU/\x∉iB:=fun x hx=>⟨fun h=>by rcases g4 x h with q|q;cases q;omega,fun h=>by rcases g5 x h with q|q;cases q;omega⟩
 obtain⟨eb,h⟩|⟨eb,h⟩:=aA h
 · cases h;refine aj ?_;have d: ∀j,(o7∉j)->(o3+2∉j)->Dj j [o7,o3+2]:=fun j h1 h2 x hx hm=>by
    rcases List.mem_cons.1 hm with rfl|hm
    · exact h1 hx
    · exact h2 (List.mem_singleton.1 hm▸hx)
   have pf: ∀a b,HF [o7,o3+2] H2 ((H2.put o7 a).put (o3+2) b):=fun a b=>HF.put (.inl (by simp)) (HF.put (.inl (by simp)) (HF.refl _ _));exact dU (.cons ((g2.hf (pf _ _) (d _ g10 (nU _ (by omega)).1)).fz (fA Nd.pu)) (.cons ((g3.hf (pf _ _) (d _ g11 (nU _ (by omega)).2)).fz cZ) (dz (.cons (.pure _ (.bool _)) .nil))))
 · obtain⟨p,e7,h⟩:=ak h;obtain⟨e8,h⟩:=aZ h;obtain⟨b,e9,h⟩:=ak h;cases h;refine aj ?_;have pf: ∀a,HF [o7] H2 (H2.put o7 a):=fun a=>HF.put (.inl (by simp)) (HF.refl _ _);have d: ∀j,(o7∉j)->Dj j [o7]:=fun j h1 x hx hm=>h1 (List.mem_singleton.1 hm▸hx);have lt2:=g1.1;refine afV g t _ (o3+1) (o3+2) o7 k f.us f.cs 0 vU vB iU iB _ _ _ p.1 p.2 ⟨aH,aH,aH,aH,((pf _).2 _ (by omega) (by simpa using n47)).trans f4,((pf _).2 _ (by omega) (by simpa using n67)).trans f6,if_pos rfl,(show _<H2.next by omega),(show _<H2.next by omega),g8,n47,n67,g2.hf (pf _) (d _ g10),g3.hf (pf _) (d _ g11),g6,(nU _ (by omega)).1,(nU _ (by omega)).1,g10,(nU _ (by omega)).2,(nU _ (by omega)).2,g11⟩ aH aH aH e7 (fun wU wB jU jB σ3 H3 S=> ?_);have t7:=S.s7;have t6:=S.s6;refine aj ?_;refine aer t7 S.h7 S.l7 S.rB e8 (fun w j H4 Qk k1 k2 k3 ⟨u85,u86,u87,u7,u6⟩=> ?_);have x7:Qk 7= .ref o7 0:=u7.trans t7;have x6:Qk 6= .ref (o3+2) 0:=u6.trans t6;have h74:=(k1.2 o7 S.l7 List.not_mem_nil).trans S.h7;have h64:=(k1.2 (o3+2) S.l6 List.not_mem_nil).trans S.h6;have n7j:o7∉j:=fun h=>by
    rcases k3 o7 h with q|q
    · cases q
    · have:=S.l7;omega
   refine aj ?_;refine afW (p.2++[_]) w wU wB j _ (o3+2) o7 k false 0 Qk H4 _ b u85 u86 u87 x7 x6 h74 k2 n7j (Nat.lt_of_lt_of_le S.l7 k1.1) e9 (fun WW H5 m1 m2 m3 m4=> ?_);have h65:=(m1.2 (o3+2) (Nat.lt_of_lt_of_le S.l6 k1.1) (by simpa using n67)).trans h64;have oU':=S.rU.1.one;have oB':=S.rB.1.one;refine aj ?_;have rU5:=(S.rU.hf k1 Dj.nil.symm).hf m1 (d _ S.Al);have rB5:=(S.rB.hf k1 Dj.nil.symm).hf m1 (d _ S.vI);have pf5: ∀a,HF [o3+2] H5 (H5.put (o3+2) a):=fun a=>HF.put (.inl (by simp)) (HF.refl _ _);have d6: ∀j,(o3+2∉j)->Dj j [o3+2]:=fun j h1 x hx hm=>h1 (List.mem_singleton.1 hm▸hx);exact dU (.cons ((rU5.hf (pf5 _) (d6 _ S.Jz)).fz (fA Nd.pu)) (.cons ((rB5.hf (pf5 _) (d6 _ S.Em)).fz cZ) (dz (.cons (.pure _ (.bool _)) .nil))))
end Go.VL
end
section
namespace Go.VL
def vW {α:Type} (p:α->Bool):List α->Int->Int
 |[],_=> -1
 |x::l,i=>if p x=true then i else vW p l (i+1)
theorem Mt {α:Type} {p:α->Bool}: ∀{l:List α} {i:Int},(vW p l i= -1/\ ∀x∈l,p x=false)\/ ∃j:Nat,∃x,l[j]? =some x/\p x=true/\vW p l i=i+j
 |[],i=> .inl ⟨rfl,fun x h=>by cases h⟩
 |x::l,i=>by
  cases hx:p x with
  |true=>exact .inr ⟨0,x,rfl,hx,by simp [vW,hx]⟩
  |false=>
   rcases Mt (p:=p) (l:=l) (i:=i+1)with⟨h1,h2⟩|⟨j,y,h1,h2,h3⟩
   · refine .inl ⟨by simpa [vW,hx]using h1,fun y hy=> ?_⟩;rcases List.mem_cons.1 hy with rfl|hy
     · exact hx
     · exact h2 y hy
   · refine .inr ⟨j+1,y,h1,h2,?_⟩;simp only [vW,hx,Bool.false_eq_true,if_false,h3];omega
theorem atx {us:List (List Nd)} {u:List Nd} (hl: ∀x∈us,Gd x) (hu:Gd u) (hn:us.length<=1099511627776):Ev (fun k=>nK k us u) (vW (fun x=>rX x u) us 0):=by
 have key2: ∃o:Unit⊕Int,Ev (fun k=>gL k us u (us.length:Int) ((0:Nat):Int)) o/\(Sum.elim (fun _=>(-1:Int)) id o=vW (fun x=>rX x u) (us.drop 0) ((0:Nat):Int)):=by
  refine gF (len:=us.length) (p:=fun i=> ∃o:Unit⊕Int,Ev (fun k=>gL k us u (us.length:Int) (i:Int)) o/\(Sum.elim (fun _=>(-1:Int)) id o=vW (fun x=>rX x u) (us.drop i) (i:Int))) ?_ fun i hi ih=> ?_
  · refine⟨.inl (),Ev.succ ?_,by simp [vW]⟩;simp only [gL];exact Ev.cF (fT _) Ev.some
  · have ha:Ev (fun k=>Jy k us[i] u) (rX us[i] u):=by
     unfold Jy;exact Ev.bind (ajc (hl _ (List.getElem_mem hi)) hu) Ev.some
    cases hc:rX us[i] u with
    |true=>
     refine⟨.inr (i:Int),Ev.succ ?_,by rw [drop_cons hi];simp [vW,hc]⟩;simp only [gL,Int.toNat_natCast,aW hi,Option.bind_some,nn,if_true,gP hi,cond_true];exact Ev.bind ha (Ev.cT hc Ev.some)
    |false=>
     obtain⟨o,ho,hd⟩:=ih;refine⟨o,Ev.succ ?_,by rw [drop_cons hi,hd];simp only [vW,hc,Bool.false_eq_true,if_false];rfl⟩;simp only [gL,Int.toNat_natCast,aW hi,Option.bind_some,nn,if_true,gP hi,cond_true,dw hi hn];exact Ev.bind ha (Ev.cF hc ho)
 obtain⟨o,ho,h⟩:=key2;rw [List.drop_zero]at h;unfold nK;refine Ev.bind ho ?_;have h':vW (fun x=>rX x u) us 0=Sum.elim (fun _=>(-1:Int)) id o:=h.symm;rw [h'];cases o<;>exact Ev.some
noncomputable def Ap (t:Int) (s:List (List Nd)×List Int) (x:List Nd×Int):List (List Nd)×List Int:=
 if vW (fun o=>rX o x.1) s.1 0<0 then(s.1++[x.1],s.2++[IntKind.wrap .i64 (0+IntKind.wrap .i64 (t*x.2))])
 else(s.1,s.2.set (vW (fun o=>rX o x.1) s.1 0).toNat (IntKind.wrap .i64 ((s.2[(vW (fun o=>rX o x.1) s.1 0).toNat]?).getD 0+IntKind.wrap .i64 (t*x.2))))
noncomputable def En (f g:Fo) (t:Int):List (List Nd)×List Int:=(g.us.zip g.cs).foldl (Ap t) (f.us,f.cs)
structure Uk (us:List (List Nd)) (cs:List Int) (n:Nat):Prop where
 gd: ∀x∈us,Gd x
 un:us.Pairwise fun a b=>rX a b=false
 len:cs.length=us.length
 le:us.length<=n
theorem Y4 {t:Int} {us:List (List Nd)} {cs:List Int} {n:Nat} {x:List Nd×Int} (h:Uk us cs n) (hx:Gd x.1):Uk (Ap t (us,cs) x).1 (Ap t (us,cs) x).2 (n+1):=by
 unfold Ap
 dsimp only
 rcases Mt (p:=fun o=>rX o x.1) (l:=us) (i:=0)with⟨h1,h2⟩|⟨j,y,h1,h2,h3⟩
 · rw [h1,if_pos (by decide)];refine⟨fun y hy=> ?_,?_,by simp [h.len],by simp;exact h.le⟩
   · rcases List.mem_append.1 hy with hy|hy
     · exact h.gd y hy
     · rw [List.mem_singleton.1 hy];exact hx
   · rw [List.pairwise_append];refine⟨h.un,List.pairwise_singleton _ _,fun a ha b hb=> ?_⟩;rw [List.mem_singleton.1 hb];exact h2 a ha
 · rw [h3,if_neg (by omega)];exact⟨h.gd,h.un,by simp [h.len],Nat.le_succ_of_le h.le⟩
theorem Np {t:Int}: ∀{l:List (List Nd×Int)} {us:List (List Nd)} {cs:List Int} {n:Nat},Uk us cs n->(∀x∈l,Gd x.1)->Uk (l.foldl (Ap t) (us,cs)).1 (l.foldl (Ap t) (us,cs)).2 (n+l.length)
 |[],us,cs,n,h,_=>h
 |x::l,us,cs,n,h,hl=>by
  have:=Np (t:=t) (l:=l) (Y4 (t:=t) h (hl x (List.mem_cons_self ..))) fun y hy=>hl y (List.mem_cons_of_mem _ hy);rw [List.foldl_cons,List.length_cons,show n+(l.length+1)=n+1+l.length by omega];exact this
def wide (l:List Int):Bool:=l.any fun n=> !(decide (-1000000000<=n)&&decide (n<=1000000000))
noncomputable def dR (f g:Fo) (t:Int):Fo:=
 if(f.bad||g.bad)=true then⟨f.us,f.cs,IntKind.wrap .i64 (f.num+IntKind.wrap .i64 (t*g.num)),true⟩
 else⟨(En f g t).1,(En f g t).2,IntKind.wrap .i64 (f.num+IntKind.wrap .i64 (t*g.num)),wide ((En f g t).2++[IntKind.wrap .i64 (f.num+IntKind.wrap .i64 (t*g.num))])⟩
abbrev Eo (f:Fo) (n:Nat):Prop:=Uk f.us f.cs n
theorem alZ {g:Fo} {n:Nat} (hg:Eo g n): ∀x∈g.us.zip g.cs,Gd x.1:=fun x hx=>hg.gd _ (List.of_mem_zip hx).1
theorem lG {f g:Fo} {t:Int} {a b:Nat} (hf:Eo f a) (hg:Eo g b):Eo (dR f g t) (a+b):=by
 unfold dR;split
 · exact⟨hf.gd,hf.un,hf.len,Nat.le_trans hf.le (Nat.le_add_right _ _)⟩
 · have h:=Np (t:=t) hf (alZ hg);refine⟨h.gd,h.un,h.len,Nat.le_trans h.le ?_⟩;rw [List.length_zip,hg.len,Nat.min_self];exact Nat.add_le_add_left hg.le _
theorem aes {g:Fo} {t:Int} {b:Nat} (hg:Eo g b) (hb:b<=1000): ∀(us:List (List Nd)) (cs:List Int) (a:Nat),Uk us cs a->a+b<=100000->Ev (fun k=>tV k g t us cs ((0:Nat):Int)) ((g.us.zip g.cs).foldl (Ap t) (us,cs)):=by
 have hn:g.us.length<=1099511627776:=by have:=hg.le;omega
 have key:=gF (len:=g.us.length) (p:=fun i=> ∀(us:List (List Nd)) (cs:List Int) (a:Nat),Uk us cs a->a+(g.us.length -i)<=100000->Ev (fun k=>tV k g t us cs (i:Int)) (((g.us.zip g.cs).drop i).foldl (Ap t) (us,cs))) (fun us cs a h ha=>by
  refine Ev.succ ?_;simp only [tV];refine Ev.cF (fT _) (Ev.some' ?_);rw [List.drop_of_length_le (by rw [List.length_zip];omega)];rfl) fun i hi ih us cs a h ha=>by
  have hi2:i<g.cs.length:=by rw [hg.len];exact hi
  have hz:i<(g.us.zip g.cs).length:=by rw [List.length_zip];omega
  refine Ev.succ ?_;have hl:=h.le;have hlen:=h.len;simp only [tV,Int.toNat_natCast,aW hi,aW hi2,Option.bind_some,nn,if_true,gP hi,cond_true,dw hi hn];refine Ev.lg ⟨by omega,by omega⟩ (Ev.bind (atx h.gd (hg.gd _ (List.getElem_mem hi)) (by omega)) ?_);have hst:Ev (fun k=>cond (decide (vW (fun x=>rX x g.us[i]) us 0<0)) (zl (us++[g.us[i]]) (cs++[0]) (cs.length:Int) (IntKind.wrap .i64 (t*g.cs[i]))) (zl us cs (vW (fun x=>rX x g.us[i]) us 0) (IntKind.wrap .i64 (t*g.cs[i])))) (Ap t (us,cs) (g.us[i],g.cs[i])):=by
   unfold Ap
   dsimp only
   rcases Mt (p:=fun o=>rX o g.us[i]) (l:=us) (i:=0)with⟨h1,h2⟩|⟨j,y,h1,h2,h3⟩
   · rw [h1,if_pos (by decide)];refine Ev.cT (by decide) (Ev.of_eq ?_);unfold zl;simp
   · have hj:j<cs.length:=by rw [hlen];exact(List.getElem?_eq_some_iff.1 h1).1
     rw [h3,if_neg (by omega),Int.zero_add];refine Ev.cF (decide_eq_false (by omega)) (Ev.of_eq ?_);unfold zl;simp [aW hj]
  refine Ev.bind hst ?_;rw [drop_cons hz,List.foldl_cons,List.getElem_zip];have hu:=Y4 (t:=t) (x:=(g.us[i],g.cs[i])) h (hg.gd _ (List.getElem_mem hi));exact ih _ _ _ hu (by omega)
 intro us cs a h ha;have:=key us cs a h (by have:=hg.le;omega)
 rwa [List.drop_zero]at this
theorem aty (n:Int):Ev (fun k=>k_in n (-1000000000) 1000000000) (decide (-1000000000<=n)&&decide (n<=1000000000)):=by
 unfold k_in;by_cases h:n>= -1000000000
 · exact Ev.cT (decide_eq_true h) (Ev.some' (by simp [h]))
 · exact Ev.cF (decide_eq_false h) (Ev.some' (by simp;omega))
theorem aeu (l:List Int) (hn:l.length<=1099511627776):Ev (fun k=>qg k l false ((0:Nat):Int)) (wide l):=by
 have key:=gF (len:=l.length) (p:=fun i=> ∀b,Ev (fun k=>qg k l b (i:Int)) (b||wide (l.drop i))) (fun b=>by
  refine Ev.succ ?_;simp only [qg];exact Ev.cF (fT _) (Ev.some' (by simp [wide]))) fun i hi ih b=>by
  refine Ev.succ ?_;simp only [qg,Int.toNat_natCast,aW hi,Option.bind_some,nn,if_true,gP hi,cond_true,dw hi hn];cases b with
  |true=>exact Ev.cT rfl ((ih true).to (by simp))
  |false=>
   refine Ev.cF rfl (Ev.bind (aty _) ((ih _).to ?_));rw [drop_cons hi,Bool.false_or];unfold wide;rw [List.any_cons]
 have:=key false
 rwa [List.drop_zero,Bool.false_or]at this
theorem jN {f g:Fo} {t:Int} {a b:Nat} (hf:Eo f a) (hg:Eo g b) (ha:a<=20000) (hb:b<=1000):Ev (fun k=>fJ k f g t) (dR f g t):=by
 have h1:=hf.le;have h2:=hf.len;unfold fJ dR;refine Ev.lg ⟨by omega,by omega⟩ ?_;cases hc:f.bad||g.bad with
 |true=>exact Ev.cT rfl (Ev.some' (by simp))
 |false=>
  have hu:=Np (t:=t) hf (alZ hg);have hl:(En f g t).2.length<=30000:=by
   have e1:=hu.len;have e2:=hu.le;have e3:(g.us.zip g.cs).length<=b:=by rw [List.length_zip];have:=hg.le;omega
   show((g.us.zip g.cs).foldl (Ap t) (f.us,f.cs)).2.length<=30000
   omega
  refine Ev.cF rfl (Ev.bind (aes hg hb f.us f.cs a hf (by omega)) ?_);refine Ev.lg (show(En f g t).2.length<=1000000 by omega) (Ev.bind (aeu _ (by simp only [List.length_append,List.length_cons,List.length_nil];show(En f g t).2.length+_<=_;omega)) (Ev.some' ?_));rw [if_neg (by simp)];rfl
end Go.VL
end
section
namespace Go.VL
open Tm
theorem al0 {b:Nat} {acc0:List Int} (h0:acc0.length=b) (cs:List Tm): ∀(k:Nat) (l:List Tm) (m:List Tm),l.length=k->cs=l++m->tF (acc0++lQ b cs) ((b+sizes l:Nat):Int) (roots b l).reverse=true:=by
 intro k
 induction k with
 |zero=>
  intro l m hl _;rw [List.eq_nil_of_length_eq_zero hl];rfl
 |succ k ih=>
  intro l' m hl e;rcases List.eq_nil_or_concat l' with rfl|⟨l,t,rfl⟩
  · cases hl
  rw [List.concat_eq_append]at*;have hp:=t.size_pos;rw [zf,List.reverse_append];simp only [roots,List.reverse_cons,List.reverse_nil,List.nil_append,List.singleton_append];have hs:sizes (l++[t])=sizes l+t.size:=by rw [dJ,rD]
  have hg:=L9 (b:=b) (l:=l) (m:=m) (t:=t);have e2:cs=l++t::m:=by rw [e];simp
  rw [<-e2]at hg;have hx:(((b+sizes (l++[t]):Nat):Int) -1).toNat=b+sizes l+t.size -1:=by rw [hs];omega
  unfold tF;rw [hx,List.getElem?_append_right (by omega),h0,show b+sizes l+t.size -1 -b=sizes l+t.size -1 by omega,hg];have h1:decide ((((b+sizes l+t.size -1:Nat):Int))=((b+sizes (l++[t]):Nat):Int) -1)=true:=decide_eq_true (by rw [hs];omega);have h2:decide ((1:Int)<=((b+sizes (l++[t]):Nat):Int))=true:=decide_eq_true (by rw [hs];omega);rw [h1,h2,Bool.true_and,Bool.true_and];exact ih l (t::m) (by simpa using hl) e2
theorem atz {b:Nat} {acc0:List Int} (h0:acc0.length=b) (x:Nd) (cs:List Tm):xO (acc0++lQ b cs) (nd x b cs)=(b:Int):=by
 cases cs with
 |nil=>simp [xO,nd,roots,lQ,h0]
 |cons c cs=>
  have hp:=c.size_pos;have hg:=L9 (b:=b) (l:=[]) (m:=cs) (t:=c);simp only [List.nil_append,sizes,Nat.zero_add,Nat.add_zero]at hg;simp only [xO,nd,roots,Int.toNat_natCast];rw [List.getElem?_append_right (by omega),h0,show b+c.size -1 -b=c.size -1 by omega,hg];rfl
mutual
theorem aev: ∀(t:Tm) (b:Nat) (acc:List Int) (rest:List Nd),acc.length=b->(∀n∈flat b t,bV true n=0)->jA acc (flat b t++rest)=jA (acc++Rw b t) rest
 | .mk x cs,b,acc,rest,h,hn=>by
  rw [lF]at hn⊢;rw [List.append_assoc,ahf cs b acc _ h (fun n hm=>hn n (List.mem_append_left _ hm)),Wp,List.singleton_append,jA];have hl:((acc++lQ b cs).length:Int)=((b+sizes cs:Nat):Int):=by rw [List.length_append,uL,h]
  have hp:tF (acc++lQ b cs) ((acc++lQ b cs).length:Int) (nd x b cs).args.reverse=true:=by
   rw [hl];exact al0 h cs _ cs [] rfl (by simp)
  rw [hp,if_neg (fun k=>k (hn _ (by simp))),atz h,List.append_assoc]
theorem ahf: ∀(cs:List Tm) (b:Nat) (acc:List Int) (rest:List Nd),acc.length=b->(∀n∈bn b cs,bV true n=0)->jA acc (bn b cs++rest)=jA (acc++lQ b cs) rest
 |[],b,acc,rest,h,hn=>by simp [bn,lQ]
 |c::cs,b,acc,rest,h,hn=>by
  rw [iZ]at hn⊢;rw [List.append_assoc,aev c b acc _ h (fun n hm=>hn n (List.mem_append_left _ hm)),ahf cs (b+c.size) _ rest (by rw [List.length_append,YN,h]) (fun n hm=>hn n (List.mem_append_right _ hm))];rw [show lQ b (c::cs)=Rw b c++lQ (b+c.size) cs by rw [lQ],List.append_assoc]
end
theorem Nq {e:List Nd} {U:List (Int×Int)}: ∀(m i:Nat),zX e U m i=none↔ ∀j,i<=j->j<i+m->D7 e U j=false
 |0,i=>⟨fun _ j h1 h2=>by omega,fun _=>rfl⟩
 |m+1,i=>by
  rw [zX];cases hl:D7 e U i with
  |true=>exact⟨fun h=>by simp at h,fun h=>by have:=h i (Nat.le_refl _) (by omega);rw [hl]at this;cases this⟩
  |false=>
   rw [if_neg (by simp),Nq m (i+1)];exact⟨fun h j h1 h2=>if hj:j=i then hj▸hl else h j (by omega) (by omega),fun h j h1 h2=>h j (by omega) (by omega)⟩
theorem aCw {t:Tm} (hf:nX (flat 0 t)=true) (hn: ∀n∈flat 0 t,bV true n=0) (hl:t.size<=160) (ajg: ∀i,i<t.size->D7 (flat 0 t) (nW 0 (-1) 0 t) i=false):Gd (flat 0 t):=by
 have hL:=EZ hf;have hpos:=t.size_pos;have hlen:=bG 0 t;obtain⟨r,h1,h2,h3⟩:=Wv (flat 0 t) hL;have hs:jA [] (flat 0 t)= .inl (Rw 0 t):=by
  have:=aev t 0 [] [] rfl hn;simpa [jA]using this
 have hU:U3 (flat 0 t)=nW 0 (-1) 0 t:=by
  rw [<-Kk];exact(YS (by simp [bn]) hL).symm
 have hc:chk (flat 0 t)=(0,0):=by
  unfold chk;rw [if_neg (by omega),if_neg (by omega),hs]
  dsimp only
  rw [hU,(Nq _ 0).2 fun j _ hj=>ajg j (by omega)]
  dsimp only
  rw [hlen,adj];rfl
 have hr:r=(0,0):=h1.uniq (RB hL)|>.trans hc;subst hr;refine⟨hf,h3 rfl,?_,?_⟩
 · unfold qb;exact Ev.bind h1 Ev.some
 · unfold Fx;exact Ev.bind h2 Ev.some
theorem atA {e:List Nd} (h:Gd e) {t:Tm} (he:e=flat 0 t): ∀i,i<t.size->D7 e (nW 0 (-1) 0 t) i=false:=by
 have hL:=EZ h.few;have hlen:e.length=t.size:=by rw [he,bG]
 have hpos:=t.size_pos;have hU:U3 e=nW 0 (-1) 0 t:=by
  rw [<-Kk];exact(YS (by rw [he];simp [bn]) hL).symm
 have hc:(chk e).2=0:=by
  have h1:Ev (fun k=>qb k e) (chk e).2:=by unfold qb;exact Ev.bind (RB hL) Ev.some
  exact h1.uniq h.t0
 unfold chk at hc;have:=h.val.len;rw [if_neg (by omega),if_neg (by omega)]at hc;have hs:jA [] e= .inl (Rw 0 t):=by
  have:=aev t 0 [] [] rfl (fun n hn=>by
   obtain⟨i,hi⟩:=List.mem_iff_getElem?.1 (he▸hn);exact h.val.ok i n hi)
  rw [he];simpa [jA]using this
 rw [hs]at hc
 dsimp only at hc
 rw [hU]at hc;cases hf:zX e (nW 0 (-1) 0 t) e.length 0 with
 |some j=>rw [hf]at hc;simp at hc
 |none=>exact fun i hi=>(Nq _ 0).1 hf i (Nat.zero_le _) (by omega)
mutual
theorem Vd: ∀(t:Tm) (b s:Nat) (p k p' k':Int) (i:Nat),i<t.size->(i+1=t.size/\(nW (b+s) p k t)[i]? =some (p,k)/\(nW b p' k' t)[i]? =some (p',k'))\/
 (i+1<t.size/\ ∃(P:Nat) (j:Int),i<P/\P<t.size/\(nW (b+s) p k t)[i]? =some (((b+s+P:Nat):Int),j)/\(nW b p' k' t)[i]? =some (((b+P:Nat):Int),j))
 | .mk x cs,b,s,p,k,p',k',i,hi=>by
  simp only [vG];have hsz:(Tm.mk x cs).size=sizes cs+1:=by simp only [size]
  by_cases h:i=sizes cs
  · refine .inl ⟨by omega,?_,?_⟩
    · rw [List.getElem?_append_right (by rw [fq];omega),fq,h,Nat.sub_self];rfl
    · rw [List.getElem?_append_right (by rw [fq];omega),fq,h,Nat.sub_self];rfl
  · refine .inr ⟨by omega,?_⟩;obtain⟨P,j,h1,h2,h3,h4⟩:=aat cs b s 0 (sizes cs) 0 i (by omega) (by omega);rw [Nat.add_zero]at h3 h4;refine⟨P,j,by omega,by omega,?_,?_⟩
    · rw [List.getElem?_append_left (by rw [fq];omega)];exact h3
    · rw [List.getElem?_append_left (by rw [fq];omega)];exact h4
theorem aat: ∀(cs:List Tm) (b s q N k i:Nat),i<sizes cs->q+sizes cs<=N-> ∃(P:Nat) (j:Int),q+i<P/\P<=N/\(fV (b+s+q) ((b+s+N:Nat):Int) k cs)[i]? =some (((b+s+P:Nat):Int),j)/\(fV (b+q) ((b+N:Nat):Int) k cs)[i]? =some (((b+P:Nat):Int),j)
 |[],b,s,q,N,k,i,h,_=>by simp [sizes]at h
 |c::cs,b,s,q,N,k,i,h,hN=>by
  simp only [sizes]at h hN;simp only [fV];by_cases hi:i<c.size
  · have:=Vd c (b+q) s ((b+s+N:Nat):Int) k ((b+N:Nat):Int) k i hi;rw [show b+q+s=b+s+q by omega]at this;rw [List.getElem?_append_left (by rw [gu];exact hi),List.getElem?_append_left (by rw [gu];exact hi)];rcases this with⟨h1,h2,h3⟩|⟨h1,P,j,h2,h3,h4,h5⟩
    · exact⟨N,k,by omega,Nat.le_refl _,h2,h3⟩
    · exact⟨q+P,j,by omega,by omega,by rw [h4];congr 3;omega,by rw [h5];congr 3;omega⟩
  · obtain⟨P,j,h1,h2,h3,h4⟩:=aat cs b s (q+c.size) N (k+1) (i -c.size) (by omega) (by omega);rw [List.getElem?_append_right (by rw [gu];omega),List.getElem?_append_right (by rw [gu];omega),gu,gu];refine⟨P,j,by omega,h2,?_,?_⟩
    · rw [show b+s+q+c.size=b+s+(q+c.size) by omega];exact h3
    · rw [show b+q+c.size=b+(q+c.size) by omega];exact h4
end
theorem Qt: ∀(l m:List Tm) (b:Nat) (p:Int) (k:Nat),fV b p k (l++m)=fV b p k l++fV (b+sizes l) p (k+l.length) m
 |[],m,b,p,k=>by simp [fV,sizes]
 |c::l,m,b,p,k=>by
  simp only [List.cons_append,fV,sizes,List.length_cons,Qt l m (b+c.size) p (k+1),List.append_assoc,Nat.add_assoc];rw [show 1+l.length=l.length+1 by omega]
theorem atB {l m:List Tm} {c:Tm} {x:Nd} {i:Nat} (hi:i<c.size):((flat 0 (.mk x (l++c::m)))[sizes l+i]?).map (fun n=>(n.kind,n.text))=((flat 0 c)[i]?).map fun n=>(n.kind,n.text):=by
 have hS:Seg (flat 0 (.mk x (l++c::m))) (0+sizes l) c:=(Seg.whole _).kid;rw [Nat.zero_add]at hS;obtain⟨pre,post,he,hp⟩:=hS;have hfl:=E8 (sizes l) c 0;rw [Nat.zero_add]at hfl;rw [he,List.getElem?_append_right (by omega),hp,show sizes l+i -sizes l=i by omega,List.getElem?_append_left (by rw [bG];exact hi),<-hfl,List.getElem?_map,Option.map_map];rfl
theorem afX (d:Int) (n:Nd):bV true (Qn d n)=bV true n:=by
 unfold bV qo pV qp;simp only [Qn,List.length_map];rfl
theorem atC {e:List Nd} {b:Nat} {c:Tm} (h:nX e=true) (hS:Seg e b c):nX (flat 0 c)=true:=by
 have hlt:=hS.lt;obtain⟨pre,post,rfl,rfl⟩:=hS;have hl:=(Me h).1;have hN: ∀n∈pre++(flat pre.length c++post),KS n=true:=by
  unfold nX at h;simp only [Bool.and_eq_true,decide_eq_true_eq]at h;rw [List.take_of_length_le (by omega)]at h;exact List.all_eq_true.1 h.1
 unfold nX;simp only [Bool.and_eq_true,decide_eq_true_eq];refine⟨List.all_eq_true.2 fun n hn=> ?_,by rw [bG];omega⟩;have hn:=List.mem_of_mem_take hn;have hf:=E8 pre.length c 0;rw [Nat.zero_add]at hf;rw [<-hf]at hn;obtain⟨m,hm,rfl⟩:=List.mem_map.1 hn;have:=hN m (by simp [hm]);have e:KS (Qn pre.length m)=KS m:=by unfold KS Qn;simp
 rw [e];exact this
theorem Xg {x:Nd} {l m:List Tm} {c:Tm} (h:Gd (flat 0 (.mk x (l++c::m)))) (hx:x.kind=3) (ho:(dL eG x.text).2=true\/c.root.kind≠24):Gd (flat 0 c):=by
 have ajg:=atA h rfl;have hS:Seg (flat 0 (.mk x (l++c::m))) (0+sizes l) c:=(Seg.whole _).kid;have hsz:(Tm.mk x (l++c::m)).size=sizes l+(c.size+sizes m)+1:=by simp only [size,dJ,sizes]
 have hlen:=bG 0 (Tm.mk x (l++c::m));have hvl:=h.val.len;have aew: ∀{i:Nat},i<c.size->_:=fun{i} hi=>atB (l:=l) (m:=m) (c:=c) (x:=x) (i:=i) hi;have hN:(flat 0 (.mk x (l++c::m)))[sizes (l++c::m)]? =some (nd x 0 (l++c::m)):=by
  have:=(Seg.whole (.mk x (l++c::m))).node
  rwa [Nat.zero_add]at this
 have hsN:sizes (l++c::m)=sizes l+(c.size+sizes m):=by simp only [dJ,sizes]
 generalize hW:flat 0 (.mk x (l++c::m))=W at*;have hU: ∀i,i<c.size->(nW 0 (-1) 0 (.mk x (l++c::m)))[sizes l+i]? =(nW (0+sizes l) ((sizes (l++c::m):Nat):Int) ((l.length:Nat):Int) c)[i]? :=by
  intro i hi;rw [vG,Qt,List.append_assoc,List.getElem?_append_right (by rw [fq];omega),fq,show sizes l+i -sizes l=i by omega];simp only [fV,List.append_assoc,Nat.zero_add];rw [List.getElem?_append_left (by rw [gu];exact hi)]
 have hUN:(nW 0 (-1) 0 (.mk x (l++c::m)))[sizes (l++c::m)]? =some (-1,0):=by
  rw [vG,List.getElem?_append_right (by rw [fq];exact Nat.le_refl _),fq,Nat.sub_self];rfl
 generalize hUW:nW 0 (-1) 0 (.mk x (l++c::m))=U at*;have old: ∀(m' m2 i:Nat),i<c.size->c.size<=i+m2->Ao W U m' (sizes l+i)=true->Ao (flat 0 c) (nW 0 (-1) 0 c) m2 i=true:=by
  intro m'
  induction m' with
  |zero=>intro m2 i hi hm ht;simp [Ao]at ht
  |succ m' ih=>
   intro m2 i hi hm ht;obtain⟨m2,rfl⟩: ∃q,m2=q+1:=⟨m2 -1,by omega⟩;rw [Ao,hU i hi]at ht;rcases Vd c 0 (sizes l) ((sizes (l++c::m):Nat):Int) ((l.length:Nat):Int) (-1) 0 i hi with⟨h1,h2,h3⟩|⟨h1,P,j,h2,h3,h4,h5⟩
   · rw [h2]at ht
     dsimp only at ht
     rw [if_neg (by omega),Int.toNat_natCast,hN]at ht;have hk:(nd x 0 (l++c::m)).kind=3:=hx;simp only [Option.map_some,hk,Option.some.injEq,show((3:Int)=19)=False by decide,decide_false,Bool.false_and,Bool.false_or]at ht;cases m' with
     |zero=>simp [Ao]at ht
     |succ m'=>rw [Ao,hUN]at ht;simp at ht
   · rw [h4]at ht
     dsimp only at ht
     rw [if_neg (by omega),Int.toNat_natCast,Nat.zero_add]at ht;rw [Ao,h5]
     dsimp only
     rw [if_neg (by omega),Int.toNat_natCast,Nat.zero_add];have hk:(W[sizes l+P]?.map Nd.kind)=((flat 0 c)[P]?.map Nd.kind):=by
      have:=congrArg (Option.map Prod.fst) (aew h3);simpa [Option.map_map,Function.comp_def]using this
     rw [hk,Bool.or_eq_true]at ht;rw [Bool.or_eq_true];rcases ht with ht|ht
     · exact .inl ht
     · exact .inr (ih m2 P h3 (by omega) ht)
 refine aCw (atC h.few hS) ?_ (by omega) ?_
 · intro n hn;obtain⟨i,hi⟩:=List.mem_iff_getElem?.1 hn;have hfl:=E8 (sizes l) c 0;rw [Nat.zero_add]at hfl;rw [<-hfl,List.getElem?_map,Option.map_eq_some_iff]at hi;obtain⟨n',h1,rfl⟩:=hi;rw [Nat.zero_add]at hS;obtain⟨pre,post,he,hp⟩:=hS;have hlt:=(List.getElem?_eq_some_iff.1 h1).1;have:=h.val.ok (sizes l+i) n' (by rw [he,List.getElem?_append_right (by omega),hp,show sizes l+i -sizes l=i by omega,List.getElem?_append_left hlt];exact h1);rw [<-this];exact afX _ _
 · intro i hi;have hw:=ajg (sizes l+i) (by omega);unfold D7 at hw⊢;have hnd:=aew hi;rw [hU i hi]at hw;obtain⟨n2,hn2⟩: ∃n2,(flat 0 c)[i]? =some n2:=⟨_,aW (by rw [bG];exact hi)⟩;rw [hn2]at hnd⊢;obtain⟨n1,hn1,hnk⟩:=Option.map_eq_some_iff.1 hnd;rw [hn1]at hw;have hk:n1.kind=n2.kind:=congrArg Prod.fst hnk;rcases Vd c 0 (sizes l) ((sizes (l++c::m):Nat):Int) ((l.length:Nat):Int) (-1) 0 i hi with⟨h1,h2,h3⟩|⟨h1,P,j,h2,h3,h4,h5⟩
   · rw [h2]at hw;rw [h3]
     dsimp only at hw⊢
     rw [hk]at hw;by_cases RJ:n2.kind=24
     · rcases ho with ho|ho
       · rw [if_pos RJ,if_neg (by omega),Int.toNat_natCast,hN]at hw;have e1:(nd x 0 (l++c::m)).kind=3:=hx;have e2:(nd x 0 (l++c::m)).text=x.text:=rfl;simp only [e1,e2,if_true,ho]at hw;cases hw
       · exfalso;obtain⟨y,ds⟩:=c;have:=(Seg.whole (.mk y ds)).node;rw [Nat.zero_add,show sizes ds=i by simp only [size]at h1;omega,hn2]at this;exact ho ((congrArg Nd.kind (Option.some.inj this)).symm.trans RJ)
     · rw [if_neg RJ]at hw⊢;by_cases h20:n2.kind=20
       · rw [if_pos h20,Bool.not_eq_false']at hw;rw [if_pos h20,Bool.not_eq_false'];exact old _ _ i hi (by rw [bG];omega) hw
       · rw [if_neg h20]
   · rw [h4]at hw;rw [h5]
     dsimp only at hw⊢
     rw [hk]at hw;by_cases RJ:n2.kind=24
     · rw [if_pos RJ,if_neg (by omega),Int.toNat_natCast,Nat.zero_add]at hw;rw [if_pos RJ,if_neg (by omega),Int.toNat_natCast,Nat.zero_add];have hnd:=aew h3;obtain⟨q2,hq2⟩: ∃q,(flat 0 c)[P]? =some q:=⟨_,aW (by rw [bG];exact h3)⟩;rw [hq2]at hnd⊢;obtain⟨q1,hq1,hqk⟩:=Option.map_eq_some_iff.1 hnd;rw [hq1]at hw;have a1:q1.kind=q2.kind:=congrArg Prod.fst hqk;have a2:q1.text=q2.text:=congrArg Prod.snd hqk
       dsimp only at hw⊢
       rw [a1,a2]at hw;exact hw
     · rw [if_neg RJ]at hw⊢;by_cases h20:n2.kind=20
       · rw [if_pos h20,Bool.not_eq_false']at hw;rw [if_pos h20,Bool.not_eq_false'];exact old _ _ i hi (by rw [bG];omega) hw
       · rw [if_neg h20]
abbrev Ep:Fo:=⟨[],[],0,false⟩
def isNum (f:Fo):Bool:= !f.bad&&f.cs.all fun c=>c==0
def sums:List Str:=[[45,46],[43],[45],[42]]
inductive fB:Tm->Fo->Prop
 |num {x:Nd} {cs:List Tm} (hk:x.kind=0):fB (.mk x cs) ⟨[],[],x.n,false⟩
 |neg {x:Nd} {c:Tm} {r:Fo} (hk:x.kind=3) (ht:x.text=[45,46]) (h:fB c r):fB (.mk x [c]) (dR Ep r (-1))
 |add {x:Nd} {a b:Tm} {r s:Fo} (hk:x.kind=3) (ht:x.text=[43]) (h:fB a r) (h':fB b s):fB (.mk x [a,b]) (dR r s 1)
 |sub {x:Nd} {a b:Tm} {r s:Fo} (hk:x.kind=3) (ht:x.text=[45]) (h:fB a r) (h':fB b s):fB (.mk x [a,b]) (dR r s (-1))
 |azv {x:Nd} {a b:Tm} {r s:Fo} (hk:x.kind=3) (ht:x.text=[42]) (h:fB a r) (h':fB b s) (hb:(r.bad||s.bad)=true):fB (.mk x [a,b]) ⟨[],[],0,true⟩
 |mulL {x:Nd} {a b:Tm} {r s:Fo} (hk:x.kind=3) (ht:x.text=[42]) (h:fB a r) (h':fB b s) (hb:(r.bad||s.bad)=false) (hn:isNum r=true):fB (.mk x [a,b]) (dR Ep s r.num)
 |mulR {x:Nd} {a b:Tm} {r s:Fo} (hk:x.kind=3) (ht:x.text=[42]) (h:fB a r) (h':fB b s) (hb:(r.bad||s.bad)=false) (hn:isNum r=false) (hm:isNum s=true):fB (.mk x [a,b]) (dR Ep r s.num)
 |azw {x:Nd} {a b:Tm} {r s:Fo} (hk:x.kind=3) (ht:x.text=[42]) (h:fB a r) (h':fB b s) (hb:(r.bad||s.bad)=false) (hn:isNum r=false) (hm:isNum s=false):fB (.mk x [a,b]) ⟨[flat 0 (.mk x [a,b])],[1],0,false⟩
 |unk {x:Nd} {cs:List Tm} (hk:x.kind≠0) (ht:x.kind=3->x.text∉sums):fB (.mk x cs) ⟨[flat 0 (.mk x cs)],[1],0,false⟩
theorem Am {n:Nat}:Uk [] [] n:=⟨fun x h=>(by cases h),.nil,rfl,Nat.zero_le _⟩
theorem uk1 {e:List Nd} {n:Nat} (h:Gd e) (hn:1<=n):Uk [e] [1] n:=⟨fun x hx=>by rw [List.mem_singleton.1 hx];exact h,List.pairwise_singleton _ _,rfl,hn⟩
theorem Ac {us:List (List Nd)} {cs:List Int} {a b:Nat} (h:Uk us cs a) (hab:a<=b):Uk us cs b:=⟨h.gd,h.un,h.len,Nat.le_trans h.le hab⟩
theorem Fb {s:Str} (h:s∈sums):(dL eG s).2=true:=by
 have key:sums.all (fun s=>(dL eG s).2)=true:=by kernel_rfl
 exact List.all_eq_true.1 key s h
theorem azx {x:Nd} {c:Tm} (h:Gd (flat 0 (.mk x [c]))) (hk:x.kind=3) (ho:(dL eG x.text).2=true):Gd (flat 0 c):=Xg (l:=[]) (m:=[]) h hk (.inl ho)
theorem Ve {x:Nd} {a b:Tm} (h:Gd (flat 0 (.mk x [a,b]))) (hk:x.kind=3) (ho:(dL eG x.text).2=true):Gd (flat 0 a)/\Gd (flat 0 b):=⟨Xg (l:=[]) (m:=[b]) h hk (.inl ho),Xg (l:=[a]) (m:=[]) h hk (.inl ho)⟩
theorem Bz {t:Tm} {r:Fo} (h:fB t r):Gd (flat 0 t)->Eo r t.size:=by
 induction h with
 |num hk=>exact fun _=>Am
 |neg hk ht h ih=>
  intro hg;have:=ih (azx hg hk (Fb (by rw [ht];decide)));refine Ac (lG (f:=Ep) (a:=0) Am this) ?_;simp only [size,sizes];omega
 |add hk ht h h' ih ih'=>
  intro hg;have:=Ve hg hk (Fb (by rw [ht];decide));refine Ac (lG (ih this.1) (ih' this.2)) ?_;simp only [size,sizes];omega
 |sub hk ht h h' ih ih'=>
  intro hg;have:=Ve hg hk (Fb (by rw [ht];decide));refine Ac (lG (ih this.1) (ih' this.2)) ?_;simp only [size,sizes];omega
 |azv hk ht h h' hb ih ih'=>exact fun _=>Am
 |mulL hk ht h h' hb hn ih ih'=>
  intro hg;have:=Ve hg hk (Fb (by rw [ht];decide));refine Ac (lG (f:=Ep) (a:=0) Am (ih' this.2)) ?_;simp only [size,sizes];omega
 |mulR hk ht h h' hb hn hm ih ih'=>
  intro hg;have:=Ve hg hk (Fb (by rw [ht];decide));refine Ac (lG (f:=Ep) (a:=0) Am (ih this.1)) ?_;simp only [size,sizes];omega
 |azw hk ht h h' hb hn hm ih ih'=>exact fun hg=>uk1 hg (size_pos _)
 |unk hk ht=>exact fun hg=>uk1 hg (size_pos _)
end Go.VL
end
section
namespace Go.VL
structure Co where
 form:Fo
 eq:Bool
deriving DecidableEq
def Co.cells (x:Co):List PV:=[(.ah (x.form.us.map (dx Nd.cells)) (nz x.form.us)),(.ah (x.form.cs.map aK) (nz x.form.cs)),(.int .i64 x.form.num),(.bool x.form.bad),(.bool x.eq)]
theorem Co.jP (x:Co):x.cells=[(.ah (x.form.us.map (dx Nd.cells)) (nz x.form.us)),(.ah (x.form.cs.map aK) (nz x.form.cs)),(.int .i64 x.form.num),(.bool x.form.bad),(.bool x.eq)]:=rfl
theorem Co.pu (x:Co): ∀c∈x.cells,Pu c:=dA.mem (.cons (Nl (fA Nd.pu) _) (.cons (Nl cZ _) (.cons (.int _ _) (.cons (.bool _) (.cons (.bool _) .nil)))))
attribute [go_sem] Co.jP
end Go.VL
end
section
set_option maxHeartbeats 4000000
namespace Go.VL
open Go.Proofs
def zm (aY:Int):Option Bool:=
 some (aY !=0)
instance atD (aY:Int):dN Tryz.prog 204 [(.int .i64 aY)] (zm aY) (fun r=>(.bool r)):=bZ aA6 (by unfold zm apB;exact bJ)
def gM:Nat->(List Int)->Int->Int->Option (Unit⊕Int)
 |0,_,_,_=>none
 |k+1,s_0,jV,iI=>
  cond (decide (iI<jV)) (if 0<=iI then (s_0[iI.toNat]?).bind fun x3=>(zm x3).bind fun p6=>cond p6 (some (.inr (iI))) (gM k s_0 jV (IntKind.wrap .i64 (iI+1)))else none) (some (.inl ()))
instance afY (k:Nat): ∀(s_0:List Int) (jV:Int) (iI:Int),Lp Tryz.prog (.loop IK) (gM k s_0 jV iI) [(4,6),(8,19)] [(0,(.ah (s_0.map aK) .unk)),(1,(.fn (.func 204) [] [])),(7,(.int .i64 jV)),(8,(.int .i64 iI))] (Sum.elim (fun p=>(.exit 0,[])) (fun p=>(.ret,[(4,(.int .i64 p))]))):=by
 induction k with
 |zero=>exact fun _ _ _=>qL rfl
 |succ k ih=>exact fun _ _ _=>qM IK.eq_1 (by unfold gM;exact bW)
def uR (k:Nat) (s_0:List Int):Option Int:=
 Option.bind (gM k s_0 (s_0.length:Int) 0) (fun o=>Sum.elim (fun kQ=>some (-1)) (fun mq=>some mq) o)
instance ajw (k:Nat) (s_0:List Int):dN Tryz.prog 102 [(.ah (s_0.map aK) .unk),(.fn (.func 204) [] [])] (uR k s_0) (fun r=>(.int .i64 r)):=bZ aoQ (by unfold uR ahR;exact bJ)
def q9 (k:Nat) (s_0:List Int):Option Bool:=
 (uR k s_0).bind fun p2=>some (decide (p2>=0))
instance afZ (k:Nat) (s_0:List Int):dN Tryz.prog 76 [(.ah (s_0.map aK) .unk),(.fn (.func 204) [] [])] (q9 k s_0) (fun r=>(.bool r)):=bZ avx (by unfold q9 am4;exact bJ)
def mh (k:Nat) (rZ:Fo):Option Bool:=
 cond rZ.bad (some false) ((q9 k rZ.cs).bind fun p3=>some (!p3))
instance aex (k:Nat) (rZ:Fo):dN Tryz.prog 147 [(.agg (Fo.cells rZ))] (mh k rZ) (fun r=>(.bool r)):=bZ aAG (by unfold mh ao9;exact bJ)
theorem JA {k:Nat} {rZ:Fo} {r:Bool} (h:mh k rZ=some r):aD Tryz.prog 147 [(.agg (Fo.cells rZ))] (.bool r):=(aex _ _).c _ h
def Ad (k:Nat) (rZ:Fo):Option Bool:=
 (mh k rZ).bind fun p2=>cond p2 (some (decide (rZ.num<0))) (some false)
instance al1 (k:Nat) (rZ:Fo):dN Tryz.prog 146 [(.agg (Fo.cells rZ))] (Ad k rZ) (fun r=>(.bool r)):=bZ aAF (by unfold Ad ao8;exact bJ)
theorem aau {k:Nat} {rZ:Fo} {r:Bool} (h:Ad k rZ=some r):aD Tryz.prog 146 [(.agg (Fo.cells rZ))] (.bool r):=(al1 _ _).c _ h
def vX:Nat->(List Nd)->Int->Option Int
 |0,_,_=>none
 |k+1,aB,cu=>
  if 0<=cu then (aB[cu.toNat]?).bind fun x2=>cond (decide ((x2.args.length:Int)>0)) ((x2.args[0]?).bind fun x5=>vX k aB x5) (some (cu))else none
def Xh:List Nat:=[5]++List.range' 13 14
theorem af0: ∀(k:Nat) (aB:List Nd) (cu:Int) (aC σ:Nat->PV) (H:AH) (f0:Fr Xh aC σ) (sl:σ 0=(.ah (aB.map Nd.cells) .unk)/\σ 5=(.int .i64 cu)) (o:Int) (h:vX k aB cu=some o) (Q:Post) (q0: ∀(p:Int) (σ':Nat->PV),o=p->Fr Xh aC σ'->(σ' 5=(.int .i64 p))->Q (.exit 0) σ' H),W Tryz.prog (.loop Sn) Q σ H:=by
 intro k
 induction k with
 |zero=>intro aB cu aC σ H f0 sl o h Q q0;simp only [vX,reduceCtorEq]at h
 |succ k ih=>
  intro aB cu aC σ H f0 sl o h Q q0;obtain⟨s0,s5⟩:=sl;unfold vX at h;refine bA (fun K hK=>aJ ?_);unfold Sn;obtain⟨e1,h⟩:=aZ h;obtain⟨x2,e3,h⟩:=ak h;obtain⟨e4,h⟩|⟨e4,h⟩:=aA h
  ·obtain⟨x5,e6,h⟩:=ak h;refine aj ?_;refine hK _ _ ?_;exact ih aB x5 _ _ _ aN av _ h _ q0
  ·cases h;refine aj ?_;exact q0 _ _ rfl aN av
def tX:Nat->Int->(List Int)->(List Int)->Int->Int->Option (List Int)
 |0,_,_,_,_,_=>none
 |k+1,cu,AX,Er,Dz,KX=>
  cond (decide (KX<Dz)) (if 0<=KX then (Er[KX.toNat]?).bind fun x23=>if(AX.length+1)*8<=1099511627776 then tX k cu (AX++[(IntKind.wrap .i64 (x23 -cu))]) Er Dz (IntKind.wrap .i64 (KX+1))else none else none) (some (AX))
def Xi:List Nat:=[9,11]++List.range' 40 11
theorem af2: ∀(k:Nat) (cu:Int) (AX:List Int) (Er:List Int) (Dz:Int) (KX:Int) (uN:Ck) (mU:Ck) (aC σ:Nat->PV) (H0 H:AH) (f0:Fr Xi aC σ) (hf0:HF [] H0 H) (sl:σ 5=(.int .i64 cu)/\σ 9=(.ah (AX.map aK) uN)/\σ 38=(.ah (Er.map aK) .unk)/\σ 39=(.int .i64 Dz)/\σ 40=(.int .i64 KX)) (aav:bf H uN) (Ec:bf H mU) (uO:lI uN mU) (o:List Int) (h:tX k cu AX Er Dz KX=some o) (Q:Post) (q0: ∀(p:List Int) (c0:Ck) (σ':Nat->PV) (H':AH),o=p->Fr Xi aC σ'->HF [] H0 H'->(σ' 9=(.ah (p.map aK) c0))->bf H' mU->Q (.exit 4) σ' H'),W Tryz.prog (.loop Sr) Q σ H:=by
 intro k
 induction k with
 |zero=>intro cu AX Er Dz KX uN mU aC σ H0 H f0 hf0 sl aav Ec uO o h Q q0;simp only [tX,reduceCtorEq]at h
 |succ k ih=>
  intro cu AX Er Dz KX uN mU aC σ H0 H f0 hf0 sl aav Ec uO o h Q q0;obtain⟨s5,s9,s38,s39,s40⟩:=sl;have hle0:=hf0.1;unfold tX at h;refine bA (fun K hK=>aJ ?_);unfold Sr;obtain⟨e21,h⟩|⟨e21,h⟩:=aA h
  ·obtain⟨e22,h⟩:=aZ h;obtain⟨x23,e24,h⟩:=ak h;obtain⟨e29,h⟩:=aZ h;refine aj ?_;refine gW (f:=aK) sK AX ([(IntKind.wrap .i64 (x23 -cu))]:List Int) uN .exact av av eY (by first|exact e29|(simp only [List.length_cons,List.length_nil];exact e29)) (fun c25 H26 am2 le aGK aGL=> ?_);have aL0:HF [] _ H26:=⟨le,fun i _ _=>aGK i⟩;try simp only [AH.aS,AH.aT,AH.aU,AH.aV]at le
   obtain⟨aL1,aGM⟩:=aGL mU eY uO;refine aj ?_;refine hK _ _ ?_;exact ih cu (AX++[(IntKind.wrap .i64 (x23 -cu))]) Er Dz (IntKind.wrap .i64 (KX+1)) c25 mU _ _ _ _ aN GH av eY eY aGM _ h _ q0
  ·cases h;refine aj ?_;exact q0 _ uN _ _ rfl aN nL av eY
def vY:Nat->Int->(List Nd)->(List Nd)->Int->Int->Option (List Nd)
 |0,_,_,_,_,_=>none
 |k+1,cu,nJ,Nr,Ns,JB=>
  cond (decide (JB<Ns)) (if 0<=JB then (Nr[JB.toNat]?).bind fun uZ=>Option.bind (tX k cu ([]:List Int) uZ.args (uZ.args.length:Int) 0) (fun p36=>if uZ.names.length<=1000000 then if(nJ.length+1)*80<=1099511627776 then vY k cu (nJ++[(Nd.mk uZ.kind uZ.n uZ.text (uZ.names) p36)]) Nr Ns (IntKind.wrap .i64 (JB+1))else none else none)else none) (some (nJ))
def Xj:List Nat:=[6,8,9,11]++List.range' 33 29
theorem af3: ∀(k:Nat) (cu:Int) (nJ:List Nd) (Nr:List Nd) (Ns:Int) (JB:Int) (tY:Ck) (aC σ:Nat->PV) (H0 H:AH) (f0:Fr Xj aC σ) (hf0:HF [] H0 H) (sl:σ 5=(.int .i64 cu)/\σ 6=(.ah (nJ.map Nd.cells) tY)/\σ 31=(.ah (Nr.map Nd.cells) .unk)/\σ 32=(.int .i64 Ns)/\σ 33=(.int .i64 JB)) (Jr:bf H tY) (o:List Nd) (h:vY k cu nJ Nr Ns JB=some o) (Q:Post) (q0: ∀(p:List Nd) (c0:Ck) (σ':Nat->PV) (H':AH),o=p->Fr Xj aC σ'->HF [] H0 H'->(σ' 6=(.ah (p.map Nd.cells) c0))->Q (.exit 2) σ' H'),W Tryz.prog (.loop Sv) Q σ H:=by
 intro k
 induction k with
 |zero=>intro cu nJ Nr Ns JB tY aC σ H0 H f0 hf0 sl Jr o h Q q0;simp only [vY,reduceCtorEq]at h
 |succ k ih=>
  intro cu nJ Nr Ns JB tY aC σ H0 H f0 hf0 sl Jr o h Q q0;obtain⟨s5,s6,s31,s32,s33⟩:=sl;have hle0:=hf0.1;unfold vY at h;refine bA (fun K hK=>aJ ?_);unfold Sv;obtain⟨e17,h⟩|⟨e17,h⟩:=aA h
  ·obtain⟨e18,h⟩:=aZ h;obtain⟨uZ,e20,h⟩:=ak h;refine aj ?_;obtain⟨o34,h35,h⟩:=ak h;refine af2 k cu ([]:List Int) uZ.args (uZ.args.length:Int) 0 .nil tY _ _ _ _ (Fr.refl _ _) (HF.refl _ _) av eY eY lI.nil _ h35 _ ?_
   ·rintro p36 c40 σ' H39 eo Y5 azz s41 aL2;rw [eo]at h;have s43:σ' 5=(.int .i64 cu):=(Y5 5 (by decide)).trans av;have s44:σ' 6=(.ah (nJ.map Nd.cells) tY):=(Y5 6 (by decide)).trans av;have s45:σ' 8=(.ref (H.next) 0):=(Y5 8 (by decide)).trans av;have s46:σ' 31=(.ah (Nr.map Nd.cells) .unk):=(Y5 31 (by decide)).trans av;have s47:σ' 32=(.int .i64 Ns):=(Y5 32 (by decide)).trans av;have s48:σ' 33=(.int .i64 JB):=(Y5 33 (by decide)).trans av;have le:=azz.1;try simp only [AH.aS,AH.aT,AH.aU,AH.aV]at le
    have g49:H39.obj (H.next)=some [(.int .i64 uZ.kind),(.int .i64 uZ.n),(.str uZ.text),(.ah (uZ.names.map aF) .unk),(.ah (uZ.args.map aK) .unk)]:=(azz.2 _ aQ (by first|exact List.not_mem_nil|(simp only [List.mem_cons,List.not_mem_nil,or_false,not_or];omega))).trans av;have n50:=ne_next (show H.next<H39.next from aQ);have m51:=aO (show H.next<H39.next from aQ);obtain⟨e52,h⟩:=aZ h;refine aj ?_;refine au (OZ uZ.names (by assumption)) ?_;obtain⟨e57,h⟩:=aZ h;refine aj ?_;refine gW (f:=Nd.cells) Nd.row nJ ([(Nd.mk uZ.kind uZ.n uZ.text (uZ.names) p36)]:List Nd) tY .exact av av eY (by first|exact e57|(simp only [List.length_cons,List.length_nil];exact e57)) (fun c53 H54 axZ le aGN aL3=> ?_);have aL4:HF [] _ H54:=⟨le,fun i _ _=>aGN i⟩;try simp only [AH.aS,AH.aT,AH.aU,AH.aV]at le
    have n60:=ne_next (show H.next<H54.next from aQ);have m61:=aO (show H.next<H54.next from aQ);refine aj ?_;refine hK _ _ ?_;exact ih cu (nJ++[(Nd.mk uZ.kind uZ.n uZ.text (uZ.names) p36)]) Nr Ns (IntKind.wrap .i64 (JB+1)) c53 _ _ _ _ rY GH av eY _ h _ q0
  ·cases h;refine aj ?_;exact q0 _ tY _ _ rfl aN nL av
def vJ (k:Nat) (aB:List Nd) (dB:Int):Option (List Nd):=
 Option.bind (vX k aB dB) (fun p9=>if 0<=p9/\p9<=(IntKind.wrap .i64 (dB+1))/\(IntKind.wrap .i64 (dB+1)).toNat<=aB.length then Option.bind (vY k p9 ([]:List Nd) ((aB.take (IntKind.wrap .i64 (dB+1)).toNat).drop p9.toNat) (((aB.take (IntKind.wrap .i64 (dB+1)).toNat).drop p9.toNat).length:Int) 0) (fun p64=>some p64)else none)
theorem JC {k:Nat} {aB:List Nd} {dB:Int} {c0:Ck} {r:List Nd} (h:vJ k aB dB=some r):aD Tryz.prog 122 [(.ah (aB.map Nd.cells) c0),(.int .i64 dB)] (.ah (r.map Nd.cells) .unk):=by
 refine aD.lw (.ah (.same .nil)) (aD.bH (dA.mem (.cons (bE Nd.pu _) (.cons (.int _ _) .nil))) (aM aAu (by simp) (aJ ?_)) (bE Nd.pu _));unfold vJ at h;unfold aoX;refine aj ?_;obtain⟨o7,h8,h⟩:=ak h;refine af0 k aB dB _ _ _ (Fr.refl _ _) av _ h8 _ ?_
 ·rintro p9 σ' eo Y6 s13;rw [eo]at h;have Rm:σ' 0=(.ah (aB.map Nd.cells) .unk):=(Y6 0 (by decide)).trans av;have s15:σ' 1=(.int .i64 dB):=(Y6 1 (by decide)).trans av;obtain⟨e16,h⟩:=aZ h;refine aj ?_;obtain⟨o62,h63,h⟩:=ak h;refine af3 k p9 ([]:List Nd) ((aB.take (IntKind.wrap .i64 (dB+1)).toNat).drop p9.toNat) (((aB.take (IntKind.wrap .i64 (dB+1)).toNat).drop p9.toNat).length:Int) 0 .nil _ _ _ _ (Fr.refl _ _) (HF.refl _ _) av eY _ h63 _ ?_
  ·rintro p64 c68 σ' H67 eo aL5 aGO s69;rw [eo]at h;have le:=aGO.1;try simp only [AH.aS,AH.aT,AH.aU,AH.aV]at le
   cases h;refine aj ?_;exact(cK Nd.pu _ _)
def Qu (aB:List Nd):Option Nd:=
 if 0<=(IntKind.wrap .i64 ((aB.length:Int) -1))then (aB[(IntKind.wrap .i64 ((aB.length:Int) -1)).toNat]?).bind fun x2=>some x2 else none
instance aon (aB:List Nd):dN Tryz.prog 56 [(.ah (aB.map Nd.cells) .unk)] (Qu aB) (fun r=>(.agg (Nd.cells r))):=bZ aEG (by unfold Qu avn;exact bJ)
theorem aey {aB:List Nd} {c0:Ck} {r:Nd} (h:Qu aB=some r):aD Tryz.prog 56 [(.ah (aB.map Nd.cells) c0)] (.agg (Nd.cells r)):=((aon _).c _ h).wk (.ah .nil)
def JD (aB:List Nd) (Xk:Str):Option Bool:=
 (Qu aB).bind fun p2=>cond (p2.kind==2) (some (p2.text==Xk)) (some false)
theorem ajh {aB:List Nd} {Xk:Str} {c0:Ck} {r:Bool} (h:JD aB Xk=some r):aD Tryz.prog 145 [(.ah (aB.map Nd.cells) c0),(.str Xk)] (.bool r):=by
 refine aD.lw (.ah (.same .nil)) (aD.bH (dA.mem (.cons (bE Nd.pu _) (.cons (.str _) .nil))) (aM aAE (by simp) (aJ ?_)) (.bool _));unfold JD at h;unfold ao7;obtain⟨p2,e1,h⟩:=ak h;refine aj ?_;refine au (aey e1) ?_;obtain⟨e3,h⟩|⟨e3,h⟩:=aA h
 ·refine aj ?_;refine au (aey e1) ?_;cases h;refine aj ?_;exact(.pure _ (.bool _))
 ·cases h;refine aj ?_;exact(.pure _ (.bool _))
def oZ (Hw:Int) (Hy:Int) (Es:Str) (Hz:List Str) (HV:List Int) (aez:Bool):Option Bool:=
 cond aez (some ((Es==([45,46]:Str)))) (some (false))
theorem aa6: ∀(HY:Nat) (Hw:Int) (Hy:Int) (Es:Str) (Hz:List Str) (HV:List Int) (aez:Bool) (aC σ:Nat->PV) (H:AH) (f0:Fr [22,23,24,25] aC σ) (sl:σ 3=(.ref (HY) 0)/\σ 21=(.bool aez)/\H.obj HY=some [(.int .i64 Hw),(.int .i64 Hy),(.str Es),(.ah (Hz.map aF) .unk),(.ah (HV.map aK) .unk)]) (Fe:HY<H.next) (o:Bool) (h:oZ Hw Hy Es Hz HV aez=some o) (Q:Post) (q0: ∀(p:Bool) (σ':Nat->PV),o=p->Fr [22,23,24,25] aC σ'->(σ' 25=(.bool p))->Q .normal σ' H),dM Tryz.prog TM (Q .normal) σ H:=by
 intro HY Hw Hy Es Hz HV aez aC σ H f0 sl Fe o h Q q0;obtain⟨s3,s21,atE⟩:=sl;have atF:=ne_next Fe;have atG:=aO Fe;unfold oZ at h;refine eO ?_;unfold TM;obtain⟨e5,h⟩|⟨e5,h⟩:=aA h
 ·cases h;refine aj ?_;exact q0 _ _ rfl aN av
 ·cases h;refine aj ?_;exact q0 _ _ rfl aN av
def xL (k:Nat) (Hw:Int) (Hy:Int) (Es:Str) (Hz:List Str) (HV:List Int) (Er:Bool):Option Bool:=
 cond Er ((bM k [([43]:Str),([45]:Str),([42]:Str)] Es).bind fun p27=>some (p27)) (some (false))
def Qv:List Nat:=[39,40,41,42,43]
theorem aa7 (k:Nat): ∀(HY:Nat) (Hw:Int) (Hy:Int) (Es:Str) (Hz:List Str) (HV:List Int) (Er:Bool) (aC σ:Nat->PV) (H:AH) (f0:Fr Qv aC σ) (sl:σ 3=(.ref (HY) 0)/\σ 38=(.bool Er)/\H.obj HY=some [(.int .i64 Hw),(.int .i64 Hy),(.str Es),(.ah (Hz.map aF) .unk),(.ah (HV.map aK) .unk)]) (Fe:HY<H.next) (o:Bool) (h:xL k Hw Hy Es Hz HV Er=some o) (Q:Post) (q0: ∀(p:Bool) (σ':Nat->PV),o=p->Fr Qv aC σ'->(σ' 43=(.bool p))->Q .normal σ' H),dM Tryz.prog TN (Q .normal) σ H:=by
 intro HY Hw Hy Es Hz HV Er aC σ H f0 sl Fe o h Q q0;obtain⟨s3,s38,atE⟩:=sl;have atF:=ne_next Fe;have atG:=aO Fe;unfold xL at h;refine eO ?_;unfold TN;obtain⟨e25,h⟩|⟨e25,h⟩:=aA h
 ·obtain⟨p27,e26,h⟩:=ak h;refine aj ?_;refine au (iL e26) ?_;cases h;refine aj ?_;exact q0 _ _ rfl aN av
 ·cases h;refine aj ?_;exact q0 _ _ rfl aN av
def AY (FJ:List (List Nd)) (FK:List Int) (HZ:Int) (Et:Bool) (aeA:Bool):Option Bool:=
 cond aeA (some (true)) (some (Et))
theorem aa8: ∀(H7:Nat) (FJ:List (List Nd)) (FK:List Int) (HZ:Int) (Et:Bool) (aeA:Bool) (aC σ:Nat->PV) (H:AH) (f0:Fr [76,77,78] aC σ) (sl:σ 5=(.ref (H7) 0)/\σ 75=(.bool aeA)/\H.obj H7=some [(.ah (FJ.map (dx Nd.cells)) (nz FJ)),(.ah (FK.map aK) (nz FK)),(.int .i64 HZ),(.bool Et)]) (Fg:H7<H.next) (o:Bool) (h:AY FJ FK HZ Et aeA=some o) (Q:Post) (q0: ∀(p:Bool) (σ':Nat->PV),o=p->Fr [76,77,78] aC σ'->(σ' 78=(.bool p))->Q .normal σ' H),dM Tryz.prog TP (Q .normal) σ H:=by
 intro H7 FJ FK HZ Et aeA aC σ H f0 sl Fg o h Q q0;obtain⟨s5,s75,atH⟩:=sl;have atI:=ne_next Fg;have atJ:=aO Fg;unfold AY at h;refine eO ?_;unfold TP;obtain⟨e89,h⟩|⟨e89,h⟩:=aA h
 ·cases h;refine aj ?_;exact q0 _ _ rfl aN av
 ·cases h;refine aj ?_;exact q0 _ _ rfl aN av
mutual
def kF:Nat->(List Nd)->Option Fo
 |0,_=>none
 |k+1,aB=>
  if 0<=(IntKind.wrap .i64 ((aB.length:Int) -1))then (aB[(IntKind.wrap .i64 ((aB.length:Int) -1)).toNat]?).bind fun x2=>cond (x2.kind==0) (some (Fo.mk [] [] x2.n false)) (Option.bind (oZ x2.kind x2.n x2.text x2.names x2.args (x2.kind==3)) (fun p8=>cond p8 ((x2.args[0]?).bind fun Ka=>(vJ k aB Ka).bind fun Dh=>(kF k Dh).bind fun rP=>(fJ k (Fo.mk [] [] 0 false) rP (-1)).bind fun xg=>some xg) (Option.bind (xL k x2.kind x2.n x2.text x2.names x2.args (x2.kind==3)) (fun p30=>cond p30 ((x2.args[0]?).bind fun x39=>(vJ k aB x39).bind fun p42=>(kF k p42).bind fun p44=>(x2.args[1]?).bind fun x45=>(vJ k aB x45).bind fun p48=>(kF k p48).bind fun p50=>cond (x2.text==([43]:Str)) ((fJ k p44 p50 1).bind fun Rj=>some Rj) (cond (x2.text==([45]:Str)) ((fJ k p44 p50 (-1)).bind fun VP=>some VP) (cond (x2.text==([42]:Str)) (Option.bind (AY p50.us p50.cs p50.num p50.bad p44.bad) (fun N7=>cond N7 (some (Fo.mk [] [] 0 true)) ((mh k p44).bind fun aji=>cond aji ((fJ k (Fo.mk [] [] 0 false) p50 p44.num).bind fun UU=>some UU) ((mh k p50).bind fun ajj=>cond ajj ((fJ k (Fo.mk [] [] 0 false) p44 p50.num).bind fun ajk=>some ajk) (some (Fo.mk [aB] [1] 0 false)))))) (some (Fo.mk [aB] [1] 0 false))))) (some (Fo.mk [aB] [1] 0 false))))))else none
end
mutual
theorem Ia (k:Nat): ∀(aB:List Nd) (r:Fo) (h:kF k aB=some r),aD Tryz.prog 201 [(.ah (aB.map Nd.cells) .unk)] (.agg (Fo.cells r)):=by
 match k with
 |0=>intro aB r h;rw [kF]at h;cases h
 |k+1=>
  intro aB r h;refine aD.bH (dA.mem (.cons (bE Nd.pu _) .nil)) (aM aA4 (by simp) (aJ ?_)) (.agg _ (Fo.pu _));rw [kF]at h;unfold apz;obtain⟨e1,h⟩:=aZ h;obtain⟨x2,e3,h⟩:=ak h;obtain⟨e4,h⟩|⟨e4,h⟩:=aA h
  ·cases h;refine aj ?_;exact(dU (.cons lW (.cons lW (dz (.cons (.pure _ (.bool _)) .nil)))))
  ·refine aj ?_;obtain⟨o6,h7,h⟩:=ak h;refine aa6 (AH.empty.next+1) x2.kind x2.n x2.text x2.names x2.args (x2.kind==3) _ _ _ (Fr.refl _ _) av aQ _ h7 _ ?_
   ·rintro p8 σ' eo ZY s12;rw [eo]at h;have s13:σ' 0=(.ah (aB.map Nd.cells) .unk):=(ZY 0 (by decide)).trans av;have Rm:σ' 2=(.ref (AH.empty.next) 0):=(ZY 2 (by decide)).trans av;have s15:σ' 3=(.ref (AH.empty.next+1) 0):=(ZY 3 (by decide)).trans av;obtain⟨e16,h⟩|⟨e16,h⟩:=aA h
    ·obtain⟨Ka,e18,h⟩:=ak h;obtain⟨Dh,e19,h⟩:=ak h;refine aj ?_;refine au (JC e19) ?_;obtain⟨rP,e21,h⟩:=ak h;refine aj ?_;refine au ((Ia k Dh _ e21).wk (.ah .nil)) ?_;obtain⟨xg,e23,h⟩:=ak h;refine aj ?_;refine au (kD e23) ?_;cases h;refine aj ?_;exact(dU (.cons lW (.cons lW (dz (.cons (.pure _ (.bool _)) .nil)))))
    ·refine aj ?_;obtain⟨o28,h29,h⟩:=ak h;refine aa7 k (AH.empty.next+1) x2.kind x2.n x2.text x2.names x2.args (x2.kind==3) _ _ _ (Fr.refl _ _) av aQ _ h29 _ ?_
     ·rintro p30 σ' eo aja s34;rw [eo]at h;have s35:σ' 0=(.ah (aB.map Nd.cells) .unk):=(aja 0 (by decide)).trans av;have s36:σ' 2=(.ref (AH.empty.next) 0):=(aja 2 (by decide)).trans av;have s37:σ' 3=(.ref (AH.empty.next+1) 0):=(aja 3 (by decide)).trans av;obtain⟨e38,h⟩|⟨e38,h⟩:=aA h
      ·obtain⟨x39,e40,h⟩:=ak h;obtain⟨p42,e41,h⟩:=ak h;obtain⟨p44,e43,h⟩:=ak h;obtain⟨x45,e46,h⟩:=ak h;obtain⟨p48,e47,h⟩:=ak h;obtain⟨p50,e49,h⟩:=ak h;refine aj ?_;refine aeo 14 15 [(.ah [] .nil),(.ah [] .nil),(.int .i64 0),(.bool false)] [(.ah (aB.map Nd.cells) .unk),(.ref (AH.empty.next+1) 4),(.ah (x2.args.map aK) .unk),(.bY [(.int .i64 x39)] 0),(.int .i64 x39),(.ah (p42.map Nd.cells) .unk),(.agg (Fo.cells p44)),(.ah (aB.map Nd.cells) .unk),(.ref (AH.empty.next+1) 4),(.ah (x2.args.map aK) .unk),(.bY [(.int .i64 x45)] 0),(.int .i64 x45),(.ah (p48.map Nd.cells) .unk),(.agg (Fo.cells p50)),ud,ud] (by kernel_rfl) (by decide) rfl rfl (fun x y H' hz=> ?_) (fun x70 Jd Z0 aoo aGP azB aGQ azC n72 n73 n74 aL6=> ?_)
       · rcases hz with rfl|rfl|rfl<;>exact⟨.inr (.inr ⟨rfl,mV⟩),.inr (.inr ⟨rfl,mV⟩),.inr (.inr ⟨rfl,mV⟩),.inr (.inr ⟨rfl,mV⟩),.inr (.inr ⟨rfl,mV⟩),.inr (.inr ⟨rfl,Qs (JC e41)⟩),.inr (.inr ⟨rfl,Qs ((Ia k p42 _ e43).wk (.ah .nil))⟩),.inr (.inr ⟨rfl,mV⟩),.inr (.inr ⟨rfl,mV⟩),.inr (.inr ⟨rfl,mV⟩),.inr (.inr ⟨rfl,mV⟩),.inr (.inr ⟨rfl,mV⟩),.inr (.inr ⟨rfl,Qs (JC e47)⟩),.inr (.inr ⟨rfl,Qs ((Ia k p48 _ e49).wk (.ah .nil))⟩),.inl rfl,.inl rfl,trivial⟩
       have le:=aoo.1;try simp only [AH.aS,AH.aT,AH.aU,AH.aV]at le aGP aGQ
       have n75:(x70=Jd)=False:=eq_false n72;have n76:(Jd=x70)=False:=eq_false (Ne.symm n72);have n77:=ne_next azB;have n78:=aO azB;have n79:=ne_next azC;have n80:=aO azC;have g58:Z0.obj (AH.empty.next)=some [(.ah [] .nil),(.ah [] .nil),(.int .i64 0),(.bool false)]:=(aoo.2 _ aQ List.not_mem_nil).trans av;have n59:=ne_next (show AH.empty.next<Z0.next from aQ);have m60:=aO (show AH.empty.next<Z0.next from aQ);have aJB:(AH.empty.next=x70)=False:=eq_false aQ;have aHf:(x70=AH.empty.next)=False:=eq_false aQ;have aJC:(AH.empty.next=Jd)=False:=eq_false aQ;have aHg:(Jd=AH.empty.next)=False:=eq_false aQ;have g61:Z0.obj (AH.empty.next+1)=some [(.int .i64 x2.kind),(.int .i64 x2.n),(.str x2.text),(.ah (x2.names.map aF) .unk),(.ah (x2.args.map aK) .unk)]:=(aoo.2 _ aQ List.not_mem_nil).trans av;have n62:=ne_next (show AH.empty.next+1<Z0.next from aQ);have m63:=aO (show AH.empty.next+1<Z0.next from aQ);have aJD:(AH.empty.next+1=x70)=False:=eq_false aQ;have aHh:(x70=AH.empty.next+1)=False:=eq_false aQ;have aJE:(AH.empty.next+1=Jd)=False:=eq_false aQ;have aHi:(Jd=AH.empty.next+1)=False:=eq_false aQ;simp only [bT,List.length_cons,List.length_nil,Nat.reduceAdd,Cc,Nat.reduceEqDiff,reduceIte,List.getElem?_cons_succ,List.getElem?_cons_zero,Option.getD_some];obtain⟨e82,h⟩|⟨e82,h⟩:=aA h
       ·obtain⟨Rj,e83,h⟩:=ak h;refine aj ?_;refine au (kD e83) ?_;cases h;refine aj ?_;exact(dU (.cons lW (.cons lW (dz (.cons (.pure _ (.bool _)) .nil)))))
       ·obtain⟨e85,h⟩|⟨e85,h⟩:=aA h
        ·obtain⟨VP,e86,h⟩:=ak h;refine aj ?_;refine au (kD e86) ?_;cases h;refine aj ?_;exact(dU (.cons lW (.cons lW (dz (.cons (.pure _ (.bool _)) .nil)))))
        ·obtain⟨e88,h⟩|⟨e88,h⟩:=aA h
         ·refine aj ?_;obtain⟨o90,h91,h⟩:=ak h;refine aa8 (Jd) p50.us p50.cs p50.num p50.bad p44.bad _ _ _ (Fr.refl _ _) av aQ _ h91 _ ?_
          ·rintro N7 σ' eo ajl s96;rw [eo]at h;have s97:σ' 0=(.ah (aB.map Nd.cells) .unk):=(ajl 0 (by decide)).trans av;have s98:σ' 2=(.ref (AH.empty.next) 0):=(ajl 2 (by decide)).trans av;have s99:σ' 4=(.ref (x70) 0):=(ajl 4 (by decide)).trans av;have anD:σ' 5=(.ref (Jd) 0):=(ajl 5 (by decide)).trans av;obtain⟨acI,h⟩|⟨acI,h⟩:=aA h
           ·cases h;refine aj ?_;exact(dU (.cons lW (.cons lW (dz (.cons (.pure _ (.bool _)) .nil)))))
           ·obtain⟨aji,ani,h⟩:=ak h;refine aj ?_;refine au (JA ani) ?_;obtain⟨aiz,h⟩|⟨aiz,h⟩:=aA h
            ·obtain⟨UU,Yq,h⟩:=ak h;refine aj ?_;refine au (kD Yq) ?_;cases h;refine aj ?_;exact(dU (.cons lW (.cons lW (dz (.cons (.pure _ (.bool _)) .nil)))))
            ·obtain⟨ajj,YB,h⟩:=ak h;refine aj ?_;refine au (JA YB) ?_;obtain⟨e109,h⟩|⟨e109,h⟩:=aA h
             ·obtain⟨ajk,acJ,h⟩:=ak h;refine aj ?_;refine au (kD acJ) ?_;cases h;refine aj ?_;exact(dU (.cons lW (.cons lW (dz (.cons (.pure _ (.bool _)) .nil)))))
             ·cases h;refine aj ?_;exact(dU (.cons lW (.cons lW (dz (.cons (.pure _ (.bool _)) .nil)))))
         ·cases h;refine aj ?_;exact(dU (.cons lW (.cons lW (dz (.cons (.pure _ (.bool _)) .nil)))))
      ·cases h;refine aj ?_;exact(dU (.cons lW (.cons lW (dz (.cons (.pure _ (.bool _)) .nil)))))
end
theorem Xl {k:Nat} {aB:List Nd} {c0:Ck} {r:Fo} (h:kF k aB=some r):aD Tryz.prog 201 [(.ah (aB.map Nd.cells) c0)] (.agg (Fo.cells r)):=(Ia k aB r h).wk (.ah .nil)
def qQ (k:Nat) (abr:Int) (abt:Int) (Xm:Str) (abu:List Str) (abv:List Int) (kW:Bool):Option Bool:=
 cond kW (some (true)) ((bM k [([61]:Str),([60]:Str),([60,61]:Str),([62]:Str),([62,61]:Str)] Xm).bind fun p6=>some ((!p6)))
def Gc:List Nat:=[18,19,20,21,22,23]
theorem Oz (k:Nat): ∀(abw:Nat) (abr:Int) (abt:Int) (Xm:Str) (abu:List Str) (abv:List Int) (kW:Bool) (aC σ:Nat->PV) (H:AH) (f0:Fr Gc aC σ) (sl:σ 4=(.ref (abw) 0)/\σ 17=(.bool kW)/\H.obj abw=some [(.int .i64 abr),(.int .i64 abt),(.str Xm),(.ah (abu.map aF) .unk),(.ah (abv.map aK) .unk)]) (Y7:abw<H.next) (o:Bool) (h:qQ k abr abt Xm abu abv kW=some o) (Q:Post) (q0: ∀(p:Bool) (σ':Nat->PV),o=p->Fr Gc aC σ'->(σ' 23=(.bool p))->Q .normal σ' H),dM Tryz.prog SY (Q .normal) σ H:=by
 intro abw abr abt Xm abu abv kW aC σ H f0 sl Y7 o h Q q0;obtain⟨s4,yU,aHj⟩:=sl;have aHk:=ne_next Y7;have aHl:=aO Y7;unfold qQ at h;refine eO ?_;unfold SY;obtain⟨e4,h⟩|⟨e4,h⟩:=aA h
 ·cases h;refine aj ?_;exact q0 _ _ rfl aN av
 ·obtain⟨p6,e5,h⟩:=ak h;refine aj ?_;refine au (iL e5) ?_;cases h;refine aj ?_;exact q0 _ _ rfl aN av
def iN (k:Nat) (aB:List Nd):Option (Co×Bool):=
 if 0<=(IntKind.wrap .i64 ((aB.length:Int) -1))then (aB[(IntKind.wrap .i64 ((aB.length:Int) -1)).toNat]?).bind fun x2=>Option.bind (qQ k x2.kind x2.n x2.text x2.names x2.args (x2.kind !=3)) (fun p9=>cond p9 (some ((Co.mk (Fo.mk [] [] 0 false) false),false)) ((x2.args[0]?).bind fun x18=>(vJ k aB x18).bind fun wY=>(kF k wY).bind fun J9=>(x2.args[1]?).bind fun x24=>(vJ k aB x24).bind fun p27=>(kF k p27).bind fun p29=>cond (x2.text==([60,61]:Str)) ((fJ k p29 J9 (-1)).bind fun p63=>some ((Co.mk p63 false),true)) (cond (x2.text==([60]:Str)) ((fJ k p29 J9 (-1)).bind fun p66=>(fJ k p66 (Fo.mk [] [] (-1) false) 1).bind fun p68=>some ((Co.mk p68 false),true)) (cond (x2.text==([62,61]:Str)) ((fJ k J9 p29 (-1)).bind fun p71=>some ((Co.mk p71 false),true)) (cond (x2.text==([62]:Str)) ((fJ k J9 p29 (-1)).bind fun p74=>(fJ k p74 (Fo.mk [] [] (-1) false) 1).bind fun p76=>some ((Co.mk p76 false),true)) ((fJ k J9 p29 (-1)).bind fun p78=>some ((Co.mk p78 true),true)))))))else none
theorem JE {k:Nat} {aB:List Nd} {c0:Ck} {r:Co×Bool} (h:iN k aB=some r):aD Tryz.prog 143 [(.ah (aB.map Nd.cells) c0)] (.dn [(.agg (Co.cells r.1)),(.bool r.2)]):=by
 refine aD.lw (.ah .nil) (aD.bH (dA.mem (.cons (bE Nd.pu _) .nil)) (aM aAD (by simp) (aJ ?_)) (.dn _ (dA.mem (.cons (.agg _ (Co.pu _)) (.cons (.bool _) .nil)))));unfold iN at h;unfold ao6;obtain⟨e1,h⟩:=aZ h;obtain⟨x2,e3,h⟩:=ak h;refine aj ?_;obtain⟨o7,h8,h⟩:=ak h;refine Oz k (AH.empty.next+1) x2.kind x2.n x2.text x2.names x2.args (x2.kind !=3) _ _ _ (Fr.refl _ _) av aQ _ h8 _ ?_
 ·rintro p9 σ' eo Y6 s13;rw [eo]at h;have Rm:σ' 0=(.ah (aB.map Nd.cells) .unk):=(Y6 0 (by decide)).trans av;have s15:σ' 2=(.ref (AH.empty.next) 0):=(Y6 2 (by decide)).trans av;have s16:σ' 4=(.ref (AH.empty.next+1) 0):=(Y6 4 (by decide)).trans av;obtain⟨e17,h⟩|⟨e17,h⟩:=aA h
  ·cases h;refine aj ?_;exact(jr (.cons (dU (.cons lW (.cons lW (dz (.cons (.pure _ (.bool _)) (.cons (.pure _ (.bool _)) .nil)))))) (.cons (.pure _ (.bool _)) .nil)))
  ·obtain⟨x18,e19,h⟩:=ak h;obtain⟨wY,e20,h⟩:=ak h;obtain⟨J9,e22,h⟩:=ak h;obtain⟨x24,e25,h⟩:=ak h;obtain⟨p27,e26,h⟩:=ak h;obtain⟨p29,e28,h⟩:=ak h;refine aj ?_;refine aeo 14 15 [(.ah [] .nil),(.ah [] .nil),(.int .i64 0),(.bool false)] [(.ah (aB.map Nd.cells) .unk),(.ref (AH.empty.next+1) 4),(.ah (x2.args.map aK) .unk),(.bY [(.int .i64 x18)] 0),(.int .i64 x18),(.ah (wY.map Nd.cells) .unk),(.agg (Fo.cells J9)),(.ah (aB.map Nd.cells) .unk),(.ref (AH.empty.next+1) 4),(.ah (x2.args.map aK) .unk),(.bY [(.int .i64 x24)] 0),(.int .i64 x24),(.ah (p27.map Nd.cells) .unk),(.agg (Fo.cells p29)),ud,ud] (by kernel_rfl) (by decide) rfl rfl (fun x y H' hz=> ?_) (fun x49 PK WQ aiQ aGR azD aGS azE n51 n52 n53 aL7=> ?_)
   · rcases hz with rfl|rfl|rfl<;>exact⟨.inr (.inr ⟨rfl,mV⟩),.inr (.inr ⟨rfl,mV⟩),.inr (.inr ⟨rfl,mV⟩),.inr (.inr ⟨rfl,mV⟩),.inr (.inr ⟨rfl,mV⟩),.inr (.inr ⟨rfl,Qs (JC e20)⟩),.inr (.inr ⟨rfl,Qs (Xl e22)⟩),.inr (.inr ⟨rfl,mV⟩),.inr (.inr ⟨rfl,mV⟩),.inr (.inr ⟨rfl,mV⟩),.inr (.inr ⟨rfl,mV⟩),.inr (.inr ⟨rfl,mV⟩),.inr (.inr ⟨rfl,Qs (JC e26)⟩),.inr (.inr ⟨rfl,Qs (Xl e28)⟩),.inl rfl,.inl rfl,trivial⟩
   have le:=aiQ.1;try simp only [AH.aS,AH.aT,AH.aU,AH.aV]at le aGR aGS
   have n54:(x49=PK)=False:=eq_false n51;have n55:(PK=x49)=False:=eq_false (Ne.symm n51);have n56:=ne_next azD;have n57:=aO azD;have n58:=ne_next azE;have n59:=aO azE;have g37:WQ.obj (AH.empty.next)=some [(.ah [] .nil),(.ah [] .nil),(.int .i64 0),(.bool false),(.bool false)]:=(aiQ.2 _ aQ List.not_mem_nil).trans av;have n38:=ne_next (show AH.empty.next<WQ.next from aQ);have m39:=aO (show AH.empty.next<WQ.next from aQ);have aJF:(AH.empty.next=x49)=False:=eq_false aQ;have aHm:(x49=AH.empty.next)=False:=eq_false aQ;have aJG:(AH.empty.next=PK)=False:=eq_false aQ;have aHn:(PK=AH.empty.next)=False:=eq_false aQ;have g40:WQ.obj (AH.empty.next+1)=some [(.int .i64 x2.kind),(.int .i64 x2.n),(.str x2.text),(.ah (x2.names.map aF) .unk),(.ah (x2.args.map aK) .unk)]:=(aiQ.2 _ aQ List.not_mem_nil).trans av;have n41:=ne_next (show AH.empty.next+1<WQ.next from aQ);have m42:=aO (show AH.empty.next+1<WQ.next from aQ);have aJH:(AH.empty.next+1=x49)=False:=eq_false aQ;have aHo:(x49=AH.empty.next+1)=False:=eq_false aQ;have aJI:(AH.empty.next+1=PK)=False:=eq_false aQ;have aHp:(PK=AH.empty.next+1)=False:=eq_false aQ;simp only [bT,List.length_cons,List.length_nil,Nat.reduceAdd,Cc,Nat.reduceEqDiff,reduceIte,List.getElem?_cons_succ,List.getElem?_cons_zero,Option.getD_some];obtain⟨e61,h⟩|⟨e61,h⟩:=aA h
   ·obtain⟨p63,e62,h⟩:=ak h;refine aj ?_;refine au (kD e62) ?_;cases h;refine aj ?_;exact(jr (.cons (dU (.cons lW (.cons lW (dz (.cons (.pure _ (.bool _)) (.cons (.pure _ (.bool _)) .nil)))))) (.cons (.pure _ (.bool _)) .nil)))
   ·obtain⟨e64,h⟩|⟨e64,h⟩:=aA h
    ·refine aj ?_;refine jI ?_;obtain⟨p66,e65,h⟩:=ak h;refine aj ?_;refine PC.mk (kD e65) ?_;obtain⟨p68,e67,h⟩:=ak h;refine aj ?_;refine au (kD e67) ?_;cases h;refine aj ?_;exact(jr (.cons (dU (.cons lW (.cons lW (dz (.cons (.pure _ (.bool _)) (.cons (.pure _ (.bool _)) .nil)))))) (.cons (.pure _ (.bool _)) .nil)))
    ·obtain⟨e69,h⟩|⟨e69,h⟩:=aA h
     ·obtain⟨p71,ZM,h⟩:=ak h;refine aj ?_;refine au (kD ZM) ?_;cases h;refine aj ?_;exact(jr (.cons (dU (.cons lW (.cons lW (dz (.cons (.pure _ (.bool _)) (.cons (.pure _ (.bool _)) .nil)))))) (.cons (.pure _ (.bool _)) .nil)))
     ·obtain⟨e72,h⟩|⟨e72,h⟩:=aA h
      ·refine aj ?_;refine jI ?_;obtain⟨p74,VQ,h⟩:=ak h;refine aj ?_;refine PC.mk (kD VQ) ?_;obtain⟨p76,e75,h⟩:=ak h;refine aj ?_;refine au (kD e75) ?_;cases h;refine aj ?_;exact(jr (.cons (dU (.cons lW (.cons lW (dz (.cons (.pure _ (.bool _)) (.cons (.pure _ (.bool _)) .nil)))))) (.cons (.pure _ (.bool _)) .nil)))
      ·obtain⟨p78,e77,h⟩:=ak h;refine aj ?_;refine au (kD e77) ?_;cases h;refine aj ?_;exact(jr (.cons (dU (.cons lW (.cons lW (dz (.cons (.pure _ (.bool _)) (.cons (.pure _ (.bool _)) .nil)))))) (.cons (.pure _ (.bool _)) .nil)))
def vK (aL:List Int) (mW:Int) (Qw:List (List Nd)) (Qx:List Int) (Xn:Int) (Xo:Bool) (Qy:Bool) (aeC:Bool):Option Bool:=
 cond aeC (some (true)) (if 0<=mW then (aL[mW.toNat]?).bind fun x9=>(k_in x9 (-10000) 10000).bind fun pK=>cond pK (cond Qy (some (false)) (some ((decide (x9<0))))) (some (true))else none)
def Oj:List Nat:=List.range' 31 19
theorem Y8: ∀(Xp:Nat) (aL:List Int) (mW:Int) (Qw:List (List Nd)) (Qx:List Int) (Xn:Int) (Xo:Bool) (Qy:Bool) (aeC:Bool) (aC σ:Nat->PV) (H:AH) (f0:Fr Oj aC σ) (sl:σ 1=(.ah (aL.map aK) .unk)/\σ 9=(.int .i64 mW)/\σ 11=(.ref (Xp) 0)/\σ 30=(.bool aeC)/\H.obj Xp=some [(.ah (Qw.map (dx Nd.cells)) (nz Qw)),(.ah (Qx.map aK) (nz Qx)),(.int .i64 Xn),(.bool Xo),(.bool Qy)]) (Vf:Xp<H.next) (o:Bool) (h:vK aL mW Qw Qx Xn Xo Qy aeC=some o) (Q:Post) (q0: ∀(p:Bool) (σ':Nat->PV),o=p->Fr Oj aC σ'->(σ' 49=(.bool p))->Q .normal σ' H),dM Tryz.prog Yc (Q .normal) σ H:=by
 intro Xp aL mW Qw Qx Xn Xo Qy aeC aC σ H f0 sl Vf o h Q q0;obtain⟨s1,s9,s11,s30,aGT⟩:=sl;have aGU:=ne_next Vf;have aGV:=aO Vf;unfold vK at h;refine eO ?_;unfold Yc;obtain⟨e7,h⟩|⟨e7,h⟩:=aA h
 ·cases h;refine aj ?_;exact q0 _ _ rfl aN av
 ·obtain⟨e8,h⟩:=aZ h;obtain⟨x9,e10,h⟩:=ak h;obtain⟨pK,e11,h⟩:=ak h;refine aj ?_;refine au (alQ e11) ?_;obtain⟨e13,h⟩|⟨e13,h⟩:=aA h
  ·obtain⟨e14,h⟩|⟨e14,h⟩:=aA h
   ·cases h;refine aj ?_;exact q0 _ _ rfl aN av
   ·cases h;refine aj ?_;exact q0 _ _ rfl aN av
  ·cases h;refine aj ?_;exact q0 _ _ rfl aN av
def fK:Nat->(List Int)->(List (List Nd))->(List Int)->Int->Bool->Bool->(List (List Nd))->Int->Int->Option ((Bool×(List (List Nd))×(List Int)×Int×Bool)⊕(Bool×(List (List Nd))×(List Int)×Int×Bool))
 |0,_,_,_,_,_,_,_,_,_=>none
 |k+1,aL,iO,iP,iQ,jf,gQ,JF,kW,nT=>
  cond (decide (nT<kW)) (if 0<=nT then (JF[nT.toNat]?).bind fun x3=>(iN k x3).bind fun p6=>Option.bind (vK aL nT p6.1.form.us p6.1.form.cs p6.1.form.num p6.1.form.bad p6.1.eq (!p6.2)) (fun I5=>cond I5 (some (.inr ((false,iO,iP,iQ,jf)))) (cond gQ ((aL[nT.toNat]?).bind fun x32=>(fJ k (Fo.mk iO iP iQ jf) p6.1.form x32).bind fun p35=>fK k aL p35.us p35.cs p35.num p35.bad p6.1.eq JF kW (IntKind.wrap .i64 (nT+1))) ((aL[nT.toNat]?).bind fun ZF=>(fJ k (Fo.mk iO iP iQ jf) p6.1.form ZF).bind fun p39=>fK k aL p39.us p39.cs p39.num p39.bad false JF kW (IntKind.wrap .i64 (nT+1)))))else none) (some (.inl (gQ,iO,iP,iQ,jf)))
def Gy:List Nat:=[6,8,9,10,11,12]++List.range' 18 46
theorem Y9: ∀(k:Nat) (eP:Nat) (aL:List Int) (iO:List (List Nd)) (iP:List Int) (iQ:Int) (jf:Bool) (gQ:Bool) (JF:List (List Nd)) (kW:Int) (nT:Int) (aC σ:Nat->PV) (H0 H:AH) (f0:Fr Gy aC σ) (hf0:HF [eP] H0 H) (sl:σ 1=(.ah (aL.map aK) .unk)/\σ 7=(.ref (eP) 0)/\σ 8=(.bool gQ)/\σ 16=(.ah (JF.map (dx Nd.cells)) .unk)/\σ 17=(.int .i64 kW)/\σ 18=(.int .i64 nT)/\H.obj eP=some [(.ah (iO.map (dx Nd.cells)) (nz iO)),(.ah (iP.map aK) (nz iP)),(.int .i64 iQ),(.bool jf)]) (mX:eP<H.next) (o:(Bool×(List (List Nd))×(List Int)×Int×Bool)⊕(Bool×(List (List Nd))×(List Int)×Int×Bool)) (h:fK k aL iO iP iQ jf gQ JF kW nT=some o) (Q:Post) (q0: ∀(p:Bool×(List (List Nd))×(List Int)×Int×Bool) (σ':Nat->PV) (H':AH),o= .inl p->Fr Gy aC σ'->HF [eP] H0 H'->(σ' 8=(.bool p.1)/\H'.obj eP=some [(.ah (p.2.1.map (dx Nd.cells)) (nz p.2.1)),(.ah (p.2.2.1.map aK) (nz p.2.2.1)),(.int .i64 p.2.2.2.1),(.bool p.2.2.2.2)])->Q (.exit 0) σ' H') (q1: ∀(p:Bool×(List (List Nd))×(List Int)×Int×Bool) (σ':Nat->PV) (H':AH),o= .inr (p)->Fr Gy aC σ'->HF [eP] H0 H'->(σ' 6=(.bool p.1)/\H'.obj eP=some [(.ah (p.2.1.map (dx Nd.cells)) (nz p.2.1)),(.ah (p.2.2.1.map aK) (nz p.2.2.1)),(.int .i64 p.2.2.2.1),(.bool p.2.2.2.2)])->Q .ret σ' H'),W Tryz.prog (.loop Yd) Q σ H:=by
 intro k
 induction k with
 |zero=>intro eP aL iO iP iQ jf gQ JF kW nT aC σ H0 H f0 hf0 sl mX o h Q q0 q1;simp only [fK,reduceCtorEq]at h
 |succ k ih=>
  intro eP aL iO iP iQ jf gQ JF kW nT aC σ H0 H f0 hf0 sl mX o h Q q0 q1;obtain⟨s1,s7,s8,s16,yU,nk,aaw⟩:=sl;have aax:=ne_next mX;have aay:=aO mX;have hle0:=hf0.1;unfold fK at h;refine bA (fun K hK=>aJ ?_);unfold Yd;obtain⟨e1,h⟩|⟨e1,h⟩:=aA h
  ·obtain⟨e2,h⟩:=aZ h;obtain⟨x3,e4,h⟩:=ak h;obtain⟨p6,e5,h⟩:=ak h;refine aj ?_;refine au (JE e5) ?_;refine aj ?_;obtain⟨o15,h16,h⟩:=ak h;refine Y8 (H.next) aL nT p6.1.form.us p6.1.form.cs p6.1.form.num p6.1.form.bad p6.1.eq (!p6.2) _ _ _ (Fr.refl _ _) av aQ _ h16 _ ?_
   ·rintro I5 σ' eo Ng s21;rw [eo]at h;have s22:σ' 1=(.ah (aL.map aK) .unk):=(Ng 1 (by decide)).trans av;have s23:σ' 7=(.ref (eP) 0):=(Ng 7 (by decide)).trans av;have s24:σ' 8=(.bool gQ):=(Ng 8 (by decide)).trans av;have s25:σ' 9=(.int .i64 nT):=(Ng 9 (by decide)).trans av;have s26:σ' 11=(.ref (H.next) 0):=(Ng 11 (by decide)).trans av;have s27:σ' 16=(.ah (JF.map (dx Nd.cells)) .unk):=(Ng 16 (by decide)).trans av;have s28:σ' 17=(.int .i64 kW):=(Ng 17 (by decide)).trans av;have s29:σ' 18=(.int .i64 nT):=(Ng 18 (by decide)).trans av;obtain⟨e30,h⟩|⟨e30,h⟩:=aA h
    ·cases h;refine aj ?_;exact q1 _ _ _ rfl rY nL av
    ·obtain⟨e31,h⟩|⟨e31,h⟩:=aA h
     ·refine aj ?_;refine jI ?_;obtain⟨x32,e33,h⟩:=ak h;obtain⟨p35,e34,h⟩:=ak h;refine aj ?_;refine au (kD e34) ?_;refine aj ?_;refine hK _ _ ?_;exact ih eP aL p35.us p35.cs p35.num p35.bad p6.1.eq JF kW (IntKind.wrap .i64 (nT+1)) _ _ _ _ rY nL av aQ _ h _ q0 q1
     ·refine aj ?_;refine jI ?_;obtain⟨ZF,e37,h⟩:=ak h;obtain⟨p39,e38,h⟩:=ak h;refine aj ?_;refine au (kD e38) ?_;refine aj ?_;refine hK _ _ ?_;exact ih eP aL p39.us p39.cs p39.num p39.bad false JF kW (IntKind.wrap .i64 (nT+1)) _ _ _ _ rY nL av aQ _ h _ q0 q1
  ·cases h;refine aj ?_;exact q0 _ _ _ rfl aN nL av
def rF (k:Nat) (aX:List (List Nd)) (aL:List Int) (dX:List Nd):Option Bool:=
 Option.bind (fK k aL ([]:List (List Nd)) ([]:List Int) 0 false true aX (aX.length:Int) 0) (fun o=>Sum.elim (fun p42=>(JD dX ([70,65,76,83,69]:Str)).bind fun p54=>cond p54 ((Ad k (Fo.mk p42.2.1 p42.2.2.1 p42.2.2.2.1 p42.2.2.2.2)).bind fun p57=>some p57) ((iN k dX).bind fun p59=>cond p59.2 (cond p59.1.eq ((fJ k (Fo.mk p42.2.1 p42.2.2.1 p42.2.2.2.1 p42.2.2.2.2) p59.1.form (-1)).bind fun p63=>cond p42.1 ((mh k p63).bind fun p66=>cond p66 (some (p63.num==0)) (some false)) (some false)) ((fJ k (Fo.mk [] [] (-1) false) p59.1.form (-1)).bind fun p69=>(fJ k (Fo.mk p42.2.1 p42.2.2.1 p42.2.2.2.1 p42.2.2.2.2) p69 1).bind fun p71=>(Ad k p71).bind fun p73=>some p73)) (some false))) (fun p74=>some p74.1) o)
theorem af4 {k:Nat} {aX:List (List Nd)} {aL:List Int} {dX:List Nd} {c0 c1 c2:Ck} {r:Bool} (h:rF k aX aL dX=some r):aD Tryz.prog 79 [(.ah (aX.map (dx Nd.cells)) c0),(.ah (aL.map aK) c1),(.ah (dX.map Nd.cells) c2)] (.bool r):=by
 refine aD.lw (.ah (.ah (.ah .nil))) (aD.bH (dA.mem (.cons (bE (fA Nd.pu) _) (.cons (bE cZ _) (.cons (bE Nd.pu _) .nil)))) (aM aER (by simp) (aJ ?_)) (.bool _));unfold rF at h;unfold avB;refine aj ?_;obtain⟨o40,h41,h⟩:=ak h;refine Y9 k (AH.empty.next) aL ([]:List (List Nd)) ([]:List Int) 0 false true aX (aX.length:Int) 0 _ _ _ _ (Fr.refl _ _) (HF.refl _ _) av aQ _ h41 _ ?_ ?_
 ·rintro p42 σ' H45 eo azG aGW ⟨s46,g47⟩;subst eo;rw [dZ]at h;have s48:σ' 2=(.ah (dX.map Nd.cells) .unk):=(azG 2 (by decide)).trans av;have s49:σ' 7=(.ref (AH.empty.next) 0):=(azG 7 (by decide)).trans av;have le:=aGW.1;try simp only [AH.aS,AH.aT,AH.aU,AH.aV]at le
  have n51:=ne_next (show AH.empty.next<H45.next from aQ);have m52:=aO (show AH.empty.next<H45.next from aQ);obtain⟨p54,e53,h⟩:=ak h;refine aj ?_;refine au (ajh e53) ?_;obtain⟨e55,h⟩|⟨e55,h⟩:=aA h
  ·obtain⟨p57,e56,h⟩:=ak h;refine aj ?_;refine au (aau e56) ?_;cases h;refine aj ?_;exact(.pure _ (.bool _))
  ·obtain⟨p59,e58,h⟩:=ak h;refine aj ?_;refine au (JE e58) ?_;obtain⟨e60,h⟩|⟨e60,h⟩:=aA h
   ·obtain⟨e61,h⟩|⟨e61,h⟩:=aA h
    ·obtain⟨p63,e62,h⟩:=ak h;refine aj ?_;refine au (kD e62) ?_;obtain⟨e64,h⟩|⟨e64,h⟩:=aA h
     ·obtain⟨p66,e65,h⟩:=ak h;refine aj ?_;refine au (JA e65) ?_;obtain⟨e67,h⟩|⟨e67,h⟩:=aA h
      ·cases h;refine aj ?_;exact(.pure _ (.bool _))
      ·cases h;refine aj ?_;exact(.pure _ (.bool _))
     ·cases h;refine aj ?_;exact(.pure _ (.bool _))
    ·refine aj ?_;refine jI ?_;obtain⟨p69,e68,h⟩:=ak h;refine aj ?_;refine PC.mk (kD e68) ?_;obtain⟨p71,ZM,h⟩:=ak h;refine aj ?_;refine au (kD ZM) ?_;obtain⟨p73,e72,h⟩:=ak h;refine aj ?_;refine au (aau e72) ?_;cases h;refine aj ?_;exact(.pure _ (.bool _))
   ·cases h;refine aj ?_;exact(.pure _ (.bool _))
 ·rintro p74 σ' H77 eo aFY aGX ⟨s78,g79⟩;subst eo;rw [eT]at h;have le:=aGX.1;try simp only [AH.aS,AH.aT,AH.aU,AH.aV]at le
  cases h;refine aj ?_;exact(.pure _ (.bool _))
instance azY (k:Nat) (aX:List (List Nd)) (aL:List Int) (dX:List Nd):dN Tryz.prog 79 [(.ah (aX.map (dx Nd.cells)) .unk),(.ah (aL.map aK) .unk),(.ah (dX.map Nd.cells) .unk)] (rF k aX aL dX) (fun r=>(.bool r)):=⟨fun _ h=>af4 h⟩
def rG:Nat->(List Int)->Int->Int->Option (Unit⊕Int)
 |0,_,_,_=>none
 |k+1,t_5,rA,jV=>
  cond (decide (jV<rA)) (if 0<=jV then (t_5[jV.toNat]?).bind fun x3=>cond (x3 !=0) (some (.inr (x3))) (rG k t_5 rA (IntKind.wrap .i64 (jV+1)))else none) (some (.inl ()))
instance at1 (k:Nat): ∀(t_5:List Int) (rA:Int) (jV:Int),Lp Tryz.prog (.loop X4) (rG k t_5 rA jV) [(2,3),(4,5),(7,15)] [(5,(.ah (t_5.map aK) .unk)),(6,(.int .i64 rA)),(7,(.int .i64 jV))] (Sum.elim (fun p=>(.exit 0,[])) (fun p=>(.ret,[(2,(.int .i64 p))]))):=by
 induction k with
 |zero=>exact fun _ _ _=>qL rfl
 |succ k ih=>exact fun _ _ _=>qM X4.eq_1 (by unfold rG;exact bW)
def BA (k:Nat) (aX:List Int):Option Int:=
 Option.bind (rG k aX (aX.length:Int) 0) (fun o=>Sum.elim (fun p8=>some 0) (fun pK=>some pK) o)
instance aCx (k:Nat) (aX:List Int):dN Tryz.prog 58 [(.ah (aX.map aK) .unk)] (BA k aX) (fun r=>(.int .i64 r)):=bZ aEH (by unfold BA avo;exact bJ)
def uP (QV:Bool) (e_1:Int):Option Int:=
 cond QV (some 0) (some e_1)
instance aCy (QV:Bool) (e_1:Int):dN Tryz.prog 59 [(.bool QV),(.int .i64 e_1)] (uP QV e_1) (fun r=>(.int .i64 r)):=bZ aEI (by unfold uP avp;exact bJ)
def xB (aY:Int):Option Bool:=
 (k_in aY (-10000) 10000).bind fun p2=>some (!p2)
instance arE (aY:Int):dN Tryz.prog 77 [(.int .i64 aY)] (xB aY) (fun r=>(.bool r)):=bZ aEP (by unfold xB avy;exact bJ)
def ji:Nat->(List Int)->Int->Int->Option (Unit⊕Int)
 |0,_,_,_=>none
 |k+1,s_0,jV,iI=>
  cond (decide (iI<jV)) (if 0<=iI then (s_0[iI.toNat]?).bind fun x3=>(xB x3).bind fun p6=>cond p6 (some (.inr (iI))) (ji k s_0 jV (IntKind.wrap .i64 (iI+1)))else none) (some (.inl ()))
instance ahh (k:Nat): ∀(s_0:List Int) (jV:Int) (iI:Int),Lp Tryz.prog (.loop IK) (ji k s_0 jV iI) [(4,6),(8,19)] [(0,(.ah (s_0.map aK) .unk)),(1,(.fn (.func 77) [] [])),(7,(.int .i64 jV)),(8,(.int .i64 iI))] (Sum.elim (fun p=>(.exit 0,[])) (fun p=>(.ret,[(4,(.int .i64 p))]))):=by
 induction k with
 |zero=>exact fun _ _ _=>qL rfl
 |succ k ih=>exact fun _ _ _=>qM IK.eq_1 (by unfold ji;exact bW)
def wT (k:Nat) (s_0:List Int):Option Int:=
 Option.bind (ji k s_0 (s_0.length:Int) 0) (fun o=>Sum.elim (fun kQ=>some (-1)) (fun mq=>some mq) o)
instance al3 (k:Nat) (s_0:List Int):dN Tryz.prog 102 [(.ah (s_0.map aK) .unk),(.fn (.func 77) [] [])] (wT k s_0) (fun r=>(.int .i64 r)):=bZ aoQ (by unfold wT ahR;exact bJ)
def lH (k:Nat) (s_0:List Int):Option Bool:=
 (wT k s_0).bind fun p2=>some (decide (p2>=0))
instance ahi (k:Nat) (s_0:List Int):dN Tryz.prog 76 [(.ah (s_0.map aK) .unk),(.fn (.func 77) [] [])] (lH k s_0) (fun r=>(.bool r)):=bZ avx (by unfold lH am4;exact bJ)
def fZ:Nat->(List (List Nd))->Int->Int->Option (Unit⊕(Bool×Int))
 |0,_,_,_=>none
 |k+1,fI,aeD,Vg=>
  cond (decide (Vg<aeD)) (if 0<=Vg then (fI[Vg.toNat]?).bind fun x10=>(BX k x10).bind fun xW=>cond (xW !=0) (some (.inr ((false,xW)))) (fZ k fI aeD (IntKind.wrap .i64 (Vg+1)))else none) (some (.inl ()))
instance aop (k:Nat): ∀(fI:List (List Nd)) (aeD:Int) (Vg:Int),Lp Tryz.prog (.loop XO) (fZ k fI aeD Vg) [(6,8),(10,12),(29,39)] [(27,(.ah (fI.map (dx Nd.cells)) .unk)),(28,(.int .i64 aeD)),(29,(.int .i64 Vg))] (Sum.elim (fun p=>(.exit 0,[])) (fun p=>(.ret,[(6,(.bool p.1)),(7,(.int .i64 p.2))]))):=by
 induction k with
 |zero=>exact fun _ _ _=>qL rfl
 |succ k ih=>exact fun _ _ _=>qM XO.eq_1 (by unfold fZ;exact bW)
def kH (k:Nat) (aX:List (List Nd)) (aL:List Int) (dX:List Nd):Option (Bool×Int):=
 (uP (decide ((aX.length:Int)>0)) 1).bind fun p2=>(uP (decide ((aX.length:Int)<=12)) 2).bind fun p4=>(BA k [p2,p4]).bind fun p6=>cond (p6 !=0) (some (false,p6)) (Option.bind (fZ k aX (aX.length:Int) 0) (fun o=>Sum.elim (fun I5=>(lH k aL).bind fun p25=>(uP ((aL.length:Int)==(aX.length:Int)) 6).bind fun p27=>(uP (!p25) 3).bind fun p29=>(BX k dX).bind fun p31=>(BA k [p27,p29,p31]).bind fun p33=>cond (p33 !=0) (some (false,p33)) ((rF k aX aL dX).bind fun p36=>some (p36,0))) (fun p37=>some (p37.1,p37.2)) o))
instance aa9 (k:Nat) (aX:List (List Nd)) (aL:List Int) (dX:List Nd):dN Tryz.prog 22 [(.ah (aX.map (dx Nd.cells)) .unk),(.ah (aL.map aK) .unk),(.ah (dX.map Nd.cells) .unk)] (kH k aX aL dX) (fun r=>(.dn [(.bool r.1),(.int .i64 r.2)])):=bZ ave (by unfold kH avd;exact bJ)
theorem Ol {k:Nat} {aX:List (List Nd)} {aL:List Int} {dX:List Nd} {c0 c1 c2:Ck} {r:Bool×Int} (h:kH k aX aL dX=some r):aD Tryz.prog 22 [(.ah (aX.map (dx Nd.cells)) c0),(.ah (aL.map aK) c1),(.ah (dX.map Nd.cells) c2)] (.dn [(.bool r.1),(.int .i64 r.2)]):=((aa9 _ _ _ _).c _ h).wk (.ah (.ah (.ah .nil)))
end Go.VL
end
section
set_option maxRecDepth 100000
namespace Go.VL
open Go.Proofs
section
variable {P:Program} {Q:Post} {σ:Nat->PV} {s:List Fm} {α:Type} {H:AH} {f:α->List PV} {sz:Nat} {v:PV} {ids:List Nat}
theorem Xq {b:Nat} {x y:AE} [hr:ni f sz] (hf: ∀x,jY sz (f x)) (xs ys:List α) (c2:Ck)
 (hx:x.ev σ=v) (hrow:aG H f sz xs v ids) (hy:y.ev σ= .ah (ys.map f) c2) (hb:(xs.length+ys.length)*b<=1099511627776):
 d9 P (.n (.app sz b x y)) (fun v' H'=> ∃gK,aG H' f sz (xs++ys) v' gK/\Nw H ids gK/\HF ids H H'/\ ∀c3,bf H c3->bf H' c3) σ H:=by
 by_cases h0:0<ys.length
 · exact Kz hf xs ys c2 hx hrow hy h0 hb
 obtain rfl:ys=[]:=List.length_eq_zero_iff.1 (by omega);rw [List.append_nil];have fin: ∃gK,aG H f sz xs v gK/\Nw H ids gK/\HF ids H H/\ ∀c3,bf H c3->bf H c3:=⟨ids,hrow,Nw.refl,HF.refl _ _,fun _ k=>k⟩;simp only [d9,nop,hx,hy];rcases hrow with⟨rfl,rfl,rfl⟩|⟨id,cap,junk,rfl,rfl,h2,h3,h4,h5⟩
 · simp only [uS,rowOf,List.map_nil,List.length_nil,if_true];exact fin
 · have hrow:VL.rowOf sz H (.bO id 0 xs.length cap sz)=some (xs.map f):=aG.rowOf (ids:=[id]) (.inr ⟨id,cap,junk,rfl,rfl,h2,h3,h4,h5⟩);simp only [uS,hrow];have:VL.rowOf sz H (.ah (([]:List α).map f) c2)=some []:=rfl;simp only [this,List.length_nil,if_true];rw [if_pos h2];exact fin
theorem atK {ms:List Nat} {pr:List (aI×Bool)} {post:List aI} (a b:Nat) (vals:List PV) {da db:Option Nat} {ka kb:AK} (hrs:wo pr=[a,b]) (hab:a≠b) (hbef:eB ms a b=true)
 (O4:pr[a]? =some (⟨da,ka,none⟩,true)) (O5:pr[b]? =some (⟨db,kb,none⟩,true)) (F1:PV->AH->Prop) (F2:PV->PV->AH->Prop)
 (pure: ∀x y H',(H'=H\/F1 x H'\/F2 x y H')->zC P H' (fun _=>false) 0 pr (qK a b vals x y) σ)
 (step1: ∀x y,d9 P ka F1 (bT pr (qK a b vals x y) σ a) H)
 (step2: ∀x y H',F1 x H'->d9 P kb (fun p gy=>F2 x p gy) (bT pr (qK a b vals x y) σ b) H')
 (fin: ∀x y H',F2 x y H'->WO P post s Q (bT pr (qK a b vals x y) σ pr.length) H'):WS P (.su ms pr post) s Q σ H:=by
 have fa:[a,b].filter (·!=a)=[b]:=by simp [Ne.symm hab]
 refine Mq [a,b] hrs (fun r=>qK a b vals (r a) (r b)) (fun rem r H'=>(rem=[a,b]/\H'=H)\/(rem=[b]/\F1 (r a) H')\/(rem=[]/\F2 (r a) (r b) H')) (fun r j hj=> ?_) (fun r r' i h=> ?_) ⟨fun _=>ud,.inl ⟨rfl,rfl⟩⟩ ?_ ?_ ?_
 · rcases(show j=a\/j=b by simpa using hj)with rfl|rfl
   · simp [qK]
   · simp [qK,Ne.symm hab]
 · simp only [qK];by_cases h1:i=a
   · rw [if_pos h1,if_pos h1];exact h a (by simp) (.inr h1.symm)
   · rw [if_neg h1,if_neg h1];by_cases h2:i=b
     · rw [if_pos h2,if_pos h2];exact h b (by simp) (.inr h2.symm)
     · rw [if_neg h2,if_neg h2]
 · rintro rem r H' (⟨rfl,rfl⟩|⟨rfl,h1⟩|⟨rfl,h1⟩)
   · exact(pure _ _ _ (.inl rfl)).G (fun _ h=>by cases h)
   · exact(pure _ _ _ (.inr (.inl h1))).G (fun _ h=>by cases h)
   · exact(pure _ _ _ (.inr (.inr h1))).G (fun _ h=>by cases h)
 · rintro rem r H' j o (⟨rfl,rfl⟩|⟨rfl,h1⟩|⟨rfl,h1⟩) hj ho hb
   · obtain rfl:j=a:=by
      rcases(show j=a\/j=b by simpa using hj)with rfl|rfl
      · rfl
      · rcases hb a (by simp)with h|h
        · rw [hbef]at h;cases h
        · exact h.symm
     rw [O4]at ho;cases ho;exact⟨trivial,kC (fun p H2 hp=>⟨fun s=>if s=j then p else r s,if_pos rfl,fun s hs=>if_neg hs,.inr (.inl ⟨fa,(show F1 (if j=j then p else r j) H2 by rw [if_pos rfl];exact hp)⟩)⟩) (step1 _ _)⟩
   · obtain rfl:j=b:=by simpa using hj
     rw [O5]at ho;cases ho;exact⟨trivial,kC (fun p H2 hp=>⟨fun s=>if s=j then p else r s,if_pos rfl,fun s hs=>if_neg hs,.inr (.inr ⟨by simp,(show F2 (if a=j then p else r a) (if j=j then p else r j) H2 by rw [if_neg hab,if_pos rfl];exact hp)⟩)⟩) (step2 _ _ _ h1)⟩
   · cases hj
 · rintro r H' (⟨h,_⟩|⟨h,_⟩|⟨_,h1⟩)
   · cases h
   · cases h
   · exact fin _ _ _ h1
end
section
variable {P:Program} {Q:Post} {σ:Nat->PV} {s:List Fm} {H:AH} {α β:Type} {f:α->List PV} {g:β->List PV}
theorem aeE [ni f 1] [ni g 1] (hf: ∀x,jY 1 (f x)) (hg: ∀x,jY 1 (g x)) {xs ys:List α} {us ws:List β} {v w:PV} {i1 i2:List Nat} {ms:List Nat} {pr:List (aI×Bool)} {post:List aI} (a b:Nat) (vals:List PV) {da db:Option Nat} {ba bb:Nat} {xa ya xb yb:AE} {c1 c2:Ck}
 (hrs:wo pr=[a,b]) (hab:a≠b) (hbef:eB ms a b=true) (O4:pr[a]? =some (⟨da,.n (.app 1 ba xa ya),none⟩,true)) (O5:pr[b]? =some (⟨db,.n (.app 1 bb xb yb),none⟩,true))
 (r1:aG H f 1 xs v i1) (r2:aG H g 1 us w i2) (dj:Dj i1 i2)
 (hxa: ∀x y,xa.ev (bT pr (qK a b vals x y) σ a)=v) (hya: ∀x y,ya.ev (bT pr (qK a b vals x y) σ a)= .ah (ys.map f) c1)
 (hxb: ∀x y,xb.ev (bT pr (qK a b vals x y) σ b)=w) (hyb: ∀x y,yb.ev (bT pr (qK a b vals x y) σ b)= .ah (ws.map g) c2)
 (hba:(xs.length+ys.length)*ba<=1099511627776) (hbb:(us.length+ws.length)*bb<=1099511627776)
 (pure: ∀x y H',HF (i1++i2) H H'->zC P H' (fun _=>false) 0 pr (qK a b vals x y) σ)
 (fin: ∀x y H' j1 j2,aG H' f 1 (xs++ys) x j1->aG H' g 1 (us++ws) y j2->Nw H i1 j1->Nw H i2 j2->Dj j1 j2->HF (i1++i2) H H'->WO P post s Q (bT pr (qK a b vals x y) σ pr.length) H'):WS P (.su ms pr post) s Q σ H:=by
 have wid: ∀{H'},HF i1 H H'->HF (i1++i2) H H':=fun h=>⟨h.1,fun i hi hm=>h.2 i hi fun k=>hm (List.mem_append_left _ k)⟩
 refine atK a b vals hrs hab hbef O4 O5 (fun x H'=> ∃j1,aG H' f 1 (xs++ys) x j1/\Nw H i1 j1/\HF i1 H H') (fun x y H'=> ∃j1 j2,aG H' f 1 (xs++ys) x j1/\aG H' g 1 (us++ws) y j2/\Nw H i1 j1/\Nw H i2 j2/\Dj j1 j2/\HF (i1++i2) H H') (fun x y H' h=> ?_) (fun x y=> ?_) (fun x y H' h=> ?_) (fun x y H' h=> ?_)
 · rcases h with rfl|⟨j1,_,_,h⟩|⟨j1,j2,_,_,_,_,_,h⟩
   · exact pure _ _ _ (HF.refl _ _)
   · exact pure _ _ _ (wid h)
   · exact pure _ _ _ h
 · exact kC (fun p H2 ⟨j,a1,a2,a3,a4⟩=>⟨j,a1,a2,a3⟩) (Xq (f:=f) hf xs ys c1 (hxa x y) r1 (hya x y) hba)
 · obtain⟨jU,g1,g2,g3⟩:=h;have rB':aG H' g 1 us w i2:=r2.hf g3 dj.symm;refine kC (fun p H2 ⟨j,a1,a2,a3,a4⟩=>⟨jU,j,g1.hf a3 ?_,a1,g2,?_,?_,?_⟩) (Xq (f:=g) hg us ws c2 (hxb x y) rB' (hyb x y) hbb)
   · intro i hi hb';rcases g2 i hi with q|q
     · exact dj i q hb'
     · have:=r2.lt i hb';omega
   · exact Nw.trans (fun i h=> .inl h) g3.1 a2
   · intro i hi hb';rcases a2 i hb' with q|q
     · rcases g2 i hi with q'|q'
       · exact dj i q' q
       · have:=r2.lt i q;omega
     · have:=g1.lt i hi;omega
   · exact⟨Nat.le_trans g3.1 a3.1,fun i hi hm=>(a3.2 i (Nat.lt_of_lt_of_le hi g3.1) (fun h=>hm (List.mem_append_right _ h))).trans (g3.2 i hi (fun h=>hm (List.mem_append_left _ h)))⟩
 · obtain⟨j1,j2,h1,h2,h3,h4,h5,h6⟩:=h;exact fin x y H' j1 j2 h1 h2 h3 h4 h5 h6
end
end Go.VL
end
section
namespace Go.VL
structure Fq where
 us:List (List Nd)
 cs:List Int
 num:Int
 wide:Bool
deriving DecidableEq
def Fq.cells (x:Fq):List PV:=[(.ah (x.us.map (dx Nd.cells)) .unk),(.ah (x.cs.map aK) .unk),(.int .i64 x.num),(.bool x.wide)]
theorem Fq.jP (x:Fq):x.cells=[(.ah (x.us.map (dx Nd.cells)) .unk),(.ah (x.cs.map aK) .unk),(.int .i64 x.num),(.bool x.wide)]:=rfl
theorem Fq.pu (x:Fq): ∀c∈x.cells,Pu c:=dA.mem (.cons (bE (fA Nd.pu) _) (.cons (bE cZ _) (.cons (.int _ _) (.cons (.bool _) .nil))))
attribute [go_sem] Fq.jP
end Go.VL
end
section
set_option maxRecDepth 100000
namespace Go.VL.Kq
open Go.Proofs Go.VL
def dc (n:Nat):Bool:=([1000000]:List Nat).contains n
def Za:List aI:=[oFg 22 3 4 21 false,ZA 23 1 22 21 false,oR 24 (.pick (.t 21) (.c (.bool true)) (.t 23))]
def Zb:AC:=(.seq (sO [oM 45 10,oF 46 0 7,oL 47 1 46,oN 48 47,oB 49 .lss (.t 45) (.t 48)] (.cond (.t 49) .skip (.exit 2))) (.seq (.block 3 (.seq (.par [(oF 52 0 7,false),(oL 53 1 52,false),(oM 54 10,false),(oX 55 1 53 54,false),(oL 56 1 55,false),(oF 57 0 4,false),(oL 58 1 57,false),(oM 59 8,false),(oX 60 1 58 59,false),(oL 61 1 60,false)] [oC 62 98 [(.t 56),(.t 61)]]) (.cond (.t 62) (.ops [oM 63 10,oM 9 63]) .skip))) (.ops [oM 50 10,oB 51 .add (.t 50) (.c (.int .i64 1)),oM 10 51])))
def ahj:AC:=(sO [oM 64 9,oB 65 .lss (.t 64) (.c (.int .i64 0))] (.cond (.t 65) (sO [oF 66 1 7,oL 67 1 66,oN 68 67,oM 9 68] (.su [0,1,0,4,0,28,60,124,255,0,512,0,4095,2047,16383,32767,65535] [(oF 69 0 7,false),(oL 70 1 69,false),(oF 71 0 4,false),(oL 72 1 71,false),(oM 73 8,false),(oX 74 1 72 73,false),(oL 75 1 74,false),(oR 76 (.Ci 1 [(.t 75)]),false),(⟨(some 77),(.n (.app 1 24 (.t 70) (.t 76))),none⟩,true),(oF 78 1 7,false),(oL 79 1 78,false),(oR 80 (.Ci 1 [(.c (.int .i64 0))]),false),(⟨(some 81),(.n (.app 1 8 (.t 79) (.t 80))),none⟩,true),(oF 82 0 7,false)] [oS 1 82 77,oF 83 1 7,oS 1 83 81])) .skip))
def Zc:AC:=(.seq (sO [oM 38 8,oF 39 0 4,oL 40 1 39,oN 41 40,oB 42 .lss (.t 38) (.t 41)] (.cond (.t 42) .skip (.exit 0))) (.seq (.block 1 (sO [oI 9 (-1)] (.seq (sO [oI 10 0] (.block 2 (.loop Zb))) (.seq ahj (.par [(oF 84 1 7,false),(oL 85 1 84,false),(oM 86 9,false),(oF 87 1 7,false),(oL 88 1 87,false),(oM 89 9,false),(oX 90 1 88 89,false),(oL 91 1 90,false),(oM 92 2,false),(oF 93 1 4,false),(oL 94 1 93,false),(oM 95 8,false),(oX 96 1 94 95,false),(oL 97 1 96,false),(oB 98 .mul (.t 92) (.t 97),false),(oB 99 .add (.t 91) (.t 98),false)] [oX 100 1 85 86,oS 1 100 99]))))) (.ops [oM 43 8,oB 44 .add (.t 43) (.c (.int .i64 1)),oM 8 44])))
def Zd:AC:=(.ops [oF 101 3 7,oL 102 1 101,oM 103 102,oFg 104 2 7 103 false,ZA 105 1 104 103 false,oCg 106 29 [(.t 105),(.c (.int .i64 (-1000000000))),(.c (.int .i64 1000000000))] 103 false,ZB 107 (.not (.t 106)) 103 false,oR 108 (.pick (.t 103) (.c (.bool true)) (.t 107)),oF 109 3 7,oS 1 109 108])
def Ze:AC:=(.seq (sO [oM 110 11,oF 111 1 7,oL 112 1 111,oN 113 112,oB 114 .lss (.t 110) (.t 113)] (.cond (.t 114) .skip (.exit 4))) (.seq (.block 5 (.ops [oF 117 3 7,oL 118 1 117,oM 119 118,oFg 120 1 7 119 false,ZA 121 1 120 119 false,oMg 122 11 119 false,ZB 123 (.idx 1 (.t 121) (.t 122)) 119 false,ZA 124 1 123 119 false,oCg 125 29 [(.t 124),(.c (.int .i64 (-1000000000))),(.c (.int .i64 1000000000))] 119 false,ZB 126 (.not (.t 125)) 119 false,oR 127 (.pick (.t 119) (.c (.bool true)) (.t 126)),oF 128 3 7,oS 1 128 127])) (.ops [oM 115 11,oB 116 .add (.t 115) (.c (.int .i64 1)),oM 11 116])))
def azI:AC:=(sO [⟨(some 3),(.d (.box 4 (.t 0))),none⟩,⟨(some 4),(.d (.box 4 (.t 1))),none⟩,⟨(some 6),(.d (.alloc [(.ah [] .nil),(.ah [] .nil),(.int .i64 0),(.bool false)])),none⟩] (.seq (.ops ([oF 12 2 3,oL 13 1 12,oM 14 2,oF 15 2 4,oL 16 1 15,oB 17 .mul (.t 14) (.t 16),oB 18 .add (.t 13) (.t 17),oF 19 3 3,oL 20 1 19,oM 21 20]++Za++[oR 25 (.build [(.ah [] .nil),(.ah [] .nil),(.int .i64 0),(.bool false)] [(2,(1,(.t 18))),(3,(1,(.t 24)))]),⟨(some 7),(.d (.alloc [(.ah [] .nil),(.ah [] .nil),(.int .i64 0),(.bool false)])),none⟩,oS 4 7 25])) (.seq (.su [0,1,0,4,15,0,32,0,128,511,127,2047,4095,8191] [(oF 26 0 7,false),(oL 27 1 26,false),(oF 28 0 3,false),(oL 29 1 28,false),(⟨(some 30),(.n (.app 1 24 (.t 27) (.t 29))),none⟩,true),(oF 31 1 7,false),(oL 32 1 31,false),(oF 33 1 3,false),(oL 34 1 33,false),(⟨(some 35),(.n (.app 1 8 (.t 32) (.t 34))),none⟩,true),(oF 36 0 7,false)] [oS 1 36 30,oF 37 1 7,oS 1 37 35]) (.seq (sO [oI 8 0] (.block 0 (.loop Zc))) (.seq Zd (.seq (sO [oI 11 0] (.block 4 (.loop Ze))) (.seq (sO [oF 129 3 7,oL 130 1 129] (.cond (.t 130) (sO [oR 131 (.build [(.ah [] .nil),(.ah [] .nil),(.int .i64 0),(.bool false)] [(3,(1,(.c (.bool true))))]),oS 4 6 131] .ret) .skip)) (sO [oA 132 4 7,oS 4 6 132] .ret))))))))
theorem aGY:aP Tryz.prog dc true 81 133 [(.cell 6 4 true)] azI:=aR Tryz.func81
end Go.VL.Kq
end
section
set_option maxRecDepth 100000
set_option maxHeartbeats 4000000
namespace Go.VL
open Go.Proofs
def tZ:Nat->List (List Nd)->List Nd->Int->Int->Option Int
 |0,_,_,_,_=>none
 |k+1,us,u,at_,i=>cond (decide (i<(us.length:Int))) (if 0<=i then (us[i.toNat]?).bind fun o=>(Ml k o u).bind fun p=>tZ k us u (cond p i at_) (IntKind.wrap .i64 (i+1))else none) (some at_)
theorem af5 {g:Fq} {us:List (List Nd)} {u:List Nd} {ib:Int} {vU vB num bad:PV} {iU:List Nat} {o4 o7:Nat} (hi:0<=ib) (hu:g.us[ib.toNat]? =some u): ∀(k:Nat) (at_ i:Int) (σ:Nat->PV) (H:AH) (Q:Post) (r:Int),σ 4= .ref o4 0->σ 7= .ref o7 0->σ 8= .int .i64 ib->σ 9= .int .i64 at_->σ 10= .int .i64 i->H.obj o4=some g.cells->H.obj o7=some [vU,vB,num,bad]->aG H (dx Nd.cells) 1 us vU iU->
 tZ k us u at_ i=some r->(∀σ',Fv [(9,11),(45,64)] σ σ'->σ' 9= .int .i64 r->Q (.exit 2) σ' H)->W Tryz.prog (.loop Kq.Zb) Q σ H:=by
 intro k
 induction k with
 |zero=>intro at_ i σ H Q r s4 s7 s8 s9 s10 h4 h7 rU h hQ;simp only [tZ,reduceCtorEq]at h
 |succ k ih=>
  intro at_ i σ H Q r s4 s7 s8 s9 s10 h4 h7 rU h hQ
  unfold tZ at h;refine bA (fun K hK=>aJ ?_);unfold Kq.Zb;have lU:=rU.O1;obtain⟨e1,h⟩|⟨e1,h⟩:=aA h
  · obtain⟨e2,h⟩:=aZ h;obtain⟨o,e3,h⟩:=ak h;obtain⟨p,e4,h⟩:=ak h;obtain⟨id,C,hid,hlt,hC,hcell,hL,hD,hI⟩:=aG.content rU e3;have hx:jR 1 vU (.int .i64 i)=some (.ref id i.toNat):=by simpa using hI .i64 i e2 rfl
    have hcc:C[i.toNat]? =some (.ah (o.map Nd.cells) .unk):=by simpa using hcell 0 _ rfl
    refine aj ?_;refine jI ?_;refine aj ?_;refine au (aok e4) ?_;rcases p with _|_
    · rw [cond_false]at h;refine aj ?_;refine hK _ _ ?_;exact ih _ _ _ H Q r aH aH aH aH aH h4 h7 rU h fun σ' f s=>hQ σ' (Fv.trans IW f) s
    · rw [cond_true]at h;refine aj ?_;refine hK _ _ ?_;exact ih _ _ _ H Q r aH aH aH aH aH h4 h7 rU h fun σ' f s=>hQ σ' (Fv.trans IW f) s
  · cases h;refine aj ?_;exact hQ _ IW aH
def zn (us:List (List Nd)) (cs:List Int) (a v:Int):Option (List (List Nd)×List Int):=
 if 0<=a then (cs[a.toNat]?).bind fun c=>some (us,cs.set a.toNat (IntKind.wrap .i64 (c+v)))else none
def uh:Nat->Fq->Int->List (List Nd)->List Int->Int->Option (List (List Nd)×List Int)
 |0,_,_,_,_,_=>none
 |k+1,g,t,us,cs,i=>
  cond (decide (i<(g.us.length:Int))) (if 0<=i then (g.us[i.toNat]?).bind fun u=>if us.length<=1000000/\cs.length<=1000000 then (tZ k us u (-1) 0).bind fun a=>(g.cs[i.toNat]?).bind fun n=>
   (cond (decide (a<0)) (zn (us++[u]) (cs++[0]) (cs.length:Int) (IntKind.wrap .i64 (t*n))) (zn us cs a (IntKind.wrap .i64 (t*n)))).bind fun p=>uh k g t p.1 p.2 (IntKind.wrap .i64 (i+1))else none else none) (some (us,cs))
structure QlS (g:Fq) (t num:Int) (w:Bool) (o4 o6 o7:Nat) (us:List (List Nd)) (cs:List Int) (vU vB:PV) (iU iB:List Nat) (σ:Nat->PV) (H:AH):Prop where
 s2:σ 2= .int .i64 t
 s4:σ 4= .ref o4 0
 s6:σ 6= .ref o6 0
 s7:σ 7= .ref o7 0
 h4:H.obj o4=some g.cells
 h6:H.obj o6=some tT
 h7:H.obj o7=some [vU,vB,.int .i64 num,.bool w]
 l4:o4<H.next
 l6:o6<H.next
 l7:o7<H.next
 n47:o4≠o7
 n67:o6≠o7
 rU:aG H (dx Nd.cells) 1 us vU iU
 rB:aG H aK 1 cs vB iB
 dj:Dj iU iB
 Mr:o4∉iU
 Jz:o6∉iU
 Al:o7∉iU
 Gb:o4∉iB
 Em:o6∉iB
 vI:o7∉iB
abbrev arF:List (aI×Bool):=[(oF 84 1 7,false),(oL 85 1 84,false),(oM 86 9,false),(oF 87 1 7,false),(oL 88 1 87,false),(oM 89 9,false),(oX 90 1 88 89,false),(oL 91 1 90,false),(oM 92 2,false),(oF 93 1 4,false),(oL 94 1 93,false),(oM 95 8,false),(oX 96 1 94 95,false),(oL 97 1 96,false),(oB 98 .mul (.t 92) (.t 97),false),(oB 99 .add (.t 91) (.t 98),false)]
theorem ahk {g:Fq} {t num a i c n:Int} {w:Bool} {o4 o7:Nat} {cs:List Int} {vU vB:PV} {iB:List Nat} {σ:Nat->PV} {H:AH} {s:List Fm} {Q:Post} (s2:σ 2= .int .i64 t) (s4:σ 4= .ref o4 0) (s7:σ 7= .ref o7 0) (s8:σ 8= .int .i64 i) (s9:σ 9= .int .i64 a)
 (h4:H.obj o4=some g.cells) (h7:H.obj o7=some [vU,vB,.int .i64 num,.bool w]) (rB:aG H aK 1 cs vB iB) (ha:0<=a) (hc:cs[a.toNat]? =some c) (hi:0<=i) (hn:g.cs[i.toNat]? =some n)
 (hK: ∀(H':AH) (σ':Nat->PV),aG H' aK 1 (cs.set a.toNat (IntKind.wrap .i64 (c+IntKind.wrap .i64 (t*n)))) vB iB->HF iB H H'->Fv [(84,101)] σ σ'->WE Tryz.prog .normal s Q σ' H'):
 WS Tryz.prog (.par arF [oX 100 1 85 86,oS 1 100 99]) s Q σ H:=by
 obtain⟨id,C,hid,hlt,hC,hcell,hL,hD,hI⟩:=aG.content rB hc;have hx:jR 1 vB (.int .i64 a)=some (.ref id a.toNat):=by simpa using hI .i64 a ha rfl
 have hcc:C[a.toNat]? =some (.int .i64 c):=by simpa using hcell 0 _ rfl
 unfold arF;refine jI ?_;refine dI ?_;refine pJ (f:=aK) (id:=id) (o:=a.toNat) (i:=a.toNat) (j:=0) (a:=c) (y:=IntKind.wrap .i64 (c+IntKind.wrap .i64 (t*n))) (vs:=[(.int .i64 (IntKind.wrap .i64 (c+IntKind.wrap .i64 (t*n))))]) aH hid (by omega) rB hc aH rfl rfl (by decide) rfl (fun H' g1 g2 g3=> ?_);refine aj ?_;exact hK H' _ g1 g2 IW
theorem af6 (g:Fq) (t num:Int) (w:Bool) (o4 o6 o7:Nat): ∀(k:Nat) (us:List (List Nd)) (cs:List Int) (i:Int) (vU vB:PV) (iU iB:List Nat) (σ:Nat->PV) (H:AH) (Q:Post) (us':List (List Nd)) (cs':List Int),QlS g t num w o4 o6 o7 us cs vU vB iU iB σ H->σ 8= .int .i64 i->
 uh k g t us cs i=some (us',cs')->(∀(wU wB:PV) (jU jB:List Nat) (σ':Nat->PV) (H':AH),QlS g t num w o4 o6 o7 us' cs' wU wB jU jB σ' H'->Q (.exit 0) σ' H')->W Tryz.prog (.loop Kq.Zc) Q σ H:=by
 intro k
 induction k with
 |zero=>intro us cs i vU vB iU iB σ H Q us' cs' hS s8 h hQ;simp only [uh,reduceCtorEq]at h
 |succ k ih=>
  intro us cs i vU vB iU iB σ H Q us' cs' hS s8 h hQ;have s2:=hS.s2;have s4:=hS.s4;have s6:=hS.s6;have s7:=hS.s7;have h4:=hS.h4;have h7:=hS.h7;unfold uh at h;refine bA (fun K hK=>aJ ?_);unfold Kq.Zc Kq.ahj;obtain⟨e1,h⟩|⟨e1,h⟩:=aA h
  · obtain⟨e2,h⟩:=aZ h;obtain⟨u,e3,h⟩:=ak h;obtain⟨⟨e4,e4'⟩,h⟩:=aZ h;obtain⟨a,e5,h⟩:=ak h;obtain⟨n,e6,h⟩:=ak h;obtain⟨⟨us2,cs2⟩,e7,h⟩:=ak h;refine aj ?_;refine af5 (g:=g) (us:=us) (u:=u) (ib:=i) (vU:=vU) (vB:=vB) (o4:=o4) (o7:=o7) e2 e3 k (-1) 0 _ H _ a aH aH aH aH aH h4 h7 hS.rU e5 (fun σ1 f1 s9=> ?_);have f1':=f1.on;have l7:=hS.l7;have l4:=hS.l4;rcases hb:decide (a<0)with _|_
    · rw [hb,cond_false]at e7;unfold zn at e7;obtain⟨e8,e7⟩:=aZ e7;obtain⟨c,e9,e7⟩:=ak e7;cases e7;refine aj ?_;refine ahk (g:=g) (t:=t) (num:=num) (w:=w) (o4:=o4) (o7:=o7) (i:=i) (n:=n) (vU:=vU) aH aH aH aH aH h4 h7 hS.rB e8 e9 e2 e6 (fun H' σ' g1 g2 fv=> ?_);have f2':=fv.on;refine aj ?_;refine hK _ _ ?_;have nm: ∀x,x<H.next->x∉iB->H'.obj x=H.obj x:=fun x hx hm=>g2.2 x hx hm;refine ih us _ _ vU vB iU iB _ H' Q us' cs' ⟨aH,aH,aH,aH,(nm o4 l4 hS.Gb).trans h4,(nm o6 hS.l6 hS.Em).trans hS.h6,(nm o7 l7 hS.vI).trans h7,Nat.lt_of_lt_of_le l4 g2.1,Nat.lt_of_lt_of_le hS.l6 g2.1,Nat.lt_of_lt_of_le l7 g2.1,hS.n47,hS.n67,hS.rU.hf g2 hS.dj,g1,hS.dj,hS.Mr,hS.Jz,hS.Al,hS.Gb,hS.Em,hS.vI⟩ aH h hQ
    · rw [hb,cond_true]at e7;have lB:=hS.rB.O1;have n7:o7∉iU++iB:=fun h=>(List.mem_append.1 h).elim hS.Al hS.vI;have n4:o4∉iU++iB:=fun h=>(List.mem_append.1 h).elim hS.Mr hS.Gb;have n6:o6∉iU++iB:=fun h=>(List.mem_append.1 h).elim hS.Jz hS.Em;unfold zn at e7;obtain⟨e8,e7⟩:=aZ e7;obtain⟨c,e9,e7⟩:=ak e7;cases e7;refine aj ?_
      refine aeE (f:=dx Nd.cells) (g:=aK) (fun x=>Le x) sK (xs:=us) (ys:=[u]) (us:=cs) (ws:=[0]) (v:=vU) (w:=vB) (i1:=iU) (i2:=iB) (c1:= .exact) (c2:= .exact) 8 12 [.ref o7 0,vU,.ref o4 0,.ah (g.us.map (dx Nd.cells)) .unk,.int .i64 i,.bY [.ah (u.map Nd.cells) .unk] 0,.ah (u.map Nd.cells) .unk,.ah [[.ah (u.map Nd.cells) .unk]] .exact,ud,.ref o7 1,vB,.ah [[.int .i64 0]] .exact,ud,.ref o7 0]
       (by kernel_rfl) (by decide) (by decide+kernel) rfl rfl hS.rU hS.rB hS.dj (fun _ _=>rfl) (fun _ _=>rfl) (fun _ _=>rfl) (fun _ _=>rfl) (by simp only [List.length_cons,List.length_nil];omega) (by simp only [List.length_cons,List.length_nil];omega) (fun x y H' hf=> ?_) (fun wU wB H2 jU jB f2 f3 f4 f5 f6 fh=> ?_)
      · have h7':=(hf.2 o7 l7 n7).trans h7;have h4':=(hf.2 o4 l4 n4).trans h4;exact⟨.inr (.inr ⟨rfl,mV⟩),.inr (.inr ⟨rfl,mV⟩),.inr (.inr ⟨rfl,mV⟩),.inr (.inr ⟨rfl,mV⟩),.inr (.inr ⟨rfl,mV⟩),.inr (.inr ⟨rfl,mV⟩),.inr (.inr ⟨rfl,mV⟩),.inr (.inr ⟨rfl,mV⟩),.inl rfl,.inr (.inr ⟨rfl,mV⟩),.inr (.inr ⟨rfl,mV⟩),.inr (.inr ⟨rfl,mV⟩),.inl rfl,.inr (.inr ⟨rfl,mV⟩),trivial⟩
      simp only [bT,List.length_cons,List.length_nil,Nat.reduceAdd,Cc,Nat.reduceEqDiff,reduceIte,List.getElem?_cons_succ,List.getElem?_cons_zero,Option.getD_some];have h72:=(fh.2 o7 l7 n7).trans h7;have h42:=(fh.2 o4 l4 n4).trans h4;have VW:=(fh.2 o6 hS.l6 n6).trans hS.h6;have nw: ∀x,x<H.next->x∉iU->x∉iB->x∉jU/\x∉jB:=fun x hx h1 h2=>⟨fun h=>by rcases f4 x h with q|q;exact h1 q;omega,fun h=>by rcases f5 x h with q|q;exact h2 q;omega⟩
      obtain⟨Al,vI⟩:=nw o7 l7 hS.Al hS.vI;obtain⟨Mr,Gb⟩:=nw o4 l4 hS.Mr hS.Gb;obtain⟨Jz,Em⟩:=nw o6 hS.l6 hS.Jz hS.Em;have cU:=f2.co;have cB:=f3.co;have oU:=f2.one;have oB:=f3.one;refine Y3 fun fr hfr=> ?_;refine aj ?_;subst hfr;have q0:(cs++[0])[((cs.length:Nat):Int).toNat]? =some c:=e9;have pf:HF [o7] H2 ((H2.put o7 [wU,vB,PV.int IntKind.i64 num,PV.bool w]).put o7 [wU,wB,PV.int IntKind.i64 num,PV.bool w]):=HF.put (.inl (by simp)) (HF.put (.inl (by simp)) (HF.refl _ _));have p7:((H2.put o7 [wU,vB,PV.int IntKind.i64 num,PV.bool w]).put o7 [wU,wB,PV.int IntKind.i64 num,PV.bool w]).obj o7=some [wU,wB,PV.int IntKind.i64 num,PV.bool w]:=if_pos rfl;generalize((H2.put o7 [wU,vB,PV.int IntKind.i64 num,PV.bool w]).put o7 [wU,wB,PV.int IntKind.i64 num,PV.bool w])=H3 at pf p7⊢;have Ms: ∀(j:List Nat),o7∉j->Dj j [o7]:=fun j h x hx hm=>h (List.mem_singleton.1 hm▸hx);have h43:=(pf.2 o4 (Nat.lt_of_lt_of_le l4 fh.1) (by simpa using hS.n47)).trans h42;have h63:=(pf.2 o6 (Nat.lt_of_lt_of_le hS.l6 fh.1) (by simpa using hS.n67)).trans VW;have rU3:=f2.hf pf (Ms _ Al);have rB3:=f3.hf pf (Ms _ vI);refine ahk (g:=g) (t:=t) (num:=num) (w:=w) (o4:=o4) (o7:=o7) (i:=i) (n:=n) (a:=cs.length) (vU:=wU) aH aH aH aH aH h43 p7 rB3 e8 q0 e2 e6 (fun H' σ' g1 g2 fv=> ?_);have f2':=fv.on;refine aj ?_;refine hK _ _ ?_;have Xf: ∀x,x<H.next->x<H3.next:=fun x hx=>Nat.lt_of_lt_of_le hx (Nat.le_trans fh.1 pf.1);have nm: ∀x,x<H.next->x∉jB->H'.obj x=H3.obj x:=fun x hx hm=>g2.2 x (Xf x hx) hm;refine ih (us++[u]) _ _ wU wB jU jB _ H' Q us' cs' ⟨aH,aH,aH,aH,(nm o4 l4 Gb).trans h43,(nm o6 hS.l6 Em).trans h63,(nm o7 l7 vI).trans p7,Nat.lt_of_lt_of_le (Xf _ l4) g2.1,Nat.lt_of_lt_of_le (Xf _ hS.l6) g2.1,Nat.lt_of_lt_of_le (Xf _ l7) g2.1,hS.n47,hS.n67,rU3.hf g2 f6,g1,f6,Mr,Jz,Al,Gb,Em,vI⟩ aH h hQ
  · cases h;refine aj ?_;exact hQ vU vB iU iB _ _ ⟨aH,aH,aH,aH,hS.h4,hS.h6,hS.h7,hS.l4,hS.l6,hS.l7,hS.n47,hS.n67,hS.rU,hS.rB,hS.dj,hS.Mr,hS.Jz,hS.Al,hS.Gb,hS.Em,hS.vI⟩
theorem aCz {g:Fq} {fw:Bool} {o4:Nat} {σ:Nat->PV} {H:AH} {s:List Fm} {Q:Post} (s4:σ 4= .ref o4 0) (s21:σ 21= .bool fw) (h4:H.obj o4=some g.cells)
 (hK: ∀σ',Fv [(22,25)] σ σ'->σ' 24= .bool (fw||g.wide)->WE Tryz.prog .normal s Q σ' H):WO Tryz.prog Kq.Za s Q σ H:=by
 unfold Kq.Za;rcases fw with _|_
 · refine aj ?_;exact hK _ IW (by simp -implicitDefEqProofs only [go_sem,Bool.false_or])
 · refine aj ?_;exact hK _ IW (by simp -implicitDefEqProofs only [go_sem,Bool.true_or])
theorem aCA {num:Int} {w w':Bool} {vU vB:PV} {o7:Nat} {σ:Nat->PV} {H:AH} {s:List Fm} {Q:Post} (s7:σ 7= .ref o7 0) (h7:H.obj o7=some [vU,vB,.int .i64 num,.bool w]) (h:cond w (some true) ((dP num (-1000000000) 1000000000).bind fun q=>some (!q))=some w')
 (hK: ∀σ',Fv [(101,110)] σ σ'->WE Tryz.prog .normal s Q σ' (H.put o7 [vU,vB,.int .i64 num,.bool w'])):WS Tryz.prog Kq.Zd s Q σ H:=by
 unfold Kq.Zd;obtain⟨rfl,h⟩|⟨rfl,h⟩:=aA h
 · cases h;refine aj ?_;exact hK _ IW
 · obtain⟨q,e1,h⟩:=ak h;cases h;refine aj ?_;refine au (iE e1) ?_;refine aj ?_;exact hK _ IW
def qh:Nat->List Int->Bool->Int->Option Bool
 |0,_,_,_=>none
 |k+1,l,b,i=>cond (decide (i<(l.length:Int))) (cond b (qh k l true (IntKind.wrap .i64 (i+1))) (if 0<=i then (l[i.toNat]?).bind fun n=>(dP n (-1000000000) 1000000000).bind fun p=>qh k l (!p) (IntKind.wrap .i64 (i+1))else none)) (some b)
theorem af7 (l:List Int) (vU vB:PV) (j:List Nat) (num:Int) (o6 o7:Nat): ∀(k:Nat) (b:Bool) (i:Int) (σ:Nat->PV) (H:AH) (Q:Post) (b':Bool),σ 11= .int .i64 i->σ 7= .ref o7 0->σ 6= .ref o6 0->H.obj o7=some [vU,vB,.int .i64 num,.bool b]->aG H aK 1 l vB j->o7∉j->o7<H.next->
 qh k l b i=some b'->(∀(σ':Nat->PV) (H':AH),HF [o7] H H'->H'.obj o7=some [vU,vB,.int .i64 num,.bool b']->σ' 7= .ref o7 0->σ' 6= .ref o6 0->Q (.exit 4) σ' H')->W Tryz.prog (.loop Kq.Ze) Q σ H:=by
 intro k
 induction k with
 |zero=>intro b i σ H Q b' s11 s7 s6 h7 hr n7 l7 h hQ;simp only [qh,reduceCtorEq]at h
 |succ k ih=>
  intro b i σ H Q b' s11 s7 s6 h7 hr n7 l7 h hQ;unfold qh at h;refine bA (fun K hK=>aJ ?_);unfold Kq.Ze;have lB:=hr.O1;obtain⟨e1,h⟩|⟨e1,h⟩:=aA h
  · have step: ∀(p:Bool) (σ':Nat->PV),(σ' 11= .int .i64 (IntKind.wrap .i64 (i+1))/\σ' 7= .ref o7 0/\σ' 6= .ref o6 0)->qh k l p (IntKind.wrap .i64 (i+1))=some b'->K σ' (H.put o7 [vU,vB,.int .i64 num,.bool p]):=by
     intro p σ' ⟨t11,t7,t6⟩ h;refine hK _ _ ?_;have pf:HF [o7] H (H.put o7 [vU,vB,.int .i64 num,.bool p]):=HF.put (.inl (by simp)) (HF.refl _ _);exact ih p _ σ' _ Q b' t11 t7 t6 (if_pos rfl) (hr.hf pf (fun x hx hm=>n7 (List.mem_singleton.1 hm▸hx))) n7 l7 h (fun σ2 H2 g1 g2 g3 g4=>hQ σ2 H2 (pf.tr g1) g2 g3 g4)
    obtain⟨rfl,h⟩|⟨rfl,h⟩:=aA h
    · refine aj ?_;first|trivial|exact step true _ ⟨aH,aH,aH⟩ h
    · obtain⟨e2,h⟩:=aZ h;obtain⟨n,e3,h⟩:=ak h;obtain⟨p,e5,h⟩:=ak h;obtain⟨id,C,hid,hlt,hC,hcell,hL,hD,hI⟩:=aG.content hr e3;have hx:jR 1 vB (.int .i64 i)=some (.ref id i.toNat):=by simpa using hI .i64 i e2 rfl
      have hcc:C[i.toNat]? =some (.int .i64 n):=by simpa using hcell 0 _ rfl
      have n7':o7≠id:=fun e=>n7 (by rw [hid,e];simp);refine aj ?_;refine au (iE e5) ?_;refine aj ?_;first|trivial|exact step (!p) _ ⟨aH,aH,aH⟩ h
  · cases h;refine aj ?_;exact hQ _ _ (HF.refl _ _) h7 aH aH
def fM (k:Nat) (f g:Fq) (t:Int):Option Fq:=
 if f.us.length<=1000000/\f.cs.length<=1000000 then
  (uh k g t f.us f.cs 0).bind fun p=>(cond (f.wide||g.wide) (some true) ((dP (IntKind.wrap .i64 (f.num+IntKind.wrap .i64 (t*g.num))) (-1000000000) 1000000000).bind fun q=>some (!q))).bind fun w=>
   (qh k p.2 w 0).bind fun w2=>cond w2 (some ⟨[],[],0,true⟩) (some ⟨p.1,p.2,IntKind.wrap .i64 (f.num+IntKind.wrap .i64 (t*g.num)),false⟩)else none
theorem kG {k:Nat} {f g:Fq} {t:Int} {r:Fq} (h:fM k f g t=some r):aD Tryz.prog 81 [(.agg f.cells),(.agg g.cells),(.int .i64 t)] (.agg r.cells):=by
 refine aD.bH (dA.mem (.cons (.agg _ (Fq.pu _)) (.cons (.agg _ (Fq.pu _)) (.cons (.int _ _) .nil)))) (aM Kq.aGY (by simp) (aJ ?_)) (.agg _ (Fq.pu _));unfold fM at h;unfold Kq.azI;obtain⟨⟨hu,hc⟩,h⟩:=aZ h;obtain⟨p,e7,h⟩:=ak h;obtain⟨w,e8,h⟩:=ak h;obtain⟨w2,e9,hz⟩:=ak h;refine aj ?_;have e4:(((AH.empty.new f.cells).new g.cells).new tT).obj (AH.empty.next+1)=some g.cells:=rfl;refine aCz (g:=g) (fw:=f.wide) (o4:=AH.empty.next+1) aH aH e4 (fun σ1 f1 s24=> ?_);have f1':=f1.on;refine aj ?_;generalize aL8:IntKind.wrap .i64 (f.num+IntKind.wrap .i64 (t*g.num))=num at*;generalize hw0:(f.wide||g.wide)=w0 at*;show WS Tryz.prog _ _ _ _ (((((AH.empty.new f.cells).new g.cells).new tT).new tT).put (AH.empty.next+3) [.ah [] .nil,.ah [] .nil,.int .i64 num,.bool w0]);have a3:(((((AH.empty.new f.cells).new g.cells).new tT).new tT).put (AH.empty.next+3) [.ah [] .nil,.ah [] .nil,.int .i64 num,.bool w0]).obj AH.empty.next=some f.cells:=rfl;have a4:(((((AH.empty.new f.cells).new g.cells).new tT).new tT).put (AH.empty.next+3) [.ah [] .nil,.ah [] .nil,.int .i64 num,.bool w0]).obj (AH.empty.next+1)=some g.cells:=rfl;have a6:(((((AH.empty.new f.cells).new g.cells).new tT).new tT).put (AH.empty.next+3) [.ah [] .nil,.ah [] .nil,.int .i64 num,.bool w0]).obj (AH.empty.next+2)=some tT:=rfl;have a7:(((((AH.empty.new f.cells).new g.cells).new tT).new tT).put (AH.empty.next+3) [.ah [] .nil,.ah [] .nil,.int .i64 num,.bool w0]).obj (AH.empty.next+3)=some [.ah [] .nil,.ah [] .nil,.int .i64 num,.bool w0]:=rfl;have an:(((((AH.empty.new f.cells).new g.cells).new tT).new tT).put (AH.empty.next+3) [.ah [] .nil,.ah [] .nil,.int .i64 num,.bool w0]).next=AH.empty.next+4:=rfl;clear e4;generalize(((((AH.empty.new f.cells).new g.cells).new tT).new tT).put (AH.empty.next+3) [.ah [] .nil,.ah [] .nil,.int .i64 num,.bool w0])=H1 at a3 a4 a6 a7 an⊢;generalize AH.empty.next=o3 at*
 refine aeE (f:=dx Nd.cells) (g:=aK) (fun x=>Le x) sK (xs:=[]) (ys:=f.us) (us:=[]) (ws:=f.cs) (v:= .ah [] .nil) (w:= .ah [] .nil) (i1:=[]) (i2:=[]) (c1:= .unk) (c2:= .unk) 4 9 [.ref (o3+3) 0,.ah [] .nil,.ref o3 0,.ah (f.us.map (dx Nd.cells)) .unk,ud,.ref (o3+3) 1,.ah [] .nil,.ref o3 1,.ah (f.cs.map aK) .unk,ud,.ref (o3+3) 0]
  (by kernel_rfl) (by decide) (by decide+kernel) rfl rfl aG.nil aG.nil Dj.nil (fun _ _=>rfl) (fun _ _=>rfl) (fun _ _=>rfl) (fun _ _=>rfl) (by simp only [List.length_nil];omega) (by simp only [List.length_nil];omega) (fun x y H' hf=> ?_) (fun wU wB H2 jU jB f2 f3 f4 f5 f6 fh=> ?_)
 · have h3':=(hf.2 o3 (by omega) List.not_mem_nil).trans a3;have h7':=(hf.2 (o3+3) (by omega) List.not_mem_nil).trans a7;exact⟨.inr (.inr ⟨rfl,mV⟩),.inr (.inr ⟨rfl,mV⟩),.inr (.inr ⟨rfl,mV⟩),.inr (.inr ⟨rfl,mV⟩),.inl rfl,.inr (.inr ⟨rfl,mV⟩),.inr (.inr ⟨rfl,mV⟩),.inr (.inr ⟨rfl,mV⟩),.inr (.inr ⟨rfl,mV⟩),.inl rfl,.inr (.inr ⟨rfl,mV⟩),trivial⟩
 simp only [bT,List.length_cons,List.length_nil,Nat.reduceAdd,Cc,Nat.reduceEqDiff,reduceIte,List.getElem?_cons_succ,List.getElem?_cons_zero,Option.getD_some];rw [List.nil_append]at f2 f3;have b4:=(fh.2 (o3+1) (by omega) List.not_mem_nil).trans a4;have b6:=(fh.2 (o3+2) (by omega) List.not_mem_nil).trans a6;have b7:=(fh.2 (o3+3) (by omega) List.not_mem_nil).trans a7;have nU: ∀x,x<H1.next->x∉jU/\x∉jB:=fun x hx=>⟨fun h=>by rcases f4 x h with q|q;cases q;omega,fun h=>by rcases f5 x h with q|q;cases q;omega⟩
 have lt2:=fh.1;have cU:=f2.co;have cB:=f3.co;have oU:=f2.one;have oB:=f3.one;refine Y3 fun fr hfr=> ?_;refine aj ?_;subst hfr;generalize ho7:o3+3=o7 at*;have pf:HF [o7] H2 ((H2.put o7 [wU,.ah [] .nil,.int .i64 num,.bool w0]).put o7 [wU,wB,.int .i64 num,.bool w0]):=HF.put (.inl (by simp)) (HF.put (.inl (by simp)) (HF.refl _ _));have p7:((H2.put o7 [wU,.ah [] .nil,.int .i64 num,.bool w0]).put o7 [wU,wB,.int .i64 num,.bool w0]).obj o7=some [wU,wB,.int .i64 num,.bool w0]:=if_pos rfl;have pn:((H2.put o7 [wU,.ah [] .nil,.int .i64 num,.bool w0]).put o7 [wU,wB,.int .i64 num,.bool w0]).next=H2.next:=rfl;show WS Tryz.prog _ _ _ _ ((H2.put o7 [wU,.ah [] .nil,.int .i64 num,.bool w0]).put o7 [wU,wB,.int .i64 num,.bool w0]);generalize((H2.put o7 [wU,.ah [] .nil,.int .i64 num,.bool w0]).put o7 [wU,wB,.int .i64 num,.bool w0])=H3 at pf p7 pn⊢;have Ms: ∀(j:List Nat),o7∉j->Dj j [o7]:=fun j h x hx hm=>h (List.mem_singleton.1 hm▸hx);have n47:o3+1≠o7:=by omega
 have n67:o3+2≠o7:=by omega
 have c4:=(pf.2 (o3+1) (by omega) (by simpa using n47)).trans b4;have c6:=(pf.2 (o3+2) (by omega) (by simpa using n67)).trans b6;refine af6 g t num w0 (o3+1) (o3+2) o7 k f.us f.cs 0 wU wB jU jB _ H3 _ p.1 p.2 ⟨aH,aH,aH,aH,c4,c6,p7,by omega,by omega,by omega,n47,n67,f2.hf pf (Ms _ (nU _ (by omega)).1),f3.hf pf (Ms _ (nU _ (by omega)).2),f6,(nU _ (by omega)).1,(nU _ (by omega)).1,(nU _ (by omega)).1,(nU _ (by omega)).2,(nU _ (by omega)).2,(nU _ (by omega)).2⟩ aH e7 (fun vU vB iU iB σ3 H4 S=> ?_);have t7:=S.s7;have t6:=S.s6;refine aj ?_;refine aCA t7 S.h7 e8 (fun Qk f4'=> ?_);have aL9:=f4'.on;have pf4:HF [o7] H4 (H4.put o7 [vU,vB,.int .i64 num,.bool w]):=HF.put (.inl (by simp)) (HF.refl _ _);have p74:(H4.put o7 [vU,vB,.int .i64 num,.bool w]).obj o7=some [vU,vB,.int .i64 num,.bool w]:=if_pos rfl;generalize(H4.put o7 [vU,vB,.int .i64 num,.bool w])=H5 at pf4 p74⊢;refine aj ?_;refine af7 p.2 vU vB iB num (o3+2) o7 k w 0 _ H5 _ w2 aH aH aH p74 (S.rB.hf pf4 (Ms _ S.vI)) S.vI (Nat.lt_of_lt_of_le S.l7 pf4.1) e9 (fun WW H6 m1 m2 m3 m4=> ?_);have d6:=(m1.2 (o3+2) (Nat.lt_of_lt_of_le S.l6 pf4.1) (by simpa using n67)).trans ((pf4.2 (o3+2) S.l6 (by simpa using n67)).trans S.h6);have oU':=S.rU.one;have oB':=S.rB.one;have rU6:=(S.rU.hf pf4 (Ms _ S.Al)).hf m1 (Ms _ S.Al);have rB6:=(S.rB.hf pf4 (Ms _ S.vI)).hf m1 (Ms _ S.vI);obtain⟨rfl,hz⟩|⟨rfl,hz⟩:=aA hz
 · cases hz;refine aj ?_;exact dU (.cons (cK (fA Nd.pu) [] _) (.cons (cK cZ [] _) (dz (.cons (.pure _ (.bool _)) .nil))))
 · cases hz;refine aj ?_;have pf5: ∀a,HF [o3+2] H6 (H6.put (o3+2) a):=fun a=>HF.put (.inl (by simp)) (HF.refl _ _);have d6': ∀j,(o3+2∉j)->Dj j [o3+2]:=fun j h1 x hx hm=>h1 (List.mem_singleton.1 hm▸hx);exact dU (.cons ((rU6.hf (pf5 _) (d6' _ S.Jz)).fz (fA Nd.pu)) (.cons ((rB6.hf (pf5 _) (d6' _ S.Em)).fz cZ) (dz (.cons (.pure _ (.bool _)) .nil))))
end Go.VL
end
section
namespace Go.VL
variable [Glob] {P:Program} {m:Nat} {d:Option Nat} {l:List (aI×Bool)} {post:List aI} {s:List Fm} {Q:Post} {σ:Nat->PV} {H:AH}
theorem al4 {z:List PV} {ps:List (Nat×Nat×AE)}:GD P m ((⟨d,.r (.build z ps),none⟩,false)::l) post s Q σ H=WTR P m (rop (.build z ps) σ H) d l post s Q σ H:=rfl
attribute [go_sem] al4
end Go.VL
end
section
set_option maxHeartbeats 4000000
namespace Go.VL
open Go.Proofs
def Nt (aB:List Nd) (wV:Str):Option Bool:=
 (yM aB).bind fun p2=>cond (p2.kind==3) (some (p2.text==wV)) (some false)
instance azJ (aB:List Nd) (wV:Str):dN Tryz.prog 64 [(.ah (aB.map Nd.cells) .unk),(.str wV)] (Nt aB wV) (fun r=>(.bool r)):=bZ aEK (by unfold Nt avr;exact bJ)
theorem Xr {aB:List Nd} {wV:Str} {c0:Ck} {r:Bool} (h:Nt aB wV=some r):aD Tryz.prog 64 [(.ah (aB.map Nd.cells) c0),(.str wV)] (.bool r):=((azJ _ _).c _ h).wk (.ah (.same .nil))
def xC (k:Nat) (aB:List Nd):Option (List Nd):=
 (tQ k aB 0).bind fun p2=>some p2
instance aoq (k:Nat) (aB:List Nd):dN Tryz.prog 68 [(.ah (aB.map Nd.cells) .unk)] (xC k aB) (fun r=>(.ah (r.map Nd.cells) .unk)):=bZ am3 (by unfold xC avs;exact bJ)
theorem JG {k:Nat} {aB:List Nd} {c0:Ck} {r:List Nd} (h:xC k aB=some r):aD Tryz.prog 68 [(.ah (aB.map Nd.cells) c0)] (.ah (r.map Nd.cells) .unk):=((aoq _ _).c _ h).wk (.ah .nil)
def Ae (k:Nat) (aB:List Nd):Option (List Nd):=
 (tQ k aB 1).bind fun p2=>some p2
instance al5 (k:Nat) (aB:List Nd):dN Tryz.prog 69 [(.ah (aB.map Nd.cells) .unk)] (Ae k aB) (fun r=>(.ah (r.map Nd.cells) .unk)):=bZ aEL (by unfold Ae avt;exact bJ)
theorem KA {k:Nat} {aB:List Nd} {c0:Ck} {r:List Nd} (h:Ae k aB=some r):aD Tryz.prog 69 [(.ah (aB.map Nd.cells) c0)] (.ah (r.map Nd.cells) .unk):=((al5 _ _).c _ h).wk (.ah .nil)
def Ce (aB:List Nd):Option Bool:=
 cond ((aB.length:Int)==1) ((aB[0]?).bind fun x2=>cond (x2.kind==2) (some (x2.text==([70,65,76,83,69]:Str))) (some false)) (some false)
instance af8 (aB:List Nd):dN Tryz.prog 82 [(.ah (aB.map Nd.cells) .unk)] (Ce aB) (fun r=>(.bool r)):=bZ aES (by unfold Ce avD;exact bJ)
theorem af9 {aB:List Nd} {c0:Ck} {r:Bool} (h:Ce aB=some r):aD Tryz.prog 82 [(.ah (aB.map Nd.cells) c0)] (.bool r):=((af8 _).c _ h).wk (.ah .nil)
def mo:Nat->(List (List Nd))->(List Int)->Int->Bool->Int->Option (Unit⊕Bool)
 |0,_,_,_,_,_=>none
 |k+1,iV,Ib,Nu,Nv,dV=>
  cond (decide (dV<(Ib.length:Int))) (if 0<=dV then (Ib[dV.toNat]?).bind fun x3=>cond (x3 !=0) (some (.inr (false))) (mo k iV Ib Nu Nv (IntKind.wrap .i64 (dV+1)))else none) (some (.inl ()))
def Fh:List Nat:=List.range' 2 15
theorem Xt: ∀(k:Nat) (QW:Nat) (iV:List (List Nd)) (Ib:List Int) (Nu:Int) (Nv:Bool) (dV:Int) (aC σ:Nat->PV) (H:AH) (f0:Fr Fh aC σ) (sl:σ 1=(.ref (QW) 0)/\σ 3=(.int .i64 dV)/\H.obj QW=some [(.ah (iV.map (dx Nd.cells)) .unk),(.ah (Ib.map aK) .unk),(.int .i64 Nu),(.bool Nv)]) (QX:QW<H.next) (o:Unit⊕Bool) (h:mo k iV Ib Nu Nv dV=some o) (Q:Post) (q0: ∀(p:Unit) (σ':Nat->PV),o= .inl p->Fr Fh aC σ'->Q (.exit 0) σ' H) (q1: ∀(p:Bool) (σ':Nat->PV),o= .inr (p)->Fr Fh aC σ'->(σ' 2=(.bool p))->Q .ret σ' H),W Tryz.prog (.loop Yf) Q σ H:=by
 intro k
 induction k with
 |zero=>intro QW iV Ib Nu Nv dV aC σ H f0 sl QX o h Q q0 q1;simp only [mo,reduceCtorEq]at h
 |succ k ih=>
  intro QW iV Ib Nu Nv dV aC σ H f0 sl QX o h Q q0 q1;obtain⟨s1,s3,aHq⟩:=sl;have aHr:=ne_next QX;have aHs:=aO QX;unfold mo at h;refine bA (fun K hK=>aJ ?_);unfold Yf;obtain⟨e1,h⟩|⟨e1,h⟩:=aA h
  ·obtain⟨e2,h⟩:=aZ h;obtain⟨x3,e4,h⟩:=ak h;obtain⟨e5,h⟩|⟨e5,h⟩:=aA h
   ·cases h;refine aj ?_;exact q1 _ _ rfl aN av
   ·refine aj ?_;refine hK _ _ ?_;exact ih QW iV Ib Nu Nv (IntKind.wrap .i64 (dV+1)) _ _ _ aN av aQ _ h _ q0 q1
  ·cases h;refine aj ?_;exact q0 _ _ rfl aN
def jW (k:Nat) (rZ:Fq):Option Bool:=
 Option.bind (mo k rZ.us rZ.cs rZ.num rZ.wide 0) (fun o=>Sum.elim (fun p8=>some (!rZ.wide)) (fun xW=>some xW) o)
theorem zo {k:Nat} {rZ:Fq} {r:Bool} (h:jW k rZ=some r):aD Tryz.prog 83 [(.agg (Fq.cells rZ))] (.bool r):=by
 refine aD.bH (dA.mem (.cons (.agg _ (Fq.pu _)) .nil)) (aM avF (by simp) (aJ ?_)) (.bool _);unfold jW at h;unfold avE;refine aj ?_;obtain⟨o6,h7,h⟩:=ak h;refine Xt k (AH.empty.next) rZ.us rZ.cs rZ.num rZ.wide 0 _ _ _ (Fr.refl _ _) av aQ _ h7 _ ?_ ?_
 ·rintro p8 σ' eo ZY;subst eo;rw [dZ]at h;have s12:σ' 1=(.ref (AH.empty.next) 0):=(ZY 1 (by decide)).trans av;cases h;refine aj ?_;exact(.pure _ (.bool _))
 ·rintro xW σ' eo aMa yU;subst eo;rw [eT]at h;cases h;refine aj ?_;exact(.pure _ (.bool _))
def AZ (FJ:List (List Nd)) (FK:List Int) (HZ:Int) (Et:Bool) (aeG:Bool):Option Bool:=
 cond aeG (some (true)) (some (Et))
theorem abb: ∀(H7:Nat) (FJ:List (List Nd)) (FK:List Int) (HZ:Int) (Et:Bool) (aeG:Bool) (aC σ:Nat->PV) (H:AH) (f0:Fr [55,56,57] aC σ) (sl:σ 5=(.ref (H7) 0)/\σ 54=(.bool aeG)/\H.obj H7=some [(.ah (FJ.map (dx Nd.cells)) .unk),(.ah (FK.map aK) .unk),(.int .i64 HZ),(.bool Et)]) (Fg:H7<H.next) (o:Bool) (h:AZ FJ FK HZ Et aeG=some o) (Q:Post) (q0: ∀(p:Bool) (σ':Nat->PV),o=p->Fr [55,56,57] aC σ'->(σ' 57=(.bool p))->Q .normal σ' H),dM Tryz.prog S9 (Q .normal) σ H:=by
 intro H7 FJ FK HZ Et aeG aC σ H f0 sl Fg o h Q q0;obtain⟨s5,s54,atH⟩:=sl;have atI:=ne_next Fg;have atJ:=aO Fg;unfold AZ at h;refine eO ?_;unfold S9;obtain⟨e50,h⟩|⟨e50,h⟩:=aA h
 ·cases h;refine aj ?_;exact q0 _ _ rfl aN av
 ·cases h;refine aj ?_;exact q0 _ _ rfl aN av
mutual
def ig:Nat->(List Nd)->Option Fq
 |0,_=>none
 |k+1,aB=>
  (yM aB).bind fun p2=>cond (p2.kind==0) (some (Fq.mk [] [] p2.n false)) ((Nt aB ([43]:Str)).bind fun p5=>cond p5 ((xC k aB).bind fun p8=>(ig k p8).bind fun kQ=>(Ae k aB).bind fun pK=>(ig k pK).bind fun mq=>(fM k kQ mq 1).bind fun p16=>some p16) ((Nt aB ([45]:Str)).bind fun uX=>cond uX ((xC k aB).bind fun wY=>(ig k wY).bind fun J9=>(Ae k aB).bind fun p25=>(ig k p25).bind fun p27=>(fM k J9 p27 (-1)).bind fun p29=>some p29) ((Nt aB ([45,46]:Str)).bind fun p31=>cond p31 ((xC k aB).bind fun p34=>(ig k p34).bind fun p36=>(fM k (Fq.mk [] [] 0 false) p36 (-1)).bind fun p38=>some p38) ((Nt aB ([42]:Str)).bind fun p40=>cond p40 ((xC k aB).bind fun p43=>(ig k p43).bind fun p45=>(Ae k aB).bind fun p47=>(ig k p47).bind fun p49=>Option.bind (AZ p49.us p49.cs p49.num p49.wide p45.wide) (fun p53=>cond p53 (some (Fq.mk [] [] 0 true)) ((jW k p45).bind fun p64=>cond p64 ((fM k (Fq.mk [] [] 0 false) p49 p45.num).bind fun p67=>some p67) ((jW k p49).bind fun p69=>cond p69 ((fM k (Fq.mk [] [] 0 false) p45 p49.num).bind fun p72=>some p72) (some (Fq.mk [aB] [1] 0 false)))))) (some (Fq.mk [aB] [1] 0 false))))))
end
mutual
theorem uj (k:Nat): ∀(aB:List Nd) (r:Fq) (h:ig k aB=some r),aD Tryz.prog 148 [(.ah (aB.map Nd.cells) .unk)] (.agg (Fq.cells r)):=by
 match k with
 |0=>intro aB r h;rw [ig]at h;cases h
 |k+1=>
  intro aB r h;refine aD.bH (dA.mem (.cons (bE Nd.pu _) .nil)) (aM aAH (by simp) (aJ ?_)) (.agg _ (Fq.pu _));rw [ig]at h;unfold apa;obtain⟨p2,e1,h⟩:=ak h;refine aj ?_;refine au (UO e1) ?_;obtain⟨e3,h⟩|⟨e3,h⟩:=aA h
  ·cases h;refine aj ?_;exact(dU (.cons (cK (fA Nd.pu) [] _) (.cons (cK cZ [] _) (dz (.cons (.pure _ (.bool _)) .nil)))))
  ·obtain⟨p5,e4,h⟩:=ak h;refine aj ?_;refine au (Xr e4) ?_;obtain⟨e6,h⟩|⟨e6,h⟩:=aA h
   ·obtain⟨p8,e7,h⟩:=ak h;refine aj ?_;refine au (JG e7) ?_;obtain⟨kQ,e9,h⟩:=ak h;refine aj ?_;refine au ((uj k p8 _ e9).wk (.ah .nil)) ?_;obtain⟨pK,e11,h⟩:=ak h;refine aj ?_;refine au (KA e11) ?_;obtain⟨mq,e13,h⟩:=ak h;refine aj ?_;refine au ((uj k pK _ e13).wk (.ah .nil)) ?_;obtain⟨p16,e15,h⟩:=ak h;refine aj ?_;refine au (kG e15) ?_;cases h;refine aj ?_;exact(dU (.cons (cK (fA Nd.pu) _ _) (.cons (cK cZ _ _) (dz (.cons (.pure _ (.bool _)) .nil)))))
   ·obtain⟨uX,e17,h⟩:=ak h;refine aj ?_;refine au (Xr e17) ?_;obtain⟨e19,h⟩|⟨e19,h⟩:=aA h
    ·obtain⟨wY,e20,h⟩:=ak h;refine aj ?_;refine au (JG e20) ?_;obtain⟨J9,e22,h⟩:=ak h;refine aj ?_;refine au ((uj k wY _ e22).wk (.ah .nil)) ?_;obtain⟨p25,e24,h⟩:=ak h;refine aj ?_;refine au (KA e24) ?_;obtain⟨p27,e26,h⟩:=ak h;refine aj ?_;refine au ((uj k p25 _ e26).wk (.ah .nil)) ?_;obtain⟨p29,e28,h⟩:=ak h;refine aj ?_;refine au (kG e28) ?_;cases h;refine aj ?_;exact(dU (.cons (cK (fA Nd.pu) _ _) (.cons (cK cZ _ _) (dz (.cons (.pure _ (.bool _)) .nil)))))
    ·obtain⟨p31,e30,h⟩:=ak h;refine aj ?_;refine au (Xr e30) ?_;obtain⟨e32,h⟩|⟨e32,h⟩:=aA h
     ·obtain⟨p34,e33,h⟩:=ak h;refine aj ?_;refine au (JG e33) ?_;obtain⟨p36,e35,h⟩:=ak h;refine aj ?_;refine au ((uj k p34 _ e35).wk (.ah .nil)) ?_;obtain⟨p38,e37,h⟩:=ak h;refine aj ?_;refine au (aD.wx (kG e37) (.agg (.ah (.ah (.same (.same .nil)))) (.same (.same .nil)))) ?_;cases h;refine aj ?_;exact(dU (.cons (cK (fA Nd.pu) _ _) (.cons (cK cZ _ _) (dz (.cons (.pure _ (.bool _)) .nil)))))
     ·obtain⟨p40,e39,h⟩:=ak h;refine aj ?_;refine au (Xr e39) ?_;obtain⟨e41,h⟩|⟨e41,h⟩:=aA h
      ·obtain⟨p43,e42,h⟩:=ak h;refine aj ?_;refine au (JG e42) ?_;obtain⟨p45,e44,h⟩:=ak h;refine aj ?_;refine au ((uj k p43 _ e44).wk (.ah .nil)) ?_;obtain⟨p47,e46,h⟩:=ak h;refine aj ?_;refine au (KA e46) ?_;obtain⟨p49,e48,h⟩:=ak h;refine aj ?_;refine au ((uj k p47 _ e48).wk (.ah .nil)) ?_;refine aj ?_;obtain⟨o51,h52,h⟩:=ak h;refine abb (AH.empty.next+3) p49.us p49.cs p49.num p49.wide p45.wide _ _ _ (Fr.refl _ _) av aQ _ h52 _ ?_
       ·rintro p53 σ' eo ajm s57;rw [eo]at h;have s58:σ' 0=(.ah (aB.map Nd.cells) .unk):=(ajm 0 (by decide)).trans av;have s59:σ' 2=(.ref (AH.empty.next) 0):=(ajm 2 (by decide)).trans av;have s60:σ' 4=(.ref (AH.empty.next+2) 0):=(ajm 4 (by decide)).trans av;have s61:σ' 5=(.ref (AH.empty.next+3) 0):=(ajm 5 (by decide)).trans av;obtain⟨e62,h⟩|⟨e62,h⟩:=aA h
        ·cases h;refine aj ?_;exact(dU (.cons (cK (fA Nd.pu) [] _) (.cons (cK cZ [] _) (dz (.cons (.pure _ (.bool _)) .nil)))))
        ·obtain⟨p64,e63,h⟩:=ak h;refine aj ?_;refine au (zo e63) ?_;obtain⟨e65,h⟩|⟨e65,h⟩:=aA h
         ·obtain⟨p67,e66,h⟩:=ak h;refine aj ?_;refine au (aD.wx (kG e66) (.agg (.ah (.ah (.same (.same .nil)))) (.same (.same .nil)))) ?_;cases h;refine aj ?_;exact(dU (.cons (cK (fA Nd.pu) _ _) (.cons (cK cZ _ _) (dz (.cons (.pure _ (.bool _)) .nil)))))
         ·obtain⟨p69,e68,h⟩:=ak h;refine aj ?_;refine au (zo e68) ?_;obtain⟨ZM,h⟩|⟨ZM,h⟩:=aA h
          ·obtain⟨p72,e71,h⟩:=ak h;refine aj ?_;refine au (aD.wx (kG e71) (.agg (.ah (.ah (.same (.same .nil)))) (.same (.same .nil)))) ?_;cases h;refine aj ?_;exact(dU (.cons (cK (fA Nd.pu) _ _) (.cons (cK cZ _ _) (dz (.cons (.pure _ (.bool _)) .nil)))))
          ·cases h;refine aj ?_;exact(dU (.cons (cK (fA Nd.pu) [aB] _) (.cons (cK cZ [1] _) (dz (.cons (.pure _ (.bool _)) .nil)))))
      ·cases h;refine aj ?_;exact(dU (.cons (cK (fA Nd.pu) [aB] _) (.cons (cK cZ [1] _) (dz (.cons (.pure _ (.bool _)) .nil)))))
end
theorem Xu {k:Nat} {aB:List Nd} {c0:Ck} {r:Fq} (h:ig k aB=some r):aD Tryz.prog 148 [(.ah (aB.map Nd.cells) c0)] (.agg (Fq.cells r)):=(uj k aB r h).wk (.ah .nil)
def um (bD:Int) (bQ:Int) (bK:Str) (bX:List Str) (dh:List Int) (fH:Bool):Option Bool:=
 cond fH (some (true)) (some (((dh.length:Int) !=2)))
def JH:List Nat:=[14,15,16,17,18]
theorem Q5: ∀(dD:Nat) (bD:Int) (bQ:Int) (bK:Str) (bX:List Str) (dh:List Int) (fH:Bool) (aC σ:Nat->PV) (H:AH) (f0:Fr JH aC σ) (sl:σ 5=(.ref (dD) 0)/\σ 13=(.bool fH)/\H.obj dD=some [(.int .i64 bD),(.int .i64 bQ),(.str bK),(.ah (bX.map aF) .unk),(.ah (dh.map aK) .unk)]) (dG:dD<H.next) (o:Bool) (h:um bD bQ bK bX dh fH=some o) (Q:Post) (q0: ∀(p:Bool) (σ':Nat->PV),o=p->Fr JH aC σ'->(σ' 18=(.bool p))->Q .normal σ' H),dM Tryz.prog Ye (Q .normal) σ H:=by
 intro dD bD bQ bK bX dh fH aC σ H f0 sl dG o h Q q0;obtain⟨s5,s13,zG⟩:=sl;have zH:=ne_next dG;have zI:=aO dG;unfold um at h;refine eO ?_;unfold Ye;obtain⟨e3,h⟩|⟨e3,h⟩:=aA h
 ·cases h;refine aj ?_;exact q0 _ _ rfl aN av
 ·cases h;refine aj ?_;exact q0 _ _ rfl aN av
def jE (k:Nat) (aB:List Nd):Option (Fq×Bool×Bool):=
 (yM aB).bind fun p2=>Option.bind (um p2.kind p2.n p2.text p2.names p2.args (p2.kind !=3)) (fun p6=>cond p6 (some ((Fq.mk [] [] 0 false),false,false)) ((xC k aB).bind fun p16=>(ig k p16).bind fun uX=>(Ae k aB).bind fun Dh=>(ig k Dh).bind fun rP=>cond (p2.text==([60,61]:Str)) ((fM k rP uX (-1)).bind fun p25=>some (p25,false,true)) (cond (p2.text==([60]:Str)) ((fM k rP uX (-1)).bind fun p28=>(fM k p28 (Fq.mk [] [] (-1) false) 1).bind fun p30=>some (p30,false,true)) (cond (p2.text==([62,61]:Str)) ((fM k uX rP (-1)).bind fun p33=>some (p33,false,true)) (cond (p2.text==([62]:Str)) ((fM k uX rP (-1)).bind fun p36=>(fM k p36 (Fq.mk [] [] (-1) false) 1).bind fun p38=>some (p38,false,true)) (cond (p2.text==([61]:Str)) ((fM k uX rP (-1)).bind fun p41=>some (p41,true,true)) (some ((Fq.mk [] [] 0 false),false,false))))))))
theorem Mv {k:Nat} {aB:List Nd} {c0:Ck} {r:Fq×Bool×Bool} (h:jE k aB=some r):aD Tryz.prog 80 [(.ah (aB.map Nd.cells) c0)] (.dn [(.agg (Fq.cells r.1)),(.bool r.2.1),(.bool r.2.2)]):=by
 refine aD.lw (.ah .nil) (aD.bH (dA.mem (.cons (bE Nd.pu _) .nil)) (aM am5 (by simp) (aJ ?_)) (.dn _ (dA.mem (.cons (.agg _ (Fq.pu _)) (.cons (.bool _) (.cons (.bool _) .nil))))));unfold jE at h;unfold avC;obtain⟨p2,e1,h⟩:=ak h;refine aj ?_;refine au (UO e1) ?_;refine aj ?_;obtain⟨o4,h5,h⟩:=ak h;refine Q5 (AH.empty.next+1) p2.kind p2.n p2.text p2.names p2.args (p2.kind !=3) _ _ _ (Fr.refl _ _) av aQ _ h5 _ ?_
 ·rintro p6 σ' eo fr7 s10;rw [eo]at h;have s11:σ' 0=(.ah (aB.map Nd.cells) .unk):=(fr7 0 (by decide)).trans av;have s12:σ' 2=(.ref (AH.empty.next) 0):=(fr7 2 (by decide)).trans av;have s13:σ' 5=(.ref (AH.empty.next+1) 0):=(fr7 5 (by decide)).trans av;obtain⟨e14,h⟩|⟨e14,h⟩:=aA h
  ·cases h;refine aj ?_;exact(jr (.cons (dU (.cons (cK (fA Nd.pu) [] _) (.cons (cK cZ [] _) (dz (.cons (.pure _ (.bool _)) .nil))))) (.cons (.pure _ (.bool _)) (.cons (.pure _ (.bool _)) .nil))))
  ·obtain⟨p16,e15,h⟩:=ak h;refine aj ?_;refine au (JG e15) ?_;obtain⟨uX,e17,h⟩:=ak h;refine aj ?_;refine au (Xu e17) ?_;obtain⟨Dh,e19,h⟩:=ak h;refine aj ?_;refine au (KA e19) ?_;obtain⟨rP,e21,h⟩:=ak h;refine aj ?_;refine au (Xu e21) ?_;obtain⟨e23,h⟩|⟨e23,h⟩:=aA h
   ·obtain⟨p25,e24,h⟩:=ak h;refine aj ?_;refine au (kG e24) ?_;cases h;refine aj ?_;exact(jr (.cons (dU (.cons (cK (fA Nd.pu) _ _) (.cons (cK cZ _ _) (dz (.cons (.pure _ (.bool _)) .nil))))) (.cons (.pure _ (.bool _)) (.cons (.pure _ (.bool _)) .nil))))
   ·obtain⟨e26,h⟩|⟨e26,h⟩:=aA h
    ·obtain⟨p28,e27,h⟩:=ak h;refine aj ?_;refine au (kG e27) ?_;obtain⟨p30,e29,h⟩:=ak h;refine aj ?_;refine au (aD.wx (kG e29) (.same (.agg (.ah (.ah (.same (.same .nil)))) (.same .nil)))) ?_;cases h;refine aj ?_;exact(jr (.cons (dU (.cons (cK (fA Nd.pu) _ _) (.cons (cK cZ _ _) (dz (.cons (.pure _ (.bool _)) .nil))))) (.cons (.pure _ (.bool _)) (.cons (.pure _ (.bool _)) .nil))))
    ·obtain⟨e31,h⟩|⟨e31,h⟩:=aA h
     ·obtain⟨p33,e32,h⟩:=ak h;refine aj ?_;refine au (kG e32) ?_;cases h;refine aj ?_;exact(jr (.cons (dU (.cons (cK (fA Nd.pu) _ _) (.cons (cK cZ _ _) (dz (.cons (.pure _ (.bool _)) .nil))))) (.cons (.pure _ (.bool _)) (.cons (.pure _ (.bool _)) .nil))))
     ·obtain⟨e34,h⟩|⟨e34,h⟩:=aA h
      ·obtain⟨p36,e35,h⟩:=ak h;refine aj ?_;refine au (kG e35) ?_;obtain⟨p38,e37,h⟩:=ak h;refine aj ?_;refine au (aD.wx (kG e37) (.same (.agg (.ah (.ah (.same (.same .nil)))) (.same .nil)))) ?_;cases h;refine aj ?_;exact(jr (.cons (dU (.cons (cK (fA Nd.pu) _ _) (.cons (cK cZ _ _) (dz (.cons (.pure _ (.bool _)) .nil))))) (.cons (.pure _ (.bool _)) (.cons (.pure _ (.bool _)) .nil))))
      ·obtain⟨e39,h⟩|⟨e39,h⟩:=aA h
       ·obtain⟨p41,e40,h⟩:=ak h;refine aj ?_;refine au (kG e40) ?_;cases h;refine aj ?_;exact(jr (.cons (dU (.cons (cK (fA Nd.pu) _ _) (.cons (cK cZ _ _) (dz (.cons (.pure _ (.bool _)) .nil))))) (.cons (.pure _ (.bool _)) (.cons (.pure _ (.bool _)) .nil))))
       ·cases h;refine aj ?_;exact(jr (.cons (dU (.cons (cK (fA Nd.pu) [] _) (.cons (cK cZ [] _) (dz (.cons (.pure _ (.bool _)) .nil))))) (.cons (.pure _ (.bool _)) (.cons (.pure _ (.bool _)) .nil))))
def vL (aL:List Int) (mW:Int) (A8:Bool) (Je:Bool):Option Bool:=
 cond Je (some (true)) (cond A8 (if 0<=mW then (aL[mW.toNat]?).bind fun x10=>(dP x10 (-10000) 10000).bind fun xW=>some ((!xW))else none) (if 0<=mW then (aL[mW.toNat]?).bind fun Z5=>cond (decide (Z5<0)) (some (true)) ((dP Z5 (-10000) 10000).bind fun Ew=>some ((!Ew)))else none))
def Om:List Nat:=List.range' 37 18
theorem Zf: ∀(aL:List Int) (mW:Int) (A8:Bool) (Je:Bool) (aC σ:Nat->PV) (H:AH) (f0:Fr Om aC σ) (sl:σ 1=(.ah (aL.map aK) .unk)/\σ 9=(.int .i64 mW)/\σ 11=(.bool A8)/\σ 36=(.bool Je)) (o:Bool) (h:vL aL mW A8 Je=some o) (Q:Post) (q0: ∀(p:Bool) (σ':Nat->PV),o=p->Fr Om aC σ'->(σ' 54=(.bool p))->Q .normal σ' H),dM Tryz.prog XT (Q .normal) σ H:=by
 intro aL mW A8 Je aC σ H f0 sl o h Q q0;obtain⟨s1,s9,s11,s36⟩:=sl;unfold vL at h;refine eO ?_;unfold XT;obtain⟨e7,h⟩|⟨e7,h⟩:=aA h
 ·cases h;refine aj ?_;exact q0 _ _ rfl aN av
 ·obtain⟨e8,h⟩|⟨e8,h⟩:=aA h
  ·obtain⟨e9,h⟩:=aZ h;obtain⟨x10,e11,h⟩:=ak h;obtain⟨xW,e12,h⟩:=ak h;refine aj ?_;refine au (iE e12) ?_;cases h;refine aj ?_;exact q0 _ _ rfl aN av
  ·obtain⟨e14,h⟩:=aZ h;obtain⟨Z5,e16,h⟩:=ak h;obtain⟨e17,h⟩|⟨e17,h⟩:=aA h
   ·cases h;refine aj ?_;exact q0 _ _ rfl aN av
   ·obtain⟨Ew,e18,h⟩:=ak h;refine aj ?_;refine au (iE e18) ?_;cases h;refine aj ?_;exact q0 _ _ rfl aN av
def fO:Nat->(List (List Nd))->(List Int)->(List (List Nd))->(List Int)->Int->Bool->Bool->Int->Option ((Bool×(List (List Nd))×(List Int)×Int×Bool)⊕(Bool×(List (List Nd))×(List Int)×Int×Bool))
 |0,_,_,_,_,_,_,_,_=>none
 |k+1,aX,aL,iO,iP,iQ,jf,gQ,mW=>
  cond (decide (mW<(aX.length:Int))) (if 0<=mW then (aX[mW.toNat]?).bind fun x3=>(jE k x3).bind fun p6=>Option.bind (vL aL mW p6.2.1 (!p6.2.2)) (fun rP=>cond rP (some (.inr ((false,iO,iP,iQ,jf)))) (cond gQ ((aL[mW.toNat]?).bind fun ZF=>(fM k (Fq.mk iO iP iQ jf) p6.1 ZF).bind fun p39=>fO k aX aL p39.us p39.cs p39.num p39.wide p6.2.1 (IntKind.wrap .i64 (mW+1))) ((aL[mW.toNat]?).bind fun x40=>(fM k (Fq.mk iO iP iQ jf) p6.1 x40).bind fun p43=>fO k aX aL p43.us p43.cs p43.num p43.wide false (IntKind.wrap .i64 (mW+1)))))else none) (some (.inl (gQ,iO,iP,iQ,jf)))
def Gz:List Nat:=[6,8,9,10,11,12]++List.range' 19 47
theorem Zg: ∀(k:Nat) (eP:Nat) (aX:List (List Nd)) (aL:List Int) (iO:List (List Nd)) (iP:List Int) (iQ:Int) (jf:Bool) (gQ:Bool) (mW:Int) (zq:Ck) (zu:Ck) (aC σ:Nat->PV) (H0 H:AH) (f0:Fr Gz aC σ) (hf0:HF [eP] H0 H) (sl:σ 0=(.ah (aX.map (dx Nd.cells)) .unk)/\σ 1=(.ah (aL.map aK) .unk)/\σ 7=(.ref (eP) 0)/\σ 8=(.bool gQ)/\σ 9=(.int .i64 mW)/\H.obj eP=some [(.ah (iO.map (dx Nd.cells)) zq),(.ah (iP.map aK) zu),(.int .i64 iQ),(.bool jf)]) (mX:eP<H.next) (o:(Bool×(List (List Nd))×(List Int)×Int×Bool)⊕(Bool×(List (List Nd))×(List Int)×Int×Bool)) (h:fO k aX aL iO iP iQ jf gQ mW=some o) (Q:Post) (q0: ∀(p:Bool×(List (List Nd))×(List Int)×Int×Bool) (c1:Ck) (c2:Ck) (σ':Nat->PV) (H':AH),o= .inl p->Fr Gz aC σ'->HF [eP] H0 H'->(σ' 8=(.bool p.1)/\H'.obj eP=some [(.ah (p.2.1.map (dx Nd.cells)) c1),(.ah (p.2.2.1.map aK) c2),(.int .i64 p.2.2.2.1),(.bool p.2.2.2.2)])->Q (.exit 0) σ' H') (q1: ∀(p:Bool×(List (List Nd))×(List Int)×Int×Bool) (c1:Ck) (c2:Ck) (σ':Nat->PV) (H':AH),o= .inr (p)->Fr Gz aC σ'->HF [eP] H0 H'->(σ' 6=(.bool p.1)/\H'.obj eP=some [(.ah (p.2.1.map (dx Nd.cells)) c1),(.ah (p.2.2.1.map aK) c2),(.int .i64 p.2.2.2.1),(.bool p.2.2.2.2)])->Q .ret σ' H'),W Tryz.prog (.loop XU) Q σ H:=by
 intro k
 induction k with
 |zero=>intro eP aX aL iO iP iQ jf gQ mW zq zu aC σ H0 H f0 hf0 sl mX o h Q q0 q1;simp only [fO,reduceCtorEq]at h
 |succ k ih=>
  intro eP aX aL iO iP iQ jf gQ mW zq zu aC σ H0 H f0 hf0 sl mX o h Q q0 q1;obtain⟨s0,s1,s7,s8,s9,aaw⟩:=sl;have aax:=ne_next mX;have aay:=aO mX;have hle0:=hf0.1;unfold fO at h;refine bA (fun K hK=>aJ ?_);unfold XU;obtain⟨e1,h⟩|⟨e1,h⟩:=aA h
  ·obtain⟨e2,h⟩:=aZ h;obtain⟨x3,e4,h⟩:=ak h;obtain⟨p6,e5,h⟩:=ak h;refine aj ?_;refine au (Mv e5) ?_;refine aj ?_;obtain⟨o20,h21,h⟩:=ak h;refine Zf aL mW p6.2.1 (!p6.2.2) _ _ _ (Fr.refl _ _) av _ h21 _ ?_
   ·rintro rP σ' eo Vh s26;rw [eo]at h;have s27:σ' 0=(.ah (aX.map (dx Nd.cells)) .unk):=(Vh 0 (by decide)).trans av;have s28:σ' 1=(.ah (aL.map aK) .unk):=(Vh 1 (by decide)).trans av;have s29:σ' 7=(.ref (eP) 0):=(Vh 7 (by decide)).trans av;have s30:σ' 8=(.bool gQ):=(Vh 8 (by decide)).trans av;have s31:σ' 9=(.int .i64 mW):=(Vh 9 (by decide)).trans av;have s32:σ' 10=(.ref (H.next) 0):=(Vh 10 (by decide)).trans av;have s33:σ' 11=(.bool p6.2.1):=(Vh 11 (by decide)).trans av;obtain⟨e34,h⟩|⟨e34,h⟩:=aA h
    ·cases h;refine aj ?_;exact q1 _ zq zu _ _ rfl rY nL av
    ·obtain⟨e35,h⟩|⟨e35,h⟩:=aA h
     ·refine aj ?_;refine jI ?_;obtain⟨ZF,e37,h⟩:=ak h;obtain⟨p39,e38,h⟩:=ak h;refine aj ?_;refine au (aD.wx (kG e38) (.agg (.ah (.ah (.same (.same .nil)))) (.same (.same .nil)))) ?_;refine aj ?_;refine hK _ _ ?_;exact ih eP aX aL p39.us p39.cs p39.num p39.wide p6.2.1 (IntKind.wrap .i64 (mW+1)) .unk .unk _ _ _ _ rY nL av aQ _ h _ q0 q1
     ·refine aj ?_;refine jI ?_;obtain⟨x40,e41,h⟩:=ak h;obtain⟨p43,e42,h⟩:=ak h;refine aj ?_;refine au (aD.wx (kG e42) (.agg (.ah (.ah (.same (.same .nil)))) (.same (.same .nil)))) ?_;refine aj ?_;refine hK _ _ ?_;exact ih eP aX aL p43.us p43.cs p43.num p43.wide false (IntKind.wrap .i64 (mW+1)) .unk .unk _ _ _ _ rY nL av aQ _ h _ q0 q1
  ·cases h;refine aj ?_;exact q0 _ zq zu _ _ rfl aN nL av
def zw (iO:List (List Nd)) (iP:List Int) (iQ:Int) (jf:Bool) (aeI:Bool):Option Bool:=
 cond aeI (some ((decide (iQ<0)))) (some (false))
theorem Zh: ∀(eP:Nat) (iO:List (List Nd)) (iP:List Int) (iQ:Int) (jf:Bool) (aeI:Bool) (Qz:Ck) (QA:Ck) (aC σ:Nat->PV) (H:AH) (f0:Fr [71,72,73,74] aC σ) (sl:σ 7=(.ref (eP) 0)/\σ 70=(.bool aeI)/\H.obj eP=some [(.ah (iO.map (dx Nd.cells)) Qz),(.ah (iP.map aK) QA),(.int .i64 iQ),(.bool jf)]) (mX:eP<H.next) (o:Bool) (h:zw iO iP iQ jf aeI=some o) (Q:Post) (q0: ∀(p:Bool) (σ':Nat->PV),o=p->Fr [71,72,73,74] aC σ'->(σ' 74=(.bool p))->Q .normal σ' H),dM Tryz.prog XV (Q .normal) σ H:=by
 intro eP iO iP iQ jf aeI Qz QA aC σ H f0 sl mX o h Q q0;obtain⟨s7,s70,aaw⟩:=sl;have aax:=ne_next mX;have aay:=aO mX;unfold zw at h;refine eO ?_;unfold XV;obtain⟨e64,h⟩|⟨e64,h⟩:=aA h
 ·cases h;refine aj ?_;exact q0 _ _ rfl aN av
 ·cases h;refine aj ?_;exact q0 _ _ rfl aN av
def zx (k:Nat) (Gf:List (List Nd)) (Gg:List Int) (Cg:Int) (Gi:Bool) (aeJ:Bool):Option Bool:=
 cond aeJ ((jW k (Fq.mk Gf Gg Cg Gi)).bind fun xX=>cond xX (some ((Cg==0))) (some (false))) (some (false))
def Oo:List Nat:=List.range' 89 8
theorem Zi (k:Nat): ∀(KC:Nat) (Gf:List (List Nd)) (Gg:List Int) (Cg:Int) (Gi:Bool) (aeJ:Bool) (aC σ:Nat->PV) (H:AH) (f0:Fr Oo aC σ) (sl:σ 16=(.ref (KC) 0)/\σ 88=(.bool aeJ)/\H.obj KC=some [(.ah (Gf.map (dx Nd.cells)) .unk),(.ah (Gg.map aK) .unk),(.int .i64 Cg),(.bool Gi)]) (KY:KC<H.next) (o:Bool) (h:zx k Gf Gg Cg Gi aeJ=some o) (Q:Post) (q0: ∀(p:Bool) (σ':Nat->PV),o=p->Fr Oo aC σ'->(σ' 96=(.bool p))->Q .normal σ' H),dM Tryz.prog XW (Q .normal) σ H:=by
 intro KC Gf Gg Cg Gi aeJ aC σ H f0 sl KY o h Q q0;obtain⟨s16,s88,azZ⟩:=sl;have az0:=ne_next KY;have az1:=aO KY;unfold zx at h;refine eO ?_;unfold XW;obtain⟨e78,h⟩|⟨e78,h⟩:=aA h
 ·obtain⟨xX,e79,h⟩:=ak h;refine aj ?_;refine au (zo e79) ?_;obtain⟨e81,h⟩|⟨e81,h⟩:=aA h
  ·cases h;refine aj ?_;exact q0 _ _ rfl aN av
  ·cases h;refine aj ?_;exact q0 _ _ rfl aN av
 ·cases h;refine aj ?_;exact q0 _ _ rfl aN av
def vZ (k:Nat) (aX:List (List Nd)) (aL:List Int) (dX:List Nd):Option Bool:=
 Option.bind (fO k aX aL ([]:List (List Nd)) ([]:List Int) 0 false true 0) (fun o=>Sum.elim (fun p46=>(Ce dX).bind fun p60=>cond p60 ((jW k (Fq.mk p46.2.1 p46.2.2.1 p46.2.2.2.1 p46.2.2.2.2)).bind fun p63=>Option.bind (zw p46.2.1 p46.2.2.1 p46.2.2.2.1 p46.2.2.2.2 p63) (fun p67=>some p67)) ((jE k dX).bind fun p73=>cond p73.2.2 (cond p73.2.1 ((fM k (Fq.mk p46.2.1 p46.2.2.1 p46.2.2.2.1 p46.2.2.2.2) p73.1 (-1)).bind fun Ey=>Option.bind (zx k Ey.us Ey.cs Ey.num Ey.wide p46.1) (fun Rj=>some Rj)) ((fM k (Fq.mk [] [] (-1) false) p73.1 (-1)).bind fun Rk=>(fM k (Fq.mk p46.2.1 p46.2.2.1 p46.2.2.2.1 p46.2.2.2.2) Rk 1).bind fun N7=>(jW k N7).bind fun NP=>cond NP (some (decide (N7.num<0))) (some false))) (some false))) (fun p96=>some p96.1) o)
theorem aga {k:Nat} {aX:List (List Nd)} {aL:List Int} {dX:List Nd} {c0 c1 c2:Ck} {r:Bool} (h:vZ k aX aL dX=some r):aD Tryz.prog 26 [(.ah (aX.map (dx Nd.cells)) c0),(.ah (aL.map aK) c1),(.ah (dX.map Nd.cells) c2)] (.bool r):=by
 refine aD.lw (.ah (.ah (.ah .nil))) (aD.bH (dA.mem (.cons (bE (fA Nd.pu) _) (.cons (bE cZ _) (.cons (bE Nd.pu _) .nil)))) (aM aED (by simp) (aJ ?_)) (.bool _));unfold vZ at h;unfold avj;refine aj ?_;obtain⟨o44,h45,h⟩:=ak h;refine Zg k (AH.empty.next) aX aL ([]:List (List Nd)) ([]:List Int) 0 false true 0 .nil .nil _ _ _ _ (Fr.refl _ _) (HF.refl _ _) av aQ _ h45 _ ?_ ?_
 ·rintro p46 c51 c52 σ' H49 eo azK aGZ ⟨s50,g53⟩;subst eo;rw [dZ]at h;have s54:σ' 2=(.ah (dX.map Nd.cells) .unk):=(azK 2 (by decide)).trans av;have s55:σ' 7=(.ref (AH.empty.next) 0):=(azK 7 (by decide)).trans av;have le:=aGZ.1;try simp only [AH.aS,AH.aT,AH.aU,AH.aV]at le
  have n57:=ne_next (show AH.empty.next<H49.next from aQ);have m58:=aO (show AH.empty.next<H49.next from aQ);obtain⟨p60,e59,h⟩:=ak h;refine aj ?_;refine au (af9 e59) ?_;obtain⟨e61,h⟩|⟨e61,h⟩:=aA h
  ·obtain⟨p63,e62,h⟩:=ak h;refine aj ?_;refine au (aD.wx (zo e62) (.agg (.ah (.ah (.same (.same .nil)))) .nil)) ?_;refine aj ?_;obtain⟨o65,h66,h⟩:=ak h;refine Zh (AH.empty.next) p46.2.1 p46.2.2.1 p46.2.2.2.1 p46.2.2.2.2 p63 c51 c52 _ _ _ (Fr.refl _ _) av aQ _ h66 _ ?_
   ·rintro p67 σ' eo aMb s71;rw [eo]at h;cases h;refine aj ?_;exact(.pure _ (.bool _))
  ·obtain⟨p73,e72,h⟩:=ak h;refine aj ?_;refine au (Mv e72) ?_;obtain⟨e74,h⟩|⟨e74,h⟩:=aA h
   ·obtain⟨e75,h⟩|⟨e75,h⟩:=aA h
    ·obtain⟨Ey,e76,h⟩:=ak h;refine aj ?_;refine au (aD.wx (kG e76) (.agg (.ah (.ah (.same (.same .nil)))) (.same (.same .nil)))) ?_;refine aj ?_;obtain⟨o82,h83,h⟩:=ak h;refine Zi k (H49.next+1) Ey.us Ey.cs Ey.num Ey.wide p46.1 _ _ _ (Fr.refl _ _) av aQ _ h83 _ ?_
     ·rintro Rj σ' eo aMc s88;rw [eo]at h;cases h;refine aj ?_;exact(.pure _ (.bool _))
    ·refine aj ?_;refine agv (H49.next+1) ?_;obtain⟨Rk,e89,h⟩:=ak h;refine aj ?_;refine PC.mk (aD.wx (kG e89) (.agg (.ah (.ah (.same (.same .nil)))) (.same (.same .nil)))) ?_;obtain⟨N7,e91,h⟩:=ak h;refine aj ?_;refine PC.mk (aD.wx (kG e91) (.agg (.ah (.ah (.same (.same .nil)))) (.same (.same .nil)))) ?_;obtain⟨NP,VR,h⟩:=ak h;refine aj ?_;refine au (zo VR) ?_;obtain⟨e95,h⟩|⟨e95,h⟩:=aA h
     ·cases h;refine aj ?_;exact(.pure _ (.bool _))
     ·cases h;refine aj ?_;exact(.pure _ (.bool _))
   ·cases h;refine aj ?_;exact(.pure _ (.bool _))
 ·rintro p96 aMd aMe σ' H99 eo aMf aG0 ⟨anD,aMg⟩;subst eo;rw [eT]at h;have le:=aG0.1;try simp only [AH.aS,AH.aT,AH.aU,AH.aV]at le
  cases h;refine aj ?_;exact(.pure _ (.bool _))
def fu:Nat->(List (List Nd))->Int->Option (Unit⊕Int)
 |0,_,_=>none
 |k+1,aX,gZ=>
  cond (decide (gZ<(aX.length:Int))) (if 0<=gZ then (aX[gZ.toNat]?).bind fun x5=>(Fx k x5).bind fun p8=>cond (p8 !=0) (some (.inr (p8))) (fu k aX (IntKind.wrap .i64 (gZ+1)))else none) (some (.inl ()))
instance amg (k:Nat): ∀(aX:List (List Nd)) (gZ:Int),Lp Tryz.prog (.loop XQ) (fu k aX gZ) [(6,9),(16,30)] [(0,(.ah (aX.map (dx Nd.cells)) .unk)),(7,(.int .i64 gZ))] (Sum.elim (fun p=>(.exit 0,[])) (fun p=>(.ret,[(6,(.int .i64 p))]))):=by
 induction k with
 |zero=>exact fun _ _=>qL rfl
 |succ k ih=>exact fun _ _=>qM XQ.eq_1 (by unfold fu;exact bW)
def jX:Nat->(List Int)->Int->Option (Unit⊕Int)
 |0,_,_=>none
 |k+1,aL,mW=>
  cond (decide (mW<(aL.length:Int))) (if 0<=mW then (aL[mW.toNat]?).bind fun x22=>(dP x22 (-10000) 10000).bind fun p25=>cond p25 (jX k aL (IntKind.wrap .i64 (mW+1))) (some (.inr (3)))else none) (some (.inl ()))
instance amh (k:Nat): ∀(aL:List Int) (mW:Int),Lp Tryz.prog (.loop XR) (jX k aL mW) [(6,7),(9,10),(35,47)] [(1,(.ah (aL.map aK) .unk)),(9,(.int .i64 mW))] (Sum.elim (fun p=>(.exit 2,[])) (fun p=>(.ret,[(6,(.int .i64 p))]))):=by
 induction k with
 |zero=>exact fun _ _=>qL rfl
 |succ k ih=>exact fun _ _=>qM XR.eq_1 (by unfold jX;exact bW)
def lX (k:Nat) (aX:List (List Nd)) (aL:List Int) (dX:List Nd):Option Int:=
 cond ((aX.length:Int)==0) (some 1) (cond (decide ((aX.length:Int)>12)) (some 2) (Option.bind (fu k aX 0) (fun o=>Sum.elim (fun pK=>cond ((aL.length:Int) !=(aX.length:Int)) (some 6) (Option.bind (jX k aL 0) (fun o=>Sum.elim (fun p29=>(Fx k dX).bind fun p35=>some p35) (fun p36=>some p36) o))) (fun p41=>some p41) o)))
instance Zj (k:Nat) (aX:List (List Nd)) (aL:List Int) (dX:List Nd):dN Tryz.prog 25 [(.ah (aX.map (dx Nd.cells)) .unk),(.ah (aL.map aK) .unk),(.ah (dX.map Nd.cells) .unk)] (lX k aX aL dX) (fun r=>(.int .i64 r)):=bZ aEC (by unfold lX avi;exact bJ)
theorem Zk {k:Nat} {aX:List (List Nd)} {aL:List Int} {dX:List Nd} {c0 c1 c2:Ck} {r:Int} (h:lX k aX aL dX=some r):aD Tryz.prog 25 [(.ah (aX.map (dx Nd.cells)) c0),(.ah (aL.map aK) c1),(.ah (dX.map Nd.cells) c2)] (.int .i64 r):=((Zj _ _ _ _).c _ h).wk (.ah (.ah (.ah .nil)))
end Go.VL
end
section
namespace Go.VL
open Tm
section
variable {e:List Nd} (hlen:e.length<=1000000)
include hlen
theorem Mw: ∀(t:Tm) (b:Nat),Seg e b t->Ev (fun k=>vX k e ((b+t.size -1:Nat):Int)) (b:Int)
 | .mk x [],b,h=>by
  have hn:=h.node;have e1:b+(Tm.mk x []).size -1=b:=by simp [size,sizes]
  simp only [sizes,Nat.add_zero]at hn;rw [e1];refine Ev.succ ?_;simp only [vX,nn,if_true,Int.toNat_natCast,hn,Option.bind_some];exact Ev.cF (by simp [nd,roots]) Ev.some
 | .mk x (c::cs),b,h=>by
  have hn:=h.node;have hp:=size_pos c;have hk:Seg e (b+sizes []) c:=h.kid (l:=[]);simp only [sizes,Nat.add_zero]at hk;have ih:=Mw c b hk;have e1:b+(Tm.mk x (c::cs)).size -1=b+sizes (c::cs):=by simp only [size];omega
  have e2:(nd x b (c::cs)).args=((b+c.size -1:Nat):Int)::roots (b+c.size) cs:=by unfold nd;simp only [roots]
  rw [e1];refine Ev.succ ?_;simp only [vX,nn,if_true,Int.toNat_natCast,hn,Option.bind_some,e2,List.getElem?_cons_zero];exact Ev.cT (decide_eq_true (by simp only [List.length_cons];omega)) ih
theorem aeK {om:Int} (hf:0<=om/\om<=1000000) {l:List Int} (ha:l.length<=1000) (hr: ∀a∈l,-1000000<=a/\a<=1000000):Ev (fun k=>tX k om [] l (l.length:Int) 0) (l.map (·-om)):=by
 have key:=gF (len:=l.length) (p:=fun j=>Ev (fun k=>tX k om ((l.take j).map (·-om)) l (l.length:Int) (j:Int)) (l.map (·-om))) (by
  refine Ev.succ ?_;simp only [tX];exact Ev.cF (fT _) (Ev.some' (by rw [List.take_length]))) fun j hj ih=>by
  have h1:=hr _ (List.getElem_mem hj);refine Ev.succ ?_;simp only [tX,nn,if_true,Int.toNat_natCast,aW hj,Option.bind_some,gP hj,cond_true,dw hj (show l.length<=1099511627776 by omega)];rw [wrap64 (x:=l[j] -om) (by omega) (by omega)];refine Ev.lg (by simp;omega) ?_
  have e1:(l.take (j+1)).map (·-om)=(l.take j).map (·-om)++[l[j] -om]:=by rw [List.take_succ_eq_append_getElem hj,List.map_append];rfl
  rw [<-e1];exact ih
 exact key
theorem agb (hnd: ∀(i:Nat) n,e[i]? =some n->n.names.length<=1000/\n.args.length<=1000/\ ∀a∈n.args,-1000000<=a/\a<=1000000) {t:Tm} {b:Nat} (h:Seg e b t):Ev (fun k=>vJ k e ((b+t.size -1:Nat):Int)) (flat 0 t):=by
 have hlt:=h.lt;have hp:=size_pos t;have h':=h;obtain⟨pre,post,he,hpre⟩:=h;have hfl:=E8 b t 0;rw [Nat.zero_add]at hfl;have hseg:(e.take (b+t.size)).drop b=flat b t:=by
  rw [he,<-hpre,<-bG pre.length t];simp [List.take_append,List.drop_append]
 have hl0:(flat 0 t).length=(flat b t).length:=by rw [bG,bG]
 have hlb:(flat b t).length=t.size:=bG b t
 have key:=gF (len:=(flat b t).length) (p:=fun j=>Ev (fun k=>vY k (b:Int) ((flat 0 t).take j) (flat b t) ((flat b t).length:Int) (j:Int)) (flat 0 t)) (by
  refine Ev.succ ?_;simp only [vY];exact Ev.cF (fT _) (Ev.some' (by rw [<-hl0,List.take_length]))) fun j hj1 ih=>by
  have hj0:j<(flat 0 t).length:=by omega
  have e0:(flat 0 t)[j]=Qn b (flat b t)[j]:=by
   have:=congrArg (·[j]?) hfl
   simp only [List.getElem?_map,aW hj1,aW hj0,Option.map_some,Option.some.injEq]at this;exact this.symm
  have hn:e[b+j]? =some (flat b t)[j]:=by rw [he,List.getElem?_append_right (by omega),hpre,show b+j -b=j by omega,List.getElem?_append_left hj1,aW hj1]
  obtain⟨g1,g2,g3⟩:=hnd _ _ hn;refine Ev.succ ?_;simp only [vY,nn,if_true,Int.toNat_natCast,aW hj1,Option.bind_some,gP hj1,cond_true,dw hj1 (show(flat b t).length<=1099511627776 by omega)];refine Ev.bind (aeK hlen ⟨by omega,by omega⟩ g2 g3) (Ev.lg (by omega) (Ev.lg (by rw [List.length_take];omega) ?_));rw [List.take_succ_eq_append_getElem hj0,e0]at ih;exact ih
 have hw:IntKind.wrap .i64 (((b+t.size -1:Nat):Int)+1)=((b+t.size:Nat):Int):=by rw [wrap64 (by omega) (by omega)];omega
 unfold vJ;refine Ev.bind (Mw hlen t b h') ?_;simp only [hw,Int.toNat_natCast,hseg];exact Ev.lg ⟨by omega,by omega,by omega⟩ (Ev.bind key Ev.some)
end
theorem QB {x:Nd} {cs l m:List Tm} {c:Tm} (hcs:cs=l++c::m) (hs:sizes cs<=1000) (hnd: ∀(i:Nat) n,(flat 0 (.mk x cs))[i]? =some n->n.names.length<=1000/\n.args.length<=1000/\ ∀a∈n.args,-1000000<=a/\a<=1000000):
 (nd x 0 cs).args[l.length]? =some ((sizes l+c.size -1:Nat):Int)/\Ev (fun k=>vJ k (flat 0 (.mk x cs)) ((sizes l+c.size -1:Nat):Int)) (flat 0 c):=by
 subst hcs;have hk:Seg (flat 0 (.mk x (l++c::m))) (0+sizes l) c:=(Seg.whole _).kid;rw [Nat.zero_add]at hk;have ha:(nd x 0 (l++c::m)).args[l.length]? =some ((sizes l+c.size -1:Nat):Int):=by
  unfold nd;have:=F6 (b:=0) (l:=l) (m:=m) (c:=c);rw [Nat.zero_add]at this;exact this
 exact⟨ha,agb (by rw [bG];simp only [size];omega) hnd hk⟩
theorem Bn {f:Fo} (hn:f.cs.length<=1099511627776):Ev (fun k=>mh k f) (isNum f):=by
 have key2: ∃o:Unit⊕Int,Ev (fun k=>gM k f.cs (f.cs.length:Int) ((0:Nat):Int)) o/\((∃u,o= .inl u)/\(f.cs.drop 0).all (fun c=>c==0)=true\/ ∃j:Int,0<=j/\o= .inr j/\(f.cs.drop 0).all (fun c=>c==0)=false):=by
  refine gF (len:=f.cs.length) (p:=fun i=> ∃o:Unit⊕Int,Ev (fun k=>gM k f.cs (f.cs.length:Int) (i:Int)) o/\((∃u,o= .inl u)/\(f.cs.drop i).all (fun c=>c==0)=true\/ ∃j:Int,0<=j/\o= .inr j/\(f.cs.drop i).all (fun c=>c==0)=false)) ?_ fun i hi ih=> ?_
  · refine⟨.inl (),Ev.succ ?_,.inl ⟨⟨_,rfl⟩,by simp⟩⟩;simp only [gM];exact Ev.cF (fT _) Ev.some
  · cases hc:(f.cs[i]==0)with
    |false=>
     refine⟨.inr (i:Int),Ev.succ ?_,.inr ⟨i,by omega,rfl,by rw [drop_cons hi,List.all_cons,hc,Bool.false_and]⟩⟩;simp only [gM,zm,Int.toNat_natCast,aW hi,Option.bind_some,nn,if_true,gP hi,cond_true];exact Ev.cT (by rw [bne,hc];rfl) Ev.some
    |true=>
     obtain⟨o,ho,hd⟩:=ih;refine⟨o,Ev.succ ?_,by rw [drop_cons hi,List.all_cons,hc,Bool.true_and];exact hd⟩;simp only [gM,zm,Int.toNat_natCast,aW hi,Option.bind_some,nn,if_true,gP hi,cond_true,dw hi hn];exact Ev.cF (by rw [bne,hc];rfl) ho
 obtain⟨o,ho,h⟩:=key2;rw [List.drop_zero]at h;unfold mh isNum;cases hb:f.bad with
 |true=>exact Ev.cT rfl Ev.some
 |false=>
  refine Ev.cF rfl ?_;unfold q9 uR;rcases h with⟨⟨u,rfl⟩,h⟩|⟨i,h0,rfl,h⟩
  · rw [h];exact Ev.bind (Ev.bind (Ev.bind ho Ev.some) Ev.some) Ev.some
  · rw [h];exact Ev.bind (Ev.bind (Ev.bind ho Ev.some) Ev.some) (Ev.some' (by simp [h0]))
def nf (f:Fo):Fq:=if f.bad=true then⟨[],[],0,true⟩else⟨f.us,f.cs,f.num,false⟩
theorem Oq {F:Fq} (hn:F.cs.length<=1099511627776):Ev (fun k=>jW k F) (F.cs.all (fun c=>c==0)&& !F.wide):=by
 have key2:Ev (fun k=>mo k F.us F.cs F.num F.wide ((0:Nat):Int)) (if(F.cs.drop 0).all (fun c=>c==0)=true then .inl ()else .inr false):=by
  refine gF (len:=F.cs.length) (p:=fun i=>Ev (fun k=>mo k F.us F.cs F.num F.wide (i:Int)) (if(F.cs.drop i).all (fun c=>c==0)=true then .inl ()else .inr false)) ?_ fun i hi ih=> ?_
  · refine Ev.succ ?_;simp only [mo];exact Ev.cF (fT _) (Ev.some' (by simp))
  · refine Ev.succ ?_;simp only [mo,Int.toNat_natCast,aW hi,Option.bind_some,nn,if_true,gP hi,cond_true,dw hi hn];rw [drop_cons hi,List.all_cons];cases hc:(F.cs[i]==0)with
    |false=>exact Ev.cT (by rw [bne,hc];rfl) (Ev.some' (by simp))
    |true=>exact Ev.cF (by rw [bne,hc];rfl) (ih.to (by rw [Bool.true_and]))
 rw [List.drop_zero]at key2;unfold jW;refine Ev.bind key2 ?_;cases(F.cs.all fun c=>c==0)with
 |true=>exact Ev.some' (by simp)
 |false=>exact Ev.some' (by simp)
theorem xD {f:Fo} (hn:f.cs.length<=1099511627776):Ev (fun k=>jW k (nf f)) (isNum f):=by
 unfold nf isNum;cases hb:f.bad with
 |true=>exact(Oq (F:=⟨[],[],0,true⟩) (by simp)).to (by simp)
 |false=>exact(Oq (F:=⟨f.us,f.cs,f.num,false⟩) hn).to (by simp)
theorem azL {a b c:List Nd} (h:rX a c=true) (h':rX b c=true):rX a b=true:=decide_eq_true ((of_decide_eq_true h).trans (of_decide_eq_true h').symm)
theorem aeL {us:List (List Nd)} {u:List Nd} {n:Nat} {cs:List Int} (h:Uk us cs n) (hu:Gd u) (hn:us.length<=1099511627776):Ev (fun k=>tZ k us u (-1) 0) (vW (fun x=>rX x u) us 0):=by
 have key:=gF (len:=us.length) (p:=fun i=> ∀a:Int,Ev (fun k=>tZ k us u a (i:Int)) (if vW (fun x=>rX x u) (us.drop i) (i:Int)<0 then a else vW (fun x=>rX x u) (us.drop i) (i:Int))) (fun a=>by
  refine Ev.succ ?_;simp only [tZ];exact Ev.cF (fT _) (Ev.some' (by rw [List.drop_length];rfl))) fun i hi ih a=>by
  refine Ev.succ ?_;simp only [tZ,nn,if_true,Int.toNat_natCast,aW hi,Option.bind_some,gP hi,cond_true,dw hi hn];refine Ev.bind (alN (h.gd _ (List.getElem_mem hi)) hu) ?_;rw [drop_cons hi];cases hc:rX us[i] u with
  |false=>
   rw [cond_false];refine(ih a).to ?_;simp only [vW,hc,Bool.false_eq_true,if_false];rfl
  |true=>
   rw [cond_true];refine(ih i).to ?_;simp only [vW,hc,if_true];have hno:vW (fun x=>rX x u) (us.drop (i+1)) ((i+1:Nat):Int)= -1:=by
    rcases Mt (p:=fun x=>rX x u) (l:=us.drop (i+1)) (i:=((i+1:Nat):Int))with⟨h1,_⟩|⟨j,y,h1,h2,_⟩
    · exact h1
    · exfalso;rw [List.getElem?_drop]at h1;have hj:=(List.getElem?_eq_some_iff.1 h1);obtain⟨hj1,hj2⟩:=hj;have:=List.pairwise_iff_getElem.1 h.un i (i+1+j) hi hj1 (by omega);rw [hj2,azL hc h2]at this;cases this
   rw [hno,if_pos (by decide),if_neg (by omega)]
 have:=key (-1);rw [List.drop_zero]at this;refine this.to ?_;rcases Mt (p:=fun x=>rX x u) (l:=us) (i:=0)with⟨h1,_⟩|⟨j,y,_,_,h3⟩
 · rw [show((0:Nat):Int)=0 from rfl,h1,if_pos (by decide)]
 · rw [show((0:Nat):Int)=0 from rfl,h3,if_neg (by omega)]
theorem aeM {g:Fq} {t:Int} {b:Nat} (hg:Uk g.us g.cs b) (hb:b<=1000): ∀(us:List (List Nd)) (cs:List Int) (a:Nat),Uk us cs a->a+b<=100000->Ev (fun k=>uh k g t us cs ((0:Nat):Int)) ((g.us.zip g.cs).foldl (Ap t) (us,cs)):=by
 have hn:g.us.length<=1099511627776:=by have:=hg.le;omega
 have key:=gF (len:=g.us.length) (p:=fun i=> ∀(us:List (List Nd)) (cs:List Int) (a:Nat),Uk us cs a->a+(g.us.length -i)<=100000->Ev (fun k=>uh k g t us cs (i:Int)) (((g.us.zip g.cs).drop i).foldl (Ap t) (us,cs))) (fun us cs a h ha=>by
  refine Ev.succ ?_;simp only [uh];refine Ev.cF (fT _) (Ev.some' ?_);rw [List.drop_of_length_le (by rw [List.length_zip];omega)];rfl) fun i hi ih us cs a h ha=>by
  have hi2:i<g.cs.length:=by rw [hg.len];exact hi
  have hz:i<(g.us.zip g.cs).length:=by rw [List.length_zip];omega
  refine Ev.succ ?_;have hl:=h.le;have hlen:=h.len;simp only [uh,Int.toNat_natCast,aW hi,aW hi2,Option.bind_some,nn,if_true,gP hi,cond_true,dw hi hn];refine Ev.lg ⟨by omega,by omega⟩ (Ev.bind (aeL h (hg.gd _ (List.getElem_mem hi)) (by omega)) ?_);have hst:Ev (fun k=>cond (decide (vW (fun x=>rX x g.us[i]) us 0<0)) (zn (us++[g.us[i]]) (cs++[0]) (cs.length:Int) (IntKind.wrap .i64 (t*g.cs[i]))) (zn us cs (vW (fun x=>rX x g.us[i]) us 0) (IntKind.wrap .i64 (t*g.cs[i])))) (Ap t (us,cs) (g.us[i],g.cs[i])):=by
   unfold Ap
   dsimp only
   rcases Mt (p:=fun o=>rX o g.us[i]) (l:=us) (i:=0)with⟨h1,h2⟩|⟨j,y,h1,h2,h3⟩
   · rw [h1,if_pos (by decide)];refine Ev.cT (by decide) (Ev.of_eq ?_);unfold zn;simp
   · have hj:j<cs.length:=by rw [hlen];exact(List.getElem?_eq_some_iff.1 h1).1
     rw [h3,if_neg (by omega),Int.zero_add];refine Ev.cF (decide_eq_false (by omega)) (Ev.of_eq ?_);unfold zn;simp [aW hj]
  refine Ev.bind hst ?_;rw [drop_cons hz,List.foldl_cons,List.getElem_zip];have hu:=Y4 (t:=t) (x:=(g.us[i],g.cs[i])) h (hg.gd _ (List.getElem_mem hi));exact ih _ _ _ hu (by omega)
 intro us cs a h ha;have:=key us cs a h (by have:=hg.le;omega)
 rwa [List.drop_zero]at this
theorem Ot (n:Int):dP n (-1000000000) 1000000000=some (decide (-1000000000<=n)&&decide (n<=1000000000)):=by
 unfold dP;by_cases h:n>= -1000000000
 · rw [decide_eq_true h,cond_true,Bool.true_and]
 · rw [decide_eq_false h,cond_false,Bool.false_and]
theorem aeN (l:List Int) (hn:l.length<=1099511627776) (w:Bool):Ev (fun k=>qh k l w 0) (w||wide l):=by
 have key:=gF (len:=l.length) (p:=fun i=> ∀b,Ev (fun k=>qh k l b (i:Int)) (b||wide (l.drop i))) (fun b=>by
  refine Ev.succ ?_;simp only [qh];exact Ev.cF (fT _) (Ev.some' (by simp [wide]))) fun i hi ih b=>by
  refine Ev.succ ?_;simp only [qh,Int.toNat_natCast,aW hi,Option.bind_some,nn,if_true,gP hi,cond_true,dw hi hn,Ot];cases b with
  |true=>exact Ev.cT rfl ((ih true).to (by simp))
  |false=>
   refine Ev.cF rfl ((ih _).to ?_);rw [drop_cons hi,Bool.false_or];unfold wide;rw [List.any_cons]
 have:=key w
 rwa [List.drop_zero]at this
theorem arH {f:Fo} {n:Nat} (h:Eo f n):Uk (nf f).us (nf f).cs n:=by
 unfold nf;split
 · exact Am
 · exact h
theorem jO {f g:Fo} {t:Int} {a b:Nat} (hf:Eo f a) (hg:Eo g b) (ha:a<=20000) (hb:b<=1000):Ev (fun k=>fM k (nf f) (nf g) t) (nf (dR f g t)):=by
 have uf:=arH hf;have ug:=arH hg;have h1:=uf.le;have h2:=uf.len;unfold fM;refine Ev.lg ⟨by omega,by omega⟩ (Ev.bind (aeM ug hb _ _ a uf (by omega)) ?_);have hu:=Np (t:=t) (l:=(nf g).us.zip (nf g).cs) uf fun x hx=>ug.gd _ (List.of_mem_zip hx).1;have hl:(((nf g).us.zip (nf g).cs).foldl (Ap t) ((nf f).us,(nf f).cs)).2.length<=30000:=by
  have e1:=hu.len;have e2:=hu.le;have e3:((nf g).us.zip (nf g).cs).length<=b:=by rw [List.length_zip];have:=ug.le;omega
  omega
 have hw:Ev (fun k=>cond ((nf f).wide||(nf g).wide) (some true) ((dP (IntKind.wrap .i64 ((nf f).num+IntKind.wrap .i64 (t*(nf g).num))) (-1000000000) 1000000000).bind fun q=>some (!q))) ((f.bad||g.bad)||wide [IntKind.wrap .i64 ((nf f).num+IntKind.wrap .i64 (t*(nf g).num))]):=by
  have e1:((nf f).wide||(nf g).wide)=(f.bad||g.bad):=by
   unfold nf;cases f.bad<;>cases g.bad<;>rfl
  rw [e1];cases(f.bad||g.bad)with
  |true=>exact Ev.cT rfl (Ev.some' (by simp))
  |false=>
   refine Ev.cF rfl (Ev.of_eq ?_);rw [Ot];simp [wide]
 refine Ev.bind hw (Ev.bind (aeN _ (by omega) _) ?_);cases hb':(f.bad||g.bad)with
 |true=>
  refine Ev.cT (by simp) (Ev.some' ?_);unfold nf dR;rw [if_pos hb',if_pos rfl]
 |false=>
  rw [Bool.or_eq_false_iff]at hb';have ef:nf f=⟨f.us,f.cs,f.num,false⟩:=by unfold nf;rw [hb'.1,if_neg (by simp)]
  have eg:nf g=⟨g.us,g.cs,g.num,false⟩:=by unfold nf;rw [hb'.2,if_neg (by simp)]
  rw [ef,eg]
  dsimp only
  have ep:dR f g t=⟨(En f g t).1,(En f g t).2,IntKind.wrap .i64 (f.num+IntKind.wrap .i64 (t*g.num)),wide ((En f g t).2++[IntKind.wrap .i64 (f.num+IntKind.wrap .i64 (t*g.num))])⟩:=by
   unfold dR;rw [hb'.1,hb'.2,if_neg (by simp)]
  have ew:(false||wide [IntKind.wrap .i64 (f.num+IntKind.wrap .i64 (t*g.num))]||wide (En f g t).2)=(dR f g t).bad:=by
   rw [ep];unfold wide
   dsimp only
   rw [List.any_append,Bool.false_or,Bool.or_comm]
  show Ev (fun k=>cond (false||wide [IntKind.wrap .i64 (f.num+IntKind.wrap .i64 (t*g.num))]||wide (En f g t).2) _ _) _
  rw [ew];cases hp:(dR f g t).bad with
  |true=>exact Ev.cT rfl (Ev.some' (by unfold nf;rw [if_pos hp]))
  |false=>
   refine Ev.cF rfl (Ev.some' ?_);unfold nf;rw [if_neg (by rw [hp];simp),ep];rfl
theorem iR (x:Nd) (b:Nat) (cs:List Tm):(nd x b cs).kind=x.kind:=rfl
theorem oH (x:Nd) (b:Nat) (cs:List Tm):(nd x b cs).text=x.text:=rfl
theorem xQ (x:Nd) (b:Nat) (cs:List Tm):(nd x b cs).n=x.n:=rfl
theorem xE {t:Tm} (h:Gd (flat 0 t)):t.size<=160/\ ∀(i:Nat) n,(flat 0 t)[i]? =some n->n.names.length<=1000/\n.args.length<=1000/\ ∀a∈n.args,-1000000<=a/\a<=1000000:=by
 have hl:=h.val.len;rw [bG]at hl;refine⟨hl,fun i n hn=> ?_⟩;have h2:=(Me h.few).2 i n hn;refine⟨by omega,by omega,fun a ha=> ?_⟩;have:=Qo t 0 n (List.mem_of_getElem? hn) a ha;omega
theorem arity {x:Nd} {cs:List Tm} (h:Gd (flat 0 (.mk x cs))) (hk:x.kind=3) (ho:(dL eG x.text).2=true):gY (cs.length:Int) (dL eG x.text).1.least (dL eG x.text).1.most=true:=by
 have hn:=(Seg.whole (.mk x cs)).node;rw [Nat.zero_add]at hn;have h0:=h.val.ok _ _ hn;have hne:qp (nd x 0 cs)=0:=by
  unfold bV at h0;split at h0
  · exact absurd h0 (by decide)
  split at h0
  · exact absurd h0 (by decide)
  split at h0
  · exact absurd h0 (by decide)
  split at h0
  · exact absurd h0 (by decide)
  split at h0
  · rename_i hx;exact absurd h0 hx
  · rename_i hx;exact Decidable.not_not.1 hx
 unfold qp at hne;split at hne
 · exact absurd hne (by decide)
 rw [if_neg (by rw [iR,hk];decide),if_neg (by rw [iR,hk];decide),if_pos (by rw [iR,hk]),oH,ho,Bool.true_or,if_pos rfl,Bool.true_and]at hne;have hal:(nd x 0 cs).args.length=cs.length:=jh 0 cs;rw [hal]at hne;split at hne
 · exact absurd hne (by decide)
 · rename_i hx;simpa using hx
theorem al6 {cs:List Tm} {l m:Int} (h:gY (cs.length:Int) l m=true) (hl:l=2) (hm:m=2): ∃a b,cs=[a,b]:=by
 subst hl;subst hm;unfold gY at h
 match cs,h with
 |[a,b],_=>exact⟨a,b,rfl⟩
 |[],h=>simp at h
 |[a],h=>simp at h
 |a::b::c::l,h=>simp at h;omega
theorem azM {cs:List Tm} {l m:Int} (h:gY (cs.length:Int) l m=true) (hl:l=1) (hm:m=1): ∃a,cs=[a]:=by
 subst hl;subst hm;unfold gY at h
 match cs,h with
 |[a],_=>exact⟨a,rfl⟩
 |[],h=>simp at h
 |a::b::l,h=>simp at h;omega
theorem aor {x:Nd} {a b:Tm} (h:Gd (flat 0 (.mk x [a,b]))): ∃i j:Int,(nd x 0 [a,b]).args[0]? =some i/\(nd x 0 [a,b]).args[1]? =some j/\Ev (fun k=>vJ k (flat 0 (.mk x [a,b])) i) (flat 0 a)/\Ev (fun k=>vJ k (flat 0 (.mk x [a,b])) j) (flat 0 b)/\
 Ev (fun k=>xC k (flat 0 (.mk x [a,b]))) (flat 0 a)/\Ev (fun k=>Ae k (flat 0 (.mk x [a,b]))) (flat 0 b):=by
 obtain⟨hs,hnd⟩:=xE h;have hz:sizes [a,b]<=1000:=by simp only [size]at hs;omega
 have k1:=QB (x:=x) (cs:=[a,b]) (l:=[]) (m:=[b]) (c:=a) rfl hz hnd;have k2:=QB (x:=x) (cs:=[a,b]) (l:=[a]) (m:=[]) (c:=b) rfl hz hnd;have q1:=Aa (x:=x) (cs:=[a,b]) (l:=[]) (m:=[b]) (c:=a) rfl hz hnd;have q2:=Aa (x:=x) (cs:=[a,b]) (l:=[a]) (m:=[]) (c:=b) rfl hz hnd;refine⟨_,_,k1.1,k2.1,k1.2,k2.2,?_,?_⟩
 · unfold xC;exact Ev.bind q1 Ev.some
 · unfold Ae;exact Ev.bind q2 Ev.some
theorem aG1 {x:Nd} {a:Tm} (h:Gd (flat 0 (.mk x [a]))): ∃i:Int,(nd x 0 [a]).args[0]? =some i/\Ev (fun k=>vJ k (flat 0 (.mk x [a])) i) (flat 0 a)/\Ev (fun k=>xC k (flat 0 (.mk x [a]))) (flat 0 a):=by
 obtain⟨hs,hnd⟩:=xE h;have hz:sizes [a]<=1000:=by simp only [size]at hs;omega
 have k1:=QB (x:=x) (cs:=[a]) (l:=[]) (m:=[]) (c:=a) rfl hz hnd;have q1:=Aa (x:=x) (cs:=[a]) (l:=[]) (m:=[]) (c:=a) rfl hz hnd;refine⟨_,k1.1,k1.2,?_⟩;unfold xC;exact Ev.bind q1 Ev.some
theorem aeO {x:Nd} {cs:List Tm} (h:sizes cs<=1000):IntKind.wrap .i64 (((flat 0 (.mk x cs)).length:Int) -1)=((sizes cs:Nat):Int)/\(flat 0 (.mk x cs))[sizes cs]? =some (nd x 0 cs):=by
 have hl:(flat 0 (.mk x cs)).length=sizes cs+1:=by rw [bG];simp only [size]
 have hn:=(Seg.whole (.mk x cs)).node;rw [Nat.zero_add]at hn;exact⟨by rw [hl,wrap64 (by omega) (by omega)];omega,hn⟩
theorem Ip {x:Nd} {cs:List Tm} (h:sizes cs<=1000) (s:Str):Nt (flat 0 (.mk x cs)) s=some (x.kind==3&&x.text==s):=by
 unfold Nt;rw [BU x cs (by omega),Option.bind_some,iR,oH];cases(x.kind==3)<;>rfl
theorem ahl (a b:Int) (s:Str) (l:List Str) (m:List Int) (t:Bool):Ev (fun k=>xL k a b s l m t) (t&&decide (s∈([[43],[45],[42]]:List Str))):=by
 unfold xL;cases t with
 |false=>exact Ev.cF rfl (Ev.some' (by simp))
 |true=>exact Ev.cT rfl (Ev.bind (sP _ _ (by simp)) (Ev.some' (by simp)))
theorem Zl {f:Fo} (h:f.bad=false):nf f=⟨f.us,f.cs,f.num,false⟩:=by unfold nf;rw [h,if_neg (by simp)]
theorem Ch: ∀(n:Nat) (t:Tm),t.size<=n->Gd (flat 0 t)-> ∃r,fB t r/\Ev (fun k=>kF k (flat 0 t)) r/\Ev (fun k=>ig k (flat 0 t)) (nf r)
 |0,t,h,_=>by have:=t.size_pos;omega
 |n+1,.mk x cs,h,hg=>by
  obtain⟨hs,hnd⟩:=xE hg;have hz:sizes cs<=1000:=by simp only [size]at hs;omega
  obtain⟨hw,hlast⟩:=aeO (x:=x) hz;have hroot:=BU x cs (by omega);have hsz:sizes cs<=n:=by simp only [size]at h;omega
  by_cases h0:x.kind=0
  · refine⟨_,.num h0,?_,?_⟩
    · refine Ev.succ ?_;simp only [kF,hw,Int.toNat_natCast,nn,if_true,hlast,Option.bind_some,iR,xQ];exact Ev.cT (by rw [h0];rfl) Ev.some
    · refine Ev.succ ?_;simp only [ig,hroot,Option.bind_some,iR,xQ];exact Ev.cT (by rw [h0];rfl) Ev.some
  have b0:(x.kind==0)=false:=beq_eq_false_iff_ne.2 h0;by_cases hx:x.kind=3/\x.text∈sums
  case neg=>
   have hno: ∀s∈sums,(x.kind==3&&x.text==s)=false:=by
    intro s hs;cases hb:(x.kind==3&&x.text==s)with
    |false=>rfl
    |true=>
     rw [Bool.and_eq_true,beq_iff_eq,beq_iff_eq]at hb;exact absurd ⟨hb.1,hb.2▸hs⟩ hx
   refine⟨_,.unk h0 fun h3 h4=>hx ⟨h3,h4⟩,?_,?_⟩
   · refine Ev.succ ?_;simp only [kF,hw,Int.toNat_natCast,nn,if_true,hlast,Option.bind_some,iR,xQ,oH];refine Ev.cF b0 ?_;have hp0:oZ x.kind x.n x.text (nd x 0 cs).names (nd x 0 cs).args (x.kind==3)=some false:=by
      unfold oZ;have:=hno [45,46] (by decide);cases hb:(x.kind==3)with
      |false=>rfl
      |true=>rw [hb,Bool.true_and]at this;rw [cond_true,this]
     simp only [hp0,Option.bind_some];refine Ev.cF rfl (Ev.bind ((ahl _ _ _ _ _ _).to (w:=false) ?_) (Ev.cF rfl Ev.some));cases hb:(x.kind==3)with
     |false=>rfl
     |true=>
      rw [Bool.true_and];refine decide_eq_false fun hm=>hx ⟨by simpa using hb,?_⟩;simp only [sums,List.mem_cons]at hm⊢;exact .inr hm
   · refine Ev.succ ?_;simp only [ig,hroot,Option.bind_some,iR,xQ,Ip hz,hno [43] (by decide),hno [45] (by decide),hno [45,46] (by decide),hno [42] (by decide)];exact Ev.cF b0 Ev.some
  case pos=>
  obtain⟨h3,hm⟩:=hx;have b3:(x.kind==3)=true:=by rw [h3];rfl
  have har:=arity hg h3 (Fb hm);have hop:=Fb hm;simp only [sums,List.mem_cons,List.not_mem_nil,or_false]at hm;rcases hm with ht|ht|ht|ht
  · rw [ht]at har;obtain⟨c,rfl⟩:=azM har (by kernel_rfl) (by kernel_rfl);have gc:=azx hg h3 hop;obtain⟨i,a1,a2,a3⟩:=aG1 hg;obtain⟨r,f1,f2,f3⟩:=Ch n c (by simp only [sizes]at hsz;omega) gc;have kr:=Bz f1 gc;have hc:=(xE gc).1;refine⟨_,.neg h3 ht f1,?_,?_⟩
    · refine Ev.succ ?_;simp only [kF,hw,Int.toNat_natCast,nn,if_true,hlast,Option.bind_some,iR,xQ,oH];refine Ev.cF b0 ?_;have hp0:oZ x.kind x.n x.text (nd x 0 [c]).names (nd x 0 [c]).args (x.kind==3)=some true:=by unfold oZ;rw [b3,cond_true,ht];rfl
      simp only [hp0,Option.bind_some];exact Ev.cT rfl (Ev.iK a1 (Ev.bind a2 (Ev.bind f2 (Ev.bind (jN (f:=Ep) (a:=0) Am kr (by omega) (by omega)) Ev.some))))
    · refine Ev.succ ?_;simp only [ig,hroot,Option.bind_some,iR,xQ,Ip hz,b3,ht,Bool.true_and];have hq:=jO (f:=Ep) (g:=r) (t:= -1) (a:=0) Am kr (by omega) (by omega);exact Ev.cF b0 (Ev.cF (by decide) (Ev.cF (by decide) (Ev.cT (by decide) (Ev.bind a3 (Ev.bind f3 (Ev.bind hq Ev.some))))))
  all_goals
   rw [ht]at har;obtain⟨a,b,rfl⟩:=al6 har (by kernel_rfl) (by kernel_rfl);obtain⟨ga,gb⟩:=Ve hg h3 hop;obtain⟨i,j,a1,a2,a3,a4,a5,a6⟩:=aor hg;have hsa:=a.size_pos;have hsb:=b.size_pos;simp only [sizes]at hsz;obtain⟨r,f1,f2,f3⟩:=Ch n a (by omega) ga;obtain⟨s,g1,g2,g3⟩:=Ch n b (by omega) gb;have kr:=Bz f1 ga;have ks:=Bz g1 gb;have ha:=(xE ga).1;have hb:=(xE gb).1;have hp0:oZ x.kind x.n x.text (nd x 0 [a,b]).names (nd x 0 [a,b]).args (x.kind==3)=some false:=by unfold oZ;rw [b3,cond_true,ht];rfl
   have hp1:Ev (fun k=>xL k x.kind x.n x.text (nd x 0 [a,b]).names (nd x 0 [a,b]).args (x.kind==3)) true:=(ahl _ _ _ _ _ _).to (by rw [b3,ht];decide)
  · refine⟨_,.add h3 ht f1 g1,?_,?_⟩
    · refine Ev.succ ?_;simp only [kF,hw,Int.toNat_natCast,nn,if_true,hlast,Option.bind_some,iR,xQ,oH,hp0];refine Ev.cF b0 (Ev.cF rfl (Ev.bind hp1 (Ev.cT rfl (Ev.iK a1 (Ev.bind a3 (Ev.bind f2 (Ev.iK a2 (Ev.bind a4 (Ev.bind g2 ?_)))))))));exact Ev.cT (by rw [ht];rfl) (Ev.bind (jN kr ks (by omega) (by omega)) Ev.some)
    · refine Ev.succ ?_;simp only [ig,hroot,Option.bind_some,iR,xQ,Ip hz,b3,ht,Bool.true_and];exact Ev.cF b0 (Ev.cT (by decide) (Ev.bind a5 (Ev.bind f3 (Ev.bind a6 (Ev.bind g3 (Ev.bind (jO kr ks (by omega) (by omega)) Ev.some))))))
  · refine⟨_,.sub h3 ht f1 g1,?_,?_⟩
    · refine Ev.succ ?_;simp only [kF,hw,Int.toNat_natCast,nn,if_true,hlast,Option.bind_some,iR,xQ,oH,hp0];refine Ev.cF b0 (Ev.cF rfl (Ev.bind hp1 (Ev.cT rfl (Ev.iK a1 (Ev.bind a3 (Ev.bind f2 (Ev.iK a2 (Ev.bind a4 (Ev.bind g2 ?_)))))))));exact Ev.cF (by rw [ht];decide) (Ev.cT (by rw [ht];rfl) (Ev.bind (jN kr ks (by omega) (by omega)) Ev.some))
    · refine Ev.succ ?_;simp only [ig,hroot,Option.bind_some,iR,xQ,Ip hz,b3,ht,Bool.true_and];exact Ev.cF b0 (Ev.cF (by decide) (Ev.cT (by decide) (Ev.bind a5 (Ev.bind f3 (Ev.bind a6 (Ev.bind g3 (Ev.bind (jO kr ks (by omega) (by omega)) Ev.some)))))))
  · have hp2:AY s.us s.cs s.num s.bad r.bad=some (r.bad||s.bad):=by unfold AY;cases r.bad<;>rfl
    have hq2:AZ (nf s).us (nf s).cs (nf s).num (nf s).wide (nf r).wide=some (r.bad||s.bad):=by
     unfold AZ nf;cases r.bad<;>cases s.bad<;>rfl
    have lr:=kr.len;have lr2:=kr.le;have ls:=ks.len;have ls2:=ks.le;have kn:=Bn (f:=r) (by omega);have kn':=Bn (f:=s) (by omega);have qn:=xD (f:=r) (by omega);have qn':=xD (f:=s) (by omega);have kS: ∀R,Ev (fun k=>cond (r.bad||s.bad) (some (Fo.mk [] [] 0 true)) ((mh k r).bind fun aji=>cond aji ((fJ k (Fo.mk [] [] 0 false) s r.num).bind fun UU=>some UU) ((mh k s).bind fun ajj=>cond ajj ((fJ k (Fo.mk [] [] 0 false) r s.num).bind fun ajk=>some ajk) (some (Fo.mk [flat 0 (.mk x [a,b])] [1] 0 false))))) R->Ev (fun k=>kF k (flat 0 (.mk x [a,b]))) R:=by
     intro R hR;refine Ev.succ ?_;simp only [kF,hw,Int.toNat_natCast,nn,if_true,hlast,Option.bind_some,iR,xQ,oH,hp0];refine Ev.cF b0 (Ev.cF rfl (Ev.bind hp1 (Ev.cT rfl (Ev.iK a1 (Ev.bind a3 (Ev.bind f2 (Ev.iK a2 (Ev.bind a4 (Ev.bind g2 ?_)))))))));refine Ev.cF (by rw [ht];decide) (Ev.cF (by rw [ht];decide) (Ev.cT (by rw [ht];rfl) ?_));simp only [hp2,Option.bind_some];exact hR
    have qS: ∀R,Ev (fun k=>cond (r.bad||s.bad) (some (Fq.mk [] [] 0 true)) ((jW k (nf r)).bind fun p64=>cond p64 ((fM k (Fq.mk [] [] 0 false) (nf s) (nf r).num).bind fun p67=>some p67) ((jW k (nf s)).bind fun p69=>cond p69 ((fM k (Fq.mk [] [] 0 false) (nf r) (nf s).num).bind fun p72=>some p72) (some (Fq.mk [flat 0 (.mk x [a,b])] [1] 0 false))))) R->Ev (fun k=>ig k (flat 0 (.mk x [a,b]))) R:=by
     intro R hR;refine Ev.succ ?_;simp only [ig,hroot,Option.bind_some,iR,xQ,Ip hz,b3,ht,Bool.true_and];refine Ev.cF b0 (Ev.cF (by decide) (Ev.cF (by decide) (Ev.cF (by decide) (Ev.cT (by decide) (Ev.bind a5 (Ev.bind f3 (Ev.bind a6 (Ev.bind g3 ?_))))))));simp only [hq2,Option.bind_some];exact hR
    cases hbb:(r.bad||s.bad)with
    |true=>
     rw [hbb]at kS qS;exact⟨_,.azv h3 ht f1 g1 hbb,kS _ (Ev.cT rfl Ev.some),qS _ (Ev.cT rfl Ev.some)⟩
    |false=>
     rw [hbb]at kS qS;have hbs:=Bool.or_eq_false_iff.1 hbb;have er:(nf r).num=r.num:=by rw [Zl hbs.1]
     have es:(nf s).num=s.num:=by rw [Zl hbs.2]
     rw [er,es]at qS;cases hnr:isNum r with
     |true=>
      rw [hnr]at kn qn
      exact⟨_,.mulL h3 ht f1 g1 hbb hnr,kS _ (Ev.cF rfl (Ev.bind kn (Ev.cT rfl (Ev.bind (jN (f:=Ep) (a:=0) Am ks (by omega) (by omega)) Ev.some)))),
       qS _ (Ev.cF rfl (Ev.bind qn (Ev.cT rfl (Ev.bind (jO (f:=Ep) (a:=0) Am ks (by omega) (by omega)) Ev.some))))⟩
     |false=>
      rw [hnr]at kn qn;cases hns:isNum s with
      |true=>
       rw [hns]at kn' qn'
       exact⟨_,.mulR h3 ht f1 g1 hbb hnr hns,kS _ (Ev.cF rfl (Ev.bind kn (Ev.cF rfl (Ev.bind kn' (Ev.cT rfl (Ev.bind (jN (f:=Ep) (a:=0) Am kr (by omega) (by omega)) Ev.some)))))),
              qS _ (Ev.cF rfl (Ev.bind qn (Ev.cF rfl (Ev.bind qn' (Ev.cT rfl (Ev.bind (jO (f:=Ep) (a:=0) Am kr (by omega) (by omega)) Ev.some))))))⟩
      |false=>
       rw [hns]at kn' qn';exact⟨_,.azw h3 ht f1 g1 hbb hnr hns,kS _ (Ev.cF rfl (Ev.bind kn (Ev.cF rfl (Ev.bind kn' (Ev.cF rfl Ev.some))))),qS _ (Ev.cF rfl (Ev.bind qn (Ev.cF rfl (Ev.bind qn' (Ev.cF rfl Ev.some)))))⟩
end Go.VL
end
