/- Part 7. -/
import Derived.Test.YthebklihgmhgoaaGreatDoorKg6
set_option maxRecDepth 8000
set_option linter.unusedVariables false
set_option linter.unusedSectionVars false
set_option linter.unusedSimpArgs false
section
namespace Go.VL
open Go.Proofs Go.RowKit
theorem kF.axT {H H':AH} {l:List (Nd×NV)} {v:PV} {id o lo:Nat} {lF:List Str} {cl:Ck} {c:Int} (h:kF H l v id o lo lF cl c) {i:Nat} {n:Nd} {id' len cap:Nat} {ns:List Str} (hx:l[i]? =some (n,.m id' len cap)) (h0:ns≠[])
    (hr:aO H' aI 1 ns (.bV id' 0 len cap 1) [id']) (hf:HF [id'] H H'):kF H' (l.set i ({n with names:=ns},.m id' len cap)) v id o lo lF cl c:=by
  have hi:=(List.getElem?_eq_some_iff.1 hx).1;have hne:id≠id':=fun e=>h.own.ne i _ hx (by rw [e];exact List.mem_singleton.2 rfl);have hon:o≠id':=fun e=>h.nen i _ hx (by rw [e];exact List.mem_singleton.2 rfl);have hget: ∀(k:Nat) (x:Nd×NV),(l.set i (({n with names:=ns}:Nd),NV.m id' len cap))[k]? =some x->(k=i/\x=(({n with names:=ns}:Nd),NV.m id' len cap))\/(k≠i/\l[k]? =some x):=by
    intro k x e;rw [List.getElem?_set]at e;by_cases hk:i=k
    · subst hk;rw [if_pos rfl,if_pos hi]at e;cases e;exact .inl ⟨rfl,rfl⟩
    · rw [if_neg hk]at e;exact .inr ⟨fun e=>hk e.symm,e⟩
  have aaK: ∀(k:Nat) (x:Nd×NV),(l.set i (({n with names:=ns}:Nd),NV.m id' len cap))[k]? =some x-> ∃x0,l[k]? =some x0/\x.2=x0.2:=by
    intro k x e;rcases hget k x e with⟨rfl,rfl⟩|⟨_,e⟩
    · exact⟨_,hx,rfl⟩
    · exact⟨x,e,rfl⟩
  have hrow:aO H' jA 5 (l.set i (({n with names:=ns}:Nd),NV.m id' len cap)) v [id]:=by
    have:=h.own.row.hf hf (fun a ha hm=>hne ((List.mem_singleton.1 ha).symm.trans (List.mem_singleton.1 hm)));have em:(l.set i (({n with names:=ns}:Nd),NV.m id' len cap)).map jA=l.map jA:=by
      rw [List.map_set];have:jA (({n with names:=ns}:Nd),NV.m id' len cap)=(l.map jA)[i]'(by simpa using hi):=by
        rw [List.getElem_map,(List.getElem?_eq_some_iff.1 hx).2];rfl
      rw [this,List.set_getElem_self]
    unfold aO at this⊢;rw [em,List.length_set];rcases this with⟨h1,h2,h3⟩|h
    · subst h2;simp at hi
    · exact .inr h
  refine⟨⟨hrow,fun k x e=> ?_,fun k k' x x' e e' hne=> ?_,fun k x e=> ?_,fun k x e=> ?_,h.own.UA⟩,(hf.2 o h.lt fun hm=>hon (List.mem_singleton.1 hm)).trans h.obj,Nat.lt_of_lt_of_le h.lt hf.1,h.ne,fun k x e=> ?_⟩
  · rw [if_pos (List.getElem?_eq_some_iff.1 e).1];rcases hget k x e with⟨rfl,rfl⟩|⟨hk,e⟩
    · exact⟨h0,hr⟩
    · have JJ:=h.own.Dv k x e;rw [if_pos (List.getElem?_eq_some_iff.1 e).1]at JJ;exact JJ.hf hf fun a ha hm=>h.own.dj k i x _ e hx hk a ha hm
  · obtain⟨x0,e0,q1⟩:=aaK k x e;obtain⟨x0',e0',q1'⟩:=aaK k' x' e';rw [q1,q1'];exact h.own.dj k k' x0 x0' e0 e0' hne
  · obtain⟨x0,e0,q1⟩:=aaK k x e;rw [q1];exact h.own.ne k x0 e0
  · obtain⟨x0,e0,q1⟩:=aaK k x e;rw [q1];exact h.own.lob k x0 e0
  · obtain⟨x0,e0,q1⟩:=aaK k x e;rw [q1];exact h.nen k x0 e0
theorem kF.cnt {H:AH} {l:List (Nd×NV)} {v:PV} {id o lo:Nat} {lF:List Str} {cl:Ck} {c c':Int} (h:kF H l v id o lo lF cl c):kF (H.put o [v,.aB (lF.map aI) cl,.int .i64 c']) l v id o lo lF cl c'/\HF [o] H (H.put o [v,.aB (lF.map aI) cl,.int .i64 c']):=by
  have hf:HF [o] H (H.put o [v,.aB (lF.map aI) cl,.int .i64 c']):=HF.put (.inl (List.mem_singleton.2 rfl)) (HF.refl _ _);refine⟨⟨⟨h.own.row.hf hf (fun a ha hm=>h.ne ((List.mem_singleton.1 hm).symm.trans (List.mem_singleton.1 ha))),fun i x hx=> ?_,h.own.dj,h.own.ne,h.own.lob,h.own.UA⟩,?_,h.lt,h.ne,h.nen⟩,hf⟩
  · have:=h.own.Dv i x hx;have hi:=(List.getElem?_eq_some_iff.1 hx).1;rw [if_pos hi]at this⊢;exact this.hf hf fun a ha hm=>h.nen i x hx (List.mem_singleton.1 hm▸ha)
  · show(if o=o then _ else _)=_
    rw [if_pos rfl]
def FQ (lF:List Str) (F:Nat):Nat->Int->Option (List Str×Int)
  |0,c=>some ([],c)
  |m+1,c=>Option.bind (Ad lF F c) fun p=>Option.bind (FQ lF F m p.2) fun r=>some (p.1::r.1,r.2)
theorem HF.up {M M':List Nat} {H H':AH} (h:HF M H H') (hs: ∀a∈M,a∈M'):HF M' H H':=⟨h.1,fun a ha hm=>h.2 a ha fun h=>hm (hs a h)⟩
theorem HF.tr {M:List Nat} {H H' iw:AH} (h:HF M H H') (h':HF M H' iw):HF M H iw:=⟨Nat.le_trans h.1 h'.1,fun a ha hm=>(h'.2 a (Nat.lt_of_lt_of_le ha h.1) hm).trans (h.2 a ha hm)⟩
section
variable {l:List (Nd×NV)} {v:PV} {id o lo:Nat} {lF:List Str} {cl:Ck} {i:Nat} {n:Nd} {y:NV} {F q:Nat} {ns:List Str} {c':Int} {Q:Post}
theorem ab7 (hx:(l[i]?).map (·.2)=some y) (GN:q∉kP l id o) (hnl:n.names.length<=1000000): ∀(m k:Nat) (done:List Str) (c:Int) (ns:List Str) (σ:Nat->PV) (H:AH),done.length=k->k+m=n.names.length->FQ lF F m c=some (ns,c')->
    kF H (l.set i ({n with names:=done++n.names.drop k},y)) v id o lo lF cl c->σ 0= .ref o 0->σ 6= .ref q 0->σ 60= .int .i64 n.names.length->σ 61= .int .i64 k->q<H.next->H.obj q=some [.ref id (i*5)]->
    (∀σ' H',(∀j,j≠10->j<61\/72<j->σ' j=σ j)->kF H' (l.set i ({n with names:=done++ns},y)) v id o lo lF cl c'->HF (o::y.ids) H H'->H'.obj q=some [.ref id (i*5)]->Q (.exit 2) σ' H')->W Tryz.prog (.loop Jj) Q σ H:=by
  obtain⟨hi,hy⟩:i<l.length/\(l[i]?).map (·.2)=some y:=by
    refine⟨?_,hx⟩;by_cases h:i<l.length
    · exact h
    · rw [List.getElem?_eq_none (by omega)]at hx;cases hx
  have hqo:q≠o:=fun e=>GN (by rw [e];exact List.mem_cons_self);have hqi:q≠id:=fun e=>GN (by rw [e];exact List.mem_cons_of_mem _ List.mem_cons_self);have hqy:q∉y.ids:=by
    intro hm;obtain⟨x0,e0,e1⟩: ∃x0,l[i]? =some x0/\x0.2=y:=by
      cases h:l[i]? with
      |none=>rw [h]at hx;cases hx
      |some x0=>rw [h]at hx;exact⟨x0,rfl,by simpa using hx⟩
    exact GN (List.mem_cons_of_mem _ (List.mem_cons_of_mem _ (M7 e0 (e1▸hm))))
  intro m
  induction m with
  |zero=>
    intro k done c ns σ H hd hk hF hV s0 s6 s60 s61 hq ho q0;cases hF;have hge:decide ((k:Int)<(n.names.length:Int))=false:=decide_eq_false (by omega);refine aU (fun K hK=>aD ?_);unfold Jj;simp -implicitDefEqProofs only [go_sem,s60,s61,hge];rw [List.drop_of_length_le (by omega)]at hV;refine q0 _ H (fun j h10 hj=> ?_) hV (HF.refl _ _) ho;have:j≠62:=by omega
    simp only [upd,this,↓reduceIte]
  |succ m ih=>
    intro k done c ns σ H hd hk hF hV s0 s6 s60 s61 hq ho q0;rw [FQ]at hF;obtain⟨⟨s1,c1⟩,hF1,hF⟩:=aj hF;obtain⟨⟨r2,c2⟩,hF2,hF⟩:=aj hF;cases hF;have hlt:decide ((k:Int)<(n.names.length:Int))=true:=decide_eq_true (by omega);have hset:(l.set i (({n with names:=done++n.names.drop k}:Nd),y))[i]? =some (({n with names:=done++n.names.drop k}:Nd),y):=by rw [List.getElem?_set,if_pos rfl,if_pos hi]
    have JJ:=hV.own.Dv i _ hset;rw [if_pos (by rw [List.length_set];exact hi)]at JJ;obtain⟨id0,C,e1,hid,hC,hcell,hle,hdrop,hI⟩:=aO.content hV.own.row hset;obtain rfl:id=id0:=by simpa using e1
    have hmem:(done++n.names.drop k)[k]? =some (n.names[k]'(by omega)):=by
      rw [List.getElem?_append_right (by omega),hd,Nat.sub_self,List.getElem?_drop,Nat.add_zero,List.getElem?_eq_getElem]
    cases y with
    |p l0=>
      have h2:done++n.names.drop k=[]:=JJ.2;rw [h2]at hmem;cases hmem
    |m id' len cap=>
    obtain⟨h0,hr0⟩:=JJ;have hr0:aO H aI 1 (done++n.names.drop k) (.bV id' 0 len cap 1) [id']:=hr0;have c3:C[i*5+3]? =some (.bV id' 0 len cap 1):=hcell 3 _ rfl;refine aU (fun K hK=>aD ?_);unfold Jj;simp -implicitDefEqProofs only [go_sem,s60,s61,hlt];have axU:o≠id:=hV.ne;obtain⟨H1,hH1⟩: ∃H1,H1=H.put o [v,.aB (lF.map aI) cl,.int .i64 c1]:=⟨_,rfl⟩;obtain⟨hV1,hf1⟩:=hV.cnt (c':=c1);rw [<-hH1]at hV1 hf1;have ho1:H1.obj q=some [.ref id (i*5)]:=(hf1.2 q hq fun hm=>hqo (List.mem_singleton.1 hm)).trans ho;have hC1:H1.obj id=some C:=(hf1.2 id hid fun hm=>axU (List.mem_singleton.1 hm).symm).trans hC;refine⟨fun H'=>H'.obj q=some [.ref id (i*5)]/\H'.obj id=some C,⟨ho,hC⟩,?_⟩;refine dR (.ref id (i*5)) (fun H' hC'=>by simp -implicitDefEqProofs only [go_sem,s6,hC'.1]) ?_;refine dR (.ref id (i*5)) (fun H' hC'=>by simp -implicitDefEqProofs only [go_sem]) ?_;refine dR (.ref id (i*5+3)) (fun H' hC'=>by simp -implicitDefEqProofs only [go_sem]) ?_;refine dR (.bV id' 0 len cap 1) (fun H' hC'=>by simp -implicitDefEqProofs only [go_sem,hC'.2,c3]) ?_;refine dR (.int .i64 k) (fun H' hC'=>by simp -implicitDefEqProofs only [go_sem]) ?_;refine dR (.ref o 0) (fun H' hC'=>by simp -implicitDefEqProofs only [go_sem,s0]) ?_;refine .inr ⟨trivial,.str s1,H1,?_,⟨ho1,hC1⟩,?_⟩
    · show bE Tryz.prog 183 [_] H _
      simp -implicitDefEqProofs only [go_sem];exact(ad9 hF1 hV.obj).mono fun _ _ h=>⟨h.1,by rw [hH1];exact h.2⟩
    clear hH1;show WO Tryz.prog [oX 71 1 67 68,oS 1 71 70] [Fm.block 3,Fm.seq (AC.ops [oB 72 BinOp.add (AE.t 61) (AE.c (PV.int IntKind.i64 1)),oM 61 72])] (zo K Q) _ _
    have ala:(l.set i (({n with names:=done++n.names.drop k}:Nd),NV.m id' len cap))[i]? =some (({n with names:=done++n.names.drop k}:Nd),NV.m id' len cap):=hset;have alb:=hV1.own.Dv i _ ala;rw [if_pos (by rw [List.length_set];exact hi)]at alb;obtain⟨_,hr1⟩:=alb;have hr1:aO H1 aI 1 (done++n.names.drop k) (.bV id' 0 len cap 1) [id']:=hr1;obtain⟨id2,C2,e2,_,_,_,_,_,hI2⟩:=aO.content hr1 hmem;obtain rfl:id'=id2:=by simpa using e2
    have axV:lq 1 (.bV id' 0 len cap 1) (.int .i64 k)=some (.ref id' (k*1)):=hI2 .i64 k (by omega) (by omega);simp -implicitDefEqProofs only [go_sem,axV];refine qw (f:=aI) (id:=id') (o:=k*1) (i:=k) (j:=0) (a:=n.names[k]) (y:=s1) (vs:=[.str s1]) aR rfl rfl hr1 hmem aR rfl rfl (by decide) rfl (fun H' r' hf' ok'=> ?_);have es:(done++n.names.drop k).set k s1=(done++[s1])++n.names.drop (k+1):=by
      rw [List.set_append_right _ _ (by omega),hd,Nat.sub_self,List.drop_eq_getElem_cons (by omega),List.set_cons_zero,List.append_assoc];rfl
    rw [es]at r';have hV2:=hV1.axT (ns:=(done++[s1])++n.names.drop (k+1)) ala (by simp) r' hf';rw [List.set_set]at hV2;have hV2:kF H' (l.set i (({n with names:=(done++[s1])++n.names.drop (k+1)}:Nd),NV.m id' len cap)) v id o lo lF cl c1:=hV2;have axW:q≠id':=fun e=>hqy (List.mem_singleton.2 e);have hf2:HF (o::(NV.m id' len cap).ids) H H':=(hf1.up fun a ha=>by rw [List.mem_singleton.1 ha];exact List.mem_cons_self).tr (hf'.up fun a ha=>List.mem_cons_of_mem _ ha);have hw:IntKind.wrap .i64 ((k:Int)+1)=((k+1:Nat):Int):=by rw [IntKind.wrap_i64];omega
    simp -implicitDefEqProofs only [go_sem,s61,hw];refine hK _ _ (ih (k+1) (done++[s1]) c1 r2 _ H' (by simp [hd]) (by omega) hF2 hV2 aR aR aR aR (Nat.lt_of_lt_of_le hq hf2.1) ((hf'.2 q (Nat.lt_of_lt_of_le hq hf1.1) fun hm=>axW (List.mem_singleton.1 hm)).trans ho1) fun σ' H3 g1 g2 g3 g4=> ?_);rw [List.append_assoc]at g2;refine q0 σ' H3 (fun j h10 hj=>(g1 j h10 hj).trans ?_) g2 (hf2.tr g3) g4;have:j≠61/\j≠62/\j≠63/\j≠64/\j≠65/\j≠66/\j≠67/\j≠68/\j≠69/\j≠70/\j≠71/\j≠72:=by omega
    simp only [upd,h10,this,↓reduceIte]
end
def aaM (lF:List Str) (F:Nat) (bi:Bool) (n:Nd) (c:Int):Option (Nd×Int):=
  cond bi (Option.bind (FQ lF F n.names.length c) fun p=>some ({n with names:=p.1},p.2)) (some (n,c))
theorem arJ {sz id o:Nat} {x w:AE} {σ:Nat->PV} {H:AH} {vs cs:List PV} (hx:x.ev σ= .ref id o) (hw:cellsOf (w.ev σ)=some vs) (ho:H.obj id=some cs) (h1:vs.length=sz) (h2:o+sz<=cs.length) (h3:vs.all PV.one=true):
    jH (.store sz x w) σ H=some (.any,H.put id (putCells cs o vs)):=by
  simp only [jH,hx,hw,ho];rw [if_pos ⟨h1,h2,h3⟩]
theorem RP {P:Program} {Q:Post} {s:List Fm} {d:Option Nat} {l:List aS} {sz id o:Nat} {x w:AE} {σ:Nat->PV} {H:AH} {vs cs:List PV} (hx:x.ev σ= .ref id o) (hw:cellsOf (w.ev σ)=some vs) (ho:H.obj id=some cs) (h1:vs.length=sz) (h2:o+vs.length<=cs.length) (h3:vs.all PV.one=true)
    (h:WO P l s Q (upd σ d .any) (H.put id (putCells cs o vs))):WO P (⟨d,.d (.store sz x w),none⟩::l) s Q σ H:=by
  rw [dM,arJ hx hw ho h1 (h1▸h2) h3];exact h
section
variable {l:List (Nd×NV)} {v:PV} {id o lo:Nat} {lF:List Str} {cl:Ck} {i:Nat} {n n':Nd} {y:NV} {F q b:Nat} {c c':Int} {bi:Bool} {H:AH} {σ:Nat->PV} {Q:Post}
theorem arK (hV:kF H l v id o lo lF cl c) (hx:l[i]? =some (n,y)) (hnl:n.names.length<=1000000) (GN:q∉kP l id o) (hbM:b∉kP l id o) (hqb:q≠b) (s0:σ 0= .ref o 0) (s6:σ 6= .ref q 0) (s9:σ 9= .ref b 0) (hq:q<H.next) (hbl:b<H.next)
    (ho:H.obj q=some [.ref id (i*5)]) (Ae:H.obj b=some (jA (n,y))) (hbi:lM n.kind=some bi) (hF:aaM lF F bi n c=some (n',c'))
    (q0: ∀σ' H' (z:NV),(∀j,j≠10->j<45\/72<j->σ' j=σ j)->kF H' (l.set i (n',y)) v id o lo lF cl c'->(bi=true->iW H' (n,z)/\ ∀a∈z.ids,H.next<=a)->HF (b::o::y.ids) H H'->H'.obj q=some [.ref id (i*5)]->H'.obj b=some (jA (n,z))->Q .normal σ' H'):W Tryz.prog OY Q σ H:=by
  obtain⟨id0,C,e1,hid,hC,hcell,hle,hdrop,hI⟩:=aO.content hV.own.row hx;obtain rfl:id=id0:=by simpa using e1
  have hi:=(List.getElem?_eq_some_iff.1 hx).1;have hy:iW H (n,y):=by
    have:=hV.own.Dv i _ hx;rw [if_pos hi]at this;exact this
  have c0:C[i*5]? =some (.int .i64 n.kind):=hcell 0 _ rfl;have c3:C[i*5+3]? =some y.pv:=hcell 3 _ rfl;refine aD ?_;unfold OY;simp -implicitDefEqProofs only [go_sem,s6,ho,hC,c0];refine aA (aan hbi) ?_;cases bi
  case false=>
    cases hF;simp -implicitDefEqProofs only [go_sem];refine q0 _ H y (fun j h10 hj=> ?_) (by rw [P5 hx];exact hV) (fun h=>by cases h) (HF.refl _ _) ho Ae;have:j≠45/\j≠46/\j≠47/\j≠48/\j≠49:=by omega
    simp only [upd,this,↓reduceIte]
  case true=>
    obtain⟨⟨ns,c2⟩,hF1,hF⟩:=aj hF;cases hF;simp -implicitDefEqProofs only [go_sem,s6,ho,hC,c3];refine bE.mono (ab6 hy hnl) ?_;rintro _ H1 ⟨z,rfl,hz,hzn,hf1,hok1⟩;have axX:b≠id:=fun e=>hbM (by rw [e];exact List.mem_cons_of_mem _ List.mem_cons_self);have ho1:H1.obj q=some [.ref id (i*5)]:=(hf1.2 q hq List.not_mem_nil).trans ho;have hC1:H1.obj id=some C:=(hf1.2 id hid List.not_mem_nil).trans hC;have axY:H1.obj b=some (jA (n,y)):=(hf1.2 b hbl List.not_mem_nil).trans Ae;have hV1:=hV.new hf1 (fun a ha=>by cases ha);have hcz:cellsOf z.pv=some [z.pv]:=by cases z<;>rfl
    have hone:[z.pv].all PV.one=true:=by cases z<;>rfl
    have hput:putCells (jA (n,y)) 3 [z.pv]=jA (n,z):=by cases z<;>rfl
    simp -implicitDefEqProofs only [go_sem,s9];refine RP (id:=b) (o:=3) (vs:=[z.pv]) (cs:=jA (n,y)) aR (by simp -implicitDefEqProofs only [go_sem,hcz]) axY rfl (by show 4<=5;decide) hone ?_;rw [hput];obtain⟨H2,hH2⟩: ∃H2,H2=H1.put b (jA (n,z)):=⟨_,rfl⟩;rw [<-hH2];have hf2:HF [b] H1 H2:=by rw [hH2];exact HF.put (.inl (List.mem_singleton.2 rfl)) (HF.refl _ _)
    have axZ:H2.obj b=some (jA (n,z)):=by
      rw [hH2];show(if b=b then _ else _)=_;rw [if_pos rfl]
    clear hH2;have hb1:b<H1.next:=Nat.lt_of_lt_of_le hbl hf1.1;have ho2:H2.obj q=some [.ref id (i*5)]:=(hf2.2 q (Nat.lt_of_lt_of_le hq hf1.1) fun hm=>hqb (List.mem_singleton.1 hm)).trans ho1;have hC2:H2.obj id=some C:=(hf2.2 id (Nat.lt_of_lt_of_le hid hf1.1) fun hm=>axX (List.mem_singleton.1 hm).symm).trans hC1;have hV2:=hV1.hf hf2 (fun a ha hm=>hbM (List.mem_singleton.1 hm▸ha));have hz2:iW H2 (n,z):=hz.hf hf2 fun a ha hm=>by have:=hzn a ha;rw [List.mem_singleton.1 hm]at this;omega
    have hq2:q<H2.next:=Nat.lt_of_lt_of_le hq (Nat.le_trans hf1.1 hf2.1);have hb2:b<H2.next:=Nat.lt_of_lt_of_le hb1 hf2.1;have hlen:yA y.pv=some (.int .i64 n.names.length):=(ow.whole hy).len;simp -implicitDefEqProofs only [go_sem,s6,ho2,hC2,c3,hlen];have e0:(({n with names:=[]++n.names.drop 0}:Nd),y)=(n,y):=rfl;refine ab7 (i:=i) (n:=n) (y:=y) (F:=F) (q:=q) (l:=l) (v:=v) (id:=id) (o:=o) (lo:=lo) (lF:=lF) (cl:=cl) (by rw [hx];rfl) GN hnl n.names.length 0 [] c ns _ H2 rfl (Nat.zero_add _) hF1 (by rw [e0,P5 hx];exact hV2) aR aR aR aR hq2 ho2 fun σ' H3 g1 g2 g3 g4=> ?_;have qd:HF [b] H H2:=(hf1.up fun a ha=>by cases ha).tr hf2;have hby:b∉y.ids:=fun hm=>hbM (List.mem_cons_of_mem _ (List.mem_cons_of_mem _ (M7 hx hm)));have FZ:b≠o:=fun e=>hbM (by rw [e];exact List.mem_cons_self);refine q0 σ' H3 z (fun j h10 hj=>(g1 j h10 (by omega)).trans ?_) g2 (fun _=>⟨hz2.hf g3 fun a ha hm=> ?_,hzn⟩) ((qd.up fun a ha=> ?_).tr (g3.up fun a ha=>List.mem_cons_of_mem _ ha)) g4 ((g3.2 b hb2 fun hm=> ?_).trans axZ)
    · have:j≠45/\j≠46/\j≠47/\j≠48/\j≠49/\j≠50/\j≠51/\j≠52/\j≠53/\j≠54/\j≠55/\j≠56/\j≠57/\j≠58/\j≠59/\j≠60/\j≠61:=by omega
      simp only [upd,this,↓reduceIte]
    · have h1:=hzn a ha;have h2:a<H.next:=by
        rcases List.mem_cons.1 hm with rfl|hm
        · exact hV.lt
        · exact hy.lt a hm
      omega
    · rw [List.mem_singleton.1 ha];exact List.mem_cons_self
    · rcases List.mem_cons.1 hm with rfl|hm
      · exact FZ rfl
      · exact hby hm
end
section
variable {l:List (Nd×NV)} {v:PV} {id o lo:Nat} {lF:List Str} {cl:Ck} {i:Nat} {n:Nd} {y:NV} {q j:Nat} {c:Int} {a b:List Str} {ids:List Nat} {v87:PV} {Q:Post}
theorem agM (hx:l[i]? =some (n,y)) (GN:q∉kP l id o) (hb:fZ n (j:Int)=some b) (hab:a.length<=b.length) (hal:a.length<=1000000): ∀(m k:Nat) (sc:List Scope) (ck:Ck) (σ:Nat->PV) (H:AH),k+m=a.length->ow H a v87 ids->kF H l v id o lo lF cl c->bA H ck->
    σ 87=v87->σ 88= .int .i64 a.length->σ 89= .int .i64 k->σ 11= .int .i64 j->σ 13= .aB (sc.map Scope.cells) ck->σ 6= .ref q 0->q<H.next->H.obj q=some [.ref id (i*5)]->sc.length+m<=1000000000->
    (∀σ' H' Bl,(∀j,j≠13/\j≠14/\j≠15->j<89\/107<j->σ' j=σ j)->σ' 13= .aB ((sc++List.zipWith Scope.mk (a.drop k) (b.drop k)).map Scope.cells) Bl->HF [] H H'->Q (.exit 6) σ' H')->W Tryz.prog (.loop Jk) Q σ H:=by
  intro m
  induction m with
  |zero=>
    intro k sc ck σ H hk hB hV hok s87 s88 s89 s11 s13 s6 hq ho hsc q0;have hge:decide ((k:Int)<(a.length:Int))=false:=decide_eq_false (by omega);refine aU (fun K hK=>aD ?_);unfold Jk;simp -implicitDefEqProofs only [go_sem,s88,s89,hge];refine q0 _ H ck (fun j h10 hj=> ?_) ?_ (HF.refl _ _)
    · have:j≠90:=by omega
      simp only [upd,this,↓reduceIte]
    · rw [List.drop_of_length_le (by omega),List.zipWith_nil_left,List.append_nil];simp -implicitDefEqProofs only [go_sem,s13]
  |succ m ih=>
    intro k sc ck σ H hk hB hV hok s87 s88 s89 s11 s13 s6 hq ho hsc q0;have hlt:decide ((k:Int)<(a.length:Int))=true:=decide_eq_true (by omega);obtain⟨id0,C,e1,hid,hC,hcell,hle,hdrop,hI⟩:=aO.content hV.own.row hx;obtain rfl:id=id0:=by simpa using e1
    have h5:=hle 5 (Nat.le_refl _);have hy:iW H (n,y):=by
      have:=hV.own.Dv i _ hx;rw [if_pos (List.getElem?_eq_some_iff.1 hx).1]at this;exact this
    have hka:k<a.length:=by omega
    have hkb:k<b.length:=by omega
    obtain⟨KU,aCp,Ca,i1,i2,i3,i4,i5⟩:=hB.at_ k a[k] (List.getElem?_eq_getElem hka);refine aU (fun K hK=>aD ?_);unfold Jk;simp -implicitDefEqProofs only [go_sem,s87,s88,s89,hlt,i1,i4,i5,s13,s6,ho,hC,hdrop,h5,s11];refine bE.mono (aaI hy hb) ?_;rintro vb H1 ⟨hBb,hf1,hok1⟩;obtain⟨Ga,aCq,Cb,j1,j2,j3,j4,j5⟩:=hBb.at_ k b[k] (List.getElem?_eq_getElem hkb);simp -implicitDefEqProofs only [go_sem,j1,j4,j5];refine gF (f:=Scope.cells) agL sc [⟨a[k],b[k]⟩] ck .exact aR aR (hok1 ck hok) (by simp;omega) (fun Bl H2 g1 g2 g3 g4=> ?_);have hf2:HF [] H1 H2:=⟨g2,fun i _ _=>g3 i⟩;have qd:=hf1.tr hf2;have hw:IntKind.wrap .i64 ((k:Int)+1)=((k+1:Nat):Int):=by rw [IntKind.wrap_i64];omega
    simp -implicitDefEqProofs only [go_sem,s89,hw];refine hK _ _ (ih (k+1) (sc++[⟨a[k],b[k]⟩]) Bl _ H2 (by omega) (hB.hf qd (fun _ _ h=>by cases h)) (hV.new qd (fun _ h=>by cases h)) g1 aR aR aR aR aR aR (Nat.lt_of_lt_of_le hq qd.1) ((qd.2 q hq List.not_mem_nil).trans ho) (by simp;omega) fun σ' H3 ck3 g1 g2 g3=> ?_);refine q0 σ' H3 ck3 (fun j h10 hj=>(g1 j h10 hj).trans ?_) ?_ (qd.tr g3)
    · have:j≠89/\j≠90/\j≠91/\j≠92/\j≠93/\j≠94/\j≠95/\j≠96/\j≠97/\j≠98/\j≠99/\j≠100/\j≠101/\j≠102/\j≠103/\j≠104/\j≠105/\j≠106/\j≠107:=by omega
      simp only [upd,h10,this,↓reduceIte]
    · rw [g2,List.drop_eq_getElem_cons hka,List.drop_eq_getElem_cons hkb,List.zipWith_cons_cons,List.append_assoc];rfl
end
theorem agN {H:AH} {n:Nd} {z:NV} {p:Nat} (hk:n.kind=16\/n.kind=17):bE Tryz.prog 121 [.agg (jA (n,z)),.int .i64 p] H fun v H'=>ow H' [] v z.ids/\HF [] H H'/\ ∀c,bA H c->bA H' c:=by
  refine aG adN (by simp) (aD ?_);have hnew:HF [] H (H.new (jA (n,z))):=HF.new (HF.refl _ _);have hok: ∀c,bA H c->bA (H.new (jA (n,z))) c:=fun c k=>k.new;have h10:jv n.kind=some false:=by rcases hk with h|h<;>rw [h]<;>rfl
  have e21:(n.kind==23)=false:=by rcases hk with h|h<;>rw [h]<;>rfl
  unfold X9;simp -implicitDefEqProofs only [go_sem,dM,jA,Nat.le_refl];refine EU n.kind _ _ _ (Fr.refl _ _) (by simp -implicitDefEqProofs only [go_sem]) _ h10 _ ?_;rintro nJ σ' eo pG s15;subst eo;have s16:σ' 2=(.ref H.next 0):=(pG 2 (by decide)).trans (by simp -implicitDefEqProofs only [go_sem]);have um:σ' 5=(.bool ((p:Int)==(IntKind.wrap .i64 ((n.args.length:Int) -1)))):=(pG 5 (by decide)).trans (by simp -implicitDefEqProofs only [go_sem]);have jE:σ' 13=(.int .i64 n.kind):=(pG 13 (by decide)).trans (by simp -implicitDefEqProofs only [go_sem]);clear pG;simp -implicitDefEqProofs only [go_sem,dM,s15,s16,um,jE,e21];exact⟨ow.nil,hnew,hok⟩
theorem agO {n:Nd} {j:Int} {r:List Str} (hk:n.kind=16\/n.kind=17) (h:fZ n j=some r):r=[]:=by
  have h10:jv n.kind=some false:=by rcases hk with h|h<;>rw [h]<;>rfl
  have e21:(n.kind==23)=false:=by rcases hk with h|h<;>rw [h]<;>rfl
  unfold fZ at h;rw [h10,Option.bind_some,cond_false,e21,cond_false]at h;exact(ak h).symm
theorem WV {k:Int} (h:lM k=some false):k=16\/k=17:=by
  unfold lM at h;rcases au h with⟨e,h⟩|⟨e,h⟩
  · right;have:=ak h;simpa using this
  · left;simpa using e
abbrev aeO:=List Nd->Int->Nat->List Scope->Option (List Nd×Int)
def Mq (rec:aeO) (old:Nd) (i:Nat) (bOo:List Scope):List Int->Nat->List Nd->Int->Option (List Nd×Int)
  |[],_,out,c=>some (out,c)
  |a::l,j,out,c=>Option.bind out[i]? fun n=>Option.bind (fZ old (j:Int)) fun x=>Option.bind (fZ n (j:Int)) fun y=>
      if x.length<=y.length/\x.length<=1000000/\0<=a then Option.bind (rec out c a.toNat (bOo++List.zipWith Scope.mk x y)) fun p=>Mq rec old i bOo l (j+1) p.1 p.2 else none
def Hz (lF:List Str) (F:Nat):Nat->aeO
  |0=>fun _ _ _ _=>none
  |k+1=>fun out c i bOo=>Option.bind out[i]? fun n=>Option.bind (nG F n) fun nm=>Option.bind (lM n.kind) fun bi=>
      let n1:Nd:={n with text:=if nm=true then iY bOo n.text else n.text}
      Option.bind (aaM lF F bi n1 c) fun p=>if bOo.length<=1000000/\n.names.length<=1000000/\n.args.length<=1000000 then Mq (Hz lF F k) n1 i bOo n.args 0 (out.set i p.1) p.2 else none
def yw (taken:List Str) (F:Nat) (fx:Bool):List Str->Int->Option (List Str×Int)
  |[],c=>some ([],c)
  |s::l,c=>Option.bind (cond fx (some (s,c)) (Bh taken F c)) fun p=>Option.bind (yw taken F fx l p.2) fun r=>some (p.1::r.1,r.2)
def jI (n:Nd) (v:PV):List PV:=[.int .i64 n.kind,.int .i64 n.n,.str n.text,v,.aB (n.args.map aY) .unk]
section
variable {taken:List Str} {F:Nat} {fx:Bool} {n:Nd} {o p b:Nat} {cl:Ck} {Q:Post} {c':Int}
theorem amK (hn:n.names.length<=1000000) (hop:o≠p) (Ae:o≠b) (hpb:p≠b): ∀(m i:Nat) (done:List Str) (ck:Ck) (c:Int) (ns:List Str) (σ:Nat->PV) (H:AH),i+m=n.names.length->done.length=i->yw taken F fx (n.names.drop i) c=some (ns,c')->
    H.obj o=some [.aB (taken.map aI) cl,.int .i64 c]->H.obj p=some (jI n (.aB (done.map aI) ck))->H.obj b=some (jI n (.aB (n.names.map aI) .unk))->o<H.next->p<H.next->b<H.next->bA H ck->
    σ 0= .ref o 0->σ 9= .ref p 0->σ 10= .ref b 0->σ 11= .bool fx->σ 12= .int .i64 i->
    (∀σ' H' Bl,(∀j,j≠12->j<39\/63<j->σ' j=σ j)->H'.obj o=some [.aB (taken.map aI) cl,.int .i64 c']->H'.obj p=some (jI n (.aB ((done++ns).map aI) Bl))->HF [o,p] H H'->(∀c3,bA H c3->kQ ck c3->bA H' c3)->Q (.exit 0) σ' H')->W Tryz.prog (.loop Ih) Q σ H:=by
  intro m
  induction m with
  |zero=>
    intro i done ck c ns σ H hi hd h ho hp hb lo lp lb hok s0 s9 s10 s11 s12 q0;rw [List.drop_of_length_le (by omega)]at h;cases h;have hge:decide ((i:Int)<(n.names.length:Int))=false:=decide_eq_false (by omega);refine aU (fun K hK=>aD ?_);unfold Ih;have hb':=hb;unfold jI at hb';simp -implicitDefEqProofs only [go_sem,s10,s12,hb',hge];refine q0 _ H ck (fun j h12 hj=> ?_) ho (by rw [List.append_nil];exact hp) (HF.refl _ _) (fun c3 h _=>h);have:j≠39/\j≠40/\j≠41/\j≠42/\j≠43:=by omega
    simp only [upd,this,↓reduceIte]
  |succ m ih=>
    intro i done ck c ns σ H hi hd h ho hp hb lo lp lb hok s0 s9 s10 s11 s12 q0;have hin:i<n.names.length:=by omega
    rw [List.drop_eq_getElem_cons hin,yw]at h;obtain⟨⟨s1,c1⟩,h1,h2⟩:=aj h;obtain⟨⟨r2,c2⟩,h3,h4⟩:=aj h2;cases h4;clear h h2;have hlt:decide ((i:Int)<(n.names.length:Int))=true:=decide_eq_true (by omega);have hget:(n.names.map aI)[i]? =some (aI n.names[i]):=by rw [List.getElem?_map,List.getElem?_eq_getElem hin];rfl
    have hw:IntKind.wrap .i64 ((i:Int)+1)=((i+1:Nat):Int):=by rw [IntKind.wrap_i64];omega
    refine aU (fun K hK=>aD ?_);unfold Ih;have hb':=hb;have hp':=hp;unfold jI at hb' hp';simp -implicitDefEqProofs only [go_sem,s10,s11,s12,hb',hlt];have hput: ∀v v':PV,putCells (jI n v) 3 [v']=jI n v':=fun _ _=>rfl;cases fx with
    |true=>
      cases h1;simp -implicitDefEqProofs only [go_sem];refine eZ ?_;simp -implicitDefEqProofs only [go_sem,s9,s10,s12,hp',hb',hget];refine gF (f:=aI) jw done [n.names[i]] ck .exact aR aR hok (by simp;omega) (fun Bl H2 g1 g2 g3 g4=> ?_);simp -implicitDefEqProofs only [go_sem,s9];refine RP (id:=p) (o:=3) (vs:=[.aB ((done++[n.names[i]]).map aI) Bl]) (cs:=jI n (.aB (done.map aI) ck)) aR aR ((g3 p).trans hp) rfl (by show 4<=5;decide) rfl ?_;rw [hput];simp -implicitDefEqProofs only [go_sem,s12,hw];obtain⟨H3,hH3⟩: ∃H3,H3=H2.put p (jI n (.aB ((done++[n.names[i]]).map aI) Bl)):=⟨_,rfl⟩;rw [<-hH3];have op3: ∀j,j≠p->H3.obj j=H2.obj j:=fun j hj=>by rw [hH3];show(if j=p then _ else _)=_;rw [if_neg hj]
      have pp3:H3.obj p=some (jI n (.aB ((done++[n.names[i]]).map aI) Bl)):=by rw [hH3];show(if p=p then _ else _)=_;rw [if_pos rfl]
      have nx3:H3.next=H2.next:=by rw [hH3];rfl
      have ZA: ∀c3,bA H2 c3->bA H3 c3:=fun c3 h=>by rw [hH3];exact h.put
      clear hH3;have hf3:HF [o,p] H H3:=⟨by rw [nx3];exact g2,fun a ha hm=>by
        rw [op3 a (fun e=>hm (by rw [e];simp)),g3]⟩
      refine hK _ _ (ih (i+1) (done++[n.names[i]]) Bl c r2 _ H3 (by omega) (by simp [hd]) h3 ((op3 o hop).trans ((g3 o).trans ho)) pp3 ((op3 b (Ne.symm hpb)).trans ((g3 b).trans hb)) (by omega) (by omega) (by omega) (ZA _ g1) aR aR aR aR aR fun σ' H4 ck4 k1 k2 k3 k4 k5=> ?_);rw [List.append_assoc]at k3;refine q0 σ' H4 ck4 (fun j h12 hj=>(k1 j h12 hj).trans ?_) k2 k3 (hf3.tr k4) (fun c3 a1 a2=>k5 c3 (ZA _ (g4 c3 a1 a2).1) (g4 c3 a1 a2).2);have:j≠39/\j≠40/\j≠41/\j≠42/\j≠43/\j≠44/\j≠45/\j≠46/\j≠47/\j≠48/\j≠49/\j≠50/\j≠51/\j≠52/\j≠53/\j≠54/\j≠55/\j≠56:=by omega
      simp only [upd,h12,this,↓reduceIte]
    |false=>
      simp -implicitDefEqProofs only [go_sem];obtain⟨H1,hH1⟩: ∃H1,H1=H.put o [.aB (taken.map aI) cl,.int .i64 c1]:=⟨_,rfl⟩;have op1: ∀j,j≠o->H1.obj j=H.obj j:=fun j hj=>by rw [hH1];show(if j=o then _ else _)=_;rw [if_neg hj]
      have oo1:H1.obj o=some [.aB (taken.map aI) cl,.int .i64 c1]:=by rw [hH1];show(if o=o then _ else _)=_;rw [if_pos rfl]
      have nx1:H1.next=H.next:=by rw [hH1];rfl
      have ok1: ∀c3,bA H c3->bA H1 c3:=fun c3 h=>by rw [hH1];exact h.put
      have hp1:H1.obj p=some (jI n (.aB (done.map aI) ck)):=(op1 p (Ne.symm hop)).trans hp;refine⟨fun H'=>H'.obj p=some (jI n (.aB (done.map aI) ck)),hp,?_⟩;refine dR (.ref p 3) (fun H' hC'=>by simp -implicitDefEqProofs only [go_sem,s9]) ?_;refine dR (.aB (done.map aI) ck) (fun H' hC'=>by
        unfold jI at hC';simp -implicitDefEqProofs only [go_sem,hC']) ?_
      refine dR (.ref o 0) (fun H' hC'=>by simp -implicitDefEqProofs only [go_sem,s0]) ?_;refine .inr ⟨trivial,.str s1,H1,?_,hp1,?_⟩
      · show bE Tryz.prog 138 [_] H _
        simp -implicitDefEqProofs only [go_sem];exact(aeN h1 ho).mono fun _ _ h=>⟨h.1,by rw [hH1];exact h.2⟩
      clear hH1;refine dR (.aB [[.str s1]] .exact) (fun H' hC'=>by simp -implicitDefEqProofs only [go_sem]) ?_;show WO Tryz.prog [{dst:=some 62,k:=AK.d (DK.app 1 16 (AE.t 58) (AE.t 61)),g:=none},oF 63 3 9,oS 1 63 62] [Fm.block 1,Fm.seq (AC.ops [oM 44 12,oB 45 BinOp.add (AE.t 44) (AE.c (PV.int IntKind.i64 1)),oM 12 45])] (zo K Q) _ _
      refine gF (f:=aI) jw done [s1] ck .exact aR aR (ok1 _ hok) (by simp;omega) (fun Bl H2 g1 g2 g3 g4=> ?_);simp -implicitDefEqProofs only [go_sem,s9];refine RP (id:=p) (o:=3) (vs:=[.aB ((done++[s1]).map aI) Bl]) (cs:=jI n (.aB (done.map aI) ck)) aR aR ((g3 p).trans hp1) rfl (by show 4<=5;decide) rfl ?_;rw [hput];simp -implicitDefEqProofs only [go_sem,s12,hw];obtain⟨H3,hH3⟩: ∃H3,H3=H2.put p (jI n (.aB ((done++[s1]).map aI) Bl)):=⟨_,rfl⟩;rw [<-hH3];have op3: ∀j,j≠p->H3.obj j=H2.obj j:=fun j hj=>by rw [hH3];show(if j=p then _ else _)=_;rw [if_neg hj]
      have pp3:H3.obj p=some (jI n (.aB ((done++[s1]).map aI) Bl)):=by rw [hH3];show(if p=p then _ else _)=_;rw [if_pos rfl]
      have nx3:H3.next=H2.next:=by rw [hH3];rfl
      have ZA: ∀c3,bA H2 c3->bA H3 c3:=fun c3 h=>by rw [hH3];exact h.put
      clear hH3;have hf3:HF [o,p] H H3:=⟨by omega,fun a ha hm=>by
        rw [op3 a (fun e=>hm (by rw [e];simp)),g3,op1 a (fun e=>hm (by rw [e];simp))]⟩
      refine hK _ _ (ih (i+1) (done++[s1]) Bl c1 r2 _ H3 (by omega) (by simp [hd]) h3 ((op3 o hop).trans ((g3 o).trans oo1)) pp3 ((op3 b (Ne.symm hpb)).trans ((g3 b).trans ((op1 b (Ne.symm Ae)).trans hb))) (by omega) (by omega) (by omega) (ZA _ g1) aR aR aR aR aR fun σ' H4 ck4 k1 k2 k3 k4 k5=> ?_);rw [List.append_assoc]at k3;refine q0 σ' H4 ck4 (fun j h12 hj=>(k1 j h12 hj).trans ?_) k2 k3 (hf3.tr k4) (fun c3 a1 a2=>k5 c3 (ZA _ (g4 c3 (ok1 _ a1) a2).1) (g4 c3 (ok1 _ a1) a2).2);have:j≠39/\j≠40/\j≠41/\j≠42/\j≠43/\j≠44/\j≠45/\j≠46/\j≠57/\j≠58/\j≠59/\j≠60/\j≠61/\j≠62/\j≠63:=by omega
      simp only [upd,h12,this,↓reduceIte]
end
theorem aja {P:Program} {C:AH->Prop} {α:Type} {d:Option Nat} {l:List (aS×Bool)} {K:(Nat->PV)->AH->Prop} {σ:Nat->PV} {H:AH} {sz b:Nat} {x y:AE} {f:α->List PV} (hf: ∀x,mo sz (f x)) (xs ys:List α) (c c2:Ck)
    (hx:x.ev σ= .aB (xs.map f) c) (hy:H7 (y.ev σ)= .aB (ys.map f) c2) (hok:bA H c) (hb:(xs.length+ys.length)*b<=1099511627776)
    (h: ∀c' H',bA H' c'->H.next<=H'.next->(∀i,H'.obj i=H.obj i)->(∀c3,bA H c3->kQ c c3->bA H' c3/\kQ c' c3)->C H'/\iP P C l K (upd σ d (.aB ((xs++ys).map f) c')) H'):
    iP P C ((⟨d,.d (.app sz b x y),none⟩,true)::l) K σ H:=by
  obtain⟨c',H',f1,f2,f3,f4,f5⟩:=ac1 hf xs ys c c2 hx hy hok hb;obtain⟨h1,h2⟩:=h c' H' f2 f3 f4 f5;exact Qp _ H' f1 h1 h2
def Mr (F:Nat) (old nn:List Str):List Str->Option (List Str)
  |[]=>some []
  |s::l=>Option.bind (I8 F old s) fun j=>if 0<=j then Option.bind nn[j.toNat]? fun t=>Option.bind (Mr F old nn l) fun r=>some (t::r)else none
section
variable {F:Nat} {n:Nd} {p b:Nat} {bs nn:List Str} {RQ:Ck} {Q:Post}
theorem amL (hbs:bs.length<=1000000): ∀(m j:Nat) (bd cd:List Str) (c16 c17:Ck) (ms:List Str) (σ:Nat->PV) (H:AH),j+m=bs.length->Mr F n.names nn (bs.drop j)=some ms->
    H.obj p=some (jI n (.aB (nn.map aI) RQ))->H.obj b=some (jI n (.aB (n.names.map aI) .unk))->bA H c16->bA H c17->kQ c16 c17->bd.length+m<=100000000->cd.length+m<=100000000->
    σ 9= .ref p 0->σ 10= .ref b 0->σ 15= .aB (bs.map aI) .unk->σ 16= .aB (bd.map aI) c16->σ 17= .aB (cd.map aI) c17->σ 18= .int .i64 j->
    (∀σ' H' aeP ajb,(∀j,j≠16/\j≠17/\j≠18->j<78\/104<j->σ' j=σ j)->σ' 16= .aB ((bd++bs.drop j).map aI) aeP->σ' 17= .aB ((cd++ms).map aI) ajb->HF [] H H'->(∀c3,bA H c3->kQ c16 c3->kQ c17 c3->bA H' c3)->Q (.exit 4) σ' H')->W Tryz.prog (.loop MJ) Q σ H:=by
  intro m
  induction m with
  |zero=>
    intro j bd cd c16 c17 ms σ H hj h hp hb k16 k17 hd hl1 hl2 s9 s10 s15 s16 um jE q0;rw [List.drop_of_length_le (by omega)]at h;cases h;have hge:decide ((j:Int)<(bs.length:Int))=false:=decide_eq_false (by omega);refine aU (fun K hK=>aD ?_);unfold MJ;simp -implicitDefEqProofs only [go_sem,s15,jE,hge];refine q0 _ H c16 c17 (fun i h12 hj=> ?_) ?_ ?_ (HF.refl _ _) (fun c3 h _ _=>h)
    · have:i≠78/\i≠79/\i≠80/\i≠81:=by omega
      simp only [upd,this,↓reduceIte]
    · rw [List.drop_of_length_le (by omega),List.append_nil];simp -implicitDefEqProofs only [go_sem,s16]
    · rw [List.append_nil];simp -implicitDefEqProofs only [go_sem,um]
  |succ m ih=>
    intro j bd cd c16 c17 ms σ H hj h hp hb k16 k17 hd hl1 hl2 s9 s10 s15 s16 um jE q0;have hjn:j<bs.length:=by omega
    rw [List.drop_eq_getElem_cons hjn,Mr]at h;obtain⟨a,ha,h1⟩:=aj h;obtain⟨ha0,h2⟩:=aQ h1;obtain⟨t,ht,h3⟩:=aj h2;obtain⟨r,hr,h4⟩:=aj h3;cases h4;clear h h1 h2 h3;have hlt:decide ((j:Int)<(bs.length:Int))=true:=decide_eq_true (by omega);have hget:(bs.map aI)[j]? =some (aI bs[j]):=by rw [List.getElem?_map,List.getElem?_eq_getElem hjn];rfl
    have atH:(nn.map aI)[a.toNat]? =some (aI t):=by rw [List.getElem?_map,ht];rfl
    have hw:IntKind.wrap .i64 ((j:Int)+1)=((j+1:Nat):Int):=by rw [IntKind.wrap_i64];omega
    refine aU (fun K hK=>aD ?_);unfold MJ;simp -implicitDefEqProofs only [go_sem,s15,jE,hlt];refine⟨fun H'=>H'.obj p=some (jI n (.aB (nn.map aI) RQ))/\H'.obj b=some (jI n (.aB (n.names.map aI) .unk)),⟨hp,hb⟩,?_⟩;refine dR (.aB (bd.map aI) c16) (fun H' hC'=>by simp -implicitDefEqProofs only [go_sem,s16]) ?_;refine dR (.aB (bs.map aI) .unk) (fun H' hC'=>by simp -implicitDefEqProofs only [go_sem,s15]) ?_;refine dR (.int .i64 j) (fun H' hC'=>by simp -implicitDefEqProofs only [go_sem,jE]) ?_;refine dR (.eB (aI bs[j]) 0) (fun H' hC'=>by simp -implicitDefEqProofs only [go_sem,hget]) ?_;refine dR (.str bs[j]) (fun H' hC'=>by simp -implicitDefEqProofs only [go_sem,aI]) ?_;refine dR (.aB [[.str bs[j]]] .exact) (fun H' hC'=>by simp -implicitDefEqProofs only [go_sem]) ?_;refine aja (f:=aI) jw bd [bs[j]] c16 .exact aR aR k16 (by simp;omega) (fun aeP H2 g1 g2 g3 g4=> ?_);have hp2:=(g3 p).trans hp;have hb2:=(g3 b).trans hb;refine⟨⟨hp2,hb2⟩,?_⟩;refine dR (.aB (cd.map aI) c17) (fun H' hC'=>by simp -implicitDefEqProofs only [go_sem,um]) ?_;refine dR (.ref p 3) (fun H' hC'=>by simp -implicitDefEqProofs only [go_sem,s9]) ?_;refine dR (.aB (nn.map aI) RQ) (fun H' hC'=>by
      have hC':=hC'.1;unfold jI at hC';simp -implicitDefEqProofs only [go_sem,hC']) ?_
    refine dR (.ref b 3) (fun H' hC'=>by simp -implicitDefEqProofs only [go_sem,s10]) ?_;refine dR (.aB (n.names.map aI) .unk) (fun H' hC'=>by
      have hC':=hC'.2;unfold jI at hC';simp -implicitDefEqProofs only [go_sem,hC']) ?_
    refine dR (.aB (bs.map aI) .unk) (fun H' hC'=>by simp -implicitDefEqProofs only [go_sem,s15]) ?_;refine dR (.int .i64 j) (fun H' hC'=>by simp -implicitDefEqProofs only [go_sem,jE]) ?_;refine dR (.eB (aI bs[j]) 0) (fun H' hC'=>by simp -implicitDefEqProofs only [go_sem,hget]) ?_;refine dR (.str bs[j]) (fun H' hC'=>by simp -implicitDefEqProofs only [go_sem,aI]) ?_;refine yU (.int .i64 a) (by simp -implicitDefEqProofs only [go_sem];exact agG ha) ?_;refine dR (.eB (aI t) 0) (fun H' hC'=>by simp -implicitDefEqProofs only [go_sem,atH,ha0]) ?_;refine dR (.str t) (fun H' hC'=>by simp -implicitDefEqProofs only [go_sem,aI]) ?_;refine dR (.aB [[.str t]] .exact) (fun H' hC'=>by simp -implicitDefEqProofs only [go_sem]) ?_;show WO Tryz.prog [{dst:=some 104,k:=AK.d (DK.app 1 16 (AE.t 91) (AE.t 103)),g:=none},oM 16 90,oM 17 104] [Fm.block 5,Fm.seq (AC.ops [oM 82 18,oB 83 BinOp.add (AE.t 82) (AE.c (PV.int IntKind.i64 1)),oM 18 83])] (zo K Q) _ _
    obtain⟨ax0,ax1⟩:=g4 c17 k17 hd;refine gF (f:=aI) jw cd [t] c17 .exact aR aR ax0 (by simp;omega) (fun ajb H3 e1 e2 e3 e4=> ?_);simp -implicitDefEqProofs only [go_sem,jE,hw];have hf3:HF [] H H3:=⟨Nat.le_trans g2 e2,fun a _ _=>(e3 a).trans (g3 a)⟩;obtain⟨ajc,ax2⟩:=e4 aeP g1 ax1.symm;refine hK _ _ (ih (j+1) (bd++[bs[j]]) (cd++[t]) aeP ajb r _ H3 (by omega) hr ((e3 p).trans hp2) ((e3 b).trans hb2) ajc e1 ax2.symm (by simp;omega) (by simp;omega) aR aR aR aR aR aR fun σ' H4 u16 u17 v1 v2 v3 v4 v5=> ?_);rw [List.append_assoc]at v2 v3;refine q0 σ' H4 u16 u17 (fun i h12 hj=>(v1 i h12 hj).trans ?_) ?_ v3 (hf3.tr v4) (fun c3 w1 w2 w3=> ?_)
    · have:i≠78/\i≠79/\i≠80/\i≠81/\i≠82/\i≠83/\i≠84/\i≠85/\i≠86/\i≠87/\i≠88/\i≠89/\i≠90/\i≠91/\i≠92/\i≠93/\i≠94/\i≠95/\i≠96/\i≠97/\i≠98/\i≠99/\i≠100/\i≠101/\i≠102/\i≠103/\i≠104:=by omega
      simp only [upd,h12,this,↓reduceIte]
    · rw [v2,List.drop_eq_getElem_cons hjn];rfl
    · obtain⟨x1,x2⟩:=g4 c3 w1 w2;obtain⟨y1,y2⟩:=e4 c3 x1 w3;exact v5 c3 y1 x2 y2
end
theorem ac7 (l:List Str) (hl:l.length<=1000000) (H:AH):bE Tryz.prog 52 [.aB (l.map aI) .unk] H fun v H'=> ∃c',v= .aB (l.map aI) c'/\bA H' c'/\HF [] H H'/\ ∀c3,bA H c3->bA H' c3/\kQ c' c3:=by
  refine aG Tk (by simp) (aD ?_);unfold Tj;simp -implicitDefEqProofs only [go_sem];refine gF (f:=aI) jw [] l .exact .unk aR aR trivial (by simp;omega) (fun c' H' g1 g2 g3 g4=> ?_);simp -implicitDefEqProofs only [go_sem];exact⟨c',rfl,g1,⟨g2,fun a _ _=>g3 a⟩,fun c3 h=>g4 c3 h (fun t e=>by cases e)⟩
abbrev aeQ:=List Nd->Int->List Str->List Str->Option (List Nd×Int)
def FR (rec:aeQ) (F:Nat) (e:List Nd) (old:Nd) (nn bOo cA:List Str):Nat->Nat->Int->Option (List (List Nd)×Int)
  |0,_,c=>some ([],c)
  |m+1,i,c=>Option.bind (uH old (i:Int)) fun bs=>Option.bind (Mr F old.names nn bs) fun ms=>Option.bind (zh F e (i:Int)) fun sub=>
      if bs.length<=1000000/\ms.length=bs.length then Option.bind (rec sub c (bOo++bs) (cA++ms)) fun p=>Option.bind (FR rec F e old nn bOo cA m (i+1) p.2) fun q=>some (p.1::q.1,q.2)else none
def arN (o:Nat) (taken:List Str) (cl:Ck) (rec:aeQ):Prop:=
  ∀(e:List Nd) (c:Int) (bOo cA:List Str) (r:List Nd) (c':Int),rec e c bOo cA=some (r,c')-> ∀H:AH,H.obj o=some [.aB (taken.map aI) cl,.int .i64 c]->o<H.next->
    bE Tryz.prog 87 [.ref o 0,dW e,.aB (bOo.map aI) .unk,.aB (cA.map aI) .unk] H fun v H'=>v=dW r/\H'.obj o=some [.aB (taken.map aI) cl,.int .i64 c']/\HF [o] H H'/\ ∀c3,bA H c3->bA H' c3
section
variable {taken:List Str} {F o p b:Nat} {cl RQ:Ck} {rec:aeQ} {e:List Nd} {old:Nd} {nn bOo cA:List Str} {Q:Post} {c':Int}
theorem amM (hrec:arN o taken cl rec) (hop:o≠p) (Ae:o≠b) (ha:old.args.length<=1000000) (hb1:bOo.length<=1000000) (hb2:cA.length<=1000000):
    ∀(m i:Nat) (parts ps:List (List Nd)) (ck:Ck) (c:Int) (σ:Nat->PV) (H:AH),i+m=old.args.length->FR rec F e old nn bOo cA m i c=some (ps,c')->
    H.obj o=some [.aB (taken.map aI) cl,.int .i64 c]->H.obj p=some (jI old (.aB (nn.map aI) RQ))->H.obj b=some (jI old (.aB (old.names.map aI) .unk))->o<H.next->p<H.next->b<H.next->bA H ck->parts.length+m<=100000000->
    σ 0= .ref o 0->σ 1=dW e->σ 2= .aB (bOo.map aI) .unk->σ 3= .aB (cA.map aI) .unk->σ 9= .ref p 0->σ 10= .ref b 0->σ 13= .aB (parts.map (Du Nd.cells)) ck->σ 14= .int .i64 i->
    (∀σ' H' Bl,σ' 9= .ref p 0->σ' 13= .aB ((parts++ps).map (Du Nd.cells)) Bl->H'.obj o=some [.aB (taken.map aI) cl,.int .i64 c']->HF [o] H H'->(∀c3,bA H c3->kQ ck c3->bA H' c3)->Q (.exit 2) σ' H')->W Tryz.prog (.loop Ii) Q σ H:=by
  intro m
  induction m with
  |zero=>
    intro i parts ps ck c σ H hi h ho hp hb lo lp lb hok hpl s0 s1 s2 s3 s9 s10 s13 NP q0;cases h;have hge:decide ((i:Int)<(old.args.length:Int))=false:=decide_eq_false (by omega);refine aU (fun K hK=>aD ?_);unfold Ii;have hb':=hb;unfold jI at hb';simp -implicitDefEqProofs only [go_sem,s10,NP,hb',hge];exact q0 _ H ck aR (by rw [List.append_nil];simp -implicitDefEqProofs only [go_sem,s13]) ho (HF.refl _ _) (fun c3 h _=>h)
  |succ m ih=>
    intro i parts ps ck c σ H hi h ho hp hb lo lp lb hok hpl s0 s1 s2 s3 s9 s10 s13 NP q0;rw [FR]at h;obtain⟨bs,hbs,h1⟩:=aj h;obtain⟨ms,hms,h2⟩:=aj h1;obtain⟨sub,hsub,h3⟩:=aj h2;obtain⟨⟨hbl,hml⟩,h4⟩:=aQ h3;obtain⟨⟨r1,c1⟩,hr,h5⟩:=aj h4;obtain⟨⟨qs,c2⟩,hq,h6⟩:=aj h5;cases h6;clear h h1 h2 h3 h4 h5;have hlt:decide ((i:Int)<(old.args.length:Int))=true:=decide_eq_true (by omega);have hw:IntKind.wrap .i64 ((i:Int)+1)=((i+1:Nat):Int):=by rw [IntKind.wrap_i64];omega
    refine aU (fun K hK=>aD ?_);unfold Ii;have hb':=hb;unfold jI at hb';simp -implicitDefEqProofs only [go_sem,s10,NP,hb',hlt,Nat.zero_add,Nat.le_refl,List.take,List.drop];refine aA (Wn hbs) ?_;simp -implicitDefEqProofs only [go_sem,s2];refine bE.mono (ac7 bOo hb1 H) ?_;rintro _ H1 ⟨c16,rfl,k16,hf1,kk1⟩;simp -implicitDefEqProofs only [go_sem,s3];refine bE.mono (ac7 cA hb2 H1) ?_;rintro _ H2 ⟨c17,rfl,k17,hf2,kk2⟩;simp -implicitDefEqProofs only [go_sem];have qd:=hf1.tr hf2;obtain⟨ajc,d1⟩:=kk2 c16 k16;have hp2:=(qd.2 p lp List.not_mem_nil).trans hp;have hb2':=(qd.2 b lb List.not_mem_nil).trans hb;have ho2:=(qd.2 o lo List.not_mem_nil).trans ho;refine amL (n:=old) (p:=p) (b:=b) (bs:=bs) (nn:=nn) (RQ:=RQ) (F:=F) hbl bs.length 0 bOo cA c16 c17 ms _ H2 (Nat.zero_add _) (by rw [List.drop_zero];exact hms) hp2 hb2' ajc k17 d1.symm (by omega) (by omega) aR aR aR aR aR aR fun σ' H3 u16 u17 fr e16 e17 hf3 kk3=> ?_;rw [List.drop_zero]at e16;have t0:σ' 0= .ref o 0:=(fr 0 (by decide) (by decide)).trans aR;have t1:σ' 1=dW e:=(fr 1 (by decide) (by decide)).trans aR;have t2:σ' 2= .aB (bOo.map aI) .unk:=(fr 2 (by decide) (by decide)).trans aR;have t3:σ' 3= .aB (cA.map aI) .unk:=(fr 3 (by decide) (by decide)).trans aR;have t9:σ' 9= .ref p 0:=(fr 9 (by decide) (by decide)).trans aR;have t10:σ' 10= .ref b 0:=(fr 10 (by decide) (by decide)).trans aR;have t13:σ' 13= .aB (parts.map (Du Nd.cells)) ck:=(fr 13 (by decide) (by decide)).trans aR;have t14:σ' 14= .int .i64 i:=(fr 14 (by decide) (by decide)).trans aR;have ajd:=qd.tr hf3;have lo3:o<H3.next:=Nat.lt_of_lt_of_le lo ajd.1;have ho3:=(ajd.2 o lo List.not_mem_nil).trans ho;have arO: ∀c3,bA H c3->bA H3 c3:=fun c3 h=>by
      obtain⟨x1,x2⟩:=kk1 c3 h;obtain⟨y1,y2⟩:=kk2 c3 x1;exact kk3 c3 y1 x2 y2
    simp -implicitDefEqProofs only [go_sem,t0,t1,t13,t14];refine aA (ab4 hsub) ?_;simp -implicitDefEqProofs only [go_sem,e16,e17];refine bE.mono (bE.wk (hrec _ _ _ _ _ _ hr H3 ho3 lo3) (.same (.same (.aB (.aB .nil))))) ?_;rintro _ H4 ⟨rfl,ho4,hf4,kk4⟩;simp -implicitDefEqProofs only [go_sem];refine gF (f:=Du Nd.cells) anQ parts [r1] ck .exact aR aR (kk4 _ (arO _ hok)) (by simp;omega) (fun ck5 H5 g1 g2 g3 g4=> ?_);simp -implicitDefEqProofs only [go_sem,t14,hw];have Oe:HF [] H4 H5:=⟨g2,fun a _ _=>g3 a⟩;have ahZ:HF [o] H H4:=(ajd.up fun a ha=>by cases ha).tr hf4;have Lg:HF [o] H H5:=ahZ.tr (Oe.up fun a ha=>by cases ha);have arQ: ∀c3,bA H c3->kQ ck c3->bA H5 c3/\kQ ck5 c3:=fun c3 w1 w2=>g4 c3 (kk4 _ (arO _ w1)) w2;have op5:H5.obj p=some (jI old (.aB (nn.map aI) RQ)):=(Lg.2 p lp (fun hm=>hop (List.mem_singleton.1 hm).symm)).trans hp;have ob5:H5.obj b=some (jI old (.aB (old.names.map aI) .unk)):=(Lg.2 b lb (fun hm=>Ae (List.mem_singleton.1 hm).symm)).trans hb;refine hK _ _ (ih (i+1) (parts++[r1]) qs ck5 c1 _ H5 (by omega) hq ((g3 o).trans ho4) op5 ob5 (Nat.lt_of_lt_of_le lo Lg.1) (Nat.lt_of_lt_of_le lp Lg.1) (Nat.lt_of_lt_of_le lb Lg.1) g1 (by simp;omega) aR aR aR aR aR aR aR aR fun σ6 H6 ck6 w1 w2 w3 w4 w5=> ?_);rw [List.append_assoc]at w2;exact q0 σ6 H6 ck6 w1 w2 w3 (Lg.tr w4) (fun c3 x1 x2=>w5 c3 (arQ c3 x1 x2).1 (arQ c3 x1 x2).2)
end
def HV (taken:List Str) (F:Nat):Nat->aeQ
  |0=>fun _ _ _ _=>none
  |k+1=>fun e c bOo cA=>Option.bind (ET e) fun root=>Option.bind (y7 F root) fun nm=>Option.bind (cond nm (wJ F bOo cA root.text) (some root.text)) fun t=>
      Option.bind (yw taken F (root.kind==16||root.kind==17) root.names c) fun p=>
        if root.names.length<=1000000/\root.args.length<=1000000/\bOo.length<=1000000/\cA.length<=1000000 then
          Option.bind (FR (HV taken F k) F e {root with text:=t} p.1 bOo cA root.args.length 0 p.2) fun q=>
            Option.bind (Fy F {root with text:=t,names:=p.1} q.1) fun r=>some (r,q.2)else none
theorem amN {F:Nat} {root:Nd} {nm:Bool} {t:Str} {bOo cA:List Str} {p:Nat} {σ:Nat->PV} {H:AH} {Q:Post} (hnm:y7 F root=some nm) (ht:(cond nm (wJ F bOo cA root.text) (some root.text))=some t)
    (s2:σ 2= .aB (bOo.map aI) .unk) (s3:σ 3= .aB (cA.map aI) .unk) (s9:σ 9= .ref p 0) (hp:H.obj p=some (jI root (.aB (root.names.map aI) .unk)))
    (q0: ∀σ' H',(∀j,j<21->σ' j=σ j)->H'.obj p=some (jI {root with text:=t} (.aB (root.names.map aI) .unk))->HF [p] H H'->H'.next=H.next->(∀c3,bA H c3->bA H' c3)->Q .normal σ' H'):W Tryz.prog Ub Q σ H:=by
  refine aD ?_;unfold Ub;have hp':=hp;unfold jI at hp';simp -implicitDefEqProofs only [go_sem,s9,hp',Nat.zero_add,Nat.le_refl,List.take,List.drop];refine aA (Wm hnm) ?_;cases nm with
  |false=>
    cases ht;simp -implicitDefEqProofs only [go_sem];refine q0 _ H (fun j hj=> ?_) hp (HF.refl _ _) rfl (fun _ h=>h);have:j≠21/\j≠22:=by omega
    simp only [upd,this,↓reduceIte]
  |true=>
    simp -implicitDefEqProofs only [go_sem,s2,s3,s9,hp'];refine aA (aeM ht) ?_;simp -implicitDefEqProofs only [go_sem,s9];refine RP (id:=p) (o:=2) (vs:=[.str t]) (cs:=jI root (.aB (root.names.map aI) .unk)) aR aR hp rfl (by show 3<=5;decide) rfl ?_;have hput:putCells (jI root (.aB (root.names.map aI) .unk)) 2 [.str t]=jI {root with text:=t} (.aB (root.names.map aI) .unk):=rfl;rw [hput];simp -implicitDefEqProofs only [go_sem];refine q0 _ _ (fun j hj=> ?_) (by show(if p=p then _ else _)=_;rw [if_pos rfl]) ⟨Nat.le_refl _,fun a ha hm=> ?_⟩ rfl (fun c3 h=>h.put)
    · have:j≠21/\j≠22/\j≠23/\j≠24/\j≠25/\j≠26/\j≠27/\j≠28:=by omega
      simp only [upd,this,↓reduceIte]
    · show(if a=p then _ else _)=_
      rw [if_neg (fun e=>hm (List.mem_singleton.2 e))]
theorem arR {o:Nat} {taken:List Str} {cl:Ck} {F:Nat}: ∀k,arN o taken cl (HV taken F k):=by
  intro k
  induction k with
  |zero=>intro e c bOo cA r c' h;cases h
  |succ k ih=>
    intro e c bOo cA r c' h H ho lo;rw [HV]at h;obtain⟨root,hroot,h1⟩:=aj h;obtain⟨nm,hnm,h2⟩:=aj h1;obtain⟨t,ht,h3⟩:=aj h2;obtain⟨⟨nn,c1⟩,hnn,h4⟩:=aj h3;obtain⟨⟨hb1,hb2,hb3,hb4⟩,h5⟩:=aQ h4;obtain⟨⟨ps,c2⟩,hps,h6⟩:=aj h5;obtain⟨r',ale,h7⟩:=aj h6;cases h7;clear h h1 h2 h3 h4 h5 h6;refine aG av7 (by simp) (aD ?_);unfold ao1;simp -implicitDefEqProofs only [go_sem];refine aA (ZF hroot) ?_;simp -implicitDefEqProofs only [go_sem,dM,Nat.le_refl];obtain⟨H1,hH1⟩: ∃H1,H1=(H.new [.int .i64 0,.int .i64 0,.str [],.aB [] .nil,.aB [] .nil]).put H.next (jI root (.aB (root.names.map aI) .unk)):=⟨_,rfl⟩;have e1:(H.new [.int .i64 0,.int .i64 0,.str [],.aB [] .nil,.aB [] .nil]).put H.next [.int .i64 root.kind,.int .i64 root.n,.str root.text,.aB (root.names.map aI) .unk,.aB (root.args.map aY) .unk]=H1:=hH1.symm;have hf1:HF [] H H1:=by rw [hH1];exact HF.put (.inr (Nat.le_refl _)) (HF.new (HF.refl _ _))
    have op1:H1.obj H.next=some (jI root (.aB (root.names.map aI) .unk)):=by rw [hH1];show(if H.next=H.next then _ else _)=_;rw [if_pos rfl]
    have nx1:H1.next=H.next+1:=by rw [hH1];rfl
    have ok1: ∀c3,bA H c3->bA H1 c3:=fun c3 h=>by rw [hH1];exact h.new.put
    simp only [e1];clear hH1 e1;refine amN (p:=H.next) hnm ht aR aR aR op1 fun σ2 H2 RS op2 hf2 nx2 ok2=> ?_;have t0:σ2 0= .ref o 0:=(RS 0 (by decide)).trans aR;have t1:σ2 1=dW e:=(RS 1 (by decide)).trans aR;have t2:σ2 2= .aB (bOo.map aI) .unk:=(RS 2 (by decide)).trans aR;have t3:σ2 3= .aB (cA.map aI) .unk:=(RS 3 (by decide)).trans aR;have t9:σ2 9= .ref H.next 0:=(RS 9 (by decide)).trans aR;obtain⟨old,hold⟩: ∃old:Nd,old={root with text:=t}:=⟨_,rfl⟩;have k1:old.kind=root.kind:=by rw [hold]
    have g1:old.args=root.args:=by rw [hold]
    have m1:old.names=root.names:=by rw [hold]
    have hj2:({root with text:=t,names:=nn}:Nd)={old with names:=nn}:=by rw [hold]
    rw [hj2]at ale;rw [<-hold]at op2 hps;rw [<-m1]at op2 hnn;rw [<-k1]at hnn;clear hold hj2;have hop2:o≠H.next:=by omega
    have ho2:H2.obj o=some [.aB (taken.map aI) cl,.int .i64 c]:=(hf2.2 o (Nat.lt_of_lt_of_le lo hf1.1) (fun hm=>hop2 (List.mem_singleton.1 hm))).trans ((hf1.2 o lo List.not_mem_nil).trans ho);have arS:=op2;unfold jI at arS;have hne: ¬(H.next=H2.next):=by omega
    have hne': ¬(H2.next=H.next):=by omega
    simp -implicitDefEqProofs only [go_sem,dM,t9,arS,hne,hne',Nat.zero_add,Nat.le_refl,List.take,List.drop];obtain⟨H4,hH4⟩: ∃H4,H4=((H2.new [.int .i64 0,.int .i64 0,.str [],.aB [] .nil,.aB [] .nil]).put H2.next (jI old (.aB (old.names.map aI) .unk))).put H.next (jI old (.aB [] .nil)):=⟨_,rfl⟩;have e4:((H2.new [.int .i64 0,.int .i64 0,.str [],.aB [] .nil,.aB [] .nil]).put H2.next [.int .i64 old.kind,.int .i64 old.n,.str old.text,.aB (old.names.map aI) .unk,.aB (old.args.map aY) .unk]).put H.next [.int .i64 old.kind,.int .i64 old.n,.str old.text,.aB [] .nil,.aB (old.args.map aY) .unk]=H4:=hH4.symm;have op4:H4.obj H.next=some (jI old (.aB [] .nil)):=by rw [hH4];show(if H.next=H.next then _ else _)=_;rw [if_pos rfl]
    have ob4:H4.obj H2.next=some (jI old (.aB (old.names.map aI) .unk)):=by
      rw [hH4];show(if H2.next=H.next then _ else if H2.next=H2.next then _ else _)=_;rw [if_neg (fun e=>hne e.symm),if_pos rfl]
    have ot4: ∀j,j<H2.next->j≠H.next->H4.obj j=H2.obj j:=fun j h1 h2=>by
      rw [hH4];show(if j=H.next then _ else if j=H2.next then _ else if j=H2.next then _ else _)=_;rw [if_neg h2,if_neg (by omega),if_neg (by omega)]
    have nx4:H4.next=H2.next+1:=by rw [hH4];rfl
    have ok4: ∀c3,bA H2 c3->bA H4 c3:=fun c3 h=>by rw [hH4];exact h.new.put.put
    simp only [e4];clear hH4 e4;have ho4:H4.obj o=some [.aB (taken.map aI) cl,.int .i64 c]:=(ot4 o (by omega) hop2).trans ho2;have arU:=ob4;unfold jI at arU;obtain⟨fx,hfx⟩: ∃fx,fx=(old.kind==16||old.kind==17):=⟨_,rfl⟩;rw [<-hfx]at hnn
    have key: ∀σ3,(∀j,j<31->j≠11->j≠12->σ3 j=upd (upd (upd σ2 (some 29) (PV.agg (jI old (.aB (old.names.map aI) .unk)))) (some 10) (PV.ref H2.next 0)) (some 30) (PV.ref H.next 3) j)->σ3 11= .bool fx->σ3 12= .int .i64 0->
        WS Tryz.prog Ih.loop [Fm.block 0,Fm.seq ((AC.ops [oR 13 (RK.aT (AE.c (PV.aB [] Ck.nil)))]).seq (((AC.ops [oI 14 0]).seq (AC.block 2 Ii.loop)).seq ((AC.ops [oA 115 5 9,oM 116 13,oC 117 84 [AE.t 115,AE.t 116],oM 8 117]).seq AC.ret)))]
          (Sk [RV.tmp 8] fun v H'=>v=dW r/\H'.obj o=some [PV.aB (List.map aI taken) cl,PV.int IntKind.i64 c2]/\HF [o] H H'/\ ∀(c3:Ck),bA H c3->bA H' c3) σ3 H4:=by
      intro σ3 fr3 s11 s12;have u0:σ3 0= .ref o 0:=(fr3 0 (by decide) (by decide) (by decide)).trans aR;have u1:σ3 1=dW e:=(fr3 1 (by decide) (by decide) (by decide)).trans aR;have u2:σ3 2= .aB (bOo.map aI) .unk:=(fr3 2 (by decide) (by decide) (by decide)).trans aR;have u3:σ3 3= .aB (cA.map aI) .unk:=(fr3 3 (by decide) (by decide) (by decide)).trans aR;have u9:σ3 9= .ref H.next 0:=(fr3 9 (by decide) (by decide) (by decide)).trans aR;have u10:σ3 10= .ref H2.next 0:=(fr3 10 (by decide) (by decide) (by decide)).trans aR;have hnl:old.names.length<=1000000:=by rw [m1];exact hb1
      refine amK (n:=old) (o:=o) (p:=H.next) (b:=H2.next) (taken:=taken) (F:=F) (fx:=fx) (cl:=cl) (c':=c1) hnl hop2 (by omega) hne old.names.length 0 [] .nil c nn σ3 H4 (Nat.zero_add _) rfl (by rw [List.drop_zero];exact hnn) ho4 op4 ob4 (by omega) (by omega) (by omega) trivial u0 u9 u10 s11 s12 fun σ5 H5 ck5 Iq o5 p5 Oe kk5=> ?_;have b5:=(Oe.2 H2.next (by omega) (fun hm=>by
        rcases List.mem_cons.1 hm with q|q
        · omega
        · have:=List.mem_singleton.1 q;omega)).trans ob4
      have w0:σ5 0= .ref o 0:=(Iq 0 (by decide) (by decide)).trans u0;have w1:σ5 1=dW e:=(Iq 1 (by decide) (by decide)).trans u1;have w2:σ5 2= .aB (bOo.map aI) .unk:=(Iq 2 (by decide) (by decide)).trans u2;have w3:σ5 3= .aB (cA.map aI) .unk:=(Iq 3 (by decide) (by decide)).trans u3;have w9:σ5 9= .ref H.next 0:=(Iq 9 (by decide) (by decide)).trans u9;have w10:σ5 10= .ref H2.next 0:=(Iq 10 (by decide) (by decide)).trans u10;rw [List.nil_append]at p5;simp -implicitDefEqProofs only [go_sem];have hal:old.args.length=root.args.length:=by rw [g1]
      refine amM (o:=o) (p:=H.next) (b:=H2.next) (taken:=taken) (F:=F) (cl:=cl) (RQ:=ck5) (rec:=HV taken F k) (e:=e) (old:=old) (nn:=nn) (bOo:=bOo) (cA:=cA) (c':=c2) ih hop2 (by omega) (by rw [hal];exact hb2) hb3 hb4 old.args.length 0 [] ps .nil c1 _ H5 (Nat.zero_add _) (by rw [hal];exact hps) o5 p5 b5 (by have:=Oe.1;omega) (by have:=Oe.1;omega) (by have:=Oe.1;omega) trivial (by rw [List.length_nil,hal];omega) aR aR aR aR aR aR aR aR fun σ6 H6 ck6 v9 v13 o6 hf6 kk6=> ?_;have p6:=(hf6.2 H.next (by have:=Oe.1;omega) (fun hm=>hop2 (List.mem_singleton.1 hm).symm)).trans p5;have p6':=p6;unfold jI at p6';rw [List.nil_append]at v13;simp -implicitDefEqProofs only [go_sem,v9,v13,p6',Nat.zero_add,Nat.le_refl,List.take,List.drop];refine aA (aF.wx (aap ale) (.agg (.same (.same (.same (.aB (.same .nil))))) (.same .nil))) ?_;simp -implicitDefEqProofs only [go_sem];refine⟨o6,?_,fun c3 h=>kk6 c3 (kk5 c3 (ok4 c3 (ok2 c3 (ok1 c3 h))) (fun t e=>by cases e)) (fun t e=>by cases e)⟩;refine⟨by have:=Oe.1;have:=hf6.1;omega,fun a ha hm=> ?_⟩;have hap:a≠H.next:=by omega
      have hao:a≠o:=fun e=>hm (List.mem_singleton.2 e);rw [hf6.2 a (by have:=Oe.1;omega) hm,Oe.2 a (by omega) (fun h=>by
        rcases List.mem_cons.1 h with q|q
        · exact hao q
        · exact hap (List.mem_singleton.1 q)),ot4 a (by omega) hap,hf2.2 a (by omega) (fun h=>hap (List.mem_singleton.1 h)),hf1.2 a ha List.not_mem_nil]
    cases h16:(old.kind==16)with
    |true=>
      rw [h16]at hfx;simp -implicitDefEqProofs only [go_sem,Uc,h16];refine key _ (fun j hj h1 h2=> ?_) (by rw [hfx];simp -implicitDefEqProofs only [go_sem];try rfl) aR;have:j≠31/\j≠32/\j≠33/\j≠34/\j≠35/\j≠36/\j≠37/\j≠38:=by omega
      simp only [upd,jI,h1,h2,this,↓reduceIte]
    |false=>
      rw [h16]at hfx;simp -implicitDefEqProofs only [go_sem,Uc,h16,arU];refine key _ (fun j hj h1 h2=> ?_) (by rw [hfx];simp -implicitDefEqProofs only [go_sem];try rfl) aR;have:j≠31/\j≠32/\j≠33/\j≠34/\j≠35/\j≠36/\j≠37/\j≠38:=by omega
      simp only [upd,jI,h1,h2,this,↓reduceIte]
end Go.VL
end
section
namespace Go.VL
theorem Ms {α β:Type} (f:Nat->α->Option β) (g:α->β): ∀l:List α,(∀x∈l,Ev (fun k=>f k x) (g x))-> ∃K,∀k,K<=k-> ∀x∈l,f k x=some (g x)
  |[],_=>⟨0,fun k _ x hx=>by cases hx⟩
  |a::l,h=>by
    obtain⟨K,hK⟩:=h a List.mem_cons_self;obtain⟨L,hL⟩:=Ms f g l fun x hx=>h x (List.mem_cons_of_mem _ hx);refine⟨max K L,fun k hk x hx=> ?_⟩;rcases List.mem_cons.1 hx with rfl|hx
    · exact hK k (by omega)
    · exact hL k (by omega) x hx
theorem WW (c:Nat):Li ((c:Int)+1)=bN (c+1):=rfl
section
variable {lF:List Str}
theorem agQ {K:Nat} (hK: ∀k,K<=k-> ∀x∈List.range 9002,cB k lF (bN x)=some (decide (bN x∈lF))):
    ∀(f c F:Nat),lF.length<=f+cnt lF c->c+f<=9000->K+f+1<=F->Ad lF F (c:Int)=some (bN (CY lF f c),((CY lF f c:Nat):Int)):=by
  intro f
  induction f with
  |zero=>
    intro c F h1 h2 h3;obtain⟨F,rfl⟩: ∃j,F=j+1:=⟨F -1,by omega⟩;have hn:bN (c+1)∉lF:=fun hm=>by
      have h4:=BQ lF c;have h5:=RL lF (c+1);rw [if_pos hm]at h4;omega
    rw [Ad,if_pos (by omega),WW,hK F (by omega) (c+1) (List.mem_range.2 (by omega)),Option.bind_some,decide_eq_false hn,cond_false];rfl
  |succ f ih=>
    intro c F h1 h2 h3;obtain⟨F,rfl⟩: ∃j,F=j+1:=⟨F -1,by omega⟩;rw [Ad,if_pos (by omega),WW,hK F (by omega) (c+1) (List.mem_range.2 (by omega)),Option.bind_some];by_cases hm:bN (c+1)∈lF
    · have h4:=BQ lF c;rw [if_pos hm]at h4;rw [decide_eq_true hm,cond_true,CY,if_pos hm];exact ih (c+1) F (by omega) (by omega) (by omega)
    · rw [decide_eq_false hm,cond_false,CY,if_neg hm];rfl
theorem agR {K:Nat} (hK: ∀k,K<=k-> ∀x∈List.range 9002,mI k lF (bN x)=some (decide (bN x∈lF))) (hT: ∀k,K<=k-> ∀x∈List.range 9002,ER k ((x:Nat):Int)=some (Lib.decDigits x)):
    ∀(f c F:Nat),lF.length<=f+cnt lF c->c+f<=9000->K+f+1<=F->Bh lF F (c:Int)=some (bN (CY lF f c),((CY lF f c:Nat):Int)):=by
  intro f
  induction f with
  |zero=>
    intro c F h1 h2 h3;obtain⟨F,rfl⟩: ∃j,F=j+1:=⟨F -1,by omega⟩;have hn:bN (c+1)∉lF:=fun hm=>by
      have h4:=BQ lF c;have h5:=RL lF (c+1);rw [if_pos hm]at h4;omega
    have ht:=hT F (by omega) (c+1) (List.mem_range.2 (by omega));have hl:=GH 3 (c+1) (by omega);rw [Bh,if_pos (by omega),show((c:Int)+1)=((c+1:Nat):Int)from rfl,ht,Option.bind_some,if_pos (by omega),show [98,95]++Lib.decDigits (c+1)=bN (c+1)from(Bd _).symm,hK F (by omega) (c+1) (List.mem_range.2 (by omega)),Option.bind_some,decide_eq_false hn,cond_false];rfl
  |succ f ih=>
    intro c F h1 h2 h3;obtain⟨F,rfl⟩: ∃j,F=j+1:=⟨F -1,by omega⟩;have ht:=hT F (by omega) (c+1) (List.mem_range.2 (by omega));have hl:=GH 3 (c+1) (by omega);rw [Bh,if_pos (by omega),show((c:Int)+1)=((c+1:Nat):Int)from rfl,ht,Option.bind_some,if_pos (by omega),show [98,95]++Lib.decDigits (c+1)=bN (c+1)from(Bd _).symm,hK F (by omega) (c+1) (List.mem_range.2 (by omega)),Option.bind_some];by_cases hm:bN (c+1)∈lF
    · have h4:=BQ lF c;rw [if_pos hm]at h4;rw [decide_eq_true hm,cond_true,CY,if_pos hm];exact ih (c+1) F (by omega) (by omega) (by omega)
    · rw [decide_eq_false hm,cond_false,CY,if_neg hm]
end
structure RU (lF:List Str) (F:Nat):Prop where
  p: ∀c:Nat,c+lF.length<=9000->Ad lF F (c:Int)=some (bN (tZ lF c),((tZ lF c:Nat):Int))
  r: ∀c:Nat,c+lF.length<=9000->Bh lF F (c:Int)=some (bN (tZ lF c),((tZ lF c:Nat):Int))
theorem aaR (lF:List Str) (hl:lF.length<=9000): ∃K,∀F,K<=F->RU lF F:=by
  obtain⟨K1,h1⟩:=Ms (fun k x=>cB k lF (bN x)) (fun x=>decide (bN x∈lF)) (List.range 9002) (fun x _=>yB lF (bN x) (by omega));obtain⟨K2,h2⟩:=Ms (fun k x=>mI k lF (bN x)) (fun x=>decide (bN x∈lF)) (List.range 9002) (fun x _=>qm lF (bN x) (by omega));obtain⟨K3,h3⟩:=Ms (fun k (x:Nat)=>ER k (x:Int)) (fun x=>Lib.decDigits x) (List.range 9002) (fun x hx=>by
    have:=List.mem_range.1 hx;have h:=agF (n:=(x:Int)) ⟨by omega,by omega⟩;rw [aaB]at h;exact h)
  refine⟨K1+K2+K3+lF.length+1,fun F hF=>⟨fun c hc=> ?_,fun c hc=> ?_⟩⟩
  · exact agQ (K:=K1) (fun k hk x hx=>h1 k hk x hx) lF.length c F (by omega) hc (by omega)
  · exact agR (K:=K2+K3) (fun k hk x hx=>h2 k (by omega) x hx) (fun k hk x hx=>h3 k (by omega) x hx) lF.length c F (by omega) hc (by omega)
theorem WX {lF:List Str} {F:Nat} (h:RU lF F): ∀(m c:Nat),(lu lF m c).2+lF.length<=9000->FQ lF F m (c:Int)=some ((lu lF m c).1,((lu lF m c).2:Int))
  |0,c,hc=>rfl
  |m+1,c,hc=>by
    have h1:=(CZ lF c).2.1;have h2:=FN lF m (tZ lF c);simp only [lu]at hc;rw [FQ,h.p c (by omega),Option.bind_some,WX h m (tZ lF c) hc];rfl
theorem WY {lF:List Str} {F:Nat} (h:RU lF F): ∀(l:List Str) (c:Nat),(lu lF l.length c).2+lF.length<=9000->yw lF F false l (c:Int)=some ((lu lF l.length c).1,((lu lF l.length c).2:Int))
  |[],c,hc=>rfl
  |s::l,c,hc=>by
    have h1:=(CZ lF c).2.1;have h2:=FN lF l.length (tZ lF c);simp only [List.length_cons,lu]at hc;rw [yw,cond_false,h.r c (by omega),Option.bind_some,WY h l (tZ lF c) hc];rfl
theorem WZ {lF:List Str} {F:Nat}: ∀(l:List Str) (c:Int),yw lF F true l c=some (l,c)
  |[],c=>rfl
  |s::l,c=>by rw [yw,cond_true,Option.bind_some,WZ l c];rfl
end Go.VL
end
section
namespace Go.VL
open Tm
def gU (k m:Int) (a p:Nat):Nat:=
  if(jv k).getD false=true then(if((p:Int)==IntKind.wrap .i64 ((a:Int) -1))=true then 1 else 0)
  else if k=23 then(if((p:Int)==IntKind.wrap .i64 ((a:Int) -1))=true then 2 else if m=1 then 1 else 3)else 0
def dS:Nat->List Str->List Str
  |1,l=>l
  |2,l=>l.take 1
  |3,l=>l.drop 1
  |_,_=>[]
theorem HY {n:Nd} (h:n.kind=23->1<=n.names.length) (p:Nat):fZ n (p:Int)=some (dS (gU n.kind n.n n.args.length p) n.names):=by
  have hj: ∃b,jv n.kind=some b:=by
    unfold jv
    repeat' first
      |exact⟨_,rfl⟩
      |(generalize(n.kind==_)=b;cases b<;>simp only [cond_true,cond_false])
  obtain⟨b,hb⟩:=hj;unfold fZ gU;rw [hb,Option.bind_some,Option.getD_some];cases b with
  |true=>
    rw [cond_true,if_pos rfl];cases((p:Int)==IntKind.wrap .i64 ((n.args.length:Int) -1))<;>rfl
  |false=>
    rw [cond_false,if_neg (show ¬(false=true) by simp)];by_cases hk:n.kind=23
    · have h2:=h hk;rw [vG (by rw [hk];rfl),if_pos hk,if_pos h2,if_pos h2];cases((p:Int)==IntKind.wrap .i64 ((n.args.length:Int) -1))with
      |true=>rfl
      |false=>
        by_cases hm:n.n=1
        · rw [hm];rfl
        · have:(n.n==1)=false:=beq_eq_false_iff_ne.2 hm;rw [this,if_neg (show ¬(false=true) by simp),if_neg hm];rfl
    · rw [nR (by rw [beq_eq_false_iff_ne];exact hk),if_neg hk];rfl
theorem W9 {n:Nd} (h:n.kind=23->1<=n.names.length) (p:Nat):rF n p=dS (gU n.kind n.n n.args.length p) n.names:=by
  unfold rF;rw [HY h];rfl
theorem C8 (s:Nat) {l m:List Str} (h:l.length=m.length):(dS s l).length=(dS s m).length:=by
  unfold dS;split<;>simp [h]
theorem aaS (s:Nat) (l:List Str):(dS s l).length<=l.length:=by
  unfold dS;split<;>simp<;>omega
theorem Xa {s:Nat} {l:List Str} {x:Str} (h:x∈dS s l):x∈l:=by
  unfold dS at h;split at h
  · exact h
  · exact List.mem_of_mem_take h
  · exact List.mem_of_mem_drop h
  · cases h
theorem amO {k m:Int} (h:k=16\/k=17) (a p:Nat):gU k m a p=0:=by
  unfold gU;rcases h with rfl|rfl
  · rw [if_neg (by decide),if_neg (by decide)]
  · rw [if_neg (by decide),if_neg (by decide)]
def dQ (lF:List Str) (x:Nd) (c:Nat):List Str×Nat:=if x.kind=16\/x.kind=17 then(x.names,c)else lu lF x.names.length c
def qO (bd:List Scope) (x:Nd):Str:=if fB x=true then iY bd x.text else x.text
def dO (lF:List Str) (bd:List Scope) (c:Nat) (x:Nd):Nd:={x with text:=qO bd x,names:=(dQ lF x c).1}
def l9 (x y:Nd) (a j:Nat):List Scope:=List.zipWith Scope.mk (dS (gU x.kind x.n a j) x.names) (dS (gU x.kind x.n a j) y.names)
mutual
def can (lF:List Str) (bd:List Scope) (c:Nat):Tm->Tm×Nat
  | .mk x cs=>(.mk (dO lF bd c x) (eH lF bd x (dO lF bd c x) cs.length 0 (dQ lF x c).2 cs).1,(eH lF bd x (dO lF bd c x) cs.length 0 (dQ lF x c).2 cs).2)
def eH (lF:List Str) (bd:List Scope) (x y:Nd) (a j c:Nat):List Tm->List Tm×Nat
  |[]=>([],c)
  |t::ts=>((can lF (bd++l9 x y a j) c t).1::(eH lF bd x y a (j+1) (can lF (bd++l9 x y a j) c t).2 ts).1,(eH lF bd x y a (j+1) (can lF (bd++l9 x y a j) c t).2 ts).2)
end
theorem yx {lF:List Str} {bd:List Scope} {c:Nat} {x:Nd} {cs:List Tm}:can lF bd c (.mk x cs)=(.mk (dO lF bd c x) (eH lF bd x (dO lF bd c x) cs.length 0 (dQ lF x c).2 cs).1,(eH lF bd x (dO lF bd c x) cs.length 0 (dQ lF x c).2 cs).2):=by rw [can]
theorem jG {lF:List Str} {bd:List Scope} {x y:Nd} {a j c:Nat} {t:Tm} {ts:List Tm}:eH lF bd x y a j c (t::ts)=((can lF (bd++l9 x y a j) c t).1::(eH lF bd x y a (j+1) (can lF (bd++l9 x y a j) c t).2 ts).1,(eH lF bd x y a (j+1) (can lF (bd++l9 x y a j) c t).2 ts).2):=by rw [eH]
mutual
theorem rA (lF:List Str): ∀(t:Tm) (bd:List Scope) (c:Nat),(can lF bd c t).1.size=t.size
  | .mk x cs,bd,c=>by rw [yx];simp only [size];rw [Ea lF cs]
theorem Ea (lF:List Str): ∀(cs:List Tm) (bd:List Scope) (x y:Nd) (a j c:Nat),sizes (eH lF bd x y a j c cs).1=sizes cs
  |[],bd,x,y,a,j,c=>by rw [eH]
  |t::ts,bd,x,y,a,j,c=>by rw [jG];simp only [sizes];rw [rA lF t,Ea lF ts]
end
theorem JL (lF:List Str): ∀(cs:List Tm) (bd:List Scope) (x y:Nd) (a j c:Nat),(eH lF bd x y a j c cs).1.length=cs.length
  |[],bd,x,y,a,j,c=>by rw [eH]
  |t::ts,bd,x,y,a,j,c=>by rw [jG,List.length_cons,List.length_cons,JL lF ts]
theorem Eb (lF:List Str): ∀(cs:List Tm) (b:Nat) (bd:List Scope) (x y:Nd) (a j c:Nat),roots b (eH lF bd x y a j c cs).1=roots b cs
  |[],b,bd,x,y,a,j,c=>by rw [eH]
  |t::ts,b,bd,x,y,a,j,c=>by rw [jG,roots,roots,rA,Eb lF ts]
theorem VK (lF:List Str): ∀(cs:List Tm) (bd:List Scope) (x y y':Nd) (a j c:Nat),y.names=y'.names->eH lF bd x y a j c cs=eH lF bd x y' a j c cs
  |[],bd,x,y,y',a,j,c,h=>by rw [eH,eH]
  |t::ts,bd,x,y,y',a,j,c,h=>by
    have hs:l9 x y a j=l9 x y' a j:=by unfold l9;rw [h]
    rw [jG,jG,hs,VK lF ts bd x y y' a (j+1) _ h]
theorem ug (lF:List Str) (x:Nd) (c:Nat):(dQ lF x c).1.length=x.names.length:=by
  unfold dQ;split
  · rfl
  · exact WQ lF _ _
theorem amP (lF:List Str) (x:Nd) (c:Nat):c<=(dQ lF x c).2:=by
  unfold dQ;split
  · exact Nat.le_refl _
  · exact FN lF _ _
mutual
theorem arV (lF:List Str): ∀(t:Tm) (bd:List Scope) (c:Nat),c<=(can lF bd c t).2
  | .mk x cs,bd,c=>by rw [yx];exact Nat.le_trans (amP lF x c) (uM lF cs _ _ _ _ _ _)
theorem uM (lF:List Str): ∀(cs:List Tm) (bd:List Scope) (x y:Nd) (a j c:Nat),c<=(eH lF bd x y a j c cs).2
  |[],bd,x,y,a,j,c=>by rw [eH];exact Nat.le_refl _
  |t::ts,bd,x,y,a,j,c=>by rw [jG];exact Nat.le_trans (arV lF t _ _) (uM lF ts _ _ _ _ _ _)
end
end Go.VL
end
section
namespace Go.VL
open Go.Proofs Go.RowKit
theorem amQ {H:AH} {n:Nd} {z:NV} {p:Nat} {r:List Str} {bi:Bool} (hbi:lM n.kind=some bi) (hz:bi=true->iW H (n,z)) (h:fZ n (p:Int)=some r):bE Tryz.prog 121 [.agg (jA (n,z)),.int .i64 p] H fun v H'=>ow H' r v z.ids/\HF [] H H'/\ ∀c,bA H c->bA H' c:=by
  cases bi with
  |true=>exact aaI (hz rfl) h
  |false=>
    have:=agO (WV hbi) h;subst this;exact agN (WV hbi)
theorem aaT {l l':List (Nd×NV)} {id o:Nat} (h:l'.map (·.2)=l.map (·.2)):kP l' id o=kP l id o:=by
  unfold kP
  have: ∀l:List (Nd×NV),(l.map fun x=>x.2.ids)=(l.map (·.2)).map NV.ids:=fun l=>by rw [List.map_map];rfl
  rw [this,this,h]
def arW (v:PV) (id o lo:Nat) (lF:List Str) (cl:Ck) (rec:aeO):Prop:=
  ∀(out:List Nd) (c:Int) (i:Nat) (bOo:List Scope) (out':List Nd) (c':Int),rec out c i bOo=some (out',c')-> ∀(H:AH) (l:List (Nd×NV)),kF H l v id o lo lF cl c->l.map (·.1)=out->
    bE Tryz.prog 136 [.ref o 0,.int .i64 i,.aB (bOo.map Scope.cells) .unk] H fun _ H'=> ∃l',l'.map (·.1)=out'/\l'.map (·.2)=l.map (·.2)/\kF H' l' v id o lo lF cl c'/\HF (kP l id o) H H'
section
variable {v:PV} {id o lo:Nat} {lF:List Str} {cl:Ck} {rec:aeO} {i q b N:Nat} {old:Nd} {z:NV} {bi:Bool} {bOo:List Scope} {args:List Int} {Q:Post} {out':List Nd} {c':Int}
theorem agS (hrec:arW v id o lo lF cl rec) (hbi:lM old.kind=some bi) (hbd:bOo.length<=1000000) (hal:args.length<=1000000) (hqN:N<=q) (hbN:N<=b) (hzN:bi=true-> ∀a∈z.ids,N<=a) {ck:Ck}:
    ∀(m j:Nat) (out:List Nd) (c:Int) (l:List (Nd×NV)) (σ:Nat->PV) (H:AH),j+m=args.length->Mq rec old i bOo (args.drop j) j out c=some (out',c')->kF H l v id o lo lF cl c->l.map (·.1)=out->(∀a∈kP l id o,a<N)->N<=H.next->
      (bi=true->iW H (old,z))->q<H.next->b<H.next->H.obj q=some [.ref id (i*5)]->H.obj b=some (jA (old,z))->σ 0= .ref o 0->σ 2= .aB (bOo.map Scope.cells) ck->σ 6= .ref q 0->σ 9= .ref b 0->σ 76= .aB (args.map aY) .unk->σ 77= .int .i64 args.length->σ 78= .int .i64 j->
      (∀σ' H' l',l'.map (·.1)=out'->l'.map (·.2)=l.map (·.2)->kF H' l' v id o lo lF cl c'->HF (kP l id o) H H'->Q (.exit 4) σ' H')->W Tryz.prog (.loop Jl) Q σ H:=by
  intro m
  induction m with
  |zero=>
    intro j out c l σ H hj hA hV hl hN hNn hz hq hb ho Ae s0 s2 s6 s9 s76 s77 s78 q0;rw [List.drop_of_length_le (by omega)]at hA;cases hA;have hge:decide ((j:Int)<(args.length:Int))=false:=decide_eq_false (by omega);refine aU (fun K hK=>aD ?_);unfold Jl;simp -implicitDefEqProofs only [go_sem,s77,s78,hge];exact q0 _ H l hl rfl hV (HF.refl _ _)
  |succ m ih=>
    intro j out c l σ H hj hA hV hl hN hNn hz hq hb ho Ae s0 s2 s6 s9 s76 s77 s78 q0;have hja:j<args.length:=by omega
    rw [List.drop_eq_getElem_cons hja,Mq]at hA;obtain⟨n,hn,hA1⟩:=aj hA;obtain⟨x,hx,hA2⟩:=aj hA1;obtain⟨y,hy,hA3⟩:=aj hA2;obtain⟨⟨hxy,hx1,ha0⟩,hA4⟩:=aQ hA3;obtain⟨⟨ax3,c1⟩,hr,hA5⟩:=aj hA4;clear hA hA1 hA2 hA3 hA4;subst hl;rw [List.getElem?_map]at hn;obtain⟨⟨n0,y0⟩,RX,hn⟩:=Option.map_eq_some_iff.1 hn;simp only at hn;subst hn;have hlt:decide ((j:Int)<(args.length:Int))=true:=decide_eq_true (by omega);have GN:q∉kP l id o:=fun hm=>by have:=hN q hm;omega
    have ax4:(args.map aY)[j]? =some (aY args[j]):=by rw [List.getElem?_map,List.getElem?_eq_getElem hja];rfl
    refine aU (fun K hK=>aD ?_);unfold Jl;simp -implicitDefEqProofs only [go_sem,s76,s77,s78,hlt,s2,ax4];refine aA (agJ bOo) ?_;have arX:=Ae;unfold jA at arX;simp -implicitDefEqProofs only [go_sem,s9,arX,Nat.zero_add,Nat.le_refl,List.take,List.drop];refine bE.mono (amQ hbi hz hx) ?_;rintro v87 H1 ⟨hB,hf1,hok1⟩;have hlen:=hB.len;have hV1:=hV.new hf1 (fun _ h=>by cases h);have ho1:=(hf1.2 q hq List.not_mem_nil).trans ho;simp -implicitDefEqProofs only [go_sem,hlen];refine agM (l:=l) (i:=i) (n:=n0) (y:=y0) (q:=q) (j:=j) (a:=x) (b:=y) (ids:=z.ids) (v87:=v87) (v:=v) (id:=id) (o:=o) (lo:=lo) (lF:=lF) (cl:=cl) (c:=c) RX GN hy hxy hx1 x.length 0 bOo .exact _ H1 (Nat.zero_add _) hB hV1 trivial aR aR aR aR aR aR (Nat.lt_of_lt_of_le hq hf1.1) ho1 (by omega) fun σ' H2 Bl fr e13 hf2=> ?_;have qd:=hf1.tr hf2;have hV2:=hV1.new hf2 (fun _ h=>by cases h);rw [List.drop_zero,List.drop_zero]at e13;have t0:σ' 0= .ref o 0:=(fr 0 (by decide) (by decide)).trans aR;have t12:σ' 12= .int .i64 args[j]:=(fr 12 (by decide) (by decide)).trans aR;have t2:σ' 2= .aB (bOo.map Scope.cells) ck:=(fr 2 (by decide) (by decide)).trans aR;have t6:σ' 6= .ref q 0:=(fr 6 (by decide) (by decide)).trans aR;have t9:σ' 9= .ref b 0:=(fr 9 (by decide) (by decide)).trans aR;have t76:σ' 76= .aB (args.map aY) .unk:=(fr 76 (by decide) (by decide)).trans aR;have t77:σ' 77= .int .i64 args.length:=(fr 77 (by decide) (by decide)).trans aR;have t78:σ' 78= .int .i64 j:=(fr 78 (by decide) (by decide)).trans aR;simp -implicitDefEqProofs only [go_sem,t0,t12,e13];have ax5:args[j]=((args[j].toNat:Nat):Int):=by omega
    rw [ax5];refine bE.mono (bE.wk (hrec _ _ _ _ _ _ hr H2 l hV2 rfl) (.same (.same (.aB .nil)))) ?_;rintro _ H3 ⟨l',r1,r2,r3,hf3⟩;have hw:IntKind.wrap .i64 ((j:Int)+1)=((j+1:Nat):Int):=by rw [IntKind.wrap_i64];omega
    simp -implicitDefEqProofs only [go_sem,t78,hw];have hM: ∀a∈kP l' id o,a<N:=by rw [aaT r2];exact hN
    have ai9:q<H2.next:=Nat.lt_of_lt_of_le hq qd.1;have arY:b<H2.next:=Nat.lt_of_lt_of_le hb qd.1;have hbM:b∉kP l id o:=fun hm=>by have:=hN b hm;omega
    have o2:H2.obj q=_:=(qd.2 q hq List.not_mem_nil).trans ho;have b2:H2.obj b=_:=(qd.2 b hb List.not_mem_nil).trans Ae;have hz3:bi=true->iW H3 (old,z):=fun h=>((hz h).hf qd (fun _ _ h=>by cases h)).hf hf3 fun a ha hm=>by have:=hzN h a ha;have:=hN a hm;omega
    refine hK _ _ (ih (j+1) ax3 c1 l' _ H3 (by omega) hA5 r3 r1 hM (Nat.le_trans hNn (Nat.le_trans qd.1 hf3.1)) hz3 (Nat.lt_of_lt_of_le ai9 hf3.1) (Nat.lt_of_lt_of_le arY hf3.1) ((hf3.2 q ai9 GN).trans o2) ((hf3.2 b arY hbM).trans b2) (by simp -implicitDefEqProofs only [go_sem,t0]) (by simp -implicitDefEqProofs only [go_sem,t2]) (by simp -implicitDefEqProofs only [go_sem,t6]) (by simp -implicitDefEqProofs only [go_sem,t9]) (by simp -implicitDefEqProofs only [go_sem,t76]) (by simp -implicitDefEqProofs only [go_sem,t77]) (by simp -implicitDefEqProofs only [go_sem]) fun σ4 H4 l4 u1 u2 u3 u4=> ?_);refine q0 σ4 H4 l4 u1 (u2.trans r2) u3 (((qd.up fun a ha=>by cases ha).tr hf3).tr ?_);rw [aaT r2]at u4;exact u4
end
theorem HF.old {M M':List Nat} {H H1 H2:AH} (h:HF M H H1) (h':HF M' H1 H2) (hs: ∀a∈M',a<H.next->a∈M):HF M H H2:=
  ⟨Nat.le_trans h.1 h'.1,fun a ha hm=>(h'.2 a (Nat.lt_of_lt_of_le ha h.1) fun hm'=>hm (hs a hm' ha)).trans (h.2 a ha hm)⟩
theorem amR {v:PV} {id o lo:Nat} {lF:List Str} {cl:Ck} {F:Nat}: ∀k,arW v id o lo lF cl (Hz lF F k):=by
  intro k
  induction k with
  |zero=>intro out c i bOo out' c' h;cases h
  |succ k ih=>
    intro out c i bOo out' c' h H l hV hl;rw [Hz]at h;obtain⟨n,hn,h1⟩:=aj h;obtain⟨nm,hnm,h2⟩:=aj h1;obtain⟨bi,hbi,h3⟩:=aj h2;obtain⟨⟨n2,c2⟩,Mt,h4⟩:=aj h3;obtain⟨⟨hb1,hn1,ha1⟩,hA⟩:=aQ h4;clear h h1 h2 h3 h4;subst hl;rw [List.getElem?_map]at hn;obtain⟨⟨n0,y⟩,RX,hn⟩:=Option.map_eq_some_iff.1 hn;simp only at hn;subst hn;obtain⟨id0,C,e1,hid,hC,hcell,hle,hdrop,hI⟩:=aO.content hV.own.row RX;obtain rfl:id=id0:=by simpa using e1
    have hI':lq 5 v (.int .i64 i)=some (.ref id (i*5)):=hI .i64 i (by omega) (by omega);have hoo:=hV.obj;refine aG asV (by simp) (aD ?_);unfold aj9;simp -implicitDefEqProofs only [go_sem,dM,hoo,hI',Nat.le_refl];obtain⟨H1,hH1⟩: ∃H1,H1=(H.new [.rG]).put H.next [.ref id (i*5)]:=⟨_,rfl⟩;rw [<-hH1];have hf1:HF [] H H1:=by
      rw [hH1];exact HF.put (.inr (Nat.le_refl _)) (HF.new (HF.refl _ _))
    have oq1:H1.obj H.next=some [.ref id (i*5)]:=by
      rw [hH1];show(if H.next=H.next then some _ else _)=_;rw [if_pos rfl]
    have nx1:H.next<H1.next:=by rw [hH1];exact Nat.lt_succ_self _
    clear hH1;have hV1:=hV.new hf1 (fun a ha=>by cases ha);have GN:H.next∉kP l id o:=fun hm=>Nat.lt_irrefl _ (hV.lts _ hm);refine arG (l:=l) (i:=i) (n:=n0) (y:=y) (q:=H.next) (bound:=bOo) (ck:= .unk) (nm:=nm) (k:=F) hV1 RX aR aR nx1 GN oq1 hnm (by omega) fun σ2 H2 RS hV2 hf2 oq2=> ?_;obtain⟨n1,aaU⟩: ∃n1:Nd,n1={n0 with text:=if nm=true then iY bOo n0.text else n0.text}:=⟨_,rfl⟩;have k1:n1.kind=n0.kind:=by rw [aaU]
    have g1:n1.args=n0.args:=by rw [aaU]
    have m1:n1.names=n0.names:=by rw [aaU]
    rw [<-aaU]at hV2 Mt hA;clear aaU;have hi:=(List.getElem?_eq_some_iff.1 RX).1;have arZ:(l.set i (n1,y))[i]? =some (n1,y):=by rw [List.getElem?_set,if_pos rfl,if_pos hi]
    have es2:kP (l.set i (n1,y)) id o=kP l id o:=aaJ RX;obtain⟨id2,C2,e2,aCr,hC2,hcell2,hle2,ar0,hI2⟩:=aO.content hV2.own.row arZ;obtain rfl:id=id2:=by simpa using e2
    have Y4:=hle2 5 (Nat.le_refl _);have t6:σ2 6= .ref H.next 0:=(RS 6 (by decide)).trans aR;have t0:σ2 0= .ref o 0:=(RS 0 (by decide)).trans aR;have t2:σ2 2= .aB (bOo.map Scope.cells) .unk:=(RS 2 (by decide)).trans aR;simp -implicitDefEqProofs only [go_sem,t6,oq2,hC2,ar0,Y4];have hcs:cellsOf (.agg (jA (n1,y)))=some (jA (n1,y)):=rfl;have hone:(jA (n1,y)).all PV.one=true:=by cases y<;>rfl
    have onew:(H2.new [.int .i64 0,.int .i64 0,.str [],.aB [] .nil,.aB [] .nil]).obj H2.next=some [.int .i64 0,.int .i64 0,.str [],.aB [] .nil,.aB [] .nil]:=by
      show(if H2.next=H2.next then some _ else _)=_
      rw [if_pos rfl]
    refine RP (id:=H2.next) (o:=0) (vs:=jA (n1,y)) (cs:=[.int .i64 0,.int .i64 0,.str [],.aB [] .nil,.aB [] .nil]) aR (by simp -implicitDefEqProofs only [go_sem,hcs]) onew rfl (by show 5<=5;decide) hone ?_;have hput:putCells [.int .i64 0,.int .i64 0,.str [],.aB [] .nil,.aB [] .nil] 0 (jA (n1,y))=jA (n1,y):=by cases y<;>rfl
    rw [hput];obtain⟨H3,hH3⟩: ∃H3,H3=(H2.new [.int .i64 0,.int .i64 0,.str [],.aB [] .nil,.aB [] .nil]).put H2.next (jA (n1,y)):=⟨_,rfl⟩;rw [<-hH3];have hf3:HF [] H2 H3:=by
      rw [hH3];exact HF.put (.inr (Nat.le_refl _)) (HF.new (HF.refl _ _))
    have ob3:H3.obj H2.next=some (jA (n1,y)):=by
      rw [hH3];show(if H2.next=H2.next then some _ else _)=_;rw [if_pos rfl]
    have nx3:H2.next<H3.next:=by rw [hH3];exact Nat.lt_succ_self _
    clear hH3;have nx2:H.next<H2.next:=Nat.lt_of_lt_of_le nx1 hf2.1;have hV3:=hV2.new hf3 (fun a ha=>by cases ha);have oq3:=(hf3.2 H.next nx2 List.not_mem_nil).trans oq2;simp -implicitDefEqProofs only [go_sem];refine arK (l:=l.set i (n1,y)) (i:=i) (n:=n1) (n':=n2) (y:=y) (q:=H.next) (b:=H2.next) (F:=F) (bi:=bi) (c:=c) (c':=c2) hV3 arZ (by rw [m1];exact hn1) (by rw [es2];exact GN) (fun hm=>by rw [es2]at hm;have:=hV.lts _ hm;omega) (by omega) aR aR aR (Nat.lt_trans nx2 nx3) nx3 oq3 ob3 (by rw [k1];exact hbi) Mt fun σ4 H4 z fr4 hV4 hz4 hf4 oq4 ob4=> ?_;rw [List.set_set]at hV4;have ax6:(l.set i (n2,y))[i]? =some (n2,y):=by rw [List.getElem?_set,if_pos rfl,if_pos hi]
    have es4:kP (l.set i (n2,y)) id o=kP l id o:=aaJ RX;obtain⟨id4,C4,e4,aCs,hC4,ar2,aCt,aAn,hI4⟩:=aO.content hV4.own.row ax6;obtain rfl:id=id4:=by simpa using e4
    have c4:C4[i*5+4]? =some (.aB (n2.args.map aY) .unk):=ar2 4 _ rfl;have g2:n2.args=n0.args:=by
      rw [<-g1];cases bi with
      |false=>cases Mt;rfl
      |true=>obtain⟨p,_,hp⟩:=aj Mt;cases hp;rfl
    rw [g2]at c4;have u6:σ4 6= .ref H.next 0:=(fr4 6 (by decide) (by decide)).trans aR;have u0:σ4 0= .ref o 0:=(fr4 0 (by decide) (by decide)).trans aR;have u2:σ4 2= .aB (bOo.map Scope.cells) .unk:=(fr4 2 (by decide) (by decide)).trans aR;have u9:σ4 9= .ref H2.next 0:=(fr4 9 (by decide) (by decide)).trans aR;simp -implicitDefEqProofs only [go_sem,u6,oq4,hC4,c4];have ax7:HF (kP l id o) H H4:=by
      refine HF.old (((hf1.up fun a ha=>by cases ha).tr (hf2.up fun a ha=> ?_)).tr (hf3.up fun a ha=>by cases ha)) hf4 fun a hm ha=> ?_
      · rw [List.mem_singleton.1 ha];simp [kP]
      · rcases List.mem_cons.1 hm with rfl|hm
        · omega
        · rcases List.mem_cons.1 hm with rfl|hm
          · exact List.mem_cons_self
          · exact List.mem_cons_of_mem _ (List.mem_cons_of_mem _ (M7 RX hm))
    refine agS (lF:=lF) (cl:=cl) (rec:=Hz lF F k) (i:=i) (q:=H.next) (b:=H2.next) (N:=H.next) (old:=n1) (z:=z) (bi:=bi) (bOo:=bOo) (args:=n0.args) (out':=out') (c':=c') ih (by rw [k1];exact hbi) hb1 ha1 (Nat.le_refl _) (Nat.le_of_lt nx2) (fun hbt a ha=> ?_) n0.args.length 0 (out:=(l.map (·.1)).set i n2) (c:=c2) (l:=l.set i (n2,y)) (H:=H4) (ck:= .unk) (σ:=_) (Nat.zero_add _) (by rw [List.drop_zero];exact hA) hV4 (by rw [List.map_set]) (by rw [es4];exact hV.lts) (Nat.le_of_lt (Nat.lt_of_lt_of_le nx2 (Nat.le_trans hf3.1 hf4.1))) (fun h=>(hz4 h).1) (Nat.lt_of_lt_of_le (Nat.lt_trans nx2 nx3) hf4.1) (Nat.lt_of_lt_of_le nx3 hf4.1) oq4 ob4 aR aR aR aR aR aR aR fun σ5 H5 l5 w1 w2 w3 w4=> ?_
    · have:=(hz4 hbt).2 a ha;have:=hf1.1;have:=hf2.1;have:=hf3.1;omega
    · skip
      simp -implicitDefEqProofs only [go_sem];refine⟨l5,w1,w2.trans ?_,w3,ax7.tr ?_⟩
      · rw [List.map_set];obtain⟨h,e⟩:=List.getElem?_eq_some_iff.1 RX
        have:(l.map (·.2))[i]'(by simpa using h)=y:=by rw [List.getElem_map,e]
        rw [<-this,List.set_getElem_self]
      · rw [es4]at w4;exact w4
theorem amS {α:Type} {H:AH} {f g:α->List PV} {sz:Nat} {l:List α} {v:PV} {ids:List Nat} [hr:qV f sz] (h:aO H f sz l v ids) (hg: ∀x,(g x).length=sz) (hz: ∀x∈l,∀(j:Nat) (c c':PV),(f x)[j]? =some c->(g x)[j]? =some c'->Fz H c c'):Fz H v (.aB (l.map g) .unk):=by
  have h0:=h;rcases h with⟨rfl,rfl,_⟩|⟨id,cap,junk,rfl,rfl,h2,h3,h4,h5⟩
  · exact .aB [] [] .nil .unk (.inl rfl) rfl (fun i cs cs' e=>by simp at e) (fun i cs cs' e=>by simp at e)
  · refine .bV id 0 l.length cap sz _ _ (fun i j=>((l.map f)[i]?.bind (·[j]?)).getD .any) h4 (by simp) h2 (fun i cs e=> ?_) (fun i cs e j c ec=> ?_) (fun i cs e j c ec=> ?_)
    · simp only [List.getElem?_map,Option.map_eq_some_iff]at e;obtain⟨x,_,rfl⟩:=e;exact hg x
    · simp only [List.getElem?_map,Option.map_eq_some_iff]at e;obtain⟨x,hx,rfl⟩:=e;obtain⟨id',C,e1,_,e2,e3,_⟩:=h0.content hx;cases e1;rw [h4]at e2;cases e2;have hj:j<(f x).length:=by rw [hr.len x,<-hg x];exact(List.getElem?_eq_some_iff.1 ec).1
      rw [List.getElem?_map,hx,Option.map_some,Option.bind_some,List.getElem?_eq_getElem hj,Option.getD_some,Nat.zero_add];exact e3 j _ (List.getElem?_eq_getElem hj)
    · simp only [List.getElem?_map,Option.map_eq_some_iff]at e;obtain⟨x,hx,rfl⟩:=e;have hj:j<(f x).length:=by rw [hr.len x,<-hg x];exact(List.getElem?_eq_some_iff.1 ec).1
      rw [List.getElem?_map,hx,Option.map_some,Option.bind_some,List.getElem?_eq_getElem hj,Option.getD_some];exact hz x (List.mem_of_getElem? hx) j _ _ (List.getElem?_eq_getElem hj) ec
theorem amT {H:AH} {n:Nd} {y:NV} (h:iW H (n,y)):KR H (jA (n,y)) n.cells:=by
  have hn:Fz H y.pv (.aB (n.names.map aI) .unk):=by
    cases y with
    |p l=>
      obtain⟨h1,h2⟩:l=[]/\n.names=[]:=h;subst h1;rw [h2];exact d9 bn [] .unk
    |m id len cap=>
      have hr:aO H aI 1 n.names (.bV id 0 len cap 1) [id]:=h.2;exact aO.fz bn hr
  exact .cons (.pure _ (.int _ _)) (.cons (.pure _ (.int _ _)) (.cons (.pure _ (.str _)) (.cons hn (.cons (d9 fO n.args .unk) .nil))))
theorem ar3 {H:AH} {l:List (Nd×NV)} {v:PV} {id lo:Nat} (h:KX H l v id l.length lo):Fz H v (dW (l.map (·.1))):=by
  have:=amS (g:=fun x:Nd×NV=>x.1.cells) h.row (fun _=>rfl) fun x hx j c c' e e'=>by
    obtain⟨i,hi⟩:=List.mem_iff_getElem?.1 hx;have hn:=h.Dv i x hi;rw [if_pos (List.getElem?_eq_some_iff.1 hi).1]at hn;obtain⟨n,y⟩:=x;exact(amT hn).get.2 j c c' e e'
  have e2:l.map (fun x:Nd×NV=>x.1.cells)=(l.map (·.1)).map Nd.cells:=by rw [List.map_map];rfl
  rw [e2]at this;exact this
def wK (k:Nat) (e:List Nd):Option (List Nd):=
  if 0<e.length/\e.length<=1000000/\(∀n∈e,n.names.length<=1000000/\n.args.length<=1000000)then
    Option.bind (qJ k e) fun lF=>Option.bind (Hz lF k k e 0 (e.length -1) []) fun p=>some p.1 else none
theorem agT {k:Nat} {e r:List Nd} {ck:Ck} (h:wK k e=some r):aF Tryz.prog 86 [X8 e ck] (dW r):=by
  refine aF.wk (args:=[dW e]) ?_ (.aB .nil);unfold wK at h;obtain⟨⟨h0,h1,h2⟩,h3⟩:=aQ h;obtain⟨lF,hleft,h4⟩:=aj h3;obtain⟨⟨out,c'⟩,ar4,h5⟩:=aj h4;cases h5;clear h h3 h4;refine aF.aP (bg.mem (.cons (aV Nd.pu _) .nil)) (aG av6 (by simp) (aD ?_)) (aV Nd.pu _);unfold ao0;simp -implicitDefEqProofs only [go_sem];refine bE.mono (adU e h0 (fun i n hi=>h2 n (List.mem_of_getElem? hi)) h1 AH.empty) ?_;rintro v H1 ⟨id,l,hle,hO,hf1,hok⟩;subst hle;rw [List.length_map]at hO;simp -implicitDefEqProofs only [go_sem];refine aA (aar k _ hleft) ?_;obtain⟨cap,rfl⟩: ∃cap,v= .bV id 0 l.length cap 5:=by
    rcases hO.row with⟨_,_,h⟩|⟨id',cap,junk,e1,e2,_⟩
    · cases h
    · cases e1;exact⟨cap,e2⟩
  have hlen:((List.map Prod.fst l).map Nd.cells).length=l.length:=by rw [List.length_map,List.length_map]
  have hw:IntKind.wrap .i64 ((l.length:Int) -1)=((l.length -1:Nat):Int):=by
    rw [List.length_map]at h0 h1;rw [IntKind.wrap_i64];omega
  simp -implicitDefEqProofs only [go_sem,List.take,List.drop,List.append_eq];obtain⟨H2,hH2⟩: ∃H2,H2=H1.new [.bV id 0 l.length cap 5,.aB (lF.map aI) .unk,.int .i64 0]:=⟨_,rfl⟩;have hf2:HF [] H1 H2:=by rw [hH2];exact HF.new (HF.refl _ _)
  have ob:H2.obj H1.next=some [.bV id 0 l.length cap 5,.aB (lF.map aI) .unk,.int .i64 0]:=by
    rw [hH2];show(if H1.next=H1.next then some _ else _)=_;rw [if_pos rfl]
  have nx:H1.next<H2.next:=by rw [hH2];exact Nat.lt_succ_self _
  have aCu:id<H1.next:=hO.row.lt _ (List.mem_singleton.2 rfl);have hV:kF H2 l (.bV id 0 l.length cap 5) id H1.next AH.empty.next lF .unk 0:=by
    refine⟨⟨hO.row.hf hf2 (fun _ _ h=>by cases h),fun i x hx=> ?_,hO.dj,hO.ne,hO.lob,hO.UA⟩,ob,nx,by omega,fun i x hx hm=> ?_⟩
    · have:=hO.Dv i x hx;rw [if_pos (List.getElem?_eq_some_iff.1 hx).1]at this⊢;exact this.hf hf2 (fun _ _ h=>by cases h)
    · have:=hO.Dv i x hx;rw [if_pos (List.getElem?_eq_some_iff.1 hx).1]at this;have:=this.lt _ hm;omega
  rw [List.length_map]at ar4;rw [hw,<-hH2];refine bE.mono (bE.wk (amR k _ _ _ [] _ _ ar4 H2 l hV rfl) (.same (.same (.aB .nil)))) ?_;rintro _ H3 ⟨l',r1,r2,r3,hf3⟩;have o3:=r3.obj;simp -implicitDefEqProofs only [go_sem,o3];subst r1;exact ar3 r3.own
end Go.VL
end
section
namespace Go.VL
open Tm
theorem VN {e:List Nd} (hF:rz e) {i:Nat} {n:Nd} (hn:e[i]? =some n):n.kind=23->1<=n.names.length:=fun hk=>(PG (hF.ok i n hn) hk).2
theorem ab8 (k:Int):lM k=some (!decide (k=16\/k=17)):=by
  unfold lM;by_cases h:k=16
  · subst h;rfl
  · by_cases h2:k=17
    · subst h2;rfl
    · rw [show(k !=16)=true by simp [h],show(k !=17)=true by simp [h2]];simp [h,h2]
theorem amU {lF:List Str} {F:Nat} (hFr:RU lF F) (n:Nd) (c:Nat) (hc:(dQ lF n c).2+lF.length<=9000):aaM lF F (!decide (n.kind=16\/n.kind=17)) n (c:Int)=some ({n with names:=(dQ lF n c).1},((dQ lF n c).2:Int)):=by
  unfold dQ at hc⊢;unfold aaM;by_cases h:n.kind=16\/n.kind=17
  · rw [if_pos h,decide_eq_true h];rfl
  · rw [if_neg h]at hc;rw [if_neg h,decide_eq_false h];show Option.bind (FQ lF F n.names.length (c:Int)) _=_
    rw [WX hFr _ _ hc];rfl
theorem set_mid {α:Type} (pre A post:List α) (n m:α) {i:Nat} (hi:i=pre.length+A.length):(pre++((A++[n])++post)).set i m=pre++((A++[m])++post):=by
  subst hi;rw [List.set_append_right _ _ (by omega),show pre.length+A.length -pre.length=A.length by omega,List.append_assoc,List.set_append_right _ _ (by omega),Nat.sub_self,List.append_assoc];rfl
theorem agU {lF:List Str} {F k:Nat} {out:List Nd} {c c2:Int} {i:Nat} {bd:List Scope} {n n1 n2:Nd} {bi:Bool} (hget:out[i]? =some n) (hnm:nG F n=some (fB n)) (hbi:lM n.kind=some bi)
    (h1:({n with text:=if fB n=true then iY bd n.text else n.text}:Nd)=n1) (Mt:aaM lF F bi n1 c=some (n2,c2)) (hl:bd.length<=1000000/\n.names.length<=1000000/\n.args.length<=1000000):
    Hz lF F (k+1) out c i bd=Mq (Hz lF F k) n1 i bd n.args 0 (out.set i n2) c2:=by
  subst h1;rw [Hz];simp only [hget,hnm,hbi,Option.bind_some];rw [Mt,Option.bind_some,if_pos hl]
section
variable {lF:List Str} {F:Nat} (hFr:RU lF F) {e:List Nd} (hF:rz e) (hN: ∀n∈e,nG F n=some (fB n))
include hFr hF hN
mutual
theorem aaV: ∀(t:Tm) (b:Nat) (bd:List Scope) (c k:Nat) (pre post:List Nd),Seg e b t->pre.length=b->t.size<=k->bd.length+34*(b+t.size -1)<=10000->(can lF bd c t).2+lF.length<=9000->
    Hz lF F k (pre++(flat b t++post)) (c:Int) (b+t.size -1) bd=some (pre++(flat b (can lF bd c t).1++post),((can lF bd c t).2:Int))
  | .mk x cs,b,bd,c,k,pre,post,hS,hp,hk,hb,hc=>by
    have hn:=hS.node;have hsz:b+(Tm.mk x cs).size -1=b+sizes cs:=by simp only [size];omega
    rw [hsz]at hb⊢;obtain⟨k,rfl⟩: ∃j,k=j+1:=⟨k -1,by simp only [size]at hk;omega⟩;have AZ:=hF.few _ _ hn;have hget:(pre++(flat b (.mk x cs)++post))[b+sizes cs]? =some (nd x b cs):=(show Seg (pre++(flat b (.mk x cs)++post)) b (.mk x cs)from⟨pre,post,rfl,hp⟩).node;have hnb:fB (nd x b cs)=fB x:=rfl;rw [yx]at hc⊢;have hle:=uM lF cs bd x (dO lF bd c x) cs.length 0 (dQ lF x c).2
    have Mt:=amU hFr (nd {x with text:=qO bd x} b cs) c (by
      show(dQ lF x c).2+lF.length<=9000
      simp only at hc;omega)
    rw [agU (n:=nd x b cs) (n1:=nd {x with text:=qO bd x} b cs) (n2:=nd (dO lF bd c x) b cs) (c2:=((dQ lF x c).2:Int)) hget (hN _ (List.mem_of_getElem? hn)) (ab8 _) rfl Mt ⟨by omega,by have:=AZ.2;omega,by have:=AZ.1;omega⟩];have hset:(pre++(flat b (.mk x cs)++post)).set (b+sizes cs) (nd (dO lF bd c x) b cs)=pre++((bq b []++bq (b+sizes []) cs)++([nd (dO lF bd c x) b cs]++post)):=by
      rw [kY,set_mid pre (bq b cs) post _ _ (by rw [hp,bX])];simp only [bq,sizes,List.nil_append,Nat.add_zero,List.append_assoc]
    rw [hset]
    have:=aaW cs x (nd (dO lF bd c x) b cs) (nd {x with text:=qO bd x} b cs) [] [] b bd (dQ lF x c).2 k pre post hS hp rfl (by simp only [size]at hk;omega) (by simpa using hb) (by
      have e1:eH lF bd x (nd (dO lF bd c x) b cs) ([]++cs).length ([]:List Tm).length (dQ lF x c).2 cs=eH lF bd x (dO lF bd c x) cs.length 0 (dQ lF x c).2 cs:=VK lF cs _ _ _ _ _ _ _ rfl;rw [e1];exact hc) rfl rfl rfl (by rw [List.nil_append];exact jg b cs) rfl rfl (ug lF x c) (by rw [List.nil_append];exact jg b cs)
    simp only [List.nil_append,List.length_nil]at this;have e1:eH lF bd x (nd (dO lF bd c x) b cs) cs.length 0 (dQ lF x c).2 cs=eH lF bd x (dO lF bd c x) cs.length 0 (dQ lF x c).2 cs:=VK lF cs _ _ _ _ _ _ _ rfl;rw [e1]at this;rw [show sizes ([]:List Tm)=0 from rfl,Nat.add_zero]at this;rw [show sizes ([]:List Tm)=0 from rfl,Nat.add_zero];refine this.trans ?_;rw [kY];have e2:nd (dO lF bd c x) b (eH lF bd x (dO lF bd c x) cs.length 0 (dQ lF x c).2 cs).1=nd (dO lF bd c x) b cs:=by unfold nd;rw [Eb]
    rw [e2];simp only [bq,List.nil_append,List.append_assoc]
theorem aaW: ∀(cs:List Tm) (x y n1:Nd) (l l':List Tm) (b:Nat) (bd:List Scope) (c k:Nat) (pre post:List Nd),Seg e b (.mk x (l++cs))->pre.length=b->sizes l'=sizes l->sizes cs<=k->bd.length+34*(b+sizes (l++cs))<=10000->
    (eH lF bd x y (l++cs).length l.length c cs).2+lF.length<=9000->n1.kind=x.kind->n1.n=x.n->n1.names=x.names->n1.args.length=(l++cs).length->y.kind=x.kind->y.n=x.n->y.names.length=x.names.length->y.args.length=(l++cs).length->
    Mq (Hz lF F k) n1 (b+sizes (l++cs)) bd (roots (b+sizes l) cs) l.length (pre++((bq b l'++bq (b+sizes l) cs)++([y]++post))) (c:Int)=
      some (pre++((bq b l'++bq (b+sizes l) (eH lF bd x y (l++cs).length l.length c cs).1)++([y]++post)),((eH lF bd x y (l++cs).length l.length c cs).2:Int))
  |[],x,y,n1,l,l',b,bd,c,k,pre,post,hS,hp,hl',hk,hb,hc,m1,m2,m3,m4,y1,y2,y3,y4=>by rw [roots,Mq,eH]
  |t::cs,x,y,n1,l,l',b,bd,c,k,pre,post,hS,hp,hl',hk,hb,hc,m1,m2,m3,m4,y1,y2,y3,y4=>by
    have hn:=hS.node;have AZ:=hF.few _ _ hn;have h23:=VN hF hn;have hcp:=t.size_pos;have hsz:sizes (l++t::cs)=sizes l+(t.size+sizes cs):=by rw [dG,sizes]
    have hk2:sizes (t::cs)=t.size+sizes cs:=by rw [sizes]
    have hal:(nd x b (l++t::cs)).args.length=(l++t::cs).length:=jg b _;have e1:l++t::cs=(l++[t])++cs:=by simp
    have e2:l.length+1=(l++[t]).length:=by simp
    have e3:b+sizes l+t.size=b+sizes (l++[t]):=by rw [dG,nD];omega
    have hbx:fZ n1 (l.length:Int)=some (dS (gU x.kind x.n (l++t::cs).length l.length) x.names):=by
      rw [HY (by rw [m1,m3];exact h23),m1,m2,m3,m4]
    have hby:fZ y (l.length:Int)=some (dS (gU x.kind x.n (l++t::cs).length l.length) y.names):=by
      rw [HY (by rw [y1,y3];exact h23),y1,y2,y4]
    rw [jG]at hc⊢;obtain⟨t',ht'⟩: ∃t',t'=(can lF (bd++l9 x y (l++t::cs).length l.length) c t):=⟨_,rfl⟩;have hts:=rA lF t (bd++l9 x y (l++t::cs).length l.length) c;rw [<-ht']at hc hts⊢;have hcl:=uM lF cs bd x y (l++t::cs).length (l.length+1) t'.2;have hpl:=aaS (gU x.kind x.n (l++t::cs).length l.length) x.names;have Ox:(dS (gU x.kind x.n (l++t::cs).length l.length) x.names).length=(dS (gU x.kind x.n (l++t::cs).length l.length) y.names).length:=C8 _ y3.symm;have hnx:x.names.length<=34:=AZ.2;have aCv:(l9 x y (l++t::cs).length l.length).length<=34:=by
      unfold l9;rw [List.length_zipWith];omega
    have hget:(pre++((bq b l'++bq (b+sizes l) (t::cs))++([y]++post)))[b+sizes (l++t::cs)]? =some y:=by
      rw [List.getElem?_append_right (by omega),List.getElem?_append_right (by rw [List.length_append,bX,bX];omega),List.length_append,bX,bX,show b+sizes (l++t::cs) -pre.length -(sizes l'+sizes (t::cs))=0 by omega];rfl
    have hin:=aaV t (b+sizes l) (bd++l9 x y (l++t::cs).length l.length) c k (pre++bq b l') (bq (b+sizes l+t.size) cs++([y]++post)) hS.kid (by rw [List.length_append,bX];omega) (by omega) (by rw [List.length_append];omega) (by rw [<-ht'];simp only at hc;omega);have ax8:pre++((bq b l'++bq (b+sizes l) (t::cs))++([y]++post))=(pre++bq b l')++(flat (b+sizes l) t++(bq (b+sizes l+t.size) cs++([y]++post))):=by rw [iC];simp only [List.append_assoc]
    have atI:(pre++bq b l')++(flat (b+sizes l) t'.1++(bq (b+sizes l+t.size) cs++([y]++post)))=pre++((bq b (l'++[t'.1])++bq (b+sizes (l++[t])) cs)++([y]++post)):=by
      rw [pU,wH,hl',e3];simp only [List.append_assoc]
    rw [<-ht']at hin;have htn:(((b+sizes l+t.size -1:Nat):Int)).toNat=b+sizes l+t.size -1:=by omega
    rw [roots,Mq,hget,Option.bind_some,hbx,Option.bind_some,hby,Option.bind_some,if_pos ⟨by omega,by omega,by omega⟩,htn,show List.zipWith Scope.mk (dS (gU x.kind x.n (l++t::cs).length l.length) x.names) (dS (gU x.kind x.n (l++t::cs).length l.length) y.names)=l9 x y (l++t::cs).length l.length from rfl,ax8,hin,Option.bind_some];simp only;rw [atI];have hrest:=aaW cs x y n1 (l++[t]) (l'++[t'.1]) b bd t'.2 k pre post (by rw [<-e1];exact hS) hp (by rw [dG,dG,nD,nD,hl',hts]) (by omega) (by rw [<-e1];exact hb) (by rw [<-e1,<-e2];exact hc) m1 m2 m3 (by rw [<-e1];exact m4) y1 y2 y3 (by rw [<-e1];exact y4);rw [<-e1,<-e2]at hrest;rw [<-e3,e3];refine hrest.trans ?_;rw [pU,wH,iC,hl',<-e3,hts];simp only [List.append_assoc]
end
end
mutual
def nmT:Tm->Nat
  | .mk x cs=>x.names.length+Xb cs
def Xb:List Tm->Nat
  |[]=>0
  |t::ts=>nmT t+Xb ts
end
theorem aje (lF:List Str) (x:Nd) (c:Nat):(dQ lF x c).2+cnt lF c<=c+x.names.length+cnt lF (dQ lF x c).2:=by
  unfold dQ;split
  · simp only;omega
  · have:=WT lF x.names.length c;omega
mutual
theorem ade (lF:List Str): ∀(t:Tm) (bd:List Scope) (c:Nat),(can lF bd c t).2+cnt lF c<=c+nmT t+cnt lF (can lF bd c t).2
  | .mk x cs,bd,c=>by
    rw [yx,nmT];have h1:=aje lF x c;have h2:=aaX lF cs bd x (dO lF bd c x) cs.length 0 (dQ lF x c).2;simp only;omega
theorem aaX (lF:List Str): ∀(cs:List Tm) (bd:List Scope) (x y:Nd) (a j c:Nat),(eH lF bd x y a j c cs).2+cnt lF c<=c+Xb cs+cnt lF (eH lF bd x y a j c cs).2
  |[],bd,x,y,a,j,c=>by rw [eH,Xb];simp only;omega
  |t::ts,bd,x,y,a,j,c=>by
    rw [jG,Xb];have h1:=ade lF t (bd++l9 x y a j) c;have h2:=aaX lF ts bd x y a (j+1) (can lF (bd++l9 x y a j) c t).2;simp only;omega
end
section
variable {e:List Nd} (hF:rz e)
include hF
mutual
theorem alh: ∀(t:Tm) (b:Nat),Seg e b t->nmT t<=34*t.size
  | .mk x cs,b,hS=>by
    have:=(hF.few _ _ hS.node).2;have h2:=agW cs x [] b hS;rw [nmT];simp only [size];have h3:(nd x b cs).names.length=x.names.length:=rfl;omega
theorem agW: ∀(cs:List Tm) (x:Nd) (l:List Tm) (b:Nat),Seg e b (.mk x (l++cs))->Xb cs<=34*sizes cs
  |[],x,l,b,hS=>by rw [Xb];omega
  |t::ts,x,l,b,hS=>by
    have h1:=alh t (b+sizes l) hS.kid;have h2:=agW ts x (l++[t]) b (by simpa using hS);rw [Xb,sizes];omega
end
end
theorem GQ {e:List Nd} (hF:rz e) {t:Tm} (he:e=flat 0 t) (lF:List Str) (hl:lF.length<=1000):(can lF [] 0 t).2+lF.length<=9000:=by
  have h1:=ade lF t [] 0;have h2:=RL lF (can lF [] 0 t).2;have h3:=alh hF t 0 (by rw [he];exact Seg.whole t);have h4:t.size<=170:=by have:=hF.len;rw [he,bT]at this;exact this
  omega
theorem Xc {e:List Nd} (hF:rz e) {t:Tm} (he:e=flat 0 t) {lF:List Str} (hfree:Ev (fun k=>qJ k e) lF) (hl:lF.length<=1000):Ev (fun k=>wK k e) (flat 0 (can lF [] 0 t).1):=by
  have hlen:=hF.len;have hs:=t.size_pos;have hsz:e.length=t.size:=by rw [he,bT]
  obtain⟨K1,h1⟩:=hfree;obtain⟨K2,h2⟩:=aaR lF (by omega);obtain⟨K3,h3⟩:=Ms (fun k n=>nG k n) fB e (fun n _=>Ma n);refine⟨K1+K2+K3+200,fun k hk=> ?_⟩;show wK k e=_
  unfold wK;rw [if_pos ⟨by omega,by omega,fun n hn=>by
    obtain⟨i,hi⟩:=List.mem_iff_getElem?.1 hn;have:=hF.few i n hi;omega⟩,(show qJ k e=_ from h1 k (by omega)),Option.bind_some]
  have:=aaV (h2 k (by omega)) hF (h3 k (by omega)) t 0 [] 0 k [] [] (by rw [he];exact Seg.whole t) rfl (by omega) (by simp only [List.length_nil];omega) (GQ hF he lF hl);simp only [List.nil_append,List.append_nil,Nat.zero_add]at this;rw [<-he]at this;rw [hsz,show((0:Int))=((0:Nat):Int)from rfl,this];rfl
def shN (d:Int) (n:Nd):Nd:={n with args:=n.args.map (·-d)}
theorem aaY (d:Nat): ∀(cs:List Tm) (b:Nat),(roots (b+d) cs).map (·-(d:Int))=roots b cs
  |[],b=>rfl
  |c::cs,b=>by
    have h:=aaY d cs (b+c.size);have hp:=size_pos c;rw [roots,roots,List.map_cons,show b+d+c.size=b+c.size+d by omega,h];congr 1
    omega
theorem atJ (d:Nat) (x:Nd) (b:Nat) (cs:List Tm):shN d (nd x (b+d) cs)=nd x b cs:=by
  unfold shN nd;simp only [aaY]
mutual
theorem VO (d:Nat): ∀(t:Tm) (b:Nat),(flat (b+d) t).map (shN d)=flat b t
  | .mk x cs,b=>by rw [kY,kY,List.map_append,aaZ d cs b,List.map_cons,List.map_nil,atJ]
theorem aaZ (d:Nat): ∀(cs:List Tm) (b:Nat),(bq (b+d) cs).map (shN d)=bq b cs
  |[],b=>by rw [bq,bq];rfl
  |c::cs,b=>by
    rw [iC,iC,List.map_append,VO d c b,show b+d+c.size=b+c.size+d by omega,aaZ d cs (b+c.size)]
end
section
variable {e:List Nd} (hlen:e.length<=1000000)
include hlen
theorem RY: ∀(t:Tm) (b:Nat),Seg e b t->Ev (fun k=>mK k e ((b+t.size -1:Nat):Int)) (.inl (b:Int))
  | .mk x [],b,h=>by
    have hn:=h.node;have e1:b+(Tm.mk x []).size -1=b:=by simp [size,sizes]
    simp only [sizes,Nat.add_zero]at hn;rw [e1];refine Ev.succ ?_;simp only [mK,nn,if_true,Int.toNat_natCast,hn,Option.bind_some];exact Ev.cF (by simp [nd,roots]) Ev.some
  | .mk x (c::cs),b,h=>by
    have hn:=h.node;have hlt:=h.lt;have hp:=size_pos c;have hk:Seg e (b+sizes []) c:=h.kid (l:=[]);simp only [sizes,Nat.add_zero]at hk;have ih:=RY c b hk;have e1:b+(Tm.mk x (c::cs)).size -1=b+sizes (c::cs):=by simp only [size];omega
    have hs:sizes (c::cs)=c.size+sizes cs:=by simp only [sizes]
    simp only [size]at hlt;have e2:(nd x b (c::cs)).args=((b+c.size -1:Nat):Int)::roots (b+c.size) cs:=by unfold nd;simp only [roots]
    rw [e1];refine Ev.succ ?_;simp only [mK,nn,if_true,Int.toNat_natCast,hn,Option.bind_some,e2,List.getElem?_cons_zero,ng];refine Ev.cT (by simp<;>omega) (Ev.cT ?_ ih);rw [wrap64 (by omega) (by omega)];exact decide_eq_true ⟨trivial,by omega⟩
theorem aa0 {t:Tm} {b:Nat} (h:Seg e b t):Ev (fun k=>uF k e ((b+t.size -1:Nat):Int)) (b:Int):=by
  unfold uF;refine Ev.cF (decide_eq_false (by omega)) (Ev.bind (RY hlen t b h) ?_);simp only [bL];exact Ev.some
theorem aa1 {uD:Int} (hf:0<=uD/\uD<=1000000) {i:Nat} {n:Nd} (hn:e[i]? =some n) (ha:n.args.length<=1000) (hr: ∀a∈n.args,-1000000<=a/\a<=1000000) (nm:List Str):
    Ev (fun k=>oP k e uD (i:Int) n.kind n.n n.text nm [] 0) (n.kind,n.n,n.text,nm,n.args.map (·-uD)):=by
  have key:Ev (fun k=>oP k e uD (i:Int) n.kind n.n n.text nm ((n.args.take 0).map (·-uD)) ((0:Nat):Int)) (n.kind,n.n,n.text,nm,n.args.map (·-uD)):=by
    refine lK (len:=n.args.length) (p:=fun j=>Ev (fun k=>oP k e uD (i:Int) n.kind n.n n.text nm ((n.args.take j).map (·-uD)) (j:Int)) (n.kind,n.n,n.text,nm,n.args.map (·-uD))) ?_ fun j hj ih=> ?_
    · refine Ev.succ ?_;simp only [oP,nn,if_true,Int.toNat_natCast,hn,Option.bind_some];exact Ev.cF (jP _) (Ev.some' (by rw [List.take_length]))
    · have h1:=hr _ (List.getElem_mem hj);refine Ev.succ ?_;simp only [oP,nn,if_true,Int.toNat_natCast,hn,Option.bind_some,lC hj,cond_true,bI hj,eO hj (show n.args.length<=1099511627776 by omega)];rw [wrap64 (x:=n.args[j] -uD) (by omega) (by omega)];refine Ev.mZ (by simp;omega) ?_
      have e1:(n.args.take (j+1)).map (·-uD)=(n.args.take j).map (·-uD)++[n.args[j] -uD]:=by rw [List.take_succ_eq_append_getElem hj,List.map_append];rfl
      rw [<-e1];exact ih
  exact key
theorem ab9 (hnd: ∀(i:Nat) n,e[i]? =some n->n.names.length<=1000/\n.args.length<=1000/\ ∀a∈n.args,-1000000<=a/\a<=1000000) {t:Tm} {b:Nat} (h:Seg e b t):Ev (fun k=>Ml k e ((b+t.size -1:Nat):Int)) (flat 0 t):=by
  have hlt:=h.lt;have hp:=size_pos t;obtain⟨pre,post,he,hpre⟩:=h;have hget: ∀j,j<t.size->e[b+j]? =(flat b t)[j]? :=fun j hj=>by
    rw [he,List.getElem?_append_right (by omega),hpre,show b+j -b=j by omega,List.getElem?_append_left (by rw [bT];exact hj)]
  have hfl:=VO b t 0;rw [Nat.zero_add]at hfl;have key:Ev (fun k=>qL k e ((b+t.size -1:Nat):Int) (b:Int) ((flat 0 t).take 0) ((b+0:Nat):Int)) (flat 0 t):=by
    refine lK (len:=t.size) (p:=fun j=>Ev (fun k=>qL k e ((b+t.size -1:Nat):Int) (b:Int) ((flat 0 t).take j) ((b+j:Nat):Int)) (flat 0 t)) ?_ fun j hj ih=> ?_
    · refine Ev.succ ?_;simp only [qL];exact Ev.cF (decide_eq_false (by omega)) (Ev.some' (by rw [List.take_of_length_le (by rw [bT];exact Nat.le_refl _)]))
    · have hj0:j<(flat 0 t).length:=by rw [bT];exact hj
      have hj1:j<(flat b t).length:=by rw [bT];exact hj
      have hn:e[b+j]? =some (flat b t)[j]:=by rw [hget j hj,bI hj1]
      have e0:(flat 0 t)[j]=shN b (flat b t)[j]:=by
        have:=congrArg (·[j]?) hfl
        simp only [List.getElem?_map,bI hj1,bI hj0,Option.map_some,Option.some.injEq]at this;exact this.symm
      obtain⟨g1,g2,g3⟩:=hnd _ _ hn;have e2:kH (flat b t)[j].names=some (flat b t)[j].names:=by
        unfold kH;rw [if_pos (by simp;omega)];rfl
      have hw:IntKind.wrap .i64 (((b+j:Nat):Int)+1)=((b+(j+1):Nat):Int):=by rw [wrap64 (by omega) (by omega)];omega
      refine Ev.succ ?_;simp only [qL,hw];refine Ev.cT (decide_eq_true (by omega)) (Ev.mZ (by omega) ?_);simp only [Int.toNat_natCast,hn,Option.bind_some,e2];refine Ev.bind (aa1 hlen ⟨by omega,by omega⟩ hn g2 g3 _) (Ev.mZ (by rw [List.length_take];omega) ?_);rw [List.take_succ_eq_append_getElem hj0,e0]at ih;exact ih
  unfold Ml;exact Ev.bind (aa0 hlen ⟨pre,post,he,hpre⟩) (Ev.bind key Ev.some)
end
theorem Xd (x:Nd) (cs:List Tm) (h:sizes cs<=1000000):ET (flat 0 (.mk x cs))=some (nd x 0 cs):=by
  have hn:=(Seg.whole (.mk x cs)).node;rw [Nat.zero_add]at hn;have hl:(flat 0 (.mk x cs)).length=sizes cs+1:=by rw [bT];simp [size]
  unfold ET;have hw:IntKind.wrap .i64 (((flat 0 (.mk x cs)).length:Int) -1)=(sizes cs:Int):=by rw [hl,wrap64 (by omega) (by omega)];omega
  simp only [hw,nn,if_true,Int.toNat_natCast,hn,Option.bind_some]
theorem aa2: ∀(cs:List Tm) (b:Nat) (a:Int),a∈roots b cs->0<=a/\a<=b+sizes cs
  |[],b,a,h=>by rw [roots]at h;cases h
  |c::cs,b,a,h=>by
    rw [roots,List.mem_cons]at h;simp only [sizes];rcases h with rfl|h
    · omega
    · have:=aa2 cs _ a h;omega
mutual
theorem Xe: ∀(t:Tm) (b:Nat) (n:Nd),n∈flat b t-> ∀a∈n.args,0<=a/\a<=b+t.size
  | .mk x cs,b,n,h,a,ha=>by
    rw [kY,List.mem_append,List.mem_singleton]at h;simp only [size];rcases h with h|rfl
    · have:=RZ cs b n h a ha;omega
    · have:=aa2 cs b a ha;omega
theorem RZ: ∀(cs:List Tm) (b:Nat) (n:Nd),n∈bq b cs-> ∀a∈n.args,0<=a/\a<=b+sizes cs
  |[],b,n,h,a,ha=>by rw [bq]at h;cases h
  |c::cs,b,n,h,a,ha=>by
    rw [iC,List.mem_append]at h;simp only [sizes];rcases h with h|h
    · have:=Xe c b n h a ha;omega
    · have:=RZ cs _ n h a ha;omega
end
theorem amV {e:List Nd} {b:Nat} {t:Tm} (h:Seg e b t) (hnd: ∀(i:Nat) n,e[i]? =some n->n.names.length<=1000/\n.args.length<=1000) (hb:t.size<=1000):
    ∀(i:Nat) n,(flat 0 t)[i]? =some n->n.names.length<=1000/\n.args.length<=1000/\ ∀a∈n.args,-1000000<=a/\a<=1000000:=by
  intro i n hn;have hr:=Xe t 0 n (List.mem_of_getElem? hn);have hfl:=VO b t 0;rw [Nat.zero_add]at hfl;rw [<-hfl,List.getElem?_map,Option.map_eq_some_iff]at hn;obtain⟨m,h1,rfl⟩:=hn;obtain⟨pre,post,he,hpre⟩:=h;have hi:=(List.getElem?_eq_some_iff.1 h1).1;obtain⟨g1,g2⟩:=hnd (b+i) m (by rw [he,List.getElem?_append_right (by omega),hpre,show b+i -b=i by omega,List.getElem?_append_left hi];exact h1);exact⟨g1,by simpa [shN]using g2,fun a ha=>by have:=hr a ha;omega⟩
theorem VP {x:Nd} {cs l m:List Tm} {c:Tm} (hcs:cs=l++c::m) (hs:sizes cs<=1000) (hnd: ∀(i:Nat) n,(flat 0 (.mk x cs))[i]? =some n->n.names.length<=1000/\n.args.length<=1000/\ ∀a∈n.args,-1000000<=a/\a<=1000000):
    Ev (fun k=>zh k (flat 0 (.mk x cs)) (l.length:Int)) (flat 0 c):=by
  subst hcs;have hk:Seg (flat 0 (.mk x (l++c::m))) (0+sizes l) c:=(Seg.whole _).kid;rw [Nat.zero_add]at hk;have ha:(nd x 0 (l++c::m)).args[l.length]? =some ((sizes l+c.size -1:Nat):Int):=by
    unfold nd;have:=Gx (b:=0) (l:=l) (m:=m) (c:=c);rw [Nat.zero_add]at this;exact this
  unfold zh;simp only [Xd x _ (show sizes (l++c::m)<=1000000 by omega),Option.bind_some,nn,if_true,Int.toNat_natCast,ha];exact Ev.bind (ab9 (by rw [bT];simp only [size];omega) hnd hk) Ev.some
theorem aeR {i:Nat} (h:i<=1099511627776):IntKind.wrap .i64 ((i:Int)+1)=((i+1:Nat):Int):=by rw [wrap64 (by omega) (by omega)];omega
theorem X0 {l:List Str} (hl:l.length<=1000000) (hn:l.Nodup) {i:Nat} (hi:i<l.length): ∀(m j:Nat),j+m=i->Ev (fun k=>qN k l l[i] (j:Int)) (.inr (i:Int)):=by
  intro m
  induction m with
  |zero=>
    intro j hj;obtain rfl:j=i:=by omega
    refine Ev.succ ?_;simp only [qN,Int.toNat_natCast];refine Ev.cT (decide_eq_true (by omega)) (Ev.mZ (by omega) (Ev.lY (bI hi) (Ev.cT (by simp) Ev.some)))
  |succ m ih=>
    intro j hj;have hjl:j<l.length:=by omega
    refine Ev.succ ?_;simp only [qN,Int.toNat_natCast];refine Ev.cT (decide_eq_true (by omega)) (Ev.mZ (by omega) (Ev.lY (bI hjl) (Ev.cF ?_ ?_)))
    · rw [beq_eq_false_iff_ne];exact List.pairwise_iff_getElem.1 hn j i hjl hi (by omega)
    · rw [aeR (by omega)];exact ih (j+1) (by omega)
theorem aeS {l:List Str} (hl:l.length<=1000000) (hn:l.Nodup) {i:Nat} (hi:i<l.length):Ev (fun k=>I8 k l l[i]) (i:Int):=by
  unfold I8;exact Ev.bind (X0 hl hn hi i 0 (by omega)) Ev.some
theorem VQ {l nn:List Str} (hl:l.length<=1000000) (hn:l.Nodup) (hnn:nn.length=l.length): ∀(m i:Nat),i+m<=l.length->Ev (fun k=>Mr k l nn ((l.drop i).take m)) ((nn.drop i).take m):=by
  intro m
  induction m with
  |zero=>intro i h;simp only [List.take_zero];exact Ev.all fun k=>rfl
  |succ m ih=>
    intro i h;have hi:i<l.length:=by omega
    have hi2:i<nn.length:=by omega
    rw [List.drop_eq_getElem_cons hi,List.drop_eq_getElem_cons hi2,List.take_succ_cons,List.take_succ_cons];unfold Mr;refine Ev.bind (aeS hl hn hi) (Ev.mZ (by omega) ?_);simp only [Int.toNat_natCast,bI hi2,Option.bind_some];exact Ev.bind (ih (i+1) (by omega)) Ev.some
theorem agX {l nn:List Str} (hl:l.length<=1000000) (hn:l.Nodup) (hnn:nn.length=l.length) (s:Nat):Ev (fun k=>Mr k l nn (dS s l)) (dS s nn):=by
  unfold dS;split
  · have:=VQ hl hn hnn l.length 0 (by omega);rw [List.drop_zero,List.drop_zero,List.take_length,<-hnn,List.take_length]at this;exact this
  · by_cases h:1<=l.length
    · have:=VQ hl hn hnn 1 0 (by omega);rw [List.drop_zero,List.drop_zero]at this;exact this
    · have h1:l=[]:=List.length_eq_zero_iff.1 (by omega);have h2:nn=[]:=List.length_eq_zero_iff.1 (by omega);subst h1;subst h2;exact Ev.all fun k=>rfl
  · have:=VQ hl hn hnn (l.length -1) 1;by_cases h:1<=l.length
    · have:=this (by omega);rw [List.take_of_length_le (by simp),List.take_of_length_le (by simp;omega)]at this;exact this
    · have h1:l=[]:=List.length_eq_zero_iff.1 (by omega);have h2:nn=[]:=List.length_eq_zero_iff.1 (by omega);subst h1;subst h2;exact Ev.all fun k=>rfl
  · exact Ev.all fun k=>rfl
theorem VR (bOo cA:List Str) (hlen:cA.length=bOo.length) (hb:bOo.length<=1000000) (s:Str): ∀(m:Nat),m<=bOo.length->Ev (fun k=>Option.bind (oQ k bOo cA s ((m:Int) -1)) (fun o=>Sum.elim (fun _=>some s) (fun x=>some x) o)) (iY (List.zipWith Scope.mk (bOo.take m) (cA.take m)) s):=by
  intro m
  induction m with
  |zero=>
    intro hm;refine Ev.succ ?_;simp only [oQ];rw [show decide (((0:Nat):Int) -1>=0)=false from by decide];exact Ev.all fun k=>rfl
  |succ m ih=>
    intro hm;have h1:m<bOo.length:=by omega
    have h2:m<cA.length:=by omega
    have e1:(((m+1:Nat):Int) -1)=(m:Int):=by omega
    have e2:IntKind.wrap .i64 ((m:Int) -1)=(m:Int) -1:=wrap64 (by omega) (by omega);have htake:List.zipWith Scope.mk (bOo.take (m+1)) (cA.take (m+1))=List.zipWith Scope.mk (bOo.take m) (cA.take m)++[⟨bOo[m],cA[m]⟩]:=by
      rw [List.take_succ_eq_append_getElem h1,List.take_succ_eq_append_getElem h2,List.zipWith_append (by rw [List.length_take,List.length_take];omega)];rfl
    refine Ev.succ ?_;rw [e1,htake,JK];simp only [oQ,Int.toNat_natCast,bI h1,bI h2,Option.bind_some,e2];have d1:decide ((m:Int)>=0)=true:=decide_eq_true (by omega);have d2:(0:Int)<=(m:Int):=by omega
    simp only [d1,d2,cond_true,if_true];by_cases h:bOo[m]=s
    · have d3:(bOo[m]==s)=true:=by simp [h]
      rw [if_pos h];simp only [d3,cond_true];exact Ev.all fun k=>rfl
    · have d3:(bOo[m]==s)=false:=by simp [h]
      rw [if_neg h];simp only [d3,cond_false];exact ih (by omega)
theorem acd (bOo cA:List Str) (hlen:cA.length=bOo.length) (hb:bOo.length<=1000000) (s:Str):Ev (fun k=>wJ k bOo cA s) (iY (List.zipWith Scope.mk bOo cA) s):=by
  have:=VR bOo cA hlen hb s bOo.length (Nat.le_refl _);rw [List.take_length,<-hlen,List.take_length,hlen]at this;unfold wJ;have hw:IntKind.wrap .i64 ((bOo.length:Int) -1)=(bOo.length:Int) -1:=wrap64 (by omega) (by omega);rw [hw];exact this
def shP (d:Int) (n:Nd):Nd:={n with args:=n.args.map (·+d)}
theorem Xf (d:Nat): ∀(cs:List Tm) (b:Nat),(roots b cs).map (·+(d:Int))=roots (b+d) cs
  |[],b=>rfl
  |c::cs,b=>by
    have:=c.size_pos;rw [roots,roots,List.map_cons,Xf d cs,show b+c.size+d=b+d+c.size by omega];congr 1
    omega
mutual
theorem aa3 (d:Nat): ∀(t:Tm) (b:Nat),(flat b t).map (shP d)=flat (b+d) t
  | .mk x cs,b=>by
    rw [kY,kY,List.map_append,Xg d cs b,List.map_cons,List.map_nil];congr 2
    unfold shP nd;simp only;rw [Xf d cs b]
theorem Xg (d:Nat): ∀(cs:List Tm) (b:Nat),(bq b cs).map (shP d)=bq (b+d) cs
  |[],b=>rfl
  |c::cs,b=>by rw [iC,iC,List.map_append,aa3 d c b,Xg d cs (b+c.size),show b+c.size+d=b+d+c.size by omega]
end
theorem Xh: ∀(cs:List Tm) (b:Nat),∀a∈roots b cs,0<=a/\a<((b+sizes cs:Nat):Int)
  |[],b,a,h=>by cases h
  |c::cs,b,a,h=>by
    have:=c.size_pos;rw [roots]at h;rw [sizes];rcases List.mem_cons.1 h with rfl|h
    · omega
    · have:=Xh cs (b+c.size) a h;omega
mutual
theorem aa4: ∀(t:Tm) (b:Nat),∀n∈flat b t,∀a∈n.args,0<=a/\a<((b+t.size:Nat):Int)
  | .mk x cs,b,n,hn,a,ha=>by
    rw [kY]at hn;simp only [size];rcases List.mem_append.1 hn with h|h
    · have:=Xi cs b n h a ha;omega
    · rw [List.mem_singleton.1 h]at ha;have:=Xh cs b a ha;omega
theorem Xi: ∀(cs:List Tm) (b:Nat),∀n∈bq b cs,∀a∈n.args,0<=a/\a<((b+sizes cs:Nat):Int)
  |[],b,n,hn,a,ha=>by cases hn
  |c::cs,b,n,hn,a,ha=>by
    rw [iC]at hn;rw [sizes];rcases List.mem_append.1 hn with h|h
    · have:=aa4 c b n h a ha;omega
    · have:=Xi cs (b+c.size) n h a ha;omega
end
theorem Kt {l:List Str} (h:l.length<=1000000):kH l=some l:=by
  unfold kH;rw [if_pos (by simp;omega)];rfl
theorem aa5 {uD:Int} (hf:0<=uD/\uD<=1000000) (p q:Int) (r:Str) (ns:List Str) (xs:List Int) (hx: ∀a∈xs,0<=a/\a<=1000000) (hl:xs.length<=1000000): ∀(m j:Nat) (done:List Int),j+m=xs.length->done.length+m<=1000000->
    Ev (fun k=>sI k uD p q r ns xs done (j:Int)) (done++(xs.drop j).map (·+uD)):=by
  intro m
  induction m with
  |zero=>
    intro j done hj hd;refine Ev.succ ?_;simp only [sI];refine Ev.cF (decide_eq_false (by omega)) (Ev.some' ?_);rw [List.drop_of_length_le (by omega)];simp
  |succ m ih=>
    intro j done hj hd;have hjl:j<xs.length:=by omega
    have hb:=hx xs[j] (List.getElem_mem hjl);refine Ev.succ ?_;simp only [sI,Int.toNat_natCast];refine Ev.cT (decide_eq_true (by omega)) (Ev.mZ (by omega) (Ev.lY (bI hjl) (Ev.mZ (by omega) ?_)));rw [aeR (by omega),wrap64 (by omega) (by omega)];refine(ih (j+1) _ (by omega) (by simp;omega)).to ?_;rw [List.drop_eq_getElem_cons hjl,List.append_assoc];rfl
theorem aa6 {uD:Int} (hf:0<=uD/\uD<=1000000) {ops:List (List Nd)} {i:Nat} {x:List Nd} (hi:ops[i]? =some x) (hx: ∀n∈x,n.names.length<=1000000/\n.args.length<=1000000/\ ∀a∈n.args,0<=a/\a<=1000000) (hl:x.length<=1000000): ∀(m j:Nat) (out:List Nd),j+m=x.length->out.length+m<=1000000->
    Ev (fun k=>sJ k ops out (i:Int) uD (j:Int)) (out++(x.drop j).map (shP uD)):=by
  intro m
  induction m with
  |zero=>
    intro j out hj hd;refine Ev.succ ?_;simp only [sJ,Int.toNat_natCast];refine Ev.mZ (by omega) (Ev.lY hi (Ev.cF (decide_eq_false (by omega)) (Ev.some' ?_)));rw [List.drop_of_length_le (by omega)];simp
  |succ m ih=>
    intro j out hj hd;have hjl:j<x.length:=by omega
    obtain⟨h1,h2,h3⟩:=hx x[j] (List.getElem_mem hjl);refine Ev.succ ?_;simp only [sJ,Int.toNat_natCast];refine Ev.mZ (by omega) (Ev.lY hi (Ev.cT (decide_eq_true (by omega)) (Ev.mZ (by omega) (Ev.lY (bI hjl) (Ev.lY (Kt h1) ?_)))));refine Ev.bind (aa5 hf _ _ _ _ x[j].args h3 h2 x[j].args.length 0 [] (by omega) (by simp;omega)) (Ev.mZ (by omega) ?_);rw [aeR (by omega)];refine(ih (j+1) _ (by omega) (by simp;omega)).to ?_;rw [List.drop_eq_getElem_cons hjl,List.append_assoc];rfl
theorem aa7 (cs:List Tm) (hs:sizes cs<=1000) (hcl:cs.length<=1000) (hnm: ∀c∈cs,∀n∈flat 0 c,n.names.length<=1000000/\n.args.length<=1000000) (p q:Int) (r:Str) (ns:List Str): ∀(m i:Nat),i+m=cs.length->
    Ev (fun k=>sK k (cs.map (flat 0)) (bq 0 (cs.take i)) p q r ns (roots 0 (cs.take i)) (i:Int)) (bq 0 cs,p,q,r,ns,roots 0 cs):=by
  intro m
  induction m with
  |zero=>
    intro i hi;refine Ev.succ ?_;simp only [sK,List.length_map];refine Ev.cF (decide_eq_false (by omega)) (Ev.some' ?_);rw [List.take_of_length_le (by omega)]
  |succ m ih=>
    intro i hi;have hil:i<cs.length:=by omega
    have hc:=(cs[i]).size_pos;have hsz:sizes cs=sizes (cs.take i)+(cs[i].size+sizes (cs.drop (i+1))):=by
      conv=>lhs;rw [<-List.take_append_drop i cs,List.drop_eq_getElem_cons hil,dG,sizes]
    refine Ev.succ ?_;simp only [sK,List.length_map];refine Ev.cT (decide_eq_true (by omega)) ?_;have hget:(cs.map (flat 0))[i]? =some (flat 0 cs[i]):=by rw [List.getElem?_map,bI hil];rfl
    have hfl:(bq 0 (cs.take i)).length=sizes (cs.take i):=bX 0 _;rw [hfl];have hx: ∀n∈flat 0 cs[i],n.names.length<=1000000/\n.args.length<=1000000/\ ∀a∈n.args,0<=a/\a<=1000000:=fun n hn=>by
      obtain⟨h1,h2⟩:=hnm cs[i] (List.getElem_mem hil) n hn;exact⟨h1,h2,fun a ha=>by have:=aa4 _ _ n hn a ha;omega⟩
    have h1:=aa6 (uD:=((sizes (cs.take i):Nat):Int)) ⟨by omega,by omega⟩ hget hx (by rw [bT];omega) (flat 0 cs[i]).length 0 (bq 0 (cs.take i)) (by omega) (by rw [bX,bT];omega);rw [List.drop_zero,aa3,Nat.zero_add]at h1;have et:bq 0 (cs.take (i+1))=bq 0 (cs.take i)++flat (sizes (cs.take i)) cs[i]:=by
      rw [List.take_succ_eq_append_getElem hil,pU,wH,Nat.zero_add]
    have er:roots 0 (cs.take (i+1))=roots 0 (cs.take i)++[((sizes (cs.take i)+cs[i].size -1:Nat):Int)]:=by
      rw [List.take_succ_eq_append_getElem hil,AV,Ww,Nat.zero_add]
    refine Ev.bind h1 (Ev.mZ (by rw [jg,List.length_take];omega) ?_)
    rw [<-et,aeR (by omega),wrap64 (by rw [bX];omega) (by
      rw [et,List.length_append,bX,bT];omega)]
    have el:((bq 0 (cs.take (i+1))).length:Int) -1=((sizes (cs.take i)+cs[i].size -1:Nat):Int):=by rw [et,List.length_append,bX,bT];omega
    rw [el,<-er];exact ih (i+1) (by omega)
theorem agY (x:Nd) (cs:List Tm) (hs:sizes cs<=1000) (hcl:cs.length<=1000) (hx:x.names.length<=1000000) (hnm: ∀c∈cs,∀n∈flat 0 c,n.names.length<=1000000/\n.args.length<=1000000):Ev (fun k=>Fy k x (cs.map (flat 0))) (flat 0 (.mk x cs)):=by
  unfold Fy;refine Ev.lY (Kt hx) ?_;have:=aa7 cs hs hcl hnm x.kind x.n x.text x.names cs.length 0 (by omega);rw [List.take_zero]at this;refine Ev.bind this (Ev.mZ (by rw [bX];omega) (Ev.some' ?_));rw [kY];rfl
end Go.VL
end
section
namespace Go.VL
open Go.Proofs Go.RowKit
def rC (k:Nat) (e:List Nd):Option (List Nd):=Option.bind (tT k e) fun taken=>Option.bind (HV taken k k e 0 [] []) fun p=>some p.1
theorem X3 (k:Nat) (e:List Nd) {c:Ck} {r:List Nd} (h:rC k e=some r):aF Tryz.prog 43 [.aB (e.map Nd.cells) c] (.aB (r.map Nd.cells) .unk):=by
  refine aF.wk (args:=[dW e]) ?_ (.aB .nil);unfold rC at h;obtain⟨taken,ht,h1⟩:=aj h;obtain⟨⟨r',c'⟩,hr,h2⟩:=aj h1;cases h2;refine aF.aP (bg.mem (.cons (aV Nd.pu _) .nil)) (aG avF (by simp) (aD ?_)) (aV Nd.pu _);unfold aoq;simp -implicitDefEqProofs only [go_sem];refine aA (Rf ht) ?_;simp -implicitDefEqProofs only [go_sem,List.take,List.drop,List.append_eq];have ob:(AH.empty.new [.aB (taken.map aI) .unk,.int .i64 0]).obj AH.empty.next=some [.aB (taken.map aI) .unk,.int .i64 0]:=by
    simp [AH.new]
  refine bE.mono (bE.wk (arR (o:=AH.empty.next) (taken:=taken) (cl:= .unk) (F:=k) k e 0 [] [] r' c' hr _ ob (Nat.lt_succ_self _)) (.same (.same (.aB (.aB .nil))))) ?_;rintro _ H' ⟨rfl,_,_,_⟩;simp -implicitDefEqProofs only [go_sem];exact .pure _ (aV Nd.pu _)
end Go.VL
end
section
namespace Go.VL
open Tm
def mg (n:Nd):Nd:={n with text:=[],names:=n.names.map fun _=>[]}
theorem Og {l m:List Str} (h:l.length=m.length):l.map (fun _=>([]:Str))=m.map (fun _=>[]):=by
  rw [List.map_const',List.map_const',h]
theorem M8 {n m:Nd} (h:mg n=mg m):n.kind=m.kind/\n.n=m.n/\n.args=m.args/\n.names.length=m.names.length:=by
  unfold mg at h;have h:=Nd.mk.inj h;refine⟨h.1,h.2.1,h.2.2.2.2,?_⟩;have:=congrArg List.length h.2.2.2.1
  rwa [List.length_map,List.length_map]at this
mutual
theorem aa8 (lF:List Str): ∀(t:Tm) (b:Nat) (bd:List Scope) (c:Nat),(flat b (can lF bd c t).1).map mg=(flat b t).map mg
  | .mk x cs,b,bd,c=>by
    have hn:mg (nd (dO lF bd c x) b (eH lF bd x (dO lF bd c x) cs.length 0 (dQ lF x c).2 cs).1)=mg (nd x b cs):=by
      simp only [mg,nd,Eb,dO];rw [Og (ug lF x c)]
    rw [yx,kY,kY,List.map_append,List.map_append,adg lF cs b,List.map_cons,List.map_cons,hn]
theorem adg (lF:List Str): ∀(cs:List Tm) (b:Nat) (bd:List Scope) (x y:Nd) (a j c:Nat),(bq b (eH lF bd x y a j c cs).1).map mg=(bq b cs).map mg
  |[],b,bd,x,y,a,j,c=>by rw [eH]
  |t::ts,b,bd,x,y,a,j,c=>by rw [jG,iC,iC,List.map_append,List.map_append,aa8 lF t b,rA,adg lF ts]
end
theorem Oh (pl:Bool) (x:Nd) (b b':Nat) (cs:List Tm):bO pl (nd x b cs)=bO pl (nd x b' cs):=by
  unfold bO mD kU mE nd;simp only [jg]
theorem R3: ∀(l acc:List Str),pQ acc l=false->l.Nodup/\ ∀s∈l,s∉acc
  |[],acc,h=>⟨List.Pairwise.nil,fun s hs=>by cases hs⟩
  |s::l,acc,h=>by
    rw [pQ,Bool.or_eq_false_iff,decide_eq_false_iff_not]at h;obtain⟨h1,h2⟩:=h;obtain⟨h3,h4⟩:=R3 l _ h2;refine⟨List.nodup_cons.2 ⟨fun hs=>h4 s hs (by simp),h3⟩,fun t ht=> ?_⟩;rcases List.mem_cons.1 ht with rfl|ht
    · exact h1
    · exact fun hm=>h4 t ht (by simp [hm])
theorem R4 {n:Nd} (h:bO true n=0):n.names.Nodup:=by
  have:pQ [] n.names=false:=by
    unfold bO at h
    split at h;·cases h
    split at h;·cases h
    split at h;·cases h
    split at h;·cases h
    split at h
    · rename_i h1;exact absurd h h1
    · split at h
      · cases h
      · rename_i h2;simpa using h2
  exact(R3 _ _ this).1
theorem agZ {taken:List Str} {F k:Nat} {e:List Nd} {c c1 c2:Int} {bOo cA:List Str} {root:Nd} {nm:Bool} {t:Str} {nn:List Str} {ps:List (List Nd)} {r:List Nd} (h1:ET e=some root) (h2:y7 F root=some nm) (h3:(cond nm (wJ F bOo cA root.text) (some root.text))=some t)
    (h4:yw taken F (root.kind==16||root.kind==17) root.names c=some (nn,c1)) (h5:root.names.length<=1000000/\root.args.length<=1000000/\bOo.length<=1000000/\cA.length<=1000000)
    (h6:FR (HV taken F k) F e {root with text:=t} nn bOo cA root.args.length 0 c1=some (ps,c2)) (h7:Fy F {root with text:=t,names:=nn} ps=some r):HV taken F (k+1) e c bOo cA=some (r,c2):=by
  rw [HV];simp only [h1,h2,h3,h4,Option.bind_some];rw [if_pos h5,h6,Option.bind_some,h7,Option.bind_some]
theorem ag0 {lF:List Str} {t:Tm} {bd:List Scope} {c:Nat} {N:Nat} (h: ∀n∈flat 0 t,n.names.length<=N/\n.args.length<=N): ∀n∈flat 0 (can lF bd c t).1,n.names.length<=N/\n.args.length<=N:=by
  intro n hn;obtain⟨i,hi⟩:=List.mem_iff_getElem?.1 hn
  have:=congrArg (·[i]?) (aa8 lF t 0 bd c)
  simp only [List.getElem?_map,hi,Option.map_some]at this;cases hm:(flat 0 t)[i]? with
  |none=>rw [hm]at this;cases this
  |some m=>
    rw [hm]at this;obtain⟨_,_,h3,h4⟩:=M8 (Option.some.inj this);have:=h m (List.mem_of_getElem? hm);rw [h3,h4];exact this
theorem Xj {e:List Nd} (hF:rz e) {b:Nat} {t:Tm} (hS:Seg e b t): ∀n∈flat 0 t,n.names.length<=1000/\n.args.length<=1000/\ ∀a∈n.args,-1000000<=a/\a<=1000000:=by
  intro n hn;obtain⟨i,hi⟩:=List.mem_iff_getElem?.1 hn;have hlt:=hS.lt;have:=hF.len;exact amV hS (fun i n hn=>by have:=hF.few i n hn;omega) (by omega) i n hi
theorem R5 {lF:List Str} {N:Nat}: ∀(cs:List Tm) (bd:List Scope) (x y:Nd) (a j c:Nat),(∀c0∈cs,∀n∈flat 0 c0,n.names.length<=N/\n.args.length<=N)-> ∀c0∈(eH lF bd x y a j c cs).1,∀n∈flat 0 c0,n.names.length<=N/\n.args.length<=N
  |[],bd,x,y,a,j,c,h=>by rw [eH];exact h
  |t::ts,bd,x,y,a,j,c,h=>by
    rw [jG];intro c0 hc0;rcases List.mem_cons.1 hc0 with rfl|hc0
    · exact ag0 (h t List.mem_cons_self)
    · exact R5 ts bd x y a (j+1) _ (fun c0 hc=>h c0 (List.mem_cons_of_mem _ hc)) c0 hc0
theorem amW {a b c d:List Str} (h1:a.length=c.length) (h2:b.length=d.length):(a++b).length=(c++d).length:=by rw [List.length_append,List.length_append,h1,h2]
theorem aa9 (n:Nd) (m:Nd) (h1:m.kind=n.kind) (h2:m.n=n.n) (h3:m.names=n.names) (h4:m.args.length=n.args.length) (j:Int):uH m j=uH n j:=by
  unfold uH;rw [h1,h2,h3,h4]
section
variable {lF:List Str} (hl:lF.length<=1000) {e:List Nd} (hF:rz e) (htx: ∀(i:Nat) n,e[i]? =some n->n.text.length<=1000000)
include hl hF htx
mutual
theorem abb: ∀(t:Tm) (b:Nat) (bOo cA:List Str) (c:Nat),Seg e b t->cA.length=bOo.length->bOo.length+34*(b+t.size -1)<=10000->(can lF (List.zipWith Scope.mk bOo cA) c t).2+lF.length<=9000->
    ∃K,∀F k,K<=F->K<=k->HV lF F k (flat 0 t) (c:Int) bOo cA=some (flat 0 (can lF (List.zipWith Scope.mk bOo cA) c t).1,((can lF (List.zipWith Scope.mk bOo cA) c t).2:Int))
  | .mk x cs,b,bOo,cA,c,hS,hlen,hb,hc=>by
    have hn:=hS.node;have hlt:=hS.lt;have hel:=hF.len;have hsz:(Tm.mk x cs).size=sizes cs+1:=by simp only [size]
    have AZ:=hF.few _ _ hn;have hnx:x.names.length<=34:=AZ.2;have hcl:cs.length<=34:=by have:=AZ.1;unfold nd at this;rwa [jg]at this
    have hspec:bO true (nd x 0 cs)=0:=by rw [Oh true x 0 b cs];exact hF.ok _ _ hn
    have hroot:=Xd x cs (by omega);rw [yx]at hc⊢;have hle:=uM lF cs (List.zipWith Scope.mk bOo cA) x (dO lF (List.zipWith Scope.mk bOo cA) c x) cs.length 0 (dQ lF x c).2;obtain⟨K1,k1⟩:=Rn hspec (by have:=htx _ _ hn;exact this);have htext:Ev (fun k=>cond (fB (nd x 0 cs)) (wJ k bOo cA (nd x 0 cs).text) (some (nd x 0 cs).text)) (qO (List.zipWith Scope.mk bOo cA) x):=by
      unfold qO;cases h:fB x with
      |true=>
        refine Ev.cT h ?_;rw [if_pos rfl];exact acd bOo cA hlen (by omega) _
      |false=>
        refine Ev.cF h ?_;rw [if_neg (by simp)];exact Ev.some
    obtain⟨K2,k2⟩:=htext;obtain⟨K3,k3⟩:=aaR lF (by omega);have ar5: ∀F,K3<=F->yw lF F ((nd x 0 cs).kind==16||(nd x 0 cs).kind==17) (nd x 0 cs).names (c:Int)=some ((dQ lF x c).1,((dQ lF x c).2:Int)):=by
      intro F hFF;have hk:(nd x 0 cs).kind=x.kind:=rfl;have hnm:(nd x 0 cs).names=x.names:=rfl;have hc':(dQ lF x c).2+lF.length<=9000:=by simp only at hc;omega
      rw [hk,hnm];unfold dQ at hc'⊢;by_cases h:x.kind=16\/x.kind=17
      · rw [if_pos h,show(x.kind==16||x.kind==17)=true by rcases h with h|h<;>rw [h]<;>rfl];exact WZ _ _
      · rw [if_neg h]at hc';rw [if_neg h,show(x.kind==16||x.kind==17)=false by simp only [Bool.or_eq_false_iff,beq_eq_false_iff_ne];exact⟨fun q=>h (.inl q),fun q=>h (.inr q)⟩];exact WY (k3 F hFF) _ _ hc'
    obtain⟨K4,k4⟩:=R6 cs x {nd x 0 cs with text:=qO (List.zipWith Scope.mk bOo cA) x} (dO lF (List.zipWith Scope.mk bOo cA) c x) [] b bOo cA (dQ lF x c).2 hS hlen (by simp only [List.nil_append];rw [hsz]at hb;omega) (by simpa using hc) rfl rfl rfl (jg 0 cs) (ug lF x c);simp only [List.nil_append,List.length_nil]at k4;have hsub: ∀c0∈(eH lF (List.zipWith Scope.mk bOo cA) x (dO lF (List.zipWith Scope.mk bOo cA) c x) cs.length 0 (dQ lF x c).2 cs).1,∀n∈flat 0 c0,n.names.length<=1000000/\n.args.length<=1000000:=by
      refine R5 cs _ _ _ _ _ _ fun c0 hc0 n hn0=> ?_;obtain⟨l1,l2,hcs⟩:=List.append_of_mem hc0;have hk:Seg e (b+sizes l1) c0:=Seg.kid (x:=x) (m:=l2) (by rw [<-hcs];exact hS);have:=Xj hF hk n hn0;omega
    obtain⟨K5,k5⟩:=agY {nd x 0 cs with text:=qO (List.zipWith Scope.mk bOo cA) x,names:=(dQ lF x c).1} (eH lF (List.zipWith Scope.mk bOo cA) x (dO lF (List.zipWith Scope.mk bOo cA) c x) cs.length 0 (dQ lF x c).2 cs).1 (by rw [Ea];omega) (by rw [JL];omega) (by show(dQ lF x c).1.length<=_;rw [ug];omega) hsub;refine⟨K1+K2+K3+K4+K5+1,fun F k h1 h2=> ?_⟩;obtain⟨k,rfl⟩: ∃j,k=j+1:=⟨k -1,by omega⟩;have hal:(nd x 0 cs).args.length=cs.length:=jg 0 cs;refine agZ hroot (k1 F (by omega)) (k2 F (by omega)) (ar5 F (by omega)) ⟨by show x.names.length<=_;omega,by rw [hal];omega,by omega,by omega⟩ (by rw [hal];exact k4 F k (by omega) (by omega)) (k5 F (by omega))
theorem R6: ∀(cs:List Tm) (x old y:Nd) (l:List Tm) (b:Nat) (bOo cA:List Str) (c:Nat),Seg e b (.mk x (l++cs))->cA.length=bOo.length->bOo.length+34*(b+sizes (l++cs))<=10000->
    (eH lF (List.zipWith Scope.mk bOo cA) x y (l++cs).length l.length c cs).2+lF.length<=9000->old.kind=x.kind->old.n=x.n->old.names=x.names->old.args.length=(l++cs).length->y.names.length=x.names.length->
    ∃K,∀F k,K<=F->K<=k->FR (HV lF F k) F (flat 0 (.mk x (l++cs))) old y.names bOo cA cs.length l.length (c:Int)=
      some ((eH lF (List.zipWith Scope.mk bOo cA) x y (l++cs).length l.length c cs).1.map (flat 0),((eH lF (List.zipWith Scope.mk bOo cA) x y (l++cs).length l.length c cs).2:Int))
  |[],x,old,y,l,b,bOo,cA,c,hS,hlen,hb,hc,m1,m2,m3,m4,y3=>⟨0,fun F k _ _=>by rw [eH];rfl⟩
  |t::cs,x,old,y,l,b,bOo,cA,c,hS,hlen,hb,hc,m1,m2,m3,m4,y3=>by
    have hn:=hS.node;have hlt:=hS.lt;have hel:=hF.len;have AZ:=hF.few _ _ hn;have h23:=VN hF hn;have hcp:=t.size_pos;have hnx:x.names.length<=34:=AZ.2;have hsz:sizes (l++t::cs)=sizes l+(t.size+sizes cs):=by rw [dG,sizes]
    have aCw:(Tm.mk x (l++t::cs)).size=sizes (l++t::cs)+1:=by simp only [size]
    have hspec:bO true (nd x 0 (l++t::cs))=0:=by rw [Oh true x 0 b _];exact hF.ok _ _ hn
    have ajf:(nd x 0 (l++t::cs)).args.length=(l++t::cs).length:=jg 0 _;have hcl:(l++t::cs).length<=34:=by have:=AZ.1;unfold nd at this;rwa [jg]at this
    have e1:l++t::cs=(l++[t])++cs:=by simp
    have e2:l.length+1=(l++[t]).length:=by simp
    have hbs:uH old (l.length:Int)=some (dS (gU x.kind x.n (l++t::cs).length l.length) x.names):=by
      rw [aa9 (nd x 0 (l++t::cs)) old m1 m2 m3 (by rw [m4,ajf]),Kk hspec (by rw [ajf];omega),W9 (n:=nd x 0 (l++t::cs)) h23,ajf];rfl
    have hnd:x.names.Nodup:=R4 (n:=nd x 0 (l++t::cs)) hspec;obtain⟨K1,k1⟩:=agX (l:=x.names) (nn:=y.names) (by omega) hnd y3 (gU x.kind x.n (l++t::cs).length l.length);obtain⟨K2,k2⟩:=VP (x:=x) (cs:=l++t::cs) (l:=l) (m:=cs) (c:=t) rfl (by omega) (fun i n hi=>Xj hF hS n (List.mem_of_getElem? hi));have Ox:(dS (gU x.kind x.n (l++t::cs).length l.length) y.names).length=(dS (gU x.kind x.n (l++t::cs).length l.length) x.names).length:=C8 _ y3;have hpl:=aaS (gU x.kind x.n (l++t::cs).length l.length) x.names;have hbd:List.zipWith Scope.mk (bOo++dS (gU x.kind x.n (l++t::cs).length l.length) x.names) (cA++dS (gU x.kind x.n (l++t::cs).length l.length) y.names)=List.zipWith Scope.mk bOo cA++l9 x y (l++t::cs).length l.length:=by
      rw [List.zipWith_append hlen.symm];rfl
    rw [jG]at hc⊢;have aCx:=uM lF cs (List.zipWith Scope.mk bOo cA) x y (l++t::cs).length (l.length+1) (can lF (List.zipWith Scope.mk bOo cA++l9 x y (l++t::cs).length l.length) c t).2;obtain⟨K3,k3⟩:=abb t (b+sizes l) (bOo++dS (gU x.kind x.n (l++t::cs).length l.length) x.names) (cA++dS (gU x.kind x.n (l++t::cs).length l.length) y.names) c hS.kid (amW hlen Ox) (by rw [List.length_append];omega) (by rw [hbd];simp only at hc;omega);rw [hbd]at k3;obtain⟨K4,k4⟩:=R6 cs x old y (l++[t]) b bOo cA (can lF (List.zipWith Scope.mk bOo cA++l9 x y (l++t::cs).length l.length) c t).2 (by rw [<-e1];exact hS) hlen (by rw [<-e1];exact hb) (by rw [<-e1,<-e2];exact hc) m1 m2 m3 (by rw [<-e1];exact m4) y3;rw [<-e1,<-e2]at k4;refine⟨K1+K2+K3+K4,fun F k g1 g2=> ?_⟩;rw [List.length_cons,FR,hbs,Option.bind_some,m3,(show Mr F x.names y.names _=_ from k1 F (by omega)),Option.bind_some,(show zh F _ _=_ from k2 F (by omega)),Option.bind_some,if_pos ⟨by omega,Ox⟩,k3 F k (by omega) (by omega),Option.bind_some];simp only;rw [k4 F k (by omega) (by omega),Option.bind_some];rfl
end
end
end Go.VL
end
section
namespace Go.VL
open Go.Proofs Go.RowKit
def P6 (k:Nat):List Nd->List Nd->Option Bool
  |[],_=>some true
  |_::_,[]=>none
  |a::l,b::m=>Option.bind (ES k a b) fun r=>cond r (P6 k l m) (some false)
def FT (k:Nat) (a b:List Nd):Option Bool:=if a.length<=1000000000 then if a.length=b.length then P6 k a b else some false else none
theorem ag1 {l:List Nd} {i:Nat} (h:i<l.length):(l.map Nd.cells)[i]? =some (l[i]).cells:=by rw [List.getElem?_map,List.getElem?_eq_getElem h];rfl
theorem ajg (k:Nat) (a b:List Nd) (hab:a.length=b.length) (hbig:a.length<=1000000000) (Q:Post): ∀(m i:Nat) (r:Bool) (σ:Nat->PV) (H:AH),i+m=a.length->P6 k (a.drop i) (b.drop i)=some r->
    σ 1=dW b->σ 2= .fn (.func 133) [] []->σ 15=dW a->σ 16= .int .i64 a.length->σ 17= .int .i64 i->
    (∀σ' H',(r=true->Q (.exit 0) σ' H')/\(r=false->σ' 6= .bool false->Q .ret σ' H'))->W Tryz.prog (.loop Ji) Q σ H:=by
  intro m
  induction m with
  |zero=>
    intro i r σ H hi h s1 s2 s15 s16 um q0;rw [List.drop_of_length_le (by omega),P6]at h;cases h;have hge:decide ((i:Int)<(a.length:Int))=false:=decide_eq_false (by omega);refine aU (fun K hK=>aD ?_);unfold Ji;simp -implicitDefEqProofs only [go_sem,s16,um,hge];exact(q0 _ H).1 rfl
  |succ m ih=>
    intro i r σ H hi h s1 s2 s15 s16 um q0;have hia:i<a.length:=by omega
    have hib:i<b.length:=by omega
    rw [List.drop_eq_getElem_cons hia,List.drop_eq_getElem_cons hib,P6]at h;obtain⟨t,ht,h⟩:=aj h;have hlt:decide ((i:Int)<(a.length:Int))=true:=decide_eq_true (by omega);have ga:=ag1 hia;have gb:=ag1 hib;have la:(a[i]).cells.length=5:=rfl;have lb:(b[i]).cells.length=5:=rfl;refine aU (fun K hK=>aD ?_);unfold Ji;simp -implicitDefEqProofs only [go_sem,s1,s2,s15,s16,um,hlt,ga,gb,dM,Nat.le_refl];refine aA (ad7 ht) ?_;have hw:IntKind.wrap .i64 ((i:Int)+1)=((i+1:Nat):Int):=by rw [IntKind.wrap_i64];omega
    cases t with
    |false=>
      cases h;simp -implicitDefEqProofs only [go_sem];exact(q0 _ _).2 rfl aR
    |true=>
      simp -implicitDefEqProofs only [go_sem,um,hw];refine hK _ _ (ih (i+1) r _ _ (by omega) h aR aR aR aR aR q0)
theorem ajh {k:Nat} {a b:List Nd} {r:Bool} {ca cb:Ck} (h:FT k a b=some r):aF Tryz.prog 85 [X8 a ca,X8 b cb] (.bool r):=by
  have ai2:aF Tryz.prog 132 [dW a,dW b,.fn (.func 133) [] []] (.bool r):=by
    refine aF.aP (bg.mem (.cons (aV Nd.pu _) (.cons (aV Nd.pu _) (.cons (.fn _ _ _ (bg.mem .nil) (bg.mem .nil)) .nil)))) (aG asR (by simp) (aD ?_)) (.bool _);unfold aj5;unfold FT at h;obtain⟨hbig,h⟩:=aQ h;by_cases hl:a.length=b.length
    · rw [if_pos hl]at h;have hne:((a.length:Int) !=(b.length:Int))=false:=by simp [hl]
      simp -implicitDefEqProofs only [go_sem,hne];refine ajg k a b hl hbig _ a.length 0 r _ AH.empty (Nat.zero_add _) (by rw [List.drop_zero,List.drop_zero];exact h) aR aR aR aR aR fun σ' H'=>⟨fun hr=> ?_,fun hr h6=> ?_⟩
      · subst hr;simp -implicitDefEqProofs only [go_sem];exact .pure _ (.bool _)
      · subst hr;simp -implicitDefEqProofs only [go_sem,h6];exact .pure _ (.bool _)
    · rw [if_neg hl]at h;cases h;have hne:((a.length:Int) !=(b.length:Int))=true:=by simp;omega
      simp -implicitDefEqProofs only [go_sem,hne];exact .pure _ (.bool _)
  refine aF.wk (args:=[dW a,dW b]) ?_ (.aB (.aB .nil));refine aF.aP (bg.mem (.cons (aV Nd.pu _) (.cons (aV Nd.pu _) .nil))) (aG av5 (by simp) (aD ?_)) (.bool _);unfold aoZ;simp -implicitDefEqProofs only [go_sem];refine aA ai2 ?_;simp -implicitDefEqProofs only [go_sem];exact .pure _ (.bool _)
end Go.VL
end
section
namespace Go.VL
open Tm
theorem FU (a b:List Str) (hl:a.length<=1099511627776):Ev (fun k=>kT k a b) (decide (a=b)):=by
  unfold kT;by_cases hab:a.length=b.length
  · refine Ev.cF (by simp [hab]) ?_;have key:Ev (fun k=>dZ k a b (a.length:Int) ((0:Nat):Int)) (if a.drop 0=b.drop 0 then .inl ()else .inr false):=by
      refine lK (len:=a.length) (p:=fun i=>Ev (fun k=>dZ k a b (a.length:Int) (i:Int)) (if a.drop i=b.drop i then .inl ()else .inr false)) ?_ fun i hi ih=> ?_
      · refine Ev.succ ?_;simp only [dZ];refine Ev.cF (jP _) (Ev.some' ?_);simp [hab]
      · have hi':i<b.length:=hab▸hi;refine Ev.succ ?_;simp only [dZ,Int.toNat_natCast,bI hi,bI hi',Option.bind_some,nn,if_true,lC hi,cond_true,eO hi hl];by_cases h:a[i]=b[i]
        · refine Ev.cT (by rw [beq_iff_eq];exact h) (ih.to ?_);have:List.drop i a=a[i]::List.drop (i+1) a:=List.drop_eq_getElem_cons hi;have:List.drop i b=b[i]::List.drop (i+1) b:=List.drop_eq_getElem_cons hi';simp only [*,List.cons.injEq,true_and]
        · refine Ev.cF (by rw [beq_eq_false_iff_ne];exact h) (Ev.some' ?_);have e1:List.drop i a=a[i]::List.drop (i+1) a:=List.drop_eq_getElem_cons hi;have e2:List.drop i b=b[i]::List.drop (i+1) b:=List.drop_eq_getElem_cons hi';rw [if_neg];intro e;rw [e1,e2,List.cons.injEq]at e;exact h e.1
    refine Ev.bind key ?_;by_cases h:a=b
    · subst h;simp only [if_true,bL,decide_true];exact Ev.some
    · simp only [List.drop_zero,h,if_false,bP,decide_false];exact Ev.some
  · refine Ev.cT (by simp;omega) (Ev.some' ?_);exact(decide_eq_false fun e=>hab (by rw [e])).symm
theorem Mv (a b:List Int) (hl:a.length<=1099511627776):Ev (fun k=>qA k a b) (decide (a=b)):=by
  unfold qA;by_cases hab:a.length=b.length
  · refine Ev.cF (by simp [hab]) ?_;have key:Ev (fun k=>gM k a b (a.length:Int) ((0:Nat):Int)) (if a.drop 0=b.drop 0 then .inl ()else .inr false):=by
      refine lK (len:=a.length) (p:=fun i=>Ev (fun k=>gM k a b (a.length:Int) (i:Int)) (if a.drop i=b.drop i then .inl ()else .inr false)) ?_ fun i hi ih=> ?_
      · refine Ev.succ ?_;simp only [gM];refine Ev.cF (jP _) (Ev.some' ?_);simp [hab]
      · have hi':i<b.length:=hab▸hi;refine Ev.succ ?_;simp only [gM,Int.toNat_natCast,bI hi,bI hi',Option.bind_some,nn,if_true,lC hi,cond_true,eO hi hl];have e1:List.drop i a=a[i]::List.drop (i+1) a:=List.drop_eq_getElem_cons hi;have e2:List.drop i b=b[i]::List.drop (i+1) b:=List.drop_eq_getElem_cons hi';by_cases h:a[i]=b[i]
        · refine Ev.cF (by rw [bne_eq_false_iff_eq];exact h) (ih.to ?_);rw [e1,e2];simp only [h,List.cons.injEq,true_and]
        · refine Ev.cT (by rw [bne_iff_ne];exact h) (Ev.some' ?_);rw [if_neg];intro e;rw [e1,e2,List.cons.injEq]at e;exact h e.1
    refine Ev.bind key ?_;by_cases h:a=b
    · subst h;simp only [if_true,bL,decide_true];exact Ev.some
    · simp only [List.drop_zero,h,if_false,bP,decide_false];exact Ev.some
  · refine Ev.cT (by simp;omega) (Ev.some' ?_);exact(decide_eq_false fun e=>hab (by rw [e])).symm
theorem ace (x y:Nd) (h1:x.names.length<=1000000) (h2:x.args.length<=1000000):Ev (fun k=>ES k x y) (decide (x=y)):=by
  unfold ES;obtain⟨k1,n1,t1,m1,a1⟩:=x;obtain⟨k2,n2,t2,m2,a2⟩:=y;simp only at h1 h2;simp only [Nd.mk.injEq];by_cases e1:k1=k2
  · refine Ev.cT (by rw [beq_iff_eq];exact e1) ?_;by_cases e2:n1=n2
    · refine Ev.cT (by rw [beq_iff_eq];exact e2) ?_;by_cases e3:t1=t2
      · refine Ev.cT (by rw [beq_iff_eq];exact e3) (Ev.bind (FU m1 m2 (by omega)) ?_);by_cases e4:m1=m2
        · refine Ev.cT (decide_eq_true e4) (Ev.bind (Mv a1 a2 (by omega)) (Ev.some' ?_));simp [e1,e2,e3,e4]
        · exact Ev.cF (decide_eq_false e4) (Ev.some' (by simp [e4]))
      · exact Ev.cF (by rw [beq_eq_false_iff_ne];exact e3) (Ev.some' (by simp [e3]))
    · exact Ev.cF (by rw [beq_eq_false_iff_ne];exact e2) (Ev.some' (by simp [e2]))
  · exact Ev.cF (by rw [beq_eq_false_iff_ne];exact e1) (Ev.some' (by simp [e1]))
theorem adh: ∀(a b:List Nd),a.length=b.length->(∀n∈a,n.names.length<=1000000/\n.args.length<=1000000)->Ev (fun k=>P6 k a b) (decide (a=b))
  |[],[],_,_=>Ev.all fun k=>rfl
  |[],_::_,h,_=>by simp at h
  |_::_,[],h,_=>by simp at h
  |x::a,y::b,h,hn=>by
    have hx:=hn x List.mem_cons_self;unfold P6;refine Ev.bind (ace x y hx.1 hx.2) ?_;by_cases e:x=y
    · refine Ev.cT (decide_eq_true e) ((adh a b (by simpa using h) fun n hm=>hn n (List.mem_cons_of_mem _ hm)).to ?_);simp [e]
    · refine Ev.cF (decide_eq_false e) (Ev.some' ?_);simp [e]
theorem ag2 (a b:List Nd) (hl:a.length<=1000000) (hn: ∀n∈a,n.names.length<=1000000/\n.args.length<=1000000):Ev (fun k=>FT k a b) (decide (a=b)):=by
  unfold FT;refine Ev.mZ (by omega) ?_;by_cases h:a.length=b.length
  · simp only [if_pos h];exact adh a b h hn
  · simp only [if_neg h];exact Ev.some' (decide_eq_false fun e=>h (by rw [e])).symm
theorem VT {e:List Nd} (hF:rz e) (hL:nk e) {t:Tm} (he:e=flat 0 t) {lF:List Str} (hfree:Ev (fun k=>tT k e) lF) (hl:lF.length<=1000):Ev (fun k=>rC k e) (flat 0 (can lF [] 0 t).1):=by
  have hlen:=hF.len;have hs:=t.size_pos;have hsz:e.length=t.size:=by rw [he,bT]
  obtain⟨K1,h1⟩:=hfree;obtain⟨K2,h2⟩:=abb hl hF (fun i n hn=>by have:=(hL.nd i n hn).1;omega) t 0 [] [] 0 (by rw [he];exact Seg.whole t) rfl (by simp only [List.length_nil];omega) (GQ hF he lF hl);refine⟨K1+K2,fun k hk=> ?_⟩;show rC k e=_
  unfold rC;rw [(show tT k e=_ from h1 k (by omega)),Option.bind_some];have:=h2 k k (by omega) (by omega);rw [<-he]at this;rw [show((0:Int))=((0:Nat):Int)from rfl,this];rfl
def GoodS (lF:List Str) (N:Nat) (bd:List Scope):Prop:= ∀s∈bd,∃n,s.new=bN n/\n<=N/\bN n∉lF
theorem Cr: ∀(bd:List Scope) (t:Str),iY bd t=t\/ ∃s∈bd,s.old=t/\iY bd t=s.new
  |[],t=> .inl (by rw [iY])
  |s::bd,t=>by
    rw [iY];have ih:=Cr bd t;by_cases h:(bd.any fun s=>decide (s.old=t))=true
    · rw [if_pos h];rcases ih with h1|⟨s1,h1,h2,h3⟩
      · exact .inl h1
      · exact .inr ⟨s1,List.mem_cons_of_mem _ h1,h2,h3⟩
    · rw [if_neg h];by_cases h2:s.old=t
      · rw [if_pos h2];exact .inr ⟨s,List.mem_cons_self,h2,rfl⟩
      · rw [if_neg h2];rcases ih with h1|⟨s1,h1,h2,h3⟩
        · exact .inl h1
        · exact .inr ⟨s1,List.mem_cons_of_mem _ h1,h2,h3⟩
theorem abd {lF:List Str} {x:Nd} {c:Nat} {s:Str} (h:s∈(dQ lF x c).1):(s∈x.names/\(x.kind=16\/x.kind=17))\/ ∃n,s=bN n/\c<n/\n<=(dQ lF x c).2/\bN n∉lF:=by
  unfold dQ at h⊢;by_cases hk:x.kind=16\/x.kind=17
  · rw [if_pos hk]at h;exact .inl ⟨h,hk⟩
  · rw [if_neg hk]at h⊢;obtain⟨h1,n,h2,h3,h4⟩:=Mj lF _ _ _ h;exact .inr ⟨n,h2,h3,h4,h2▸h1⟩
theorem amX {lF:List Str} {bd:List Scope} {x:Nd} {a j c:Nat} {s:Scope} (h:s∈l9 x (dO lF bd c x) a j):s.old∈x.names/\ ∃n,s.new=bN n/\c<n/\n<=(dQ lF x c).2/\bN n∉lF:=by
  unfold l9 at h;obtain⟨i,hi⟩:=List.mem_iff_getElem?.1 h;rw [List.getElem?_zipWith]at hi;cases h1:(dS (gU x.kind x.n a j) x.names)[i]? with
  |none=>rw [h1]at hi;simp at hi
  |some o=>
    cases h2:(dS (gU x.kind x.n a j) (dO lF bd c x).names)[i]? with
    |none=>rw [h1,h2]at hi;simp at hi
    |some w=>
      rw [h1,h2]at hi;simp only [Option.some.injEq]at hi;subst hi;refine⟨Xa (List.mem_of_getElem? h1),?_⟩;rcases abd (Xa (List.mem_of_getElem? h2))with⟨_,hk⟩|h3
      · rw [amO hk]at h2;simp [dS]at h2
      · exact h3
theorem abe {lF:List Str} {bd:List Scope} {x:Nd} {a j c N:Nat} (hN:(dQ lF x c).2<=N) (hb:GoodS lF N bd):GoodS lF N (bd++l9 x (dO lF bd c x) a j):=by
  intro s hs;rcases List.mem_append.1 hs with h|h
  · exact hb s h
  · obtain⟨_,n,h1,_,h2,h3⟩:=amX h;exact⟨n,h1,by omega,h3⟩
def TxO (lF:List Str) (N:Nat) (o s:Str):Prop:=s=o\/ ∃n,s=bN n/\n<=N/\bN n∉lF
theorem M9 {lF:List Str} {N:Nat} {bd:List Scope} (hb:GoodS lF N bd) (x:Nd):TxO lF N x.text (qO bd x)/\(qO bd x≠x.text->fB x=true):=by
  unfold qO;cases h:fB x with
  |false=>rw [if_neg (by simp)];exact⟨.inl rfl,fun h=>absurd rfl h⟩
  |true=>
    rw [if_pos rfl];refine⟨?_,fun _=>rfl⟩;rcases Cr bd x.text with h1|⟨s,h1,h2,h3⟩
    · exact .inl h1
    · rw [h3];obtain⟨n,h4,h5,h6⟩:=hb s h1;exact .inr ⟨n,h4,h5,h6⟩
structure Out (lF:List Str) (N:Nat) (n m:Nd):Prop where
  sk:mg m=mg n
  tx:TxO lF N n.text m.text
  nb:m.text≠n.text->fB n=true
  fx:n.kind=16\/n.kind=17->m.names=n.names
  nm: ¬(n.kind=16\/n.kind=17)->m.names.Nodup/\ ∀s∈m.names,∃k,s=bN k/\k<=N/\bN k∉lF
theorem ar6 {lF:List Str} {N:Nat} {bd:List Scope} {c:Nat} (hb:GoodS lF N bd) (x:Nd) (b:Nat) (cs cs':List Tm) (hr:roots b cs'=roots b cs) (hN:(dQ lF x c).2<=N):Out lF N (nd x b cs) (nd (dO lF bd c x) b cs'):=by
  refine⟨?_,(M9 hb x).1,(M9 hb x).2,fun h=> ?_,fun h=>⟨?_,fun s hs=> ?_⟩⟩
  · simp only [mg,nd,hr,dO];rw [Og (ug lF x c)]
  · show(dQ lF x c).1=x.names
    unfold dQ;rw [if_pos (show x.kind=16\/x.kind=17 from h)]
  · show(dQ lF x c).1.Nodup
    unfold dQ;rw [if_neg (show ¬(x.kind=16\/x.kind=17)from h)];exact Od lF _ _
  · rcases abd hs with⟨_,hk⟩|⟨n,h1,_,h2,h3⟩
    · exact absurd hk h
    · exact⟨n,h1,by omega,h3⟩
mutual
theorem adi {lF:List Str} {N:Nat}: ∀(t:Tm) (b:Nat) (bd:List Scope) (c:Nat),GoodS lF N bd->(can lF bd c t).2<=N-> ∀(i:Nat) (n:Nd),(flat b t)[i]? =some n-> ∃m,(flat b (can lF bd c t).1)[i]? =some m/\Out lF N n m
  | .mk x cs,b,bd,c,hb,hN,i,n,hn=>by
    rw [yx]at hN⊢;have hle:=uM lF cs bd x (dO lF bd c x) cs.length 0 (dQ lF x c).2;rw [kY]at hn⊢;have hfl:(bq b (eH lF bd x (dO lF bd c x) cs.length 0 (dQ lF x c).2 cs).1).length=(bq b cs).length:=by rw [bX,bX,Ea]
    by_cases hi:i<(bq b cs).length
    · rw [List.getElem?_append_left hi]at hn;rw [List.getElem?_append_left (by omega)];exact abf cs b bd x (dO lF bd c x) cs.length 0 (dQ lF x c).2 (fun j=>abe (by simp only at hN;omega) hb) hN i n hn
    · rw [List.getElem?_append_right (by omega)]at hn;rw [List.getElem?_append_right (by omega),hfl];have hi0:i -(bq b cs).length=0:=by
        by_cases h:i -(bq b cs).length=0
        · exact h
        · rw [List.getElem?_eq_none (by simp;omega)]at hn;cases hn
      rw [hi0]at hn⊢;cases hn;exact⟨_,rfl,ar6 hb x b cs _ (Eb lF cs b _ _ _ _ _ _) (by simp only at hN;omega)⟩
theorem abf {lF:List Str} {N:Nat}: ∀(cs:List Tm) (b:Nat) (bd:List Scope) (x y:Nd) (a j c:Nat),(∀j,GoodS lF N (bd++l9 x y a j))->(eH lF bd x y a j c cs).2<=N-> ∀(i:Nat) (n:Nd),(bq b cs)[i]? =some n-> ∃m,(bq b (eH lF bd x y a j c cs).1)[i]? =some m/\Out lF N n m
  |[],b,bd,x,y,a,j,c,hb,hN,i,n,hn=>by simp [bq]at hn
  |t::ts,b,bd,x,y,a,j,c,hb,hN,i,n,hn=>by
    rw [jG]at hN⊢;have hle:=uM lF ts bd x y a (j+1) (can lF (bd++l9 x y a j) c t).2;rw [iC]at hn⊢;have hfl:(flat b (can lF (bd++l9 x y a j) c t).1).length=(flat b t).length:=by rw [bT,bT,rA]
    by_cases hi:i<(flat b t).length
    · rw [List.getElem?_append_left hi]at hn;rw [List.getElem?_append_left (by omega)];exact adi t b _ c (hb j) (by simp only at hN;omega) i n hn
    · rw [List.getElem?_append_right (by omega)]at hn;rw [List.getElem?_append_right (by omega),hfl,rA];exact abf ts (b+t.size) bd x y a (j+1) _ hb hN _ n hn
end
theorem abg (a:Int): ∀(l m:List Nd) (k:Nat),l.map mg=m.map mg->xG a l k=xG a m k
  |[],[],k,h=>rfl
  |[],_::_,k,h=>by simp at h
  |_::_,[],k,h=>by simp at h
  |x::l,y::m,k,h=>by
    simp only [List.map_cons,List.cons.injEq]at h;have ha:x.args=y.args:=(show(mg x).args=(mg y).args from congrArg Nd.args h.1);rw [xG,xG,ha,abg a l m (k+1) h.2]
theorem Na {l m:List Nd} (h:l.map mg=m.map mg):l.length=m.length:=by
  have:=congrArg List.length h;simpa using this
theorem aji {l m:List Nd} (h:l.map mg=m.map mg) (i:Nat):VH l i=VH m i:=by
  unfold VH;rw [abg (i:Int) (l.drop (i+1)) (m.drop (i+1)) (i+1) (by rw [List.map_drop,List.map_drop,h])]
theorem ajj {l m:List Nd} (h:l.map mg=m.map mg):JI l=JI m:=by
  unfold JI;rw [Na h];exact List.map_congr_left fun i _=>aji h i
structure Yg (e a:List Nd):Prop where
  sk:e.map mg=a.map mg
  ok: ∀(i:Nat) n,a[i]? =some n->bO true n=0
  op: ∀(i:Nat) n m,e[i]? =some n->a[i]? =some m->n.kind=3->(dn eG n.text).2=(dn eG m.text).2
theorem R7: ∀(l m:List Nd) (acc acc':List Int),l.map mg=m.map mg->(∀(i:Nat) n,m[i]? =some n->bO true n=0)->jT acc l= .inl acc'->jT acc m= .inl acc'
  |[],[],acc,acc',_,_,h=>h
  |[],_::_,acc,acc',h,_,_=>by simp at h
  |_::_,[],acc,acc',h,_,_=>by simp at h
  |x::l,y::m,acc,acc',h,hok,hs=>by
    simp only [List.map_cons,List.cons.injEq]at h;have ha:x.args=y.args:=(show(mg x).args=(mg y).args from congrArg Nd.args h.1);rw [jT]at hs⊢;by_cases hc:bO (rT acc acc.length x.args.reverse) x=0
    · rw [if_neg (fun k=>k hc)]at hs;rw [<-ha,uI hc,if_neg (fun k=>k (hok 0 y rfl))];have hb:uQ acc x=uQ acc y:=by unfold uQ;rw [ha]
      rw [<-hb];exact R7 l m _ acc' h.2 (fun i n hn=>hok (i+1) n (by simpa using hn)) hs
    · rw [if_pos hc]at hs;cases hs
section
variable {e a:List Nd} (h:Yg e a)
include h
theorem Yg.get {i:Nat} {n:Nd} (hn:e[i]? =some n): ∃m,a[i]? =some m/\Go.VL.mg n=Go.VL.mg m:=by
  have h1:=congrArg (·[i]?) h.sk
  simp only [List.getElem?_map,hn,Option.map_some]at h1;cases h2:a[i]? with
  |none=>rw [h2]at h1;cases h1
  |some m=>rw [h2]at h1;exact⟨m,rfl,Option.some.inj h1⟩
theorem Yg.none {i:Nat} (hn:e[i]? =none):a[i]? =none:=by
  have:=Na h.sk;rw [List.getElem?_eq_none_iff]at hn⊢;omega
theorem aeT (U:List (Int×Int)): ∀(m i:Nat),BM e U m i=BM a U m i:=by
  intro m
  induction m with
  |zero=>intro i;rfl
  |succ m ih=>
    intro i;rw [BM,BM];cases U[i]? with
    |none=>rfl
    |some q=>
      obtain⟨P,j⟩:=q;simp only;by_cases hP:P<0
      · rw [if_pos hP,if_pos hP]
      · rw [if_neg hP,if_neg hP,ih];congr 2
        cases hn:e[P.toNat]? with
        |none=>rw [h.none hn]
        |some n=>
          obtain⟨m',h1,h2⟩:=h.get hn;rw [h1];have:n.kind=m'.kind:=show(Go.VL.mg n).kind=(Go.VL.mg m').kind from congrArg Nd.kind h2
          simp [this]
theorem acf (U:List (Int×Int)) (i:Nat):DZ e U i=DZ a U i:=by
  unfold DZ;cases hn:e[i]? with
  |none=>rw [h.none hn]
  |some n=>
    obtain⟨m,h1,h2⟩:=h.get hn;have hk:n.kind=m.kind:=show(Go.VL.mg n).kind=(Go.VL.mg m).kind from congrArg Nd.kind h2
    rw [h1];cases U[i]? with
    |none=>rfl
    |some q=>
      obtain⟨P,j⟩:=q;simp only;rw [hk,aeT h,Na h.sk];congr 2
      cases hn2:e[P.toNat]? with
      |none=>rw [h.none hn2]
      |some n2=>
        obtain⟨m2,h3,h4⟩:=h.get hn2;rw [h3];have hk2:n2.kind=m2.kind:=show(Go.VL.mg n2).kind=(Go.VL.mg m2).kind from congrArg Nd.kind h4
        simp only;rw [<-hk2];by_cases h5:n2.kind=3
        · rw [if_pos h5,if_pos h5,h.op _ _ _ hn2 h3 h5]
        · rw [if_neg h5,if_neg h5]
theorem acg (U:List (Int×Int)): ∀(m i:Nat),tK e U m i=tK a U m i:=by
  intro m
  induction m with
  |zero=>intro i;rfl
  |succ m ih=>intro i;rw [tK,tK,acf h,ih]
theorem ag3 (hc:(I7 e).2=0):(I7 a).2=0:=by
  have hlen:=Na h.sk;unfold I7 at hc⊢;by_cases h0:e.length=0
  · rw [if_pos h0]at hc;cases hc
  rw [if_neg h0]at hc;rw [if_neg (by omega)];by_cases h1:160<e.length
  · rw [if_pos h1]at hc;cases hc
  rw [if_neg h1]at hc;rw [if_neg (by omega)];cases hs:jT [] e with
  |inr p=>rw [hs]at hc;exact absurd hc (PE _ _ _ hs)
  |inl acc=>
    rw [hs]at hc;rw [R7 e a [] acc h.sk h.ok hs,<-ajj h.sk,<-acg h,<-hlen];simp only at hc⊢;cases hl:tK e (JI e) e.length 0 with
    |some j=>rw [hl]at hc;cases hc
    |none=>rw [hl]at hc;exact hc
end
end Go.VL
end
section
namespace Go.VL
open Go.Proofs Go.RowKit
theorem P7 (k:Nat) (e:List Nd) {c:Ck} {r:List Nd} (h:wK k e=some r):aF Tryz.prog 86 [.aB (e.map Nd.cells) c] (.aB (r.map Nd.cells) .unk):=agT h
theorem ag4 (k:Nat) (a b:List Nd) {c c2:Ck} {r:Bool} (h:FT k a b=some r):aF Tryz.prog 85 [.aB (a.map Nd.cells) c,.aB (b.map Nd.cells) c2] (.bool r):=ajh h
end Go.VL
end
section
set_option maxHeartbeats 4000000
namespace Go.VL
open Go.Proofs
def Nb (k:Nat) (a_0:List Nd) (b_1:List Nd):Option (Bool×Int):=
  Option.bind (nC k a_0) fun p2=>Option.bind (nC k b_1) fun p4=>Option.bind (gK k [p2,p4]) fun p6=>cond (p6 !=0) (some (false,p6)) (Option.bind (wK k a_0) fun p9=>Option.bind (wK k b_1) fun nJ=>Option.bind (FT k p9 nJ) fun uY=>some (uY,0))
theorem ag5 {k:Nat} {a_0:List Nd} {b_1:List Nd} {c0 c1:Ck} {r:Bool×Int} (h:Nb k a_0 b_1=some r):aF Tryz.prog 42 [(.aB (a_0.map Nd.cells) c0),(.aB (b_1.map Nd.cells) c1)] (.dJ [(.bool r.1),(.int .i64 r.2)]):=by
  refine aF.lw (.aB (.aB .nil)) (aF.aP (bg.mem (.cons (aV Nd.pu _) (.cons (aV Nd.pu _) .nil))) (aG avE (by simp) (aD ?_)) (.dJ _ (bg.mem (.cons (.bool _) (.cons (.int _ _) .nil)))));unfold Nb at h;unfold aop;obtain⟨p2,e1,h⟩:=aj h;try refine ah ?_
  refine aA (xZ e1) ?_;obtain⟨p4,e3,h⟩:=aj h;try refine ah ?_
  refine aA (xZ e3) ?_;obtain⟨p6,e5,h⟩:=aj h;try refine ah ?_
  refine aA (kM e5) ?_;rcases au h with⟨e7,h⟩|⟨e7,h⟩
  ·obtain rfl:=ak h;try refine ah ?_
   exact(cZ (.cons (.pure _ (.bool _)) (.cons (.pure _ (.int _ _)) .nil)))
  ·obtain⟨p9,e8,h⟩:=aj h;try refine ah ?_
   refine aA (P7 k a_0 e8) ?_;obtain⟨nJ,e10,h⟩:=aj h;try refine ah ?_
   refine aA (P7 k b_1 e10) ?_;obtain⟨uY,e12,h⟩:=aj h;try refine ah ?_
   refine aA (ag4 k p9 nJ e12) ?_;obtain rfl:=ak h;try refine ah ?_
   exact(cZ (.cons (.pure _ (.bool _)) (.cons (.pure _ (.int _ _)) .nil)))
def rD (k:Nat) (aH:List Nd):Option ((List Nd)×Int):=
  Option.bind (nC k aH) fun p2=>cond (p2 !=0) (some ([],p2)) (Option.bind (wK k aH) fun p5=>some (p5,0))
theorem Ku {k:Nat} {aH:List Nd} {c0:Ck} {r:(List Nd)×Int} (h:rD k aH=some r):aF Tryz.prog 44 [(.aB (aH.map Nd.cells) c0)] (.dJ [(.aB (r.1.map Nd.cells) .unk),(.int .i64 r.2)]):=by
  refine aF.lw (.aB .nil) (aF.aP (bg.mem (.cons (aV Nd.pu _) .nil)) (aG avG (by simp) (aD ?_)) (.dJ _ (bg.mem (.cons (aV Nd.pu _) (.cons (.int _ _) .nil)))));unfold rD at h;unfold aor;obtain⟨p2,e1,h⟩:=aj h;try refine ah ?_
  refine aA (xZ e1) ?_;rcases au h with⟨e3,h⟩|⟨e3,h⟩
  ·obtain rfl:=ak h;try refine ah ?_
   exact(cZ (.cons (d9 Nd.pu [] _) (.cons (.pure _ (.int _ _)) .nil)))
  ·obtain⟨p5,e4,h⟩:=aj h;try refine ah ?_
   refine aA (P7 k aH e4) ?_;obtain rfl:=ak h;try refine ah ?_
   exact(cZ (.cons (d9 Nd.pu _ _) (.cons (.pure _ (.int _ _)) .nil)))
def qP (Mw:List Nd) (abh:Bool):Option Bool:=
  cond abh (some (((Mw.length:Int)==0))) (some (false))
theorem JM: ∀(Mw:List Nd) (abh:Bool) (aC σ:Nat->PV) (H:AH) (f0:Fr [31,32,33,34] aC σ) (sl:σ 3=(.aB (Mw.map Nd.cells) .unk)/\σ 30=(.bool abh)) (o:Bool) (h:qP Mw abh=some o) (Q:Post) (q0: ∀(p:Bool) (σ':Nat->PV),o=p->Fr [31,32,33,34] aC σ'->(σ' 34=(.bool p))->Q .normal σ' H),dz Tryz.prog Sv (Q .normal) σ H:=by
  intro Mw abh aC σ H f0 sl o h Q q0;obtain⟨s3,s30⟩:=sl;unfold qP at h;refine eD ?_;unfold Sv;rcases au h with⟨e11,h⟩|⟨e11,h⟩
  ·obtain rfl:=ak h;try refine ah ?_
   exact q0 _ _ rfl aJ av
  ·obtain rfl:=ak h;try refine ah ?_
   exact q0 _ _ rfl aJ av
def qQ (k:Nat) (aH:List Nd) (Mw:List Nd) (EH:Bool):Option Bool:=
  cond EH (some (true)) (Option.bind (rC k aH) fun uj=>Option.bind (wM k Mw uj) fun Ip=>some ((!Ip)))
def Bn:List Nat:=[38,39,40,41,42,43]
theorem JN (k:Nat): ∀(aH:List Nd) (Mw:List Nd) (EH:Bool) (aC σ:Nat->PV) (H:AH) (f0:Fr Bn aC σ) (sl:σ 0=(.aB (aH.map Nd.cells) .unk)/\σ 3=(.aB (Mw.map Nd.cells) .unk)/\σ 37=(.bool EH)) (o:Bool) (h:qQ k aH Mw EH=some o) (Q:Post) (q0: ∀(p:Bool) (σ':Nat->PV),o=p->Fr Bn aC σ'->(σ' 43=(.bool p))->Q .normal σ' H),dz Tryz.prog Sw (Q .normal) σ H:=by
  intro aH Mw EH aC σ H f0 sl o h Q q0;obtain⟨s0,s3,s37⟩:=sl;unfold qQ at h;refine eD ?_;unfold Sw;rcases au h with⟨e19,h⟩|⟨e19,h⟩
  ·obtain rfl:=ak h;try refine ah ?_
   exact q0 _ _ rfl aJ av
  ·obtain⟨uj,e20,h⟩:=aj h;try refine ah ?_
   refine aA (X3 k aH e20) ?_;obtain⟨Ip,e22,h⟩:=aj h;try refine ah ?_
   refine aA (Lh e22) ?_;obtain rfl:=ak h;try refine ah ?_
   exact q0 _ _ rfl aJ av
def vv (k:Nat) (aH:List Nd):Option Bool:=
  Option.bind (QI k aH) fun p2=>cond p2 (Option.bind (y5 k aH) fun p5=>Option.bind (rD k p5) fun p7=>Option.bind (QH k aH) fun p9=>cond (p9 !=0) (Option.bind (qP p7.1 (p7.2==p9)) (fun jO=>some jO)) (Option.bind (qQ k aH p7.1 (p7.2 !=0)) (fun p26=>cond p26 (some false) (Option.bind (y5 k p7.1) fun p37=>Option.bind (Nb k p5 p37) fun p39=>Option.bind (FM k p37) fun p43=>Option.bind (rD k p37) fun p47=>cond (p39.2==0) (cond p39.1 (cond (p43.2==0) (Option.bind (tT k aH) fun p52=>Option.bind (pO k p43.1 p52) fun p54=>cond p54 (cond (p47.2==0) (Option.bind (wM k p47.1 p7.1) fun p58=>some p58) (some false)) (some false)) (some false)) (some false)) (some false))))) (some true)
theorem Np {k:Nat} {aH:List Nd} {c0:Ck} {r:Bool} (h:vv k aH=some r):aF Tryz.prog 11 [(.aB (aH.map Nd.cells) c0)] (.bool r):=by
  refine aF.lw (.aB .nil) (aF.aP (bg.mem (.cons (aV Nd.pu _) .nil)) (aG anV (by simp) (aD ?_)) (.bool _));unfold vv at h;unfold anU;try refine ah ?_
  refine aA (amE) ?_;obtain⟨p2,e1,h⟩:=aj h;try refine ah ?_
  refine aA (ami e1) ?_;rcases au h with⟨e3,h⟩|⟨e3,h⟩
  ·obtain⟨p5,e4,h⟩:=aj h;try refine ah ?_
   refine aA (xP e4) ?_;obtain⟨p7,e6,h⟩:=aj h;try refine ah ?_
   refine aA (Ku e6) ?_;obtain⟨p9,e8,h⟩:=aj h;try refine ah ?_
   refine aA (amh e8) ?_;rcases au h with⟨e10,h⟩|⟨e10,h⟩
   ·try refine ah ?_
    obtain⟨o12,K8,h⟩:=aj h;refine JM p7.1 (p7.2==p9) _ _ _ (Fr.refl _ _) av _ K8 _ ?_
    ·rintro jO σ' eo xE jE;rw [eo]at h;obtain rfl:=ak h;try refine ah ?_
     exact(.pure _ (.bool _))
   ·try refine ah ?_
    obtain⟨o24,h25,h⟩:=aj h;refine JN k aH p7.1 (p7.2 !=0) _ _ _ (Fr.refl _ _) av _ h25 _ ?_
    ·rintro p26 σ' eo EM s30;rw [eo]at h;have s31:σ' 0=(.aB (aH.map Nd.cells) .unk):=(EM 0 (by decide)).trans av;have s32:σ' 3=(.aB (p7.1.map Nd.cells) .unk):=(EM 3 (by decide)).trans av;rcases au h with⟨e33,h⟩|⟨e33,h⟩
     ·obtain rfl:=ak h;try refine ah ?_
      exact(.pure _ (.bool _))
     ·try refine ah ?_
      refine aA (xP e4) ?_;obtain⟨p37,e36,h⟩:=aj h;try refine ah ?_
      refine aA (xP e36) ?_;obtain⟨p39,e38,h⟩:=aj h;try refine ah ?_
      refine aA (ag5 e38) ?_;try refine ah ?_
      refine aA (xP e36) ?_;obtain⟨p43,e42,h⟩:=aj h;try refine ah ?_
      refine aA (RI e42) ?_;try refine ah ?_
      refine aA (xP e36) ?_;obtain⟨p47,e46,h⟩:=aj h;try refine ah ?_
      refine aA (Ku e46) ?_;rcases au h with⟨e48,h⟩|⟨e48,h⟩
      ·rcases au h with⟨e49,h⟩|⟨e49,h⟩
       ·rcases au h with⟨e50,h⟩|⟨e50,h⟩
        ·obtain⟨p52,e51,h⟩:=aj h;try refine ah ?_
         refine aA (Rf e51) ?_;obtain⟨p54,e53,h⟩:=aj h;try refine ah ?_
         refine aA (Bz e53) ?_;rcases au h with⟨e55,h⟩|⟨e55,h⟩
         ·rcases au h with⟨e56,h⟩|⟨e56,h⟩
          ·obtain⟨p58,e57,h⟩:=aj h;try refine ah ?_
           refine aA (Lh e57) ?_;obtain rfl:=ak h;try refine ah ?_
           exact(.pure _ (.bool _))
          ·obtain rfl:=ak h;try refine ah ?_
           exact(.pure _ (.bool _))
         ·obtain rfl:=ak h;try refine ah ?_
          exact(.pure _ (.bool _))
        ·obtain rfl:=ak h;try refine ah ?_
         exact(.pure _ (.bool _))
       ·obtain rfl:=ak h;try refine ah ?_
        exact(.pure _ (.bool _))
      ·obtain rfl:=ak h;try refine ah ?_
       exact(.pure _ (.bool _))
  ·obtain rfl:=ak h;try refine ah ?_
   exact(.pure _ (.bool _))
end Go.VL
end
section
namespace Go.VL
open Tm
theorem Xk {lF:List Str} {N:Nat}:GoodS lF N []:=fun s hs=>by cases hs
section
variable {e:List Nd} {t:Tm} (he:e=flat 0 t) {lF:List Str} (hl:lF.length<=1000)
include he hl
theorem Nc (hF:rz e) {i:Nat} {m:Nd} (hm:(flat 0 (can lF [] 0 t).1)[i]? =some m): ∃n,e[i]? =some n/\Out lF 9000 n m:=by
  have hi:=(List.getElem?_eq_some_iff.1 hm).1;rw [bT,rA]at hi;have hi':i<e.length:=by rw [he,bT];exact hi
  obtain⟨m',h1,h2⟩:=adi t 0 [] 0 Xk (Nat.le_trans (Nat.le_add_right _ _) (GQ hF he lF hl)) i e[i] (by rw [<-he];exact bI hi');rw [hm]at h1;cases h1;exact⟨e[i],bI hi',h2⟩
theorem ajk (hF:rz e) (hL:nk e):nk (flat 0 (can lF [] 0 t).1):=by
  refine⟨by rw [bT,rA,<-bT 0,<-he];exact hL.len,fun i m hm=> ?_⟩;obtain⟨n,hn,ho⟩:=Nc he hl hF hm;obtain⟨h1,h2,h3⟩:=hL.nd i n hn;obtain⟨_,_,a3,a4⟩:=M8 ho.sk;refine⟨?_,by omega,by rw [a3];exact h3⟩;rcases ho.tx with h|⟨k,h4,h5,_⟩
  · rw [h];exact h1
  · rw [h4];have:=agD (n:=k) (by omega);omega
end
theorem ajl {e:List Nd} (hL:nk e) (hF:rz e) (hV:Valid e): ∃t lF,e=flat 0 t/\lF.length<=1000/\Ev (fun k=>qJ k e) lF/\Ev (fun k=>tT k e) lF/\Ev (fun k=>wK k e) (flat 0 (can lF [] 0 t).1)/\Ev (fun k=>rC k e) (flat 0 (can lF [] 0 t).1):=by
  obtain⟨t,he⟩:=hV.tree;obtain⟨lF,h1,h2,h3⟩:=agx hV hL hF;exact⟨t,lF,he,h3,h1,h2,Xc hF he h1 h3,VT hF hL he h2 h3⟩
theorem ajm {n:Nat} {c:UInt8} (hc:c∈bN n):ni c=true:=by
  rw [Bd]at hc;rcases List.mem_cons.1 hc with rfl|hc
  · decide
  · rcases List.mem_cons.1 hc with rfl|hc
    · decide
    · have:=aaC n n (Nat.le_refl _) c hc;unfold ni Ce;simp [this]
theorem atK:J4.all (fun s=> !decide (s.head? =some 98))=true:=by kernel_rfl
theorem Nf {n:Nat} (h:n<=9000):rName (bN n)=true:=by
  have hl:=agD (n:=n) (by omega);have hr:bN n∉J4:=fun hm=>by
    have:=List.all_eq_true.1 atK _ hm;rw [Bd]at this;simp at this
  have hall:(bN n).all ni=true:=List.all_eq_true.2 fun c hc=>ajm hc;have hany:(bN n).any isLet=true:=by rw [Bd];rfl
  have h1:1<=(bN n).length:=by rw [Bd];simp
  have hb:bName (bN n)=true:=by
    unfold bName;rw [hall,hany,decide_eq_true (show 1<=(bN n).length/\(bN n).length<=24 by omega),decide_eq_false hr];rfl
  have hf:oh (bN n)=false:=by rw [Bd];unfold oh;simp
  have hw:NZ (bN n)=false:=by rw [Bd];unfold NZ;simp
  unfold rName;rw [hb,hf,hw];rfl
theorem R8: ∀(l acc:List Str),l.Nodup->(∀s∈l,s∉acc)->pQ acc l=false
  |[],acc,_,_=>rfl
  |s::l,acc,h,ha=>by
    obtain⟨h1,h2⟩:=List.nodup_cons.1 h;rw [pQ,Bool.or_eq_false_iff,decide_eq_false_iff_not];refine⟨ha s List.mem_cons_self,R8 l _ h2 fun t ht hm=> ?_⟩;rcases List.mem_append.1 hm with h3|h3
    · exact ha t (List.mem_cons_of_mem _ ht) h3
    · rw [List.mem_singleton.1 h3]at ht;exact h1 ht
theorem ag6 {lF:List Str} {N:Nat} {n m:Nd} (h:Out lF N n m) (hN:N<=9000) (hk:n.kind=3):(dn eG n.text).2=(dn eG m.text).2:=by
  by_cases e:m.text=n.text
  · rw [e]
  · have hb:=h.nb e;rcases h.tx with h1|⟨k,h1,h2,_⟩
    · exact absurd h1 e
    · rw [h1,VI (Nf (by omega))];rcases Hw hb with⟨h3,_⟩|⟨_,h4⟩
      · omega
      · exact h4
theorem ajn {lF:List Str} {N:Nat} {n m:Nd} (h:Out lF N n m) (hN:N<=9000) (h0:bO true n=0):bO true m=0:=by
  obtain⟨s1,s2,s3,s4⟩:=M8 h.sk;have hop:=ag6 h hN;have hnd:=R4 h0;unfold bO at h0
  split at h0;·cases h0
  rename_i c1
  split at h0;·cases h0
  rename_i c2
  split at h0;·cases h0
  rename_i c3
  split at h0;·cases h0
  rename_i c4;split at h0
  · rename_i c5;exact absurd h0 c5
  rename_i c5;have c5:mE n=0:=by simpa using c5
  have hsh:mD m=mD n:=by
    unfold mD;simp only [s1,s3,s4];by_cases hk:n.kind=3
    · rw [hop hk]
    · simp [hk]
  have htx:m.text=n.text\/(n.kind=2\/n.kind=3)/\rName m.text=true:=by
    by_cases e:m.text=n.text
    · exact .inl e
    · right;rcases h.tx with h1|⟨k,h1,h2,_⟩
      · exact absurd h1 e
      · refine⟨?_,by rw [h1];exact Nf (by omega)⟩;rcases Hw (h.nb e)with⟨h3,_⟩|⟨h3,_⟩
        · exact .inl h3
        · exact .inr h3
  have hcl:kU n=true->kU m=true:=by
    unfold kU;rw [s1,s2];rcases htx with e|⟨hk,_⟩
    · rw [e];exact id
    · intro hc;simp only [Bool.and_eq_true,Bool.or_eq_true,decide_eq_true_eq,Bool.not_eq_true',decide_eq_false_iff_not]at hc⊢;refine⟨⟨⟨?_,hc.1.1.2⟩,hc.1.2⟩,?_⟩
      · rcases hk with hk|hk<;>simp [hk]
      · left;omega
  have hall:m.names.all rName=true:=by
    have:n.names.all rName=true:=by
      unfold mE at c5;split at c5
      · cases c5
      · rename_i q;simpa using q
    by_cases hk:n.kind=16\/n.kind=17
    · rw [h.fx hk];exact this
    · refine List.all_eq_true.2 fun s hs=> ?_;obtain⟨k,h1,h2,_⟩:=(h.nm hk).2 s hs;rw [h1];exact Nf (by omega)
  have hne:mE m=0:=by
    unfold mE at c5⊢;rw [hall,s1,s3]
    split at c5;·cases c5
    rw [if_neg (by simp)];rcases htx with e|⟨hk,hn⟩
    · rw [e];exact c5
    · rcases hk with hk|hk
      · rw [if_pos hk,Mi hn];rfl
      · have h3:(dn eG m.text).2=false:=VI hn;rw [if_neg (by omega),if_neg (by omega),if_pos hk,Mi hn,h3];rfl
  have hdp:pQ [] m.names=false:=by
    refine R8 _ _ ?_ (fun s _ hm=>by cases hm);by_cases hk:n.kind=16\/n.kind=17
    · rw [h.fx hk];exact hnd
    · exact(h.nm hk).1
  unfold bO;rw [s1,s2,hsh,hne,hdp];rw [if_neg c1,if_neg c2,if_neg ?_,if_neg c4,if_neg (by simp),if_neg (by simp)];intro hf;have c3:kU n=true:=by simpa using c3
  rw [hcl c3]at hf;cases hf
mutual
def Ct (bd:List Str):Tm->List Str
  | .mk x cs=>(if(fB x&& !decide (x.text∈bd))=true then [x.text]else [])++sD bd x cs.length 0 cs
def sD (bd:List Str) (x:Nd) (a j:Nat):List Tm->List Str
  |[]=>[]
  |t::ts=>Ct (bd++dS (gU x.kind x.n a j) x.names) t++sD bd x a (j+1) ts
end
theorem P8 {bd:List Str} {x:Nd} {cs:List Tm}:Ct bd (.mk x cs)=(if(fB x&& !decide (x.text∈bd))=true then [x.text]else [])++sD bd x cs.length 0 cs:=by rw [Ct]
theorem HZ {bd:List Str} {x:Nd} {a j:Nat} {t:Tm} {ts:List Tm}:sD bd x a j (t::ts)=Ct (bd++dS (gU x.kind x.n a j) x.names) t++sD bd x a (j+1) ts:=by rw [sD]
section
variable {e:List Nd} (hF:rz e)
include hF
mutual
theorem abj: ∀(t:Tm) (b:Nat) (bd:List Str),Seg e b t->(vis b bd t).filterMap (jX e)=Ct bd t
  | .mk x cs,b,bd,hS=>by
    have hn:=hS.node;rw [I4,P8,List.filterMap_cons];have h1:jX e (b+sizes cs,bd)=if(fB x&& !decide (x.text∈bd))=true then some x.text else none:=by
      unfold jX;simp only [hn];rfl
    have h2:=Xl cs x [] b bd hS;simp only [List.nil_append,List.length_nil]at h2;rw [show sizes ([]:List Tm)=0 from rfl,Nat.add_zero]at h2;rw [h1,h2];split
    · rename_i h;split at h
      · cases h
      · rename_i q;rw [if_neg q];rfl
    · rename_i h;split at h
      · rename_i q;cases h;rw [if_pos q];rfl
      · cases h
theorem Xl: ∀(cs:List Tm) (x:Nd) (l:List Tm) (b:Nat) (bd:List Str),Seg e b (.mk x (l++cs))->(wI (b+sizes l) bd (nd x b (l++cs)) l.length cs).filterMap (jX e)=sD bd x (l++cs).length l.length cs
  |[],x,l,b,bd,hS=>by rw [wI,sD];rfl
  |t::cs,x,l,b,bd,hS=>by
    have e1:l++t::cs=(l++[t])++cs:=by simp
    have e2:l.length+1=(l++[t]).length:=by simp
    have e3:b+sizes l+t.size=b+sizes (l++[t]):=by rw [dG,nD];omega
    have hb:rF (nd x b (l++t::cs)) l.length=dS (gU x.kind x.n (l++t::cs).length l.length) x.names:=by
      rw [W9 (VN hF hS.node)];show dS (gU x.kind x.n (roots b (l++t::cs)).length l.length) x.names=_
      rw [jg]
    rw [ze,HZ,List.filterMap_append,hb,abj t (b+sizes l) _ hS.kid];have h2:=Xl cs x (l++[t]) b bd (by rw [<-e1];exact hS);rw [<-e1,<-e2,<-e3]at h2;rw [h2]
end
end
theorem amY {lF:List Str} {bd:List Scope} {x:Nd} {a j c:Nat}:(l9 x (dO lF bd c x) a j).map (·.old)=dS (gU x.kind x.n a j) x.names:=by
  unfold l9;rw [List.map_zipWith];have hl:(dS (gU x.kind x.n a j) x.names).length=(dS (gU x.kind x.n a j) (dO lF bd c x).names).length:=C8 _ (ug lF x c).symm;refine List.ext_getElem (by rw [List.length_zipWith];omega) fun i h1 h2=> ?_;rw [List.getElem_zipWith]
theorem amZ {lF:List Str} {bd:List Scope} {x:Nd} {a j c:Nat}:(l9 x (dO lF bd c x) a j).map (·.new)=dS (gU x.kind x.n a j) (dO lF bd c x).names:=by
  unfold l9;rw [List.map_zipWith];have hl:(dS (gU x.kind x.n a j) x.names).length=(dS (gU x.kind x.n a j) (dO lF bd c x).names).length:=C8 _ (ug lF x c).symm;refine List.ext_getElem (by rw [List.length_zipWith];omega) fun i h1 h2=> ?_;rw [List.getElem_zipWith]
theorem Xm: ∀(bd:List Scope) (t:Str),t∈bd.map (·.old)-> ∃s∈bd,s.old=t/\iY bd t=s.new
  |[],t,h=>by cases h
  |s::bd,t,h=>by
    rw [iY];by_cases ha:(bd.any fun s=>decide (s.old=t))=true
    · rw [if_pos ha]
      have:t∈bd.map (·.old):=by
        obtain⟨s1,h1,h2⟩:=List.any_eq_true.1 ha;exact List.mem_map.2 ⟨s1,h1,by simpa using h2⟩
      obtain⟨s1,h1,h2,h3⟩:=Xm bd t this;exact⟨s1,List.mem_cons_of_mem _ h1,h2,h3⟩
    · rw [if_neg ha];by_cases h2:s.old=t
      · rw [if_pos h2];exact⟨s,List.mem_cons_self,h2,rfl⟩
      · rw [List.map_cons]at h;rcases List.mem_cons.1 h with h3|h3
        · exact absurd h3.symm h2
        · obtain⟨s1,h4,h5⟩:=List.mem_map.1 h3;exact absurd (List.any_eq_true.2 ⟨s1,h4,by simpa using h5⟩) ha
theorem ajo {x:Nd} {k:Nat} (hk:k<=9000) (h:fB x=true) (y:Nd) (h1:y.kind=x.kind) (h2:y.text=bN k):fB y=true:=by
  have hr:=Nf hk;unfold fB;rw [h1,h2,amH hr,VI hr];rcases Hw h with⟨h3,_⟩|⟨h3,_⟩<;>simp [h3]
theorem ag7 {lF:List Str} {N:Nat} {bd:List Scope} (hb:GoodS lF N bd) (hN:N<=9000) (c:Nat) (x:Nd):fB (dO lF bd c x)=fB x:=by
  by_cases e:qO bd x=x.text
  · unfold fB dO;simp only [e]
  · have h:=(M9 hb x).2 e;rw [h];rcases(M9 hb x).1 with h1|⟨k,h1,h2,_⟩
    · exact absurd h1 e
    · exact ajo (by omega) h _ rfl h1
section
variable {lF:List Str} {N:Nat} (hN:N<=9000)
include hN
mutual
theorem abk: ∀(t:Tm) (bd:List Scope) (c:Nat),GoodS lF N bd->(can lF bd c t).2<=N->(∀s∈Ct (bd.map (·.old)) t,s∈lF)->Ct (bd.map (·.new)) (can lF bd c t).1=Ct (bd.map (·.old)) t
  | .mk x cs,bd,c,hb,hc,hf=>by
    rw [yx]at hc⊢;rw [P8]at hf⊢;rw [P8,JL];have hle:=uM lF cs bd x (dO lF bd c x) cs.length 0 (dQ lF x c).2;rw [Xn cs bd x c cs.length 0 (dQ lF x c).2 hb (by simp only at hc;omega) hc (fun s hs=>hf s (List.mem_append_right _ hs))];congr 1
    rw [ag7 hb hN];cases hn:fB x with
    |false=>simp
    |true=>
      have ht:(dO lF bd c x).text=iY bd x.text:=by show qO bd x=_;unfold qO;rw [if_pos hn]
      rw [ht]
      by_cases hm:x.text∈bd.map (·.old)
      · obtain⟨s,h1,h2,h3⟩:=Xm bd x.text hm
        have hin:iY bd x.text∈bd.map (·.new):=by rw [h3];exact List.mem_map.2 ⟨s,h1,rfl⟩
        simp [hm,hin]
      · have hl:iY bd x.text=x.text:=by
          rcases Cr bd x.text with h|⟨s,h1,h2,_⟩
          · exact h
          · exact absurd (List.mem_map.2 ⟨s,h1,h2⟩) hm
        have hin:x.text∈lF:=hf _ (List.mem_append_left _ (by simp [hn,hm]))
        have hno:x.text∉bd.map (·.new):=fun h=>by
          obtain⟨s,h1,h2⟩:=List.mem_map.1 h;obtain⟨k,h3,_,h4⟩:=hb s h1;exact h4 (by rw [<-h3,h2];exact hin)
        rw [hl];simp [hm,hno]
theorem Xn: ∀(cs:List Tm) (bd:List Scope) (x:Nd) (c0 a j c:Nat),GoodS lF N bd->(dQ lF x c0).2<=N->(eH lF bd x (dO lF bd c0 x) a j c cs).2<=N->(∀s∈sD (bd.map (·.old)) x a j cs,s∈lF)->sD (bd.map (·.new)) (dO lF bd c0 x) a j (eH lF bd x (dO lF bd c0 x) a j c cs).1=sD (bd.map (·.old)) x a j cs
  |[],bd,x,c0,a,j,c,hb,hx,hc,hf=>by rw [eH,sD,sD]
  |t::ts,bd,x,c0,a,j,c,hb,hx,hc,hf=>by
    rw [jG]at hc⊢;rw [HZ]at hf⊢;rw [HZ];have hle:=uM lF ts bd x (dO lF bd c0 x) a (j+1) (can lF (bd++l9 x (dO lF bd c0 x) a j) c t).2
    have ho:bd.map (·.old)++dS (gU x.kind x.n a j) x.names=(bd++l9 x (dO lF bd c0 x) a j).map (·.old):=by rw [List.map_append,amY]
    have hn:bd.map (·.new)++dS (gU (dO lF bd c0 x).kind (dO lF bd c0 x).n a j) (dO lF bd c0 x).names=(bd++l9 x (dO lF bd c0 x) a j).map (·.new):=by rw [List.map_append,amZ];rfl
    rw [ho]at hf⊢;rw [hn,abk t _ c (abe hx hb) (by simp only at hc;omega) (fun s hs=>hf s (List.mem_append_left _ hs)),Xn ts bd x c0 a (j+1) _ hb hx hc (fun s hs=>hf s (List.mem_append_right _ hs))]
end
end
def Kv (s:Scope):Scope:=⟨s.new,s.new⟩
theorem ajp (bd:List Scope) (t:Str):iY (bd.map Kv) t=t:=by
  rcases Cr (bd.map Kv) t with h|⟨s,h1,h2,h3⟩
  · exact h
  · obtain⟨s0,_,rfl⟩:=List.mem_map.1 h1;rw [h3];exact h2
theorem ar7 (lF:List Str) (bd:List Scope) (c:Nat) (x:Nd):dO lF (bd.map Kv) c (dO lF bd c x)=dO lF bd c x/\dQ lF (dO lF bd c x) c=dQ lF x c:=by
  have h1:dQ lF (dO lF bd c x) c=dQ lF x c:=by
    by_cases hk:x.kind=16\/x.kind=17
    · have:(dO lF bd c x).names=x.names:=by unfold dO dQ;simp only;rw [if_pos hk]
      unfold dQ;rw [if_pos hk,if_pos (show(dO lF bd c x).kind=16\/(dO lF bd c x).kind=17 from hk),this]
    · have hl:(dO lF bd c x).names.length=x.names.length:=ug lF x c;unfold dQ;rw [if_neg hk,if_neg (show ¬((dO lF bd c x).kind=16\/(dO lF bd c x).kind=17)from hk),hl]
  refine⟨?_,h1⟩;have h2:qO (bd.map Kv) (dO lF bd c x)=(dO lF bd c x).text:=by
    unfold qO;split
    · exact ajp bd _
    · rfl
  show({dO lF bd c x with text:=qO (bd.map Kv) (dO lF bd c x),names:=(dQ lF (dO lF bd c x) c).1}:Nd)=_
  rw [h2,h1];rfl
theorem ar8 {lF:List Str} {bd:List Scope} {x:Nd} {a j c:Nat}:l9 (dO lF bd c x) (dO lF bd c x) a j=(l9 x (dO lF bd c x) a j).map Kv:=by
  have hl:(dS (gU x.kind x.n a j) x.names).length=(dS (gU x.kind x.n a j) (dO lF bd c x).names).length:=C8 _ (ug lF x c).symm;show List.zipWith Scope.mk (dS (gU x.kind x.n a j) (dO lF bd c x).names) (dS (gU x.kind x.n a j) (dO lF bd c x).names)=(List.zipWith Scope.mk (dS (gU x.kind x.n a j) x.names) (dS (gU x.kind x.n a j) (dO lF bd c x).names)).map Kv
  refine List.ext_getElem (by simp;omega) fun i h1 h2=> ?_;simp [Kv]
mutual
theorem ag8 (lF:List Str): ∀(t:Tm) (bd:List Scope) (c:Nat),can lF (bd.map Kv) c (can lF bd c t).1=can lF bd c t
  | .mk x cs,bd,c=>by
    obtain⟨h1,h2⟩:=ar7 lF bd c x;rw [yx,yx,h1,h2,JL,adj lF cs bd x c cs.length 0 (dQ lF x c).2]
theorem adj (lF:List Str): ∀(cs:List Tm) (bd:List Scope) (x:Nd) (c0 a j c:Nat),eH lF (bd.map Kv) (dO lF bd c0 x) (dO lF bd c0 x) a j c (eH lF bd x (dO lF bd c0 x) a j c cs).1=eH lF bd x (dO lF bd c0 x) a j c cs
  |[],bd,x,c0,a,j,c=>by rw [eH,eH]
  |t::ts,bd,x,c0,a,j,c=>by
    have hs:bd.map Kv++l9 (dO lF bd c0 x) (dO lF bd c0 x) a j=(bd++l9 x (dO lF bd c0 x) a j).map Kv:=by rw [ar8,List.map_append]
    rw [jG,jG,hs,ag8 lF t,adj lF ts bd x c0 a (j+1)]
end
theorem ajq {e:List Nd} (hV:Valid e) (hL:nk e) (hF:rz e) {t:Tm} (he:e=flat 0 t):Vis e (vis 0 [] t):=by
  have hlen:=hF.len;have hs:=t.size_pos;have hsz:e.length=t.size:=by rw [he,bT]
  have hS:Seg e 0 t:=by rw [he];exact Seg.whole t
  have hw:IntKind.wrap .i64 ((e.length:Int) -1)=((0+t.size -1:Nat):Int):=by rw [wrap64 (by omega) (by omega)];omega
  refine⟨fun α step k a hk=> ?_,?_,fun i hi=>Vt t 0 [] i (Nat.zero_le _) (by omega),fun v hv s hs=> ?_,by rw [Vu,hsz],by omega⟩
  · rw [hw];exact PI hF step t 0 [] k a hS (by omega) (by simp only [List.length_nil];omega)
  · refine L9 he hL hF t 0 [] hS ?_ (by simp only [List.length_nil];omega);rw [Nat.zero_add];exact ac3 he hL hF
  · rcases WM t 0 [] hS v hv s hs with h|h
    · cases h
    · exact h
theorem Xo {e:List Nd} (hV:Valid e) (hL:nk e) (hF:rz e) {t:Tm} (he:e=flat 0 t):Ev (fun k=>qJ k e) (Dq (Ct [] t)):=by
  have:=amG (ajq hV hL hF he) hF
  rwa [abj hF t 0 [] (by rw [he];exact Seg.whole t)]at this
section
variable {e:List Nd} (hV:Valid e) (hL:nk e) (hF:rz e) {t:Tm} (he:e=flat 0 t) {lF:List Str} (hl:lF.length<=1000)
include hV hL hF he hl
theorem abl: ∀(i:Nat) m,(flat 0 (can lF [] 0 t).1)[i]? =some m->bO true m=0:=fun i m hm=>by
  obtain⟨n,hn,ho⟩:=Nc he hl hF hm;exact ajn ho (Nat.le_refl _) (hF.ok i n hn)
theorem ajr:rz (flat 0 (can lF [] 0 t).1):=by
  refine⟨by rw [bT,rA,<-bT 0,<-he];exact hF.len,abl hV hL hF he hl,fun i m hm=> ?_⟩;obtain⟨n,hn,ho⟩:=Nc he hl hF hm;obtain⟨_,_,a3,a4⟩:=M8 ho.sk;rw [a3,a4];exact hF.few i n hn
theorem ag9:Valid (flat 0 (can lF [] 0 t).1):=⟨⟨_,rfl⟩,by rw [bT,rA,<-bT 0,<-he];exact hV.len,abl hV hL hF he hl⟩
theorem aha:Yg e (flat 0 (can lF [] 0 t).1):=by
  refine⟨by rw [he,aa8],abl hV hL hF he hl,fun i n m hn hm hk=> ?_⟩;obtain⟨n',hn',ho⟩:=Nc he hl hF hm;rw [hn]at hn';cases hn';exact ag6 ho (Nat.le_refl _) hk
end
theorem Mx (e:List Nd):Ev (fun k=>vv k e) true:=by
  unfold vv;refine Ev.bind (aiQ e) ?_;cases hf:PS e with
  |false=>exact Ev.cF rfl Ev.some
  |true=>
  have hL:=aiR hf;have hc:=Oc hL;obtain⟨r,hct,hcr,hv⟩:=aex e hL;obtain rfl:=hct.uniq hc;have aeU:Ev (fun k=>nC k e) (I7 e).2:=by unfold nC;exact Ev.bind hc Ev.some
  have alj:Ev (fun k=>QH k e) (I7 e).2:=by unfold QH;exact Ev.bind hcr Ev.some
  refine Ev.cT rfl (Ev.bind (Mc hL) ?_);by_cases h0:(I7 e).2=0
  case neg=>
    have hne:((I7 e).2 !=0)=true:=by rw [bne_iff_ne];exact h0
    refine Ev.bind (x:=([],(I7 e).2)) (by unfold rD;exact Ev.bind aeU (Ev.cT hne Ev.some)) (Ev.bind alj (Ev.cT hne (Ev.lY (x:=true) ?_ Ev.some)));unfold qP;simp
  have hne:((I7 e).2 !=0)=false:=by rw [h0];rfl
  have hV:=hv h0;have hF:=ai5 hf hV;obtain⟨t,lF,he,hl,f1,f2,f3,f4⟩:=ajl hL hF hV;have hleft:lF=Dq (Ct [] t):=f1.uniq (Xo hV hL hF he);have hLa:=ajk he hl hF hL;have hFa:=ajr hV hL hF he hl;have hVa:=ag9 hV hL hF he hl;have hca:(I7 (flat 0 (can lF [] 0 t).1)).2=0:=ag3 (aha hV hL hF he hl) h0;have abn:Ev (fun k=>nC k (flat 0 (can lF [] 0 t).1)) 0:=by
    unfold nC;exact Ev.bind (Oc hLa) (Ev.some' hca)
  have hfa:Ev (fun k=>qJ k (flat 0 (can lF [] 0 t).1)) lF:=by
    have h1:=Xo hVa hLa hFa rfl;have h2:=abk (lF:=lF) (N:=9000) (Nat.le_refl _) t [] 0 Xk (Nat.le_trans (Nat.le_add_right _ _) (GQ hF he lF hl)) (fun s hs=>by
      rw [hleft,PN];exact hs)
    simp only [List.map_nil]at h2;rw [h2,<-hleft]at h1;exact h1
  have hcan:Ev (fun k=>wK k (flat 0 (can lF [] 0 t).1)) (flat 0 (can lF [] 0 t).1):=by
    have h1:=Xc hFa rfl hfa hl;have h2:=ag8 lF t [] 0;simp only [List.map_nil]at h2;rw [h2]at h1;exact h1
  generalize flat 0 (can lF [] 0 t).1=a at*;have hsame:Ev (fun k=>FT k a a) true:=(ag2 a a hLa.len (fun n hn=>by
    obtain⟨i,hi⟩:=List.mem_iff_getElem?.1 hn;exact(hLa.nd i n hi).2)).to (by simp)
  have hz: ∀{α:Type} (x y:α),cond ((0:Int) !=0) x y=y:=fun _ _=>rfl;refine Ev.bind (x:=(a,0)) (by unfold rD;exact Ev.bind aeU (Ev.cF hne (Ev.bind f3 Ev.some))) (Ev.bind alj (Ev.cF hne ?_));refine Ev.bind (x:=false) (by unfold qQ;exact Ev.cF rfl (Ev.bind f4 (Ev.bind (Kr hLa) (Ev.some' (by simp))))) (Ev.cF rfl ?_);refine Ev.bind (Mc hLa) ?_;have ax9:IW [(I7 e).2,0]=0:=by rw [h0];rfl
  refine Ev.bind (x:=(true,0)) (by unfold Nb;exact Ev.bind aeU (Ev.bind abn (Ev.bind (wW _ (by simp)) (Ev.cF (by rw [ax9];rfl) (Ev.bind f3 (Ev.bind hcan (Ev.bind hsame Ev.some))))))) ?_;refine Ev.bind (x:=(lF,0)) (by unfold FM;exact Ev.bind abn (Ev.cF rfl (Ev.bind hfa Ev.some))) ?_;refine Ev.bind (x:=(a,0)) (by unfold rD;exact Ev.bind abn (Ev.cF rfl (Ev.bind hcan Ev.some))) ?_;exact Ev.cT rfl (Ev.cT rfl (Ev.cT rfl (Ev.bind f2 (Ev.bind (Gn lF lF (by omega)) (Ev.cT (by simp) (Ev.cT rfl (Ev.bind (Kr hLa) (Ev.some' (by simp)))))))))
end Go.VL
end
