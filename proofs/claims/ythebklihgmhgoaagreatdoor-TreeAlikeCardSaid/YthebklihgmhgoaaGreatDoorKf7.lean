/- Part 7 of the proof: what the theorem rests on. -/
import Derived.Test.YthebklihgmhgoaaGreatDoorKf6
set_option linter.unusedVariables false
set_option linter.unusedSectionVars false
set_option linter.unusedSimpArgs false
section
set_option maxRecDepth 8000
namespace Go.VL
open Go.Proofs Go.RowKit
theorem HF.up {M M':List Nat} {H H':AH} (h:HF M H H') (hs: ∀a∈M,a∈M'):HF M' H H':=⟨h.1,fun a ha hm=>h.2 a ha fun h=>hm (hs a h)⟩
theorem HF.tr {M:List Nat} {H H' gY:AH} (h:HF M H H') (h':HF M H' gY):HF M H gY:=⟨Nat.le_trans h.1 h'.1,fun a ha hm=>(h'.2 a (Nat.lt_of_lt_of_le ha h.1) hm).trans (h.2 a ha hm)⟩
section
variable {l:List (Nd×NV)} {v:PV} {id o lo:Nat} {left:List Str} {cl:Ck} {i:Nat} {n:Nd} {y:NV} {F q:Nat} {ns:List Str} {c':Int} {Q:Post}
theorem abo (hx:(l[i]?).map (·.2)=some y) (Gm:q∉kH l id o) (hnl:n.names.length<=1000000): ∀(m k:Nat) (done:List Str) (c:Int) (ns:List Str) (σ:Nat->PV) (H:AH),done.length=k->k+m=n.names.length->Fb left F m c=some (ns,c')->
    jZ H (l.set i ({n with names:=done++n.names.drop k},y)) v id o lo left cl c->σ 0= .ref o 0->σ 6= .ref q 0->σ 60= .int .i64 n.names.length->σ 61= .int .i64 k->q<H.next->H.obj q=some [.ref id (i*5)]->
    (∀σ' H',(∀j,j≠10->j<61\/72<j->σ' j=σ j)->jZ H' (l.set i ({n with names:=done++ns},y)) v id o lo left cl c'->HF (o::y.ids) H H'->H'.obj q=some [.ref id (i*5)]->Q (.exit 2) σ' H')->W Tryz.prog (.loop IU) Q σ H:=by
  obtain⟨hi,hy⟩:i<l.length/\(l[i]?).map (·.2)=some y:=by
    refine⟨?_,hx⟩;by_cases h:i<l.length
    · exact h
    · rw [List.getElem?_eq_none (by omega)]at hx;cases hx
  have hqo:q≠o:=fun e=>Gm (by rw [e];exact List.mem_cons_self);have hqi:q≠id:=fun e=>Gm (by rw [e];exact List.mem_cons_of_mem _ List.mem_cons_self);have hqy:q∉y.ids:=by
    intro hm;obtain⟨x0,e0,e1⟩: ∃x0,l[i]? =some x0/\x0.2=y:=by
      cases h:l[i]? with
      |none=>rw [h]at hx;cases hx
      |some x0=>rw [h]at hx;exact⟨x0,rfl,by simpa using hx⟩
    exact Gm (List.mem_cons_of_mem _ (List.mem_cons_of_mem _ (Mv e0 (e1▸hm))))
  intro m
  induction m with
  |zero=>
    intro k done c ns σ H hd hk hF hV s0 s6 Y7 s61 hq ho q0;cases hF;have hge:decide ((k:Int)<(n.names.length:Int))=false:=decide_eq_false (by omega);refine aT (fun K hK=>aD ?_);unfold IU;simp -implicitDefEqProofs only [go_sem,↓reduceIte,Nat.reduceEqDiff,Y7,s61,hge];rw [List.drop_of_length_le (by omega)]at hV;refine q0 _ H (fun j h10 hj=> ?_) hV (HF.refl _ _) ho;have:j≠62:=by omega
    simp only [upd,this,↓reduceIte]
  |succ m ih=>
    intro k done c ns σ H hd hk hF hV s0 s6 Y7 s61 hq ho q0;rw [Fb]at hF;obtain⟨⟨s1,c1⟩,hF1,hF⟩:=aj hF;obtain⟨⟨r2,c2⟩,hF2,hF⟩:=aj hF;cases hF;have hlt:decide ((k:Int)<(n.names.length:Int))=true:=decide_eq_true (by omega);have hset:(l.set i (({n with names:=done++n.names.drop k}:Nd),y))[i]? =some (({n with names:=done++n.names.drop k}:Nd),y):=by rw [List.getElem?_set,if_pos rfl,if_pos hi]
    have Jo:=hV.own.C8 i _ hset;rw [if_pos (by rw [List.length_set];exact hi)]at Jo;obtain⟨Z7,C,e1,hid,hC,hcell,hle,hdrop,hI⟩:=aO.content hV.own.row hset;obtain rfl:id=Z7:=by simpa using e1
    have hmem:(done++n.names.drop k)[k]? =some (n.names[k]'(by omega)):=by
      rw [List.getElem?_append_right (by omega),hd,Nat.sub_self,List.getElem?_drop,Nat.add_zero,List.getElem?_eq_getElem]
    cases y with
    |p l0=>
      have h2:done++n.names.drop k=[]:=Jo.2;rw [h2]at hmem;cases hmem
    |m id' len cap=>
    obtain⟨h0,hr0⟩:=Jo;have hr0:aO H aI 1 (done++n.names.drop k) (.bS id' 0 len cap 1) [id']:=hr0;have c3:C[i*5+3]? =some (.bS id' 0 len cap 1):=hcell 3 _ rfl;refine aT (fun K hK=>aD ?_);unfold IU;simp -implicitDefEqProofs only [go_sem,↓reduceIte,Nat.reduceEqDiff,Y7,s61,hlt];have awX:o≠id:=hV.ne;obtain⟨H1,hH1⟩: ∃H1,H1=H.put o [v,.aA (left.map aI) cl,.int .i64 c1]:=⟨_,rfl⟩;obtain⟨hV1,hf1⟩:=hV.cnt (c':=c1);rw [<-hH1]at hV1 hf1;have ho1:H1.obj q=some [.ref id (i*5)]:=(hf1.2 q hq fun hm=>hqo (List.mem_singleton.1 hm)).trans ho;have hC1:H1.obj id=some C:=(hf1.2 id hid fun hm=>awX (List.mem_singleton.1 hm).symm).trans hC;refine⟨fun H'=>H'.obj q=some [.ref id (i*5)]/\H'.obj id=some C,⟨ho,hC⟩,?_⟩;refine dN (.ref id (i*5)) (fun H' hC'=>by simp -implicitDefEqProofs only [go_sem,↓reduceIte,Nat.reduceEqDiff,s6,hC'.1]) ?_;refine dN (.ref id (i*5)) (fun H' hC'=>by simp -implicitDefEqProofs only [go_sem,↓reduceIte,Nat.reduceEqDiff]) ?_;refine dN (.ref id (i*5+3)) (fun H' hC'=>by simp -implicitDefEqProofs only [go_sem,↓reduceIte,Nat.reduceEqDiff]) ?_;refine dN (.bS id' 0 len cap 1) (fun H' hC'=>by simp -implicitDefEqProofs only [go_sem,↓reduceIte,Nat.reduceEqDiff,hC'.2,c3]) ?_;refine dN (.int .i64 k) (fun H' hC'=>by simp -implicitDefEqProofs only [go_sem,↓reduceIte,Nat.reduceEqDiff]) ?_;refine dN (.ref o 0) (fun H' hC'=>by simp -implicitDefEqProofs only [go_sem,↓reduceIte,Nat.reduceEqDiff,s0]) ?_;refine .inr ⟨trivial,.str s1,H1,?_,⟨ho1,hC1⟩,?_⟩
    · show bC Tryz.prog 183 [_] H _
      simp -implicitDefEqProofs only [go_sem,↓reduceIte,Nat.reduceEqDiff];exact(adv hF1 hV.obj).mono fun _ _ h=>⟨h.1,by rw [hH1];exact h.2⟩
    clear hH1;show WO Tryz.prog [oX 71 1 67 68,oS 1 71 70] [Fm.block 3,Fm.seq (AC.ops [oB 72 BinOp.add (AE.t 61) (AE.c (PV.int IntKind.i64 1)),oM 61 72])] (yX K Q) _ _
    have akk:(l.set i (({n with names:=done++n.names.drop k}:Nd),NV.m id' len cap))[i]? =some (({n with names:=done++n.names.drop k}:Nd),NV.m id' len cap):=hset;have akl:=hV1.own.C8 i _ akk;rw [if_pos (by rw [List.length_set];exact hi)]at akl;obtain⟨_,hr1⟩:=akl;have hr1:aO H1 aI 1 (done++n.names.drop k) (.bS id' 0 len cap 1) [id']:=hr1;obtain⟨id2,C2,e2,_,_,_,_,_,hI2⟩:=aO.content hr1 hmem;obtain rfl:id'=id2:=by simpa using e2
    have awY:kT 1 (.bS id' 0 len cap 1) (.int .i64 k)=some (.ref id' (k*1)):=hI2 .i64 k (by omega) (by omega);simp -implicitDefEqProofs only [go_sem,↓reduceIte,Nat.reduceEqDiff,awY];refine qg (f:=aI) (id:=id') (o:=k*1) (i:=k) (j:=0) (a:=n.names[k]) (y:=s1) (vs:=[.str s1]) (by simp -implicitDefEqProofs only [go_sem,↓reduceIte,Nat.reduceEqDiff]) rfl rfl hr1 hmem (by simp -implicitDefEqProofs only [go_sem,↓reduceIte,Nat.reduceEqDiff]) rfl rfl (by decide) rfl (fun H' r' hf' ok'=> ?_);have es:(done++n.names.drop k).set k s1=(done++[s1])++n.names.drop (k+1):=by
      rw [List.set_append_right _ _ (by omega),hd,Nat.sub_self,List.drop_eq_getElem_cons (by omega),List.set_cons_zero,List.append_assoc];rfl
    rw [es]at r';have hV2:=hV1.awW (ns:=(done++[s1])++n.names.drop (k+1)) akk (by simp) r' hf';rw [List.set_set]at hV2;have hV2:jZ H' (l.set i (({n with names:=(done++[s1])++n.names.drop (k+1)}:Nd),NV.m id' len cap)) v id o lo left cl c1:=hV2;have awZ:q≠id':=fun e=>hqy (List.mem_singleton.2 e);have hf2:HF (o::(NV.m id' len cap).ids) H H':=(hf1.up fun a ha=>by rw [List.mem_singleton.1 ha];exact List.mem_cons_self).tr (hf'.up fun a ha=>List.mem_cons_of_mem _ ha);have hw:IntKind.wrap .i64 ((k:Int)+1)=((k+1:Nat):Int):=by rw [IntKind.wrap_i64];omega
    simp -implicitDefEqProofs only [go_sem,↓reduceIte,Nat.reduceEqDiff,s61,hw];refine hK _ _ (ih (k+1) (done++[s1]) c1 r2 _ H' (by simp [hd]) (by omega) hF2 hV2 (by simp -implicitDefEqProofs only [go_sem,↓reduceIte,Nat.reduceEqDiff,s0]) (by simp -implicitDefEqProofs only [go_sem,↓reduceIte,Nat.reduceEqDiff,s6]) (by simp -implicitDefEqProofs only [go_sem,↓reduceIte,Nat.reduceEqDiff,Y7]) (by simp -implicitDefEqProofs only [go_sem,↓reduceIte,Nat.reduceEqDiff]) (Nat.lt_of_lt_of_le hq hf2.1) ((hf'.2 q (Nat.lt_of_lt_of_le hq hf1.1) fun hm=>awZ (List.mem_singleton.1 hm)).trans ho1) fun σ' H3 g1 g2 g3 g4=> ?_);rw [List.append_assoc]at g2;refine q0 σ' H3 (fun j h10 hj=>(g1 j h10 hj).trans ?_) g2 (hf2.tr g3) g4;have:j≠61/\j≠62/\j≠63/\j≠64/\j≠65/\j≠66/\j≠67/\j≠68/\j≠69/\j≠70/\j≠71/\j≠72:=by omega
    simp only [upd,h10,this,↓reduceIte]
end
end Go.VL
end
section
set_option maxRecDepth 8000
namespace Go.VL
open Go.Proofs Go.RowKit
def Z8 (left:List Str) (F:Nat) (bi:Bool) (n:Nd) (c:Int):Option (Nd×Int):=
  cond bi (Option.bind (Fb left F n.names.length c) fun p=>some ({n with names:=p.1},p.2)) (some (n,c))
theorem aqA {sz id o:Nat} {x w:AE} {σ:Nat->PV} {H:AH} {vs cs:List PV} (hx:x.ev σ= .ref id o) (hw:cellsOf (w.ev σ)=some vs) (ho:H.obj id=some cs) (h1:vs.length=sz) (h2:o+sz<=cs.length) (h3:vs.all PV.one=true):
    jv (.store sz x w) σ H=some (.any,H.put id (putCells cs o vs)):=by
  simp only [jv,hx,hw,ho];rw [if_pos ⟨h1,h2,h3⟩]
theorem QZ {P:Program} {Q:Post} {s:List Fm} {d:Option Nat} {l:List aR} {sz id o:Nat} {x w:AE} {σ:Nat->PV} {H:AH} {vs cs:List PV} (hx:x.ev σ= .ref id o) (hw:cellsOf (w.ev σ)=some vs) (ho:H.obj id=some cs) (h1:vs.length=sz) (h2:o+vs.length<=cs.length) (h3:vs.all PV.one=true)
    (h:WO P l s Q (upd σ d .any) (H.put id (putCells cs o vs))):WO P (⟨d,.d (.store sz x w),none⟩::l) s Q σ H:=by
  rw [dJ,aqA hx hw ho h1 (h1▸h2) h3];exact h
section
variable {l:List (Nd×NV)} {v:PV} {id o lo:Nat} {left:List Str} {cl:Ck} {i:Nat} {n n':Nd} {y:NV} {F q b:Nat} {c c':Int} {bi:Bool} {H:AH} {σ:Nat->PV} {Q:Post}
theorem aqB (hV:jZ H l v id o lo left cl c) (hx:l[i]? =some (n,y)) (hnl:n.names.length<=1000000) (Gm:q∉kH l id o) (hbM:b∉kH l id o) (hqb:q≠b) (s0:σ 0= .ref o 0) (s6:σ 6= .ref q 0) (s9:σ 9= .ref b 0) (hq:q<H.next) (hbl:b<H.next)
    (ho:H.obj q=some [.ref id (i*5)]) (zQ:H.obj b=some (jh (n,y))) (hbi:lD n.kind=some bi) (hF:Z8 left F bi n c=some (n',c'))
    (q0: ∀σ' H' (z:NV),(∀j,j≠10->j<45\/72<j->σ' j=σ j)->jZ H' (l.set i (n',y)) v id o lo left cl c'->(bi=true->iQ H' (n,z)/\ ∀a∈z.ids,H.next<=a)->HF (b::o::y.ids) H H'->H'.obj q=some [.ref id (i*5)]->H'.obj b=some (jh (n,z))->Q .normal σ' H'):W Tryz.prog Oh Q σ H:=by
  obtain⟨Z7,C,e1,hid,hC,hcell,hle,hdrop,hI⟩:=aO.content hV.own.row hx;obtain rfl:id=Z7:=by simpa using e1
  have hi:=(List.getElem?_eq_some_iff.1 hx).1;have hy:iQ H (n,y):=by
    have:=hV.own.C8 i _ hx;rw [if_pos hi]at this;exact this
  have c0:C[i*5]? =some (.int .i64 n.kind):=hcell 0 _ rfl;have c3:C[i*5+3]? =some y.pv:=hcell 3 _ rfl;refine aD ?_;unfold Oh;simp -implicitDefEqProofs only [go_sem,↓reduceIte,Nat.reduceEqDiff,s6,ho,hC,c0,List.getElem?_cons_zero];refine aB (ZB hbi) ?_;cases bi
  case false=>
    cases hF;simp -implicitDefEqProofs only [go_sem,↓reduceIte,Nat.reduceEqDiff];refine q0 _ H y (fun j h10 hj=> ?_) (by rw [O5 hx];exact hV) (fun h=>by cases h) (HF.refl _ _) ho zQ;have:j≠45/\j≠46/\j≠47/\j≠48/\j≠49:=by omega
    simp only [upd,this,↓reduceIte]
  case true=>
    obtain⟨⟨ns,c2⟩,hF1,hF⟩:=aj hF;cases hF;simp -implicitDefEqProofs only [go_sem,↓reduceIte,Nat.reduceEqDiff,s6,ho,hC,c3,List.getElem?_cons_zero];refine bC.mono (abn hy hnl) ?_;rintro _ H1 ⟨z,rfl,hz,hzn,hf1,hok1⟩;have aw0:b≠id:=fun e=>hbM (by rw [e];exact List.mem_cons_of_mem _ List.mem_cons_self);have ho1:H1.obj q=some [.ref id (i*5)]:=(hf1.2 q hq List.not_mem_nil).trans ho;have hC1:H1.obj id=some C:=(hf1.2 id hid List.not_mem_nil).trans hC;have aw1:H1.obj b=some (jh (n,y)):=(hf1.2 b hbl List.not_mem_nil).trans zQ;have hV1:=hV.new hf1 (fun a ha=>by cases ha);have hcz:cellsOf z.pv=some [z.pv]:=by cases z<;>rfl
    have hone:[z.pv].all PV.one=true:=by cases z<;>rfl
    have hput:putCells (jh (n,y)) 3 [z.pv]=jh (n,z):=by cases z<;>rfl
    simp -implicitDefEqProofs only [go_sem,↓reduceIte,Nat.reduceEqDiff,s9];refine QZ (id:=b) (o:=3) (vs:=[z.pv]) (cs:=jh (n,y)) (by simp -implicitDefEqProofs only [go_sem,↓reduceIte,Nat.reduceEqDiff]) (by simp -implicitDefEqProofs only [go_sem,↓reduceIte,Nat.reduceEqDiff,hcz]) aw1 rfl (by show 4<=5;decide) hone ?_;rw [hput];obtain⟨H2,hH2⟩: ∃H2,H2=H1.put b (jh (n,z)):=⟨_,rfl⟩;rw [<-hH2];have hf2:HF [b] H1 H2:=by rw [hH2];exact HF.put (.inl (List.mem_singleton.2 rfl)) (HF.refl _ _)
    have aw2:H2.obj b=some (jh (n,z)):=by
      rw [hH2];show(if b=b then _ else _)=_;rw [if_pos rfl]
    clear hH2;have hb1:b<H1.next:=Nat.lt_of_lt_of_le hbl hf1.1;have ho2:H2.obj q=some [.ref id (i*5)]:=(hf2.2 q (Nat.lt_of_lt_of_le hq hf1.1) fun hm=>hqb (List.mem_singleton.1 hm)).trans ho1;have hC2:H2.obj id=some C:=(hf2.2 id (Nat.lt_of_lt_of_le hid hf1.1) fun hm=>aw0 (List.mem_singleton.1 hm).symm).trans hC1;have hV2:=hV1.hf hf2 (fun a ha hm=>hbM (List.mem_singleton.1 hm▸ha));have hz2:iQ H2 (n,z):=hz.hf hf2 fun a ha hm=>by have:=hzn a ha;rw [List.mem_singleton.1 hm]at this;omega
    have hq2:q<H2.next:=Nat.lt_of_lt_of_le hq (Nat.le_trans hf1.1 hf2.1);have hb2:b<H2.next:=Nat.lt_of_lt_of_le hb1 hf2.1;have hlen:xL y.pv=some (.int .i64 n.names.length):=(nW.whole hy).len;simp -implicitDefEqProofs only [go_sem,↓reduceIte,Nat.reduceEqDiff,s6,ho2,hC2,c3,hlen,List.getElem?_cons_zero];have e0:(({n with names:=[]++n.names.drop 0}:Nd),y)=(n,y):=rfl;refine abo (i:=i) (n:=n) (y:=y) (F:=F) (q:=q) (l:=l) (v:=v) (id:=id) (o:=o) (lo:=lo) (left:=left) (cl:=cl) (by rw [hx];rfl) Gm hnl n.names.length 0 [] c ns _ H2 rfl (Nat.zero_add _) hF1 (by rw [e0,O5 hx];exact hV2) (by simp -implicitDefEqProofs only [go_sem,↓reduceIte,Nat.reduceEqDiff,s0]) (by simp -implicitDefEqProofs only [go_sem,↓reduceIte,Nat.reduceEqDiff,s6]) (by simp -implicitDefEqProofs only [go_sem,↓reduceIte,Nat.reduceEqDiff]) (by simp -implicitDefEqProofs only [go_sem,↓reduceIte,Nat.reduceEqDiff]) hq2 ho2 fun σ' H3 g1 g2 g3 g4=> ?_;have pQ:HF [b] H H2:=(hf1.up fun a ha=>by cases ha).tr hf2;have hby:b∉y.ids:=fun hm=>hbM (List.mem_cons_of_mem _ (List.mem_cons_of_mem _ (Mv hx hm)));have Fy:b≠o:=fun e=>hbM (by rw [e];exact List.mem_cons_self);refine q0 σ' H3 z (fun j h10 hj=>(g1 j h10 (by omega)).trans ?_) g2 (fun _=>⟨hz2.hf g3 fun a ha hm=> ?_,hzn⟩) ((pQ.up fun a ha=> ?_).tr (g3.up fun a ha=>List.mem_cons_of_mem _ ha)) g4 ((g3.2 b hb2 fun hm=> ?_).trans aw2)
    · have:j≠45/\j≠46/\j≠47/\j≠48/\j≠49/\j≠50/\j≠51/\j≠52/\j≠53/\j≠54/\j≠55/\j≠56/\j≠57/\j≠58/\j≠59/\j≠60/\j≠61:=by omega
      simp only [upd,this,↓reduceIte]
    · have h1:=hzn a ha;have h2:a<H.next:=by
        rcases List.mem_cons.1 hm with rfl|hm
        · exact hV.lt
        · exact hy.lt a hm
      omega
    · rw [List.mem_singleton.1 ha];exact List.mem_cons_self
    · rcases List.mem_cons.1 hm with rfl|hm
      · exact Fy rfl
      · exact hby hm
end
end Go.VL
end
section
set_option maxRecDepth 8000
namespace Go.VL
open Go.Proofs Go.RowKit
section
variable {l:List (Nd×NV)} {v:PV} {id o lo:Nat} {left:List Str} {cl:Ck} {i:Nat} {n:Nd} {y:NV} {q j:Nat} {c:Int} {a b:List Str} {ids:List Nat} {v87:PV} {Q:Post}
theorem af3 (hx:l[i]? =some (n,y)) (Gm:q∉kH l id o) (hb:gP n (j:Int)=some b) (hab:a.length<=b.length) (hal:a.length<=1000000): ∀(m k:Nat) (sc:List Scope) (ck:Ck) (σ:Nat->PV) (H:AH),k+m=a.length->nW H a v87 ids->jZ H l v id o lo left cl c->bn H ck->
    σ 87=v87->σ 88= .int .i64 a.length->σ 89= .int .i64 k->σ 11= .int .i64 j->σ 13= .aA (sc.map Scope.cells) ck->σ 6= .ref q 0->q<H.next->H.obj q=some [.ref id (i*5)]->sc.length+m<=1000000000->
    (∀σ' H' AX,(∀j,j≠13/\j≠14/\j≠15->j<89\/107<j->σ' j=σ j)->σ' 13= .aA ((sc++List.zipWith Scope.mk (a.drop k) (b.drop k)).map Scope.cells) AX->HF [] H H'->Q (.exit 6) σ' H')->W Tryz.prog (.loop IV) Q σ H:=by
  intro m
  induction m with
  |zero=>
    intro k sc ck σ H hk hB hV hok s87 Y0 s89 s11 s13 s6 hq ho hsc q0;have hge:decide ((k:Int)<(a.length:Int))=false:=decide_eq_false (by omega);refine aT (fun K hK=>aD ?_);unfold IV;simp -implicitDefEqProofs only [go_sem,↓reduceIte,Nat.reduceEqDiff,Y0,s89,hge];refine q0 _ H ck (fun j h10 hj=> ?_) ?_ (HF.refl _ _)
    · have:j≠90:=by omega
      simp only [upd,this,↓reduceIte]
    · rw [List.drop_of_length_le (by omega),List.zipWith_nil_left,List.append_nil];simp -implicitDefEqProofs only [go_sem,↓reduceIte,Nat.reduceEqDiff,s13]
  |succ m ih=>
    intro k sc ck σ H hk hB hV hok s87 Y0 s89 s11 s13 s6 hq ho hsc q0;have hlt:decide ((k:Int)<(a.length:Int))=true:=decide_eq_true (by omega);obtain⟨Z7,C,e1,hid,hC,hcell,hle,hdrop,hI⟩:=aO.content hV.own.row hx;obtain rfl:id=Z7:=by simpa using e1
    have h5:=hle 5 (Nat.le_refl _);have hy:iQ H (n,y):=by
      have:=hV.own.C8 i _ hx;rw [if_pos (List.getElem?_eq_some_iff.1 hx).1]at this;exact this
    have hka:k<a.length:=by omega
    have hkb:k<b.length:=by omega
    obtain⟨Kt,aBt,Ca,i1,i2,i3,i4,i5⟩:=hB.at_ k a[k] (List.getElem?_eq_getElem hka);refine aT (fun K hK=>aD ?_);unfold IV;simp -implicitDefEqProofs only [go_sem,↓reduceIte,Nat.reduceEqDiff,s87,Y0,s89,hlt,i1,i4,i5,s13,s6,ho,hC,hdrop,h5,s11,List.getElem?_cons_zero];refine bC.mono (Z4 hy hb) ?_;rintro vb H1 ⟨hBb,hf1,hok1⟩;obtain⟨FK,aBu,Cb,j1,j2,j3,j4,j5⟩:=hBb.at_ k b[k] (List.getElem?_eq_getElem hkb);simp -implicitDefEqProofs only [go_sem,↓reduceIte,Nat.reduceEqDiff,j1,j4,j5];refine gu (f:=Scope.cells) af2 sc [⟨a[k],b[k]⟩] ck .exact (by simp -implicitDefEqProofs only [go_sem,↓reduceIte,Nat.reduceEqDiff]) (by simp -implicitDefEqProofs only [go_sem,↓reduceIte,Nat.reduceEqDiff]) (hok1 ck hok) (by simp;omega) (fun AX H2 g1 g2 g3 g4=> ?_);have hf2:HF [] H1 H2:=⟨g2,fun i _ _=>g3 i⟩;have pQ:=hf1.tr hf2;have hw:IntKind.wrap .i64 ((k:Int)+1)=((k+1:Nat):Int):=by rw [IntKind.wrap_i64];omega
    simp -implicitDefEqProofs only [go_sem,↓reduceIte,Nat.reduceEqDiff,s89,hw];refine hK _ _ (ih (k+1) (sc++[⟨a[k],b[k]⟩]) AX _ H2 (by omega) (hB.hf pQ (fun _ _ h=>by cases h)) (hV.new pQ (fun _ h=>by cases h)) g1 (by simp -implicitDefEqProofs only [go_sem,↓reduceIte,Nat.reduceEqDiff,s87]) (by simp -implicitDefEqProofs only [go_sem,↓reduceIte,Nat.reduceEqDiff,Y0]) (by simp -implicitDefEqProofs only [go_sem,↓reduceIte,Nat.reduceEqDiff]) (by simp -implicitDefEqProofs only [go_sem,↓reduceIte,Nat.reduceEqDiff,s11]) (by simp -implicitDefEqProofs only [go_sem,↓reduceIte,Nat.reduceEqDiff]) (by simp -implicitDefEqProofs only [go_sem,↓reduceIte,Nat.reduceEqDiff,s6]) (Nat.lt_of_lt_of_le hq pQ.1) ((pQ.2 q hq List.not_mem_nil).trans ho) (by simp;omega) fun σ' H3 ck3 g1 g2 g3=> ?_);refine q0 σ' H3 ck3 (fun j h10 hj=>(g1 j h10 hj).trans ?_) ?_ (pQ.tr g3)
    · have:j≠89/\j≠90/\j≠91/\j≠92/\j≠93/\j≠94/\j≠95/\j≠96/\j≠97/\j≠98/\j≠99/\j≠100/\j≠101/\j≠102/\j≠103/\j≠104/\j≠105/\j≠106/\j≠107:=by omega
      simp only [upd,h10,this,↓reduceIte]
    · rw [g2,List.drop_eq_getElem_cons hka,List.drop_eq_getElem_cons hkb,List.zipWith_cons_cons,List.append_assoc];rfl
end
end Go.VL
end
section
set_option maxRecDepth 8000
namespace Go.VL
open Go.Proofs Go.RowKit
theorem af4 {H:AH} {n:Nd} {z:NV} {p:Nat} (hk:n.kind=16\/n.kind=17):bC Tryz.prog 121 [.agg (jh (n,z)),.int .i64 p] H fun v H'=>nW H' [] v z.ids/\HF [] H H'/\ ∀c,bn H c->bn H' c:=by
  refine aG ac8 (by simp) (aD ?_);have hnew:HF [] H (H.new (jh (n,z))):=HF.new (HF.refl _ _);have hok: ∀c,bn H c->bn (H.new (jh (n,z))) c:=fun c k=>k.new;have h10:jD n.kind=some false:=by rcases hk with h|h<;>rw [h]<;>rfl
  have e21:(n.kind==23)=false:=by rcases hk with h|h<;>rw [h]<;>rfl
  unfold Xi;simp -implicitDefEqProofs only [go_sem,dJ,jh,List.length_cons,List.length_nil,Nat.reduceAdd,Nat.le_refl];refine Ew n.kind _ _ _ (Fr.refl _ _) (by simp -implicitDefEqProofs only [go_sem]) _ h10 _ ?_;rintro l6 σ' eo oU s15;subst eo;have s16:σ' 2=(.ref H.next 0):=(oU 2 (by decide)).trans (by simp -implicitDefEqProofs only [go_sem]);have tH:σ' 5=(.bool ((p:Int)==(IntKind.wrap .i64 ((n.args.length:Int) -1)))):=(oU 5 (by decide)).trans (by simp -implicitDefEqProofs only [go_sem]);have jw:σ' 13=(.int .i64 n.kind):=(oU 13 (by decide)).trans (by simp -implicitDefEqProofs only [go_sem]);clear oU;simp -implicitDefEqProofs only [go_sem,dJ,s15,s16,tH,jw,e21];exact⟨nW.nil,hnew,hok⟩
theorem af5 {n:Nd} {j:Int} {r:List Str} (hk:n.kind=16\/n.kind=17) (h:gP n j=some r):r=[]:=by
  have h10:jD n.kind=some false:=by rcases hk with h|h<;>rw [h]<;>rfl
  have e21:(n.kind==23)=false:=by rcases hk with h|h<;>rw [h]<;>rfl
  unfold gP at h;rw [h10,Option.bind_some,cond_false,e21,cond_false]at h;exact(ak h).symm
theorem VR {k:Int} (h:lD k=some false):k=16\/k=17:=by
  unfold lD at h;rcases au h with⟨e,h⟩|⟨e,h⟩
  · right;have:=ak h;simpa using this
  · left;simpa using e
abbrev aec:=List Nd->Int->Nat->List Scope->Option (List Nd×Int)
def LC (rec:aec) (old:Nd) (i:Nat) (bound:List Scope):List Int->Nat->List Nd->Int->Option (List Nd×Int)
  |[],_,out,c=>some (out,c)
  |a::l,j,out,c=>Option.bind out[i]? fun n=>Option.bind (gP old (j:Int)) fun x=>Option.bind (gP n (j:Int)) fun y=>
      if x.length<=y.length/\x.length<=1000000/\0<=a then Option.bind (rec out c a.toNat (bound++List.zipWith Scope.mk x y)) fun p=>LC rec old i bound l (j+1) p.1 p.2 else none
def GV (left:List Str) (F:Nat):Nat->aec
  |0=>fun _ _ _ _=>none
  |k+1=>fun out c i bound=>Option.bind out[i]? fun n=>Option.bind (mW F n) fun nm=>Option.bind (lD n.kind) fun bi=>
      let n1:Nd:={n with text:=if nm=true then kV bound n.text else n.text}
      Option.bind (Z8 left F bi n1 c) fun p=>if bound.length<=1000000/\n.names.length<=1000000/\n.args.length<=1000000 then LC (GV left F k) n1 i bound n.args 0 (out.set i p.1) p.2 else none
end Go.VL
end
section
set_option maxRecDepth 8000
namespace Go.VL
open Go.Proofs Go.RowKit
def xK (taken:List Str) (F:Nat) (fx:Bool):List Str->Int->Option (List Str×Int)
  |[],c=>some ([],c)
  |s::l,c=>Option.bind (cond fx (some (s,c)) (AQ taken F c)) fun p=>Option.bind (xK taken F fx l p.2) fun r=>some (p.1::r.1,r.2)
def jy (n:Nd) (v:PV):List PV:=[.int .i64 n.kind,.int .i64 n.n,.str n.text,v,.aA (n.args.map aX) .unk]
section
variable {taken:List Str} {F:Nat} {fx:Bool} {n:Nd} {o p b:Nat} {cl:Ck} {Q:Post} {c':Int}
theorem alO (hn:n.names.length<=1000000) (hop:o≠p) (zQ:o≠b) (hpb:p≠b): ∀(m i:Nat) (done:List Str) (ck:Ck) (c:Int) (ns:List Str) (σ:Nat->PV) (H:AH),i+m=n.names.length->done.length=i->xK taken F fx (n.names.drop i) c=some (ns,c')->
    H.obj o=some [.aA (taken.map aI) cl,.int .i64 c]->H.obj p=some (jy n (.aA (done.map aI) ck))->H.obj b=some (jy n (.aA (n.names.map aI) .unk))->o<H.next->p<H.next->b<H.next->bn H ck->
    σ 0= .ref o 0->σ 9= .ref p 0->σ 10= .ref b 0->σ 11= .bool fx->σ 12= .int .i64 i->
    (∀σ' H' AX,(∀j,j≠12->j<39\/63<j->σ' j=σ j)->H'.obj o=some [.aA (taken.map aI) cl,.int .i64 c']->H'.obj p=some (jy n (.aA ((done++ns).map aI) AX))->HF [o,p] H H'->(∀c3,bn H c3->kI ck c3->bn H' c3)->Q (.exit 0) σ' H')->W Tryz.prog (.loop Hf) Q σ H:=by
  intro m
  induction m with
  |zero=>
    intro i done ck c ns σ H hi hd h ho hp hb lo lp lb hok s0 s9 s10 s11 s12 q0;rw [List.drop_of_length_le (by omega)]at h;cases h;have hge:decide ((i:Int)<(n.names.length:Int))=false:=decide_eq_false (by omega);refine aT (fun K hK=>aD ?_);unfold Hf;have hb':=hb;unfold jy at hb';simp -implicitDefEqProofs only [go_sem,↓reduceIte,Nat.reduceEqDiff,s10,s12,hb',hge,List.getElem?_cons_zero,List.length_map];refine q0 _ H ck (fun j h12 hj=> ?_) ho (by rw [List.append_nil];exact hp) (HF.refl _ _) (fun c3 h _=>h);have:j≠39/\j≠40/\j≠41/\j≠42/\j≠43:=by omega
    simp only [upd,this,↓reduceIte]
  |succ m ih=>
    intro i done ck c ns σ H hi hd h ho hp hb lo lp lb hok s0 s9 s10 s11 s12 q0;have hin:i<n.names.length:=by omega
    rw [List.drop_eq_getElem_cons hin,xK]at h;obtain⟨⟨s1,c1⟩,h1,h2⟩:=aj h;obtain⟨⟨r2,c2⟩,h3,h4⟩:=aj h2;cases h4;clear h h2;have hlt:decide ((i:Int)<(n.names.length:Int))=true:=decide_eq_true (by omega);have hget:(n.names.map aI)[i]? =some (aI n.names[i]):=by rw [List.getElem?_map,List.getElem?_eq_getElem hin];rfl
    have hw:IntKind.wrap .i64 ((i:Int)+1)=((i+1:Nat):Int):=by rw [IntKind.wrap_i64];omega
    refine aT (fun K hK=>aD ?_);unfold Hf;have hb':=hb;have hp':=hp;unfold jy at hb' hp';simp -implicitDefEqProofs only [go_sem,↓reduceIte,Nat.reduceEqDiff,s10,s11,s12,hb',hlt,List.getElem?_cons_zero,List.length_map];have hput: ∀v v':PV,putCells (jy n v) 3 [v']=jy n v':=fun _ _=>rfl;cases fx with
    |true=>
      cases h1;simp -implicitDefEqProofs only [go_sem,↓reduceIte,Nat.reduceEqDiff];refine eO ?_;simp -implicitDefEqProofs only [go_sem,↓reduceIte,Nat.reduceEqDiff,s9,s10,s12,hp',hb',hget,List.getElem?_cons_zero,List.getElem?_cons_succ];refine gu (f:=aI) jg done [n.names[i]] ck .exact (by simp -implicitDefEqProofs only [go_sem,↓reduceIte,Nat.reduceEqDiff]) (by simp -implicitDefEqProofs only [go_sem,↓reduceIte,Nat.reduceEqDiff]) hok (by simp;omega) (fun AX H2 g1 g2 g3 g4=> ?_);simp -implicitDefEqProofs only [go_sem,↓reduceIte,Nat.reduceEqDiff,s9];refine QZ (id:=p) (o:=3) (vs:=[.aA ((done++[n.names[i]]).map aI) AX]) (cs:=jy n (.aA (done.map aI) ck)) (by simp -implicitDefEqProofs only [go_sem,↓reduceIte,Nat.reduceEqDiff]) (by simp -implicitDefEqProofs only [go_sem,↓reduceIte,Nat.reduceEqDiff]) ((g3 p).trans hp) rfl (by show 4<=5;decide) rfl ?_;rw [hput];simp -implicitDefEqProofs only [go_sem,↓reduceIte,Nat.reduceEqDiff,s12,hw];obtain⟨H3,hH3⟩: ∃H3,H3=H2.put p (jy n (.aA ((done++[n.names[i]]).map aI) AX)):=⟨_,rfl⟩;rw [<-hH3];have Z9: ∀j,j≠p->H3.obj j=H2.obj j:=fun j hj=>by rw [hH3];show(if j=p then _ else _)=_;rw [if_neg hj]
      have pp3:H3.obj p=some (jy n (.aA ((done++[n.names[i]]).map aI) AX)):=by rw [hH3];show(if p=p then _ else _)=_;rw [if_pos rfl]
      have nx3:H3.next=H2.next:=by rw [hH3];rfl
      have YM: ∀c3,bn H2 c3->bn H3 c3:=fun c3 h=>by rw [hH3];exact h.put
      clear hH3;have hf3:HF [o,p] H H3:=⟨by rw [nx3];exact g2,fun a ha hm=>by
        rw [Z9 a (fun e=>hm (by rw [e];simp)),g3]⟩
      refine hK _ _ (ih (i+1) (done++[n.names[i]]) AX c r2 _ H3 (by omega) (by simp [hd]) h3 ((Z9 o hop).trans ((g3 o).trans ho)) pp3 ((Z9 b (Ne.symm hpb)).trans ((g3 b).trans hb)) (by omega) (by omega) (by omega) (YM _ g1) (by simp -implicitDefEqProofs only [go_sem,↓reduceIte,Nat.reduceEqDiff,s0]) (by simp -implicitDefEqProofs only [go_sem,↓reduceIte,Nat.reduceEqDiff,s9]) (by simp -implicitDefEqProofs only [go_sem,↓reduceIte,Nat.reduceEqDiff,s10]) (by simp -implicitDefEqProofs only [go_sem,↓reduceIte,Nat.reduceEqDiff,s11]) (by simp -implicitDefEqProofs only [go_sem,↓reduceIte,Nat.reduceEqDiff]) fun σ' H4 ck4 k1 k2 k3 k4 k5=> ?_);rw [List.append_assoc]at k3;refine q0 σ' H4 ck4 (fun j h12 hj=>(k1 j h12 hj).trans ?_) k2 k3 (hf3.tr k4) (fun c3 a1 a2=>k5 c3 (YM _ (g4 c3 a1 a2).1) (g4 c3 a1 a2).2);have:j≠39/\j≠40/\j≠41/\j≠42/\j≠43/\j≠44/\j≠45/\j≠46/\j≠47/\j≠48/\j≠49/\j≠50/\j≠51/\j≠52/\j≠53/\j≠54/\j≠55/\j≠56:=by omega
      simp only [upd,h12,this,↓reduceIte]
    |false=>
      simp -implicitDefEqProofs only [go_sem,↓reduceIte,Nat.reduceEqDiff];obtain⟨H1,hH1⟩: ∃H1,H1=H.put o [.aA (taken.map aI) cl,.int .i64 c1]:=⟨_,rfl⟩;have op1: ∀j,j≠o->H1.obj j=H.obj j:=fun j hj=>by rw [hH1];show(if j=o then _ else _)=_;rw [if_neg hj]
      have oo1:H1.obj o=some [.aA (taken.map aI) cl,.int .i64 c1]:=by rw [hH1];show(if o=o then _ else _)=_;rw [if_pos rfl]
      have nx1:H1.next=H.next:=by rw [hH1];rfl
      have ok1: ∀c3,bn H c3->bn H1 c3:=fun c3 h=>by rw [hH1];exact h.put
      have hp1:H1.obj p=some (jy n (.aA (done.map aI) ck)):=(op1 p (Ne.symm hop)).trans hp;refine⟨fun H'=>H'.obj p=some (jy n (.aA (done.map aI) ck)),hp,?_⟩;refine dN (.ref p 3) (fun H' hC'=>by simp -implicitDefEqProofs only [go_sem,↓reduceIte,Nat.reduceEqDiff,s9]) ?_;refine dN (.aA (done.map aI) ck) (fun H' hC'=>by
        unfold jy at hC';simp -implicitDefEqProofs only [go_sem,↓reduceIte,Nat.reduceEqDiff,hC',List.getElem?_cons_zero,List.getElem?_cons_succ]) ?_
      refine dN (.ref o 0) (fun H' hC'=>by simp -implicitDefEqProofs only [go_sem,↓reduceIte,Nat.reduceEqDiff,s0]) ?_;refine .inr ⟨trivial,.str s1,H1,?_,hp1,?_⟩
      · show bC Tryz.prog 138 [_] H _
        simp -implicitDefEqProofs only [go_sem,↓reduceIte,Nat.reduceEqDiff];exact(aeb h1 ho).mono fun _ _ h=>⟨h.1,by rw [hH1];exact h.2⟩
      clear hH1;refine dN (.aA [[.str s1]] .exact) (fun H' hC'=>by simp -implicitDefEqProofs only [go_sem,↓reduceIte,Nat.reduceEqDiff]) ?_;show WO Tryz.prog [{dst:=some 62,k:=AK.d (DK.app 1 16 (AE.t 58) (AE.t 61)),g:=none},oF 63 3 9,oS 1 63 62] [Fm.block 1,Fm.seq (AC.ops [oM 44 12,oB 45 BinOp.add (AE.t 44) (AE.c (PV.int IntKind.i64 1)),oM 12 45])] (yX K Q) _ _
      refine gu (f:=aI) jg done [s1] ck .exact (by simp -implicitDefEqProofs only [go_sem,↓reduceIte,Nat.reduceEqDiff]) (by simp -implicitDefEqProofs only [go_sem,↓reduceIte,Nat.reduceEqDiff]) (ok1 _ hok) (by simp;omega) (fun AX H2 g1 g2 g3 g4=> ?_);simp -implicitDefEqProofs only [go_sem,↓reduceIte,Nat.reduceEqDiff,s9];refine QZ (id:=p) (o:=3) (vs:=[.aA ((done++[s1]).map aI) AX]) (cs:=jy n (.aA (done.map aI) ck)) (by simp -implicitDefEqProofs only [go_sem,↓reduceIte,Nat.reduceEqDiff]) (by simp -implicitDefEqProofs only [go_sem,↓reduceIte,Nat.reduceEqDiff]) ((g3 p).trans hp1) rfl (by show 4<=5;decide) rfl ?_;rw [hput];simp -implicitDefEqProofs only [go_sem,↓reduceIte,Nat.reduceEqDiff,s12,hw];obtain⟨H3,hH3⟩: ∃H3,H3=H2.put p (jy n (.aA ((done++[s1]).map aI) AX)):=⟨_,rfl⟩;rw [<-hH3];have Z9: ∀j,j≠p->H3.obj j=H2.obj j:=fun j hj=>by rw [hH3];show(if j=p then _ else _)=_;rw [if_neg hj]
      have pp3:H3.obj p=some (jy n (.aA ((done++[s1]).map aI) AX)):=by rw [hH3];show(if p=p then _ else _)=_;rw [if_pos rfl]
      have nx3:H3.next=H2.next:=by rw [hH3];rfl
      have YM: ∀c3,bn H2 c3->bn H3 c3:=fun c3 h=>by rw [hH3];exact h.put
      clear hH3;have hf3:HF [o,p] H H3:=⟨by omega,fun a ha hm=>by
        rw [Z9 a (fun e=>hm (by rw [e];simp)),g3,op1 a (fun e=>hm (by rw [e];simp))]⟩
      refine hK _ _ (ih (i+1) (done++[s1]) AX c1 r2 _ H3 (by omega) (by simp [hd]) h3 ((Z9 o hop).trans ((g3 o).trans oo1)) pp3 ((Z9 b (Ne.symm hpb)).trans ((g3 b).trans ((op1 b (Ne.symm zQ)).trans hb))) (by omega) (by omega) (by omega) (YM _ g1) (by simp -implicitDefEqProofs only [go_sem,↓reduceIte,Nat.reduceEqDiff,s0]) (by simp -implicitDefEqProofs only [go_sem,↓reduceIte,Nat.reduceEqDiff,s9]) (by simp -implicitDefEqProofs only [go_sem,↓reduceIte,Nat.reduceEqDiff,s10]) (by simp -implicitDefEqProofs only [go_sem,↓reduceIte,Nat.reduceEqDiff,s11]) (by simp -implicitDefEqProofs only [go_sem,↓reduceIte,Nat.reduceEqDiff]) fun σ' H4 ck4 k1 k2 k3 k4 k5=> ?_);rw [List.append_assoc]at k3;refine q0 σ' H4 ck4 (fun j h12 hj=>(k1 j h12 hj).trans ?_) k2 k3 (hf3.tr k4) (fun c3 a1 a2=>k5 c3 (YM _ (g4 c3 (ok1 _ a1) a2).1) (g4 c3 (ok1 _ a1) a2).2);have:j≠39/\j≠40/\j≠41/\j≠42/\j≠43/\j≠44/\j≠45/\j≠46/\j≠57/\j≠58/\j≠59/\j≠60/\j≠61/\j≠62/\j≠63:=by omega
      simp only [upd,h12,this,↓reduceIte]
end
end Go.VL
end
section
set_option maxRecDepth 8000
namespace Go.VL
open Go.Proofs Go.RowKit
theorem ais {P:Program} {C:AH->Prop} {α:Type} {d:Option Nat} {l:List (aR×Bool)} {K:(Nat->PV)->AH->Prop} {σ:Nat->PV} {H:AH} {sz b:Nat} {x y:AE} {f:α->List PV} (hf: ∀x,lX sz (f x)) (xs ys:List α) (c c2:Ck)
    (hx:x.ev σ= .aA (xs.map f) c) (hy:GZ (y.ev σ)= .aA (ys.map f) c2) (hok:bn H c) (hb:(xs.length+ys.length)*b<=1099511627776)
    (h: ∀c' H',bn H' c'->H.next<=H'.next->(∀i,H'.obj i=H.obj i)->(∀c3,bn H c3->kI c c3->bn H' c3/\kI c' c3)->C H'/\iK P C l K (upd σ d (.aA ((xs++ys).map f) c')) H'):
    iK P C ((⟨d,.d (.app sz b x y),none⟩,true)::l) K σ H:=by
  obtain⟨c',H',f1,f2,f3,f4,f5⟩:=ace hf xs ys c c2 hx hy hok hb;obtain⟨h1,h2⟩:=h c' H' f2 f3 f4 f5;exact Py _ H' f1 h1 h2
def LD (F:Nat) (old nn:List Str):List Str->Option (List Str)
  |[]=>some []
  |s::l=>Option.bind (Iu F old s) fun j=>if 0<=j then Option.bind nn[j.toNat]? fun t=>Option.bind (LD F old nn l) fun r=>some (t::r)else none
section
variable {F:Nat} {n:Nd} {p b:Nat} {bs nn:List Str} {Q0:Ck} {Q:Post}
theorem alP (hbs:bs.length<=1000000): ∀(m j:Nat) (bd cd:List Str) (c16 c17:Ck) (ms:List Str) (σ:Nat->PV) (H:AH),j+m=bs.length->LD F n.names nn (bs.drop j)=some ms->
    H.obj p=some (jy n (.aA (nn.map aI) Q0))->H.obj b=some (jy n (.aA (n.names.map aI) .unk))->bn H c16->bn H c17->kI c16 c17->bd.length+m<=100000000->cd.length+m<=100000000->
    σ 9= .ref p 0->σ 10= .ref b 0->σ 15= .aA (bs.map aI) .unk->σ 16= .aA (bd.map aI) c16->σ 17= .aA (cd.map aI) c17->σ 18= .int .i64 j->
    (∀σ' H' aed ait,(∀j,j≠16/\j≠17/\j≠18->j<78\/104<j->σ' j=σ j)->σ' 16= .aA ((bd++bs.drop j).map aI) aed->σ' 17= .aA ((cd++ms).map aI) ait->HF [] H H'->(∀c3,bn H c3->kI c16 c3->kI c17 c3->bn H' c3)->Q (.exit 4) σ' H')->W Tryz.prog (.loop LX) Q σ H:=by
  intro m
  induction m with
  |zero=>
    intro j bd cd c16 c17 ms σ H hj h hp hb k16 k17 hd hl1 hl2 s9 s10 s15 s16 tH jw q0;rw [List.drop_of_length_le (by omega)]at h;cases h;have hge:decide ((j:Int)<(bs.length:Int))=false:=decide_eq_false (by omega);refine aT (fun K hK=>aD ?_);unfold LX;simp -implicitDefEqProofs only [go_sem,↓reduceIte,Nat.reduceEqDiff,s15,jw,hge,List.length_map];refine q0 _ H c16 c17 (fun i h12 hj=> ?_) ?_ ?_ (HF.refl _ _) (fun c3 h _ _=>h)
    · have:i≠78/\i≠79/\i≠80/\i≠81:=by omega
      simp only [upd,this,↓reduceIte]
    · rw [List.drop_of_length_le (by omega),List.append_nil];simp -implicitDefEqProofs only [go_sem,↓reduceIte,Nat.reduceEqDiff,s16]
    · rw [List.append_nil];simp -implicitDefEqProofs only [go_sem,↓reduceIte,Nat.reduceEqDiff,tH]
  |succ m ih=>
    intro j bd cd c16 c17 ms σ H hj h hp hb k16 k17 hd hl1 hl2 s9 s10 s15 s16 tH jw q0;have hjn:j<bs.length:=by omega
    rw [List.drop_eq_getElem_cons hjn,LD]at h;obtain⟨a,ha,h1⟩:=aj h;obtain⟨ha0,h2⟩:=aP h1;obtain⟨t,ht,h3⟩:=aj h2;obtain⟨r,hr,h4⟩:=aj h3;cases h4;clear h h1 h2 h3;have hlt:decide ((j:Int)<(bs.length:Int))=true:=decide_eq_true (by omega);have hget:(bs.map aI)[j]? =some (aI bs[j]):=by rw [List.getElem?_map,List.getElem?_eq_getElem hjn];rfl
    have asH:(nn.map aI)[a.toNat]? =some (aI t):=by rw [List.getElem?_map,ht];rfl
    have hw:IntKind.wrap .i64 ((j:Int)+1)=((j+1:Nat):Int):=by rw [IntKind.wrap_i64];omega
    refine aT (fun K hK=>aD ?_);unfold LX;simp -implicitDefEqProofs only [go_sem,↓reduceIte,Nat.reduceEqDiff,s15,jw,hlt,List.length_map];refine⟨fun H'=>H'.obj p=some (jy n (.aA (nn.map aI) Q0))/\H'.obj b=some (jy n (.aA (n.names.map aI) .unk)),⟨hp,hb⟩,?_⟩;refine dN (.aA (bd.map aI) c16) (fun H' hC'=>by simp -implicitDefEqProofs only [go_sem,↓reduceIte,Nat.reduceEqDiff,s16]) ?_;refine dN (.aA (bs.map aI) .unk) (fun H' hC'=>by simp -implicitDefEqProofs only [go_sem,↓reduceIte,Nat.reduceEqDiff,s15]) ?_;refine dN (.int .i64 j) (fun H' hC'=>by simp -implicitDefEqProofs only [go_sem,↓reduceIte,Nat.reduceEqDiff,jw]) ?_;refine dN (.dX (aI bs[j]) 0) (fun H' hC'=>by simp -implicitDefEqProofs only [go_sem,↓reduceIte,Nat.reduceEqDiff,hget]) ?_;refine dN (.str bs[j]) (fun H' hC'=>by simp -implicitDefEqProofs only [go_sem,↓reduceIte,Nat.reduceEqDiff,aI]) ?_;refine dN (.aA [[.str bs[j]]] .exact) (fun H' hC'=>by simp -implicitDefEqProofs only [go_sem,↓reduceIte,Nat.reduceEqDiff]) ?_;refine ais (f:=aI) jg bd [bs[j]] c16 .exact (by simp -implicitDefEqProofs only [go_sem,↓reduceIte,Nat.reduceEqDiff]) (by simp -implicitDefEqProofs only [go_sem,↓reduceIte,Nat.reduceEqDiff];try rfl) k16 (by simp;omega) (fun aed H2 g1 g2 g3 g4=> ?_);have hp2:=(g3 p).trans hp;have hb2:=(g3 b).trans hb;refine⟨⟨hp2,hb2⟩,?_⟩;refine dN (.aA (cd.map aI) c17) (fun H' hC'=>by simp -implicitDefEqProofs only [go_sem,↓reduceIte,Nat.reduceEqDiff,tH]) ?_;refine dN (.ref p 3) (fun H' hC'=>by simp -implicitDefEqProofs only [go_sem,↓reduceIte,Nat.reduceEqDiff,s9]) ?_;refine dN (.aA (nn.map aI) Q0) (fun H' hC'=>by
      have hC':=hC'.1;unfold jy at hC';simp -implicitDefEqProofs only [go_sem,↓reduceIte,Nat.reduceEqDiff,hC',List.getElem?_cons_zero,List.getElem?_cons_succ]) ?_
    refine dN (.ref b 3) (fun H' hC'=>by simp -implicitDefEqProofs only [go_sem,↓reduceIte,Nat.reduceEqDiff,s10]) ?_;refine dN (.aA (n.names.map aI) .unk) (fun H' hC'=>by
      have hC':=hC'.2;unfold jy at hC';simp -implicitDefEqProofs only [go_sem,↓reduceIte,Nat.reduceEqDiff,hC',List.getElem?_cons_zero,List.getElem?_cons_succ]) ?_
    refine dN (.aA (bs.map aI) .unk) (fun H' hC'=>by simp -implicitDefEqProofs only [go_sem,↓reduceIte,Nat.reduceEqDiff,s15]) ?_;refine dN (.int .i64 j) (fun H' hC'=>by simp -implicitDefEqProofs only [go_sem,↓reduceIte,Nat.reduceEqDiff,jw]) ?_;refine dN (.dX (aI bs[j]) 0) (fun H' hC'=>by simp -implicitDefEqProofs only [go_sem,↓reduceIte,Nat.reduceEqDiff,hget]) ?_;refine dN (.str bs[j]) (fun H' hC'=>by simp -implicitDefEqProofs only [go_sem,↓reduceIte,Nat.reduceEqDiff,aI]) ?_;refine yD (.int .i64 a) (by simp -implicitDefEqProofs only [go_sem,↓reduceIte,Nat.reduceEqDiff];exact afW ha) ?_;refine dN (.dX (aI t) 0) (fun H' hC'=>by simp -implicitDefEqProofs only [go_sem,↓reduceIte,Nat.reduceEqDiff,asH,ha0,List.length_map]) ?_;refine dN (.str t) (fun H' hC'=>by simp -implicitDefEqProofs only [go_sem,↓reduceIte,Nat.reduceEqDiff,aI]) ?_;refine dN (.aA [[.str t]] .exact) (fun H' hC'=>by simp -implicitDefEqProofs only [go_sem,↓reduceIte,Nat.reduceEqDiff]) ?_;show WO Tryz.prog [{dst:=some 104,k:=AK.d (DK.app 1 16 (AE.t 91) (AE.t 103)),g:=none},oM 16 90,oM 17 104] [Fm.block 5,Fm.seq (AC.ops [oM 82 18,oB 83 BinOp.add (AE.t 82) (AE.c (PV.int IntKind.i64 1)),oM 18 83])] (yX K Q) _ _
    obtain⟨aw3,aw4⟩:=g4 c17 k17 hd;refine gu (f:=aI) jg cd [t] c17 .exact (by simp -implicitDefEqProofs only [go_sem,↓reduceIte,Nat.reduceEqDiff]) (by simp -implicitDefEqProofs only [go_sem,↓reduceIte,Nat.reduceEqDiff];try rfl) aw3 (by simp;omega) (fun ait H3 e1 e2 e3 e4=> ?_);simp -implicitDefEqProofs only [go_sem,↓reduceIte,Nat.reduceEqDiff,jw,hw];have hf3:HF [] H H3:=⟨Nat.le_trans g2 e2,fun a _ _=>(e3 a).trans (g3 a)⟩;obtain⟨aiu,aw5⟩:=e4 aed g1 aw4.symm;refine hK _ _ (ih (j+1) (bd++[bs[j]]) (cd++[t]) aed ait r _ H3 (by omega) hr ((e3 p).trans hp2) ((e3 b).trans hb2) aiu e1 aw5.symm (by simp;omega) (by simp;omega) (by simp -implicitDefEqProofs only [go_sem,↓reduceIte,Nat.reduceEqDiff,s9]) (by simp -implicitDefEqProofs only [go_sem,↓reduceIte,Nat.reduceEqDiff,s10]) (by simp -implicitDefEqProofs only [go_sem,↓reduceIte,Nat.reduceEqDiff,s15]) (by simp -implicitDefEqProofs only [go_sem,↓reduceIte,Nat.reduceEqDiff]) (by simp -implicitDefEqProofs only [go_sem,↓reduceIte,Nat.reduceEqDiff]) (by simp -implicitDefEqProofs only [go_sem,↓reduceIte,Nat.reduceEqDiff]) fun σ' H4 u16 u17 v1 v2 v3 v4 v5=> ?_);rw [List.append_assoc]at v2 v3;refine q0 σ' H4 u16 u17 (fun i h12 hj=>(v1 i h12 hj).trans ?_) ?_ v3 (hf3.tr v4) (fun c3 w1 w2 w3=> ?_)
    · have:i≠78/\i≠79/\i≠80/\i≠81/\i≠82/\i≠83/\i≠84/\i≠85/\i≠86/\i≠87/\i≠88/\i≠89/\i≠90/\i≠91/\i≠92/\i≠93/\i≠94/\i≠95/\i≠96/\i≠97/\i≠98/\i≠99/\i≠100/\i≠101/\i≠102/\i≠103/\i≠104:=by omega
      simp only [upd,h12,this,↓reduceIte]
    · rw [v2,List.drop_eq_getElem_cons hjn];rfl
    · obtain⟨x1,x2⟩:=g4 c3 w1 w2;obtain⟨y1,y2⟩:=e4 c3 x1 w3;exact v5 c3 y1 x2 y2
end
end Go.VL
end
section
set_option maxRecDepth 8000
namespace Go.VL
open Go.Proofs Go.RowKit
theorem aco (l:List Str) (hl:l.length<=1000000) (H:AH):bC Tryz.prog 52 [.aA (l.map aI) .unk] H fun v H'=> ∃c',v= .aA (l.map aI) c'/\bn H' c'/\HF [] H H'/\ ∀c3,bn H c3->bn H' c3/\kI c' c3:=by
  refine aG R9 (by simp) (aD ?_);unfold R8;simp -implicitDefEqProofs only [go_sem,↓reduceIte,Nat.reduceEqDiff];refine gu (f:=aI) jg [] l .exact .unk (by simp -implicitDefEqProofs only [go_sem,↓reduceIte,Nat.reduceEqDiff]) (by simp -implicitDefEqProofs only [go_sem,↓reduceIte,Nat.reduceEqDiff];try rfl) trivial (by simp;omega) (fun c' H' g1 g2 g3 g4=> ?_);simp -implicitDefEqProofs only [go_sem,↓reduceIte,Nat.reduceEqDiff];exact⟨c',rfl,g1,⟨g2,fun a _ _=>g3 a⟩,fun c3 h=>g4 c3 h (fun t e=>by cases e)⟩
abbrev aee:=List Nd->Int->List Str->List Str->Option (List Nd×Int)
def Fe (rec:aee) (F:Nat) (e:List Nd) (old:Nd) (nn bound called:List Str):Nat->Nat->Int->Option (List (List Nd)×Int)
  |0,_,c=>some ([],c)
  |m+1,i,c=>Option.bind (tZ old (i:Int)) fun bs=>Option.bind (LD F old.names nn bs) fun ms=>Option.bind (yP F e (i:Int)) fun sub=>
      if bs.length<=1000000/\ms.length=bs.length then Option.bind (rec sub c (bound++bs) (called++ms)) fun p=>Option.bind (Fe rec F e old nn bound called m (i+1) p.2) fun q=>some (p.1::q.1,q.2)else none
def aqE (o:Nat) (taken:List Str) (cl:Ck) (rec:aee):Prop:=
  ∀(e:List Nd) (c:Int) (bound called:List Str) (r:List Nd) (c':Int),rec e c bound called=some (r,c')-> ∀H:AH,H.obj o=some [.aA (taken.map aI) cl,.int .i64 c]->o<H.next->
    bC Tryz.prog 87 [.ref o 0,cK e,.aA (bound.map aI) .unk,.aA (called.map aI) .unk] H fun v H'=>v=cK r/\H'.obj o=some [.aA (taken.map aI) cl,.int .i64 c']/\HF [o] H H'/\ ∀c3,bn H c3->bn H' c3
section
variable {taken:List Str} {F o p b:Nat} {cl Q0:Ck} {rec:aee} {e:List Nd} {old:Nd} {nn bound called:List Str} {Q:Post} {c':Int}
theorem alQ (hrec:aqE o taken cl rec) (hop:o≠p) (zQ:o≠b) (ha:old.args.length<=1000000) (hb1:bound.length<=1000000) (hb2:called.length<=1000000):
    ∀(m i:Nat) (parts ps:List (List Nd)) (ck:Ck) (c:Int) (σ:Nat->PV) (H:AH),i+m=old.args.length->Fe rec F e old nn bound called m i c=some (ps,c')->
    H.obj o=some [.aA (taken.map aI) cl,.int .i64 c]->H.obj p=some (jy old (.aA (nn.map aI) Q0))->H.obj b=some (jy old (.aA (old.names.map aI) .unk))->o<H.next->p<H.next->b<H.next->bn H ck->parts.length+m<=100000000->
    σ 0= .ref o 0->σ 1=cK e->σ 2= .aA (bound.map aI) .unk->σ 3= .aA (called.map aI) .unk->σ 9= .ref p 0->σ 10= .ref b 0->σ 13= .aA (parts.map (CZ Nd.cells)) ck->σ 14= .int .i64 i->
    (∀σ' H' AX,σ' 9= .ref p 0->σ' 13= .aA ((parts++ps).map (CZ Nd.cells)) AX->H'.obj o=some [.aA (taken.map aI) cl,.int .i64 c']->HF [o] H H'->(∀c3,bn H c3->kI ck c3->bn H' c3)->Q (.exit 2) σ' H')->W Tryz.prog (.loop Hg) Q σ H:=by
  intro m
  induction m with
  |zero=>
    intro i parts ps ck c σ H hi h ho hp hb lo lp lb hok hpl s0 s1 s2 s3 s9 s10 s13 JC q0;cases h;have hge:decide ((i:Int)<(old.args.length:Int))=false:=decide_eq_false (by omega);refine aT (fun K hK=>aD ?_);unfold Hg;have hb':=hb;unfold jy at hb';simp -implicitDefEqProofs only [go_sem,↓reduceIte,Nat.reduceEqDiff,s10,JC,hb',hge,List.getElem?_cons_zero,List.getElem?_cons_succ,List.length_map];exact q0 _ H ck (by simp -implicitDefEqProofs only [go_sem,↓reduceIte,Nat.reduceEqDiff,s9]) (by rw [List.append_nil];simp -implicitDefEqProofs only [go_sem,↓reduceIte,Nat.reduceEqDiff,s13]) ho (HF.refl _ _) (fun c3 h _=>h)
  |succ m ih=>
    intro i parts ps ck c σ H hi h ho hp hb lo lp lb hok hpl s0 s1 s2 s3 s9 s10 s13 JC q0;rw [Fe]at h;obtain⟨bs,hbs,h1⟩:=aj h;obtain⟨ms,hms,h2⟩:=aj h1;obtain⟨sub,hsub,h3⟩:=aj h2;obtain⟨⟨hbl,hml⟩,h4⟩:=aP h3;obtain⟨⟨r1,c1⟩,hr,h5⟩:=aj h4;obtain⟨⟨qs,c2⟩,hq,h6⟩:=aj h5;cases h6;clear h h1 h2 h3 h4 h5;have hlt:decide ((i:Int)<(old.args.length:Int))=true:=decide_eq_true (by omega);have hw:IntKind.wrap .i64 ((i:Int)+1)=((i+1:Nat):Int):=by rw [IntKind.wrap_i64];omega
    refine aT (fun K hK=>aD ?_);unfold Hg;have hb':=hb;unfold jy at hb';simp -implicitDefEqProofs only [go_sem,↓reduceIte,Nat.reduceEqDiff,s10,JC,hb',hlt,List.getElem?_cons_zero,List.getElem?_cons_succ,List.length_map,Nat.zero_add,List.length_cons,List.length_nil,Nat.reduceAdd,Nat.le_refl,List.take,List.drop];refine aB (Vp hbs) ?_;simp -implicitDefEqProofs only [go_sem,↓reduceIte,Nat.reduceEqDiff,s2];refine bC.mono (aco bound hb1 H) ?_;rintro _ H1 ⟨c16,rfl,k16,hf1,kk1⟩;simp -implicitDefEqProofs only [go_sem,↓reduceIte,Nat.reduceEqDiff,s3];refine bC.mono (aco called hb2 H1) ?_;rintro _ H2 ⟨c17,rfl,k17,hf2,kk2⟩;simp -implicitDefEqProofs only [go_sem,↓reduceIte,Nat.reduceEqDiff];have pQ:=hf1.tr hf2;obtain⟨aiu,d1⟩:=kk2 c16 k16;have hp2:=(pQ.2 p lp List.not_mem_nil).trans hp;have hb2':=(pQ.2 b lb List.not_mem_nil).trans hb;have ho2:=(pQ.2 o lo List.not_mem_nil).trans ho;refine alP (n:=old) (p:=p) (b:=b) (bs:=bs) (nn:=nn) (Q0:=Q0) (F:=F) hbl bs.length 0 bound called c16 c17 ms _ H2 (Nat.zero_add _) (by rw [List.drop_zero];exact hms) hp2 hb2' aiu k17 d1.symm (by omega) (by omega) (by simp -implicitDefEqProofs only [go_sem,↓reduceIte,Nat.reduceEqDiff,s9]) (by simp -implicitDefEqProofs only [go_sem,↓reduceIte,Nat.reduceEqDiff,s10]) (by simp -implicitDefEqProofs only [go_sem,↓reduceIte,Nat.reduceEqDiff]) (by simp -implicitDefEqProofs only [go_sem,↓reduceIte,Nat.reduceEqDiff]) (by simp -implicitDefEqProofs only [go_sem,↓reduceIte,Nat.reduceEqDiff]) (by simp -implicitDefEqProofs only [go_sem,↓reduceIte,Nat.reduceEqDiff];try rfl) fun σ' H3 u16 u17 fr e16 e17 hf3 kk3=> ?_;rw [List.drop_zero]at e16;have t0:σ' 0= .ref o 0:=(fr 0 (by decide) (by decide)).trans (by simp -implicitDefEqProofs only [go_sem,↓reduceIte,Nat.reduceEqDiff,s0]);have t1:σ' 1=cK e:=(fr 1 (by decide) (by decide)).trans (by simp -implicitDefEqProofs only [go_sem,↓reduceIte,Nat.reduceEqDiff,s1]);have t2:σ' 2= .aA (bound.map aI) .unk:=(fr 2 (by decide) (by decide)).trans (by simp -implicitDefEqProofs only [go_sem,↓reduceIte,Nat.reduceEqDiff,s2]);have t3:σ' 3= .aA (called.map aI) .unk:=(fr 3 (by decide) (by decide)).trans (by simp -implicitDefEqProofs only [go_sem,↓reduceIte,Nat.reduceEqDiff,s3]);have t9:σ' 9= .ref p 0:=(fr 9 (by decide) (by decide)).trans (by simp -implicitDefEqProofs only [go_sem,↓reduceIte,Nat.reduceEqDiff,s9]);have t10:σ' 10= .ref b 0:=(fr 10 (by decide) (by decide)).trans (by simp -implicitDefEqProofs only [go_sem,↓reduceIte,Nat.reduceEqDiff,s10]);have t13:σ' 13= .aA (parts.map (CZ Nd.cells)) ck:=(fr 13 (by decide) (by decide)).trans (by simp -implicitDefEqProofs only [go_sem,↓reduceIte,Nat.reduceEqDiff,s13]);have t14:σ' 14= .int .i64 i:=(fr 14 (by decide) (by decide)).trans (by simp -implicitDefEqProofs only [go_sem,↓reduceIte,Nat.reduceEqDiff,JC]);have aiv:=pQ.tr hf3;have lo3:o<H3.next:=Nat.lt_of_lt_of_le lo aiv.1;have ho3:=(aiv.2 o lo List.not_mem_nil).trans ho;have aqF: ∀c3,bn H c3->bn H3 c3:=fun c3 h=>by
      obtain⟨x1,x2⟩:=kk1 c3 h;obtain⟨y1,y2⟩:=kk2 c3 x1;exact kk3 c3 y1 x2 y2
    simp -implicitDefEqProofs only [go_sem,↓reduceIte,Nat.reduceEqDiff,t0,t1,t13,t14];refine aB (abl hsub) ?_;simp -implicitDefEqProofs only [go_sem,↓reduceIte,Nat.reduceEqDiff,e16,e17];refine bC.mono (bC.wk (hrec _ _ _ _ _ _ hr H3 ho3 lo3) (.same (.same (.aA (.aA .nil))))) ?_;rintro _ H4 ⟨rfl,ho4,hf4,kk4⟩;simp -implicitDefEqProofs only [go_sem,↓reduceIte,Nat.reduceEqDiff];refine gu (f:=CZ Nd.cells) amQ parts [r1] ck .exact (by simp -implicitDefEqProofs only [go_sem,↓reduceIte,Nat.reduceEqDiff]) (by simp -implicitDefEqProofs only [go_sem,↓reduceIte,Nat.reduceEqDiff];try rfl) (kk4 _ (aqF _ hok)) (by simp;omega) (fun ck5 H5 g1 g2 g3 g4=> ?_);simp -implicitDefEqProofs only [go_sem,↓reduceIte,Nat.reduceEqDiff,t14,hw];have Nn:HF [] H4 H5:=⟨g2,fun a _ _=>g3 a⟩;have ahk:HF [o] H H4:=(aiv.up fun a ha=>by cases ha).tr hf4;have KM:HF [o] H H5:=ahk.tr (Nn.up fun a ha=>by cases ha);have aqH: ∀c3,bn H c3->kI ck c3->bn H5 c3/\kI ck5 c3:=fun c3 w1 w2=>g4 c3 (kk4 _ (aqF _ w1)) w2;have op5:H5.obj p=some (jy old (.aA (nn.map aI) Q0)):=(KM.2 p lp (fun hm=>hop (List.mem_singleton.1 hm).symm)).trans hp;have ob5:H5.obj b=some (jy old (.aA (old.names.map aI) .unk)):=(KM.2 b lb (fun hm=>zQ (List.mem_singleton.1 hm).symm)).trans hb;refine hK _ _ (ih (i+1) (parts++[r1]) qs ck5 c1 _ H5 (by omega) hq ((g3 o).trans ho4) op5 ob5 (Nat.lt_of_lt_of_le lo KM.1) (Nat.lt_of_lt_of_le lp KM.1) (Nat.lt_of_lt_of_le lb KM.1) g1 (by simp;omega) (by simp -implicitDefEqProofs only [go_sem,↓reduceIte,Nat.reduceEqDiff,t0]) (by simp -implicitDefEqProofs only [go_sem,↓reduceIte,Nat.reduceEqDiff,t1]) (by simp -implicitDefEqProofs only [go_sem,↓reduceIte,Nat.reduceEqDiff,t2]) (by simp -implicitDefEqProofs only [go_sem,↓reduceIte,Nat.reduceEqDiff,t3]) (by simp -implicitDefEqProofs only [go_sem,↓reduceIte,Nat.reduceEqDiff,t9]) (by simp -implicitDefEqProofs only [go_sem,↓reduceIte,Nat.reduceEqDiff,t10]) (by simp -implicitDefEqProofs only [go_sem,↓reduceIte,Nat.reduceEqDiff]) (by simp -implicitDefEqProofs only [go_sem,↓reduceIte,Nat.reduceEqDiff]) fun σ6 H6 ck6 w1 w2 w3 w4 w5=> ?_);rw [List.append_assoc]at w2;exact q0 σ6 H6 ck6 w1 w2 w3 (KM.tr w4) (fun c3 x1 x2=>w5 c3 (aqH c3 x1 x2).1 (aqH c3 x1 x2).2)
end
end Go.VL
end
section
set_option maxRecDepth 8000
namespace Go.VL
open Go.Proofs Go.RowKit
def GX (taken:List Str) (F:Nat):Nat->aee
  |0=>fun _ _ _ _=>none
  |k+1=>fun e c bound called=>Option.bind (Eu e) fun root=>Option.bind (yJ F root) fun nm=>Option.bind (cond nm (vV F bound called root.text) (some root.text)) fun t=>
      Option.bind (xK taken F (root.kind==16||root.kind==17) root.names c) fun p=>
        if root.names.length<=1000000/\root.args.length<=1000000/\bound.length<=1000000/\called.length<=1000000 then
          Option.bind (Fe (GX taken F k) F e {root with text:=t} p.1 bound called root.args.length 0 p.2) fun q=>
            Option.bind (ER F {root with text:=t,names:=p.1} q.1) fun r=>some (r,q.2)else none
theorem alR {F:Nat} {root:Nd} {nm:Bool} {t:Str} {bound called:List Str} {p:Nat} {σ:Nat->PV} {H:AH} {Q:Post} (hnm:yJ F root=some nm) (ht:(cond nm (vV F bound called root.text) (some root.text))=some t)
    (s2:σ 2= .aA (bound.map aI) .unk) (s3:σ 3= .aA (called.map aI) .unk) (s9:σ 9= .ref p 0) (hp:H.obj p=some (jy root (.aA (root.names.map aI) .unk)))
    (q0: ∀σ' H',(∀j,j<21->σ' j=σ j)->H'.obj p=some (jy {root with text:=t} (.aA (root.names.map aI) .unk))->HF [p] H H'->H'.next=H.next->(∀c3,bn H c3->bn H' c3)->Q .normal σ' H'):W Tryz.prog S9 Q σ H:=by
  refine aD ?_;unfold S9;have hp':=hp;unfold jy at hp';simp -implicitDefEqProofs only [go_sem,↓reduceIte,Nat.reduceEqDiff,s9,hp',List.getElem?_cons_zero,List.getElem?_cons_succ,Nat.zero_add,List.length_cons,List.length_nil,Nat.reduceAdd,Nat.le_refl,List.take,List.drop];refine aB (Vo hnm) ?_;cases nm with
  |false=>
    cases ht;simp -implicitDefEqProofs only [go_sem,↓reduceIte,Nat.reduceEqDiff];refine q0 _ H (fun j hj=> ?_) hp (HF.refl _ _) rfl (fun _ h=>h);have:j≠21/\j≠22:=by omega
    simp only [upd,this,↓reduceIte]
  |true=>
    simp -implicitDefEqProofs only [go_sem,↓reduceIte,Nat.reduceEqDiff,s2,s3,s9,hp',List.getElem?_cons_zero,List.getElem?_cons_succ];refine aB (aea ht) ?_;simp -implicitDefEqProofs only [go_sem,↓reduceIte,Nat.reduceEqDiff,s9];refine QZ (id:=p) (o:=2) (vs:=[.str t]) (cs:=jy root (.aA (root.names.map aI) .unk)) (by simp -implicitDefEqProofs only [go_sem,↓reduceIte,Nat.reduceEqDiff]) (by simp -implicitDefEqProofs only [go_sem,↓reduceIte,Nat.reduceEqDiff]) hp rfl (by show 3<=5;decide) rfl ?_;have hput:putCells (jy root (.aA (root.names.map aI) .unk)) 2 [.str t]=jy {root with text:=t} (.aA (root.names.map aI) .unk):=rfl;rw [hput];simp -implicitDefEqProofs only [go_sem,↓reduceIte,Nat.reduceEqDiff];refine q0 _ _ (fun j hj=> ?_) (by show(if p=p then _ else _)=_;rw [if_pos rfl]) ⟨Nat.le_refl _,fun a ha hm=> ?_⟩ rfl (fun c3 h=>h.put)
    · have:j≠21/\j≠22/\j≠23/\j≠24/\j≠25/\j≠26/\j≠27/\j≠28:=by omega
      simp only [upd,this,↓reduceIte]
    · show(if a=p then _ else _)=_
      rw [if_neg (fun e=>hm (List.mem_singleton.2 e))]
theorem aqI {o:Nat} {taken:List Str} {cl:Ck} {F:Nat}: ∀k,aqE o taken cl (GX taken F k):=by
  intro k
  induction k with
  |zero=>intro e c bound called r c' h;cases h
  |succ k ih=>
    intro e c bound called r c' h H ho lo;rw [GX]at h;obtain⟨root,hroot,h1⟩:=aj h;obtain⟨nm,hnm,h2⟩:=aj h1;obtain⟨t,ht,h3⟩:=aj h2;obtain⟨⟨nn,c1⟩,hnn,h4⟩:=aj h3;obtain⟨⟨hb1,hb2,hb3,hb4⟩,h5⟩:=aP h4;obtain⟨⟨ps,c2⟩,hps,h6⟩:=aj h5;obtain⟨r',ako,h7⟩:=aj h6;cases h7;clear h h1 h2 h3 h4 h5 h6;refine aG avc (by simp) (aD ?_);unfold an4;simp -implicitDefEqProofs only [go_sem,↓reduceIte,Nat.reduceEqDiff];refine aB (YR hroot) ?_;simp -implicitDefEqProofs only [go_sem,dJ,↓reduceIte,Nat.reduceEqDiff,List.length_cons,List.length_nil,Nat.reduceAdd,Nat.le_refl];obtain⟨H1,hH1⟩: ∃H1,H1=(H.new [.int .i64 0,.int .i64 0,.str [],.aA [] .nil,.aA [] .nil]).put H.next (jy root (.aA (root.names.map aI) .unk)):=⟨_,rfl⟩;have e1:(H.new [.int .i64 0,.int .i64 0,.str [],.aA [] .nil,.aA [] .nil]).put H.next [.int .i64 root.kind,.int .i64 root.n,.str root.text,.aA (root.names.map aI) .unk,.aA (root.args.map aX) .unk]=H1:=hH1.symm;have hf1:HF [] H H1:=by rw [hH1];exact HF.put (.inr (Nat.le_refl _)) (HF.new (HF.refl _ _))
    have op1:H1.obj H.next=some (jy root (.aA (root.names.map aI) .unk)):=by rw [hH1];show(if H.next=H.next then _ else _)=_;rw [if_pos rfl]
    have nx1:H1.next=H.next+1:=by rw [hH1];rfl
    have ok1: ∀c3,bn H c3->bn H1 c3:=fun c3 h=>by rw [hH1];exact h.new.put
    simp only [e1];clear hH1 e1;refine alR (p:=H.next) hnm ht (by simp -implicitDefEqProofs only [go_sem,↓reduceIte,Nat.reduceEqDiff]) (by simp -implicitDefEqProofs only [go_sem,↓reduceIte,Nat.reduceEqDiff]) (by simp -implicitDefEqProofs only [go_sem,↓reduceIte,Nat.reduceEqDiff]) op1 fun σ2 H2 Q5 op2 hf2 nx2 ok2=> ?_;have t0:σ2 0= .ref o 0:=(Q5 0 (by decide)).trans (by simp -implicitDefEqProofs only [go_sem,↓reduceIte,Nat.reduceEqDiff]);have t1:σ2 1=cK e:=(Q5 1 (by decide)).trans (by simp -implicitDefEqProofs only [go_sem,↓reduceIte,Nat.reduceEqDiff]);have t2:σ2 2= .aA (bound.map aI) .unk:=(Q5 2 (by decide)).trans (by simp -implicitDefEqProofs only [go_sem,↓reduceIte,Nat.reduceEqDiff]);have t3:σ2 3= .aA (called.map aI) .unk:=(Q5 3 (by decide)).trans (by simp -implicitDefEqProofs only [go_sem,↓reduceIte,Nat.reduceEqDiff]);have t9:σ2 9= .ref H.next 0:=(Q5 9 (by decide)).trans (by simp -implicitDefEqProofs only [go_sem,↓reduceIte,Nat.reduceEqDiff]);obtain⟨old,hold⟩: ∃old:Nd,old={root with text:=t}:=⟨_,rfl⟩;have k1:old.kind=root.kind:=by rw [hold]
    have g1:old.args=root.args:=by rw [hold]
    have m1:old.names=root.names:=by rw [hold]
    have hj2:({root with text:=t,names:=nn}:Nd)={old with names:=nn}:=by rw [hold]
    rw [hj2]at ako;rw [<-hold]at op2 hps;rw [<-m1]at op2 hnn;rw [<-k1]at hnn;clear hold hj2;have hop2:o≠H.next:=by omega
    have ho2:H2.obj o=some [.aA (taken.map aI) cl,.int .i64 c]:=(hf2.2 o (Nat.lt_of_lt_of_le lo hf1.1) (fun hm=>hop2 (List.mem_singleton.1 hm))).trans ((hf1.2 o lo List.not_mem_nil).trans ho);have aqJ:=op2;unfold jy at aqJ;have hne: ¬(H.next=H2.next):=by omega
    have hne': ¬(H2.next=H.next):=by omega
    simp -implicitDefEqProofs only [go_sem,↓reduceIte,Nat.reduceEqDiff,dJ,t9,aqJ,hne,hne',List.getElem?_cons_zero,List.getElem?_cons_succ,Nat.zero_add,List.length_cons,List.length_nil,Nat.reduceAdd,Nat.le_refl,List.take,List.drop,Nat.reduceLeDiff];obtain⟨H4,hH4⟩: ∃H4,H4=((H2.new [.int .i64 0,.int .i64 0,.str [],.aA [] .nil,.aA [] .nil]).put H2.next (jy old (.aA (old.names.map aI) .unk))).put H.next (jy old (.aA [] .nil)):=⟨_,rfl⟩;have e4:((H2.new [.int .i64 0,.int .i64 0,.str [],.aA [] .nil,.aA [] .nil]).put H2.next [.int .i64 old.kind,.int .i64 old.n,.str old.text,.aA (old.names.map aI) .unk,.aA (old.args.map aX) .unk]).put H.next [.int .i64 old.kind,.int .i64 old.n,.str old.text,.aA [] .nil,.aA (old.args.map aX) .unk]=H4:=hH4.symm;have op4:H4.obj H.next=some (jy old (.aA [] .nil)):=by rw [hH4];show(if H.next=H.next then _ else _)=_;rw [if_pos rfl]
    have ob4:H4.obj H2.next=some (jy old (.aA (old.names.map aI) .unk)):=by
      rw [hH4];show(if H2.next=H.next then _ else if H2.next=H2.next then _ else _)=_;rw [if_neg (fun e=>hne e.symm),if_pos rfl]
    have ot4: ∀j,j<H2.next->j≠H.next->H4.obj j=H2.obj j:=fun j h1 h2=>by
      rw [hH4];show(if j=H.next then _ else if j=H2.next then _ else if j=H2.next then _ else _)=_;rw [if_neg h2,if_neg (by omega),if_neg (by omega)]
    have nx4:H4.next=H2.next+1:=by rw [hH4];rfl
    have ok4: ∀c3,bn H2 c3->bn H4 c3:=fun c3 h=>by rw [hH4];exact h.new.put.put
    simp only [e4];clear hH4 e4;have ho4:H4.obj o=some [.aA (taken.map aI) cl,.int .i64 c]:=(ot4 o (by omega) hop2).trans ho2;have aqK:=ob4;unfold jy at aqK;obtain⟨fx,hfx⟩: ∃fx,fx=(old.kind==16||old.kind==17):=⟨_,rfl⟩;rw [<-hfx]at hnn
    have key: ∀σ3,(∀j,j<31->j≠11->j≠12->σ3 j=upd (upd (upd σ2 (some 29) (PV.agg (jy old (.aA (old.names.map aI) .unk)))) (some 10) (PV.ref H2.next 0)) (some 30) (PV.ref H.next 3) j)->σ3 11= .bool fx->σ3 12= .int .i64 0->
        WS Tryz.prog Hf.loop [Fm.block 0,Fm.seq ((AC.ops [oR 13 (RK.aS (AE.c (PV.aA [] Ck.nil)))]).seq (((AC.ops [oI 14 0]).seq (AC.block 2 Hg.loop)).seq ((AC.ops [oA 115 5 9,oM 116 13,oC 117 84 [AE.t 115,AE.t 116],oM 8 117]).seq AC.ret)))]
          (Ro [RV.tmp 8] fun v H'=>v=cK r/\H'.obj o=some [PV.aA (List.map aI taken) cl,PV.int IntKind.i64 c2]/\HF [o] H H'/\ ∀(c3:Ck),bn H c3->bn H' c3) σ3 H4:=by
      intro σ3 fr3 s11 s12;have u0:σ3 0= .ref o 0:=(fr3 0 (by decide) (by decide) (by decide)).trans (by simp -implicitDefEqProofs only [go_sem,↓reduceIte,Nat.reduceEqDiff,t0]);have u1:σ3 1=cK e:=(fr3 1 (by decide) (by decide) (by decide)).trans (by simp -implicitDefEqProofs only [go_sem,↓reduceIte,Nat.reduceEqDiff,t1]);have u2:σ3 2= .aA (bound.map aI) .unk:=(fr3 2 (by decide) (by decide) (by decide)).trans (by simp -implicitDefEqProofs only [go_sem,↓reduceIte,Nat.reduceEqDiff,t2]);have u3:σ3 3= .aA (called.map aI) .unk:=(fr3 3 (by decide) (by decide) (by decide)).trans (by simp -implicitDefEqProofs only [go_sem,↓reduceIte,Nat.reduceEqDiff,t3]);have u9:σ3 9= .ref H.next 0:=(fr3 9 (by decide) (by decide) (by decide)).trans (by simp -implicitDefEqProofs only [go_sem,↓reduceIte,Nat.reduceEqDiff,t9]);have u10:σ3 10= .ref H2.next 0:=(fr3 10 (by decide) (by decide) (by decide)).trans (by simp -implicitDefEqProofs only [go_sem,↓reduceIte,Nat.reduceEqDiff]);have hnl:old.names.length<=1000000:=by rw [m1];exact hb1
      refine alO (n:=old) (o:=o) (p:=H.next) (b:=H2.next) (taken:=taken) (F:=F) (fx:=fx) (cl:=cl) (c':=c1) hnl hop2 (by omega) hne old.names.length 0 [] .nil c nn σ3 H4 (Nat.zero_add _) rfl (by rw [List.drop_zero];exact hnn) ho4 op4 ob4 (by omega) (by omega) (by omega) trivial u0 u9 u10 s11 s12 fun σ5 H5 ck5 Hy o5 p5 Nn kk5=> ?_;have b5:=(Nn.2 H2.next (by omega) (fun hm=>by
        rcases List.mem_cons.1 hm with q|q
        · omega
        · have:=List.mem_singleton.1 q;omega)).trans ob4
      have w0:σ5 0= .ref o 0:=(Hy 0 (by decide) (by decide)).trans u0;have w1:σ5 1=cK e:=(Hy 1 (by decide) (by decide)).trans u1;have w2:σ5 2= .aA (bound.map aI) .unk:=(Hy 2 (by decide) (by decide)).trans u2;have w3:σ5 3= .aA (called.map aI) .unk:=(Hy 3 (by decide) (by decide)).trans u3;have w9:σ5 9= .ref H.next 0:=(Hy 9 (by decide) (by decide)).trans u9;have w10:σ5 10= .ref H2.next 0:=(Hy 10 (by decide) (by decide)).trans u10;rw [List.nil_append]at p5;simp -implicitDefEqProofs only [go_sem,↓reduceIte,Nat.reduceEqDiff];have hal:old.args.length=root.args.length:=by rw [g1]
      refine alQ (o:=o) (p:=H.next) (b:=H2.next) (taken:=taken) (F:=F) (cl:=cl) (Q0:=ck5) (rec:=GX taken F k) (e:=e) (old:=old) (nn:=nn) (bound:=bound) (called:=called) (c':=c2) ih hop2 (by omega) (by rw [hal];exact hb2) hb3 hb4 old.args.length 0 [] ps .nil c1 _ H5 (Nat.zero_add _) (by rw [hal];exact hps) o5 p5 b5 (by have:=Nn.1;omega) (by have:=Nn.1;omega) (by have:=Nn.1;omega) trivial (by rw [List.length_nil,hal];omega) (by simp -implicitDefEqProofs only [go_sem,↓reduceIte,Nat.reduceEqDiff,w0]) (by simp -implicitDefEqProofs only [go_sem,↓reduceIte,Nat.reduceEqDiff,w1]) (by simp -implicitDefEqProofs only [go_sem,↓reduceIte,Nat.reduceEqDiff,w2]) (by simp -implicitDefEqProofs only [go_sem,↓reduceIte,Nat.reduceEqDiff,w3]) (by simp -implicitDefEqProofs only [go_sem,↓reduceIte,Nat.reduceEqDiff,w9]) (by simp -implicitDefEqProofs only [go_sem,↓reduceIte,Nat.reduceEqDiff,w10]) (by simp -implicitDefEqProofs only [go_sem,↓reduceIte,Nat.reduceEqDiff];try rfl) (by simp -implicitDefEqProofs only [go_sem,↓reduceIte,Nat.reduceEqDiff];try rfl) fun σ6 H6 ck6 v9 v13 o6 hf6 kk6=> ?_;have p6:=(hf6.2 H.next (by have:=Nn.1;omega) (fun hm=>hop2 (List.mem_singleton.1 hm).symm)).trans p5;have p6':=p6;unfold jy at p6';rw [List.nil_append]at v13;simp -implicitDefEqProofs only [go_sem,↓reduceIte,Nat.reduceEqDiff,v9,v13,p6',Nat.zero_add,List.length_cons,List.length_nil,Nat.reduceAdd,Nat.le_refl,List.take,List.drop];refine aB (aF.wx (ZE ako) (.agg (.same (.same (.same (.aA (.same .nil))))) (.same .nil))) ?_;simp -implicitDefEqProofs only [go_sem,↓reduceIte,Nat.reduceEqDiff];refine⟨o6,?_,fun c3 h=>kk6 c3 (kk5 c3 (ok4 c3 (ok2 c3 (ok1 c3 h))) (fun t e=>by cases e)) (fun t e=>by cases e)⟩;refine⟨by have:=Nn.1;have:=hf6.1;omega,fun a ha hm=> ?_⟩;have hap:a≠H.next:=by omega
      have hao:a≠o:=fun e=>hm (List.mem_singleton.2 e);rw [hf6.2 a (by have:=Nn.1;omega) hm,Nn.2 a (by omega) (fun h=>by
        rcases List.mem_cons.1 h with q|q
        · exact hao q
        · exact hap (List.mem_singleton.1 q)),ot4 a (by omega) hap,hf2.2 a (by omega) (fun h=>hap (List.mem_singleton.1 h)),hf1.2 a ha List.not_mem_nil]
    cases h16:(old.kind==16)with
    |true=>
      rw [h16]at hfx;simp -implicitDefEqProofs only [go_sem,↓reduceIte,Nat.reduceEqDiff,Ta,h16];refine key _ (fun j hj h1 h2=> ?_) (by rw [hfx];simp -implicitDefEqProofs only [go_sem,↓reduceIte,Nat.reduceEqDiff];try rfl) (by simp -implicitDefEqProofs only [go_sem,↓reduceIte,Nat.reduceEqDiff]);have:j≠31/\j≠32/\j≠33/\j≠34/\j≠35/\j≠36/\j≠37/\j≠38:=by omega
      simp only [upd,jy,h1,h2,this,↓reduceIte]
    |false=>
      rw [h16]at hfx;simp -implicitDefEqProofs only [go_sem,↓reduceIte,Nat.reduceEqDiff,Ta,h16,aqK,List.getElem?_cons_zero];refine key _ (fun j hj h1 h2=> ?_) (by rw [hfx];simp -implicitDefEqProofs only [go_sem,↓reduceIte,Nat.reduceEqDiff];try rfl) (by simp -implicitDefEqProofs only [go_sem,↓reduceIte,Nat.reduceEqDiff]);have:j≠31/\j≠32/\j≠33/\j≠34/\j≠35/\j≠36/\j≠37/\j≠38:=by omega
      simp only [upd,jy,h1,h2,this,↓reduceIte]
end Go.VL
end
section
namespace Go.VL
theorem LG {α β:Type} (f:Nat->α->Option β) (g:α->β): ∀l:List α,(∀x∈l,Ev (fun k=>f k x) (g x))-> ∃K,∀k,K<=k-> ∀x∈l,f k x=some (g x)
  |[],_=>⟨0,fun k _ x hx=>by cases hx⟩
  |a::l,h=>by
    obtain⟨K,hK⟩:=h a List.mem_cons_self;obtain⟨L,hL⟩:=LG f g l fun x hx=>h x (List.mem_cons_of_mem _ hx);refine⟨max K L,fun k hk x hx=> ?_⟩;rcases List.mem_cons.1 hx with rfl|hx
    · exact hK k (by omega)
    · exact hL k (by omega) x hx
theorem VT (c:Nat):KN ((c:Int)+1)=bN (c+1):=rfl
section
variable {left:List Str}
theorem af7 {K:Nat} (hK: ∀k,K<=k-> ∀x∈List.range 9002,bX k left (bN x)=some (decide (bN x∈left))):
    ∀(f c F:Nat),left.length<=f+cnt left c->c+f<=9000->K+f+1<=F->zP left F (c:Int)=some (bN (Cy left f c),((Cy left f c:Nat):Int)):=by
  intro f
  induction f with
  |zero=>
    intro c F h1 h2 h3;obtain⟨F,rfl⟩: ∃j,F=j+1:=⟨F -1,by omega⟩;have hn:bN (c+1)∉left:=fun hm=>by
      have h4:=Bw left c;have h5:=QW left (c+1);rw [if_pos hm]at h4;omega
    rw [zP,if_pos (by omega),VT,hK F (by omega) (c+1) (List.mem_range.2 (by omega)),Option.bind_some,decide_eq_false hn,cond_false];rfl
  |succ f ih=>
    intro c F h1 h2 h3;obtain⟨F,rfl⟩: ∃j,F=j+1:=⟨F -1,by omega⟩;rw [zP,if_pos (by omega),VT,hK F (by omega) (c+1) (List.mem_range.2 (by omega)),Option.bind_some];by_cases hm:bN (c+1)∈left
    · have h4:=Bw left c;rw [if_pos hm]at h4;rw [decide_eq_true hm,cond_true,Cy,if_pos hm];exact ih (c+1) F (by omega) (by omega) (by omega)
    · rw [decide_eq_false hm,cond_false,Cy,if_neg hm];rfl
theorem af8 {K:Nat} (hK: ∀k,K<=k-> ∀x∈List.range 9002,l9 k left (bN x)=some (decide (bN x∈left))) (hT: ∀k,K<=k-> ∀x∈List.range 9002,Es k ((x:Nat):Int)=some (Lib.decDigits x)):
    ∀(f c F:Nat),left.length<=f+cnt left c->c+f<=9000->K+f+1<=F->AQ left F (c:Int)=some (bN (Cy left f c),((Cy left f c:Nat):Int)):=by
  intro f
  induction f with
  |zero=>
    intro c F h1 h2 h3;obtain⟨F,rfl⟩: ∃j,F=j+1:=⟨F -1,by omega⟩;have hn:bN (c+1)∉left:=fun hm=>by
      have h4:=Bw left c;have h5:=QW left (c+1);rw [if_pos hm]at h4;omega
    have ht:=hT F (by omega) (c+1) (List.mem_range.2 (by omega));have hl:=Gf 3 (c+1) (by omega);rw [AQ,if_pos (by omega),show((c:Int)+1)=((c+1:Nat):Int)from rfl,ht,Option.bind_some,if_pos (by omega),show [98,95]++Lib.decDigits (c+1)=bN (c+1)from(QV _).symm,hK F (by omega) (c+1) (List.mem_range.2 (by omega)),Option.bind_some,decide_eq_false hn,cond_false];rfl
  |succ f ih=>
    intro c F h1 h2 h3;obtain⟨F,rfl⟩: ∃j,F=j+1:=⟨F -1,by omega⟩;have ht:=hT F (by omega) (c+1) (List.mem_range.2 (by omega));have hl:=Gf 3 (c+1) (by omega);rw [AQ,if_pos (by omega),show((c:Int)+1)=((c+1:Nat):Int)from rfl,ht,Option.bind_some,if_pos (by omega),show [98,95]++Lib.decDigits (c+1)=bN (c+1)from(QV _).symm,hK F (by omega) (c+1) (List.mem_range.2 (by omega)),Option.bind_some];by_cases hm:bN (c+1)∈left
    · have h4:=Bw left c;rw [if_pos hm]at h4;rw [decide_eq_true hm,cond_true,Cy,if_pos hm];exact ih (c+1) F (by omega) (by omega) (by omega)
    · rw [decide_eq_false hm,cond_false,Cy,if_neg hm]
end
structure Q6 (left:List Str) (F:Nat):Prop where
  p: ∀c:Nat,c+left.length<=9000->zP left F (c:Int)=some (bN (tu left c),((tu left c:Nat):Int))
  r: ∀c:Nat,c+left.length<=9000->AQ left F (c:Int)=some (bN (tu left c),((tu left c:Nat):Int))
theorem aaf (left:List Str) (hl:left.length<=9000): ∃K,∀F,K<=F->Q6 left F:=by
  obtain⟨K1,h1⟩:=LG (fun k x=>bX k left (bN x)) (fun x=>decide (bN x∈left)) (List.range 9002) (fun x _=>xM left (bN x) (by omega));obtain⟨K2,h2⟩:=LG (fun k x=>l9 k left (bN x)) (fun x=>decide (bN x∈left)) (List.range 9002) (fun x _=>pY left (bN x) (by omega));obtain⟨K3,h3⟩:=LG (fun k (x:Nat)=>Es k (x:Int)) (fun x=>Lib.decDigits x) (List.range 9002) (fun x hx=>by
    have:=List.mem_range.1 hx;have h:=afV (n:=(x:Int)) ⟨by omega,by omega⟩;rw [ZU]at h;exact h)
  refine⟨K1+K2+K3+left.length+1,fun F hF=>⟨fun c hc=> ?_,fun c hc=> ?_⟩⟩
  · exact af7 (K:=K1) (fun k hk x hx=>h1 k hk x hx) left.length c F (by omega) hc (by omega)
  · exact af8 (K:=K2+K3) (fun k hk x hx=>h2 k (by omega) x hx) (fun k hk x hx=>h3 k (by omega) x hx) left.length c F (by omega) hc (by omega)
theorem VU {left:List Str} {F:Nat} (h:Q6 left F): ∀(m c:Nat),(kU left m c).2+left.length<=9000->Fb left F m (c:Int)=some ((kU left m c).1,((kU left m c).2:Int))
  |0,c,hc=>rfl
  |m+1,c,hc=>by
    have h1:=(Cz left c).2.1;have h2:=E9 left m (tu left c);simp only [kU]at hc;rw [Fb,h.p c (by omega),Option.bind_some,VU h m (tu left c) hc];rfl
theorem VW {left:List Str} {F:Nat} (h:Q6 left F): ∀(l:List Str) (c:Nat),(kU left l.length c).2+left.length<=9000->xK left F false l (c:Int)=some ((kU left l.length c).1,((kU left l.length c).2:Int))
  |[],c,hc=>rfl
  |s::l,c,hc=>by
    have h1:=(Cz left c).2.1;have h2:=E9 left l.length (tu left c);simp only [List.length_cons,kU]at hc;rw [xK,cond_false,h.r c (by omega),Option.bind_some,VW h l (tu left c) hc];rfl
theorem VX {left:List Str} {F:Nat}: ∀(l:List Str) (c:Int),xK left F true l c=some (l,c)
  |[],c=>rfl
  |s::l,c=>by rw [xK,cond_true,Option.bind_some,VX l c];rfl
end Go.VL
end
section
namespace Go.VL
open Tm
def nG (k m:Int) (a p:Nat):Nat:=
  if(jD k).getD false=true then(if((p:Int)==IntKind.wrap .i64 ((a:Int) -1))=true then 1 else 0)
  else if k=23 then(if((p:Int)==IntKind.wrap .i64 ((a:Int) -1))=true then 2 else if m=1 then 1 else 3)else 0
def iR:Nat->List Str->List Str
  |1,l=>l
  |2,l=>l.take 1
  |3,l=>l.drop 1
  |_,_=>[]
theorem GY {n:Nd} (h:n.kind=23->1<=n.names.length) (p:Nat):gP n (p:Int)=some (iR (nG n.kind n.n n.args.length p) n.names):=by
  have hj: ∃b,jD n.kind=some b:=by
    unfold jD
    repeat' first
      |exact⟨_,rfl⟩
      |(generalize(n.kind==_)=b;cases b<;>simp only [cond_true,cond_false])
  obtain⟨b,hb⟩:=hj;unfold gP nG;rw [hb,Option.bind_some,Option.getD_some];cases b with
  |true=>
    rw [cond_true,if_pos rfl];cases((p:Int)==IntKind.wrap .i64 ((n.args.length:Int) -1))<;>rfl
  |false=>
    rw [cond_false,if_neg (show ¬(false=true) by simp)];by_cases hk:n.kind=23
    · have h2:=h hk;rw [uR (by rw [hk];rfl),if_pos hk,if_pos h2,if_pos h2];cases((p:Int)==IntKind.wrap .i64 ((n.args.length:Int) -1))with
      |true=>rfl
      |false=>
        by_cases hm:n.n=1
        · rw [hm];rfl
        · have:(n.n==1)=false:=beq_eq_false_iff_ne.2 hm;rw [this,if_neg (show ¬(false=true) by simp),if_neg hm];rfl
    · rw [nH (by rw [beq_eq_false_iff_ne];exact hk),if_neg hk];rfl
theorem af9 {n:Nd} (h:n.kind=23->1<=n.names.length) (p:Nat):wG n p=iR (nG n.kind n.n n.args.length p) n.names:=by
  unfold wG;rw [GY h];rfl
theorem VY (s:Nat) {l m:List Str} (h:l.length=m.length):(iR s l).length=(iR s m).length:=by
  unfold iR;split<;>simp [h]
theorem aag (s:Nat) (l:List Str):(iR s l).length<=l.length:=by
  unfold iR;split<;>simp<;>omega
theorem VZ {s:Nat} {l:List Str} {x:Str} (h:x∈iR s l):x∈l:=by
  unfold iR at h;split at h
  · exact h
  · exact List.mem_of_mem_take h
  · exact List.mem_of_mem_drop h
  · cases h
theorem alS {k m:Int} (h:k=16\/k=17) (a p:Nat):nG k m a p=0:=by
  unfold nG;rcases h with rfl|rfl
  · rw [if_neg (by decide),if_neg (by decide)]
  · rw [if_neg (by decide),if_neg (by decide)]
def fE (left:List Str) (x:Nd) (c:Nat):List Str×Nat:=if x.kind=16\/x.kind=17 then(x.names,c)else kU left x.names.length c
def AU (bd:List Scope) (x:Nd):Str:=if jI x=true then kV bd x.text else x.text
def nu (left:List Str) (bd:List Scope) (c:Nat) (x:Nd):Nd:={x with text:=AU bd x,names:=(fE left x c).1}
def r9 (x y:Nd) (a j:Nat):List Scope:=List.zipWith Scope.mk (iR (nG x.kind x.n a j) x.names) (iR (nG x.kind x.n a j) y.names)
mutual
def can (left:List Str) (bd:List Scope) (c:Nat):Tm->Tm×Nat
  | .mk x cs=>(.mk (nu left bd c x) (fK left bd x (nu left bd c x) cs.length 0 (fE left x c).2 cs).1,(fK left bd x (nu left bd c x) cs.length 0 (fE left x c).2 cs).2)
def fK (left:List Str) (bd:List Scope) (x y:Nd) (a j c:Nat):List Tm->List Tm×Nat
  |[]=>([],c)
  |t::ts=>((can left (bd++r9 x y a j) c t).1::(fK left bd x y a (j+1) (can left (bd++r9 x y a j) c t).2 ts).1,(fK left bd x y a (j+1) (can left (bd++r9 x y a j) c t).2 ts).2)
end
theorem Fg {left:List Str} {bd:List Scope} {c:Nat} {x:Nd} {cs:List Tm}:can left bd c (.mk x cs)=(.mk (nu left bd c x) (fK left bd x (nu left bd c x) cs.length 0 (fE left x c).2 cs).1,(fK left bd x (nu left bd c x) cs.length 0 (fE left x c).2 cs).2):=by rw [can]
theorem lM {left:List Str} {bd:List Scope} {x y:Nd} {a j c:Nat} {t:Tm} {ts:List Tm}:fK left bd x y a j c (t::ts)=((can left (bd++r9 x y a j) c t).1::(fK left bd x y a (j+1) (can left (bd++r9 x y a j) c t).2 ts).1,(fK left bd x y a (j+1) (can left (bd++r9 x y a j) c t).2 ts).2):=by rw [fK]
mutual
theorem vW (left:List Str): ∀(t:Tm) (bd:List Scope) (c:Nat),(can left bd c t).1.size=t.size
  | .mk x cs,bd,c=>by rw [Fg];simp only [size];rw [DC left cs]
theorem DC (left:List Str): ∀(cs:List Tm) (bd:List Scope) (x y:Nd) (a j c:Nat),sizes (fK left bd x y a j c cs).1=sizes cs
  |[],bd,x,y,a,j,c=>by rw [fK]
  |t::ts,bd,x,y,a,j,c=>by rw [lM];simp only [sizes];rw [vW left t,DC left ts]
end
theorem aah (left:List Str): ∀(cs:List Tm) (bd:List Scope) (x y:Nd) (a j c:Nat),(fK left bd x y a j c cs).1.length=cs.length
  |[],bd,x,y,a,j,c=>by rw [fK]
  |t::ts,bd,x,y,a,j,c=>by rw [lM,List.length_cons,List.length_cons,aah left ts]
theorem DF (left:List Str): ∀(cs:List Tm) (b:Nat) (bd:List Scope) (x y:Nd) (a j c:Nat),roots b (fK left bd x y a j c cs).1=roots b cs
  |[],b,bd,x,y,a,j,c=>by rw [fK]
  |t::ts,b,bd,x,y,a,j,c=>by rw [lM,roots,roots,vW,DF left ts]
theorem U1 (left:List Str): ∀(cs:List Tm) (bd:List Scope) (x y y':Nd) (a j c:Nat),y.names=y'.names->fK left bd x y a j c cs=fK left bd x y' a j c cs
  |[],bd,x,y,y',a,j,c,h=>by rw [fK,fK]
  |t::ts,bd,x,y,y',a,j,c,h=>by
    have hs:r9 x y a j=r9 x y' a j:=by unfold r9;rw [h]
    rw [lM,lM,hs,U1 left ts bd x y y' a (j+1) _ h]
theorem Fh (left:List Str) (x:Nd) (c:Nat):(fE left x c).1.length=x.names.length:=by
  unfold fE;split
  · rfl
  · exact VO left _ _
theorem alT (left:List Str) (x:Nd) (c:Nat):c<=(fE left x c).2:=by
  unfold fE;split
  · exact Nat.le_refl _
  · exact E9 left _ _
mutual
theorem aqL (left:List Str): ∀(t:Tm) (bd:List Scope) (c:Nat),c<=(can left bd c t).2
  | .mk x cs,bd,c=>by rw [Fg];exact Nat.le_trans (alT left x c) (yQ left cs _ _ _ _ _ _)
theorem yQ (left:List Str): ∀(cs:List Tm) (bd:List Scope) (x y:Nd) (a j c:Nat),c<=(fK left bd x y a j c cs).2
  |[],bd,x,y,a,j,c=>by rw [fK];exact Nat.le_refl _
  |t::ts,bd,x,y,a,j,c=>by rw [lM];exact Nat.le_trans (aqL left t _ _) (yQ left ts _ _ _ _ _ _)
end
end Go.VL
end
section
set_option maxRecDepth 8000
namespace Go.VL
open Go.Proofs Go.RowKit
theorem alU {H:AH} {n:Nd} {z:NV} {p:Nat} {r:List Str} {bi:Bool} (hbi:lD n.kind=some bi) (hz:bi=true->iQ H (n,z)) (h:gP n (p:Int)=some r):bC Tryz.prog 121 [.agg (jh (n,z)),.int .i64 p] H fun v H'=>nW H' r v z.ids/\HF [] H H'/\ ∀c,bn H c->bn H' c:=by
  cases bi with
  |true=>exact Z4 (hz rfl) h
  |false=>
    have:=af5 (VR hbi) h;subst this;exact af4 (VR hbi)
theorem aai {l l':List (Nd×NV)} {id o:Nat} (h:l'.map (·.2)=l.map (·.2)):kH l' id o=kH l id o:=by
  unfold kH
  have: ∀l:List (Nd×NV),(l.map fun x=>x.2.ids)=(l.map (·.2)).map NV.ids:=fun l=>by rw [List.map_map];rfl
  rw [this,this,h]
def aqM (v:PV) (id o lo:Nat) (left:List Str) (cl:Ck) (rec:aec):Prop:=
  ∀(out:List Nd) (c:Int) (i:Nat) (bound:List Scope) (out':List Nd) (c':Int),rec out c i bound=some (out',c')-> ∀(H:AH) (l:List (Nd×NV)),jZ H l v id o lo left cl c->l.map (·.1)=out->
    bC Tryz.prog 136 [.ref o 0,.int .i64 i,.aA (bound.map Scope.cells) .unk] H fun _ H'=> ∃l',l'.map (·.1)=out'/\l'.map (·.2)=l.map (·.2)/\jZ H' l' v id o lo left cl c'/\HF (kH l id o) H H'
section
variable {v:PV} {id o lo:Nat} {left:List Str} {cl:Ck} {rec:aec} {i q b N:Nat} {old:Nd} {z:NV} {bi:Bool} {bound:List Scope} {args:List Int} {Q:Post} {out':List Nd} {c':Int}
theorem aga (hrec:aqM v id o lo left cl rec) (hbi:lD old.kind=some bi) (hbd:bound.length<=1000000) (hal:args.length<=1000000) (hqN:N<=q) (hbN:N<=b) (hzN:bi=true-> ∀a∈z.ids,N<=a) {ck:Ck}:
    ∀(m j:Nat) (out:List Nd) (c:Int) (l:List (Nd×NV)) (σ:Nat->PV) (H:AH),j+m=args.length->LC rec old i bound (args.drop j) j out c=some (out',c')->jZ H l v id o lo left cl c->l.map (·.1)=out->(∀a∈kH l id o,a<N)->N<=H.next->
      (bi=true->iQ H (old,z))->q<H.next->b<H.next->H.obj q=some [.ref id (i*5)]->H.obj b=some (jh (old,z))->σ 0= .ref o 0->σ 2= .aA (bound.map Scope.cells) ck->σ 6= .ref q 0->σ 9= .ref b 0->σ 76= .aA (args.map aX) .unk->σ 77= .int .i64 args.length->σ 78= .int .i64 j->
      (∀σ' H' l',l'.map (·.1)=out'->l'.map (·.2)=l.map (·.2)->jZ H' l' v id o lo left cl c'->HF (kH l id o) H H'->Q (.exit 4) σ' H')->W Tryz.prog (.loop IW) Q σ H:=by
  intro m
  induction m with
  |zero=>
    intro j out c l σ H hj hA hV hl hN hNn hz hq hb ho zQ s0 s2 s6 s9 s76 s77 s78 q0;rw [List.drop_of_length_le (by omega)]at hA;cases hA;have hge:decide ((j:Int)<(args.length:Int))=false:=decide_eq_false (by omega);refine aT (fun K hK=>aD ?_);unfold IW;simp -implicitDefEqProofs only [go_sem,↓reduceIte,Nat.reduceEqDiff,s77,s78,hge];exact q0 _ H l hl rfl hV (HF.refl _ _)
  |succ m ih=>
    intro j out c l σ H hj hA hV hl hN hNn hz hq hb ho zQ s0 s2 s6 s9 s76 s77 s78 q0;have hja:j<args.length:=by omega
    rw [List.drop_eq_getElem_cons hja,LC]at hA;obtain⟨n,hn,hA1⟩:=aj hA;obtain⟨x,hx,hA2⟩:=aj hA1;obtain⟨y,hy,hA3⟩:=aj hA2;obtain⟨⟨hxy,hx1,ha0⟩,hA4⟩:=aP hA3;obtain⟨⟨aw6,c1⟩,hr,hA5⟩:=aj hA4;clear hA hA1 hA2 hA3 hA4;subst hl;rw [List.getElem?_map]at hn;obtain⟨⟨n0,y0⟩,Q7,hn⟩:=Option.map_eq_some_iff.1 hn;simp only at hn;subst hn;have hlt:decide ((j:Int)<(args.length:Int))=true:=decide_eq_true (by omega);have Gm:q∉kH l id o:=fun hm=>by have:=hN q hm;omega
    have aw7:(args.map aX)[j]? =some (aX args[j]):=by rw [List.getElem?_map,List.getElem?_eq_getElem hja];rfl
    refine aT (fun K hK=>aD ?_);unfold IW;simp -implicitDefEqProofs only [go_sem,↓reduceIte,Nat.reduceEqDiff,s76,s77,s78,hlt,s2,aw7];refine aB (afZ bound) ?_;have aqN:=zQ;unfold jh at aqN;simp -implicitDefEqProofs only [go_sem,↓reduceIte,Nat.reduceEqDiff,s9,aqN,Nat.zero_add,List.length_cons,List.length_nil,Nat.reduceAdd,Nat.le_refl,List.take,List.drop];refine bC.mono (alU hbi hz hx) ?_;rintro v87 H1 ⟨hB,hf1,hok1⟩;have hlen:=hB.len;have hV1:=hV.new hf1 (fun _ h=>by cases h);have ho1:=(hf1.2 q hq List.not_mem_nil).trans ho;simp -implicitDefEqProofs only [go_sem,↓reduceIte,Nat.reduceEqDiff,hlen];refine af3 (l:=l) (i:=i) (n:=n0) (y:=y0) (q:=q) (j:=j) (a:=x) (b:=y) (ids:=z.ids) (v87:=v87) (v:=v) (id:=id) (o:=o) (lo:=lo) (left:=left) (cl:=cl) (c:=c) Q7 Gm hy hxy hx1 x.length 0 bound .exact _ H1 (Nat.zero_add _) hB hV1 trivial (by simp -implicitDefEqProofs only [go_sem,↓reduceIte,Nat.reduceEqDiff]) (by simp -implicitDefEqProofs only [go_sem,↓reduceIte,Nat.reduceEqDiff]) (by simp -implicitDefEqProofs only [go_sem,↓reduceIte,Nat.reduceEqDiff]) (by simp -implicitDefEqProofs only [go_sem,↓reduceIte,Nat.reduceEqDiff]) (by simp -implicitDefEqProofs only [go_sem,↓reduceIte,Nat.reduceEqDiff]) (by simp -implicitDefEqProofs only [go_sem,↓reduceIte,Nat.reduceEqDiff,s6]) (Nat.lt_of_lt_of_le hq hf1.1) ho1 (by omega) fun σ' H2 AX fr e13 hf2=> ?_;have pQ:=hf1.tr hf2;have hV2:=hV1.new hf2 (fun _ h=>by cases h);rw [List.drop_zero,List.drop_zero]at e13;have t0:σ' 0= .ref o 0:=(fr 0 (by decide) (by decide)).trans (by simp -implicitDefEqProofs only [go_sem,↓reduceIte,Nat.reduceEqDiff,s0]);have t12:σ' 12= .int .i64 args[j]:=(fr 12 (by decide) (by decide)).trans (by simp -implicitDefEqProofs only [go_sem,↓reduceIte,Nat.reduceEqDiff]);have t2:σ' 2= .aA (bound.map Scope.cells) ck:=(fr 2 (by decide) (by decide)).trans (by simp -implicitDefEqProofs only [go_sem,↓reduceIte,Nat.reduceEqDiff,s2]);have t6:σ' 6= .ref q 0:=(fr 6 (by decide) (by decide)).trans (by simp -implicitDefEqProofs only [go_sem,↓reduceIte,Nat.reduceEqDiff,s6]);have t9:σ' 9= .ref b 0:=(fr 9 (by decide) (by decide)).trans (by simp -implicitDefEqProofs only [go_sem,↓reduceIte,Nat.reduceEqDiff,s9]);have t76:σ' 76= .aA (args.map aX) .unk:=(fr 76 (by decide) (by decide)).trans (by simp -implicitDefEqProofs only [go_sem,↓reduceIte,Nat.reduceEqDiff,s76]);have t77:σ' 77= .int .i64 args.length:=(fr 77 (by decide) (by decide)).trans (by simp -implicitDefEqProofs only [go_sem,↓reduceIte,Nat.reduceEqDiff,s77]);have t78:σ' 78= .int .i64 j:=(fr 78 (by decide) (by decide)).trans (by simp -implicitDefEqProofs only [go_sem,↓reduceIte,Nat.reduceEqDiff,s78]);simp -implicitDefEqProofs only [go_sem,↓reduceIte,Nat.reduceEqDiff,t0,t12,e13];have aw8:args[j]=((args[j].toNat:Nat):Int):=by omega
    rw [aw8];refine bC.mono (bC.wk (hrec _ _ _ _ _ _ hr H2 l hV2 rfl) (.same (.same (.aA .nil)))) ?_;rintro _ H3 ⟨l',r1,r2,r3,hf3⟩;have hw:IntKind.wrap .i64 ((j:Int)+1)=((j+1:Nat):Int):=by rw [IntKind.wrap_i64];omega
    simp -implicitDefEqProofs only [go_sem,↓reduceIte,Nat.reduceEqDiff,t78,hw];have hM: ∀a∈kH l' id o,a<N:=by rw [aai r2];exact hN
    have air:q<H2.next:=Nat.lt_of_lt_of_le hq pQ.1;have aqO:b<H2.next:=Nat.lt_of_lt_of_le hb pQ.1;have hbM:b∉kH l id o:=fun hm=>by have:=hN b hm;omega
    have o2:H2.obj q=_:=(pQ.2 q hq List.not_mem_nil).trans ho;have b2:H2.obj b=_:=(pQ.2 b hb List.not_mem_nil).trans zQ;have hz3:bi=true->iQ H3 (old,z):=fun h=>((hz h).hf pQ (fun _ _ h=>by cases h)).hf hf3 fun a ha hm=>by have:=hzN h a ha;have:=hN a hm;omega
    refine hK _ _ (ih (j+1) aw6 c1 l' _ H3 (by omega) hA5 r3 r1 hM (Nat.le_trans hNn (Nat.le_trans pQ.1 hf3.1)) hz3 (Nat.lt_of_lt_of_le air hf3.1) (Nat.lt_of_lt_of_le aqO hf3.1) ((hf3.2 q air Gm).trans o2) ((hf3.2 b aqO hbM).trans b2) (by simp -implicitDefEqProofs only [go_sem,↓reduceIte,Nat.reduceEqDiff,t0]) (by simp -implicitDefEqProofs only [go_sem,↓reduceIte,Nat.reduceEqDiff,t2]) (by simp -implicitDefEqProofs only [go_sem,↓reduceIte,Nat.reduceEqDiff,t6]) (by simp -implicitDefEqProofs only [go_sem,↓reduceIte,Nat.reduceEqDiff,t9]) (by simp -implicitDefEqProofs only [go_sem,↓reduceIte,Nat.reduceEqDiff,t76]) (by simp -implicitDefEqProofs only [go_sem,↓reduceIte,Nat.reduceEqDiff,t77]) (by simp -implicitDefEqProofs only [go_sem,↓reduceIte,Nat.reduceEqDiff]) fun σ4 H4 l4 u1 u2 u3 u4=> ?_);refine q0 σ4 H4 l4 u1 (u2.trans r2) u3 (((pQ.up fun a ha=>by cases ha).tr hf3).tr ?_);rw [aai r2]at u4;exact u4
end
end Go.VL
end
section
set_option maxRecDepth 8000
namespace Go.VL
open Go.Proofs Go.RowKit
theorem HF.old {M M':List Nat} {H H1 H2:AH} (h:HF M H H1) (h':HF M' H1 H2) (hs: ∀a∈M',a<H.next->a∈M):HF M H H2:=
  ⟨Nat.le_trans h.1 h'.1,fun a ha hm=>(h'.2 a (Nat.lt_of_lt_of_le ha h.1) fun hm'=>hm (hs a hm' ha)).trans (h.2 a ha hm)⟩
theorem alV {v:PV} {id o lo:Nat} {left:List Str} {cl:Ck} {F:Nat}: ∀k,aqM v id o lo left cl (GV left F k):=by
  intro k
  induction k with
  |zero=>intro out c i bound out' c' h;cases h
  |succ k ih=>
    intro out c i bound out' c' h H l hV hl;rw [GV]at h;obtain⟨n,hn,h1⟩:=aj h;obtain⟨nm,hnm,h2⟩:=aj h1;obtain⟨bi,hbi,h3⟩:=aj h2;obtain⟨⟨n2,c2⟩,LH,h4⟩:=aj h3;obtain⟨⟨hb1,hn1,ha1⟩,hA⟩:=aP h4;clear h h1 h2 h3 h4;subst hl;rw [List.getElem?_map]at hn;obtain⟨⟨n0,y⟩,Q7,hn⟩:=Option.map_eq_some_iff.1 hn;simp only at hn;subst hn;obtain⟨Z7,C,e1,hid,hC,hcell,hle,hdrop,hI⟩:=aO.content hV.own.row Q7;obtain rfl:id=Z7:=by simpa using e1
    have hI':kT 5 v (.int .i64 i)=some (.ref id (i*5)):=hI .i64 i (by omega) (by omega);have hoo:=hV.obj;refine aG arQ (by simp) (aD ?_);unfold ajj;simp -implicitDefEqProofs only [go_sem,dJ,↓reduceIte,Nat.reduceEqDiff,hoo,hI',List.getElem?_cons_zero,List.length_cons,List.length_nil,Nat.reduceAdd,Nat.le_refl];obtain⟨H1,hH1⟩: ∃H1,H1=(H.new [.qU]).put H.next [.ref id (i*5)]:=⟨_,rfl⟩;rw [<-hH1];have hf1:HF [] H H1:=by
      rw [hH1];exact HF.put (.inr (Nat.le_refl _)) (HF.new (HF.refl _ _))
    have oq1:H1.obj H.next=some [.ref id (i*5)]:=by
      rw [hH1];show(if H.next=H.next then some _ else _)=_;rw [if_pos rfl]
    have nx1:H.next<H1.next:=by rw [hH1];exact Nat.lt_succ_self _
    clear hH1;have hV1:=hV.new hf1 (fun a ha=>by cases ha);have Gm:H.next∉kH l id o:=fun hm=>Nat.lt_irrefl _ (hV.lts _ hm);refine aqx (l:=l) (i:=i) (n:=n0) (y:=y) (q:=H.next) (bound:=bound) (ck:= .unk) (nm:=nm) (k:=F) hV1 Q7 (by simp -implicitDefEqProofs only [go_sem,↓reduceIte,Nat.reduceEqDiff]) (by simp -implicitDefEqProofs only [go_sem,↓reduceIte,Nat.reduceEqDiff]) nx1 Gm oq1 hnm (by omega) fun σ2 H2 Q5 hV2 hf2 oq2=> ?_;obtain⟨n1,aaj⟩: ∃n1:Nd,n1={n0 with text:=if nm=true then kV bound n0.text else n0.text}:=⟨_,rfl⟩;have k1:n1.kind=n0.kind:=by rw [aaj]
    have g1:n1.args=n0.args:=by rw [aaj]
    have m1:n1.names=n0.names:=by rw [aaj]
    rw [<-aaj]at hV2 LH hA;clear aaj;have hi:=(List.getElem?_eq_some_iff.1 Q7).1;have aqP:(l.set i (n1,y))[i]? =some (n1,y):=by rw [List.getElem?_set,if_pos rfl,if_pos hi]
    have es2:kH (l.set i (n1,y)) id o=kH l id o:=Z5 Q7;obtain⟨id2,C2,e2,aBv,hC2,hcell2,hle2,aqQ,hI2⟩:=aO.content hV2.own.row aqP;obtain rfl:id=id2:=by simpa using e2
    have Yf:=hle2 5 (Nat.le_refl _);have t6:σ2 6= .ref H.next 0:=(Q5 6 (by decide)).trans (by simp -implicitDefEqProofs only [go_sem,↓reduceIte,Nat.reduceEqDiff]);have t0:σ2 0= .ref o 0:=(Q5 0 (by decide)).trans (by simp -implicitDefEqProofs only [go_sem,↓reduceIte,Nat.reduceEqDiff]);have t2:σ2 2= .aA (bound.map Scope.cells) .unk:=(Q5 2 (by decide)).trans (by simp -implicitDefEqProofs only [go_sem,↓reduceIte,Nat.reduceEqDiff]);simp -implicitDefEqProofs only [go_sem,↓reduceIte,Nat.reduceEqDiff,t6,oq2,hC2,aqQ,Yf,List.getElem?_cons_zero];have hcs:cellsOf (.agg (jh (n1,y)))=some (jh (n1,y)):=rfl;have hone:(jh (n1,y)).all PV.one=true:=by cases y<;>rfl
    have onew:(H2.new [.int .i64 0,.int .i64 0,.str [],.aA [] .nil,.aA [] .nil]).obj H2.next=some [.int .i64 0,.int .i64 0,.str [],.aA [] .nil,.aA [] .nil]:=by
      show(if H2.next=H2.next then some _ else _)=_
      rw [if_pos rfl]
    refine QZ (id:=H2.next) (o:=0) (vs:=jh (n1,y)) (cs:=[.int .i64 0,.int .i64 0,.str [],.aA [] .nil,.aA [] .nil]) (by simp -implicitDefEqProofs only [go_sem,↓reduceIte,Nat.reduceEqDiff]) (by simp -implicitDefEqProofs only [go_sem,↓reduceIte,Nat.reduceEqDiff,hcs]) onew rfl (by show 5<=5;decide) hone ?_;have hput:putCells [.int .i64 0,.int .i64 0,.str [],.aA [] .nil,.aA [] .nil] 0 (jh (n1,y))=jh (n1,y):=by cases y<;>rfl
    rw [hput];obtain⟨H3,hH3⟩: ∃H3,H3=(H2.new [.int .i64 0,.int .i64 0,.str [],.aA [] .nil,.aA [] .nil]).put H2.next (jh (n1,y)):=⟨_,rfl⟩;rw [<-hH3];have hf3:HF [] H2 H3:=by
      rw [hH3];exact HF.put (.inr (Nat.le_refl _)) (HF.new (HF.refl _ _))
    have ob3:H3.obj H2.next=some (jh (n1,y)):=by
      rw [hH3];show(if H2.next=H2.next then some _ else _)=_;rw [if_pos rfl]
    have nx3:H2.next<H3.next:=by rw [hH3];exact Nat.lt_succ_self _
    clear hH3;have nx2:H.next<H2.next:=Nat.lt_of_lt_of_le nx1 hf2.1;have hV3:=hV2.new hf3 (fun a ha=>by cases ha);have oq3:=(hf3.2 H.next nx2 List.not_mem_nil).trans oq2;simp -implicitDefEqProofs only [go_sem,↓reduceIte,Nat.reduceEqDiff];refine aqB (l:=l.set i (n1,y)) (i:=i) (n:=n1) (n':=n2) (y:=y) (q:=H.next) (b:=H2.next) (F:=F) (bi:=bi) (c:=c) (c':=c2) hV3 aqP (by rw [m1];exact hn1) (by rw [es2];exact Gm) (fun hm=>by rw [es2]at hm;have:=hV.lts _ hm;omega) (by omega) (by simp -implicitDefEqProofs only [go_sem,↓reduceIte,Nat.reduceEqDiff,t0]) (by simp -implicitDefEqProofs only [go_sem,↓reduceIte,Nat.reduceEqDiff,t6]) (by simp -implicitDefEqProofs only [go_sem,↓reduceIte,Nat.reduceEqDiff]) (Nat.lt_trans nx2 nx3) nx3 oq3 ob3 (by rw [k1];exact hbi) LH fun σ4 H4 z fr4 hV4 hz4 hf4 oq4 ob4=> ?_;rw [List.set_set]at hV4;have aw9:(l.set i (n2,y))[i]? =some (n2,y):=by rw [List.getElem?_set,if_pos rfl,if_pos hi]
    have es4:kH (l.set i (n2,y)) id o=kH l id o:=Z5 Q7;obtain⟨id4,C4,e4,aBw,hC4,aqS,aBx,azr,hI4⟩:=aO.content hV4.own.row aw9;obtain rfl:id=id4:=by simpa using e4
    have c4:C4[i*5+4]? =some (.aA (n2.args.map aX) .unk):=aqS 4 _ rfl;have g2:n2.args=n0.args:=by
      rw [<-g1];cases bi with
      |false=>cases LH;rfl
      |true=>obtain⟨p,_,hp⟩:=aj LH;cases hp;rfl
    rw [g2]at c4;have u6:σ4 6= .ref H.next 0:=(fr4 6 (by decide) (by decide)).trans (by simp -implicitDefEqProofs only [go_sem,↓reduceIte,Nat.reduceEqDiff,t6]);have u0:σ4 0= .ref o 0:=(fr4 0 (by decide) (by decide)).trans (by simp -implicitDefEqProofs only [go_sem,↓reduceIte,Nat.reduceEqDiff,t0]);have u2:σ4 2= .aA (bound.map Scope.cells) .unk:=(fr4 2 (by decide) (by decide)).trans (by simp -implicitDefEqProofs only [go_sem,↓reduceIte,Nat.reduceEqDiff,t2]);have u9:σ4 9= .ref H2.next 0:=(fr4 9 (by decide) (by decide)).trans (by simp -implicitDefEqProofs only [go_sem,↓reduceIte,Nat.reduceEqDiff]);simp -implicitDefEqProofs only [go_sem,↓reduceIte,Nat.reduceEqDiff,u6,oq4,hC4,c4,List.getElem?_cons_zero,List.length_map];have axa:HF (kH l id o) H H4:=by
      refine HF.old (((hf1.up fun a ha=>by cases ha).tr (hf2.up fun a ha=> ?_)).tr (hf3.up fun a ha=>by cases ha)) hf4 fun a hm ha=> ?_
      · rw [List.mem_singleton.1 ha];simp [kH]
      · rcases List.mem_cons.1 hm with rfl|hm
        · omega
        · rcases List.mem_cons.1 hm with rfl|hm
          · exact List.mem_cons_self
          · exact List.mem_cons_of_mem _ (List.mem_cons_of_mem _ (Mv Q7 hm))
    refine aga (left:=left) (cl:=cl) (rec:=GV left F k) (i:=i) (q:=H.next) (b:=H2.next) (N:=H.next) (old:=n1) (z:=z) (bi:=bi) (bound:=bound) (args:=n0.args) (out':=out') (c':=c') ih (by rw [k1];exact hbi) hb1 ha1 (Nat.le_refl _) (Nat.le_of_lt nx2) (fun hbt a ha=> ?_) n0.args.length 0 (out:=(l.map (·.1)).set i n2) (c:=c2) (l:=l.set i (n2,y)) (H:=H4) (ck:= .unk) (σ:=_) (Nat.zero_add _) (by rw [List.drop_zero];exact hA) hV4 (by rw [List.map_set]) (by rw [es4];exact hV.lts) (Nat.le_of_lt (Nat.lt_of_lt_of_le nx2 (Nat.le_trans hf3.1 hf4.1))) (fun h=>(hz4 h).1) (Nat.lt_of_lt_of_le (Nat.lt_trans nx2 nx3) hf4.1) (Nat.lt_of_lt_of_le nx3 hf4.1) oq4 ob4 (by simp -implicitDefEqProofs only [go_sem,↓reduceIte,Nat.reduceEqDiff,u0]) (by simp -implicitDefEqProofs only [go_sem,↓reduceIte,Nat.reduceEqDiff,u2]) (by simp -implicitDefEqProofs only [go_sem,↓reduceIte,Nat.reduceEqDiff,u6]) (by simp -implicitDefEqProofs only [go_sem,↓reduceIte,Nat.reduceEqDiff,u9]) (by simp -implicitDefEqProofs only [go_sem,↓reduceIte,Nat.reduceEqDiff]) (by simp -implicitDefEqProofs only [go_sem,↓reduceIte,Nat.reduceEqDiff]) (by simp -implicitDefEqProofs only [go_sem,↓reduceIte,Nat.reduceEqDiff];try rfl) fun σ5 H5 l5 w1 w2 w3 w4=> ?_
    · have:=(hz4 hbt).2 a ha;have:=hf1.1;have:=hf2.1;have:=hf3.1;omega
    · skip
      simp -implicitDefEqProofs only [go_sem,↓reduceIte,Nat.reduceEqDiff];refine⟨l5,w1,w2.trans ?_,w3,axa.tr ?_⟩
      · rw [List.map_set];obtain⟨h,e⟩:=List.getElem?_eq_some_iff.1 Q7
        have:(l.map (·.2))[i]'(by simpa using h)=y:=by rw [List.getElem_map,e]
        rw [<-this,List.set_getElem_self]
      · rw [es4]at w4;exact w4
end Go.VL
end
section
set_option maxRecDepth 8000
namespace Go.VL
open Go.Proofs Go.RowKit
theorem alW {α:Type} {H:AH} {f g:α->List PV} {sz:Nat} {l:List α} {v:PV} {ids:List Nat} [hr:qI f sz] (h:aO H f sz l v ids) (hg: ∀x,(g x).length=sz) (hz: ∀x∈l,∀(j:Nat) (c c':PV),(f x)[j]? =some c->(g x)[j]? =some c'->Fz H c c'):Fz H v (.aA (l.map g) .unk):=by
  have h0:=h;rcases h with⟨rfl,rfl,_⟩|⟨id,cap,junk,rfl,rfl,h2,h3,h4,h5⟩
  · exact .aA [] [] .nil .unk (.inl rfl) rfl (fun i cs cs' e=>by simp at e) (fun i cs cs' e=>by simp at e)
  · refine .bS id 0 l.length cap sz _ _ (fun i j=>((l.map f)[i]?.bind (·[j]?)).getD .any) h4 (by simp) h2 (fun i cs e=> ?_) (fun i cs e j c ec=> ?_) (fun i cs e j c ec=> ?_)
    · simp only [List.getElem?_map,Option.map_eq_some_iff]at e;obtain⟨x,_,rfl⟩:=e;exact hg x
    · simp only [List.getElem?_map,Option.map_eq_some_iff]at e;obtain⟨x,hx,rfl⟩:=e;obtain⟨id',C,e1,_,e2,e3,_⟩:=h0.content hx;cases e1;rw [h4]at e2;cases e2;have hj:j<(f x).length:=by rw [hr.len x,<-hg x];exact(List.getElem?_eq_some_iff.1 ec).1
      rw [List.getElem?_map,hx,Option.map_some,Option.bind_some,List.getElem?_eq_getElem hj,Option.getD_some,Nat.zero_add];exact e3 j _ (List.getElem?_eq_getElem hj)
    · simp only [List.getElem?_map,Option.map_eq_some_iff]at e;obtain⟨x,hx,rfl⟩:=e;have hj:j<(f x).length:=by rw [hr.len x,<-hg x];exact(List.getElem?_eq_some_iff.1 ec).1
      rw [List.getElem?_map,hx,Option.map_some,Option.bind_some,List.getElem?_eq_getElem hj,Option.getD_some];exact hz x (List.mem_of_getElem? hx) j _ _ (List.getElem?_eq_getElem hj) ec
theorem alX {H:AH} {n:Nd} {y:NV} (h:iQ H (n,y)):Ko H (jh (n,y)) n.cells:=by
  have hn:Fz H y.pv (.aA (n.names.map aI) .unk):=by
    cases y with
    |p l=>
      obtain⟨h1,h2⟩:l=[]/\n.names=[]:=h;subst h1;rw [h2];exact d9 bg [] .unk
    |m id len cap=>
      have hr:aO H aI 1 n.names (.bS id 0 len cap 1) [id]:=h.2;exact aO.fz bg hr
  exact .cons (.pure _ (.int _ _)) (.cons (.pure _ (.int _ _)) (.cons (.pure _ (.str _)) (.cons hn (.cons (d9 fH n.args .unk) .nil))))
theorem aqT {H:AH} {l:List (Nd×NV)} {v:PV} {id lo:Nat} (h:Kw H l v id l.length lo):Fz H v (cK (l.map (·.1))):=by
  have:=alW (g:=fun x:Nd×NV=>x.1.cells) h.row (fun _=>rfl) fun x hx j c c' e e'=>by
    obtain⟨i,hi⟩:=List.mem_iff_getElem?.1 hx;have hn:=h.C8 i x hi;rw [if_pos (List.getElem?_eq_some_iff.1 hi).1]at hn;obtain⟨n,y⟩:=x;exact(alX hn).get.2 j c c' e e'
  have e2:l.map (fun x:Nd×NV=>x.1.cells)=(l.map (·.1)).map Nd.cells:=by rw [List.map_map];rfl
  rw [e2]at this;exact this
def vX (k:Nat) (e:List Nd):Option (List Nd):=
  if 0<e.length/\e.length<=1000000/\(∀n∈e,n.names.length<=1000000/\n.args.length<=1000000)then
    Option.bind (xI k e) fun left=>Option.bind (GV left k k e 0 (e.length -1) []) fun p=>some p.1 else none
theorem agb {k:Nat} {e r:List Nd} {ck:Ck} (h:vX k e=some r):aF Tryz.prog 86 [Xh e ck] (cK r):=by
  refine aF.wk (args:=[cK e]) ?_ (.aA .nil);unfold vX at h;obtain⟨⟨h0,h1,h2⟩,h3⟩:=aP h;obtain⟨left,hleft,h4⟩:=aj h3;obtain⟨⟨out,c'⟩,aqU,h5⟩:=aj h4;cases h5;clear h h3 h4;refine aF.aQ (bf.mem (.cons (aU Nd.pu _) .nil)) (aG avb (by simp) (aD ?_)) (aU Nd.pu _);unfold an3;simp -implicitDefEqProofs only [go_sem,↓reduceIte,Nat.reduceEqDiff];refine bC.mono (adh e h0 (fun i n hi=>h2 n (List.mem_of_getElem? hi)) h1 AH.empty) ?_;rintro v H1 ⟨id,l,hle,hO,hf1,hok⟩;subst hle;rw [List.length_map]at hO;simp -implicitDefEqProofs only [go_sem,↓reduceIte,Nat.reduceEqDiff];refine aB (ZG k _ hleft) ?_;obtain⟨cap,rfl⟩: ∃cap,v= .bS id 0 l.length cap 5:=by
    rcases hO.row with⟨_,_,h⟩|⟨id',cap,junk,e1,e2,_⟩
    · cases h
    · cases e1;exact⟨cap,e2⟩
  have hlen:((List.map Prod.fst l).map Nd.cells).length=l.length:=by rw [List.length_map,List.length_map]
  have hw:IntKind.wrap .i64 ((l.length:Int) -1)=((l.length -1:Nat):Int):=by
    rw [List.length_map]at h0 h1;rw [IntKind.wrap_i64];omega
  simp -implicitDefEqProofs only [go_sem,↓reduceIte,Nat.reduceEqDiff,List.take,List.drop,List.append_eq,Nat.reduceLeDiff];obtain⟨H2,hH2⟩: ∃H2,H2=H1.new [.bS id 0 l.length cap 5,.aA (left.map aI) .unk,.int .i64 0]:=⟨_,rfl⟩;have hf2:HF [] H1 H2:=by rw [hH2];exact HF.new (HF.refl _ _)
  have ob:H2.obj H1.next=some [.bS id 0 l.length cap 5,.aA (left.map aI) .unk,.int .i64 0]:=by
    rw [hH2];show(if H1.next=H1.next then some _ else _)=_;rw [if_pos rfl]
  have nx:H1.next<H2.next:=by rw [hH2];exact Nat.lt_succ_self _
  have aBy:id<H1.next:=hO.row.lt _ (List.mem_singleton.2 rfl);have hV:jZ H2 l (.bS id 0 l.length cap 5) id H1.next AH.empty.next left .unk 0:=by
    refine⟨⟨hO.row.hf hf2 (fun _ _ h=>by cases h),fun i x hx=> ?_,hO.dj,hO.ne,hO.lob,hO.TI⟩,ob,nx,by omega,fun i x hx hm=> ?_⟩
    · have:=hO.C8 i x hx;rw [if_pos (List.getElem?_eq_some_iff.1 hx).1]at this⊢;exact this.hf hf2 (fun _ _ h=>by cases h)
    · have:=hO.C8 i x hx;rw [if_pos (List.getElem?_eq_some_iff.1 hx).1]at this;have:=this.lt _ hm;omega
  rw [List.length_map]at aqU;rw [hw,<-hH2];refine bC.mono (bC.wk (alV k _ _ _ [] _ _ aqU H2 l hV rfl) (.same (.same (.aA .nil)))) ?_;rintro _ H3 ⟨l',r1,r2,r3,hf3⟩;have o3:=r3.obj;simp -implicitDefEqProofs only [go_sem,↓reduceIte,Nat.reduceEqDiff,o3,List.getElem?_cons_zero];subst r1;exact aqT r3.own
end Go.VL
end
section
namespace Go.VL
open Tm
theorem acv {e:List Nd} (hF:yu e) {i:Nat} {n:Nd} (hn:e[i]? =some n):n.kind=23->1<=n.names.length:=fun hk=>(OQ (hF.ok i n hn) hk).2
theorem abp (k:Int):lD k=some (!decide (k=16\/k=17)):=by
  unfold lD;by_cases h:k=16
  · subst h;rfl
  · by_cases h2:k=17
    · subst h2;rfl
    · rw [show(k !=16)=true by simp [h],show(k !=17)=true by simp [h2]];simp [h,h2]
theorem alY {left:List Str} {F:Nat} (hFr:Q6 left F) (n:Nd) (c:Nat) (hc:(fE left n c).2+left.length<=9000):Z8 left F (!decide (n.kind=16\/n.kind=17)) n (c:Int)=some ({n with names:=(fE left n c).1},((fE left n c).2:Int)):=by
  unfold fE at hc⊢;unfold Z8;by_cases h:n.kind=16\/n.kind=17
  · rw [if_pos h,decide_eq_true h];rfl
  · rw [if_neg h]at hc;rw [if_neg h,decide_eq_false h];show Option.bind (Fb left F n.names.length (c:Int)) _=_
    rw [VU hFr _ _ hc];rfl
theorem set_mid {α:Type} (pre A post:List α) (n m:α) {i:Nat} (hi:i=pre.length+A.length):(pre++((A++[n])++post)).set i m=pre++((A++[m])++post):=by
  subst hi;rw [List.set_append_right _ _ (by omega),show pre.length+A.length -pre.length=A.length by omega,List.append_assoc,List.set_append_right _ _ (by omega),Nat.sub_self,List.append_assoc];rfl
theorem agc {left:List Str} {F k:Nat} {out:List Nd} {c c2:Int} {i:Nat} {bd:List Scope} {n n1 n2:Nd} {bi:Bool} (hget:out[i]? =some n) (hnm:mW F n=some (jI n)) (hbi:lD n.kind=some bi)
    (h1:({n with text:=if jI n=true then kV bd n.text else n.text}:Nd)=n1) (LH:Z8 left F bi n1 c=some (n2,c2)) (hl:bd.length<=1000000/\n.names.length<=1000000/\n.args.length<=1000000):
    GV left F (k+1) out c i bd=LC (GV left F k) n1 i bd n.args 0 (out.set i n2) c2:=by
  subst h1;rw [GV];simp only [hget,hnm,hbi,Option.bind_some];rw [LH,Option.bind_some,if_pos hl]
section
variable {left:List Str} {F:Nat} (hFr:Q6 left F) {e:List Nd} (hF:yu e) (hN: ∀n∈e,mW F n=some (jI n))
include hFr hF hN
mutual
theorem aak: ∀(t:Tm) (b:Nat) (bd:List Scope) (c k:Nat) (pre post:List Nd),Seg e b t->pre.length=b->t.size<=k->bd.length+34*(b+t.size -1)<=10000->(can left bd c t).2+left.length<=9000->
    GV left F k (pre++(flat b t++post)) (c:Int) (b+t.size -1) bd=some (pre++(flat b (can left bd c t).1++post),((can left bd c t).2:Int))
  | .mk x cs,b,bd,c,k,pre,post,hS,hp,hk,hb,hc=>by
    have hn:=hS.node;have hsz:b+(Tm.mk x cs).size -1=b+sizes cs:=by simp only [size];omega
    rw [hsz]at hb⊢;obtain⟨k,rfl⟩: ∃j,k=j+1:=⟨k -1,by simp only [size]at hk;omega⟩;have Ay:=hF.few _ _ hn;have hget:(pre++(flat b (.mk x cs)++post))[b+sizes cs]? =some (nd x b cs):=(show Seg (pre++(flat b (.mk x cs)++post)) b (.mk x cs)from⟨pre,post,rfl,hp⟩).node;have hnb:jI (nd x b cs)=jI x:=rfl;rw [Fg]at hc⊢;have hle:=yQ left cs bd x (nu left bd c x) cs.length 0 (fE left x c).2
    have LH:=alY hFr (nd {x with text:=AU bd x} b cs) c (by
      show(fE left x c).2+left.length<=9000
      simp only at hc;omega)
    rw [agc (n:=nd x b cs) (n1:=nd {x with text:=AU bd x} b cs) (n2:=nd (nu left bd c x) b cs) (c2:=((fE left x c).2:Int)) hget (hN _ (List.mem_of_getElem? hn)) (abp _) rfl LH ⟨by omega,by have:=Ay.2;omega,by have:=Ay.1;omega⟩];have hset:(pre++(flat b (.mk x cs)++post)).set (b+sizes cs) (nd (nu left bd c x) b cs)=pre++((bq b []++bq (b+sizes []) cs)++([nd (nu left bd c x) b cs]++post)):=by
      rw [kQ,set_mid pre (bq b cs) post _ _ (by rw [hp,cB])];simp only [bq,sizes,List.nil_append,Nat.add_zero,List.append_assoc]
    rw [hset]
    have:=aal cs x (nd (nu left bd c x) b cs) (nd {x with text:=AU bd x} b cs) [] [] b bd (fE left x c).2 k pre post hS hp rfl (by simp only [size]at hk;omega) (by simpa using hb) (by
      have e1:fK left bd x (nd (nu left bd c x) b cs) ([]++cs).length ([]:List Tm).length (fE left x c).2 cs=fK left bd x (nu left bd c x) cs.length 0 (fE left x c).2 cs:=U1 left cs _ _ _ _ _ _ _ rfl;rw [e1];exact hc) rfl rfl rfl (by rw [List.nil_append];exact jr b cs) rfl rfl (Fh left x c) (by rw [List.nil_append];exact jr b cs)
    simp only [List.nil_append,List.length_nil]at this;have e1:fK left bd x (nd (nu left bd c x) b cs) cs.length 0 (fE left x c).2 cs=fK left bd x (nu left bd c x) cs.length 0 (fE left x c).2 cs:=U1 left cs _ _ _ _ _ _ _ rfl;rw [e1]at this;rw [show sizes ([]:List Tm)=0 from rfl,Nat.add_zero]at this;rw [show sizes ([]:List Tm)=0 from rfl,Nat.add_zero];refine this.trans ?_;rw [kQ];have e2:nd (nu left bd c x) b (fK left bd x (nu left bd c x) cs.length 0 (fE left x c).2 cs).1=nd (nu left bd c x) b cs:=by unfold nd;rw [DF]
    rw [e2];simp only [bq,List.nil_append,List.append_assoc]
theorem aal: ∀(cs:List Tm) (x y n1:Nd) (l l':List Tm) (b:Nat) (bd:List Scope) (c k:Nat) (pre post:List Nd),Seg e b (.mk x (l++cs))->pre.length=b->sizes l'=sizes l->sizes cs<=k->bd.length+34*(b+sizes (l++cs))<=10000->
    (fK left bd x y (l++cs).length l.length c cs).2+left.length<=9000->n1.kind=x.kind->n1.n=x.n->n1.names=x.names->n1.args.length=(l++cs).length->y.kind=x.kind->y.n=x.n->y.names.length=x.names.length->y.args.length=(l++cs).length->
    LC (GV left F k) n1 (b+sizes (l++cs)) bd (roots (b+sizes l) cs) l.length (pre++((bq b l'++bq (b+sizes l) cs)++([y]++post))) (c:Int)=
      some (pre++((bq b l'++bq (b+sizes l) (fK left bd x y (l++cs).length l.length c cs).1)++([y]++post)),((fK left bd x y (l++cs).length l.length c cs).2:Int))
  |[],x,y,n1,l,l',b,bd,c,k,pre,post,hS,hp,hl',hk,hb,hc,m1,m2,m3,m4,y1,y2,y3,y4=>by rw [roots,LC,fK]
  |t::cs,x,y,n1,l,l',b,bd,c,k,pre,post,hS,hp,hl',hk,hb,hc,m1,m2,m3,m4,y1,y2,y3,y4=>by
    have hn:=hS.node;have Ay:=hF.few _ _ hn;have h23:=acv hF hn;have hcp:=t.size_pos;have hsz:sizes (l++t::cs)=sizes l+(t.size+sizes cs):=by rw [dV,sizes]
    have hk2:sizes (t::cs)=t.size+sizes cs:=by rw [sizes]
    have hal:(nd x b (l++t::cs)).args.length=(l++t::cs).length:=jr b _;have e1:l++t::cs=(l++[t])++cs:=by simp
    have e2:l.length+1=(l++[t]).length:=by simp
    have e3:b+sizes l+t.size=b+sizes (l++[t]):=by rw [dV,qA];omega
    have hbx:gP n1 (l.length:Int)=some (iR (nG x.kind x.n (l++t::cs).length l.length) x.names):=by
      rw [GY (by rw [m1,m3];exact h23),m1,m2,m3,m4]
    have hby:gP y (l.length:Int)=some (iR (nG x.kind x.n (l++t::cs).length l.length) y.names):=by
      rw [GY (by rw [y1,y3];exact h23),y1,y2,y4]
    rw [lM]at hc⊢;obtain⟨t',ht'⟩: ∃t',t'=(can left (bd++r9 x y (l++t::cs).length l.length) c t):=⟨_,rfl⟩;have hts:=vW left t (bd++r9 x y (l++t::cs).length l.length) c;rw [<-ht']at hc hts⊢;have hcl:=yQ left cs bd x y (l++t::cs).length (l.length+1) t'.2;have hpl:=aag (nG x.kind x.n (l++t::cs).length l.length) x.names;have NH:(iR (nG x.kind x.n (l++t::cs).length l.length) x.names).length=(iR (nG x.kind x.n (l++t::cs).length l.length) y.names).length:=VY _ y3.symm;have hnx:x.names.length<=34:=Ay.2;have aBz:(r9 x y (l++t::cs).length l.length).length<=34:=by
      unfold r9;rw [List.length_zipWith];omega
    have hget:(pre++((bq b l'++bq (b+sizes l) (t::cs))++([y]++post)))[b+sizes (l++t::cs)]? =some y:=by
      rw [List.getElem?_append_right (by omega),List.getElem?_append_right (by rw [List.length_append,cB,cB];omega),List.length_append,cB,cB,show b+sizes (l++t::cs) -pre.length -(sizes l'+sizes (t::cs))=0 by omega];rfl
    have hin:=aak t (b+sizes l) (bd++r9 x y (l++t::cs).length l.length) c k (pre++bq b l') (bq (b+sizes l+t.size) cs++([y]++post)) hS.kid (by rw [List.length_append,cB];omega) (by omega) (by rw [List.length_append];omega) (by rw [<-ht'];simp only at hc;omega);have axb:pre++((bq b l'++bq (b+sizes l) (t::cs))++([y]++post))=(pre++bq b l')++(flat (b+sizes l) t++(bq (b+sizes l+t.size) cs++([y]++post))):=by rw [iw];simp only [List.append_assoc]
    have asI:(pre++bq b l')++(flat (b+sizes l) t'.1++(bq (b+sizes l+t.size) cs++([y]++post)))=pre++((bq b (l'++[t'.1])++bq (b+sizes (l++[t])) cs)++([y]++post)):=by
      rw [pz,vR,hl',e3];simp only [List.append_assoc]
    rw [<-ht']at hin;have htn:(((b+sizes l+t.size -1:Nat):Int)).toNat=b+sizes l+t.size -1:=by omega
    rw [roots,LC,hget,Option.bind_some,hbx,Option.bind_some,hby,Option.bind_some,if_pos ⟨by omega,by omega,by omega⟩,htn,show List.zipWith Scope.mk (iR (nG x.kind x.n (l++t::cs).length l.length) x.names) (iR (nG x.kind x.n (l++t::cs).length l.length) y.names)=r9 x y (l++t::cs).length l.length from rfl,axb,hin,Option.bind_some];simp only;rw [asI];have hrest:=aal cs x y n1 (l++[t]) (l'++[t'.1]) b bd t'.2 k pre post (by rw [<-e1];exact hS) hp (by rw [dV,dV,qA,qA,hl',hts]) (by omega) (by rw [<-e1];exact hb) (by rw [<-e1,<-e2];exact hc) m1 m2 m3 (by rw [<-e1];exact m4) y1 y2 y3 (by rw [<-e1];exact y4);rw [<-e1,<-e2]at hrest;rw [<-e3,e3];refine hrest.trans ?_;rw [pz,vR,iw,hl',<-e3,hts];simp only [List.append_assoc]
end
end
end Go.VL
end
section
namespace Go.VL
open Tm
mutual
def nmT:Tm->Nat
  | .mk x cs=>x.names.length+V3 cs
def V3:List Tm->Nat
  |[]=>0
  |t::ts=>nmT t+V3 ts
end
theorem aiw (left:List Str) (x:Nd) (c:Nat):(fE left x c).2+cnt left c<=c+x.names.length+cnt left (fE left x c).2:=by
  unfold fE;split
  · simp only;omega
  · have:=VP left x.names.length c;omega
mutual
theorem acw (left:List Str): ∀(t:Tm) (bd:List Scope) (c:Nat),(can left bd c t).2+cnt left c<=c+nmT t+cnt left (can left bd c t).2
  | .mk x cs,bd,c=>by
    rw [Fg,nmT];have h1:=aiw left x c;have h2:=aam left cs bd x (nu left bd c x) cs.length 0 (fE left x c).2;simp only;omega
theorem aam (left:List Str): ∀(cs:List Tm) (bd:List Scope) (x y:Nd) (a j c:Nat),(fK left bd x y a j c cs).2+cnt left c<=c+V3 cs+cnt left (fK left bd x y a j c cs).2
  |[],bd,x,y,a,j,c=>by rw [fK,V3];simp only;omega
  |t::ts,bd,x,y,a,j,c=>by
    rw [lM,V3];have h1:=acw left t (bd++r9 x y a j) c;have h2:=aam left ts bd x y a (j+1) (can left (bd++r9 x y a j) c t).2;simp only;omega
end
section
variable {e:List Nd} (hF:yu e)
include hF
mutual
theorem akr: ∀(t:Tm) (b:Nat),Seg e b t->nmT t<=34*t.size
  | .mk x cs,b,hS=>by
    have:=(hF.few _ _ hS.node).2;have h2:=agf cs x [] b hS;rw [nmT];simp only [size];have h3:(nd x b cs).names.length=x.names.length:=rfl;omega
theorem agf: ∀(cs:List Tm) (x:Nd) (l:List Tm) (b:Nat),Seg e b (.mk x (l++cs))->V3 cs<=34*sizes cs
  |[],x,l,b,hS=>by rw [V3];omega
  |t::ts,x,l,b,hS=>by
    have h1:=akr t (b+sizes l) hS.kid;have h2:=agf ts x (l++[t]) b (by simpa using hS);rw [V3,sizes];omega
end
end
theorem LJ {e:List Nd} (hF:yu e) {t:Tm} (he:e=flat 0 t) (left:List Str) (hl:left.length<=1000):(can left [] 0 t).2+left.length<=9000:=by
  have h1:=acw left t [] 0;have h2:=QW left (can left [] 0 t).2;have h3:=akr hF t 0 (by rw [he];exact Seg.whole t);have h4:t.size<=170:=by have:=hF.len;rw [he,dh]at this;exact this
  omega
theorem agh {e:List Nd} (hF:yu e) {t:Tm} (he:e=flat 0 t) {left:List Str} (hfree:Ev (fun k=>xI k e) left) (hl:left.length<=1000):Ev (fun k=>vX k e) (flat 0 (can left [] 0 t).1):=by
  have hlen:=hF.len;have hs:=t.size_pos;have hsz:e.length=t.size:=by rw [he,dh]
  obtain⟨K1,h1⟩:=hfree;obtain⟨K2,h2⟩:=aaf left (by omega);obtain⟨K3,h3⟩:=LG (fun k n=>mW k n) jI e (fun n _=>Lj n);refine⟨K1+K2+K3+200,fun k hk=> ?_⟩;show vX k e=_
  unfold vX;rw [if_pos ⟨by omega,by omega,fun n hn=>by
    obtain⟨i,hi⟩:=List.mem_iff_getElem?.1 hn;have:=hF.few i n hi;omega⟩,(show xI k e=_ from h1 k (by omega)),Option.bind_some]
  have:=aak (h2 k (by omega)) hF (h3 k (by omega)) t 0 [] 0 k [] [] (by rw [he];exact Seg.whole t) rfl (by omega) (by simp only [List.length_nil];omega) (LJ hF he left hl);simp only [List.nil_append,List.append_nil,Nat.zero_add]at this;rw [<-he]at this;rw [hsz,show((0:Int))=((0:Nat):Int)from rfl,this];rfl
end Go.VL
end
section
namespace Go.VL
open Tm
def shN (d:Int) (n:Nd):Nd:={n with args:=n.args.map (·-d)}
theorem aan (d:Nat): ∀(cs:List Tm) (b:Nat),(roots (b+d) cs).map (·-(d:Int))=roots b cs
  |[],b=>rfl
  |c::cs,b=>by
    have h:=aan d cs (b+c.size);have hp:=size_pos c;rw [roots,roots,List.map_cons,show b+d+c.size=b+c.size+d by omega,h];congr 1
    omega
theorem asJ (d:Nat) (x:Nd) (b:Nat) (cs:List Tm):shN d (nd x (b+d) cs)=nd x b cs:=by
  unfold shN nd;simp only [aan]
mutual
theorem U2 (d:Nat): ∀(t:Tm) (b:Nat),(flat (b+d) t).map (shN d)=flat b t
  | .mk x cs,b=>by rw [kQ,kQ,List.map_append,aao d cs b,List.map_cons,List.map_nil,asJ]
theorem aao (d:Nat): ∀(cs:List Tm) (b:Nat),(bq (b+d) cs).map (shN d)=bq b cs
  |[],b=>by rw [bq,bq];rfl
  |c::cs,b=>by
    rw [iw,iw,List.map_append,U2 d c b,show b+d+c.size=b+c.size+d by omega,aao d cs (b+c.size)]
end
section
variable {e:List Nd} (hlen:e.length<=1000000)
include hlen
theorem Q8: ∀(t:Tm) (b:Nat),Seg e b t->Ev (fun k=>mh k e ((b+t.size -1:Nat):Int)) (.inl (b:Int))
  | .mk x [],b,h=>by
    have hn:=h.node;have e1:b+(Tm.mk x []).size -1=b:=by simp [size,sizes]
    simp only [sizes,Nat.add_zero]at hn;rw [e1];refine Ev.succ ?_;simp only [mh,nn,if_true,Int.toNat_natCast,hn,Option.bind_some];exact Ev.cF (by simp [nd,roots]) Ev.some
  | .mk x (c::cs),b,h=>by
    have hn:=h.node;have hlt:=h.lt;have hp:=size_pos c;have hk:Seg e (b+sizes []) c:=h.kid (l:=[]);simp only [sizes,Nat.add_zero]at hk;have ih:=Q8 c b hk;have e1:b+(Tm.mk x (c::cs)).size -1=b+sizes (c::cs):=by simp only [size];omega
    have hs:sizes (c::cs)=c.size+sizes cs:=by simp only [sizes]
    simp only [size]at hlt;have e2:(nd x b (c::cs)).args=((b+c.size -1:Nat):Int)::roots (b+c.size) cs:=by unfold nd;simp only [roots]
    rw [e1];refine Ev.succ ?_;simp only [mh,nn,if_true,Int.toNat_natCast,hn,Option.bind_some,e2,List.getElem?_cons_zero,mP];refine Ev.cT (by simp<;>omega) (Ev.cT ?_ ih);rw [wrap64 (by omega) (by omega)];exact decide_eq_true ⟨trivial,by omega⟩
theorem aap {t:Tm} {b:Nat} (h:Seg e b t):Ev (fun k=>tX k e ((b+t.size -1:Nat):Int)) (b:Int):=by
  unfold tX;refine Ev.cF (decide_eq_false (by omega)) (Ev.bind (Q8 hlen t b h) ?_);simp only [bL];exact Ev.some
theorem aaq {tT:Int} (hf:0<=tT/\tT<=1000000) {i:Nat} {n:Nd} (hn:e[i]? =some n) (ha:n.args.length<=1000) (hr: ∀a∈n.args,-1000000<=a/\a<=1000000) (nm:List Str):
    Ev (fun k=>ou k e tT (i:Int) n.kind n.n n.text nm [] 0) (n.kind,n.n,n.text,nm,n.args.map (·-tT)):=by
  have key:Ev (fun k=>ou k e tT (i:Int) n.kind n.n n.text nm ((n.args.take 0).map (·-tT)) ((0:Nat):Int)) (n.kind,n.n,n.text,nm,n.args.map (·-tT)):=by
    refine lC (len:=n.args.length) (p:=fun j=>Ev (fun k=>ou k e tT (i:Int) n.kind n.n n.text nm ((n.args.take j).map (·-tT)) (j:Int)) (n.kind,n.n,n.text,nm,n.args.map (·-tT))) ?_ fun j hj ih=> ?_
    · refine Ev.succ ?_;simp only [ou,nn,if_true,Int.toNat_natCast,hn,Option.bind_some];exact Ev.cF (jJ _) (Ev.some' (by rw [List.take_length]))
    · have h1:=hr _ (List.getElem_mem hj);refine Ev.succ ?_;simp only [ou,nn,if_true,Int.toNat_natCast,hn,Option.bind_some,kW hj,cond_true,bG hj,eF hj (show n.args.length<=1099511627776 by omega)];rw [wrap64 (x:=n.args[j] -tT) (by omega) (by omega)];refine Ev.mZ (by simp;omega) ?_
      have e1:(n.args.take (j+1)).map (·-tT)=(n.args.take j).map (·-tT)++[n.args[j] -tT]:=by rw [List.take_succ_eq_append_getElem hj,List.map_append];rfl
      rw [<-e1];exact ih
  exact key
theorem abq (hnd: ∀(i:Nat) n,e[i]? =some n->n.names.length<=1000/\n.args.length<=1000/\ ∀a∈n.args,-1000000<=a/\a<=1000000) {t:Tm} {b:Nat} (h:Seg e b t):Ev (fun k=>LB k e ((b+t.size -1:Nat):Int)) (flat 0 t):=by
  have hlt:=h.lt;have hp:=size_pos t;obtain⟨pre,post,he,hpre⟩:=h;have hget: ∀j,j<t.size->e[b+j]? =(flat b t)[j]? :=fun j hj=>by
    rw [he,List.getElem?_append_right (by omega),hpre,show b+j -b=j by omega,List.getElem?_append_left (by rw [dh];exact hj)]
  have hfl:=U2 b t 0;rw [Nat.zero_add]at hfl;have key:Ev (fun k=>qD k e ((b+t.size -1:Nat):Int) (b:Int) ((flat 0 t).take 0) ((b+0:Nat):Int)) (flat 0 t):=by
    refine lC (len:=t.size) (p:=fun j=>Ev (fun k=>qD k e ((b+t.size -1:Nat):Int) (b:Int) ((flat 0 t).take j) ((b+j:Nat):Int)) (flat 0 t)) ?_ fun j hj ih=> ?_
    · refine Ev.succ ?_;simp only [qD];exact Ev.cF (decide_eq_false (by omega)) (Ev.some' (by rw [List.take_of_length_le (by rw [dh];exact Nat.le_refl _)]))
    · have hj0:j<(flat 0 t).length:=by rw [dh];exact hj
      have hj1:j<(flat b t).length:=by rw [dh];exact hj
      have hn:e[b+j]? =some (flat b t)[j]:=by rw [hget j hj,bG hj1]
      have e0:(flat 0 t)[j]=shN b (flat b t)[j]:=by
        have:=congrArg (·[j]?) hfl
        simp only [List.getElem?_map,bG hj1,bG hj0,Option.map_some,Option.some.injEq]at this;exact this.symm
      obtain⟨g1,g2,g3⟩:=hnd _ _ hn;have e2:kg (flat b t)[j].names=some (flat b t)[j].names:=by
        unfold kg;rw [if_pos (by simp;omega)];rfl
      have hw:IntKind.wrap .i64 (((b+j:Nat):Int)+1)=((b+(j+1):Nat):Int):=by rw [wrap64 (by omega) (by omega)];omega
      refine Ev.succ ?_;simp only [qD,hw];refine Ev.cT (decide_eq_true (by omega)) (Ev.mZ (by omega) ?_);simp only [Int.toNat_natCast,hn,Option.bind_some,e2];refine Ev.bind (aaq hlen ⟨by omega,by omega⟩ hn g2 g3 _) (Ev.mZ (by rw [List.length_take];omega) ?_);rw [List.take_succ_eq_append_getElem hj0,e0]at ih;exact ih
  unfold LB;exact Ev.bind (aap hlen ⟨pre,post,he,hpre⟩) (Ev.bind key Ev.some)
end
theorem V4 (x:Nd) (cs:List Tm) (h:sizes cs<=1000000):Eu (flat 0 (.mk x cs))=some (nd x 0 cs):=by
  have hn:=(Seg.whole (.mk x cs)).node;rw [Nat.zero_add]at hn;have hl:(flat 0 (.mk x cs)).length=sizes cs+1:=by rw [dh];simp [size]
  unfold Eu;have hw:IntKind.wrap .i64 (((flat 0 (.mk x cs)).length:Int) -1)=(sizes cs:Int):=by rw [hl,wrap64 (by omega) (by omega)];omega
  simp only [hw,nn,if_true,Int.toNat_natCast,hn,Option.bind_some]
theorem aar: ∀(cs:List Tm) (b:Nat) (a:Int),a∈roots b cs->0<=a/\a<=b+sizes cs
  |[],b,a,h=>by rw [roots]at h;cases h
  |c::cs,b,a,h=>by
    rw [roots,List.mem_cons]at h;simp only [sizes];rcases h with rfl|h
    · omega
    · have:=aar cs _ a h;omega
mutual
theorem V5: ∀(t:Tm) (b:Nat) (n:Nd),n∈flat b t-> ∀a∈n.args,0<=a/\a<=b+t.size
  | .mk x cs,b,n,h,a,ha=>by
    rw [kQ,List.mem_append,List.mem_singleton]at h;simp only [size];rcases h with h|rfl
    · have:=Q9 cs b n h a ha;omega
    · have:=aar cs b a ha;omega
theorem Q9: ∀(cs:List Tm) (b:Nat) (n:Nd),n∈bq b cs-> ∀a∈n.args,0<=a/\a<=b+sizes cs
  |[],b,n,h,a,ha=>by rw [bq]at h;cases h
  |c::cs,b,n,h,a,ha=>by
    rw [iw,List.mem_append]at h;simp only [sizes];rcases h with h|h
    · have:=V5 c b n h a ha;omega
    · have:=Q9 cs _ n h a ha;omega
end
theorem alZ {e:List Nd} {b:Nat} {t:Tm} (h:Seg e b t) (hnd: ∀(i:Nat) n,e[i]? =some n->n.names.length<=1000/\n.args.length<=1000) (hb:t.size<=1000):
    ∀(i:Nat) n,(flat 0 t)[i]? =some n->n.names.length<=1000/\n.args.length<=1000/\ ∀a∈n.args,-1000000<=a/\a<=1000000:=by
  intro i n hn;have hr:=V5 t 0 n (List.mem_of_getElem? hn);have hfl:=U2 b t 0;rw [Nat.zero_add]at hfl;rw [<-hfl,List.getElem?_map,Option.map_eq_some_iff]at hn;obtain⟨m,h1,rfl⟩:=hn;obtain⟨pre,post,he,hpre⟩:=h;have hi:=(List.getElem?_eq_some_iff.1 h1).1;obtain⟨g1,g2⟩:=hnd (b+i) m (by rw [he,List.getElem?_append_right (by omega),hpre,show b+i -b=i by omega,List.getElem?_append_left hi];exact h1);exact⟨g1,by simpa [shN]using g2,fun a ha=>by have:=hr a ha;omega⟩
theorem U3 {x:Nd} {cs l m:List Tm} {c:Tm} (hcs:cs=l++c::m) (hs:sizes cs<=1000) (hnd: ∀(i:Nat) n,(flat 0 (.mk x cs))[i]? =some n->n.names.length<=1000/\n.args.length<=1000/\ ∀a∈n.args,-1000000<=a/\a<=1000000):
    Ev (fun k=>yP k (flat 0 (.mk x cs)) (l.length:Int)) (flat 0 c):=by
  subst hcs;have hk:Seg (flat 0 (.mk x (l++c::m))) (0+sizes l) c:=(Seg.whole _).kid;rw [Nat.zero_add]at hk;have ha:(nd x 0 (l++c::m)).args[l.length]? =some ((sizes l+c.size -1:Nat):Int):=by
    unfold nd;have:=F7 (b:=0) (l:=l) (m:=m) (c:=c);rw [Nat.zero_add]at this;exact this
  unfold yP;simp only [V4 x _ (show sizes (l++c::m)<=1000000 by omega),Option.bind_some,nn,if_true,Int.toNat_natCast,ha];exact Ev.bind (abq (by rw [dh];simp only [size];omega) hnd hk) Ev.some
end Go.VL
end
section
namespace Go.VL
open Tm
theorem aef {i:Nat} (h:i<=1099511627776):IntKind.wrap .i64 ((i:Int)+1)=((i+1:Nat):Int):=by rw [wrap64 (by omega) (by omega)];omega
theorem Xb {l:List Str} (hl:l.length<=1000000) (hn:l.Nodup) {i:Nat} (hi:i<l.length): ∀(m j:Nat),j+m=i->Ev (fun k=>qF k l l[i] (j:Int)) (.inr (i:Int)):=by
  intro m
  induction m with
  |zero=>
    intro j hj;obtain rfl:j=i:=by omega
    refine Ev.succ ?_;simp only [qF,Int.toNat_natCast];refine Ev.cT (decide_eq_true (by omega)) (Ev.mZ (by omega) (Ev.mq (bG hi) (Ev.cT (by simp) Ev.some)))
  |succ m ih=>
    intro j hj;have hjl:j<l.length:=by omega
    refine Ev.succ ?_;simp only [qF,Int.toNat_natCast];refine Ev.cT (decide_eq_true (by omega)) (Ev.mZ (by omega) (Ev.mq (bG hjl) (Ev.cF ?_ ?_)))
    · rw [beq_eq_false_iff_ne];exact List.pairwise_iff_getElem.1 hn j i hjl hi (by omega)
    · rw [aef (by omega)];exact ih (j+1) (by omega)
theorem aeg {l:List Str} (hl:l.length<=1000000) (hn:l.Nodup) {i:Nat} (hi:i<l.length):Ev (fun k=>Iu k l l[i]) (i:Int):=by
  unfold Iu;exact Ev.bind (Xb hl hn hi i 0 (by omega)) Ev.some
theorem U4 {l nn:List Str} (hl:l.length<=1000000) (hn:l.Nodup) (hnn:nn.length=l.length): ∀(m i:Nat),i+m<=l.length->Ev (fun k=>LD k l nn ((l.drop i).take m)) ((nn.drop i).take m):=by
  intro m
  induction m with
  |zero=>intro i h;simp only [List.take_zero];exact Ev.all fun k=>rfl
  |succ m ih=>
    intro i h;have hi:i<l.length:=by omega
    have hi2:i<nn.length:=by omega
    rw [List.drop_eq_getElem_cons hi,List.drop_eq_getElem_cons hi2,List.take_succ_cons,List.take_succ_cons];unfold LD;refine Ev.bind (aeg hl hn hi) (Ev.mZ (by omega) ?_);simp only [Int.toNat_natCast,bG hi2,Option.bind_some];exact Ev.bind (ih (i+1) (by omega)) Ev.some
theorem agi {l nn:List Str} (hl:l.length<=1000000) (hn:l.Nodup) (hnn:nn.length=l.length) (s:Nat):Ev (fun k=>LD k l nn (iR s l)) (iR s nn):=by
  unfold iR;split
  · have:=U4 hl hn hnn l.length 0 (by omega);rw [List.drop_zero,List.drop_zero,List.take_length,<-hnn,List.take_length]at this;exact this
  · by_cases h:1<=l.length
    · have:=U4 hl hn hnn 1 0 (by omega);rw [List.drop_zero,List.drop_zero]at this;exact this
    · have h1:l=[]:=List.length_eq_zero_iff.1 (by omega);have h2:nn=[]:=List.length_eq_zero_iff.1 (by omega);subst h1;subst h2;exact Ev.all fun k=>rfl
  · have:=U4 hl hn hnn (l.length -1) 1;by_cases h:1<=l.length
    · have:=this (by omega);rw [List.take_of_length_le (by simp),List.take_of_length_le (by simp;omega)]at this;exact this
    · have h1:l=[]:=List.length_eq_zero_iff.1 (by omega);have h2:nn=[]:=List.length_eq_zero_iff.1 (by omega);subst h1;subst h2;exact Ev.all fun k=>rfl
  · exact Ev.all fun k=>rfl
theorem U5 (bound called:List Str) (hlen:called.length=bound.length) (hb:bound.length<=1000000) (s:Str): ∀(m:Nat),m<=bound.length->Ev (fun k=>Option.bind (ow k bound called s ((m:Int) -1)) (fun o=>Sum.elim (fun _=>some s) (fun x=>some x) o)) (kV (List.zipWith Scope.mk (bound.take m) (called.take m)) s):=by
  intro m
  induction m with
  |zero=>
    intro hm;refine Ev.succ ?_;simp only [ow];rw [show decide (((0:Nat):Int) -1>=0)=false from by decide];exact Ev.all fun k=>rfl
  |succ m ih=>
    intro hm;have h1:m<bound.length:=by omega
    have h2:m<called.length:=by omega
    have e1:(((m+1:Nat):Int) -1)=(m:Int):=by omega
    have e2:IntKind.wrap .i64 ((m:Int) -1)=(m:Int) -1:=wrap64 (by omega) (by omega);have htake:List.zipWith Scope.mk (bound.take (m+1)) (called.take (m+1))=List.zipWith Scope.mk (bound.take m) (called.take m)++[⟨bound[m],called[m]⟩]:=by
      rw [List.take_succ_eq_append_getElem h1,List.take_succ_eq_append_getElem h2,List.zipWith_append (by rw [List.length_take,List.length_take];omega)];rfl
    refine Ev.succ ?_;rw [e1,htake,Jp];simp only [ow,Int.toNat_natCast,bG h1,bG h2,Option.bind_some,e2];have d1:decide ((m:Int)>=0)=true:=decide_eq_true (by omega);have d2:(0:Int)<=(m:Int):=by omega
    simp only [d1,d2,cond_true,if_true];by_cases h:bound[m]=s
    · have d3:(bound[m]==s)=true:=by simp [h]
      rw [if_pos h];simp only [d3,cond_true];exact Ev.all fun k=>rfl
    · have d3:(bound[m]==s)=false:=by simp [h]
      rw [if_neg h];simp only [d3,cond_false];exact ih (by omega)
theorem abr (bound called:List Str) (hlen:called.length=bound.length) (hb:bound.length<=1000000) (s:Str):Ev (fun k=>vV k bound called s) (kV (List.zipWith Scope.mk bound called) s):=by
  have:=U5 bound called hlen hb s bound.length (Nat.le_refl _);rw [List.take_length,<-hlen,List.take_length,hlen]at this;unfold vV;have hw:IntKind.wrap .i64 ((bound.length:Int) -1)=(bound.length:Int) -1:=wrap64 (by omega) (by omega);rw [hw];exact this
end Go.VL
end
section
namespace Go.VL
open Tm
def shP (d:Int) (n:Nd):Nd:={n with args:=n.args.map (·+d)}
theorem V6 (d:Nat): ∀(cs:List Tm) (b:Nat),(roots b cs).map (·+(d:Int))=roots (b+d) cs
  |[],b=>rfl
  |c::cs,b=>by
    have:=c.size_pos;rw [roots,roots,List.map_cons,V6 d cs,show b+c.size+d=b+d+c.size by omega];congr 1
    omega
mutual
theorem aas (d:Nat): ∀(t:Tm) (b:Nat),(flat b t).map (shP d)=flat (b+d) t
  | .mk x cs,b=>by
    rw [kQ,kQ,List.map_append,V7 d cs b,List.map_cons,List.map_nil];congr 2
    unfold shP nd;simp only;rw [V6 d cs b]
theorem V7 (d:Nat): ∀(cs:List Tm) (b:Nat),(bq b cs).map (shP d)=bq (b+d) cs
  |[],b=>rfl
  |c::cs,b=>by rw [iw,iw,List.map_append,aas d c b,V7 d cs (b+c.size),show b+c.size+d=b+d+c.size by omega]
end
theorem V8: ∀(cs:List Tm) (b:Nat),∀a∈roots b cs,0<=a/\a<((b+sizes cs:Nat):Int)
  |[],b,a,h=>by cases h
  |c::cs,b,a,h=>by
    have:=c.size_pos;rw [roots]at h;rw [sizes];rcases List.mem_cons.1 h with rfl|h
    · omega
    · have:=V8 cs (b+c.size) a h;omega
mutual
theorem aat: ∀(t:Tm) (b:Nat),∀n∈flat b t,∀a∈n.args,0<=a/\a<((b+t.size:Nat):Int)
  | .mk x cs,b,n,hn,a,ha=>by
    rw [kQ]at hn;simp only [size];rcases List.mem_append.1 hn with h|h
    · have:=V9 cs b n h a ha;omega
    · rw [List.mem_singleton.1 h]at ha;have:=V8 cs b a ha;omega
theorem V9: ∀(cs:List Tm) (b:Nat),∀n∈bq b cs,∀a∈n.args,0<=a/\a<((b+sizes cs:Nat):Int)
  |[],b,n,hn,a,ha=>by cases hn
  |c::cs,b,n,hn,a,ha=>by
    rw [iw]at hn;rw [sizes];rcases List.mem_append.1 hn with h|h
    · have:=aat c b n h a ha;omega
    · have:=V9 cs (b+c.size) n h a ha;omega
end
theorem JZ {l:List Str} (h:l.length<=1000000):kg l=some l:=by
  unfold kg;rw [if_pos (by simp;omega)];rfl
theorem aau {tT:Int} (hf:0<=tT/\tT<=1000000) (p q:Int) (r:Str) (ns:List Str) (xs:List Int) (hx: ∀a∈xs,0<=a/\a<=1000000) (hl:xs.length<=1000000): ∀(m j:Nat) (done:List Int),j+m=xs.length->done.length+m<=1000000->
    Ev (fun k=>rW k tT p q r ns xs done (j:Int)) (done++(xs.drop j).map (·+tT)):=by
  intro m
  induction m with
  |zero=>
    intro j done hj hd;refine Ev.succ ?_;simp only [rW];refine Ev.cF (decide_eq_false (by omega)) (Ev.some' ?_);rw [List.drop_of_length_le (by omega)];simp
  |succ m ih=>
    intro j done hj hd;have hjl:j<xs.length:=by omega
    have hb:=hx xs[j] (List.getElem_mem hjl);refine Ev.succ ?_;simp only [rW,Int.toNat_natCast];refine Ev.cT (decide_eq_true (by omega)) (Ev.mZ (by omega) (Ev.mq (bG hjl) (Ev.mZ (by omega) ?_)));rw [aef (by omega),wrap64 (by omega) (by omega)];refine(ih (j+1) _ (by omega) (by simp;omega)).to ?_;rw [List.drop_eq_getElem_cons hjl,List.append_assoc];rfl
theorem aav {tT:Int} (hf:0<=tT/\tT<=1000000) {ops:List (List Nd)} {i:Nat} {x:List Nd} (hi:ops[i]? =some x) (hx: ∀n∈x,n.names.length<=1000000/\n.args.length<=1000000/\ ∀a∈n.args,0<=a/\a<=1000000) (hl:x.length<=1000000): ∀(m j:Nat) (out:List Nd),j+m=x.length->out.length+m<=1000000->
    Ev (fun k=>rX k ops out (i:Int) tT (j:Int)) (out++(x.drop j).map (shP tT)):=by
  intro m
  induction m with
  |zero=>
    intro j out hj hd;refine Ev.succ ?_;simp only [rX,Int.toNat_natCast];refine Ev.mZ (by omega) (Ev.mq hi (Ev.cF (decide_eq_false (by omega)) (Ev.some' ?_)));rw [List.drop_of_length_le (by omega)];simp
  |succ m ih=>
    intro j out hj hd;have hjl:j<x.length:=by omega
    obtain⟨h1,h2,h3⟩:=hx x[j] (List.getElem_mem hjl);refine Ev.succ ?_;simp only [rX,Int.toNat_natCast];refine Ev.mZ (by omega) (Ev.mq hi (Ev.cT (decide_eq_true (by omega)) (Ev.mZ (by omega) (Ev.mq (bG hjl) (Ev.mq (JZ h1) ?_)))));refine Ev.bind (aau hf _ _ _ _ x[j].args h3 h2 x[j].args.length 0 [] (by omega) (by simp;omega)) (Ev.mZ (by omega) ?_);rw [aef (by omega)];refine(ih (j+1) _ (by omega) (by simp;omega)).to ?_;rw [List.drop_eq_getElem_cons hjl,List.append_assoc];rfl
theorem aaw (cs:List Tm) (hs:sizes cs<=1000) (hcl:cs.length<=1000) (hnm: ∀c∈cs,∀n∈flat 0 c,n.names.length<=1000000/\n.args.length<=1000000) (p q:Int) (r:Str) (ns:List Str): ∀(m i:Nat),i+m=cs.length->
    Ev (fun k=>rY k (cs.map (flat 0)) (bq 0 (cs.take i)) p q r ns (roots 0 (cs.take i)) (i:Int)) (bq 0 cs,p,q,r,ns,roots 0 cs):=by
  intro m
  induction m with
  |zero=>
    intro i hi;refine Ev.succ ?_;simp only [rY,List.length_map];refine Ev.cF (decide_eq_false (by omega)) (Ev.some' ?_);rw [List.take_of_length_le (by omega)]
  |succ m ih=>
    intro i hi;have hil:i<cs.length:=by omega
    have hc:=(cs[i]).size_pos;have hsz:sizes cs=sizes (cs.take i)+(cs[i].size+sizes (cs.drop (i+1))):=by
      conv=>lhs;rw [<-List.take_append_drop i cs,List.drop_eq_getElem_cons hil,dV,sizes]
    refine Ev.succ ?_;simp only [rY,List.length_map];refine Ev.cT (decide_eq_true (by omega)) ?_;have hget:(cs.map (flat 0))[i]? =some (flat 0 cs[i]):=by rw [List.getElem?_map,bG hil];rfl
    have hfl:(bq 0 (cs.take i)).length=sizes (cs.take i):=cB 0 _;rw [hfl];have hx: ∀n∈flat 0 cs[i],n.names.length<=1000000/\n.args.length<=1000000/\ ∀a∈n.args,0<=a/\a<=1000000:=fun n hn=>by
      obtain⟨h1,h2⟩:=hnm cs[i] (List.getElem_mem hil) n hn;exact⟨h1,h2,fun a ha=>by have:=aat _ _ n hn a ha;omega⟩
    have h1:=aav (tT:=((sizes (cs.take i):Nat):Int)) ⟨by omega,by omega⟩ hget hx (by rw [dh];omega) (flat 0 cs[i]).length 0 (bq 0 (cs.take i)) (by omega) (by rw [cB,dh];omega);rw [List.drop_zero,aas,Nat.zero_add]at h1;have et:bq 0 (cs.take (i+1))=bq 0 (cs.take i)++flat (sizes (cs.take i)) cs[i]:=by
      rw [List.take_succ_eq_append_getElem hil,pz,vR,Nat.zero_add]
    have er:roots 0 (cs.take (i+1))=roots 0 (cs.take i)++[((sizes (cs.take i)+cs[i].size -1:Nat):Int)]:=by
      rw [List.take_succ_eq_append_getElem hil,Ar,Vz,Nat.zero_add]
    refine Ev.bind h1 (Ev.mZ (by rw [jr,List.length_take];omega) ?_)
    rw [<-et,aef (by omega),wrap64 (by rw [cB];omega) (by
      rw [et,List.length_append,cB,dh];omega)]
    have el:((bq 0 (cs.take (i+1))).length:Int) -1=((sizes (cs.take i)+cs[i].size -1:Nat):Int):=by rw [et,List.length_append,cB,dh];omega
    rw [el,<-er];exact ih (i+1) (by omega)
theorem agj (x:Nd) (cs:List Tm) (hs:sizes cs<=1000) (hcl:cs.length<=1000) (hx:x.names.length<=1000000) (hnm: ∀c∈cs,∀n∈flat 0 c,n.names.length<=1000000/\n.args.length<=1000000):Ev (fun k=>ER k x (cs.map (flat 0))) (flat 0 (.mk x cs)):=by
  unfold ER;refine Ev.mq (JZ hx) ?_;have:=aaw cs hs hcl hnm x.kind x.n x.text x.names cs.length 0 (by omega);rw [List.take_zero]at this;refine Ev.bind this (Ev.mZ (by rw [cB];omega) (Ev.some' ?_));rw [kQ];rfl
end Go.VL
end
section
set_option maxRecDepth 8000
namespace Go.VL
open Go.Proofs Go.RowKit
def oz (k:Nat) (e:List Nd):Option (List Nd):=Option.bind (vU k e) fun taken=>Option.bind (GX taken k k e 0 [] []) fun p=>some p.1
theorem J2 (k:Nat) (e:List Nd) {c:Ck} {r:List Nd} (h:oz k e=some r):aF Tryz.prog 43 [.aA (e.map Nd.cells) c] (.aA (r.map Nd.cells) .unk):=by
  refine aF.wk (args:=[cK e]) ?_ (.aA .nil);unfold oz at h;obtain⟨taken,ht,h1⟩:=aj h;obtain⟨⟨r',c'⟩,hr,h2⟩:=aj h1;cases h2;refine aF.aQ (bf.mem (.cons (aU Nd.pu _) .nil)) (aG auL (by simp) (aD ?_)) (aU Nd.pu _);unfold ant;simp -implicitDefEqProofs only [go_sem,↓reduceIte,Nat.reduceEqDiff];refine aB (adV ht) ?_;simp -implicitDefEqProofs only [go_sem,↓reduceIte,Nat.reduceEqDiff,List.take,List.drop,List.append_eq,Nat.reduceLeDiff];have ob:(AH.empty.new [.aA (taken.map aI) .unk,.int .i64 0]).obj AH.empty.next=some [.aA (taken.map aI) .unk,.int .i64 0]:=by
    simp [AH.new]
  refine bC.mono (bC.wk (aqI (o:=AH.empty.next) (taken:=taken) (cl:= .unk) (F:=k) k e 0 [] [] r' c' hr _ ob (Nat.lt_succ_self _)) (.same (.same (.aA (.aA .nil))))) ?_;rintro _ H' ⟨rfl,_,_,_⟩;simp -implicitDefEqProofs only [go_sem,↓reduceIte,Nat.reduceEqDiff];exact .pure _ (aU Nd.pu _)
end Go.VL
end
section
namespace Go.VL
open Tm
def Iw (n:Nd):Nd:={n with text:=[],names:=n.names.map fun _=>[]}
theorem Np {l m:List Str} (h:l.length=m.length):l.map (fun _=>([]:Str))=m.map (fun _=>[]):=by
  rw [List.map_const',List.map_const',h]
theorem acz {n m:Nd} (h:Iw n=Iw m):n.kind=m.kind/\n.n=m.n/\n.args=m.args/\n.names.length=m.names.length:=by
  unfold Iw at h;have h:=Nd.mk.inj h;refine⟨h.1,h.2.1,h.2.2.2.2,?_⟩;have:=congrArg List.length h.2.2.2.1
  rwa [List.length_map,List.length_map]at this
mutual
theorem agk (left:List Str): ∀(t:Tm) (b:Nat) (bd:List Scope) (c:Nat),(flat b (can left bd c t).1).map Iw=(flat b t).map Iw
  | .mk x cs,b,bd,c=>by
    have hn:Iw (nd (nu left bd c x) b (fK left bd x (nu left bd c x) cs.length 0 (fE left x c).2 cs).1)=Iw (nd x b cs):=by
      simp only [Iw,nd,DF,nu];rw [Np (Fh left x c)]
    rw [Fg,kQ,kQ,List.map_append,List.map_append,acA left cs b,List.map_cons,List.map_cons,hn]
theorem acA (left:List Str): ∀(cs:List Tm) (b:Nat) (bd:List Scope) (x y:Nd) (a j c:Nat),(bq b (fK left bd x y a j c cs).1).map Iw=(bq b cs).map Iw
  |[],b,bd,x,y,a,j,c=>by rw [fK]
  |t::ts,b,bd,x,y,a,j,c=>by rw [lM,iw,iw,List.map_append,List.map_append,agk left t b,vW,acA left ts]
end
theorem Nq (pl:Bool) (x:Nd) (b b':Nat) (cs:List Tm):cZ pl (nd x b cs)=cZ pl (nd x b' cs):=by
  unfold cZ qb nJ rC nd;simp only [jr]
theorem Ra: ∀(l acc:List Str),rA acc l=false->l.Nodup/\ ∀s∈l,s∉acc
  |[],acc,h=>⟨List.Pairwise.nil,fun s hs=>by cases hs⟩
  |s::l,acc,h=>by
    rw [rA,Bool.or_eq_false_iff,decide_eq_false_iff_not]at h;obtain⟨h1,h2⟩:=h;obtain⟨h3,h4⟩:=Ra l _ h2;refine⟨List.nodup_cons.2 ⟨fun hs=>h4 s hs (by simp),h3⟩,fun t ht=> ?_⟩;rcases List.mem_cons.1 ht with rfl|ht
    · exact h1
    · exact fun hm=>h4 t ht (by simp [hm])
theorem aeh {n:Nd} (h:cZ true n=0):n.names.Nodup:=by
  have:rA [] n.names=false:=by
    unfold cZ at h
    split at h;·cases h
    split at h;·cases h
    split at h;·cases h
    split at h;·cases h
    split at h
    · rename_i h1;exact absurd h h1
    · split at h
      · cases h
      · rename_i h2;simpa using h2
  exact(Ra _ _ this).1
theorem agl {taken:List Str} {F k:Nat} {e:List Nd} {c c1 c2:Int} {bound called:List Str} {root:Nd} {nm:Bool} {t:Str} {nn:List Str} {ps:List (List Nd)} {r:List Nd} (h1:Eu e=some root) (h2:yJ F root=some nm) (h3:(cond nm (vV F bound called root.text) (some root.text))=some t)
    (h4:xK taken F (root.kind==16||root.kind==17) root.names c=some (nn,c1)) (h5:root.names.length<=1000000/\root.args.length<=1000000/\bound.length<=1000000/\called.length<=1000000)
    (h6:Fe (GX taken F k) F e {root with text:=t} nn bound called root.args.length 0 c1=some (ps,c2)) (h7:ER F {root with text:=t,names:=nn} ps=some r):GX taken F (k+1) e c bound called=some (r,c2):=by
  rw [GX];simp only [h1,h2,h3,h4,Option.bind_some];rw [if_pos h5,h6,Option.bind_some,h7,Option.bind_some]
end Go.VL
end
section
namespace Go.VL
open Tm
theorem agm {left:List Str} {t:Tm} {bd:List Scope} {c:Nat} {N:Nat} (h: ∀n∈flat 0 t,n.names.length<=N/\n.args.length<=N): ∀n∈flat 0 (can left bd c t).1,n.names.length<=N/\n.args.length<=N:=by
  intro n hn;obtain⟨i,hi⟩:=List.mem_iff_getElem?.1 hn
  have:=congrArg (·[i]?) (agk left t 0 bd c)
  simp only [List.getElem?_map,hi,Option.map_some]at this;cases hm:(flat 0 t)[i]? with
  |none=>rw [hm]at this;cases this
  |some m=>
    rw [hm]at this;obtain⟨_,_,h3,h4⟩:=acz (Option.some.inj this);have:=h m (List.mem_of_getElem? hm);rw [h3,h4];exact this
theorem Wh {e:List Nd} (hF:yu e) {b:Nat} {t:Tm} (hS:Seg e b t): ∀n∈flat 0 t,n.names.length<=1000/\n.args.length<=1000/\ ∀a∈n.args,-1000000<=a/\a<=1000000:=by
  intro n hn;obtain⟨i,hi⟩:=List.mem_iff_getElem?.1 hn;have hlt:=hS.lt;have:=hF.len;exact alZ hS (fun i n hn=>by have:=hF.few i n hn;omega) (by omega) i n hi
theorem Rb {left:List Str} {N:Nat}: ∀(cs:List Tm) (bd:List Scope) (x y:Nd) (a j c:Nat),(∀c0∈cs,∀n∈flat 0 c0,n.names.length<=N/\n.args.length<=N)-> ∀c0∈(fK left bd x y a j c cs).1,∀n∈flat 0 c0,n.names.length<=N/\n.args.length<=N
  |[],bd,x,y,a,j,c,h=>by rw [fK];exact h
  |t::ts,bd,x,y,a,j,c,h=>by
    rw [lM];intro c0 hc0;rcases List.mem_cons.1 hc0 with rfl|hc0
    · exact agm (h t List.mem_cons_self)
    · exact Rb ts bd x y a (j+1) _ (fun c0 hc=>h c0 (List.mem_cons_of_mem _ hc)) c0 hc0
theorem al0 {a b c d:List Str} (h1:a.length=c.length) (h2:b.length=d.length):(a++b).length=(c++d).length:=by rw [List.length_append,List.length_append,h1,h2]
theorem aax (n:Nd) (m:Nd) (h1:m.kind=n.kind) (h2:m.n=n.n) (h3:m.names=n.names) (h4:m.args.length=n.args.length) (j:Int):tZ m j=tZ n j:=by
  unfold tZ;rw [h1,h2,h3,h4]
section
variable {left:List Str} (hl:left.length<=1000) {e:List Nd} (hF:yu e) (htx: ∀(i:Nat) n,e[i]? =some n->n.text.length<=1000000)
include hl hF htx
mutual
theorem aay: ∀(t:Tm) (b:Nat) (bound called:List Str) (c:Nat),Seg e b t->called.length=bound.length->bound.length+34*(b+t.size -1)<=10000->(can left (List.zipWith Scope.mk bound called) c t).2+left.length<=9000->
    ∃K,∀F k,K<=F->K<=k->GX left F k (flat 0 t) (c:Int) bound called=some (flat 0 (can left (List.zipWith Scope.mk bound called) c t).1,((can left (List.zipWith Scope.mk bound called) c t).2:Int))
  | .mk x cs,b,bound,called,c,hS,hlen,hb,hc=>by
    have hn:=hS.node;have hlt:=hS.lt;have hel:=hF.len;have hsz:(Tm.mk x cs).size=sizes cs+1:=by simp only [size]
    have Ay:=hF.few _ _ hn;have hnx:x.names.length<=34:=Ay.2;have hcl:cs.length<=34:=by have:=Ay.1;unfold nd at this;rwa [jr]at this
    have hspec:cZ true (nd x 0 cs)=0:=by rw [Nq true x 0 b cs];exact hF.ok _ _ hn
    have hroot:=V4 x cs (by omega);rw [Fg]at hc⊢;have hle:=yQ left cs (List.zipWith Scope.mk bound called) x (nu left (List.zipWith Scope.mk bound called) c x) cs.length 0 (fE left x c).2;obtain⟨K1,k1⟩:=QB hspec (by have:=htx _ _ hn;exact this);have htext:Ev (fun k=>cond (jI (nd x 0 cs)) (vV k bound called (nd x 0 cs).text) (some (nd x 0 cs).text)) (AU (List.zipWith Scope.mk bound called) x):=by
      unfold AU;cases h:jI x with
      |true=>
        refine Ev.cT h ?_;rw [if_pos rfl];exact abr bound called hlen (by omega) _
      |false=>
        refine Ev.cF h ?_;rw [if_neg (by simp)];exact Ev.some
    obtain⟨K2,k2⟩:=htext;obtain⟨K3,k3⟩:=aaf left (by omega);have aqV: ∀F,K3<=F->xK left F ((nd x 0 cs).kind==16||(nd x 0 cs).kind==17) (nd x 0 cs).names (c:Int)=some ((fE left x c).1,((fE left x c).2:Int)):=by
      intro F hFF;have hk:(nd x 0 cs).kind=x.kind:=rfl;have hnm:(nd x 0 cs).names=x.names:=rfl;have hc':(fE left x c).2+left.length<=9000:=by simp only at hc;omega
      rw [hk,hnm];unfold fE at hc'⊢;by_cases h:x.kind=16\/x.kind=17
      · rw [if_pos h,show(x.kind==16||x.kind==17)=true by rcases h with h|h<;>rw [h]<;>rfl];exact VX _ _
      · rw [if_neg h]at hc';rw [if_neg h,show(x.kind==16||x.kind==17)=false by simp only [Bool.or_eq_false_iff,beq_eq_false_iff_ne];exact⟨fun q=>h (.inl q),fun q=>h (.inr q)⟩];exact VW (k3 F hFF) _ _ hc'
    obtain⟨K4,k4⟩:=Rf cs x {nd x 0 cs with text:=AU (List.zipWith Scope.mk bound called) x} (nu left (List.zipWith Scope.mk bound called) c x) [] b bound called (fE left x c).2 hS hlen (by simp only [List.nil_append];rw [hsz]at hb;omega) (by simpa using hc) rfl rfl rfl (jr 0 cs) (Fh left x c);simp only [List.nil_append,List.length_nil]at k4;have hsub: ∀c0∈(fK left (List.zipWith Scope.mk bound called) x (nu left (List.zipWith Scope.mk bound called) c x) cs.length 0 (fE left x c).2 cs).1,∀n∈flat 0 c0,n.names.length<=1000000/\n.args.length<=1000000:=by
      refine Rb cs _ _ _ _ _ _ fun c0 hc0 n hn0=> ?_;obtain⟨l1,l2,hcs⟩:=List.append_of_mem hc0;have hk:Seg e (b+sizes l1) c0:=Seg.kid (x:=x) (m:=l2) (by rw [<-hcs];exact hS);have:=Wh hF hk n hn0;omega
    obtain⟨K5,k5⟩:=agj {nd x 0 cs with text:=AU (List.zipWith Scope.mk bound called) x,names:=(fE left x c).1} (fK left (List.zipWith Scope.mk bound called) x (nu left (List.zipWith Scope.mk bound called) c x) cs.length 0 (fE left x c).2 cs).1 (by rw [DC];omega) (by rw [aah];omega) (by show(fE left x c).1.length<=_;rw [Fh];omega) hsub;refine⟨K1+K2+K3+K4+K5+1,fun F k h1 h2=> ?_⟩;obtain⟨k,rfl⟩: ∃j,k=j+1:=⟨k -1,by omega⟩;have hal:(nd x 0 cs).args.length=cs.length:=jr 0 cs;refine agl hroot (k1 F (by omega)) (k2 F (by omega)) (aqV F (by omega)) ⟨by show x.names.length<=_;omega,by rw [hal];omega,by omega,by omega⟩ (by rw [hal];exact k4 F k (by omega) (by omega)) (k5 F (by omega))
theorem Rf: ∀(cs:List Tm) (x old y:Nd) (l:List Tm) (b:Nat) (bound called:List Str) (c:Nat),Seg e b (.mk x (l++cs))->called.length=bound.length->bound.length+34*(b+sizes (l++cs))<=10000->
    (fK left (List.zipWith Scope.mk bound called) x y (l++cs).length l.length c cs).2+left.length<=9000->old.kind=x.kind->old.n=x.n->old.names=x.names->old.args.length=(l++cs).length->y.names.length=x.names.length->
    ∃K,∀F k,K<=F->K<=k->Fe (GX left F k) F (flat 0 (.mk x (l++cs))) old y.names bound called cs.length l.length (c:Int)=
      some ((fK left (List.zipWith Scope.mk bound called) x y (l++cs).length l.length c cs).1.map (flat 0),((fK left (List.zipWith Scope.mk bound called) x y (l++cs).length l.length c cs).2:Int))
  |[],x,old,y,l,b,bound,called,c,hS,hlen,hb,hc,m1,m2,m3,m4,y3=>⟨0,fun F k _ _=>by rw [fK];rfl⟩
  |t::cs,x,old,y,l,b,bound,called,c,hS,hlen,hb,hc,m1,m2,m3,m4,y3=>by
    have hn:=hS.node;have hlt:=hS.lt;have hel:=hF.len;have Ay:=hF.few _ _ hn;have h23:=acv hF hn;have hcp:=t.size_pos;have hnx:x.names.length<=34:=Ay.2;have hsz:sizes (l++t::cs)=sizes l+(t.size+sizes cs):=by rw [dV,sizes]
    have aBA:(Tm.mk x (l++t::cs)).size=sizes (l++t::cs)+1:=by simp only [size]
    have hspec:cZ true (nd x 0 (l++t::cs))=0:=by rw [Nq true x 0 b _];exact hF.ok _ _ hn
    have aix:(nd x 0 (l++t::cs)).args.length=(l++t::cs).length:=jr 0 _;have hcl:(l++t::cs).length<=34:=by have:=Ay.1;unfold nd at this;rwa [jr]at this
    have e1:l++t::cs=(l++[t])++cs:=by simp
    have e2:l.length+1=(l++[t]).length:=by simp
    have hbs:tZ old (l.length:Int)=some (iR (nG x.kind x.n (l++t::cs).length l.length) x.names):=by
      rw [aax (nd x 0 (l++t::cs)) old m1 m2 m3 (by rw [m4,aix]),JR hspec (by rw [aix];omega),af9 (n:=nd x 0 (l++t::cs)) h23,aix];rfl
    have hnd:x.names.Nodup:=aeh (n:=nd x 0 (l++t::cs)) hspec;obtain⟨K1,k1⟩:=agi (l:=x.names) (nn:=y.names) (by omega) hnd y3 (nG x.kind x.n (l++t::cs).length l.length);obtain⟨K2,k2⟩:=U3 (x:=x) (cs:=l++t::cs) (l:=l) (m:=cs) (c:=t) rfl (by omega) (fun i n hi=>Wh hF hS n (List.mem_of_getElem? hi));have NH:(iR (nG x.kind x.n (l++t::cs).length l.length) y.names).length=(iR (nG x.kind x.n (l++t::cs).length l.length) x.names).length:=VY _ y3;have hpl:=aag (nG x.kind x.n (l++t::cs).length l.length) x.names;have hbd:List.zipWith Scope.mk (bound++iR (nG x.kind x.n (l++t::cs).length l.length) x.names) (called++iR (nG x.kind x.n (l++t::cs).length l.length) y.names)=List.zipWith Scope.mk bound called++r9 x y (l++t::cs).length l.length:=by
      rw [List.zipWith_append hlen.symm];rfl
    rw [lM]at hc⊢;have aBB:=yQ left cs (List.zipWith Scope.mk bound called) x y (l++t::cs).length (l.length+1) (can left (List.zipWith Scope.mk bound called++r9 x y (l++t::cs).length l.length) c t).2;obtain⟨K3,k3⟩:=aay t (b+sizes l) (bound++iR (nG x.kind x.n (l++t::cs).length l.length) x.names) (called++iR (nG x.kind x.n (l++t::cs).length l.length) y.names) c hS.kid (al0 hlen NH) (by rw [List.length_append];omega) (by rw [hbd];simp only at hc;omega);rw [hbd]at k3;obtain⟨K4,k4⟩:=Rf cs x old y (l++[t]) b bound called (can left (List.zipWith Scope.mk bound called++r9 x y (l++t::cs).length l.length) c t).2 (by rw [<-e1];exact hS) hlen (by rw [<-e1];exact hb) (by rw [<-e1,<-e2];exact hc) m1 m2 m3 (by rw [<-e1];exact m4) y3;rw [<-e1,<-e2]at k4;refine⟨K1+K2+K3+K4,fun F k g1 g2=> ?_⟩;rw [List.length_cons,Fe,hbs,Option.bind_some,m3,(show LD F x.names y.names _=_ from k1 F (by omega)),Option.bind_some,(show yP F _ _=_ from k2 F (by omega)),Option.bind_some,if_pos ⟨by omega,NH⟩,k3 F k (by omega) (by omega),Option.bind_some];simp only;rw [k4 F k (by omega) (by omega),Option.bind_some];rfl
end
end
end Go.VL
end
section
set_option maxRecDepth 8000
namespace Go.VL
open Go.Proofs Go.RowKit
def O6 (k:Nat):List Nd->List Nd->Option Bool
  |[],_=>some true
  |_::_,[]=>none
  |a::l,b::m=>Option.bind (Et k a b) fun r=>cond r (O6 k l m) (some false)
def Fj (k:Nat) (a b:List Nd):Option Bool:=if a.length<=1000000000 then if a.length=b.length then O6 k a b else some false else none
theorem agn {l:List Nd} {i:Nat} (h:i<l.length):(l.map Nd.cells)[i]? =some (l[i]).cells:=by rw [List.getElem?_map,List.getElem?_eq_getElem h];rfl
theorem aiy (k:Nat) (a b:List Nd) (hab:a.length=b.length) (hbig:a.length<=1000000000) (Q:Post): ∀(m i:Nat) (r:Bool) (σ:Nat->PV) (H:AH),i+m=a.length->O6 k (a.drop i) (b.drop i)=some r->
    σ 1=cK b->σ 2= .fn (.func 133) [] []->σ 15=cK a->σ 16= .int .i64 a.length->σ 17= .int .i64 i->
    (∀σ' H',(r=true->Q (.exit 0) σ' H')/\(r=false->σ' 6= .bool false->Q .ret σ' H'))->W Tryz.prog (.loop IQ) Q σ H:=by
  intro m
  induction m with
  |zero=>
    intro i r σ H hi h s1 s2 s15 s16 tH q0;rw [List.drop_of_length_le (by omega),O6]at h;cases h;have hge:decide ((i:Int)<(a.length:Int))=false:=decide_eq_false (by omega);refine aT (fun K hK=>aD ?_);unfold IQ;simp -implicitDefEqProofs only [go_sem,↓reduceIte,Nat.reduceEqDiff,s16,tH,hge];exact(q0 _ H).1 rfl
  |succ m ih=>
    intro i r σ H hi h s1 s2 s15 s16 tH q0;have hia:i<a.length:=by omega
    have hib:i<b.length:=by omega
    rw [List.drop_eq_getElem_cons hia,List.drop_eq_getElem_cons hib,O6]at h;obtain⟨t,ht,h⟩:=aj h;have hlt:decide ((i:Int)<(a.length:Int))=true:=decide_eq_true (by omega);have ga:=agn hia;have gb:=agn hib;have la:(a[i]).cells.length=5:=rfl;have lb:(b[i]).cells.length=5:=rfl;refine aT (fun K hK=>aD ?_);unfold IQ;simp -implicitDefEqProofs only [go_sem,↓reduceIte,Nat.reduceEqDiff,s1,s2,s15,s16,tH,hlt,ga,gb,dJ,List.length_cons,List.length_nil,Nat.reduceAdd,Nat.le_refl];refine aB (adt ht) ?_;have hw:IntKind.wrap .i64 ((i:Int)+1)=((i+1:Nat):Int):=by rw [IntKind.wrap_i64];omega
    cases t with
    |false=>
      cases h;simp -implicitDefEqProofs only [go_sem,↓reduceIte,Nat.reduceEqDiff];exact(q0 _ _).2 rfl (by simp -implicitDefEqProofs only [go_sem,↓reduceIte,Nat.reduceEqDiff])
    |true=>
      simp -implicitDefEqProofs only [go_sem,↓reduceIte,Nat.reduceEqDiff,tH,hw];refine hK _ _ (ih (i+1) r _ _ (by omega) h (by simp -implicitDefEqProofs only [go_sem,↓reduceIte,Nat.reduceEqDiff,s1]) (by simp -implicitDefEqProofs only [go_sem,↓reduceIte,Nat.reduceEqDiff,s2]) (by simp -implicitDefEqProofs only [go_sem,↓reduceIte,Nat.reduceEqDiff,s15]) (by simp -implicitDefEqProofs only [go_sem,↓reduceIte,Nat.reduceEqDiff,s16]) (by simp -implicitDefEqProofs only [go_sem,↓reduceIte,Nat.reduceEqDiff]) q0)
theorem aiz {k:Nat} {a b:List Nd} {r:Bool} {ca cb:Ck} (h:Fj k a b=some r):aF Tryz.prog 85 [Xh a ca,Xh b cb] (.bool r):=by
  have aik:aF Tryz.prog 132 [cK a,cK b,.fn (.func 133) [] []] (.bool r):=by
    refine aF.aQ (bf.mem (.cons (aU Nd.pu _) (.cons (aU Nd.pu _) (.cons (.fn _ _ _ (bf.mem .nil) (bf.mem .nil)) .nil)))) (aG arM (by simp) (aD ?_)) (.bool _);unfold ajf;unfold Fj at h;obtain⟨hbig,h⟩:=aP h;by_cases hl:a.length=b.length
    · rw [if_pos hl]at h;have hne:((a.length:Int) !=(b.length:Int))=false:=by simp [hl]
      simp -implicitDefEqProofs only [go_sem,↓reduceIte,Nat.reduceEqDiff,List.length_map,hne];refine aiy k a b hl hbig _ a.length 0 r _ AH.empty (Nat.zero_add _) (by rw [List.drop_zero,List.drop_zero];exact h) (by simp -implicitDefEqProofs only [go_sem,↓reduceIte,Nat.reduceEqDiff]) (by simp -implicitDefEqProofs only [go_sem,↓reduceIte,Nat.reduceEqDiff]) (by simp -implicitDefEqProofs only [go_sem,↓reduceIte,Nat.reduceEqDiff]) (by simp -implicitDefEqProofs only [go_sem,↓reduceIte,Nat.reduceEqDiff]) (by simp -implicitDefEqProofs only [go_sem,↓reduceIte,Nat.reduceEqDiff]) fun σ' H'=>⟨fun hr=> ?_,fun hr h6=> ?_⟩
      · subst hr;simp -implicitDefEqProofs only [go_sem,↓reduceIte,Nat.reduceEqDiff];exact .pure _ (.bool _)
      · subst hr;simp -implicitDefEqProofs only [go_sem,↓reduceIte,Nat.reduceEqDiff,h6];exact .pure _ (.bool _)
    · rw [if_neg hl]at h;cases h;have hne:((a.length:Int) !=(b.length:Int))=true:=by simp;omega
      simp -implicitDefEqProofs only [go_sem,↓reduceIte,Nat.reduceEqDiff,List.length_map,hne];exact .pure _ (.bool _)
  refine aF.wk (args:=[cK a,cK b]) ?_ (.aA (.aA .nil));refine aF.aQ (bf.mem (.cons (aU Nd.pu _) (.cons (aU Nd.pu _) .nil))) (aG ava (by simp) (aD ?_)) (.bool _);unfold an2;simp -implicitDefEqProofs only [go_sem,↓reduceIte,Nat.reduceEqDiff];refine aB aik ?_;simp -implicitDefEqProofs only [go_sem,↓reduceIte,Nat.reduceEqDiff];exact .pure _ (.bool _)
end Go.VL
end
section
namespace Go.VL
open Tm
theorem Fp (a b:List Str) (hl:a.length<=1099511627776):Ev (fun k=>kL k a b) (decide (a=b)):=by
  unfold kL;by_cases hab:a.length=b.length
  · refine Ev.cF (by simp [hab]) ?_;have key:Ev (fun k=>dU k a b (a.length:Int) ((0:Nat):Int)) (if a.drop 0=b.drop 0 then .inl ()else .inr false):=by
      refine lC (len:=a.length) (p:=fun i=>Ev (fun k=>dU k a b (a.length:Int) (i:Int)) (if a.drop i=b.drop i then .inl ()else .inr false)) ?_ fun i hi ih=> ?_
      · refine Ev.succ ?_;simp only [dU];refine Ev.cF (jJ _) (Ev.some' ?_);simp [hab]
      · have hi':i<b.length:=hab▸hi;refine Ev.succ ?_;simp only [dU,Int.toNat_natCast,bG hi,bG hi',Option.bind_some,nn,if_true,kW hi,cond_true,eF hi hl];by_cases h:a[i]=b[i]
        · refine Ev.cT (by rw [beq_iff_eq];exact h) (ih.to ?_);have:List.drop i a=a[i]::List.drop (i+1) a:=List.drop_eq_getElem_cons hi;have:List.drop i b=b[i]::List.drop (i+1) b:=List.drop_eq_getElem_cons hi';simp only [*,List.cons.injEq,true_and]
        · refine Ev.cF (by rw [beq_eq_false_iff_ne];exact h) (Ev.some' ?_);have e1:List.drop i a=a[i]::List.drop (i+1) a:=List.drop_eq_getElem_cons hi;have e2:List.drop i b=b[i]::List.drop (i+1) b:=List.drop_eq_getElem_cons hi';rw [if_neg];intro e;rw [e1,e2,List.cons.injEq]at e;exact h e.1
    refine Ev.bind key ?_;by_cases h:a=b
    · subst h;simp only [if_true,bL,decide_true];exact Ev.some
    · simp only [List.drop_zero,h,if_false,bP,decide_false];exact Ev.some
  · refine Ev.cT (by simp;omega) (Ev.some' ?_);exact(decide_eq_false fun e=>hab (by rw [e])).symm
theorem LK (a b:List Int) (hl:a.length<=1099511627776):Ev (fun k=>qm k a b) (decide (a=b)):=by
  unfold qm;by_cases hab:a.length=b.length
  · refine Ev.cF (by simp [hab]) ?_;have key:Ev (fun k=>gI k a b (a.length:Int) ((0:Nat):Int)) (if a.drop 0=b.drop 0 then .inl ()else .inr false):=by
      refine lC (len:=a.length) (p:=fun i=>Ev (fun k=>gI k a b (a.length:Int) (i:Int)) (if a.drop i=b.drop i then .inl ()else .inr false)) ?_ fun i hi ih=> ?_
      · refine Ev.succ ?_;simp only [gI];refine Ev.cF (jJ _) (Ev.some' ?_);simp [hab]
      · have hi':i<b.length:=hab▸hi;refine Ev.succ ?_;simp only [gI,Int.toNat_natCast,bG hi,bG hi',Option.bind_some,nn,if_true,kW hi,cond_true,eF hi hl];have e1:List.drop i a=a[i]::List.drop (i+1) a:=List.drop_eq_getElem_cons hi;have e2:List.drop i b=b[i]::List.drop (i+1) b:=List.drop_eq_getElem_cons hi';by_cases h:a[i]=b[i]
        · refine Ev.cF (by rw [bne_eq_false_iff_eq];exact h) (ih.to ?_);rw [e1,e2];simp only [h,List.cons.injEq,true_and]
        · refine Ev.cT (by rw [bne_iff_ne];exact h) (Ev.some' ?_);rw [if_neg];intro e;rw [e1,e2,List.cons.injEq]at e;exact h e.1
    refine Ev.bind key ?_;by_cases h:a=b
    · subst h;simp only [if_true,bL,decide_true];exact Ev.some
    · simp only [List.drop_zero,h,if_false,bP,decide_false];exact Ev.some
  · refine Ev.cT (by simp;omega) (Ev.some' ?_);exact(decide_eq_false fun e=>hab (by rw [e])).symm
theorem abt (x y:Nd) (h1:x.names.length<=1000000) (h2:x.args.length<=1000000):Ev (fun k=>Et k x y) (decide (x=y)):=by
  unfold Et;obtain⟨k1,n1,t1,m1,a1⟩:=x;obtain⟨k2,n2,t2,m2,a2⟩:=y;simp only at h1 h2;simp only [Nd.mk.injEq];by_cases e1:k1=k2
  · refine Ev.cT (by rw [beq_iff_eq];exact e1) ?_;by_cases e2:n1=n2
    · refine Ev.cT (by rw [beq_iff_eq];exact e2) ?_;by_cases e3:t1=t2
      · refine Ev.cT (by rw [beq_iff_eq];exact e3) (Ev.bind (Fp m1 m2 (by omega)) ?_);by_cases e4:m1=m2
        · refine Ev.cT (decide_eq_true e4) (Ev.bind (LK a1 a2 (by omega)) (Ev.some' ?_));simp [e1,e2,e3,e4]
        · exact Ev.cF (decide_eq_false e4) (Ev.some' (by simp [e4]))
      · exact Ev.cF (by rw [beq_eq_false_iff_ne];exact e3) (Ev.some' (by simp [e3]))
    · exact Ev.cF (by rw [beq_eq_false_iff_ne];exact e2) (Ev.some' (by simp [e2]))
  · exact Ev.cF (by rw [beq_eq_false_iff_ne];exact e1) (Ev.some' (by simp [e1]))
theorem acB: ∀(a b:List Nd),a.length=b.length->(∀n∈a,n.names.length<=1000000/\n.args.length<=1000000)->Ev (fun k=>O6 k a b) (decide (a=b))
  |[],[],_,_=>Ev.all fun k=>rfl
  |[],_::_,h,_=>by simp at h
  |_::_,[],h,_=>by simp at h
  |x::a,y::b,h,hn=>by
    have hx:=hn x List.mem_cons_self;unfold O6;refine Ev.bind (abt x y hx.1 hx.2) ?_;by_cases e:x=y
    · refine Ev.cT (decide_eq_true e) ((acB a b (by simpa using h) fun n hm=>hn n (List.mem_cons_of_mem _ hm)).to ?_);simp [e]
    · refine Ev.cF (decide_eq_false e) (Ev.some' ?_);simp [e]
theorem agp (a b:List Nd) (hl:a.length<=1000000) (hn: ∀n∈a,n.names.length<=1000000/\n.args.length<=1000000):Ev (fun k=>Fj k a b) (decide (a=b)):=by
  unfold Fj;refine Ev.mZ (by omega) ?_;by_cases h:a.length=b.length
  · simp only [if_pos h];exact acB a b h hn
  · simp only [if_neg h];exact Ev.some' (decide_eq_false fun e=>h (by rw [e])).symm
end Go.VL
end
section
namespace Go.VL
open Tm
theorem U6 {e:List Nd} (hF:yu e) (hL:qN e) {t:Tm} (he:e=flat 0 t) {left:List Str} (hfree:Ev (fun k=>vU k e) left) (hl:left.length<=1000):Ev (fun k=>oz k e) (flat 0 (can left [] 0 t).1):=by
  have hlen:=hF.len;have hs:=t.size_pos;have hsz:e.length=t.size:=by rw [he,dh]
  obtain⟨K1,h1⟩:=hfree;obtain⟨K2,h2⟩:=aay hl hF (fun i n hn=>by have:=(hL.nd i n hn).1;omega) t 0 [] [] 0 (by rw [he];exact Seg.whole t) rfl (by simp only [List.length_nil];omega) (LJ hF he left hl);refine⟨K1+K2,fun k hk=> ?_⟩;show oz k e=_
  unfold oz;rw [(show vU k e=_ from h1 k (by omega)),Option.bind_some];have:=h2 k k (by omega) (by omega);rw [<-he]at this;rw [show((0:Int))=((0:Nat):Int)from rfl,this];rfl
def GoodS (left:List Str) (N:Nat) (bd:List Scope):Prop:= ∀s∈bd,∃n,s.new=bN n/\n<=N/\bN n∉left
theorem Nr: ∀(bd:List Scope) (t:Str),kV bd t=t\/ ∃s∈bd,s.old=t/\kV bd t=s.new
  |[],t=> .inl (by rw [kV])
  |s::bd,t=>by
    rw [kV];have ih:=Nr bd t;by_cases h:(bd.any fun s=>decide (s.old=t))=true
    · rw [if_pos h];rcases ih with h1|⟨s1,h1,h2,h3⟩
      · exact .inl h1
      · exact .inr ⟨s1,List.mem_cons_of_mem _ h1,h2,h3⟩
    · rw [if_neg h];by_cases h2:s.old=t
      · rw [if_pos h2];exact .inr ⟨s,List.mem_cons_self,h2,rfl⟩
      · rw [if_neg h2];rcases ih with h1|⟨s1,h1,h2,h3⟩
        · exact .inl h1
        · exact .inr ⟨s1,List.mem_cons_of_mem _ h1,h2,h3⟩
theorem aaz {left:List Str} {x:Nd} {c:Nat} {s:Str} (h:s∈(fE left x c).1):(s∈x.names/\(x.kind=16\/x.kind=17))\/ ∃n,s=bN n/\c<n/\n<=(fE left x c).2/\bN n∉left:=by
  unfold fE at h⊢;by_cases hk:x.kind=16\/x.kind=17
  · rw [if_pos hk]at h;exact .inl ⟨h,hk⟩
  · rw [if_neg hk]at h⊢;obtain⟨h1,n,h2,h3,h4⟩:=LA left _ _ _ h;exact .inr ⟨n,h2,h3,h4,h2▸h1⟩
theorem al1 {left:List Str} {bd:List Scope} {x:Nd} {a j c:Nat} {s:Scope} (h:s∈r9 x (nu left bd c x) a j):s.old∈x.names/\ ∃n,s.new=bN n/\c<n/\n<=(fE left x c).2/\bN n∉left:=by
  unfold r9 at h;obtain⟨i,hi⟩:=List.mem_iff_getElem?.1 h;rw [List.getElem?_zipWith]at hi;cases h1:(iR (nG x.kind x.n a j) x.names)[i]? with
  |none=>rw [h1]at hi;simp at hi
  |some o=>
    cases h2:(iR (nG x.kind x.n a j) (nu left bd c x).names)[i]? with
    |none=>rw [h1,h2]at hi;simp at hi
    |some w=>
      rw [h1,h2]at hi;simp only [Option.some.injEq]at hi;subst hi;refine⟨VZ (List.mem_of_getElem? h1),?_⟩;rcases aaz (VZ (List.mem_of_getElem? h2))with⟨_,hk⟩|h3
      · rw [alS hk]at h2;simp [iR]at h2
      · exact h3
theorem aiA {left:List Str} {bd:List Scope} {x:Nd} {a j c N:Nat} (hN:(fE left x c).2<=N) (hb:GoodS left N bd):GoodS left N (bd++r9 x (nu left bd c x) a j):=by
  intro s hs;rcases List.mem_append.1 hs with h|h
  · exact hb s h
  · obtain⟨_,n,h1,_,h2,h3⟩:=al1 h;exact⟨n,h1,by omega,h3⟩
def TxO (left:List Str) (N:Nat) (o s:Str):Prop:=s=o\/ ∃n,s=bN n/\n<=N/\bN n∉left
theorem acC {left:List Str} {N:Nat} {bd:List Scope} (hb:GoodS left N bd) (x:Nd):TxO left N x.text (AU bd x)/\(AU bd x≠x.text->jI x=true):=by
  unfold AU;cases h:jI x with
  |false=>rw [if_neg (by simp)];exact⟨.inl rfl,fun h=>absurd rfl h⟩
  |true=>
    rw [if_pos rfl];refine⟨?_,fun _=>rfl⟩;rcases Nr bd x.text with h1|⟨s,h1,h2,h3⟩
    · exact .inl h1
    · rw [h3];obtain⟨n,h4,h5,h6⟩:=hb s h1;exact .inr ⟨n,h4,h5,h6⟩
structure Out (left:List Str) (N:Nat) (n m:Nd):Prop where
  sk:Iw m=Iw n
  tx:TxO left N n.text m.text
  nb:m.text≠n.text->jI n=true
  fx:n.kind=16\/n.kind=17->m.names=n.names
  nm: ¬(n.kind=16\/n.kind=17)->m.names.Nodup/\ ∀s∈m.names,∃k,s=bN k/\k<=N/\bN k∉left
theorem aqW {left:List Str} {N:Nat} {bd:List Scope} {c:Nat} (hb:GoodS left N bd) (x:Nd) (b:Nat) (cs cs':List Tm) (hr:roots b cs'=roots b cs) (hN:(fE left x c).2<=N):Out left N (nd x b cs) (nd (nu left bd c x) b cs'):=by
  refine⟨?_,(acC hb x).1,(acC hb x).2,fun h=> ?_,fun h=>⟨?_,fun s hs=> ?_⟩⟩
  · simp only [Iw,nd,hr,nu];rw [Np (Fh left x c)]
  · show(fE left x c).1=x.names
    unfold fE;rw [if_pos (show x.kind=16\/x.kind=17 from h)]
  · show(fE left x c).1.Nodup
    unfold fE;rw [if_neg (show ¬(x.kind=16\/x.kind=17)from h)];exact Nl left _ _
  · rcases aaz hs with⟨_,hk⟩|⟨n,h1,_,h2,h3⟩
    · exact absurd hk h
    · exact⟨n,h1,by omega,h3⟩
mutual
theorem acD {left:List Str} {N:Nat}: ∀(t:Tm) (b:Nat) (bd:List Scope) (c:Nat),GoodS left N bd->(can left bd c t).2<=N-> ∀(i:Nat) (n:Nd),(flat b t)[i]? =some n-> ∃m,(flat b (can left bd c t).1)[i]? =some m/\Out left N n m
  | .mk x cs,b,bd,c,hb,hN,i,n,hn=>by
    rw [Fg]at hN⊢;have hle:=yQ left cs bd x (nu left bd c x) cs.length 0 (fE left x c).2;rw [kQ]at hn⊢;have hfl:(bq b (fK left bd x (nu left bd c x) cs.length 0 (fE left x c).2 cs).1).length=(bq b cs).length:=by rw [cB,cB,DC]
    by_cases hi:i<(bq b cs).length
    · rw [List.getElem?_append_left hi]at hn;rw [List.getElem?_append_left (by omega)];exact aaA cs b bd x (nu left bd c x) cs.length 0 (fE left x c).2 (fun j=>aiA (by simp only at hN;omega) hb) hN i n hn
    · rw [List.getElem?_append_right (by omega)]at hn;rw [List.getElem?_append_right (by omega),hfl];have hi0:i -(bq b cs).length=0:=by
        by_cases h:i -(bq b cs).length=0
        · exact h
        · rw [List.getElem?_eq_none (by simp;omega)]at hn;cases hn
      rw [hi0]at hn⊢;cases hn;exact⟨_,rfl,aqW hb x b cs _ (DF left cs b _ _ _ _ _ _) (by simp only at hN;omega)⟩
theorem aaA {left:List Str} {N:Nat}: ∀(cs:List Tm) (b:Nat) (bd:List Scope) (x y:Nd) (a j c:Nat),(∀j,GoodS left N (bd++r9 x y a j))->(fK left bd x y a j c cs).2<=N-> ∀(i:Nat) (n:Nd),(bq b cs)[i]? =some n-> ∃m,(bq b (fK left bd x y a j c cs).1)[i]? =some m/\Out left N n m
  |[],b,bd,x,y,a,j,c,hb,hN,i,n,hn=>by simp [bq]at hn
  |t::ts,b,bd,x,y,a,j,c,hb,hN,i,n,hn=>by
    rw [lM]at hN⊢;have hle:=yQ left ts bd x y a (j+1) (can left (bd++r9 x y a j) c t).2;rw [iw]at hn⊢;have hfl:(flat b (can left (bd++r9 x y a j) c t).1).length=(flat b t).length:=by rw [dh,dh,vW]
    by_cases hi:i<(flat b t).length
    · rw [List.getElem?_append_left hi]at hn;rw [List.getElem?_append_left (by omega)];exact acD t b _ c (hb j) (by simp only at hN;omega) i n hn
    · rw [List.getElem?_append_right (by omega)]at hn;rw [List.getElem?_append_right (by omega),hfl,vW];exact aaA ts (b+t.size) bd x y a (j+1) _ hb hN _ n hn
end
end Go.VL
end
section
namespace Go.VL
open Go.Proofs Go.RowKit
theorem aaB (k:Nat) (e:List Nd) {c:Ck} {r:List Nd} (h:vX k e=some r):aF Tryz.prog 86 [.aA (e.map Nd.cells) c] (.aA (r.map Nd.cells) .unk):=agb h
theorem agq (k:Nat) (a b:List Nd) {c c2:Ck} {r:Bool} (h:Fj k a b=some r):aF Tryz.prog 85 [.aA (a.map Nd.cells) c,.aA (b.map Nd.cells) c2] (.bool r):=aiz h
end Go.VL
end
section
set_option maxRecDepth 8000
set_option maxHeartbeats 4000000
namespace Go.VL
open Go.Proofs
def Iy (k:Nat) (a_0:List Nd) (b_1:List Nd):Option (Bool×Int):=
  Option.bind (rV k a_0) fun p2=>Option.bind (rV k b_1) fun p4=>Option.bind (gG k [p2,p4]) fun p6=>cond (p6 !=0) (some (false,p6)) (Option.bind (vX k a_0) fun p9=>Option.bind (vX k b_1) fun l6=>Option.bind (Fj k p9 l6) fun rR=>some (rR,0))
theorem agr {k:Nat} {a_0:List Nd} {b_1:List Nd} {c0 c1:Ck} {r:Bool×Int} (h:Iy k a_0 b_1=some r):aF Tryz.prog 42 [(.aA (a_0.map Nd.cells) c0),(.aA (b_1.map Nd.cells) c1)] (.dM [(.bool r.1),(.int .i64 r.2)]):=by
  refine aF.lw (.aA (.aA .nil)) (aF.aQ (bf.mem (.cons (aU Nd.pu _) (.cons (aU Nd.pu _) .nil))) (aG auK (by simp) (aD ?_)) (.dM _ (bf.mem (.cons (.bool _) (.cons (.int _ _) .nil)))));unfold Iy at h;unfold anr;obtain⟨p2,e1,h⟩:=aj h;try refine ah ?_
  refine aB (BO e1) ?_;obtain⟨p4,e3,h⟩:=aj h;try refine ah ?_
  refine aB (BO e3) ?_;obtain⟨p6,e5,h⟩:=aj h;try refine ah ?_
  refine aB (kF e5) ?_;rcases au h with⟨e7,h⟩|⟨e7,h⟩
  ·obtain rfl:=ak h;try refine ah ?_
   exact(dn (.cons (.pure _ (.bool _)) (.cons (.pure _ (.int _ _)) .nil)))
  ·obtain⟨p9,e8,h⟩:=aj h;try refine ah ?_
   refine aB (aaB k a_0 e8) ?_;obtain⟨l6,e10,h⟩:=aj h;try refine ah ?_
   refine aB (aaB k b_1 e10) ?_;obtain⟨rR,e12,h⟩:=aj h;try refine ah ?_
   refine aB (agq k p9 l6 e12) ?_;obtain rfl:=ak h;try refine ah ?_
   exact(dn (.cons (.pure _ (.bool _)) (.cons (.pure _ (.int _ _)) .nil)))
end Go.VL
end
section
set_option maxRecDepth 8000
set_option maxHeartbeats 4000000
namespace Go.VL
open Go.Proofs
def oJ (k:Nat) (b_1:List Nd) (dO:Bool):Option Bool:=
  cond dO (some (true)) (Option.bind (Mf k b_1) fun p5=>some ((!p5)))
theorem O7 (k:Nat): ∀(b_1:List Nd) (dO:Bool) (aC σ:Nat->PV) (H:AH) (f0:Fr [14,15,16,17] aC σ) (sl:σ 1=(.aA (b_1.map Nd.cells) .unk)/\σ 13=(.bool dO)) (o:Bool) (h:oJ k b_1 dO=some o) (Q:Post) (q0: ∀(p:Bool) (σ':Nat->PV),o=p->Fr [14,15,16,17] aC σ'->(σ' 17=(.bool p))->Q .normal σ' H),dF Tryz.prog Rv (Q .normal) σ H:=by
  intro b_1 dO aC σ H f0 sl o h Q q0;obtain⟨s1,s13⟩:=sl;unfold oJ at h;refine eB ?_;unfold Rv;rcases au h with⟨e3,h⟩|⟨e3,h⟩
  ·obtain rfl:=ak h;try refine ah ?_
   exact q0 _ _ rfl aJ av
  ·obtain⟨p5,e4,h⟩:=aj h;try refine ah ?_
   refine aB (abW e4) ?_;obtain rfl:=ak h;try refine ah ?_
   exact q0 _ _ rfl aJ av
def rQ (k:Nat) (b_1:List Nd) (d_7:Int):Option Int:=
  cond (d_7==0) (Option.bind (Me k b_1) fun p26=>some (p26)) (some (d_7))
def Gn:List Nat:=[7,28,29,30,31]
theorem O8 (k:Nat): ∀(b_1:List Nd) (d_7:Int) (aC σ:Nat->PV) (H:AH) (f0:Fr Gn aC σ) (sl:σ 1=(.aA (b_1.map Nd.cells) .unk)/\σ 7=(.int .i64 d_7)) (o:Int) (h:rQ k b_1 d_7=some o) (Q:Post) (q0: ∀(p:Int) (σ':Nat->PV),o=p->Fr Gn aC σ'->(σ' 7=(.int .i64 p))->Q .normal σ' H),W Tryz.prog Rw Q σ H:=by
  intro b_1 d_7 aC σ H f0 sl o h Q q0;obtain⟨s1,s7⟩:=sl;unfold rQ at h;refine aD ?_;unfold Rw;rcases au h with⟨e24,h⟩|⟨e24,h⟩
  ·obtain⟨p26,e25,h⟩:=aj h;try refine ah ?_
   refine aB (abV e25) ?_;obtain rfl:=ak h;try refine ah ?_
   exact q0 _ _ rfl aJ av
  ·obtain rfl:=ak h;try refine ah ?_
   exact q0 _ _ rfl aJ av
def BR (k:Nat) (a_0:List Nd) (b_1:List Nd):Option Bool:=
  Option.bind (Mf k a_0) fun p2=>Option.bind (oJ k b_1 (!p2)) (fun p8=>cond p8 (some true) (Option.bind (yI k a_0) fun Hq=>Option.bind (yI k b_1) fun wM=>Option.bind (Iy k Hq wM) fun pI=>Option.bind (Me k a_0) fun FV=>Option.bind (rQ k b_1 FV) (fun p29=>cond (p29 !=0) (cond (pI.2==p29) (some (!pI.1)) (some false)) (cond (pI.2==0) (Option.bind (oz k a_0) fun p42=>Option.bind (oz k b_1) fun p44=>Option.bind (zO k p42 p44) fun p46=>some (pI.1==p46)) (some false)))))
theorem Xc {k:Nat} {a_0:List Nd} {b_1:List Nd} {c0 c1:Ck} {r:Bool} (h:BR k a_0 b_1=some r):aF Tryz.prog 10 [(.aA (a_0.map Nd.cells) c0),(.aA (b_1.map Nd.cells) c1)] (.bool r):=by
  refine aF.lw (.aA (.aA .nil)) (aF.aQ (bf.mem (.cons (aU Nd.pu _) (.cons (aU Nd.pu _) .nil))) (aG amV (by simp) (aD ?_)) (.bool _));unfold BR at h;unfold amU;try refine ah ?_
  refine aB (alL) ?_;obtain⟨p2,e1,h⟩:=aj h;try refine ah ?_
  refine aB (abW e1) ?_;try refine ah ?_
  obtain⟨o6,h7,h⟩:=aj h;refine O7 k b_1 (!p2) _ _ _ (Fr.refl _ _) av _ h7 _ ?_
  ·rintro p8 σ' eo Hl s12;rw [eo]at h;have s13:σ' 0=(.aA (a_0.map Nd.cells) .unk):=(Hl 0 (by decide)).trans av;have JC:σ' 1=(.aA (b_1.map Nd.cells) .unk):=(Hl 1 (by decide)).trans av;rcases au h with⟨e15,h⟩|⟨e15,h⟩
   ·obtain rfl:=ak h;try refine ah ?_
    exact(.pure _ (.bool _))
   ·obtain⟨Hq,e16,h⟩:=aj h;try refine ah ?_
    refine aB (M9 e16) ?_;obtain⟨wM,e18,h⟩:=aj h;try refine ah ?_
    refine aB (M9 e18) ?_;obtain⟨pI,e20,h⟩:=aj h;try refine ah ?_
    refine aB (agr e20) ?_;obtain⟨FV,e22,h⟩:=aj h;try refine ah ?_
    refine aB (abV e22) ?_;try refine ah ?_
    obtain⟨o27,h28,h⟩:=aj h;refine O8 k b_1 FV _ _ _ (Fr.refl _ _) av _ h28 _ ?_
    ·rintro p29 σ' eo yc s33;rw [eo]at h;have s34:σ' 0=(.aA (a_0.map Nd.cells) .unk):=(yc 0 (by decide)).trans av;have s35:σ' 1=(.aA (b_1.map Nd.cells) .unk):=(yc 1 (by decide)).trans av;have s36:σ' 5=(.bool pI.1):=(yc 5 (by decide)).trans av;have s37:σ' 6=(.int .i64 pI.2):=(yc 6 (by decide)).trans av;rcases au h with⟨e38,h⟩|⟨e38,h⟩
     ·rcases au h with⟨e39,h⟩|⟨e39,h⟩
      ·obtain rfl:=ak h;try refine ah ?_
       exact(.pure _ (.bool _))
      ·obtain rfl:=ak h;try refine ah ?_
       exact(.pure _ (.bool _))
     ·rcases au h with⟨e40,h⟩|⟨e40,h⟩
      ·obtain⟨p42,e41,h⟩:=aj h;try refine ah ?_
       refine aB (J2 k a_0 e41) ?_;obtain⟨p44,e43,h⟩:=aj h;try refine ah ?_
       refine aB (J2 k b_1 e43) ?_;obtain⟨p46,e45,h⟩:=aj h;try refine ah ?_
       refine aB (YQ e45) ?_;obtain rfl:=ak h;try refine ah ?_
       exact(.pure _ (.bool _))
      ·obtain rfl:=ak h;try refine ah ?_
       exact(.pure _ (.bool _))
end Go.VL
end
section
namespace Go.VL
open Tm
theorem ags {left:List Str} {N:Nat}:GoodS left N []:=fun s hs=>by cases hs
section
variable {e:List Nd} {t:Tm} (he:e=flat 0 t) {left:List Str} (hl:left.length<=1000)
include he hl
theorem al2 (hF:yu e) {i:Nat} {m:Nd} (hm:(flat 0 (can left [] 0 t).1)[i]? =some m): ∃n,e[i]? =some n/\Out left 9000 n m:=by
  have hi:=(List.getElem?_eq_some_iff.1 hm).1;rw [dh,vW]at hi;have hi':i<e.length:=by rw [he,dh];exact hi
  obtain⟨m',h1,h2⟩:=acD t 0 [] 0 ags (Nat.le_trans (Nat.le_add_right _ _) (LJ hF he left hl)) i e[i] (by rw [<-he];exact bG hi');rw [hm]at h1;cases h1;exact⟨e[i],bG hi',h2⟩
theorem aiB (hF:yu e) (hL:qN e):qN (flat 0 (can left [] 0 t).1):=by
  refine⟨by rw [dh,vW,<-dh 0,<-he];exact hL.len,fun i m hm=> ?_⟩;obtain⟨n,hn,ho⟩:=al2 he hl hF hm;obtain⟨h1,h2,h3⟩:=hL.nd i n hn;obtain⟨_,_,a3,a4⟩:=acz ho.sk;refine⟨?_,by omega,by rw [a3];exact h3⟩;rcases ho.tx with h|⟨k,h4,h5,_⟩
  · rw [h];exact h1
  · rw [h4];have:=aqp (n:=k) (by omega);omega
end
theorem aaC {e:List Nd} (hL:qN e) (hF:yu e) (hV:Valid e): ∃t left,e=flat 0 t/\left.length<=1000/\Ev (fun k=>xI k e) left/\Ev (fun k=>vU k e) left/\Ev (fun k=>vX k e) (flat 0 (can left [] 0 t).1)/\Ev (fun k=>oz k e) (flat 0 (can left [] 0 t).1):=by
  obtain⟨t,he⟩:=hV.tree;obtain⟨left,h1,h2,h3⟩:=afS hV hL hF;exact⟨t,left,he,h3,h1,h2,agh hF he h1 h3,U6 hF hL he h2 h3⟩
theorem errs {e:List Nd} (hL:qN e): ∃c:Int,Ev (fun k=>rV k e) c/\Ev (fun k=>Me k e) c/\(c=0->Valid e):=by
  obtain⟨r,ht,hr,hv⟩:=adR e hL;exact⟨r.2,by unfold rV;exact Ev.bind ht Ev.some,by unfold Me;exact Ev.bind hr Ev.some,hv⟩
theorem U7 (a b:List Nd):Ev (fun k=>BR k a b) true:=by
  unfold BR;refine Ev.bind (OV a) ?_;cases ha:Ll a with
  |false=>exact Ev.bind (x:=true) (by unfold oJ;exact Ev.cT rfl Ev.some) (Ev.cT rfl Ev.some)
  |true=>
  cases hb:Ll b with
  |false=>exact Ev.bind (x:=true) (by unfold oJ;exact Ev.cF rfl (Ev.bind (OV b) (Ev.some' (by rw [hb];rfl)))) (Ev.cT rfl Ev.some)
  |true=>
  refine Ev.bind (x:=false) (by unfold oJ;exact Ev.cF rfl (Ev.bind (OV b) (Ev.some' (by rw [hb];rfl)))) (Ev.cF rfl ?_);have hLa:=ZL ha;have hLb:=ZL hb;obtain⟨ca,a1,a2,a3⟩:=errs hLa;obtain⟨cb,b1,b2,b3⟩:=errs hLb;refine Ev.bind (Lm hLa) (Ev.bind (Lm hLb) ?_);have agt: ∀r:Bool×Int,Ev (fun k=>cond (vP [ca,cb] !=0) (some (false,vP [ca,cb])) (Option.bind (vX k a) fun p9=>Option.bind (vX k b) fun l6=>Option.bind (Fj k p9 l6) fun rR=>some (rR,(0:Int)))) r->Ev (fun k=>Iy k a b) r:=fun r hr=>by
    unfold Iy;exact Ev.bind a1 (Ev.bind b1 (Ev.bind (DV _ (by simp)) hr))
  have hj:Ev (fun k=>rQ k b ca) (vP [ca,cb]):=by
    unfold rQ;by_cases h:ca=0
    · refine Ev.cT (by rw [beq_iff_eq];exact h) (Ev.bind b2 (Ev.some' ?_));rw [h];simp [vP]
    · refine Ev.cF (by rw [beq_eq_false_iff_ne];exact h) (Ev.some' ?_);simp [vP,h]
  by_cases h0:vP [ca,cb]=0
  case neg=>
    have hne:(vP [ca,cb] !=0)=true:=by rw [bne_iff_ne];exact h0
    exact Ev.bind (agt (false,vP [ca,cb]) (Ev.cT hne Ev.some)) (Ev.bind a2 (Ev.bind hj (Ev.cT hne (Ev.cT (by simp) (Ev.some' rfl)))))
  have hne:(vP [ca,cb] !=0)=false:=by rw [h0];rfl
  have hca:ca=0:=by
    by_cases h:ca=0
    · exact h
    · simp [vP,h]at h0
  have hcb:cb=0:=by
    by_cases h:cb=0
    · exact h
    · rw [hca]at h0;simp [vP,h]at h0
  have hVa:=a3 hca;have hVb:=b3 hcb;have hFa:=ZR ha hVa;have hFb:=ZR hb hVb;obtain⟨ta,la,e1,e2,e3,e4,e5,e6⟩:=aaC hLa hFa hVa;obtain⟨tb,lb,f1,f2,f3,f4,f5,f6⟩:=aaC hLb hFb hVb;have hLc:=aiB e1 e2 hFa hLa;have hs:=agp (flat 0 (can la [] 0 ta).1) (flat 0 (can lb [] 0 tb).1) hLc.len (fun n hn=>by
    obtain⟨i,hi⟩:=List.mem_iff_getElem?.1 hn;have:=hLc.nd i n hi;exact this.2)
  refine Ev.bind (agt (decide (flat 0 (can la [] 0 ta).1=flat 0 (can lb [] 0 tb).1),0) (Ev.cF hne (Ev.bind e5 (Ev.bind f5 (Ev.bind hs Ev.some))))) ?_;refine Ev.bind a2 (Ev.bind hj (Ev.cF hne (Ev.cT rfl (Ev.bind e6 (Ev.bind f6 (Ev.bind (W9 hLc) (Ev.some' (by simp))))))))
end Go.VL
end
