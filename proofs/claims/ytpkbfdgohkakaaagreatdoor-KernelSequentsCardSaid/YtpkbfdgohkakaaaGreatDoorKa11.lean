/- Part 11. -/
import Derived.Test.YtpkbfdgohkakaaaGreatDoorKa10
import Derived.Test.YtpkbfdgohkakaaaGreatDoorProg
import Derived.KernelRfl
set_option maxRecDepth 8000
set_option linter.unusedVariables false
set_option linter.unusedSectionVars false
set_option linter.unusedSimpArgs false
section
namespace Go.VL
open Go.Proofs Go.RowKit
theorem aqb {H:AH} {n:Nd} {z:NV} {p:Nat} {r:List Str} {bi:Bool} (hbi:l8 n.kind=some bi) (hz:bi=true->jc H (n,z)) (h:iq n (p:Int)=some r):bA Tryz.prog 240 [.agg (jr (n,z)),.int .i64 p] H fun v H'=>pW H' r v z.ids/\HF [] H H'/\ ∀c,bq H c->bq H' c:=by
 cases bi with
 |true=>exact acO (hz rfl) h
 |false=>
  have:=ajp (YG hbi) h;subst this;exact ajo (YG hbi)
theorem ac0 {l l':List (Nd×NV)} {id o:Nat} (h:l'.map (·.2)=l.map (·.2)):kS l' id o=kS l id o:=by
 unfold kS
 have: ∀l:List (Nd×NV),(l.map fun x=>x.2.ids)=(l.map (·.2)).map NV.ids:=fun l=>by rw [List.map_map];rfl
 rw [this,this,h]
def aut (v:PV) (id o lo:Nat) (lF:List Str) (cl:Ck) (rec:aha):Prop:=
 ∀(out:List Nd) (c:Int) (i:Nat) (bO:List Scope) (out':List Nd) (c':Int),rec out c i bO=some (out',c')-> ∀(H:AH) (l:List (Nd×NV)),kF H l v id o lo lF cl c->l.map (·.1)=out->
   bA Tryz.prog 258 [.ref o 0,.int .i64 i,.ak (bO.map Scope.cells) .unk] H fun _ H'=> ∃l',l'.map (·.1)=out'/\l'.map (·.2)=l.map (·.2)/\kF H' l' v id o lo lF cl c'/\HF (kS l id o) H H'
section
variable {v:PV} {id o lo:Nat} {lF:List Str} {cl:Ck} {rec:aha} {i q b N:Nat} {old:Nd} {z:NV} {bi:Bool} {bO:List Scope} {args:List Int} {Q:Post} {out':List Nd} {c':Int}
theorem aju (hrec:aut v id o lo lF cl rec) (hbi:l8 old.kind=some bi) (hbd:bO.length<=1000000) (hal:args.length<=1000000) (hqN:N<=q) (hbN:N<=b) (hzN:bi=true-> ∀a∈z.ids,N<=a) {ck:Ck}:
 ∀(m j:Nat) (out:List Nd) (c:Int) (l:List (Nd×NV)) (σ:Nat->PV) (H:AH),j+m=args.length->Oq rec old i bO (args.drop j) j out c=some (out',c')->kF H l v id o lo lF cl c->l.map (·.1)=out->(∀a∈kS l id o,a<N)->N<=H.next->
   (bi=true->jc H (old,z))->q<H.next->b<H.next->H.obj q=some [.ref id (i*5)]->H.obj b=some (jr (old,z))->σ 0= .ref o 0->σ 2= .ak (bO.map Scope.cells) ck->σ 6= .ref q 0->σ 9= .ref b 0->σ 76= .ak (args.map aS) .unk->σ 77= .int .i64 args.length->σ 78= .int .i64 j->
   (∀σ' H' l',l'.map (·.1)=out'->l'.map (·.2)=l.map (·.2)->kF H' l' v id o lo lF cl c'->HF (kS l id o) H H'->Q (.exit 4) σ' H')->W Tryz.prog (.loop K6) Q σ H:=by
 intro m
 induction m with
 |zero=>
  intro j out c l σ H hj hA hV hl hN hNn hz hq hb ho Bf s0 s2 s6 s9 s76 s77 s78 q0;rw [List.drop_of_length_le (by omega)]at hA;cases hA;have hge:decide ((j:Int)<(args.length:Int))=false:=decide_eq_false (by omega);refine aW (fun K hK=>aC ?_);unfold K6;simp -implicitDefEqProofs only [go_sem,s77,s78,hge];exact q0 _ H l hl rfl hV (HF.refl _ _)
 |succ m ih=>
  intro j out c l σ H hj hA hV hl hN hNn hz hq hb ho Bf s0 s2 s6 s9 s76 s77 s78 q0;have hja:j<args.length:=by omega
  rw [List.drop_eq_getElem_cons hja,Oq]at hA;obtain⟨n,hn,hA1⟩:=aj hA;obtain⟨x,hx,hA2⟩:=aj hA1;obtain⟨y,hy,hA3⟩:=aj hA2;obtain⟨⟨hxy,hx1,ha0⟩,hA4⟩:=aU hA3;obtain⟨⟨aBa,c1⟩,hr,hA5⟩:=aj hA4;clear hA hA1 hA2 hA3 hA4;subst hl;rw [List.getElem?_map]at hn;obtain⟨⟨n0,y0⟩,Vf,hn⟩:=Option.map_eq_some_iff.1 hn;simp only at hn;subst hn;have hlt:decide ((j:Int)<(args.length:Int))=true:=decide_eq_true (by omega);have I8:q∉kS l id o:=fun hm=>by have:=hN q hm;omega
  have aBb:(args.map aS)[j]? =some (aS args[j]):=by rw [List.getElem?_map,List.getElem?_eq_getElem hja];rfl
  refine aW (fun K hK=>aC ?_);unfold K6;simp -implicitDefEqProofs only [go_sem,s76,s77,s78,hlt,s2,aBb];refine av (ajk bO) ?_;have auu:=Bf;unfold jr at auu;simp -implicitDefEqProofs only [go_sem,s9,auu,Nat.zero_add,Nat.le_refl,List.take,List.drop];refine bA.mono (aqb hbi hz hx) ?_;rintro v87 H1 ⟨hB,hf1,hok1⟩;have hlen:=hB.len;have hV1:=hV.new hf1 (fun _ h=>by cases h);have ho1:=(hf1.2 q hq List.not_mem_nil).trans ho;simp -implicitDefEqProofs only [go_sem,hlen];refine ajn (l:=l) (i:=i) (n:=n0) (y:=y0) (q:=q) (j:=j) (a:=x) (b:=y) (ids:=z.ids) (v87:=v87) (v:=v) (id:=id) (o:=o) (lo:=lo) (left:=lF) (cl:=cl) (c:=c) Vf I8 hy hxy hx1 x.length 0 bO .exact _ H1 (Nat.zero_add _) hB hV1 trivial aP aP aP aP aP aP (Nat.lt_of_lt_of_le hq hf1.1) ho1 (by omega) fun σ' H2 Cx fr e13 hf2=> ?_;have qK:=hf1.tr hf2;have hV2:=hV1.new hf2 (fun _ h=>by cases h);rw [List.drop_zero,List.drop_zero]at e13;have t0:σ' 0= .ref o 0:=(fr 0 (by decide) (by decide)).trans aP;have t12:σ' 12= .int .i64 args[j]:=(fr 12 (by decide) (by decide)).trans aP;have t2:σ' 2= .ak (bO.map Scope.cells) ck:=(fr 2 (by decide) (by decide)).trans aP;have t6:σ' 6= .ref q 0:=(fr 6 (by decide) (by decide)).trans aP;have t9:σ' 9= .ref b 0:=(fr 9 (by decide) (by decide)).trans aP;have t76:σ' 76= .ak (args.map aS) .unk:=(fr 76 (by decide) (by decide)).trans aP;have t77:σ' 77= .int .i64 args.length:=(fr 77 (by decide) (by decide)).trans aP;have t78:σ' 78= .int .i64 j:=(fr 78 (by decide) (by decide)).trans aP;simp -implicitDefEqProofs only [go_sem,t0,t12,e13];have aBd:args[j]=((args[j].toNat:Nat):Int):=by omega
  rw [aBd];refine bA.mono (bA.wk (hrec _ _ _ _ _ _ hr H2 l hV2 rfl) (.same (.same (.ak .nil)))) ?_;rintro _ H3 ⟨l',r1,r2,r3,hf3⟩;have hw:IntKind.wrap .i64 ((j:Int)+1)=((j+1:Nat):Int):=by rw [IntKind.wrap_i64];omega
  simp -implicitDefEqProofs only [go_sem,t78,hw];have hM: ∀a∈kS l' id o,a<N:=by rw [ac0 r2];exact hN
  have alB:q<H2.next:=Nat.lt_of_lt_of_le hq qK.1;have auv:b<H2.next:=Nat.lt_of_lt_of_le hb qK.1;have hbM:b∉kS l id o:=fun hm=>by have:=hN b hm;omega
  have o2:H2.obj q=_:=(qK.2 q hq List.not_mem_nil).trans ho;have b2:H2.obj b=_:=(qK.2 b hb List.not_mem_nil).trans Bf;have hz3:bi=true->jc H3 (old,z):=fun h=>((hz h).hf qK (fun _ _ h=>by cases h)).hf hf3 fun a ha hm=>by have:=hzN h a ha;have:=hN a hm;omega
  refine hK _ _ (ih (j+1) aBa c1 l' _ H3 (by omega) hA5 r3 r1 hM (Nat.le_trans hNn (Nat.le_trans qK.1 hf3.1)) hz3 (Nat.lt_of_lt_of_le alB hf3.1) (Nat.lt_of_lt_of_le auv hf3.1) ((hf3.2 q alB I8).trans o2) ((hf3.2 b auv hbM).trans b2) (by simp -implicitDefEqProofs only [go_sem,t0]) (by simp -implicitDefEqProofs only [go_sem,t2]) (by simp -implicitDefEqProofs only [go_sem,t6]) (by simp -implicitDefEqProofs only [go_sem,t9]) (by simp -implicitDefEqProofs only [go_sem,t76]) (by simp -implicitDefEqProofs only [go_sem,t77]) (by simp -implicitDefEqProofs only [go_sem]) fun Qd H4 l4 u1 u2 u3 u4=> ?_);refine q0 Qd H4 l4 u1 (u2.trans r2) u3 (((qK.up fun a ha=>by cases ha).tr hf3).tr ?_);rw [ac0 r2]at u4;exact u4
end
theorem HF.old {M M':List Nat} {H H1 H2:AH} (h:HF M H H1) (h':HF M' H1 H2) (hs: ∀a∈M',a<H.next->a∈M):HF M H H2:=
 ⟨Nat.le_trans h.1 h'.1,fun a ha hm=>(h'.2 a (Nat.lt_of_lt_of_le ha h.1) fun hm'=>hm (hs a hm' ha)).trans (h.2 a ha hm)⟩
theorem aqc {v:PV} {id o lo:Nat} {lF:List Str} {cl:Ck} {F:Nat}: ∀k,aut v id o lo lF cl (JA lF F k):=by
 intro k
 induction k with
 |zero=>intro out c i bO out' c' h;cases h
 |succ k ih=>
  intro out c i bO out' c' h H l hV hl;rw [JA]at h;obtain⟨n,hn,h1⟩:=aj h;obtain⟨nm,hnm,h2⟩:=aj h1;obtain⟨bi,hbi,h3⟩:=aj h2;obtain⟨⟨n2,c2⟩,Ov,h4⟩:=aj h3;obtain⟨⟨hb1,hn1,ha1⟩,hA⟩:=aU h4;clear h h1 h2 h3 h4;subst hl;rw [List.getElem?_map]at hn;obtain⟨⟨n0,y⟩,Vf,hn⟩:=Option.map_eq_some_iff.1 hn;simp only at hn;subst hn;obtain⟨id0,C,e1,hid,hC,hcell,hle,hdrop,hI⟩:=aJ.content hV.own.row Vf;obtain rfl:id=id0:=by simpa using e1
  have hI':jV 5 v (.int .i64 i)=some (.ref id (i*5)):=hI .i64 i (by omega) (by omega);have hoo:=hV.obj;refine aF awE (by simp) (aC ?_);unfold anu;simp -implicitDefEqProofs only [go_sem,dL,hoo,hI',Nat.le_refl];obtain⟨H1,hH1⟩: ∃H1,H1=(H.new [.mJ]).put H.next [.ref id (i*5)]:=⟨_,rfl⟩;rw [<-hH1];have hf1:HF [] H H1:=by
   rw [hH1];exact HF.put (.inr (Nat.le_refl _)) (HF.new (HF.refl _ _))
  have oq1:H1.obj H.next=some [.ref id (i*5)]:=by
   rw [hH1];show(if H.next=H.next then some _ else _)=_;rw [if_pos rfl]
  have nx1:H.next<H1.next:=by rw [hH1];exact Nat.lt_succ_self _
  clear hH1;have hV1:=hV.new hf1 (fun a ha=>by cases ha);have I8:H.next∉kS l id o:=fun hm=>Nat.lt_irrefl _ (hV.lts _ hm);refine aue (l:=l) (i:=i) (n:=n0) (y:=y) (q:=H.next) (bound:=bO) (ck:= .unk) (nm:=nm) (k:=F) hV1 Vf aP aP nx1 I8 oq1 hnm (by omega) fun σ2 H2 Vd hV2 hf2 oq2=> ?_;obtain⟨n1,ac1⟩: ∃n1:Nd,n1={n0 with text:=if nm=true then lI bO n0.text else n0.text}:=⟨_,rfl⟩;have k1:n1.kind=n0.kind:=by rw [ac1]
  have g1:n1.args=n0.args:=by rw [ac1]
  have m1:n1.names=n0.names:=by rw [ac1]
  rw [<-ac1]at hV2 Ov hA;clear ac1;have hi:=(List.getElem?_eq_some_iff.1 Vf).1;have auw:(l.set i (n1,y))[i]? =some (n1,y):=by rw [List.getElem?_set,if_pos rfl,if_pos hi]
  have es2:kS (l.set i (n1,y)) id o=kS l id o:=acP Vf;obtain⟨id2,C2,e2,aGe,hC2,hcell2,hle2,auy,hI2⟩:=aJ.content hV2.own.row auw;obtain rfl:id=id2:=by simpa using e2
  have h52:=hle2 5 (Nat.le_refl _);have t6:σ2 6= .ref H.next 0:=(Vd 6 (by decide)).trans aP;have t0:σ2 0= .ref o 0:=(Vd 0 (by decide)).trans aP;have t2:σ2 2= .ak (bO.map Scope.cells) .unk:=(Vd 2 (by decide)).trans aP;simp -implicitDefEqProofs only [go_sem,t6,oq2,hC2,auy,h52];have hcs:cellsOf (.agg (jr (n1,y)))=some (jr (n1,y)):=rfl;have hone:(jr (n1,y)).all PV.one=true:=by cases y<;>rfl
  have onew:(H2.new [.int .i64 0,.int .i64 0,.str [],.ak [] .nil,.ak [] .nil]).obj H2.next=some [.int .i64 0,.int .i64 0,.str [],.ak [] .nil,.ak [] .nil]:=by
   show(if H2.next=H2.next then some _ else _)=_
   rw [if_pos rfl]
  refine Va (id:=H2.next) (o:=0) (vs:=jr (n1,y)) (cs:=[.int .i64 0,.int .i64 0,.str [],.ak [] .nil,.ak [] .nil]) aP (by simp -implicitDefEqProofs only [go_sem,hcs]) onew rfl (by show 5<=5;decide) hone ?_;have hput:putCells [.int .i64 0,.int .i64 0,.str [],.ak [] .nil,.ak [] .nil] 0 (jr (n1,y))=jr (n1,y):=by cases y<;>rfl
  rw [hput];obtain⟨H3,hH3⟩: ∃H3,H3=(H2.new [.int .i64 0,.int .i64 0,.str [],.ak [] .nil,.ak [] .nil]).put H2.next (jr (n1,y)):=⟨_,rfl⟩;rw [<-hH3];have hf3:HF [] H2 H3:=by
   rw [hH3];exact HF.put (.inr (Nat.le_refl _)) (HF.new (HF.refl _ _))
  have ob3:H3.obj H2.next=some (jr (n1,y)):=by
   rw [hH3];show(if H2.next=H2.next then some _ else _)=_;rw [if_pos rfl]
  have nx3:H2.next<H3.next:=by rw [hH3];exact Nat.lt_succ_self _
  clear hH3;have nx2:H.next<H2.next:=Nat.lt_of_lt_of_le nx1 hf2.1;have hV3:=hV2.new hf3 (fun a ha=>by cases ha);have oq3:=(hf3.2 H.next nx2 List.not_mem_nil).trans oq2;simp -implicitDefEqProofs only [go_sem];refine aui (l:=l.set i (n1,y)) (i:=i) (n:=n1) (n':=n2) (y:=y) (q:=H.next) (b:=H2.next) (F:=F) (bi:=bi) (c:=c) (c':=c2) hV3 auw (by rw [m1];exact hn1) (by rw [es2];exact I8) (fun hm=>by rw [es2]at hm;have:=hV.lts _ hm;omega) (by omega) aP aP aP (Nat.lt_trans nx2 nx3) nx3 oq3 ob3 (by rw [k1];exact hbi) Ov fun Qd H4 z fr4 hV4 hz4 hf4 oq4 ob4=> ?_;rw [List.set_set]at hV4;have aBe:(l.set i (n2,y))[i]? =some (n2,y):=by rw [List.getElem?_set,if_pos rfl,if_pos hi]
  have es4:kS (l.set i (n2,y)) id o=kS l id o:=acP Vf;obtain⟨id4,C4,e4,aGf,hC4,auA,aGg,aDU,hI4⟩:=aJ.content hV4.own.row aBe;obtain rfl:id=id4:=by simpa using e4
  have c4:C4[i*5+4]? =some (.ak (n2.args.map aS) .unk):=auA 4 _ rfl;have g2:n2.args=n0.args:=by
   rw [<-g1];cases bi with
   |false=>cases Ov;rfl
   |true=>obtain⟨p,_,hp⟩:=aj Ov;cases hp;rfl
  rw [g2]at c4;have u6:Qd 6= .ref H.next 0:=(fr4 6 (by decide) (by decide)).trans aP;have u0:Qd 0= .ref o 0:=(fr4 0 (by decide) (by decide)).trans aP;have u2:Qd 2= .ak (bO.map Scope.cells) .unk:=(fr4 2 (by decide) (by decide)).trans aP;have u9:Qd 9= .ref H2.next 0:=(fr4 9 (by decide) (by decide)).trans aP;simp -implicitDefEqProofs only [go_sem,u6,oq4,hC4,c4];have aBf:HF (kS l id o) H H4:=by
   refine HF.old (((hf1.up fun a ha=>by cases ha).tr (hf2.up fun a ha=> ?_)).tr (hf3.up fun a ha=>by cases ha)) hf4 fun a hm ha=> ?_
   · rw [List.mem_singleton.1 ha];simp [kS]
   · rcases List.mem_cons.1 hm with rfl|hm
     · omega
     · rcases List.mem_cons.1 hm with rfl|hm
       · exact List.mem_cons_self
       · exact List.mem_cons_of_mem _ (List.mem_cons_of_mem _ (O7 Vf hm))
  refine aju (lF:=lF) (cl:=cl) (rec:=JA lF F k) (i:=i) (q:=H.next) (b:=H2.next) (N:=H.next) (old:=n1) (z:=z) (bi:=bi) (bO:=bO) (args:=n0.args) (out':=out') (c':=c') ih (by rw [k1];exact hbi) hb1 ha1 (Nat.le_refl _) (Nat.le_of_lt nx2) (fun hbt a ha=> ?_) n0.args.length 0 (out:=(l.map (·.1)).set i n2) (c:=c2) (l:=l.set i (n2,y)) (H:=H4) (ck:= .unk) (σ:=_) (Nat.zero_add _) (by rw [List.drop_zero];exact hA) hV4 (by rw [List.map_set]) (by rw [es4];exact hV.lts) (Nat.le_of_lt (Nat.lt_of_lt_of_le nx2 (Nat.le_trans hf3.1 hf4.1))) (fun h=>(hz4 h).1) (Nat.lt_of_lt_of_le (Nat.lt_trans nx2 nx3) hf4.1) (Nat.lt_of_lt_of_le nx3 hf4.1) oq4 ob4 aP aP aP aP aP aP aP fun YH H5 l5 w1 w2 w3 w4=> ?_
  · have:=(hz4 hbt).2 a ha;have:=hf1.1;have:=hf2.1;have:=hf3.1;omega
  · skip
    simp -implicitDefEqProofs only [go_sem];refine⟨l5,w1,w2.trans ?_,w3,aBf.tr ?_⟩
    · rw [List.map_set];obtain⟨h,e⟩:=List.getElem?_eq_some_iff.1 Vf
      have:(l.map (·.2))[i]'(by simpa using h)=y:=by rw [List.getElem_map,e]
      rw [<-this,List.set_getElem_self]
    · rw [es4]at w4;exact w4
theorem aqd {α:Type} {H:AH} {f g:α->List PV} {sz:Nat} {l:List α} {v:PV} {ids:List Nat} [hr:mX f sz] (h:aJ H f sz l v ids) (hg: ∀x,(g x).length=sz) (hz: ∀x∈l,∀(j:Nat) (c c':PV),(f x)[j]? =some c->(g x)[j]? =some c'->Fz H c c'):Fz H v (.ak (l.map g) .unk):=by
 have h0:=h;rcases h with⟨rfl,rfl,_⟩|⟨id,cap,junk,rfl,rfl,h2,h3,h4,h5⟩
 · exact .ak [] [] .nil .unk (.inl rfl) rfl (fun i cs cs' e=>by simp at e) (fun i cs cs' e=>by simp at e)
 · refine .bR id 0 l.length cap sz _ _ (fun i j=>((l.map f)[i]?.bind (·[j]?)).getD .any) h4 (by simp) h2 (fun i cs e=> ?_) (fun i cs e j c ec=> ?_) (fun i cs e j c ec=> ?_)
   · simp only [List.getElem?_map,Option.map_eq_some_iff]at e;obtain⟨x,_,rfl⟩:=e;exact hg x
   · simp only [List.getElem?_map,Option.map_eq_some_iff]at e;obtain⟨x,hx,rfl⟩:=e;obtain⟨id',C,e1,_,e2,e3,_⟩:=h0.content hx;cases e1;rw [h4]at e2;cases e2;have hj:j<(f x).length:=by rw [hr.len x,<-hg x];exact(List.getElem?_eq_some_iff.1 ec).1
     rw [List.getElem?_map,hx,Option.map_some,Option.bind_some,List.getElem?_eq_getElem hj,Option.getD_some,Nat.zero_add];exact e3 j _ (List.getElem?_eq_getElem hj)
   · simp only [List.getElem?_map,Option.map_eq_some_iff]at e;obtain⟨x,hx,rfl⟩:=e;have hj:j<(f x).length:=by rw [hr.len x,<-hg x];exact(List.getElem?_eq_some_iff.1 ec).1
     rw [List.getElem?_map,hx,Option.map_some,Option.bind_some,List.getElem?_eq_getElem hj,Option.getD_some];exact hz x (List.mem_of_getElem? hx) j _ _ (List.getElem?_eq_getElem hj) ec
theorem aqe {H:AH} {n:Nd} {y:NV} (h:jc H (n,y)):J2 H (jr (n,y)) n.cells:=by
 have hn:Fz H y.pv (.ak (n.names.map aH) .unk):=by
  cases y with
  |p l=>
   obtain⟨h1,h2⟩:l=[]/\n.names=[]:=h;subst h1;rw [h2];exact dS bE [] .unk
  |m id len cap=>
   have hr:aJ H aH 1 n.names (.bR id 0 len cap 1) [id]:=h.2;exact aJ.fz bE hr
 exact .cons (.pure _ (.int _ _)) (aQ (.cons (.pure _ (.str _)) (.cons hn (.cons (dS dF n.args .unk) .nil))))
theorem auB {H:AH} {l:List (Nd×NV)} {v:PV} {id lo:Nat} (h:Nj H l v id l.length lo):Fz H v (fT (l.map (·.1))):=by
 have:=aqd (g:=fun x:Nd×NV=>x.1.cells) h.row (fun _=>rfl) fun x hx j c c' e e'=>by
  obtain⟨i,hi⟩:=List.mem_iff_getElem?.1 hx;have hn:=h.ED i x hi;rw [if_pos (List.getElem?_eq_some_iff.1 hi).1]at hn;obtain⟨n,y⟩:=x;exact(aqe hn).get.2 j c c' e e'
 have e2:l.map (fun x:Nd×NV=>x.1.cells)=(l.map (·.1)).map Nd.cells:=by rw [List.map_map];rfl
 rw [e2]at this;exact this
def uW (k:Nat) (e:List Nd):Option (List Nd):=
 if 0<e.length/\e.length<=1000000/\(∀n∈e,n.names.length<=1000000/\n.args.length<=1000000)then
  (Ch k e).bind fun lF=>(JA lF k k e 0 (e.length -1) []).bind fun p=>some p.1 else none
theorem ajv {k:Nat} {e r:List Nd} {ck:Ck} (h:uW k e=some r):aD Tryz.prog 216 [ZR e ck] (fT r):=by
 refine aD.wk (args:=[fT e]) ?_ (.ak .nil);unfold uW at h;obtain⟨⟨h0,h1,h2⟩,h3⟩:=aU h;obtain⟨lF,hleft,h4⟩:=aj h3;obtain⟨⟨out,c'⟩,auC,h5⟩:=aj h4;cases h5;clear h h3 h4;refine aD.aO (aX.mem (.cons (aT Nd.pu _) .nil)) (aF av9 (by simp) (aC ?_)) (aT Nd.pu _);unfold am1;simp -implicitDefEqProofs only [go_sem];refine bA.mono (agm e h0 (fun i n hi=>h2 n (List.mem_of_getElem? hi)) h1 AH.empty) ?_;rintro v H1 ⟨id,l,hle,hO,hf1,hok⟩;subst hle;rw [List.length_map]at hO;simp -implicitDefEqProofs only [go_sem];refine av (alu k _ hleft) ?_;obtain⟨cap,rfl⟩: ∃cap,v= .bR id 0 l.length cap 5:=by
  rcases hO.row with⟨_,_,h⟩|⟨id',cap,junk,e1,e2,_⟩
  · cases h
  · cases e1;exact⟨cap,e2⟩
 have hlen:((List.map Prod.fst l).map Nd.cells).length=l.length:=by rw [List.length_map,List.length_map]
 have hw:IntKind.wrap .i64 ((l.length:Int) -1)=((l.length -1:Nat):Int):=by
  rw [List.length_map]at h0 h1;rw [IntKind.wrap_i64];omega
 simp -implicitDefEqProofs only [go_sem,List.take,List.drop,List.append_eq];obtain⟨H2,hH2⟩: ∃H2,H2=H1.new [.bR id 0 l.length cap 5,.ak (lF.map aH) .unk,.int .i64 0]:=⟨_,rfl⟩;have hf2:HF [] H1 H2:=by rw [hH2];exact HF.new (HF.refl _ _)
 have ob:H2.obj H1.next=some [.bR id 0 l.length cap 5,.ak (lF.map aH) .unk,.int .i64 0]:=by
  rw [hH2];show(if H1.next=H1.next then some _ else _)=_;rw [if_pos rfl]
 have nx:H1.next<H2.next:=by rw [hH2];exact Nat.lt_succ_self _
 have aGh:id<H1.next:=hO.row.lt _ (List.mem_singleton.2 rfl);have hV:kF H2 l (.bR id 0 l.length cap 5) id H1.next AH.empty.next lF .unk 0:=by
  refine⟨⟨hO.row.hf hf2 (fun _ _ h=>by cases h),fun i x hx=> ?_,hO.dj,hO.ne,hO.lob,hO.Wx⟩,ob,nx,by omega,fun i x hx hm=> ?_⟩
  · have:=hO.ED i x hx;rw [if_pos (List.getElem?_eq_some_iff.1 hx).1]at this⊢;exact this.hf hf2 (fun _ _ h=>by cases h)
  · have:=hO.ED i x hx;rw [if_pos (List.getElem?_eq_some_iff.1 hx).1]at this;have:=this.lt _ hm;omega
 rw [List.length_map]at auC;rw [hw,<-hH2];refine bA.mono (bA.wk (aqc k _ _ _ [] _ _ auC H2 l hV rfl) (.same (.same (.ak .nil)))) ?_;rintro _ H3 ⟨l',r1,r2,r3,hf3⟩;have o3:=r3.obj;simp -implicitDefEqProofs only [go_sem,o3];subst r1;exact auB r3.own
end Go.VL
end
section
namespace Go.VL
open Tm
theorem afr {e:List Nd} (hF:zy e) {i:Nat} {n:Nd} (hn:e[i]? =some n):n.kind=23->1<=n.names.length:=fun hk=>(Te (hF.ok i n hn) hk).2
theorem aem (k:Int):l8 k=some (!decide (k=16\/k=17)):=by
 unfold l8;by_cases h:k=16
 · subst h;rfl
 · by_cases h2:k=17
   · subst h2;rfl
   · rw [show(k !=16)=true by simp [h],show(k !=17)=true by simp [h2]];simp [h,h2]
theorem aqf {lF:List Str} {F:Nat} (hFr:Ve lF F) (n:Nd) (c:Nat) (hc:(fP lF n c).2+lF.length<=9000):acS lF F (!decide (n.kind=16\/n.kind=17)) n (c:Int)=some ({n with names:=(fP lF n c).1},((fP lF n c).2:Int)):=by
 unfold fP at hc⊢;unfold acS;by_cases h:n.kind=16\/n.kind=17
 · rw [if_pos h,decide_eq_true h];rfl
 · rw [if_neg h]at hc;rw [if_neg h,decide_eq_false h];show Option.bind (G7 lF F n.names.length (c:Int)) _=_;rw [YJ hFr _ _ hc];rfl
theorem set_mid {α:Type} (pre A post:List α) (n m:α) {i:Nat} (hi:i=pre.length+A.length):(pre++((A++[n])++post)).set i m=pre++((A++[m])++post):=by
 subst hi;rw [List.set_append_right _ _ (by omega),show pre.length+A.length -pre.length=A.length by omega,List.append_assoc,List.set_append_right _ _ (by omega),Nat.sub_self,List.append_assoc];rfl
theorem ajw {lF:List Str} {F k:Nat} {out:List Nd} {c c2:Int} {i:Nat} {bd:List Scope} {n n1 n2:Nd} {bi:Bool} (hget:out[i]? =some n) (hnm:nW F n=some (jR n)) (hbi:l8 n.kind=some bi)
 (h1:({n with text:=if jR n=true then lI bd n.text else n.text}:Nd)=n1) (Ov:acS lF F bi n1 c=some (n2,c2)) (hl:bd.length<=1000000/\n.names.length<=1000000/\n.args.length<=1000000):
 JA lF F (k+1) out c i bd=Oq (JA lF F k) n1 i bd n.args 0 (out.set i n2) c2:=by
 subst h1;rw [JA];simp only [hget,hnm,hbi,Option.bind_some];rw [Ov,Option.bind_some,if_pos hl]
section
variable {lF:List Str} {F:Nat} (hFr:Ve lF F) {e:List Nd} (hF:zy e) (hN: ∀n∈e,nW F n=some (jR n))
include hFr hF hN
mutual
theorem ac2: ∀(t:Tm) (b:Nat) (bd:List Scope) (c k:Nat) (pre post:List Nd),Seg e b t->pre.length=b->t.size<=k->bd.length+34*(b+t.size -1)<=10000->(can lF bd c t).2+lF.length<=9000->
 JA lF F k (pre++(flat b t++post)) (c:Int) (b+t.size -1) bd=some (pre++(flat b (can lF bd c t).1++post),((can lF bd c t).2:Int))
 | .mk x cs,b,bd,c,k,pre,post,hS,hp,hk,hb,hc=>by
  have hn:=hS.node;have hsz:b+(Tm.mk x cs).size -1=b+sizes cs:=by simp only [size];omega
  rw [hsz]at hb⊢;obtain⟨k,rfl⟩: ∃j,k=j+1:=⟨k -1,by simp only [size]at hk;omega⟩;have BZ:=hF.few _ _ hn;have hget:(pre++(flat b (.mk x cs)++post))[b+sizes cs]? =some (nd x b cs):=(show Seg (pre++(flat b (.mk x cs)++post)) b (.mk x cs)from⟨pre,post,rfl,hp⟩).node;have hnb:jR (nd x b cs)=jR x:=rfl;rw [G9]at hc⊢;have hle:=zX lF cs bd x (ou lF bd c x) cs.length 0 (fP lF x c).2
  have Ov:=aqf hFr (nd {x with text:=Cm bd x} b cs) c (by
   show(fP lF x c).2+lF.length<=9000
   simp only at hc;omega)
  rw [ajw (n:=nd x b cs) (n1:=nd {x with text:=Cm bd x} b cs) (n2:=nd (ou lF bd c x) b cs) (c2:=((fP lF x c).2:Int)) hget (hN _ (List.mem_of_getElem? hn)) (aem _) rfl Ov ⟨by omega,by have:=BZ.2;omega,by have:=BZ.1;omega⟩];have hset:(pre++(flat b (.mk x cs)++post)).set (b+sizes cs) (nd (ou lF bd c x) b cs)=pre++((bC b []++bC (b+sizes []) cs)++([nd (ou lF bd c x) b cs]++post)):=by
   rw [lg,set_mid pre (bC b cs) post _ _ (by rw [hp,dG])];simp only [bC,sizes,List.nil_append,Nat.add_zero,List.append_assoc]
  rw [hset]
  have:=ac4 cs x (nd (ou lF bd c x) b cs) (nd {x with text:=Cm bd x} b cs) [] [] b bd (fP lF x c).2 k pre post hS hp rfl (by simp only [size]at hk;omega) (by simpa using hb) (by
   have e1:fV lF bd x (nd (ou lF bd c x) b cs) ([]++cs).length ([]:List Tm).length (fP lF x c).2 cs=fV lF bd x (ou lF bd c x) cs.length 0 (fP lF x c).2 cs:=XE lF cs _ _ _ _ _ _ _ rfl;rw [e1];exact hc) rfl rfl rfl (by rw [List.nil_append];exact jE b cs) rfl rfl (He lF x c) (by rw [List.nil_append];exact jE b cs)
  simp only [List.nil_append,List.length_nil]at this;have e1:fV lF bd x (nd (ou lF bd c x) b cs) cs.length 0 (fP lF x c).2 cs=fV lF bd x (ou lF bd c x) cs.length 0 (fP lF x c).2 cs:=XE lF cs _ _ _ _ _ _ _ rfl;rw [e1]at this;rw [show sizes ([]:List Tm)=0 from rfl,Nat.add_zero]at this;rw [show sizes ([]:List Tm)=0 from rfl,Nat.add_zero];refine this.trans ?_;rw [lg];have e2:nd (ou lF bd c x) b (fV lF bd x (ou lF bd c x) cs.length 0 (fP lF x c).2 cs).1=nd (ou lF bd c x) b cs:=by unfold nd;rw [Fa]
  rw [e2];simp only [bC,List.nil_append,List.append_assoc]
theorem ac4: ∀(cs:List Tm) (x y n1:Nd) (l l':List Tm) (b:Nat) (bd:List Scope) (c k:Nat) (pre post:List Nd),Seg e b (.mk x (l++cs))->pre.length=b->sizes l'=sizes l->sizes cs<=k->bd.length+34*(b+sizes (l++cs))<=10000->
 (fV lF bd x y (l++cs).length l.length c cs).2+lF.length<=9000->n1.kind=x.kind->n1.n=x.n->n1.names=x.names->n1.args.length=(l++cs).length->y.kind=x.kind->y.n=x.n->y.names.length=x.names.length->y.args.length=(l++cs).length->
 Oq (JA lF F k) n1 (b+sizes (l++cs)) bd (roots (b+sizes l) cs) l.length (pre++((bC b l'++bC (b+sizes l) cs)++([y]++post))) (c:Int)=
  some (pre++((bC b l'++bC (b+sizes l) (fV lF bd x y (l++cs).length l.length c cs).1)++([y]++post)),((fV lF bd x y (l++cs).length l.length c cs).2:Int))
 |[],x,y,n1,l,l',b,bd,c,k,pre,post,hS,hp,hl',hk,hb,hc,m1,m2,m3,m4,y1,y2,y3,y4=>by rw [roots,Oq,fV]
 |t::cs,x,y,n1,l,l',b,bd,c,k,pre,post,hS,hp,hl',hk,hb,hc,m1,m2,m3,m4,y1,y2,y3,y4=>by
  have hn:=hS.node;have BZ:=hF.few _ _ hn;have h23:=afr hF hn;have hcp:=t.size_pos;have hsz:sizes (l++t::cs)=sizes l+(t.size+sizes cs):=by rw [eF,sizes]
  have hk2:sizes (t::cs)=t.size+sizes cs:=by rw [sizes]
  have hal:(nd x b (l++t::cs)).args.length=(l++t::cs).length:=jE b _;have e1:l++t::cs=(l++[t])++cs:=by simp
  have e2:l.length+1=(l++[t]).length:=by simp
  have e3:b+sizes l+t.size=b+sizes (l++[t]):=by rw [eF,rE];omega
  have hbx:iq n1 (l.length:Int)=some (jd (oP x.kind x.n (l++t::cs).length l.length) x.names):=by
   rw [JC (by rw [m1,m3];exact h23),m1,m2,m3,m4]
  have hby:iq y (l.length:Int)=some (jd (oP x.kind x.n (l++t::cs).length l.length) y.names):=by
   rw [JC (by rw [y1,y3];exact h23),y1,y2,y4]
  rw [mI]at hc⊢;obtain⟨t',ht'⟩: ∃t',t'=(can lF (bd++tV x y (l++t::cs).length l.length) c t):=⟨_,rfl⟩;have hts:=uL lF t (bd++tV x y (l++t::cs).length l.length) c;rw [<-ht']at hc hts⊢;have hcl:=zX lF cs bd x y (l++t::cs).length (l.length+1) t'.2;have hpl:=acY (oP x.kind x.n (l++t::cs).length l.length) x.names;have Qv:(jd (oP x.kind x.n (l++t::cs).length l.length) x.names).length=(jd (oP x.kind x.n (l++t::cs).length l.length) y.names).length:=YM _ y3.symm;have hnx:x.names.length<=34:=BZ.2;have aGi:(tV x y (l++t::cs).length l.length).length<=34:=by
   unfold tV;rw [List.length_zipWith];omega
  have hget:(pre++((bC b l'++bC (b+sizes l) (t::cs))++([y]++post)))[b+sizes (l++t::cs)]? =some y:=by
   rw [List.getElem?_append_right (by omega),List.getElem?_append_right (by rw [List.length_append,dG,dG];omega),List.length_append,dG,dG,show b+sizes (l++t::cs) -pre.length -(sizes l'+sizes (t::cs))=0 by omega];rfl
  have hin:=ac2 t (b+sizes l) (bd++tV x y (l++t::cs).length l.length) c k (pre++bC b l') (bC (b+sizes l+t.size) cs++([y]++post)) hS.kid (by rw [List.length_append,dG];omega) (by omega) (by rw [List.length_append];omega) (by rw [<-ht'];simp only at hc;omega);have aBg:pre++((bC b l'++bC (b+sizes l) (t::cs))++([y]++post))=(pre++bC b l')++(flat (b+sizes l) t++(bC (b+sizes l+t.size) cs++([y]++post))):=by rw [iF];simp only [List.append_assoc]
  have axo:(pre++bC b l')++(flat (b+sizes l) t'.1++(bC (b+sizes l+t.size) cs++([y]++post)))=pre++((bC b (l'++[t'.1])++bC (b+sizes (l++[t])) cs)++([y]++post)):=by
   rw [qF,xD,hl',e3];simp only [List.append_assoc]
  rw [<-ht']at hin;have htn:(((b+sizes l+t.size -1:Nat):Int)).toNat=b+sizes l+t.size -1:=by omega
  rw [roots,Oq,hget,Option.bind_some,hbx,Option.bind_some,hby,Option.bind_some,if_pos ⟨by omega,by omega,by omega⟩,htn,show List.zipWith Scope.mk (jd (oP x.kind x.n (l++t::cs).length l.length) x.names) (jd (oP x.kind x.n (l++t::cs).length l.length) y.names)=tV x y (l++t::cs).length l.length from rfl,aBg,hin,Option.bind_some];simp only;rw [axo];have hrest:=ac4 cs x y n1 (l++[t]) (l'++[t'.1]) b bd t'.2 k pre post (by rw [<-e1];exact hS) hp (by rw [eF,eF,rE,rE,hl',hts]) (by omega) (by rw [<-e1];exact hb) (by rw [<-e1,<-e2];exact hc) m1 m2 m3 (by rw [<-e1];exact m4) y1 y2 y3 (by rw [<-e1];exact y4);rw [<-e1,<-e2]at hrest;rw [<-e3,e3];refine hrest.trans ?_;rw [qF,xD,iF,hl',<-e3,hts];simp only [List.append_assoc]
end
end
mutual
def nmT:Tm->Nat
 | .mk x cs=>x.names.length+YO cs
def YO:List Tm->Nat
 |[]=>0
 |t::ts=>nmT t+YO ts
end
theorem alF (lF:List Str) (x:Nd) (c:Nat):(fP lF x c).2+cnt lF c<=c+x.names.length+cnt lF (fP lF x c).2:=by
 unfold fP;split
 · simp only;omega
 · have:=YE lF x.names.length c;omega
mutual
theorem afs (lF:List Str): ∀(t:Tm) (bd:List Scope) (c:Nat),(can lF bd c t).2+cnt lF c<=c+nmT t+cnt lF (can lF bd c t).2
 | .mk x cs,bd,c=>by
  rw [G9,nmT];have h1:=alF lF x c;have h2:=ac5 lF cs bd x (ou lF bd c x) cs.length 0 (fP lF x c).2;simp only;omega
theorem ac5 (lF:List Str): ∀(cs:List Tm) (bd:List Scope) (x y:Nd) (a j c:Nat),(fV lF bd x y a j c cs).2+cnt lF c<=c+YO cs+cnt lF (fV lF bd x y a j c cs).2
 |[],bd,x,y,a,j,c=>by rw [fV,YO];simp only;omega
 |t::ts,bd,x,y,a,j,c=>by
  rw [mI,YO];have h1:=afs lF t (bd++tV x y a j) c;have h2:=ac5 lF ts bd x y a (j+1) (can lF (bd++tV x y a j) c t).2;simp only;omega
end
section
variable {e:List Nd} (hF:zy e)
include hF
mutual
theorem aoE: ∀(t:Tm) (b:Nat),Seg e b t->nmT t<=34*t.size
 | .mk x cs,b,hS=>by
  have:=(hF.few _ _ hS.node).2;have h2:=ajy cs x [] b hS;rw [nmT];simp only [size];have h3:(nd x b cs).names.length=x.names.length:=rfl;omega
theorem ajy: ∀(cs:List Tm) (x:Nd) (l:List Tm) (b:Nat),Seg e b (.mk x (l++cs))->YO cs<=34*sizes cs
 |[],x,l,b,hS=>by rw [YO];omega
 |t::ts,x,l,b,hS=>by
  have h1:=aoE t (b+sizes l) hS.kid;have h2:=ajy ts x (l++[t]) b (by simpa using hS);rw [YO,sizes];omega
end
end
theorem Ow {e:List Nd} (hF:zy e) {t:Tm} (he:e=flat 0 t) (lF:List Str) (hl:lF.length<=1000):(can lF [] 0 t).2+lF.length<=9000:=by
 have h1:=afs lF t [] 0;have h2:=U6 lF (can lF [] 0 t).2;have h3:=aoE hF t 0 (by rw [he];exact Seg.whole t);have h4:t.size<=170:=by have:=hF.len;rw [he,dw]at this;exact this
 omega
theorem ajz {e:List Nd} (hF:zy e) {t:Tm} (he:e=flat 0 t) {lF:List Str} (hfree:Ev (fun k=>Ch k e) lF) (hl:lF.length<=1000):Ev (fun k=>uW k e) (flat 0 (can lF [] 0 t).1):=by
 have hlen:=hF.len;have hs:=t.size_pos;have hsz:e.length=t.size:=by rw [he,dw]
 obtain⟨K1,h1⟩:=hfree;obtain⟨K2,h2⟩:=acX lF (by omega);obtain⟨K3,h3⟩:=Ou (fun k n=>nW k n) jR e (fun n _=>Oj n);refine⟨K1+K2+K3+200,fun k hk=> ?_⟩;show uW k e=_
 unfold uW;rw [if_pos ⟨by omega,by omega,fun n hn=>by
  obtain⟨i,hi⟩:=List.mem_iff_getElem?.1 hn;have:=hF.few i n hi;omega⟩,(show Ch k e=_ from h1 k (by omega)),Option.bind_some]
 have:=ac2 (h2 k (by omega)) hF (h3 k (by omega)) t 0 [] 0 k [] [] (by rw [he];exact Seg.whole t) rfl (by omega) (by simp only [List.length_nil];omega) (Ow hF he lF hl);simp only [List.nil_append,List.append_nil,Nat.zero_add]at this;rw [<-he]at this;rw [hsz,show((0:Int))=((0:Nat):Int)from rfl,this];rfl
def shN (d:Int) (n:Nd):Nd:={n with args:=n.args.map (·-d)}
theorem ac6 (d:Nat): ∀(cs:List Tm) (b:Nat),(roots (b+d) cs).map (·-(d:Int))=roots b cs
 |[],b=>rfl
 |c::cs,b=>by
  have h:=ac6 d cs (b+c.size);have hp:=size_pos c;rw [roots,roots,List.map_cons,show b+d+c.size=b+c.size+d by omega,h];congr 1;omega
theorem axp (d:Nat) (x:Nd) (b:Nat) (cs:List Tm):shN d (nd x (b+d) cs)=nd x b cs:=by
 unfold shN nd;simp only [ac6]
mutual
theorem XF (d:Nat): ∀(t:Tm) (b:Nat),(flat (b+d) t).map (shN d)=flat b t
 | .mk x cs,b=>by rw [lg,lg,List.map_append,ac7 d cs b,List.map_cons,List.map_nil,axp]
theorem ac7 (d:Nat): ∀(cs:List Tm) (b:Nat),(bC (b+d) cs).map (shN d)=bC b cs
 |[],b=>by rw [bC,bC];rfl
 |c::cs,b=>by
  rw [iF,iF,List.map_append,XF d c b,show b+d+c.size=b+c.size+d by omega,ac7 d cs (b+c.size)]
end
section
variable {e:List Nd} (hlen:e.length<=1000000)
include hlen
theorem Vg: ∀(t:Tm) (b:Nat),Seg e b t->Ev (fun k=>nA k e ((b+t.size -1:Nat):Int)) (.inl (b:Int))
 | .mk x [],b,h=>by
  have hn:=h.node;have e1:b+(Tm.mk x []).size -1=b:=by simp [size,sizes]
  simp only [sizes,Nat.add_zero]at hn;rw [e1];refine Ev.succ ?_;simp only [nA,nn,if_true,Int.toNat_natCast,hn,Option.bind_some];exact Ev.cF (by simp [nd,roots]) Ev.some
 | .mk x (c::cs),b,h=>by
  have hn:=h.node;have hlt:=h.lt;have hp:=size_pos c;have hk:Seg e (b+sizes []) c:=h.kid (l:=[]);simp only [sizes,Nat.add_zero]at hk;have ih:=Vg c b hk;have e1:b+(Tm.mk x (c::cs)).size -1=b+sizes (c::cs):=by simp only [size];omega
  have hs:sizes (c::cs)=c.size+sizes cs:=by simp only [sizes]
  simp only [size]at hlt;have e2:(nd x b (c::cs)).args=((b+c.size -1:Nat):Int)::roots (b+c.size) cs:=by unfold nd;simp only [roots]
  rw [e1];refine Ev.succ ?_;simp only [nA,nn,if_true,Int.toNat_natCast,hn,Option.bind_some,e2,List.getElem?_cons_zero,nO];refine Ev.cT (by simp<;>omega) (Ev.cT ?_ ih);rw [wrap64 (by omega) (by omega)];exact decide_eq_true ⟨trivial,by omega⟩
theorem ac8 {t:Tm} {b:Nat} (h:Seg e b t):Ev (fun k=>vg k e ((b+t.size -1:Nat):Int)) (b:Int):=by
 unfold vg;refine Ev.cF (decide_eq_false (by omega)) (Ev.bind (Vg hlen t b h) ?_);simp only [bI];exact Ev.some
theorem ac9 {uX:Int} (hf:0<=uX/\uX<=1000000) {i:Nat} {n:Nd} (hn:e[i]? =some n) (ha:n.args.length<=1000) (hr: ∀a∈n.args,-1000000<=a/\a<=1000000) (nm:List Str):
 Ev (fun k=>qm k e uX (i:Int) n.kind n.n n.text nm [] 0) (n.kind,n.n,n.text,nm,n.args.map (·-uX)):=by
 have key:Ev (fun k=>qm k e uX (i:Int) n.kind n.n n.text nm ((n.args.take 0).map (·-uX)) ((0:Nat):Int)) (n.kind,n.n,n.text,nm,n.args.map (·-uX)):=by
  refine jM (len:=n.args.length) (p:=fun j=>Ev (fun k=>qm k e uX (i:Int) n.kind n.n n.text nm ((n.args.take j).map (·-uX)) (j:Int)) (n.kind,n.n,n.text,nm,n.args.map (·-uX))) ?_ fun j hj ih=> ?_
  · refine Ev.succ ?_;simp only [qm,nn,if_true,Int.toNat_natCast,hn,Option.bind_some];exact Ev.cF (iT _) (Ev.some' (by rw [List.take_length]))
  · have h1:=hr _ (List.getElem_mem hj);refine Ev.succ ?_;simp only [qm,nn,if_true,Int.toNat_natCast,hn,Option.bind_some,iY hj,cond_true,bG hj,dW hj (show n.args.length<=1099511627776 by omega)];rw [wrap64 (x:=n.args[j] -uX) (by omega) (by omega)];refine Ev.lZ (by simp;omega) ?_
    have e1:(n.args.take (j+1)).map (·-uX)=(n.args.take j).map (·-uX)++[n.args[j] -uX]:=by rw [List.take_succ_eq_append_getElem hj,List.map_append];rfl
    rw [<-e1];exact ih
 exact key
theorem aen (hnd: ∀(i:Nat) n,e[i]? =some n->n.names.length<=1000/\n.args.length<=1000/\ ∀a∈n.args,-1000000<=a/\a<=1000000) {t:Tm} {b:Nat} (h:Seg e b t):Ev (fun k=>Oo k e ((b+t.size -1:Nat):Int)) (flat 0 t):=by
 have hlt:=h.lt;have hp:=size_pos t;obtain⟨pre,post,he,hpre⟩:=h;have hget: ∀j,j<t.size->e[b+j]? =(flat b t)[j]? :=fun j hj=>by
  rw [he,List.getElem?_append_right (by omega),hpre,show b+j -b=j by omega,List.getElem?_append_left (by rw [dw];exact hj)]
 have hfl:=XF b t 0;rw [Nat.zero_add]at hfl;have key:Ev (fun k=>rG k e ((b+t.size -1:Nat):Int) (b:Int) ((flat 0 t).take 0) ((b+0:Nat):Int)) (flat 0 t):=by
  refine jM (len:=t.size) (p:=fun j=>Ev (fun k=>rG k e ((b+t.size -1:Nat):Int) (b:Int) ((flat 0 t).take j) ((b+j:Nat):Int)) (flat 0 t)) ?_ fun j hj ih=> ?_
  · refine Ev.succ ?_;simp only [rG];exact Ev.cF (decide_eq_false (by omega)) (Ev.some' (by rw [List.take_of_length_le (by rw [dw];exact Nat.le_refl _)]))
  · have hj0:j<(flat 0 t).length:=by rw [dw];exact hj
    have hj1:j<(flat b t).length:=by rw [dw];exact hj
    have hn:e[b+j]? =some (flat b t)[j]:=by rw [hget j hj,bG hj1]
    have e0:(flat 0 t)[j]=shN b (flat b t)[j]:=by
     have:=congrArg (·[j]?) hfl
     simp only [List.getElem?_map,bG hj1,bG hj0,Option.map_some,Option.some.injEq]at this;exact this.symm
    obtain⟨g1,g2,g3⟩:=hnd _ _ hn;have e2:kJ (flat b t)[j].names=some (flat b t)[j].names:=by
     unfold kJ;rw [if_pos (by simp;omega)];rfl
    have hw:IntKind.wrap .i64 (((b+j:Nat):Int)+1)=((b+(j+1):Nat):Int):=by rw [wrap64 (by omega) (by omega)];omega
    refine Ev.succ ?_;simp only [rG,hw];refine Ev.cT (decide_eq_true (by omega)) (Ev.lZ (by omega) ?_);simp only [Int.toNat_natCast,hn,Option.bind_some,e2];refine Ev.bind (ac9 hlen ⟨by omega,by omega⟩ hn g2 g3 _) (Ev.lZ (by rw [List.length_take];omega) ?_);rw [List.take_succ_eq_append_getElem hj0,e0]at ih;exact ih
 unfold Oo;exact Ev.bind (ac8 hlen ⟨pre,post,he,hpre⟩) (Ev.bind key Ev.some)
end
theorem YP (x:Nd) (cs:List Tm) (h:sizes cs<=1000000):Gx (flat 0 (.mk x cs))=some (nd x 0 cs):=by
 have hn:=(Seg.whole (.mk x cs)).node;rw [Nat.zero_add]at hn;have hl:(flat 0 (.mk x cs)).length=sizes cs+1:=by rw [dw];simp [size]
 unfold Gx;have hw:IntKind.wrap .i64 (((flat 0 (.mk x cs)).length:Int) -1)=(sizes cs:Int):=by rw [hl,wrap64 (by omega) (by omega)];omega
 simp only [hw,nn,if_true,Int.toNat_natCast,hn,Option.bind_some]
theorem ada: ∀(cs:List Tm) (b:Nat) (a:Int),a∈roots b cs->0<=a/\a<=b+sizes cs
 |[],b,a,h=>by rw [roots]at h;cases h
 |c::cs,b,a,h=>by
  rw [roots,List.mem_cons]at h;simp only [sizes];rcases h with rfl|h
  · omega
  · have:=ada cs _ a h;omega
mutual
theorem YQ: ∀(t:Tm) (b:Nat) (n:Nd),n∈flat b t-> ∀a∈n.args,0<=a/\a<=b+t.size
 | .mk x cs,b,n,h,a,ha=>by
  rw [lg,List.mem_append,List.mem_singleton]at h;simp only [size];rcases h with h|rfl
  · have:=Vh cs b n h a ha;omega
  · have:=ada cs b a ha;omega
theorem Vh: ∀(cs:List Tm) (b:Nat) (n:Nd),n∈bC b cs-> ∀a∈n.args,0<=a/\a<=b+sizes cs
 |[],b,n,h,a,ha=>by rw [bC]at h;cases h
 |c::cs,b,n,h,a,ha=>by
  rw [iF,List.mem_append]at h;simp only [sizes];rcases h with h|h
  · have:=YQ c b n h a ha;omega
  · have:=Vh cs _ n h a ha;omega
end
theorem aqg {e:List Nd} {b:Nat} {t:Tm} (h:Seg e b t) (hnd: ∀(i:Nat) n,e[i]? =some n->n.names.length<=1000/\n.args.length<=1000) (hb:t.size<=1000):
 ∀(i:Nat) n,(flat 0 t)[i]? =some n->n.names.length<=1000/\n.args.length<=1000/\ ∀a∈n.args,-1000000<=a/\a<=1000000:=by
 intro i n hn;have hr:=YQ t 0 n (List.mem_of_getElem? hn);have hfl:=XF b t 0;rw [Nat.zero_add]at hfl;rw [<-hfl,List.getElem?_map,Option.map_eq_some_iff]at hn;obtain⟨m,h1,rfl⟩:=hn;obtain⟨pre,post,he,hpre⟩:=h;have hi:=(List.getElem?_eq_some_iff.1 h1).1;obtain⟨g1,g2⟩:=hnd (b+i) m (by rw [he,List.getElem?_append_right (by omega),hpre,show b+i -b=i by omega,List.getElem?_append_left hi];exact h1);exact⟨g1,by simpa [shN]using g2,fun a ha=>by have:=hr a ha;omega⟩
theorem XG {x:Nd} {cs l m:List Tm} {c:Tm} (hcs:cs=l++c::m) (hs:sizes cs<=1000) (hnd: ∀(i:Nat) n,(flat 0 (.mk x cs))[i]? =some n->n.names.length<=1000/\n.args.length<=1000/\ ∀a∈n.args,-1000000<=a/\a<=1000000):
 Ev (fun k=>zW k (flat 0 (.mk x cs)) (l.length:Int)) (flat 0 c):=by
 subst hcs;have hk:Seg (flat 0 (.mk x (l++c::m))) (0+sizes l) c:=(Seg.whole _).kid;rw [Nat.zero_add]at hk;have ha:(nd x 0 (l++c::m)).args[l.length]? =some ((sizes l+c.size -1:Nat):Int):=by
  unfold nd;have:=IU (b:=0) (l:=l) (m:=m) (c:=c);rw [Nat.zero_add]at this;exact this
 unfold zW;simp only [YP x _ (show sizes (l++c::m)<=1000000 by omega),Option.bind_some,nn,if_true,Int.toNat_natCast,ha];exact Ev.bind (aen (by rw [dw];simp only [size];omega) hnd hk) Ev.some
theorem ahd {i:Nat} (h:i<=1099511627776):IntKind.wrap .i64 ((i:Int)+1)=((i+1:Nat):Int):=by rw [wrap64 (by omega) (by omega)];omega
theorem ZG {l:List Str} (hl:l.length<=1000000) (hn:l.Nodup) {i:Nat} (hi:i<l.length): ∀(m j:Nat),j+m=i->Ev (fun k=>rJ k l l[i] (j:Int)) (.inr (i:Int)):=by
 intro m
 induction m with
 |zero=>
  intro j hj;obtain rfl:j=i:=by omega
  refine Ev.succ ?_;simp only [rJ,Int.toNat_natCast];refine Ev.cT (decide_eq_true (by omega)) (Ev.lZ (by omega) (Ev.nD (bG hi) (Ev.cT (by simp) Ev.some)))
 |succ m ih=>
  intro j hj;have hjl:j<l.length:=by omega
  refine Ev.succ ?_;simp only [rJ,Int.toNat_natCast];refine Ev.cT (decide_eq_true (by omega)) (Ev.lZ (by omega) (Ev.nD (bG hjl) (Ev.cF ?_ ?_)))
  · rw [beq_eq_false_iff_ne];exact List.pairwise_iff_getElem.1 hn j i hjl hi (by omega)
  · rw [ahd (by omega)];exact ih (j+1) (by omega)
theorem ahe {l:List Str} (hl:l.length<=1000000) (hn:l.Nodup) {i:Nat} (hi:i<l.length):Ev (fun k=>KC k l l[i]) (i:Int):=by
 unfold KC;exact Ev.bind (ZG hl hn hi i 0 (by omega)) Ev.some
theorem XH {l nn:List Str} (hl:l.length<=1000000) (hn:l.Nodup) (hnn:nn.length=l.length): ∀(m i:Nat),i+m<=l.length->Ev (fun k=>Ot k l nn ((l.drop i).take m)) ((nn.drop i).take m):=by
 intro m
 induction m with
 |zero=>intro i h;simp only [List.take_zero];exact Ev.all fun k=>rfl
 |succ m ih=>
  intro i h;have hi:i<l.length:=by omega
  have hi2:i<nn.length:=by omega
  rw [List.drop_eq_getElem_cons hi,List.drop_eq_getElem_cons hi2,List.take_succ_cons,List.take_succ_cons];unfold Ot;refine Ev.bind (ahe hl hn hi) (Ev.lZ (by omega) ?_);simp only [Int.toNat_natCast,bG hi2,Option.bind_some];exact Ev.bind (ih (i+1) (by omega)) Ev.some
theorem ajA {l nn:List Str} (hl:l.length<=1000000) (hn:l.Nodup) (hnn:nn.length=l.length) (s:Nat):Ev (fun k=>Ot k l nn (jd s l)) (jd s nn):=by
 unfold jd;split
 · have:=XH hl hn hnn l.length 0 (by omega);rw [List.drop_zero,List.drop_zero,List.take_length,<-hnn,List.take_length]at this;exact this
 · by_cases h:1<=l.length
   · have:=XH hl hn hnn 1 0 (by omega);rw [List.drop_zero,List.drop_zero]at this;exact this
   · have h1:l=[]:=List.length_eq_zero_iff.1 (by omega);have h2:nn=[]:=List.length_eq_zero_iff.1 (by omega);subst h1;subst h2;exact Ev.all fun k=>rfl
 · have:=XH hl hn hnn (l.length -1) 1;by_cases h:1<=l.length
   · have:=this (by omega);rw [List.take_of_length_le (by simp),List.take_of_length_le (by simp;omega)]at this;exact this
   · have h1:l=[]:=List.length_eq_zero_iff.1 (by omega);have h2:nn=[]:=List.length_eq_zero_iff.1 (by omega);subst h1;subst h2;exact Ev.all fun k=>rfl
 · exact Ev.all fun k=>rfl
theorem XI (bO cA:List Str) (hlen:cA.length=bO.length) (hb:bO.length<=1000000) (s:Str): ∀(m:Nat),m<=bO.length->Ev (fun k=>Option.bind (qo k bO cA s ((m:Int) -1)) (fun o=>Sum.elim (fun _=>some s) (fun x=>some x) o)) (lI (List.zipWith Scope.mk (bO.take m) (cA.take m)) s):=by
 intro m
 induction m with
 |zero=>
  intro hm;refine Ev.succ ?_;simp only [qo];rw [show decide (((0:Nat):Int) -1>=0)=false from by decide];exact Ev.all fun k=>rfl
 |succ m ih=>
  intro hm;have h1:m<bO.length:=by omega
  have h2:m<cA.length:=by omega
  have e1:(((m+1:Nat):Int) -1)=(m:Int):=by omega
  have e2:IntKind.wrap .i64 ((m:Int) -1)=(m:Int) -1:=wrap64 (by omega) (by omega);have htake:List.zipWith Scope.mk (bO.take (m+1)) (cA.take (m+1))=List.zipWith Scope.mk (bO.take m) (cA.take m)++[⟨bO[m],cA[m]⟩]:=by
   rw [List.take_succ_eq_append_getElem h1,List.take_succ_eq_append_getElem h2,List.zipWith_append (by rw [List.length_take,List.length_take];omega)];rfl
  refine Ev.succ ?_;rw [e1,htake,LA];simp only [qo,Int.toNat_natCast,bG h1,bG h2,Option.bind_some,e2];have d1:decide ((m:Int)>=0)=true:=decide_eq_true (by omega);have d2:(0:Int)<=(m:Int):=by omega
  simp only [d1,d2,cond_true,if_true];by_cases h:bO[m]=s
  · have d3:(bO[m]==s)=true:=by simp [h]
    rw [if_pos h];simp only [d3,cond_true];exact Ev.all fun k=>rfl
  · have d3:(bO[m]==s)=false:=by simp [h]
    rw [if_neg h];simp only [d3,cond_false];exact ih (by omega)
theorem aeo (bO cA:List Str) (hlen:cA.length=bO.length) (hb:bO.length<=1000000) (s:Str):Ev (fun k=>xI k bO cA s) (lI (List.zipWith Scope.mk bO cA) s):=by
 have:=XI bO cA hlen hb s bO.length (Nat.le_refl _);rw [List.take_length,<-hlen,List.take_length,hlen]at this;unfold xI;have hw:IntKind.wrap .i64 ((bO.length:Int) -1)=(bO.length:Int) -1:=wrap64 (by omega) (by omega);rw [hw];exact this
def shP (d:Int) (n:Nd):Nd:={n with args:=n.args.map (·+d)}
theorem YR (d:Nat): ∀(cs:List Tm) (b:Nat),(roots b cs).map (·+(d:Int))=roots (b+d) cs
 |[],b=>rfl
 |c::cs,b=>by
  have:=c.size_pos;rw [roots,roots,List.map_cons,YR d cs,show b+c.size+d=b+d+c.size by omega];congr 1;omega
mutual
theorem adb (d:Nat): ∀(t:Tm) (b:Nat),(flat b t).map (shP d)=flat (b+d) t
 | .mk x cs,b=>by
  rw [lg,lg,List.map_append,YS d cs b,List.map_cons,List.map_nil];congr 2;unfold shP nd;simp only;rw [YR d cs b]
theorem YS (d:Nat): ∀(cs:List Tm) (b:Nat),(bC b cs).map (shP d)=bC (b+d) cs
 |[],b=>rfl
 |c::cs,b=>by rw [iF,iF,List.map_append,adb d c b,YS d cs (b+c.size),show b+c.size+d=b+d+c.size by omega]
end
theorem YT: ∀(cs:List Tm) (b:Nat),∀a∈roots b cs,0<=a/\a<((b+sizes cs:Nat):Int)
 |[],b,a,h=>by cases h
 |c::cs,b,a,h=>by
  have:=c.size_pos;rw [roots]at h;rw [sizes];rcases List.mem_cons.1 h with rfl|h
  · omega
  · have:=YT cs (b+c.size) a h;omega
mutual
theorem ade: ∀(t:Tm) (b:Nat),∀n∈flat b t,∀a∈n.args,0<=a/\a<((b+t.size:Nat):Int)
 | .mk x cs,b,n,hn,a,ha=>by
  rw [lg]at hn;simp only [size];rcases List.mem_append.1 hn with h|h
  · have:=YU cs b n h a ha;omega
  · rw [List.mem_singleton.1 h]at ha;have:=YT cs b a ha;omega
theorem YU: ∀(cs:List Tm) (b:Nat),∀n∈bC b cs,∀a∈n.args,0<=a/\a<((b+sizes cs:Nat):Int)
 |[],b,n,hn,a,ha=>by cases hn
 |c::cs,b,n,hn,a,ha=>by
  rw [iF]at hn;rw [sizes];rcases List.mem_append.1 hn with h|h
  · have:=ade c b n h a ha;omega
  · have:=YU cs (b+c.size) n h a ha;omega
end
theorem Mt {l:List Str} (h:l.length<=1000000):kJ l=some l:=by
 unfold kJ;rw [if_pos (by simp;omega)];rfl
theorem adf {uX:Int} (hf:0<=uX/\uX<=1000000) (p q:Int) (r:Str) (ns:List Str) (xs:List Int) (hx: ∀a∈xs,0<=a/\a<=1000000) (hl:xs.length<=1000000): ∀(m j:Nat) (done:List Int),j+m=xs.length->done.length+m<=1000000->
 Ev (fun k=>tO k uX p q r ns xs done (j:Int)) (done++(xs.drop j).map (·+uX)):=by
 intro m
 induction m with
 |zero=>
  intro j done hj hd;refine Ev.succ ?_;simp only [tO];refine Ev.cF (decide_eq_false (by omega)) (Ev.some' ?_);rw [List.drop_of_length_le (by omega)];simp
 |succ m ih=>
  intro j done hj hd;have hjl:j<xs.length:=by omega
  have hb:=hx xs[j] (List.getElem_mem hjl);refine Ev.succ ?_;simp only [tO,Int.toNat_natCast];refine Ev.cT (decide_eq_true (by omega)) (Ev.lZ (by omega) (Ev.nD (bG hjl) (Ev.lZ (by omega) ?_)));rw [ahd (by omega),wrap64 (by omega) (by omega)];refine(ih (j+1) _ (by omega) (by simp;omega)).to ?_;rw [List.drop_eq_getElem_cons hjl,List.append_assoc];rfl
theorem adg {uX:Int} (hf:0<=uX/\uX<=1000000) {ops:List (List Nd)} {i:Nat} {x:List Nd} (hi:ops[i]? =some x) (hx: ∀n∈x,n.names.length<=1000000/\n.args.length<=1000000/\ ∀a∈n.args,0<=a/\a<=1000000) (hl:x.length<=1000000): ∀(m j:Nat) (out:List Nd),j+m=x.length->out.length+m<=1000000->
 Ev (fun k=>tQ k ops out (i:Int) uX (j:Int)) (out++(x.drop j).map (shP uX)):=by
 intro m
 induction m with
 |zero=>
  intro j out hj hd;refine Ev.succ ?_;simp only [tQ,Int.toNat_natCast];refine Ev.lZ (by omega) (Ev.nD hi (Ev.cF (decide_eq_false (by omega)) (Ev.some' ?_)));rw [List.drop_of_length_le (by omega)];simp
 |succ m ih=>
  intro j out hj hd;have hjl:j<x.length:=by omega
  obtain⟨h1,h2,h3⟩:=hx x[j] (List.getElem_mem hjl);refine Ev.succ ?_;simp only [tQ,Int.toNat_natCast];refine Ev.lZ (by omega) (Ev.nD hi (Ev.cT (decide_eq_true (by omega)) (Ev.lZ (by omega) (Ev.nD (bG hjl) (Ev.nD (Mt h1) ?_)))));refine Ev.bind (adf hf _ _ _ _ x[j].args h3 h2 x[j].args.length 0 [] (by omega) (by simp;omega)) (Ev.lZ (by omega) ?_);rw [ahd (by omega)];refine(ih (j+1) _ (by omega) (by simp;omega)).to ?_;rw [List.drop_eq_getElem_cons hjl,List.append_assoc];rfl
theorem adh (cs:List Tm) (hs:sizes cs<=1000) (hcl:cs.length<=1000) (hnm: ∀c∈cs,∀n∈flat 0 c,n.names.length<=1000000/\n.args.length<=1000000) (p q:Int) (r:Str) (ns:List Str): ∀(m i:Nat),i+m=cs.length->
 Ev (fun k=>tT k (cs.map (flat 0)) (bC 0 (cs.take i)) p q r ns (roots 0 (cs.take i)) (i:Int)) (bC 0 cs,p,q,r,ns,roots 0 cs):=by
 intro m
 induction m with
 |zero=>
  intro i hi;refine Ev.succ ?_;simp only [tT,List.length_map];refine Ev.cF (decide_eq_false (by omega)) (Ev.some' ?_);rw [List.take_of_length_le (by omega)]
 |succ m ih=>
  intro i hi;have hil:i<cs.length:=by omega
  have hc:=(cs[i]).size_pos;have hsz:sizes cs=sizes (cs.take i)+(cs[i].size+sizes (cs.drop (i+1))):=by
   conv=>lhs;rw [<-List.take_append_drop i cs,List.drop_eq_getElem_cons hil,eF,sizes]
  refine Ev.succ ?_;simp only [tT,List.length_map];refine Ev.cT (decide_eq_true (by omega)) ?_;have hget:(cs.map (flat 0))[i]? =some (flat 0 cs[i]):=by rw [List.getElem?_map,bG hil];rfl
  have hfl:(bC 0 (cs.take i)).length=sizes (cs.take i):=dG 0 _;rw [hfl];have hx: ∀n∈flat 0 cs[i],n.names.length<=1000000/\n.args.length<=1000000/\ ∀a∈n.args,0<=a/\a<=1000000:=fun n hn=>by
   obtain⟨h1,h2⟩:=hnm cs[i] (List.getElem_mem hil) n hn;exact⟨h1,h2,fun a ha=>by have:=ade _ _ n hn a ha;omega⟩
  have h1:=adg (uX:=((sizes (cs.take i):Nat):Int)) ⟨by omega,by omega⟩ hget hx (by rw [dw];omega) (flat 0 cs[i]).length 0 (bC 0 (cs.take i)) (by omega) (by rw [dG,dw];omega);rw [List.drop_zero,adb,Nat.zero_add]at h1;have et:bC 0 (cs.take (i+1))=bC 0 (cs.take i)++flat (sizes (cs.take i)) cs[i]:=by
   rw [List.take_succ_eq_append_getElem hil,qF,xD,Nat.zero_add]
  have er:roots 0 (cs.take (i+1))=roots 0 (cs.take i)++[((sizes (cs.take i)+cs[i].size -1:Nat):Int)]:=by
   rw [List.take_succ_eq_append_getElem hil,BR,Yr,Nat.zero_add]
  refine Ev.bind h1 (Ev.lZ (by rw [jE,List.length_take];omega) ?_)
  rw [<-et,ahd (by omega),wrap64 (by rw [dG];omega) (by
   rw [et,List.length_append,dG,dw];omega)]
  have el:((bC 0 (cs.take (i+1))).length:Int) -1=((sizes (cs.take i)+cs[i].size -1:Nat):Int):=by rw [et,List.length_append,dG,dw];omega
  rw [el,<-er];exact ih (i+1) (by omega)
theorem ajB (x:Nd) (cs:List Tm) (hs:sizes cs<=1000) (hcl:cs.length<=1000) (hx:x.names.length<=1000000) (hnm: ∀c∈cs,∀n∈flat 0 c,n.names.length<=1000000/\n.args.length<=1000000):Ev (fun k=>KA k x (cs.map (flat 0))) (flat 0 (.mk x cs)):=by
 unfold KA;refine Ev.nD (Mt hx) ?_;have:=adh cs hs hcl hnm x.kind x.n x.text x.names cs.length 0 (by omega);rw [List.take_zero]at this;refine Ev.bind this (Ev.lZ (by rw [dG];omega) (Ev.some' ?_));rw [lg];rfl
end Go.VL
end
section
namespace Go.VL
open Go.Proofs Go.RowKit
def kG (k:Nat) (e:List Nd):Option (List Nd):=(xH k e).bind fun taken=>(JB taken k k e 0 [] []).bind fun p=>some p.1
theorem Mv (k:Nat) (e:List Nd) {c:Ck} {r:List Nd} (h:kG k e=some r):aD Tryz.prog 164 [.ak (e.map Nd.cells) c] (.ak (r.map Nd.cells) .unk):=by
 refine aD.wk (args:=[fT e]) ?_ (.ak .nil);unfold kG at h;obtain⟨taken,ht,h1⟩:=aj h;obtain⟨⟨r',c'⟩,hr,h2⟩:=aj h1;cases h2;refine aD.aO (aX.mem (.cons (aT Nd.pu _) .nil)) (aF avL (by simp) (aC ?_)) (aT Nd.pu _);unfold amD;simp -implicitDefEqProofs only [go_sem];refine av (ag2 ht) ?_;simp -implicitDefEqProofs only [go_sem,List.take,List.drop,List.append_eq];have ob:(AH.empty.new [.ak (taken.map aH) .unk,.int .i64 0]).obj AH.empty.next=some [.ak (taken.map aH) .unk,.int .i64 0]:=by
  simp [AH.new]
 refine bA.mono (bA.wk (aup (o:=AH.empty.next) (taken:=taken) (cl:= .unk) (F:=k) k e 0 [] [] r' c' hr _ ob (Nat.lt_succ_self _)) (.same (.same (.ak (.ak .nil))))) ?_;rintro _ H' ⟨rfl,_,_,_⟩;simp -implicitDefEqProofs only [go_sem];exact .pure _ (aT Nd.pu _)
end Go.VL
end
section
namespace Go.VL
open Tm
def KD (n:Nd):Nd:={n with text:=[],names:=n.names.map fun _=>[]}
theorem Qe {l m:List Str} (h:l.length=m.length):l.map (fun _=>([]:Str))=m.map (fun _=>[]):=by
 rw [List.map_const',List.map_const',h]
theorem afu {n m:Nd} (h:KD n=KD m):n.kind=m.kind/\n.n=m.n/\n.args=m.args/\n.names.length=m.names.length:=by
 unfold KD at h;have h:=Nd.mk.inj h;refine⟨h.1,h.2.1,h.2.2.2.2,?_⟩;have:=congrArg List.length h.2.2.2.1
 rwa [List.length_map,List.length_map]at this
mutual
theorem ajC (lF:List Str): ∀(t:Tm) (b:Nat) (bd:List Scope) (c:Nat),(flat b (can lF bd c t).1).map KD=(flat b t).map KD
 | .mk x cs,b,bd,c=>by
  have hn:KD (nd (ou lF bd c x) b (fV lF bd x (ou lF bd c x) cs.length 0 (fP lF x c).2 cs).1)=KD (nd x b cs):=by
   simp only [KD,nd,Fa,ou];rw [Qe (He lF x c)]
  rw [G9,lg,lg,List.map_append,List.map_append,afv lF cs b,List.map_cons,List.map_cons,hn]
theorem afv (lF:List Str): ∀(cs:List Tm) (b:Nat) (bd:List Scope) (x y:Nd) (a j c:Nat),(bC b (fV lF bd x y a j c cs).1).map KD=(bC b cs).map KD
 |[],b,bd,x,y,a,j,c=>by rw [fV]
 |t::ts,b,bd,x,y,a,j,c=>by rw [mI,iF,iF,List.map_append,List.map_append,ajC lF t b,uL,afv lF ts]
end
theorem Qf (pl:Bool) (x:Nd) (b b':Nat) (cs:List Tm):dM pl (nd x b cs)=dM pl (nd x b' cs):=by
 unfold dM qV pq sN nd;simp only [jE]
theorem Vi: ∀(l acc:List Str),sM acc l=false->l.Nodup/\ ∀s∈l,s∉acc
 |[],acc,h=>⟨List.Pairwise.nil,fun s hs=>by cases hs⟩
 |s::l,acc,h=>by
  rw [sM,Bool.or_eq_false_iff,decide_eq_false_iff_not]at h;obtain⟨h1,h2⟩:=h;obtain⟨h3,h4⟩:=Vi l _ h2;refine⟨List.nodup_cons.2 ⟨fun hs=>h4 s hs (by simp),h3⟩,fun t ht=> ?_⟩;rcases List.mem_cons.1 ht with rfl|ht
  · exact h1
  · exact fun hm=>h4 t ht (by simp [hm])
theorem ahf {n:Nd} (h:dM true n=0):n.names.Nodup:=by
 have:sM [] n.names=false:=by
  unfold dM at h
  split at h;·cases h
  split at h;·cases h
  split at h;·cases h
  split at h;·cases h
  split at h
  · rename_i h1;exact absurd h h1
  · split at h
    · cases h
    · rename_i h2;simpa using h2
 exact(Vi _ _ this).1
theorem ajD {taken:List Str} {F k:Nat} {e:List Nd} {c c1 c2:Int} {bO cA:List Str} {root:Nd} {nm:Bool} {t:Str} {nn:List Str} {ps:List (List Nd)} {r:List Nd} (h1:Gx e=some root) (h2:zR F root=some nm) (h3:(cond nm (xI F bO cA root.text) (some root.text))=some t)
 (h4:y8 taken F (root.kind==16||root.kind==17) root.names c=some (nn,c1)) (h5:root.names.length<=1000000/\root.args.length<=1000000/\bO.length<=1000000/\cA.length<=1000000)
 (h6:G8 (JB taken F k) F e {root with text:=t} nn bO cA root.args.length 0 c1=some (ps,c2)) (h7:KA F {root with text:=t,names:=nn} ps=some r):JB taken F (k+1) e c bO cA=some (r,c2):=by
 rw [JB];simp only [h1,h2,h3,h4,Option.bind_some];rw [if_pos h5,h6,Option.bind_some,h7,Option.bind_some]
theorem ajE {lF:List Str} {t:Tm} {bd:List Scope} {c:Nat} {N:Nat} (h: ∀n∈flat 0 t,n.names.length<=N/\n.args.length<=N): ∀n∈flat 0 (can lF bd c t).1,n.names.length<=N/\n.args.length<=N:=by
 intro n hn;obtain⟨i,hi⟩:=List.mem_iff_getElem?.1 hn
 have:=congrArg (·[i]?) (ajC lF t 0 bd c)
 simp only [List.getElem?_map,hi,Option.map_some]at this;cases hm:(flat 0 t)[i]? with
 |none=>rw [hm]at this;cases this
 |some m=>
  rw [hm]at this;obtain⟨_,_,h3,h4⟩:=afu (Option.some.inj this);have:=h m (List.mem_of_getElem? hm);rw [h3,h4];exact this
theorem YV {e:List Nd} (hF:zy e) {b:Nat} {t:Tm} (hS:Seg e b t): ∀n∈flat 0 t,n.names.length<=1000/\n.args.length<=1000/\ ∀a∈n.args,-1000000<=a/\a<=1000000:=by
 intro n hn;obtain⟨i,hi⟩:=List.mem_iff_getElem?.1 hn;have hlt:=hS.lt;have:=hF.len;exact aqg hS (fun i n hn=>by have:=hF.few i n hn;omega) (by omega) i n hi
theorem Vj {lF:List Str} {N:Nat}: ∀(cs:List Tm) (bd:List Scope) (x y:Nd) (a j c:Nat),(∀c0∈cs,∀n∈flat 0 c0,n.names.length<=N/\n.args.length<=N)-> ∀c0∈(fV lF bd x y a j c cs).1,∀n∈flat 0 c0,n.names.length<=N/\n.args.length<=N
 |[],bd,x,y,a,j,c,h=>by rw [fV];exact h
 |t::ts,bd,x,y,a,j,c,h=>by
  rw [mI];intro c0 hc0;rcases List.mem_cons.1 hc0 with rfl|hc0
  · exact ajE (h t List.mem_cons_self)
  · exact Vj ts bd x y a (j+1) _ (fun c0 hc=>h c0 (List.mem_cons_of_mem _ hc)) c0 hc0
theorem aqh {a b c d:List Str} (h1:a.length=c.length) (h2:b.length=d.length):(a++b).length=(c++d).length:=by rw [List.length_append,List.length_append,h1,h2]
theorem adi (n:Nd) (m:Nd) (h1:m.kind=n.kind) (h2:m.n=n.n) (h3:m.names=n.names) (h4:m.args.length=n.args.length) (j:Int):vo m j=vo n j:=by
 unfold vo;rw [h1,h2,h3,h4]
section
variable {lF:List Str} (hl:lF.length<=1000) {e:List Nd} (hF:zy e) (htx: ∀(i:Nat) n,e[i]? =some n->n.text.length<=1000000)
include hl hF htx
mutual
theorem adj: ∀(t:Tm) (b:Nat) (bO cA:List Str) (c:Nat),Seg e b t->cA.length=bO.length->bO.length+34*(b+t.size -1)<=10000->(can lF (List.zipWith Scope.mk bO cA) c t).2+lF.length<=9000->
 ∃K,∀F k,K<=F->K<=k->JB lF F k (flat 0 t) (c:Int) bO cA=some (flat 0 (can lF (List.zipWith Scope.mk bO cA) c t).1,((can lF (List.zipWith Scope.mk bO cA) c t).2:Int))
 | .mk x cs,b,bO,cA,c,hS,hlen,hb,hc=>by
  have hn:=hS.node;have hlt:=hS.lt;have hel:=hF.len;have hsz:(Tm.mk x cs).size=sizes cs+1:=by simp only [size]
  have BZ:=hF.few _ _ hn;have hnx:x.names.length<=34:=BZ.2;have hcl:cs.length<=34:=by have:=BZ.1;unfold nd at this;rwa [jE]at this
  have hspec:dM true (nd x 0 cs)=0:=by rw [Qf true x 0 b cs];exact hF.ok _ _ hn
  have hroot:=YP x cs (by omega);rw [G9]at hc⊢;have hle:=zX lF cs (List.zipWith Scope.mk bO cA) x (ou lF (List.zipWith Scope.mk bO cA) c x) cs.length 0 (fP lF x c).2;obtain⟨K1,k1⟩:=U3 hspec (by have:=htx _ _ hn;exact this);have htext:Ev (fun k=>cond (jR (nd x 0 cs)) (xI k bO cA (nd x 0 cs).text) (some (nd x 0 cs).text)) (Cm (List.zipWith Scope.mk bO cA) x):=by
   unfold Cm;cases h:jR x with
   |true=>
    refine Ev.cT h ?_;rw [if_pos rfl];exact aeo bO cA hlen (by omega) _
   |false=>
    refine Ev.cF h ?_;rw [if_neg (by simp)];exact Ev.some
  obtain⟨K2,k2⟩:=htext;obtain⟨K3,k3⟩:=acX lF (by omega);have auD: ∀F,K3<=F->y8 lF F ((nd x 0 cs).kind==16||(nd x 0 cs).kind==17) (nd x 0 cs).names (c:Int)=some ((fP lF x c).1,((fP lF x c).2:Int)):=by
   intro F hFF;have hk:(nd x 0 cs).kind=x.kind:=rfl;have hnm:(nd x 0 cs).names=x.names:=rfl;have hc':(fP lF x c).2+lF.length<=9000:=by simp only at hc;omega
   rw [hk,hnm];unfold fP at hc'⊢;by_cases h:x.kind=16\/x.kind=17
   · rw [if_pos h,show(x.kind==16||x.kind==17)=true by rcases h with h|h<;>rw [h]<;>rfl];exact YL _ _
   · rw [if_neg h]at hc';rw [if_neg h,show(x.kind==16||x.kind==17)=false by simp only [Bool.or_eq_false_iff,beq_eq_false_iff_ne];exact⟨fun q=>h (.inl q),fun q=>h (.inr q)⟩];exact YK (k3 F hFF) _ _ hc'
  obtain⟨K4,k4⟩:=Vk cs x {nd x 0 cs with text:=Cm (List.zipWith Scope.mk bO cA) x} (ou lF (List.zipWith Scope.mk bO cA) c x) [] b bO cA (fP lF x c).2 hS hlen (by simp only [List.nil_append];rw [hsz]at hb;omega) (by simpa using hc) rfl rfl rfl (jE 0 cs) (He lF x c);simp only [List.nil_append,List.length_nil]at k4;have hsub: ∀c0∈(fV lF (List.zipWith Scope.mk bO cA) x (ou lF (List.zipWith Scope.mk bO cA) c x) cs.length 0 (fP lF x c).2 cs).1,∀n∈flat 0 c0,n.names.length<=1000000/\n.args.length<=1000000:=by
   refine Vj cs _ _ _ _ _ _ fun c0 hc0 n hn0=> ?_;obtain⟨l1,l2,hcs⟩:=List.append_of_mem hc0;have hk:Seg e (b+sizes l1) c0:=Seg.kid (x:=x) (m:=l2) (by rw [<-hcs];exact hS);have:=YV hF hk n hn0;omega
  obtain⟨K5,k5⟩:=ajB {nd x 0 cs with text:=Cm (List.zipWith Scope.mk bO cA) x,names:=(fP lF x c).1} (fV lF (List.zipWith Scope.mk bO cA) x (ou lF (List.zipWith Scope.mk bO cA) c x) cs.length 0 (fP lF x c).2 cs).1 (by rw [E9];omega) (by rw [acZ];omega) (by show(fP lF x c).1.length<=_;rw [He];omega) hsub;refine⟨K1+K2+K3+K4+K5+1,fun F k h1 h2=> ?_⟩;obtain⟨k,rfl⟩: ∃j,k=j+1:=⟨k -1,by omega⟩;have hal:(nd x 0 cs).args.length=cs.length:=jE 0 cs;refine ajD hroot (k1 F (by omega)) (k2 F (by omega)) (auD F (by omega)) ⟨by show x.names.length<=_;omega,by rw [hal];omega,by omega,by omega⟩ (by rw [hal];exact k4 F k (by omega) (by omega)) (k5 F (by omega))
theorem Vk: ∀(cs:List Tm) (x old y:Nd) (l:List Tm) (b:Nat) (bO cA:List Str) (c:Nat),Seg e b (.mk x (l++cs))->cA.length=bO.length->bO.length+34*(b+sizes (l++cs))<=10000->
 (fV lF (List.zipWith Scope.mk bO cA) x y (l++cs).length l.length c cs).2+lF.length<=9000->old.kind=x.kind->old.n=x.n->old.names=x.names->old.args.length=(l++cs).length->y.names.length=x.names.length->
 ∃K,∀F k,K<=F->K<=k->G8 (JB lF F k) F (flat 0 (.mk x (l++cs))) old y.names bO cA cs.length l.length (c:Int)=
  some ((fV lF (List.zipWith Scope.mk bO cA) x y (l++cs).length l.length c cs).1.map (flat 0),((fV lF (List.zipWith Scope.mk bO cA) x y (l++cs).length l.length c cs).2:Int))
 |[],x,old,y,l,b,bO,cA,c,hS,hlen,hb,hc,m1,m2,m3,m4,y3=>⟨0,fun F k _ _=>by rw [fV];rfl⟩
 |t::cs,x,old,y,l,b,bO,cA,c,hS,hlen,hb,hc,m1,m2,m3,m4,y3=>by
  have hn:=hS.node;have hlt:=hS.lt;have hel:=hF.len;have BZ:=hF.few _ _ hn;have h23:=afr hF hn;have hcp:=t.size_pos;have hnx:x.names.length<=34:=BZ.2;have hsz:sizes (l++t::cs)=sizes l+(t.size+sizes cs):=by rw [eF,sizes]
  have aGj:(Tm.mk x (l++t::cs)).size=sizes (l++t::cs)+1:=by simp only [size]
  have hspec:dM true (nd x 0 (l++t::cs))=0:=by rw [Qf true x 0 b _];exact hF.ok _ _ hn
  have alG:(nd x 0 (l++t::cs)).args.length=(l++t::cs).length:=jE 0 _;have hcl:(l++t::cs).length<=34:=by have:=BZ.1;unfold nd at this;rwa [jE]at this
  have e1:l++t::cs=(l++[t])++cs:=by simp
  have e2:l.length+1=(l++[t]).length:=by simp
  have hbs:vo old (l.length:Int)=some (jd (oP x.kind x.n (l++t::cs).length l.length) x.names):=by
   rw [adi (nd x 0 (l++t::cs)) old m1 m2 m3 (by rw [m4,alG]),Ms hspec (by rw [alG];omega),ajt (n:=nd x 0 (l++t::cs)) h23,alG];rfl
  have hnd:x.names.Nodup:=ahf (n:=nd x 0 (l++t::cs)) hspec;obtain⟨K1,k1⟩:=ajA (l:=x.names) (nn:=y.names) (by omega) hnd y3 (oP x.kind x.n (l++t::cs).length l.length);obtain⟨K2,k2⟩:=XG (x:=x) (cs:=l++t::cs) (l:=l) (m:=cs) (c:=t) rfl (by omega) (fun i n hi=>YV hF hS n (List.mem_of_getElem? hi));have Qv:(jd (oP x.kind x.n (l++t::cs).length l.length) y.names).length=(jd (oP x.kind x.n (l++t::cs).length l.length) x.names).length:=YM _ y3;have hpl:=acY (oP x.kind x.n (l++t::cs).length l.length) x.names;have hbd:List.zipWith Scope.mk (bO++jd (oP x.kind x.n (l++t::cs).length l.length) x.names) (cA++jd (oP x.kind x.n (l++t::cs).length l.length) y.names)=List.zipWith Scope.mk bO cA++tV x y (l++t::cs).length l.length:=by
   rw [List.zipWith_append hlen.symm];rfl
  rw [mI]at hc⊢;have aGk:=zX lF cs (List.zipWith Scope.mk bO cA) x y (l++t::cs).length (l.length+1) (can lF (List.zipWith Scope.mk bO cA++tV x y (l++t::cs).length l.length) c t).2;obtain⟨K3,k3⟩:=adj t (b+sizes l) (bO++jd (oP x.kind x.n (l++t::cs).length l.length) x.names) (cA++jd (oP x.kind x.n (l++t::cs).length l.length) y.names) c hS.kid (aqh hlen Qv) (by rw [List.length_append];omega) (by rw [hbd];simp only at hc;omega);rw [hbd]at k3;obtain⟨K4,k4⟩:=Vk cs x old y (l++[t]) b bO cA (can lF (List.zipWith Scope.mk bO cA++tV x y (l++t::cs).length l.length) c t).2 (by rw [<-e1];exact hS) hlen (by rw [<-e1];exact hb) (by rw [<-e1,<-e2];exact hc) m1 m2 m3 (by rw [<-e1];exact m4) y3;rw [<-e1,<-e2]at k4;refine⟨K1+K2+K3+K4,fun F k g1 g2=> ?_⟩;rw [List.length_cons,G8,hbs,Option.bind_some,m3,(show Ot F x.names y.names _=_ from k1 F (by omega)),Option.bind_some,(show zW F _ _=_ from k2 F (by omega)),Option.bind_some,if_pos ⟨by omega,Qv⟩,k3 F k (by omega) (by omega),Option.bind_some];simp only;rw [k4 F k (by omega) (by omega),Option.bind_some];rfl
end
end
end Go.VL
end
section
namespace Go.VL
open Go.Proofs Go.RowKit
def Tk (k:Nat):List Nd->List Nd->Option Bool
 |[],_=>some true
 |_::_,[]=>none
 |a::l,b::m=>(Gw k a b).bind fun r=>cond r (Tk k l m) (some false)
def KE (k:Nat) (a b:List Nd):Option Bool:=if a.length<=1000000000 then if a.length=b.length then Tk k a b else some false else none
theorem ajF {l:List Nd} {i:Nat} (h:i<l.length):(l.map Nd.cells)[i]? =some (l[i]).cells:=by rw [List.getElem?_map,List.getElem?_eq_getElem h];rfl
theorem alH (k:Nat) (a b:List Nd) (hab:a.length=b.length) (hbig:a.length<=1000000000) (Q:Post): ∀(m i:Nat) (r:Bool) (σ:Nat->PV) (H:AH),i+m=a.length->Tk k (a.drop i) (b.drop i)=some r->
 σ 1=fT b->σ 2= .fn (.func 255) [] []->σ 15=fT a->σ 16= .int .i64 a.length->σ 17= .int .i64 i->
 (∀σ' H',(r=true->Q (.exit 0) σ' H')/\(r=false->σ' 6= .bool false->Q .ret σ' H'))->W Tryz.prog (.loop KX) Q σ H:=by
 intro m
 induction m with
 |zero=>
  intro i r σ H hi h s1 s2 s15 s16 tK q0;rw [List.drop_of_length_le (by omega),Tk]at h;cases h;have hge:decide ((i:Int)<(a.length:Int))=false:=decide_eq_false (by omega);refine aW (fun K hK=>aC ?_);unfold KX;simp -implicitDefEqProofs only [go_sem,s16,tK,hge];exact(q0 _ H).1 rfl
 |succ m ih=>
  intro i r σ H hi h s1 s2 s15 s16 tK q0;have hia:i<a.length:=by omega
  have hib:i<b.length:=by omega
  rw [List.drop_eq_getElem_cons hia,List.drop_eq_getElem_cons hib,Tk]at h;obtain⟨t,ht,h⟩:=aj h;have hlt:decide ((i:Int)<(a.length:Int))=true:=decide_eq_true (by omega);have ga:=ajF hia;have gb:=ajF hib;have la:(a[i]).cells.length=5:=rfl;have lb:(b[i]).cells.length=5:=rfl;refine aW (fun K hK=>aC ?_);unfold KX;simp -implicitDefEqProofs only [go_sem,s1,s2,s15,s16,tK,hlt,ga,gb,dL,Nat.le_refl];refine av (agy ht) ?_;have hw:IntKind.wrap .i64 ((i:Int)+1)=((i+1:Nat):Int):=by rw [IntKind.wrap_i64];omega
  cases t with
  |false=>
   cases h;simp -implicitDefEqProofs only [go_sem];exact(q0 _ _).2 rfl aP
  |true=>
   simp -implicitDefEqProofs only [go_sem,tK,hw];refine hK _ _ (ih (i+1) r _ _ (by omega) h aP aP aP aP aP q0)
theorem alI {k:Nat} {a b:List Nd} {r:Bool} {ca cb:Ck} (h:KE k a b=some r):aD Tryz.prog 215 [ZR a ca,ZR b cb] (.bool r):=by
 have aBh:aD Tryz.prog 254 [fT a,fT b,.fn (.func 255) [] []] (.bool r):=by
  refine aD.aO (aX.mem (.cons (aT Nd.pu _) (.cons (aT Nd.pu _) (.cons (.fn _ _ _ (aX.mem .nil) (aX.mem .nil)) .nil)))) (aF awy (by simp) (aC ?_)) (.bool _);unfold anp;unfold KE at h;obtain⟨hbig,h⟩:=aU h;by_cases hl:a.length=b.length
  · rw [if_pos hl]at h;have hne:((a.length:Int) !=(b.length:Int))=false:=by simp [hl]
    simp -implicitDefEqProofs only [go_sem,hne];refine alH k a b hl hbig _ a.length 0 r _ AH.empty (Nat.zero_add _) (by rw [List.drop_zero,List.drop_zero];exact h) aP aP aP aP aP fun σ' H'=>⟨fun hr=> ?_,fun hr h6=> ?_⟩
    · subst hr;simp -implicitDefEqProofs only [go_sem];exact .pure _ (.bool _)
    · subst hr;simp -implicitDefEqProofs only [go_sem,h6];exact .pure _ (.bool _)
  · rw [if_neg hl]at h;cases h;have hne:((a.length:Int) !=(b.length:Int))=true:=by simp;omega
    simp -implicitDefEqProofs only [go_sem,hne];exact .pure _ (.bool _)
 refine aD.wk (args:=[fT a,fT b]) ?_ (.ak (.ak .nil));refine aD.aO (aX.mem (.cons (aT Nd.pu _) (.cons (aT Nd.pu _) .nil))) (aF av8 (by simp) (aC ?_)) (.bool _);unfold am0;simp -implicitDefEqProofs only [go_sem];refine av aBh ?_;simp -implicitDefEqProofs only [go_sem];exact .pure _ (.bool _)
end Go.VL
end
section
namespace Go.VL
open Tm
theorem Hf (a b:List Str) (hl:a.length<=1099511627776):Ev (fun k=>kW k a b) (decide (a=b)):=by
 unfold kW;by_cases hab:a.length=b.length
 · refine Ev.cF (by simp [hab]) ?_;have key:Ev (fun k=>eD k a b (a.length:Int) ((0:Nat):Int)) (if a.drop 0=b.drop 0 then .inl ()else .inr false):=by
    refine jM (len:=a.length) (p:=fun i=>Ev (fun k=>eD k a b (a.length:Int) (i:Int)) (if a.drop i=b.drop i then .inl ()else .inr false)) ?_ fun i hi ih=> ?_
    · refine Ev.succ ?_;simp only [eD];refine Ev.cF (iT _) (Ev.some' ?_);simp [hab]
    · have hi':i<b.length:=hab▸hi;refine Ev.succ ?_;simp only [eD,Int.toNat_natCast,bG hi,bG hi',Option.bind_some,nn,if_true,iY hi,cond_true,dW hi hl];by_cases h:a[i]=b[i]
      · refine Ev.cT (by rw [beq_iff_eq];exact h) (ih.to ?_);have:List.drop i a=a[i]::List.drop (i+1) a:=List.drop_eq_getElem_cons hi;have:List.drop i b=b[i]::List.drop (i+1) b:=List.drop_eq_getElem_cons hi';simp only [*,List.cons.injEq,true_and]
      · refine Ev.cF (by rw [beq_eq_false_iff_ne];exact h) (Ev.some' ?_);have e1:List.drop i a=a[i]::List.drop (i+1) a:=List.drop_eq_getElem_cons hi;have e2:List.drop i b=b[i]::List.drop (i+1) b:=List.drop_eq_getElem_cons hi';rw [if_neg];intro e;rw [e1,e2,List.cons.injEq]at e;exact h e.1
   refine Ev.bind key ?_;by_cases h:a=b
   · subst h;simp only [if_true,bI,decide_true];exact Ev.some
   · simp only [List.drop_zero,h,if_false,bL,decide_false];exact Ev.some
 · refine Ev.cT (by simp;omega) (Ev.some' ?_);exact(decide_eq_false fun e=>hab (by rw [e])).symm
theorem Ox (a b:List Int) (hl:a.length<=1099511627776):Ev (fun k=>q8 k a b) (decide (a=b)):=by
 unfold q8;by_cases hab:a.length=b.length
 · refine Ev.cF (by simp [hab]) ?_;have key:Ev (fun k=>gV k a b (a.length:Int) ((0:Nat):Int)) (if a.drop 0=b.drop 0 then .inl ()else .inr false):=by
    refine jM (len:=a.length) (p:=fun i=>Ev (fun k=>gV k a b (a.length:Int) (i:Int)) (if a.drop i=b.drop i then .inl ()else .inr false)) ?_ fun i hi ih=> ?_
    · refine Ev.succ ?_;simp only [gV];refine Ev.cF (iT _) (Ev.some' ?_);simp [hab]
    · have hi':i<b.length:=hab▸hi;refine Ev.succ ?_;simp only [gV,Int.toNat_natCast,bG hi,bG hi',Option.bind_some,nn,if_true,iY hi,cond_true,dW hi hl];have e1:List.drop i a=a[i]::List.drop (i+1) a:=List.drop_eq_getElem_cons hi;have e2:List.drop i b=b[i]::List.drop (i+1) b:=List.drop_eq_getElem_cons hi';by_cases h:a[i]=b[i]
      · refine Ev.cF (by rw [bne_eq_false_iff_eq];exact h) (ih.to ?_);rw [e1,e2];simp only [h,List.cons.injEq,true_and]
      · refine Ev.cT (by rw [bne_iff_ne];exact h) (Ev.some' ?_);rw [if_neg];intro e;rw [e1,e2,List.cons.injEq]at e;exact h e.1
   refine Ev.bind key ?_;by_cases h:a=b
   · subst h;simp only [if_true,bI,decide_true];exact Ev.some
   · simp only [List.drop_zero,h,if_false,bL,decide_false];exact Ev.some
 · refine Ev.cT (by simp;omega) (Ev.some' ?_);exact(decide_eq_false fun e=>hab (by rw [e])).symm
theorem aep (x y:Nd) (h1:x.names.length<=1000000) (h2:x.args.length<=1000000):Ev (fun k=>Gw k x y) (decide (x=y)):=by
 unfold Gw;obtain⟨k1,n1,t1,m1,a1⟩:=x;obtain⟨k2,n2,t2,m2,a2⟩:=y;simp only at h1 h2;simp only [Nd.mk.injEq];by_cases e1:k1=k2
 · refine Ev.cT (by rw [beq_iff_eq];exact e1) ?_;by_cases e2:n1=n2
   · refine Ev.cT (by rw [beq_iff_eq];exact e2) ?_;by_cases e3:t1=t2
     · refine Ev.cT (by rw [beq_iff_eq];exact e3) (Ev.bind (Hf m1 m2 (by omega)) ?_);by_cases e4:m1=m2
       · refine Ev.cT (decide_eq_true e4) (Ev.bind (Ox a1 a2 (by omega)) (Ev.some' ?_));simp [e1,e2,e3,e4]
       · exact Ev.cF (decide_eq_false e4) (Ev.some' (by simp [e4]))
     · exact Ev.cF (by rw [beq_eq_false_iff_ne];exact e3) (Ev.some' (by simp [e3]))
   · exact Ev.cF (by rw [beq_eq_false_iff_ne];exact e2) (Ev.some' (by simp [e2]))
 · exact Ev.cF (by rw [beq_eq_false_iff_ne];exact e1) (Ev.some' (by simp [e1]))
theorem afw: ∀(a b:List Nd),a.length=b.length->(∀n∈a,n.names.length<=1000000/\n.args.length<=1000000)->Ev (fun k=>Tk k a b) (decide (a=b))
 |[],[],_,_=>Ev.all fun k=>rfl
 |[],_::_,h,_=>by simp at h
 |_::_,[],h,_=>by simp at h
 |x::a,y::b,h,hn=>by
  have hx:=hn x List.mem_cons_self;unfold Tk;refine Ev.bind (aep x y hx.1 hx.2) ?_;by_cases e:x=y
  · refine Ev.cT (decide_eq_true e) ((afw a b (by simpa using h) fun n hm=>hn n (List.mem_cons_of_mem _ hm)).to ?_);simp [e]
  · refine Ev.cF (decide_eq_false e) (Ev.some' ?_);simp [e]
theorem ajG (a b:List Nd) (hl:a.length<=1000000) (hn: ∀n∈a,n.names.length<=1000000/\n.args.length<=1000000):Ev (fun k=>KE k a b) (decide (a=b)):=by
 unfold KE;refine Ev.lZ (by omega) ?_;by_cases h:a.length=b.length
 · simp only [if_pos h];exact afw a b h hn
 · simp only [if_neg h];exact Ev.some' (decide_eq_false fun e=>h (by rw [e])).symm
theorem XJ {e:List Nd} (hF:zy e) (hL:pO e) {t:Tm} (he:e=flat 0 t) {lF:List Str} (hfree:Ev (fun k=>xH k e) lF) (hl:lF.length<=1000):Ev (fun k=>kG k e) (flat 0 (can lF [] 0 t).1):=by
 have hlen:=hF.len;have hs:=t.size_pos;have hsz:e.length=t.size:=by rw [he,dw]
 obtain⟨K1,h1⟩:=hfree;obtain⟨K2,h2⟩:=adj hl hF (fun i n hn=>by have:=(hL.nd i n hn).1;omega) t 0 [] [] 0 (by rw [he];exact Seg.whole t) rfl (by simp only [List.length_nil];omega) (Ow hF he lF hl);refine⟨K1+K2,fun k hk=> ?_⟩;show kG k e=_;unfold kG;rw [(show xH k e=_ from h1 k (by omega)),Option.bind_some];have:=h2 k k (by omega) (by omega);rw [<-he]at this;rw [show((0:Int))=((0:Nat):Int)from rfl,this];rfl
def GoodS (lF:List Str) (N:Nat) (bd:List Scope):Prop:= ∀s∈bd,∃n,s.new=bN n/\n<=N/\bN n∉lF
theorem Qg: ∀(bd:List Scope) (t:Str),lI bd t=t\/ ∃s∈bd,s.old=t/\lI bd t=s.new
 |[],t=> .inl (by rw [lI])
 |s::bd,t=>by
  rw [lI];have ih:=Qg bd t;by_cases h:(bd.any fun s=>decide (s.old=t))=true
  · rw [if_pos h];rcases ih with h1|⟨s1,h1,h2,h3⟩
    · exact .inl h1
    · exact .inr ⟨s1,List.mem_cons_of_mem _ h1,h2,h3⟩
  · rw [if_neg h];by_cases h2:s.old=t
    · rw [if_pos h2];exact .inr ⟨s,List.mem_cons_self,h2,rfl⟩
    · rw [if_neg h2];rcases ih with h1|⟨s1,h1,h2,h3⟩
      · exact .inl h1
      · exact .inr ⟨s1,List.mem_cons_of_mem _ h1,h2,h3⟩
theorem adk {lF:List Str} {x:Nd} {c:Nat} {s:Str} (h:s∈(fP lF x c).1):(s∈x.names/\(x.kind=16\/x.kind=17))\/ ∃n,s=bN n/\c<n/\n<=(fP lF x c).2/\bN n∉lF:=by
 unfold fP at h⊢;by_cases hk:x.kind=16\/x.kind=17
 · rw [if_pos hk]at h;exact .inl ⟨h,hk⟩
 · rw [if_neg hk]at h⊢;obtain⟨h1,n,h2,h3,h4⟩:=Om lF _ _ _ h;exact .inr ⟨n,h2,h3,h4,h2▸h1⟩
theorem aqi {lF:List Str} {bd:List Scope} {x:Nd} {a j c:Nat} {s:Scope} (h:s∈tV x (ou lF bd c x) a j):s.old∈x.names/\ ∃n,s.new=bN n/\c<n/\n<=(fP lF x c).2/\bN n∉lF:=by
 unfold tV at h;obtain⟨i,hi⟩:=List.mem_iff_getElem?.1 h;rw [List.getElem?_zipWith]at hi;cases h1:(jd (oP x.kind x.n a j) x.names)[i]? with
 |none=>rw [h1]at hi;simp at hi
 |some o=>
  cases h2:(jd (oP x.kind x.n a j) (ou lF bd c x).names)[i]? with
  |none=>rw [h1,h2]at hi;simp at hi
  |some w=>
   rw [h1,h2]at hi;simp only [Option.some.injEq]at hi;subst hi;refine⟨YN (List.mem_of_getElem? h1),?_⟩;rcases adk (YN (List.mem_of_getElem? h2))with⟨_,hk⟩|h3
   · rw [ap9 hk]at h2;simp [jd]at h2
   · exact h3
theorem alJ {lF:List Str} {bd:List Scope} {x:Nd} {a j c N:Nat} (hN:(fP lF x c).2<=N) (hb:GoodS lF N bd):GoodS lF N (bd++tV x (ou lF bd c x) a j):=by
 intro s hs;rcases List.mem_append.1 hs with h|h
 · exact hb s h
 · obtain⟨_,n,h1,_,h2,h3⟩:=aqi h;exact⟨n,h1,by omega,h3⟩
def TxO (lF:List Str) (N:Nat) (o s:Str):Prop:=s=o\/ ∃n,s=bN n/\n<=N/\bN n∉lF
theorem afx {lF:List Str} {N:Nat} {bd:List Scope} (hb:GoodS lF N bd) (x:Nd):TxO lF N x.text (Cm bd x)/\(Cm bd x≠x.text->jR x=true):=by
 unfold Cm;cases h:jR x with
 |false=>rw [if_neg (by simp)];exact⟨.inl rfl,fun h=>absurd rfl h⟩
 |true=>
  rw [if_pos rfl];refine⟨?_,fun _=>rfl⟩;rcases Qg bd x.text with h1|⟨s,h1,h2,h3⟩
  · exact .inl h1
  · rw [h3];obtain⟨n,h4,h5,h6⟩:=hb s h1;exact .inr ⟨n,h4,h5,h6⟩
structure Out (lF:List Str) (N:Nat) (n m:Nd):Prop where
 sk:KD m=KD n
 tx:TxO lF N n.text m.text
 nb:m.text≠n.text->jR n=true
 fx:n.kind=16\/n.kind=17->m.names=n.names
 nm: ¬(n.kind=16\/n.kind=17)->m.names.Nodup/\ ∀s∈m.names,∃k,s=bN k/\k<=N/\bN k∉lF
theorem auE {lF:List Str} {N:Nat} {bd:List Scope} {c:Nat} (hb:GoodS lF N bd) (x:Nd) (b:Nat) (cs cs':List Tm) (hr:roots b cs'=roots b cs) (hN:(fP lF x c).2<=N):Out lF N (nd x b cs) (nd (ou lF bd c x) b cs'):=by
 refine⟨?_,(afx hb x).1,(afx hb x).2,fun h=> ?_,fun h=>⟨?_,fun s hs=> ?_⟩⟩
 · simp only [KD,nd,hr,ou];rw [Qe (He lF x c)]
 · show(fP lF x c).1=x.names
   unfold fP;rw [if_pos (show x.kind=16\/x.kind=17 from h)]
 · show(fP lF x c).1.Nodup
   unfold fP;rw [if_neg (show ¬(x.kind=16\/x.kind=17)from h)];exact Qb lF _ _
 · rcases adk hs with⟨_,hk⟩|⟨n,h1,_,h2,h3⟩
   · exact absurd hk h
   · exact⟨n,h1,by omega,h3⟩
mutual
theorem afy {lF:List Str} {N:Nat}: ∀(t:Tm) (b:Nat) (bd:List Scope) (c:Nat),GoodS lF N bd->(can lF bd c t).2<=N-> ∀(i:Nat) (n:Nd),(flat b t)[i]? =some n-> ∃m,(flat b (can lF bd c t).1)[i]? =some m/\Out lF N n m
 | .mk x cs,b,bd,c,hb,hN,i,n,hn=>by
  rw [G9]at hN⊢;have hle:=zX lF cs bd x (ou lF bd c x) cs.length 0 (fP lF x c).2;rw [lg]at hn⊢;have hfl:(bC b (fV lF bd x (ou lF bd c x) cs.length 0 (fP lF x c).2 cs).1).length=(bC b cs).length:=by rw [dG,dG,E9]
  by_cases hi:i<(bC b cs).length
  · rw [List.getElem?_append_left hi]at hn;rw [List.getElem?_append_left (by omega)];exact adl cs b bd x (ou lF bd c x) cs.length 0 (fP lF x c).2 (fun j=>alJ (by simp only at hN;omega) hb) hN i n hn
  · rw [List.getElem?_append_right (by omega)]at hn;rw [List.getElem?_append_right (by omega),hfl];have hi0:i -(bC b cs).length=0:=by
     by_cases h:i -(bC b cs).length=0
     · exact h
     · rw [List.getElem?_eq_none (by simp;omega)]at hn;cases hn
    rw [hi0]at hn⊢;cases hn;exact⟨_,rfl,auE hb x b cs _ (Fa lF cs b _ _ _ _ _ _) (by simp only at hN;omega)⟩
theorem adl {lF:List Str} {N:Nat}: ∀(cs:List Tm) (b:Nat) (bd:List Scope) (x y:Nd) (a j c:Nat),(∀j,GoodS lF N (bd++tV x y a j))->(fV lF bd x y a j c cs).2<=N-> ∀(i:Nat) (n:Nd),(bC b cs)[i]? =some n-> ∃m,(bC b (fV lF bd x y a j c cs).1)[i]? =some m/\Out lF N n m
 |[],b,bd,x,y,a,j,c,hb,hN,i,n,hn=>by simp [bC]at hn
 |t::ts,b,bd,x,y,a,j,c,hb,hN,i,n,hn=>by
  rw [mI]at hN⊢;have hle:=zX lF ts bd x y a (j+1) (can lF (bd++tV x y a j) c t).2;rw [iF]at hn⊢;have hfl:(flat b (can lF (bd++tV x y a j) c t).1).length=(flat b t).length:=by rw [dw,dw,uL]
  by_cases hi:i<(flat b t).length
  · rw [List.getElem?_append_left hi]at hn;rw [List.getElem?_append_left (by omega)];exact afy t b _ c (hb j) (by simp only at hN;omega) i n hn
  · rw [List.getElem?_append_right (by omega)]at hn;rw [List.getElem?_append_right (by omega),hfl,uL];exact adl ts (b+t.size) bd x y a (j+1) _ hb hN _ n hn
end
end Go.VL
end
section
namespace Go.VL
open Go.Proofs Go.RowKit
theorem adn (k:Nat) (e:List Nd) {c:Ck} {r:List Nd} (h:uW k e=some r):aD Tryz.prog 216 [.ak (e.map Nd.cells) c] (.ak (r.map Nd.cells) .unk):=ajv h
theorem ajH (k:Nat) (a b:List Nd) {c c2:Ck} {r:Bool} (h:KE k a b=some r):aD Tryz.prog 215 [.ak (a.map Nd.cells) c,.ak (b.map Nd.cells) c2] (.bool r):=alI h
end Go.VL
end
section
set_option maxHeartbeats 4000000
namespace Go.VL
open Go.Proofs
def FL (k:Nat) (a_0:List Nd) (b_1:List Nd):Option (Bool×Int):=
 (xB k a_0).bind fun p2=>(xB k b_1).bind fun p4=>(gQ k [p2,p4]).bind fun p6=>cond (p6 !=0) (some (false,p6)) ((uW k a_0).bind fun p9=>(uW k b_1).bind fun ni=>(KE k p9 ni).bind fun wE=>some (wE,0))
theorem YW {k:Nat} {a_0:List Nd} {b_1:List Nd} {c0 c1:Ck} {r:Bool×Int} (h:FL k a_0 b_1=some r):aD Tryz.prog 160 [(.ak (a_0.map Nd.cells) c0),(.ak (b_1.map Nd.cells) c1)] (.cK [(.bool r.1),(.int .i64 r.2)]):=by
 refine aD.lw (.ak (.ak .nil)) (aD.aO (aX.mem (.cons (aT Nd.pu _) (.cons (aT Nd.pu _) .nil))) (aF avK (by simp) (aC ?_)) (.cK _ (aX.mem (.cons (.bool _) (.cons (.int _ _) .nil)))));unfold FL at h;unfold amB;obtain⟨p2,e1,h⟩:=aj h;refine ah ?_;refine av (P7 e1) ?_;obtain⟨p4,e3,h⟩:=aj h;refine ah ?_;refine av (P7 e3) ?_;obtain⟨p6,e5,h⟩:=aj h;refine ah ?_;refine av (kQ e5) ?_;obtain⟨e7,h⟩|⟨e7,h⟩:=aA h
 ·cases h;refine ah ?_;exact(bW (.cons (.pure _ (.bool _)) (aQ .nil)))
 ·obtain⟨p9,e8,h⟩:=aj h;refine ah ?_;refine av (adn k a_0 e8) ?_;obtain⟨ni,e10,h⟩:=aj h;refine ah ?_;refine av (adn k b_1 e10) ?_;obtain⟨wE,e12,h⟩:=aj h;refine ah ?_;refine av (ajH k p9 ni e12) ?_;cases h;refine ah ?_;exact(bW (.cons (.pure _ (.bool _)) (aQ .nil)))
end Go.VL
end
section
namespace Go.VL
open Tm
theorem ajI {lF:List Str} {N:Nat}:GoodS lF N []:=fun s hs=>by cases hs
section
variable {e:List Nd} {t:Tm} (he:e=flat 0 t) {lF:List Str} (hl:lF.length<=1000)
include he hl
theorem aqj (hF:zy e) {i:Nat} {m:Nd} (hm:(flat 0 (can lF [] 0 t).1)[i]? =some m): ∃n,e[i]? =some n/\Out lF 9000 n m:=by
 have hi:=(List.getElem?_eq_some_iff.1 hm).1;rw [dw,uL]at hi;have hi':i<e.length:=by rw [he,dw];exact hi
 obtain⟨m',h1,h2⟩:=afy t 0 [] 0 ajI (Nat.le_trans (Nat.le_add_right _ _) (Ow hF he lF hl)) i e[i] (by rw [<-he];exact bG hi');rw [hm]at h1;cases h1;exact⟨e[i],bG hi',h2⟩
theorem alK (hF:zy e) (hL:pO e):pO (flat 0 (can lF [] 0 t).1):=by
 refine⟨by rw [dw,uL,<-dw 0,<-he];exact hL.len,fun i m hm=> ?_⟩;obtain⟨n,hn,ho⟩:=aqj he hl hF hm;obtain⟨h1,h2,h3⟩:=hL.nd i n hn;obtain⟨_,_,a3,a4⟩:=afu ho.sk;refine⟨?_,by omega,by rw [a3];exact h3⟩;rcases ho.tx with h|⟨k,h4,h5,_⟩
 · rw [h];exact h1
 · rw [h4];have:=at5 (n:=k) (by omega);omega
end
theorem alL {e:List Nd} (hL:pO e) (hF:zy e) (hV:Valid e): ∃t lF,e=flat 0 t/\lF.length<=1000/\Ev (fun k=>Ch k e) lF/\Ev (fun k=>xH k e) lF/\Ev (fun k=>uW k e) (flat 0 (can lF [] 0 t).1)/\Ev (fun k=>kG k e) (flat 0 (can lF [] 0 t).1):=by
 obtain⟨t,he⟩:=hV.tree;obtain⟨lF,h1,h2,h3⟩:=ajd hV hL hF;exact⟨t,lF,he,h3,h1,h2,ajz hF he h1 h3,XJ hF hL he h2 h3⟩
theorem errs {e:List Nd} (hL:pO e): ∃c:Int,Ev (fun k=>xB k e) c/\Ev (fun k=>IB k e) c/\(c=0->Valid e):=by
 obtain⟨r,ht,hr,hv⟩:=agX e hL;exact⟨r.2,by unfold xB;exact Ev.bind ht Ev.some,by unfold IB;exact Ev.bind hr Ev.some,hv⟩
end Go.VL
end
section
set_option maxHeartbeats 4000000
namespace Go.VL
open Go.Proofs
def xJ (k:Nat) (aG:List Nd):Option Int:=
 (lN k aG).bind fun p2=>some p2.2
theorem Dy {k:Nat} {aG:List Nd} {c0:Ck} {r:Int} (h:xJ k aG=some r):aD Tryz.prog 50 [(.ak (aG.map Nd.cells) c0)] (.int .i64 r):=by
 refine aD.lw (.ak .nil) (aD.aO (aX.mem (.cons (aT Nd.pu _) .nil)) (aF azf (by simp) (aC ?_)) (.int _ _));unfold xJ at h;unfold arC;obtain⟨p2,e1,h⟩:=aj h;refine ah ?_;refine av (Ew e1) ?_;cases h;refine ah ?_;exact(.pure _ (.int _ _))
def FM (k:Nat) (a_0:List Nd) (b_1:List Nd):Option Bool:=
 (FL k a_0 b_1).bind fun p2=>some p2.1
theorem YX {k:Nat} {a_0:List Nd} {b_1:List Nd} {c0 c1:Ck} {r:Bool} (h:FM k a_0 b_1=some r):aD Tryz.prog 95 [(.ak (a_0.map Nd.cells) c0),(.ak (b_1.map Nd.cells) c1)] (.bool r):=by
 refine aD.lw (.ak (.ak .nil)) (aD.aO (aX.mem (.cons (aT Nd.pu _) (.cons (aT Nd.pu _) .nil))) (aF azt (by simp) (aC ?_)) (.bool _));unfold FM at h;unfold arU;obtain⟨p2,e1,h⟩:=aj h;refine ah ?_;refine av (YW e1) ?_;cases h;refine ah ?_;exact(.pure _ (.bool _))
def Ea (k:Nat) (x_0:List Nd) (t_1:List Nd):Option Bool:=
 (FM k x_0 t_1).bind fun p2=>some p2
theorem aer {k:Nat} {x_0:List Nd} {t_1:List Nd} {c0:Ck} {r:Bool} (h:Ea k x_0 t_1=some r):aD Tryz.prog 120 [(.ak (x_0.map Nd.cells) c0),(.bS [(.ak (t_1.map Nd.cells) .unk)] 0)] (.bool r):=by
 refine aD.lw (.ak (.same .nil)) (aD.aO (aX.mem (.cons (aT Nd.pu _) (.cons (.bS _ _ (aX.mem (.cons (aT Nd.pu _) .nil))) .nil))) (aF aml (by simp) (aC ?_)) (.bool _));unfold Ea at h;unfold amk;obtain⟨p2,e1,h⟩:=aj h;refine ah ?_;refine av (YX e1) ?_;cases h;refine ah ?_;exact(.pure _ (.bool _))
def fD:Nat->(List (List Nd))->(List Nd)->Int->Int->Option (Unit⊕Int)
 |0,_,_,_,_=>none
 |k+1,s_0,dV,dX,dB=>
  cond (decide (dB<dX)) (if 0<=dB then (s_0[dB.toNat]?).bind fun x3=>(Ea k x3 dV).bind fun p6=>cond p6 (some (.inr (dB))) (fD k s_0 dV dX (IntKind.wrap .i64 (dB+1)))else none) (some (.inl ()))
def sZ:List Nat:=[4,5]++List.range' 8 11
theorem JD: ∀(k:Nat) (s_0:List (List Nd)) (dV:List Nd) (dX:Int) (dB:Int) (aB σ:Nat->PV) (H:AH) (f0:Fr sZ aB σ) (sl:σ 0=(.ak (s_0.map (eu Nd.cells)) .unk)/\σ 1=(.fn (.func 120) [] [(.bS [(.ak (dV.map Nd.cells) .unk)] 0)])/\σ 7=(.int .i64 dX)/\σ 8=(.int .i64 dB)) (o:Unit⊕Int) (h:fD k s_0 dV dX dB=some o) (Q:Post) (q0: ∀(p:Unit) (σ':Nat->PV),o= .inl p->Fr sZ aB σ'->Q (.exit 0) σ' H) (q1: ∀(p:Int) (σ':Nat->PV),o= .inr (p)->Fr sZ aB σ'->(σ' 4=(.int .i64 p))->Q .ret σ' H),W Tryz.prog (.loop F6) Q σ H:=by
 intro k
 induction k with
 |zero=>intro s_0 dV dX dB aB σ H f0 sl o h Q q0 q1;simp only [fD,reduceCtorEq]at h
 |succ k ih=>
  intro s_0 dV dX dB aB σ H f0 sl o h Q q0 q1;obtain⟨s0,s1,s7,s8⟩:=sl;unfold fD at h;refine aW (fun K hK=>aC ?_);unfold F6;obtain⟨e1,h⟩|⟨e1,h⟩:=aA h
  ·obtain⟨e2,h⟩:=aU h;obtain⟨x3,e4,h⟩:=aj h;obtain⟨p6,e5,h⟩:=aj h;refine ah ?_;refine av (aer e5) ?_;obtain⟨e7,h⟩|⟨e7,h⟩:=aA h
   ·cases h;refine ah ?_;exact q1 _ _ rfl aI au
   ·refine ah ?_;refine hK _ _ ?_;exact ih s_0 dV dX (IntKind.wrap .i64 (dB+1)) _ _ _ aI au _ h _ q0 q1
  ·cases h;refine ah ?_;exact q0 _ _ rfl aI
def mG (k:Nat) (s_0:List (List Nd)) (dV:List Nd):Option Int:=
 Option.bind (fD k s_0 dV (s_0.length:Int) 0) (fun o=>Sum.elim (fun iM=>some (-1)) (fun iQ=>some iQ) o)
theorem MF {k:Nat} {s_0:List (List Nd)} {dV:List Nd} {c0:Ck} {r:Int} (h:mG k s_0 dV=some r):aD Tryz.prog 161 [(.ak (s_0.map (eu Nd.cells)) c0),(.fn (.func 120) [] [(.bS [(.ak (dV.map Nd.cells) .unk)] 0)])] (.int .i64 r):=by
 refine aD.lw (.ak (.same .nil)) (aD.aO (aX.mem (.cons (aT (jA Nd.pu) _) (.cons (.fn _ _ _ (aX.mem .nil) (aX.mem (.cons (.bS _ _ (aX.mem (.cons (aT Nd.pu _) .nil))) .nil))) .nil))) (aF amC (by simp) (aC ?_)) (.int _ _));unfold mG at h;unfold agb;refine ah ?_;obtain⟨o8,h9,h⟩:=aj h;refine JD k s_0 dV (s_0.length:Int) 0 _ _ _ (Fr.refl _ _) au _ h9 _ ?_ ?_
 ·rintro iM σ' eo CP;subst eo;rw [bI]at h;cases h;refine ah ?_;exact(.pure _ (.int _ _))
 ·rintro iQ σ' eo sI iX;subst eo;rw [bL]at h;cases h;refine ah ?_;exact(.pure _ (.int _ _))
def pX (k:Nat) (s_0:List (List Nd)) (dV:List Nd):Option Bool:=
 (mG k s_0 dV).bind fun p2=>some (decide (p2>=0))
theorem JE {k:Nat} {s_0:List (List Nd)} {dV:List Nd} {c0:Ck} {r:Bool} (h:pX k s_0 dV=some r):aD Tryz.prog 96 [(.ak (s_0.map (eu Nd.cells)) c0),(.fn (.func 120) [] [(.bS [(.ak (dV.map Nd.cells) .unk)] 0)])] (.bool r):=by
 refine aD.lw (.ak (.same .nil)) (aD.aO (aX.mem (.cons (aT (jA Nd.pu) _) (.cons (.fn _ _ _ (aX.mem .nil) (aX.mem (.cons (.bS _ _ (aX.mem (.cons (aT Nd.pu _) .nil))) .nil))) .nil))) (aF arW (by simp) (aC ?_)) (.bool _));unfold pX at h;unfold arV;obtain⟨p2,e1,h⟩:=aj h;refine ah ?_;refine av (MF e1) ?_;cases h;refine ah ?_;exact(.pure _ (.bool _))
def KF (k:Nat) (bB:List (List Nd)) (e_1:List Nd):Option Bool:=
 (pX k bB e_1).bind fun p2=>some p2
theorem ajJ {k:Nat} {bB:List (List Nd)} {e_1:List Nd} {c0 c1:Ck} {r:Bool} (h:KF k bB e_1=some r):aD Tryz.prog 51 [(.ak (bB.map (eu Nd.cells)) c0),(.ak (e_1.map Nd.cells) c1)] (.bool r):=by
 refine aD.lw (.ak (.ak .nil)) (aD.aO (aX.mem (.cons (aT (jA Nd.pu) _) (.cons (aT Nd.pu _) .nil))) (aF azg (by simp) (aC ?_)) (.bool _));unfold KF at h;unfold arD;obtain⟨p2,e1,h⟩:=aj h;refine ah ?_;refine zJ (JE e1) (.cons (dS (jA Nd.pu) _ _) (.cons (af0 (.cons (aaF (by simp -implicitDefEqProofs only [go_sem,dL,and_self]<;>rfl) (.cons (dS Nd.pu _ _) .nil)) .nil)) .nil)) (.cons (aT (jA Nd.pu) _) (.cons (.fn _ _ _ (aX.mem .nil) (aX.mem (.cons (.bS _ _ (aX.mem (.cons (aT Nd.pu _) .nil))) .nil))) .nil)) (.bool _) ?_;cases h;refine ah ?_;exact(.pure _ (.bool _))
def gK:Nat->(List (List Nd))->(List Nd)->(List (List Nd))->Int->Int->Option (Unit⊕(Int×Int))
 |0,_,_,_,_,_=>none
 |k+1,gB,jq,dR,uE,zA=>
  cond (decide (zA<uE)) (if 0<=zA then (dR[zA.toNat]?).bind fun x4=>(xJ k x4).bind fun p7=>cond (p7 !=0) (some (.inr ((zA,p7)))) (if 0<=zA/\zA.toNat<=gB.length then (KF k (gB.take zA.toNat) x4).bind fun ni=>cond ni (some (.inr ((zA,12)))) (gK k gB jq dR uE (IntKind.wrap .i64 (zA+1)))else none)else none) (some (.inl ()))
def xK:List Nat:=[2,3,4,5,6]++List.range' 15 19
theorem MG: ∀(k:Nat) (kM:Nat) (gB:List (List Nd)) (jq:List Nd) (dR:List (List Nd)) (uE:Int) (zA:Int) (aB σ:Nat->PV) (H:AH) (f0:Fr xK aB σ) (sl:σ 1=(.ref (kM) 0)/\σ 13=(.ak (dR.map (eu Nd.cells)) .unk)/\σ 14=(.int .i64 uE)/\σ 15=(.int .i64 zA)/\H.obj kM=some [(.ak (gB.map (eu Nd.cells)) .unk),(.ak (jq.map Nd.cells) .unk)]) (kg:kM<H.next) (o:Unit⊕(Int×Int)) (h:gK k gB jq dR uE zA=some o) (Q:Post) (q0: ∀(p:Unit) (σ':Nat->PV),o= .inl p->Fr xK aB σ'->Q (.exit 0) σ' H) (q1: ∀(p:Int×Int) (σ':Nat->PV),o= .inr (p)->Fr xK aB σ'->(σ' 2=(.int .i64 p.1)/\σ' 3=(.int .i64 p.2))->Q .ret σ' H),W Tryz.prog (.loop VY) Q σ H:=by
 intro k
 induction k with
 |zero=>intro kM gB jq dR uE zA aB σ H f0 sl kg o h Q q0 q1;simp only [gK,reduceCtorEq]at h
 |succ k ih=>
  intro kM gB jq dR uE zA aB σ H f0 sl kg o h Q q0 q1;obtain⟨s1,s13,J8,s15,XK⟩:=sl;have XL:=ne_next kg;have XM:=aZ kg;unfold gK at h;refine aW (fun K hK=>aC ?_);unfold VY;obtain⟨e2,h⟩|⟨e2,h⟩:=aA h
  ·obtain⟨e3,h⟩:=aU h;obtain⟨x4,e5,h⟩:=aj h;obtain⟨p7,e6,h⟩:=aj h;refine ah ?_;refine av (Dy e6) ?_;obtain⟨e8,h⟩|⟨e8,h⟩:=aA h
   ·cases h;refine ah ?_;exact q1 _ _ rfl aI au
   ·obtain⟨e9,h⟩:=aU h;obtain⟨ni,e10,h⟩:=aj h;refine ah ?_;refine av (ajJ e10) ?_;obtain⟨e12,h⟩|⟨e12,h⟩:=aA h
    ·cases h;refine ah ?_;exact q1 _ _ rfl aI au
    ·refine ah ?_;refine hK _ _ ?_;exact ih kM gB jq dR uE (IntKind.wrap .i64 (zA+1)) _ _ _ aI au bP _ h _ q0 q1
  ·cases h;refine ah ?_;exact q0 _ _ rfl aI
def lC (k:Nat) (s_0:Sq):Option (Int×Int):=
 cond (decide ((s_0.hyps.length:Int)>12)) (some (0,2)) (Option.bind (gK k s_0.hyps s_0.goal s_0.hyps (s_0.hyps.length:Int) 0) (fun o=>Sum.elim (fun wD=>(xJ k s_0.goal).bind fun qB=>cond (qB !=0) (some ((s_0.hyps.length:Int),qB)) (some (0,0))) (fun yO=>some (yO.1,yO.2)) o))
theorem Tn {k:Nat} {s_0:Sq} {r:Int×Int} (h:lC k s_0=some r):aD Tryz.prog 13 [(.agg (Sq.cells s_0))] (.cK [(.int .i64 r.1),(.int .i64 r.2)]):=by
 refine aD.aO (aX.mem (.cons (.agg _ (Sq.pu _)) .nil)) (aF aza (by simp) (aC ?_)) (.cK _ (aX.mem (.cons (.int _ _) (.cons (.int _ _) .nil))));unfold lC at h;unfold arj;obtain⟨e1,h⟩|⟨e1,h⟩:=aA h
 ·cases h;refine ah ?_;exact(bW (aQ (aQ .nil)))
 ·refine ah ?_;obtain⟨o13,h14,h⟩:=aj h;refine MG k (AH.empty.next) s_0.hyps s_0.goal s_0.hyps (s_0.hyps.length:Int) 0 _ _ _ (Fr.refl _ _) au bP _ h14 _ ?_ ?_
  ·rintro wD σ' eo Ji;subst eo;rw [bI]at h;have oW:σ' 1=(.ref (AH.empty.next) 0):=(Ji 1 (by decide)).trans au;obtain⟨qB,e20,h⟩:=aj h;refine ah ?_;refine av (Dy e20) ?_;obtain⟨e22,h⟩|⟨e22,h⟩:=aA h
   ·cases h;refine ah ?_;exact(bW (aQ (aQ .nil)))
   ·cases h;refine ah ?_;exact(bW (aQ (aQ .nil)))
  ·rintro yO σ' eo Xm ⟨Yh,s28⟩;subst eo;rw [bL]at h;cases h;refine ah ?_;exact(bW (aQ (aQ .nil)))
def kN:Nat->(List (List Nd))->(List (List Nd))->Int->Option (List (List Nd))
 |0,_,_,_=>none
 |k+1,bB,eT,dO=>
  cond (decide (dO<(bB.length:Int))) (if 0<=dO then (bB[dO.toNat]?).bind fun x3=>(zQ k x3).bind fun p6=>if(eT.length+1)*24<=1099511627776 then kN k bB (eT++[p6]) (IntKind.wrap .i64 (dO+1))else none else none) (some (eT))
def KG:List Nat:=List.range' 3 16
theorem Vl: ∀(k:Nat) (bB:List (List Nd)) (eT:List (List Nd)) (dO:Int) (fH:Ck) (aB σ:Nat->PV) (H0 H:AH) (f0:Fr KG aB σ) (hf0:HF [] H0 H) (sl:σ 0=(.ak (bB.map (eu Nd.cells)) .unk)/\σ 3=(.ak (eT.map (eu Nd.cells)) fH)/\σ 4=(.int .i64 dO)) (Gt:bq H fH) (o:List (List Nd)) (h:kN k bB eT dO=some o) (Q:Post) (q0: ∀(p:List (List Nd)) (c0:Ck) (σ':Nat->PV) (H':AH),o=p->Fr KG aB σ'->HF [] H0 H'->(σ' 3=(.ak (p.map (eu Nd.cells)) c0))->Q (.exit 0) σ' H'),W Tryz.prog (.loop V6) Q σ H:=by
 intro k
 induction k with
 |zero=>intro bB eT dO fH aB σ H0 H f0 hf0 sl Gt o h Q q0;simp only [kN,reduceCtorEq]at h
 |succ k ih=>
  intro bB eT dO fH aB σ H0 H f0 hf0 sl Gt o h Q q0;obtain⟨s0,s3,s4⟩:=sl;have hle0:=hf0.1;unfold kN at h;refine aW (fun K hK=>aC ?_);unfold V6;obtain⟨e1,h⟩|⟨e1,h⟩:=aA h
  ·obtain⟨e2,h⟩:=aU h;obtain⟨x3,e4,h⟩:=aj h;obtain⟨p6,e5,h⟩:=aj h;refine ah ?_;refine av (PU e5) ?_;obtain⟨e11,h⟩:=aU h;refine ah ?_;refine gq (f:=(eu Nd.cells)) T9 eT ([p6]:List (List Nd)) fH .exact au au eZ (by first|exact e11|(simp only [List.length_cons,List.length_nil];exact e11)) (fun c7 H8 ok9 le aBi aGl=> ?_);have acV:HF [] _ H8:=⟨le,fun i _ _=>aBi i⟩;try simp only [AH.aK,AH.aL,AH.aM,AH.aN]at le
   refine ah ?_;refine hK _ _ ?_;exact ih bB (eT++[p6]) (IntKind.wrap .i64 (dO+1)) c7 _ _ _ _ aI (by repeat (first|exact hf0|refine HF.new ?_|refine HF.qJ ?_|refine HF.used ?_|refine HF.put (by first|(right;omega)|(left;simp only [List.mem_cons,true_or,or_true])) ?_|refine HF.via acV (by first|exact fun i hi=>absurd hi List.not_mem_nil|(intro i hi;simp only [List.mem_cons,List.not_mem_nil,or_false]at hi⊢;first|exact .inl hi|omega)) ?_)) au eZ _ h _ q0
  ·cases h;refine ah ?_;exact q0 _ fH _ _ rfl aI nZ au
def Cq (k:Nat) (bB:List (List Nd)):Option (List (List Nd)):=
 Option.bind (kN k bB ([]:List (List Nd)) 0) (fun p16=>some p16)
theorem ado {k:Nat} {bB:List (List Nd)} {c0:Ck} {r:List (List Nd)} (h:Cq k bB=some r):aD Tryz.prog 23 [(.ak (bB.map (eu Nd.cells)) c0)] (.ak (r.map (eu Nd.cells)) .unk):=by
 refine aD.lw (.ak .nil) (aD.aO (aX.mem (.cons (aT (jA Nd.pu) _) .nil)) (aF azd (by simp) (aC ?_)) (aT (jA Nd.pu) _));unfold Cq at h;unfold arx;refine ah ?_;obtain⟨o14,h15,h⟩:=aj h;refine Vl k bB ([]:List (List Nd)) 0 .nil _ _ _ _ (Fr.refl _ _) (HF.refl _ _) au eZ _ h15 _ ?_
 ·rintro p16 c20 σ' H19 eo WA agS s21;rw [eo]at h;have le:=agS.1;try simp only [AH.aK,AH.aL,AH.aM,AH.aN]at le
  cases h;refine ah ?_;exact(dS (jA Nd.pu) _ _)
def Vm (k:Nat) (s_0:Sq):Option Sq:=
 (Cq k s_0.hyps).bind fun p2=>(zQ k s_0.goal).bind fun p4=>some (Sq.mk p2 p4)
theorem aqk {k:Nat} {s_0:Sq} {r:Sq} (h:Vm k s_0=some r):aD Tryz.prog 14 [(.agg (Sq.cells s_0))] (.agg (Sq.cells r)):=by
 refine aD.aO (aX.mem (.cons (.agg _ (Sq.pu _)) .nil)) (aF azb (by simp) (aC ?_)) (.agg _ (Sq.pu _));unfold Vm at h;unfold ark;refine ah ?_;refine iJ ?_;obtain⟨p2,e1,h⟩:=aj h;refine ah ?_;refine PC.mk (ado e1) ?_;obtain⟨p4,e3,h⟩:=aj h;refine ah ?_;refine av (PU e3) ?_;cases h;refine ah ?_;exact(bQ (.cons (dS (jA Nd.pu) _ _) (.cons (dS Nd.pu _ _) .nil)))
def Oy (k:Nat) (a_0:List Nd) (b_1:List Nd):Option Bool:=
 cond ((a_0.length:Int)==(b_1.length:Int)) ((kG k a_0).bind fun p3=>(kG k b_1).bind fun p5=>(Bc k p3 p5).bind fun p7=>some p7) (some false)
theorem alM {k:Nat} {a_0:List Nd} {b_1:List Nd} {c0 c1:Ck} {r:Bool} (h:Oy k a_0 b_1=some r):aD Tryz.prog 98 [(.ak (a_0.map Nd.cells) c0),(.ak (b_1.map Nd.cells) c1)] (.bool r):=by
 refine aD.lw (.ak (.ak .nil)) (aD.aO (aX.mem (.cons (aT Nd.pu _) (.cons (aT Nd.pu _) .nil))) (aF azu (by simp) (aC ?_)) (.bool _));unfold Oy at h;unfold arX;obtain⟨e1,h⟩|⟨e1,h⟩:=aA h
 ·obtain⟨p3,e2,h⟩:=aj h;refine ah ?_;refine av (Mv k a_0 e2) ?_;obtain⟨p5,e4,h⟩:=aj h;refine ah ?_;refine av (Mv k b_1 e4) ?_;obtain⟨p7,e6,h⟩:=aj h;refine ah ?_;refine av (abK e6) ?_;cases h;refine ah ?_;exact(.pure _ (.bool _))
 ·cases h;refine ah ?_;exact(.pure _ (.bool _))
def pY:Nat->(List (List Nd))->(List Nd)->Int->Option (Unit⊕Bool)
 |0,_,_,_=>none
 |k+1,bB,e_1,dI=>
  cond (decide (dI<(bB.length:Int))) (if 0<=dI then (bB[dI.toNat]?).bind fun x3=>(Oy k x3 e_1).bind fun p6=>cond p6 (some (.inr (true))) (pY k bB e_1 (IntKind.wrap .i64 (dI+1)))else none) (some (.inl ()))
def JF:List Nat:=List.range' 4 14
theorem adp: ∀(k:Nat) (bB:List (List Nd)) (e_1:List Nd) (dI:Int) (aB σ:Nat->PV) (H:AH) (f0:Fr JF aB σ) (sl:σ 0=(.ak (bB.map (eu Nd.cells)) .unk)/\σ 1=(.ak (e_1.map Nd.cells) .unk)/\σ 5=(.int .i64 dI)) (o:Unit⊕Bool) (h:pY k bB e_1 dI=some o) (Q:Post) (q0: ∀(p:Unit) (σ':Nat->PV),o= .inl p->Fr JF aB σ'->Q (.exit 0) σ' H) (q1: ∀(p:Bool) (σ':Nat->PV),o= .inr (p)->Fr JF aB σ'->(σ' 4=(.bool p))->Q .ret σ' H),W Tryz.prog (.loop Wi) Q σ H:=by
 intro k
 induction k with
 |zero=>intro bB e_1 dI aB σ H f0 sl o h Q q0 q1;simp only [pY,reduceCtorEq]at h
 |succ k ih=>
  intro bB e_1 dI aB σ H f0 sl o h Q q0 q1;obtain⟨s0,s1,s5⟩:=sl;unfold pY at h;refine aW (fun K hK=>aC ?_);unfold Wi;obtain⟨e1,h⟩|⟨e1,h⟩:=aA h
  ·obtain⟨e2,h⟩:=aU h;obtain⟨x3,e4,h⟩:=aj h;obtain⟨p6,e5,h⟩:=aj h;refine ah ?_;refine av (alM e5) ?_;obtain⟨e7,h⟩|⟨e7,h⟩:=aA h
   ·cases h;refine ah ?_;exact q1 _ _ rfl aI au
   ·refine ah ?_;refine hK _ _ ?_;exact ih bB e_1 (IntKind.wrap .i64 (dI+1)) _ _ _ aI au _ h _ q0 q1
  ·cases h;refine ah ?_;exact q0 _ _ rfl aI
def KH (k:Nat) (bB:List (List Nd)) (e_1:List Nd):Option Bool:=
 Option.bind (pY k bB e_1 0) (fun o=>Sum.elim (fun iM=>some false) (fun iQ=>some iQ) o)
theorem ajK {k:Nat} {bB:List (List Nd)} {e_1:List Nd} {c0 c1:Ck} {r:Bool} (h:KH k bB e_1=some r):aD Tryz.prog 52 [(.ak (bB.map (eu Nd.cells)) c0),(.ak (e_1.map Nd.cells) c1)] (.bool r):=by
 refine aD.lw (.ak (.ak .nil)) (aD.aO (aX.mem (.cons (aT (jA Nd.pu) _) (.cons (aT Nd.pu _) .nil))) (aF arF (by simp) (aC ?_)) (.bool _));unfold KH at h;unfold arE;refine ah ?_;obtain⟨o8,h9,h⟩:=aj h;refine adp k bB e_1 0 _ _ _ (Fr.refl _ _) au _ h9 _ ?_ ?_
 ·rintro iM σ' eo CP;subst eo;rw [bI]at h;cases h;refine ah ?_;exact(.pure _ (.bool _))
 ·rintro iQ σ' eo sI iX;subst eo;rw [bL]at h;cases h;refine ah ?_;exact(.pure _ (.bool _))
def gL:Nat->(List (List Nd))->(List Nd)->Int->Option (Unit⊕(Int×Int))
 |0,_,_,_=>none
 |k+1,gB,jq,dO=>
  cond (decide (dO<(gB.length:Int))) (if 0<=dO then (gB[dO.toNat]?).bind fun x4=>(IB k x4).bind fun p7=>cond (p7 !=0) (some (.inr ((dO,p7)))) (if 0<=dO/\dO.toNat<=gB.length then (KH k (gB.take dO.toNat) x4).bind fun ni=>cond ni (some (.inr ((dO,12)))) (gL k gB jq (IntKind.wrap .i64 (dO+1)))else none)else none) (some (.inl ()))
def xL:List Nat:=[2,3,4,5]++List.range' 11 28
theorem MH: ∀(k:Nat) (kM:Nat) (gB:List (List Nd)) (jq:List Nd) (dO:Int) (aB σ:Nat->PV) (H:AH) (f0:Fr xL aB σ) (sl:σ 1=(.ref (kM) 0)/\σ 4=(.int .i64 dO)/\H.obj kM=some [(.ak (gB.map (eu Nd.cells)) .unk),(.ak (jq.map Nd.cells) .unk)]) (kg:kM<H.next) (o:Unit⊕(Int×Int)) (h:gL k gB jq dO=some o) (Q:Post) (q0: ∀(p:Unit) (σ':Nat->PV),o= .inl p->Fr xL aB σ'->Q (.exit 0) σ' H) (q1: ∀(p:Int×Int) (σ':Nat->PV),o= .inr (p)->Fr xL aB σ'->(σ' 2=(.int .i64 p.1)/\σ' 3=(.int .i64 p.2))->Q .ret σ' H),W Tryz.prog (.loop VZ) Q σ H:=by
 intro k
 induction k with
 |zero=>intro kM gB jq dO aB σ H f0 sl kg o h Q q0 q1;simp only [gL,reduceCtorEq]at h
 |succ k ih=>
  intro kM gB jq dO aB σ H f0 sl kg o h Q q0 q1;obtain⟨s1,s4,XK⟩:=sl;have XL:=ne_next kg;have XM:=aZ kg;unfold gL at h;refine aW (fun K hK=>aC ?_);unfold VZ;obtain⟨e2,h⟩|⟨e2,h⟩:=aA h
  ·obtain⟨e3,h⟩:=aU h;obtain⟨x4,e5,h⟩:=aj h;obtain⟨p7,e6,h⟩:=aj h;refine ah ?_;refine av (ae1 e6) ?_;obtain⟨e8,h⟩|⟨e8,h⟩:=aA h
   ·cases h;refine ah ?_;exact q1 _ _ rfl aI au
   ·refine ah ?_;refine iJ ?_;obtain⟨e9,h⟩:=aU h;obtain⟨ni,e10,h⟩:=aj h;refine ah ?_;refine av (ajK e10) ?_;obtain⟨e12,h⟩|⟨e12,h⟩:=aA h
    ·cases h;refine ah ?_;exact q1 _ _ rfl aI au
    ·refine ah ?_;refine hK _ _ ?_;exact ih kM gB jq (IntKind.wrap .i64 (dO+1)) _ _ _ aI au bP _ h _ q0 q1
  ·cases h;refine ah ?_;exact q0 _ _ rfl aI
def lD (k:Nat) (s_0:Sq):Option (Int×Int):=
 cond (decide ((s_0.hyps.length:Int)>12)) (some (0,2)) (Option.bind (gL k s_0.hyps s_0.goal 0) (fun o=>Sum.elim (fun wD=>(IB k s_0.goal).bind fun qB=>cond (qB !=0) (some ((s_0.hyps.length:Int),qB)) (some (0,0))) (fun yO=>some (yO.1,yO.2)) o))
theorem Tp {k:Nat} {s_0:Sq} {r:Int×Int} (h:lD k s_0=some r):aD Tryz.prog 15 [(.agg (Sq.cells s_0))] (.cK [(.int .i64 r.1),(.int .i64 r.2)]):=by
 refine aD.aO (aX.mem (.cons (.agg _ (Sq.pu _)) .nil)) (aF azc (by simp) (aC ?_)) (.cK _ (aX.mem (.cons (.int _ _) (.cons (.int _ _) .nil))));unfold lD at h;unfold arl;obtain⟨e1,h⟩|⟨e1,h⟩:=aA h
 ·cases h;refine ah ?_;exact(bW (aQ (aQ .nil)))
 ·refine ah ?_;obtain⟨o13,h14,h⟩:=aj h;refine MH k (AH.empty.next) s_0.hyps s_0.goal 0 _ _ _ (Fr.refl _ _) au bP _ h14 _ ?_ ?_
  ·rintro wD σ' eo Ji;subst eo;rw [bI]at h;have oW:σ' 1=(.ref (AH.empty.next) 0):=(Ji 1 (by decide)).trans au;obtain⟨qB,e20,h⟩:=aj h;refine ah ?_;refine av (ae1 e20) ?_;obtain⟨e22,h⟩|⟨e22,h⟩:=aA h
   ·cases h;refine ah ?_;exact(bW (aQ (aQ .nil)))
   ·cases h;refine ah ?_;exact(bW (aQ (aQ .nil)))
  ·rintro yO σ' eo Xm ⟨Yh,s28⟩;subst eo;rw [bL]at h;cases h;refine ah ?_;exact(bW (aQ (aQ .nil)))
def FN (k:Nat) (aG:List Nd):Option Bool:=
 (Ur k aG).bind fun p2=>cond p2 (cond (decide ((aG.length:Int)<=30)) (some true) (some (decide ((aG.length:Int)>160)))) (some false)
theorem YZ {k:Nat} {aG:List Nd} {c0:Ck} {r:Bool} (h:FN k aG=some r):aD Tryz.prog 16 [(.ak (aG.map Nd.cells) c0)] (.bool r):=by
 refine aD.lw (.ak .nil) (aD.aO (aX.mem (.cons (aT Nd.pu _) .nil)) (aF ok16 (by simp) (aC ?_)) (.bool _));unfold FN at h;unfold arn;obtain⟨p2,e1,h⟩:=aj h;refine ah ?_;refine av (apM e1) ?_;obtain⟨e3,h⟩|⟨e3,h⟩:=aA h
 ·obtain⟨e4,h⟩|⟨e4,h⟩:=aA h
  ·cases h;refine ah ?_;exact(.pure _ (.bool _))
  ·cases h;refine ah ?_;exact(.pure _ (.bool _))
 ·cases h;refine ah ?_;exact(.pure _ (.bool _))
def zB (k:Nat) (gB:List (List Nd)) (jq:List Nd):Option (Unit⊕Bool):=
 cond (decide ((gB.length:Int)>14)) (some (.inr (false))) ((FN k jq).bind fun p3=>cond p3 (some (.inl ())) (some (.inr (false))))
def Oz:List Nat:=[2]++List.range' 4 10
theorem ahg (k:Nat): ∀(kM:Nat) (gB:List (List Nd)) (jq:List Nd) (aB σ:Nat->PV) (H:AH) (f0:Fr Oz aB σ) (sl:σ 1=(.ref (kM) 0)/\H.obj kM=some [(.ak (gB.map (eu Nd.cells)) .unk),(.ak (jq.map Nd.cells) .unk)]) (kg:kM<H.next) (o:Unit⊕Bool) (h:zB k gB jq=some o) (Q:Post) (q0: ∀(p:Unit) (σ':Nat->PV),o= .inl p->Fr Oz aB σ'->Q .normal σ' H) (q1: ∀(p:Bool) (σ':Nat->PV),o= .inr (p)->Fr Oz aB σ'->(σ' 2=(.bool p))->Q .ret σ' H),W Tryz.prog VW Q σ H:=by
 intro kM gB jq aB σ H f0 sl kg o h Q q0 q1;obtain⟨s1,XK⟩:=sl;have XL:=ne_next kg;have XM:=aZ kg;unfold zB at h;refine aC ?_;unfold VW;obtain⟨e1,h⟩|⟨e1,h⟩:=aA h
 ·cases h;refine ah ?_;exact q1 _ _ rfl aI au
 ·obtain⟨p3,e2,h⟩:=aj h;refine ah ?_;refine av (YZ e2) ?_;obtain⟨e4,h⟩|⟨e4,h⟩:=aA h
  ·cases h;refine ah ?_;exact q0 _ _ rfl aI
  ·cases h;refine ah ?_;exact q1 _ _ rfl aI au
def uM:Nat->(List (List Nd))->(List Nd)->Int->Option (Unit⊕Bool)
 |0,_,_,_=>none
 |k+1,gB,jq,dn=>
  cond (decide (dn<(gB.length:Int))) (if 0<=dn then (gB[dn.toNat]?).bind fun x14=>(FN k x14).bind fun Gi=>cond Gi (uM k gB jq (IntKind.wrap .i64 (dn+1))) (some (.inr (false)))else none) (some (.inl ()))
def OA:List Nat:=[2,3]++List.range' 14 14
theorem ahh: ∀(k:Nat) (kM:Nat) (gB:List (List Nd)) (jq:List Nd) (dn:Int) (aB σ:Nat->PV) (H:AH) (f0:Fr OA aB σ) (sl:σ 1=(.ref (kM) 0)/\σ 3=(.int .i64 dn)/\H.obj kM=some [(.ak (gB.map (eu Nd.cells)) .unk),(.ak (jq.map Nd.cells) .unk)]) (kg:kM<H.next) (o:Unit⊕Bool) (h:uM k gB jq dn=some o) (Q:Post) (q0: ∀(p:Unit) (σ':Nat->PV),o= .inl p->Fr OA aB σ'->Q (.exit 0) σ' H) (q1: ∀(p:Bool) (σ':Nat->PV),o= .inr (p)->Fr OA aB σ'->(σ' 2=(.bool p))->Q .ret σ' H),W Tryz.prog (.loop VX) Q σ H:=by
 intro k
 induction k with
 |zero=>intro kM gB jq dn aB σ H f0 sl kg o h Q q0 q1;simp only [uM,reduceCtorEq]at h
 |succ k ih=>
  intro kM gB jq dn aB σ H f0 sl kg o h Q q0 q1;obtain⟨s1,s3,XK⟩:=sl;have XL:=ne_next kg;have XM:=aZ kg;unfold uM at h;refine aW (fun K hK=>aC ?_);unfold VX;obtain⟨e12,h⟩|⟨e12,h⟩:=aA h
  ·obtain⟨e13,h⟩:=aU h;obtain⟨x14,e15,h⟩:=aj h;obtain⟨Gi,e16,h⟩:=aj h;refine ah ?_;refine av (YZ e16) ?_;obtain⟨e18,h⟩|⟨e18,h⟩:=aA h
   ·refine ah ?_;refine hK _ _ ?_;exact ih kM gB jq (IntKind.wrap .i64 (dn+1)) _ _ _ aI au bP _ h _ q0 q1
   ·cases h;refine ah ?_;exact q1 _ _ rfl aI au
  ·cases h;refine ah ?_;exact q0 _ _ rfl aI
def I9 (k:Nat) (s_0:Sq):Option Bool:=
 Option.bind (zB k s_0.hyps s_0.goal) (fun o=>Sum.elim (fun p7=>Option.bind (uM k s_0.hyps s_0.goal 0) (fun o=>Sum.elim (fun qB=>some true) (fun p25=>some p25) o)) (fun p30=>some p30) o)
theorem aql {k:Nat} {s_0:Sq} {r:Bool} (h:I9 k s_0=some r):aD Tryz.prog 12 [(.agg (Sq.cells s_0))] (.bool r):=by
 refine aD.aO (aX.mem (.cons (.agg _ (Sq.pu _)) .nil)) (aF ari (by simp) (aC ?_)) (.bool _);unfold I9 at h;unfold arh;refine ah ?_;obtain⟨o5,h6,h⟩:=aj h;refine ahg k (AH.empty.next) s_0.hyps s_0.goal _ _ _ (Fr.refl _ _) au bP _ h6 _ ?_ ?_
 ·rintro p7 σ' eo fr8;subst eo;rw [bI]at h;have s11:σ' 1=(.ref (AH.empty.next) 0):=(fr8 1 (by decide)).trans au;refine ah ?_;obtain⟨o19,h20,h⟩:=aj h;refine ahh k (AH.empty.next) s_0.hyps s_0.goal 0 _ _ _ (Fr.refl _ _) au bP _ h20 _ ?_ ?_
  ·rintro qB σ' eo azz;subst eo;rw [bI]at h;cases h;refine ah ?_;exact(.pure _ (.bool _))
  ·rintro p25 σ' eo aGm s29;subst eo;rw [bL]at h;cases h;refine ah ?_;exact(.pure _ (.bool _))
 ·rintro p30 σ' eo ahi s34;subst eo;rw [bL]at h;cases h;refine ah ?_;exact(.pure _ (.bool _))
end Go.VL
end
section
namespace Go.VL
open Tm
structure Gd (e:List Nd):Prop where
 few:qO e=true
 val:Valid e
 t0:Ev (fun k=>xB k e) 0
 r0:Ev (fun k=>IB k e) 0
open Classical in
noncomputable def LB (e:List Nd):List Nd:=if h: ∃c,Ev (fun k=>uW k e) c/\Ev (fun k=>kG k e) c/\c.length=e.length/\pO c then h.choose else e
theorem O8 {e:List Nd} (h:Gd e):Ev (fun k=>uW k e) (LB e)/\Ev (fun k=>kG k e) (LB e)/\(LB e).length=e.length/\pO (LB e):=by
 have hL:=Lu h.few;have hF:=alx h.few h.val;obtain⟨t,l,e1,e2,e3,e4,e5,e6⟩:=alL hL hF h.val
 have hx: ∃c,Ev (fun k=>uW k e) c/\Ev (fun k=>kG k e) c/\c.length=e.length/\pO c:=
  ⟨_,e5,e6,by
   conv=>rhs;rw [e1]
   rw [dw,dw,uL],alK e1 e2 hF hL⟩
 unfold LB;rw [dif_pos hx];exact hx.choose_spec
noncomputable def Cy (a b:List Nd):Bool:=decide (LB a=LB b)
theorem ahj {a b:List Nd} (ha:Gd a) (hb:Gd b):Ev (fun k=>FL k a b) (Cy a b,0):=by
 obtain⟨a1,a2,a3,a4⟩:=O8 ha;obtain⟨b1,b2,b3,b4⟩:=O8 hb;have hs:=ajG (LB a) (LB b) a4.len (fun n hn=>by
  obtain⟨i,hi⟩:=List.mem_iff_getElem?.1 hn;have:=a4.nd i n hi;exact this.2)
 unfold FL;exact Ev.bind ha.t0 (Ev.bind hb.t0 (Ev.bind (FJ _ (by simp)) (Ev.cF (by simp [Kw]) (Ev.bind a1 (Ev.bind b1 (Ev.bind hs Ev.some))))))
theorem ahk {a b:List Nd} (ha:Gd a) (hb:Gd b):Ev (fun k=>FM k a b) (Cy a b):=by
 unfold FM;exact Ev.bind (ahj ha hb) Ev.some
theorem ajL {a b:List Nd} (ha:Gd a) (hb:Gd b):Ev (fun k=>Oy k a b) (Cy a b):=by
 obtain⟨a1,a2,a3,a4⟩:=O8 ha;obtain⟨b1,b2,b3,b4⟩:=O8 hb;unfold Oy;by_cases h:a.length=b.length
 · exact Ev.cT (by simp [h]) (Ev.bind a2 (Ev.bind b2 (Ev.bind (ZE a4) Ev.some)))
 · refine Ev.cF (by simp;omega) (Ev.some' ?_);unfold Cy;exact(decide_eq_false fun e=>h (by rw [<-a3,<-b3,e])).symm
theorem ahl {l:List (List Nd)} {e:List Nd} (hl: ∀x∈l,Gd x) (he:Gd e) (hn:l.length<=1099511627776):Ev (fun k=>KF k l e) (l.any fun x=>Cy x e):=by
 have key: ∃r:Int,Ev (fun k=>mG k l e) r/\decide (r>=0)=l.any fun x=>Cy x e:=by
  have key2: ∃o:Unit⊕Int,Ev (fun k=>fD k l e (l.length:Int) ((0:Nat):Int)) o/\((∃u,o= .inl u)/\(l.drop 0).any (fun x=>Cy x e)=false\/ ∃j:Int,0<=j/\o= .inr j/\(l.drop 0).any (fun x=>Cy x e)=true):=by
   refine jM (len:=l.length) (p:=fun i=> ∃o:Unit⊕Int,Ev (fun k=>fD k l e (l.length:Int) (i:Int)) o/\((∃u,o= .inl u)/\(l.drop i).any (fun x=>Cy x e)=false\/ ∃j:Int,0<=j/\o= .inr j/\(l.drop i).any (fun x=>Cy x e)=true)) ?_ fun i hi ih=> ?_
   · refine⟨.inl (),Ev.succ ?_,.inl ⟨⟨_,rfl⟩,by simp⟩⟩;simp only [fD];exact Ev.cF (iT _) Ev.some
   · have ha:Ev (fun k=>Ea k l[i] e) (Cy l[i] e):=by
      unfold Ea;exact Ev.bind (ahk (hl _ (List.getElem_mem hi)) he) Ev.some
     cases hc:Cy l[i] e with
     |true=>
      refine⟨.inr (i:Int),Ev.succ ?_,.inr ⟨i,by omega,rfl,by rw [drop_cons hi,List.any_cons,hc,Bool.true_or]⟩⟩;simp only [fD,Int.toNat_natCast,bG hi,Option.bind_some,nn,if_true,iY hi,cond_true];exact Ev.bind ha (Ev.cT hc Ev.some)
     |false=>
      obtain⟨o,ho,hd⟩:=ih;refine⟨o,Ev.succ ?_,by rw [drop_cons hi,List.any_cons,hc,Bool.false_or];exact hd⟩;simp only [fD,Int.toNat_natCast,bG hi,Option.bind_some,nn,if_true,iY hi,cond_true,dW hi hn];exact Ev.bind ha (Ev.cF hc ho)
  obtain⟨o,ho,h⟩:=key2;rw [List.drop_zero]at h;rcases h with⟨⟨u,rfl⟩,h⟩|⟨i,h0,rfl,h⟩
  · refine⟨-1,?_,by rw [h];rfl⟩;unfold mG;exact Ev.bind ho Ev.some
  · refine⟨i,?_,by rw [h];exact decide_eq_true h0⟩;unfold mG;exact Ev.bind ho Ev.some
 obtain⟨r,hr,he'⟩:=key;unfold KF pX;exact Ev.bind (Ev.bind hr Ev.some) (Ev.some' he')
theorem ahm {l:List (List Nd)} {e:List Nd} (hl: ∀x∈l,Gd x) (he:Gd e) (hn:l.length<=1099511627776):Ev (fun k=>KH k l e) (l.any fun x=>Cy x e):=by
 have key:Ev (fun k=>pY k l e ((0:Nat):Int)) (if(l.drop 0).any (fun x=>Cy x e)=true then .inr true else .inl ()):=by
  refine jM (len:=l.length) (p:=fun i=>Ev (fun k=>pY k l e (i:Int)) (if(l.drop i).any (fun x=>Cy x e)=true then .inr true else .inl ())) ?_ fun i hi ih=> ?_
  · refine Ev.succ ?_;simp only [pY];exact Ev.cF (iT _) (Ev.some' (by simp))
  · refine Ev.succ ?_;simp only [pY,Int.toNat_natCast,bG hi,Option.bind_some,nn,if_true,iY hi,cond_true,dW hi hn];refine Ev.bind (ajL (hl _ (List.getElem_mem hi)) he) ?_;rw [drop_cons hi,List.any_cons];cases hc:Cy l[i] e with
    |true=>exact Ev.cT rfl (Ev.some' (by rw [Bool.true_or,if_pos rfl]))
    |false=>exact Ev.cF rfl (ih.to (by rw [Bool.false_or]))
 rw [List.drop_zero]at key;unfold KH;refine Ev.bind key ?_;cases(l.any fun x=>Cy x e)<;>exact Ev.some
theorem ajM {e:List Nd} (h:qO e=true): ∃c:Int,Ev (fun k=>xJ k e) c/\Ev (fun k=>IB k e) c/\(c=0->Gd e):=by
 obtain⟨c,h1,h2,h3⟩:=errs (Lu h);exact⟨c,h1,h2,fun hc=>⟨h,h3 hc,hc▸h1,hc▸h2⟩⟩
end Go.VL
end
section
namespace Go.VL
theorem LC (e:List Nd):Ev (fun k=>FN k e) (qO e&&(decide (e.length<=30)||decide (160<e.length))):=by
 unfold FN;refine Ev.bind (alv e) ?_;cases qO e with
 |false=>exact Ev.cF rfl (Ev.some' rfl)
 |true=>
  refine Ev.cT rfl ?_;by_cases h:e.length<=30
  · exact Ev.cT (decide_eq_true (by omega)) (Ev.some' (by simp [h]))
  · refine Ev.cF (decide_eq_false (by omega)) (Ev.some' ?_);rw [decide_eq_false h,Bool.true_and,Bool.false_or];exact decide_eq_decide.2 (by omega)
theorem alN (s:Sq): ∃b,Ev (fun k=>I9 k s) b/\(b=true->s.hyps.length<=14/\(∀x∈s.hyps,qO x=true)/\qO s.goal=true):=by
 by_cases hl:14<s.hyps.length
 · refine⟨false,?_,fun h=>by cases h⟩;unfold I9 zB;exact Ev.bind (x:= .inr false) (Ev.cT (decide_eq_true (by omega)) Ev.some) Ev.some
 cases hg:qO s.goal&&(decide (s.goal.length<=30)||decide (160<s.goal.length))with
 |false=>
  refine⟨false,?_,fun h=>by cases h⟩;unfold I9 zB;exact Ev.bind (x:= .inr false) (Ev.cF (decide_eq_false (by omega)) (Ev.bind (LC _) (Ev.cF hg Ev.some))) Ev.some
 |true=>
 have hn:s.hyps.length<=1099511627776:=by omega
 have key:Ev (fun k=>uM k s.hyps s.goal ((0:Nat):Int)) (if(s.hyps.drop 0).all (fun e=>qO e&&(decide (e.length<=30)||decide (160<e.length)))=true then .inl ()else .inr false):=by
  refine jM (len:=s.hyps.length) (p:=fun i=>Ev (fun k=>uM k s.hyps s.goal (i:Int)) (if(s.hyps.drop i).all (fun e=>qO e&&(decide (e.length<=30)||decide (160<e.length)))=true then .inl ()else .inr false)) ?_ fun i hi ih=> ?_
  · refine Ev.succ ?_;simp only [uM];exact Ev.cF (iT _) (Ev.some' (by simp))
  · refine Ev.succ ?_;simp only [uM,Int.toNat_natCast,bG hi,Option.bind_some,nn,if_true,iY hi,cond_true,dW hi hn];refine Ev.bind (LC _) ?_;rw [drop_cons hi,List.all_cons];cases(qO s.hyps[i]&&(decide (s.hyps[i].length<=30)||decide (160<s.hyps[i].length)))with
    |true=>exact Ev.cT rfl (ih.to (by rw [Bool.true_and]))
    |false=>exact Ev.cF rfl (Ev.some' (by rw [Bool.false_and];rfl))
 rw [List.drop_zero]at key;have first:Ev (fun k=>zB k s.hyps s.goal) (.inl ()):=by
  unfold zB;exact Ev.cF (decide_eq_false (by omega)) (Ev.bind (LC _) (Ev.cT hg Ev.some))
 cases ha:s.hyps.all (fun e=>qO e&&(decide (e.length<=30)||decide (160<e.length)))with
 |false=>
  rw [ha]at key;refine⟨false,?_,fun h=>by cases h⟩;unfold I9;exact Ev.bind first (Ev.bind key Ev.some)
 |true=>
  rw [ha]at key;refine⟨true,?_,fun _=>⟨by omega,fun x hx=> ?_,?_⟩⟩
  · unfold I9;exact Ev.bind first (Ev.bind key Ev.some)
  · have:=List.all_eq_true.1 ha x hx;exact(Bool.and_eq_true _ _▸this).1
  · exact(Bool.and_eq_true _ _▸hg).1
theorem ZH {l:List (List Nd)} (h: ∀x∈l,qO x=true) (hl:l.length<=1000):Ev (fun k=>Cq k l) l:=by
 have key: ∀acc:List (List Nd),acc.length+(l.drop 0).length<=1000->Ev (fun k=>kN k l acc ((0:Nat):Int)) (acc++l.drop 0):=by
  refine jM (len:=l.length) (p:=fun i=> ∀acc:List (List Nd),acc.length+(l.drop i).length<=1000->Ev (fun k=>kN k l acc (i:Int)) (acc++l.drop i)) ?_ fun i hi ih=> ?_
  · intro acc ha;refine Ev.succ ?_;simp only [kN];exact Ev.cF (iT _) (Ev.some' (by simp))
  · intro acc ha;rw [drop_cons hi]at ha⊢;simp only [List.length_cons]at ha;refine Ev.succ ?_;simp only [kN,Int.toNat_natCast,bG hi,Option.bind_some,nn,if_true,iY hi,cond_true,dW hi (show l.length<=1099511627776 by omega)];refine Ev.bind (Ol (Lu (h _ (List.getElem_mem hi)))) (Ev.lZ (by omega) ((ih (acc++[l[i]]) ?_).to ?_))
    · simp only [List.length_append,List.length_cons,List.length_nil];omega
    · simp
 unfold Cq;exact Ev.bind (key [] (by simpa using hl)) (Ev.some' (by simp))
theorem alO (s:Sq) (hl:s.hyps.length<=14) (hf: ∀x∈s.hyps,qO x=true) (hg:qO s.goal=true): ∃r,Ev (fun k=>lC k s) r/\Ev (fun k=>lD k s) r/\(r.2=0->(∀x∈s.hyps,Gd x)/\Gd s.goal/\s.hyps.length<=12):=by
 by_cases h12:12<s.hyps.length
 · refine⟨(0,2),?_,?_,fun h=>by cases h⟩
   · unfold lC;exact Ev.cT (decide_eq_true (by omega)) Ev.some
   · unfold lD;exact Ev.cT (decide_eq_true (by omega)) Ev.some
 have hn:s.hyps.length<=1099511627776:=by omega
 have key: ∀m i,i+m=s.hyps.length->(∀x∈s.hyps.take i,Gd x)-> ∃o:Unit⊕(Int×Int),Ev (fun k=>gK k s.hyps s.goal s.hyps (s.hyps.length:Int) (i:Int)) o/\Ev (fun k=>gL k s.hyps s.goal (i:Int)) o/\((∃u,o= .inl u)/\(∀x∈s.hyps,Gd x)\/ ∃p:Int×Int,o= .inr p/\p.2≠0):=by
  intro m
  induction m with
  |zero=>
   intro i hi hG;have:i=s.hyps.length:=by omega
   subst this;refine⟨.inl (),Ev.succ ?_,Ev.succ ?_,.inl ⟨⟨_,rfl⟩,by rw [List.take_length]at hG;exact hG⟩⟩
   · simp only [gK];exact Ev.cF (iT _) Ev.some
   · simp only [gL];exact Ev.cF (iT _) Ev.some
  |succ m ih=>
   intro i hi hG;have hlt:i<s.hyps.length:=by omega
   obtain⟨c,c1,c2,c3⟩:=ajM (hf _ (List.getElem_mem hlt));by_cases hc:c=0
   case neg=>
    refine⟨.inr ((i:Int),c),Ev.succ ?_,Ev.succ ?_,.inr ⟨_,rfl,hc⟩⟩
    · simp only [gK,Int.toNat_natCast,bG hlt,Option.bind_some,nn,if_true,iY hlt,cond_true];exact Ev.bind c1 (Ev.cT (by rw [bne_iff_ne];exact hc) Ev.some)
    · simp only [gL,Int.toNat_natCast,bG hlt,Option.bind_some,nn,if_true,iY hlt,cond_true];exact Ev.bind c2 (Ev.cT (by rw [bne_iff_ne];exact hc) Ev.some)
   have hx:=c3 hc;have hne:(c !=0)=false:=by rw [hc];rfl
   have htl:(s.hyps.take i).length<=1099511627776:=by rw [List.length_take];omega
   have a1:=ahl hG hx htl;have a2:=ahm hG hx htl;cases hany:(s.hyps.take i).any fun x=>Cy x s.hyps[i]with
   |true=>
    rw [hany]at a1 a2;refine⟨.inr ((i:Int),12),Ev.succ ?_,Ev.succ ?_,.inr ⟨_,rfl,show(12:Int)≠0 by decide⟩⟩
    · simp only [gK,Int.toNat_natCast,bG hlt,Option.bind_some,nn,if_true,iY hlt,cond_true];exact Ev.bind c1 (Ev.cF hne (Ev.lZ ⟨trivial,by omega⟩ (Ev.bind a1 (Ev.cT rfl Ev.some))))
    · simp only [gL,Int.toNat_natCast,bG hlt,Option.bind_some,nn,if_true,iY hlt,cond_true];exact Ev.bind c2 (Ev.cF hne (Ev.lZ ⟨trivial,by omega⟩ (Ev.bind a2 (Ev.cT rfl Ev.some))))
   |false=>
    rw [hany]at a1 a2;obtain⟨o,o1,o2,o3⟩:=ih (i+1) (by omega) (fun x hx'=>by
     rw [List.take_succ_eq_append_getElem hlt]at hx';rcases List.mem_append.1 hx' with h|h
     · exact hG x h
     · rw [List.mem_singleton.1 h];exact hx)
    refine⟨o,Ev.succ ?_,Ev.succ ?_,o3⟩
    · simp only [gK,Int.toNat_natCast,bG hlt,Option.bind_some,nn,if_true,iY hlt,cond_true,dW hlt hn];exact Ev.bind c1 (Ev.cF hne (Ev.lZ ⟨trivial,by omega⟩ (Ev.bind a1 (Ev.cF rfl o1))))
    · simp only [gL,Int.toNat_natCast,bG hlt,Option.bind_some,nn,if_true,iY hlt,cond_true,dW hlt hn];exact Ev.bind c2 (Ev.cF hne (Ev.lZ ⟨trivial,by omega⟩ (Ev.bind a2 (Ev.cF rfl o2))))
 obtain⟨o,o1,o2,o3⟩:=key s.hyps.length 0 (by omega) (fun x hx=>by simp at hx);have hle:decide ((s.hyps.length:Int)>12)=false:=decide_eq_false (by omega);rcases o3 with⟨⟨u,rfl⟩,hG⟩|⟨p,rfl,hp⟩
 · obtain⟨c,c1,c2,c3⟩:=ajM hg;by_cases hc:c=0
   · refine⟨(0,0),?_,?_,fun _=>⟨hG,c3 hc,by omega⟩⟩
     · unfold lC;exact Ev.cF hle (Ev.bind o1 (Ev.bind c1 (Ev.cF (by rw [hc];rfl) Ev.some)))
     · unfold lD;exact Ev.cF hle (Ev.bind o2 (Ev.bind c2 (Ev.cF (by rw [hc];rfl) Ev.some)))
   · refine⟨((s.hyps.length:Int),c),?_,?_,fun h=>absurd h hc⟩
     · unfold lC;exact Ev.cF hle (Ev.bind o1 (Ev.bind c1 (Ev.cT (by rw [bne_iff_ne];exact hc) Ev.some)))
     · unfold lD;exact Ev.cF hle (Ev.bind o2 (Ev.bind c2 (Ev.cT (by rw [bne_iff_ne];exact hc) Ev.some)))
 · refine⟨p,?_,?_,fun h=>absurd h hp⟩
   · unfold lC;exact Ev.cF hle (Ev.bind o1 (Ev.some' rfl))
   · unfold lD;exact Ev.cF hle (Ev.bind o2 (Ev.some' rfl))
theorem alP (s:Sq) (hl:s.hyps.length<=14) (hf: ∀x∈s.hyps,qO x=true) (hg:qO s.goal=true):Ev (fun k=>Vm k s) s:=by
 unfold Vm;exact Ev.bind (ZH hf (by omega)) (Ev.bind (Ol (Lu hg)) (Ev.some' rfl))
variable [Glob]
def ckz (b:Bool):Ck->Ck
 | .nil=>if b then .unk else .nil
 | .exact=>if b then .unk else .exact
 |_=> .unk
def ow (b:Bool):Nat->AH->PV->PV
 |0,_,_=> .any
 |n+1,H,p=>match p with
  | .ref id off=>match H.obj id with
   |some cs=> .bS (cs.map (ow b n H)) off
   |none=> .any
  | .bS cs off=> .bS (cs.map (ow b n H)) off
  | .ak es c=> .ak (es.map fun cs=>cs.map (ow b n H)) (ckz b c)
  | .bR id off len cap sz=>match H.obj id with
   |some cs=>if len<=cap/\off+len*sz<=cs.length then .ak ((chunks sz len (cs.drop off)).map fun l=>l.map (ow b n H)) .unk else .any
   |none=> .any
  | .agg cs=> .agg (cs.map (ow b n H))
  | .cK cs=> .cK (cs.map (ow b n H))
  | .fn g cs ds=> .fn g (cs.map (ow b n H)) (ds.map (ow b n H))
  | .iface t p=> .iface t (ow b n H p)
  | .any=> .any
  | .bool b=> .bool b
  | .int k x=> .int k x
  | .str s=> .str s
  | .mJ=> .mJ
  | .jH=> .jH
  | .mO=> .mO
theorem Vn {b:Bool} (n:Nat) (H:AH): ∀p,Pu (ow b n H p):=by
 induction n with
 |zero=>exact fun p=> .any
 |succ n ih=>
  intro p;have hl: ∀cs:List PV,∀c∈cs.map (ow b n H),Pu c:=fun cs c h=>by
   obtain⟨d,_,rfl⟩:=List.mem_map.1 h;exact ih d
  have hll: ∀es:List (List PV),∀cs∈es.map (fun cs=>cs.map (ow b n H)),∀c∈cs,Pu c:=fun es cs h=>by
   obtain⟨d,_,rfl⟩:=List.mem_map.1 h;exact hl d
  cases p with
  |ref id off=>simp only [ow];split<;>first|exact .bS _ _ (hl _)|exact .any
  |bS cs off=>exact .bS _ _ (hl _)
  |ak es c=>refine .ak _ _ (hll _) (fun k=> ?_);cases c<;>cases b<;>simp [ckz]
  |bR id off len cap sz=>
   simp only [ow];split
   · split
     · exact .ak _ _ (hll _) (fun k=>by simp)
     · exact .any
   · exact .any
  |agg cs=>exact .agg _ (hl _)
  |cK cs=>exact .cK _ (hl _)
  |fn g cs ds=>exact .fn _ _ _ (hl _) (hl _)
  |iface t p=>exact .iface _ _ (ih p)
  |any=>exact .any
  |bool b=>exact .bool b
  |int k x=>exact .int k x
  |str s=>exact .str s
  |mJ=>exact .mJ
  |jH=>exact .jH
  |mO=>exact .mO
theorem LD {α β:Type} {f:α->β} {l:List α} {j:Nat} {c:α} {c':β} (h:l[j]? =some c) (h':(l.map f)[j]? =some c'):c'=f c:=by
 rw [List.getElem?_map,h]at h';exact(Option.some.inj h').symm
theorem adq {b:Bool} (n:Nat) (H:AH): ∀p,Fz H p (ow b n H p):=by
 induction n with
 |zero=>exact fun p=> .any p
 |succ n ih=>
  intro p;have hl: ∀(cs:List PV) (j:Nat) (c c':PV),cs[j]? =some c->(cs.map (ow b n H))[j]? =some c'->Fz H c c':=fun cs j c c' h h'=>by
   rw [LD h h'];exact ih c
  cases p with
  |ref id off=>
   simp only [ow];split
   · rename_i cs ho;exact .ref _ _ cs _ ho (by simp) (hl cs)
   · exact .any _
  |bS cs off=>exact .bS _ _ _ (by simp) (hl cs)
  |ak es c=>
   refine .ak _ _ _ _ ?_ (by simp) (fun i cs cs' h h'=>by rw [LD h h'];simp) (fun i cs cs' h h' j c c' e e'=> ?_)
   · cases b with
     |true=>cases c<;>exact .inl rfl
     |false=>
      cases c with
      |tok k=>exact .inl rfl
      |nil=>exact .inr ⟨rfl,fun k=>by simp⟩
      |exact=>exact .inr ⟨rfl,fun k=>by simp⟩
      |unk=>exact .inl rfl
   · rw [LD h h']at e';exact hl cs j c c' e e'
  |bR id off len cap sz=>
   simp only [ow];split
   · rename_i cs ho;split
     · rename_i hc;have hch: ∀(i:Nat) (cs':List PV),((chunks sz len (cs.drop off)).map fun l=>l.map (ow b n H))[i]? =some cs'->i<len/\cs'=(((cs.drop off).drop (i*sz)).take sz).map (ow b n H):=by
        intro i cs' h;simp only [chunks,List.getElem?_map,Option.map_eq_some_iff]at h;obtain⟨l,⟨i',h1,rfl⟩,rfl⟩:=h;obtain⟨h2,h3⟩:=List.getElem?_eq_some_iff.1 h1;simp at h2 h3;subst h3;exact⟨h2,rfl⟩
       have hin: ∀i,i<len->i*sz+sz<=len*sz:=fun i hi=>by
        calc i*sz+sz=(i+1)*sz:=by rw [Nat.add_mul,Nat.one_mul]
         _<=len*sz:=Nat.mul_le_mul_right sz hi
       refine .bR id off len cap sz cs _ (fun i j=>(cs[off+i*sz+j]?).getD .any) ho (by simp [chunks]) hc.1 (fun i cs' h=> ?_) (fun i cs' h j c' e=> ?_) (fun i cs' h j c' e=> ?_)
       · obtain⟨h1,rfl⟩:=hch i cs' h;have:=hin i h1;simp only [List.length_map,List.length_take,List.length_drop];omega
       · obtain⟨h1,rfl⟩:=hch i cs' h;have:=hin i h1;have hj:=(List.getElem?_eq_some_iff.1 e).1;simp only [List.length_map,List.length_take,List.length_drop]at hj;have hlt:off+i*sz+j<cs.length:=by omega
         rw [List.getElem?_eq_getElem hlt];rfl
       · obtain⟨h1,rfl⟩:=hch i cs' h;have:=hin i h1;have hj:=(List.getElem?_eq_some_iff.1 e).1;simp only [List.length_map,List.length_take,List.length_drop]at hj;have hlt:off+i*sz+j<cs.length:=by omega
         have hg:(((cs.drop off).drop (i*sz)).take sz)[j]? =some cs[off+i*sz+j]:=by
          rw [List.getElem?_take_of_lt (by omega),List.getElem?_drop,List.getElem?_drop,<-Nat.add_assoc];exact List.getElem?_eq_getElem hlt
         rw [List.getElem?_map,hg]at e;cases e;rw [List.getElem?_eq_getElem hlt];exact ih _
     · exact .any _
   · exact .any _
  |agg cs=>exact .agg _ _ (by simp) (hl cs)
  |cK cs=>exact .cK _ _ (by simp) (hl cs)
  |fn g cs ds=>exact .fn _ _ _ _ _ (by simp) (hl cs) (by simp) (hl ds)
  |iface t p=>exact .iface _ _ _ (ih p)
  |any=>exact .any _
  |bool b=>exact .pure _ (.bool b)
  |int k x=>exact .pure _ (.int k x)
  |str s=>exact .pure _ (.str s)
  |mJ=>exact .pure _ .mJ
  |jH=>exact .pure _ .jH
  |mO=>exact .pure _ .mO
theorem adr {b0:Bool} {G:Gh} {m:Nat}: ∀(n:Nat) {p:PV} {v:Value},V G m p v->V G m (ow b0 n AH.empty p) v:=by
 intro n
 induction n with
 |zero=>exact fun _=> .any _
 |succ n ih=>
  intro p v h;have hl: ∀(cs:List PV) (j:Nat) (c:PV),(cs.map (ow b0 n AH.empty))[j]? =some c-> ∃d,cs[j]? =some d/\c=ow b0 n AH.empty d:=fun cs j c e=>by
   simp only [List.getElem?_map,Option.map_eq_some_iff]at e;obtain⟨d,e1,e2⟩:=e;exact⟨d,e1,e2.symm⟩
  cases h with
  |any v=>exact .any v
  |bool b=>exact .bool b
  |int k x=>exact .int k x
  |str s=>exact .str s
  |mJ=>exact .mJ
  |ref id off b h1 h2=>exact .any _
  |bS cs off b o f h1 h2=>
   exact .bS _ off b o f (fun j c e=>let ⟨d,e1,_⟩:=hl cs j c e;h1 j d e1) (fun j c e=>by obtain⟨d,e1,rfl⟩:=hl cs j c e;exact ih (h2 j d e1))
  |ak es c sz ad cap f h1 h2 h3 h4 h5=>
   have get: ∀(i:Nat) (cs:List PV),(es.map fun cs=>cs.map (ow b0 n AH.empty))[i]? =some cs-> ∃ds,es[i]? =some ds/\cs=ds.map (ow b0 n AH.empty):=fun i cs e=>by
    simp only [List.getElem?_map,Option.map_eq_some_iff]at e;obtain⟨ds,e1,e2⟩:=e;exact⟨ds,e1,e2.symm⟩
   have hlen:(es.map fun cs=>cs.map (ow b0 n AH.empty)).length=es.length:=by simp
   show V G m (.ak (es.map fun cs=>cs.map (ow b0 n AH.empty)) _) (.slice ad es.length cap)
   rw [<-hlen];refine .ak _ _ sz ad cap f (fun i cs e=> ?_) (by rw [hlen];exact h2) (fun hne=> ?_) (fun i cs j d e ed=> ?_) ?_
   · obtain⟨ds,e1,rfl⟩:=get i cs e;rw [List.length_map];exact h1 i ds e1
   · obtain⟨b,o,e1,e2⟩:=h3 (fun e=>hne (by rw [e];rfl));refine⟨b,o,e1,fun i cs e j d ed=> ?_⟩;obtain⟨ds,e3,rfl⟩:=get i cs e;obtain⟨d',e4,rfl⟩:=hl ds j d ed;exact e2 i ds e3 j d' e4
   · obtain⟨ds,e3,rfl⟩:=get i cs e;obtain⟨d',e4,rfl⟩:=hl ds j d ed;exact ih (h4 i ds j d' e3 e4)
   · rw [hlen];cases b0 with
     |true=>cases c<;>trivial
     |false=>
      cases c with
      |nil=>exact h5
      |exact=>exact h5
      |unk=>trivial
      |tok k=>trivial
  |bR id off len cap sz b h1 h2=>exact .any _
  |agg cs vs h1 h2=>exact .agg _ vs (by simpa using h1) (fun j c x e ex=>by obtain⟨d,e1,rfl⟩:=hl cs j c e;exact ih (h2 j d x e1 ex))
  |cK cs vs h1 h2=>exact .cK _ vs (by simpa using h1) (fun j c x e ex=>by obtain⟨d,e1,rfl⟩:=hl cs j c e;exact ih (h2 j d x e1 ex))
  |fn g cs ds vs us h1 h2 h3 h4=>
   exact .fn _ _ _ vs us (by simpa using h1) (fun j c x e ex=>by obtain⟨d,e1,rfl⟩:=hl cs j c e;exact ih (h2 j d x e1 ex)) (by simpa using h3) (fun j c x e ex=>by obtain⟨d,e1,rfl⟩:=hl ds j c e;exact ih (h4 j d x e1 ex))
  |jH=>exact .jH
  |iface t p v h=>exact .iface _ _ _ (ih h)
  |mO=>exact .mO
def Old (H H':AH):Prop:= ∀i cs,H.obj i=some cs->H'.obj i=some cs
theorem Old.refl (H:AH):Old H H:=fun _ _ h=>h
theorem Fz.old {H H':AH} (ho:Old H H') {p q:PV} (h:Fz H p q):Fz H' p q:=by
 induction h with
 |pure p h=>exact .pure p h
 |any p=>exact .any p
 |bS cs cs' off hl _ ih=>exact .bS cs cs' off hl ih
 |ref id off cs cs' h hl _ ih=>exact .ref id off cs cs' (ho _ _ h) hl ih
 |ak es es' c c' hc hl hl' _ ih=>exact .ak es es' c c' hc hl hl' ih
 |bR id off len cap sz cs es' g h hl hcap hl' hg _ ih=>exact .bR id off len cap sz cs es' g (ho _ _ h) hl hcap hl' hg ih
 |agg cs cs' hl _ ih=>exact .agg cs cs' hl ih
 |cK cs cs' hl _ ih=>exact .cK cs cs' hl ih
 |iface t p p' _ ih=>exact .iface t p p' ih
 |fn g cs cs' ds ds' hl _ hm _ ih1 ih2=>exact .fn g cs cs' ds ds' hl ih1 hm ih2
theorem aqm {H H':AH} (ho:Old H H') {k:RK} {σ:Nat->PV} {p:PV} (h:rop k σ H=some p):rop k σ H'=some p:=by
 cases k with
 |load sz agg x=>
  simp only [rop]at h⊢;generalize x.ev σ=q at h;cases q with
  |ref id o=>
   simp only [z8]at h⊢;split at h
   · rename_i cs hc;rw [ho _ _ hc];exact h
   · cases h
  |_=>exact h
 |_=>exact h
def scB:PV->Bool
 | .bool _| .int .. | .str _| .any=>true
 | .cK cs=>cs.all fun c=>match c with| .bool _| .int .. | .str _| .any=>true|_=>false
 |_=>false
theorem auF {p:PV} (h:scB p=true):Sc p:=by
 cases p with
 |bool b=>exact .bool b
 |int k x=>exact .int k x
 |str s=>exact .str s
 |any=>exact .any
 |cK cs=>
  refine .cK cs fun c hc=> ?_;have:=List.all_eq_true.1 h c hc;cases c<;>simp at this
  · exact .any
  · exact .bool _
  · exact .int _ _
  · exact .str _
 |_=>cases h
def XO:Nat->PV->Bool
 |0,_=>false
 |n+1,p=>match p with
  | .ref .. | .bR .. =>true
  | .bS cs _| .agg cs| .cK cs=>cs.any (XO n)
  | .ak es _=>es.any fun cs=>cs.any (XO n)
  | .fn _ cs ds=>cs.any (XO n)||ds.any (XO n)
  | .iface _ p=>XO n p
  |_=>false
section
variable {P:Program} (call:FuncId->List PV->Option PV) (qP:FuncId->Option Nat->Option (Nat×List (List PV)))
def ahn (H:AH) (σ:Nat->PV) (f:AE) (args:List AE):Option PV:=match f.ev σ with
 | .fn (.func g) first caps=>
  if(first++evs σ args++caps).any (XO 12)then(match call g ((first++evs σ args++caps).map (ow false 20 H))with
   |some r=>if scB r then some r else none
   |none=>none)
  else call g ((first++evs σ args++caps).map (ow false 20 AH.empty))
 |_=>none
def xrd (H:AH) (k:AK) (σ:Nat->PV):Option PV:=match k with
 | .r k=>rop k σ H
 | .call f args=>ahn call H σ f args
 | .n (.iR zero parts)=>(jI σ zero parts).map .agg
 | .n (.X4 x)=>match x.ev σ with
  | .str s=>some (.ak (s.map fun b=>[.int .u8 b.toNat]) .unk)
  |_=>none
 |_=>none
def xwr (H0:AH) (k:AK) (σ:Nat->PV) (H:AH):Option (PV×AH):=match k with
 | .d k=>match k with
  | .app .. =>iH k σ H
  | .store sz x v=>match x.ev σ with
   | .ref id o=>if(H0.obj id).isNone then iH k σ H else none
   |_=>none
  | .alloc _| .box .. | .vR .. =>if(H0.obj H.next).isNone then iH k σ H else none
 | .n (.copy sz x y)=>match x.ev σ,rowOf sz H (y.ev σ)with
  | .bR id off len cap s,some fs=>(match H.obj id with
   |some cs=>if s=sz/\pE sz fs/\off+len*sz<=cs.length/\(H0.obj id).isNone=true then some (.int .i64 (min fs.length len:Nat),H.put id (putCells cs off (fs.take len).flatten))else none
   |none=>none)
  |_,_=>none
 | .n (.Ql sz parts)=>if(H0.obj H.next).isNone then(match xQ sz σ parts with
  |some es=>if pE sz es then some (.bR H.next 0 es.length es.length sz,H.new es.flatten)else none
  |none=>none)else none
 |_=>none
def auG (d:Option Nat):AK->Option (Nat×List (List PV))
 | .call (.c (.fn (.func g) [] [])) []=>qP g d
 |_=>none
def xop (H0:AH) (d:Option Nat) (k:AK) (σ:Nat->PV) (H:AH):Option (PV×AH):=match auG qP d k with
 |some (sz,es)=>some (.bR H.next 0 es.length es.length sz,H.new es.flatten)
 |none=>match xrd call H k σ with
  |some p=>some (p,H)
  |none=>xwr H0 k σ H
def LG:List aR->(Nat->PV)->AH->Option ((Nat->PV)×AH)
 |[],σ,H=>some (σ,H)
 |o::l,σ,H=>match o.g with
  |none=>match xop call qP AH.empty o.dst o.k σ H with
   |some (p,H')=>LG l (upd σ o.dst p) H'
   |none=>none
  |some (s,want)=>match σ s with
   | .bool b=>if b=want then(match xop call qP AH.empty o.dst o.k σ H with
    |some (p,H')=>LG l (upd σ o.dst p) H'
    |none=>none)else LG l (upd σ o.dst ud) H
   | .cK []=>LG l (upd σ o.dst ud) H
   |_=>none
def gate (o:aR) (σ:Nat->PV):Option Bool:=match o.g with
 |none=>some true
 |some (s,want)=>match σ s with
  | .bool b=>some (b==want)
  | .cK []=>some false
  |_=>none
def XP (H0:AH):List (aR×Bool)->(Nat->PV)->AH->Option ((Nat->PV)×AH)
 |[],σ,H=>some (σ,H)
 |(o,d)::l,σ,H=>match gate o σ with
   |some true=>if d then(match xwr H0 o.k σ H with
        |some (p,H')=>XP H0 l (upd σ o.dst p) H'
        |none=>none)
    else(match xrd call H0 o.k σ with
        |some p=>XP H0 l (upd σ o.dst p) H
        |none=>none)
   |some false=>XP H0 l (upd σ o.dst ud) H
   |none=>none
def Z0 (body:(Nat->PV)->AH->Option (Ex×(Nat->PV)×AH)):Nat->(Nat->PV)->AH->Option (Ex×(Nat->PV)×AH)
 |0,_,_=>none
 |n+1,σ,H=>match body σ H with
  |some (.normal,σ',H')=>Z0 body n σ' H'
  |r=>r
def exec (n:Nat):AC->(Nat->PV)->AH->Option (Ex×(Nat->PV)×AH)
 | .skip,σ,H=>some (.normal,σ,H)
 | .ops l,σ,H=>match LG call qP l σ H with
  |some (σ',H')=>some (.normal,σ',H')
  |none=>none
 | .par pr post,σ,H=>match XP call H pr σ H with
  |some (σ',H')=>(match LG call qP post σ' H' with
   |some (σ2,H2)=>some (.normal,σ2,H2)
   |none=>none)
  |none=>none
 | .sD ..,_,_=>none
 | .seq a b,σ,H=>match exec n a σ H with
  |some (.normal,σ',H')=>exec n b σ' H'
  |r=>r
 | .cond c a b,σ,H=>match c.ev σ with
  | .bool true=>exec n a σ H
  | .bool false=>exec n b σ H
  |_=>none
 | .block id a,σ,H=>match exec n a σ H with
  |some (.exit i,σ',H')=>if i=id then some (.normal,σ',H')else some (.exit i,σ',H')
  |r=>r
 | .loop a,σ,H=>Z0 (exec n a) n σ H
 | .rf ..,_,_=>none
 | .exit id,σ,H=>some (.exit id,σ,H)
 | .ret,σ,H=>some (.ret,σ,H)
variable {call qP} (hrow: ∀g d sz es,qP g d=some (sz,es)-> ∀H,bA P g [] H fun v H'=>v= .bR H.next 0 es.length es.length sz/\H'=H.new es.flatten) (hcall: ∀f args r,(∀a∈args,Pu a)->call f args=some r->aD P f args r)
include hcall
theorem aes {H0:AH} {σ:Nat->PV} {f:AE} {args:List AE} {r:PV} (h:ahn call H0 σ f args=some r) {H:AH} (ho:Old H0 H):eG P (.call f args) (fun v H'=>v=r/\H'=H) σ H:=by
 unfold ahn at h;simp only [eG];split at h
 · rename_i g first caps hf
   simp only [hf];generalize first++evs σ args++caps=az at h⊢
   split at h
   · split at h
     · rename_i r' hr;split at h
       · rename_i hs;cases h;refine aD.frozen (args:=az) (args':=az.map (ow false 20 H0)) ⟨List.length_map ..,fun j a a' e e'=> ?_⟩ (fun a ha=> ?_) (hcall _ _ _ (fun a ha=> ?_) hr) (auF hs)
         · rw [LD e e'];exact(adq 20 H0 a).old ho
         · obtain⟨d,_,rfl⟩:=List.mem_map.1 ha;exact Vn _ _ _
         · obtain⟨d,_,rfl⟩:=List.mem_map.1 ha;exact Vn _ _ _
       · cases h
     · cases h
   · have hp:=hcall _ _ _ (fun a ha=>by obtain⟨d,_,rfl⟩:=List.mem_map.1 ha;exact Vn _ _ _) h;refine⟨(hp H).enters,fun B G w vs hU hM hv=>(hp H).call B G w vs hU hM ⟨by simpa using hv.1,fun j c x hc hx=> ?_⟩⟩;simp only [List.getElem?_map,Option.map_eq_some_iff]at hc;obtain⟨d,e1,rfl⟩:=hc;exact adr 20 (hv.2 j d x e1 hx)
 · cases h
theorem Y0 {H0:AH} {k:AK} {σ:Nat->PV} {p:PV} (h:xrd call H0 k σ=some p) {H:AH} (ho:Old H0 H):eG P k (fun v H'=>v=p/\H'=H) σ H:=by
 unfold xrd at h;split at h
 · simp [eG,aqm ho h]
 · exact aes hcall h ho
 · simp only [Option.map_eq_some_iff]at h;obtain⟨cs,h1,rfl⟩:=h;simp [eG,nop,h1]
 · split at h
   · rename_i s hs;cases h;simp [eG,nop,hs]
   · cases h
 · cases h
omit hcall
theorem Y1 {H0:AH} {k:AK} {σ:Nat->PV} {H:AH} {p:PV} {H':AH} (h:xwr H0 k σ H=some (p,H')):eG P k (fun v H2=>v=p/\H2=H') σ H/\(Old H0 H->Old H0 H'):=by
 have dd: ∀{k:DK},iH k σ H=some (p,H')->eG P (.d k) (fun v H2=>v=p/\H2=H') σ H:=fun h=>by simp [eG,h]
 have hnew: ∀{cs:List PV},(H0.obj H.next).isNone=true->Old H0 H->Old H0 (H.new cs):=fun{cs} hn ho i ds e=>by
  have:i≠H.next:=fun e'=>by rw [e',Option.isNone_iff_eq_none.1 hn]at e;cases e
  rw [AH.aeL,if_neg this];exact ho i ds e
 have hput: ∀{id:Nat} {cs:List PV},(H0.obj id).isNone=true->Old H0 H->Old H0 (H.put id cs):=fun{id cs} hn ho i ds e=>by
  have:i≠id:=fun e'=>by rw [e',Option.isNone_iff_eq_none.1 hn]at e;cases e
  rw [AH.aeM,if_neg this];exact ho i ds e
 unfold xwr at h;split at h
 · split at h
   · rename_i sz by' x y
     refine⟨dd h,fun ho=> ?_⟩;simp only [iH,KN]at h;split at h
     · split at h
       · cases h;exact ho
       · split at h
         · split at h
           · cases h
           · split at h
             · cases h;exact ho
             · cases h
           · cases h;exact ho
         · cases h
     · cases h
   · rename_i sz x v;split at h
     · rename_i id o hx;split at h
       · rename_i hn;refine⟨dd h,fun ho=> ?_⟩;simp only [iH,hx]at h;split at h
         · rename_i id' o' vs e1 e2;cases e1;split at h
           · split at h
             · cases h;exact hput hn ho
             · cases h
           · cases h
         · cases h
       · cases h
     · cases h
   · split at h
     · rename_i z hn;refine⟨dd h,fun ho=> ?_⟩;simp only [iH]at h;cases h;exact hnew hn ho
     · cases h
   · split at h
     · rename_i sz x hn;refine⟨dd h,fun ho=> ?_⟩;simp only [iH]at h;split at h
       · cases h;exact hnew hn ho
       · cases h
     · cases h
   · split at h
     · rename_i sz b z n c hn;refine⟨dd h,fun ho=> ?_⟩;simp only [iH]at h;split at h
       · split at h
         · cases h;exact hnew hn ho
         · cases h
       · cases h
     · cases h
 · rename_i sz x y;split at h
   · rename_i id off len cap s fs hx hy;split at h
     · rename_i cs hc;split at h
       · rename_i hk;cases h;refine⟨?_,hput hk.2.2.2⟩;simp only [eG,nop,hx,hy,hc];rw [if_pos ⟨hk.1,hk.2.1,hk.2.2.1⟩];simp
       · cases h
     · cases h
   · cases h
 · rename_i sz parts;split at h
   · rename_i hn;split at h
     · rename_i es he;split at h
       · rename_i hk;cases h;refine⟨?_,hnew hn⟩;simp only [eG,nop,he];rw [if_pos hk];simp
       · cases h
     · cases h
   · cases h
 · cases h
include hrow hcall
theorem ajO {H0:AH} {d:Option Nat} {k:AK} {σ:Nat->PV} {H:AH} {p:PV} {H':AH} (h:xop call qP H0 d k σ H=some (p,H')):eG P k (fun v H2=>v=p/\H2=H') σ H:=by
 unfold xop at h;split at h
 · rename_i sz es hx;cases h;unfold auG at hx;split at hx
   · exact hrow _ _ _ _ hx H
   · cases hx
 split at h
 · rename_i q hq;cases h;exact Y0 hcall hq (Old.refl H)
 · exact(Y1 h).1
theorem Cr {K:(Nat->PV)->AH->Prop}: ∀(l:List aR) (σ:Nat->PV) (H:AH) (σ':Nat->PV) (H':AH),LG call qP l σ H=some (σ',H')->K σ' H'->dH P l K σ H
 |[],σ,H,σ',H',h,hk=>by cases h;exact hk
 |o::l,σ,H,σ',H',h,hk=>by
  simp only [LG]at h;simp only [dH];have one: ∀{x:Option ((Nat->PV)×AH)},(match xop call qP AH.empty o.dst o.k σ H with|some (p,H')=>LG call qP l (upd σ o.dst p) H'|none=>none)=some (σ',H')->eG P o.k (fun p H'=>dH P l K (upd σ o.dst p) H') σ H:=by
   intro _ h;split at h
   · rename_i p H2 hp;refine mW ?_ (ajO hrow hcall hp);rintro v H3 ⟨rfl,rfl⟩;exact Cr l _ _ _ _ h hk
   · cases h
  split at h
  · rename_i hg;simp only [hg];exact one (x:=none) h
  · rename_i s want hg;simp only [hg];split at h
    · rename_i b hb;simp only [hb];split at h
      · rename_i hw;rw [if_pos hw];exact one (x:=none) h
      · rename_i hw;rw [if_neg hw];exact Cr l _ _ _ _ h hk
    · rename_i hb;simp only [hb];exact Cr l _ _ _ _ h hk
    · cases h
theorem Fb {H0:AH} {K:(Nat->PV)->AH->Prop}: ∀(l:List (aR×Bool)) (σ:Nat->PV) (H:AH) (σ':Nat->PV) (H':AH),XP call H0 l σ H=some (σ',H')->Old H0 H->K σ' H'->iI P (Old H0) l K σ H
 |[],σ,H,σ',H',h,ho,hk=>by cases h;exact hk
 |(o,d)::l,σ,H,σ',H',h,ho,hk=>by
   simp only [XP]at h;simp only [iI];split at h
   · rename_i hg;refine .inr ⟨?_,?_⟩
     · unfold gate at hg;unfold nJ;split at hg
       · rename_i e;simp only [e]
       · rename_i s want e;simp only [e];split at hg
         · rename_i b hb;rw [hb];simp only [Option.some.injEq,beq_iff_eq]at hg;rw [hg]
         · cases hg
         · cases hg
     · split at h
       · rename_i hd;subst hd;split at h
         · rename_i p H2 hp;obtain⟨h1,h2⟩:=Y1 (P:=P) hp;exact⟨p,H2,h1,h2 ho,Fb l _ _ _ _ h (h2 ho) hk⟩
         · cases h
       · rename_i hd;have hd:d=false:=by simpa using hd
         subst hd;split at h
         · rename_i p hp;exact⟨p,fun H2 h2=>Y0 hcall hp h2,Fb l _ _ _ _ h ho hk⟩
         · cases h
   · rename_i hg;refine .inl ⟨?_,Fb l _ _ _ _ h ho hk⟩;unfold gate at hg;unfold qI;split at hg
     · cases hg
     · rename_i s want e;simp only [e];split at hg
       · rename_i b hb;rw [hb];simp only [Option.some.injEq]at hg;refine .inl ?_;cases b<;>cases want<;>simp_all
       · rename_i hb;exact .inr hb
       · cases hg
   · cases h
theorem Qh {a:AC} {Q:Post} {body:(Nat->PV)->AH->Option (Ex×(Nat->PV)×AH)} (hb: ∀(Q:Post) σ H e σ' H',body σ H=some (e,σ',H')->Q e σ' H'->W P a Q σ H):
 ∀(n:Nat) σ H e σ' H',Z0 body n σ H=some (e,σ',H')->Q e σ' H'->W P (.loop a) Q σ H
 |0,σ,H,e,σ',H',h,hq=>by cases h
 |n+1,σ,H,e,σ',H',h,hq=>by
  simp only [Z0]at h;refine ah1 ?_;split at h
  · rename_i σ2 H2 h2;exact hb _ _ _ _ _ _ h2 (Qh hb n _ _ _ _ _ h hq)
  · rename_i hno;refine hb _ _ _ _ _ _ h ?_;cases e with
    |normal=>exact(hno _ _ h).elim
    |exit i=>exact hq
    |ret=>exact hq
theorem nI (n:Nat): ∀(c:AC) (Q:Post) σ H e σ' H',exec call qP n c σ H=some (e,σ',H')->Q e σ' H'->W P c Q σ H
 | .skip,Q,σ,H,e,σ',H',h,hq=>by cases h;exact hq
 | .ops l,Q,σ,H,e,σ',H',h,hq=>by
  simp only [exec]at h;split at h
  · rename_i σ2 H2 h2;cases h;exact Cr hrow hcall l _ _ _ _ h2 hq
  · cases h
 | .par pr post,Q,σ,H,e,σ',H',h,hq=>by
  simp only [exec]at h;split at h
  · rename_i σ2 H2 h2;split at h
    · rename_i σ3 H3 h3;cases h;exact⟨Old H,Old.refl H,Fb hrow hcall pr _ _ _ _ h2 (Old.refl H) (Cr hrow hcall post _ _ _ _ h3 hq)⟩
    · cases h
  · cases h
 | .sD ..,Q,σ,H,e,σ',H',h,hq=>by cases h
 | .seq a b,Q,σ,H,e,σ',H',h,hq=>by
  simp only [exec]at h;simp only [W];split at h
  · rename_i σ2 H2 h2;exact nI n a _ _ _ _ _ _ h2 (nI n b _ _ _ _ _ _ h hq)
  · rename_i hno;refine nI n a _ _ _ _ _ _ h ?_;cases e with
    |normal=>exact(hno _ _ h).elim
    |exit i=>exact hq
    |ret=>exact hq
 | .cond c a b,Q,σ,H,e,σ',H',h,hq=>by
  simp only [exec]at h;simp only [W];split at h
  · rename_i hc;simp only [hc];exact⟨fun _=>nI n a _ _ _ _ _ _ h hq,fun e=>by cases e⟩
  · rename_i hc;simp only [hc];exact⟨fun e=>(by cases e),fun _=>nI n b _ _ _ _ _ _ h hq⟩
  · cases h
 | .block id a,Q,σ,H,e,σ',H',h,hq=>by
  simp only [exec]at h;simp only [W];split at h
  · rename_i i σ2 H2 h2;refine nI n a _ _ _ _ _ _ h2 ?_;simp only [M6];split at h
    · rename_i hi;rw [if_pos hi];cases h;exact hq
    · rename_i hi;rw [if_neg hi];cases h;exact hq
  · rename_i hno;refine nI n a _ _ _ _ _ _ h ?_;cases e with
    |normal=>exact hq
    |exit i=>exact(hno _ _ _ h).elim
    |ret=>exact hq
 | .loop a,Q,σ,H,e,σ',H',h,hq=>Qh hrow hcall (fun Q σ H e σ' H' h hq=>nI n a Q σ H e σ' H' h hq) n σ H e σ' H' h hq
 | .rf ..,Q,σ,H,e,σ',H',h,hq=>by cases h
 | .exit id,Q,σ,H,e,σ',H',h,hq=>by cases h;exact hq
 | .ret,Q,σ,H,e,σ',H',h,hq=>by cases h;exact hq
end
def codeOf (P:Program) (f:FuncId):Option (Nat×List RV×AC):=match P.funcs[f]? with
 |some fn=>match fn.body with
  |some c=>if fn.name== "runtime.NumGoroutine" then none else match comp P false fn.ntmps (fun _=>false) c,FY P fn.results.toList with
   |some ac,some rs=>some (fn.ntmps,rs,ac)
   |_,_=>none
  |none=>none
 |none=>none
theorem ajP {P:Program} (CF:P.follows .mixedOrders=true) {f:FuncId} {k:Nat} {rs:List RV} {ac:AC} (h:codeOf P f=some (k,rs,ac)):aY P (fun _=>false) false f k rs ac:=by
 unfold codeOf at h;split at h
 · rename_i fn hfn;split at h
   · rename_i c hc;split at h
     · cases h
     · rename_i hn;split at h
       · rename_i ac' rs' h1 h2;cases h;exact⟨CF,fn,c,hfn,hc,by simpa using hn,rfl,h1,h2⟩
       · cases h
   · cases h
 · cases h
def Vo (P:Program) (known:FuncId->List PV->Option PV) (qP:FuncId->Option Nat->Option (Nat×List (List PV))):Nat->FuncId->List PV->Option PV
 |0,_,_=>none
 |n+1,f,args=>match known f args with
  |some r=>some r
  |none=>match codeOf P f with
   |some (k,rs,ac)=>if args.length<=k then(match exec (Vo P known qP n) qP 4000 ac (LW args) AH.empty with
    |some (.exit _,_,_)=>none
    |some (_,σ,H)=>(match CG σ H rs with
     |some ps=>some (ow false 20 H (packed ps))
     |none=>none)
    |none=>none)else none
   |none=>none
theorem JG {P:Program} {qP:FuncId->Option Nat->Option (Nat×List (List PV))} (hrow: ∀g d sz es,qP g d=some (sz,es)-> ∀H,bA P g [] H fun v H'=>v= .bR H.next 0 es.length es.length sz/\H'=H.new es.flatten) (CF:P.follows .mixedOrders=true) {known:FuncId->List PV->Option PV} (hk: ∀f args r,(∀a∈args,Pu a)->known f args=some r->aD P f args r):
 ∀(n:Nat) (f:FuncId) (args:List PV) (r:PV),(∀a∈args,Pu a)->Vo P known qP n f args=some r->aD P f args r
 |0,f,args,r,ha,h=>by cases h
 |n+1,f,args,r,ha,h=>by
  simp only [Vo]at h;split at h
  · rename_i r' hr;cases h;exact hk f args _ ha hr
  · split at h
    · rename_i k rs ac hc;split at h
      · rename_i hl;have run: ∀e σ H,exec (Vo P known qP n) qP 4000 ac (LW args) AH.empty=some (e,σ,H)->(match CG σ H rs with|some ps=>some (ow false 20 H (packed ps))|none=>none)=some r->(∀i,e≠ .exit i)->aD P f args r:=by
         intro e σ H he hr hne;split at hr
         · rename_i ps hps;cases hr;refine aD.aO ha (aF (ajP CF hc) hl (nI hrow (JG hrow CF hk n) 4000 ac _ _ _ _ _ _ he ?_)) (Vn _ _ _);cases e with
           |exit i=>exact(hne i rfl).elim
           |normal=>simp only [Jg,hps];exact adq _ _ _
           |ret=>simp only [Jg,hps];exact adq _ _ _
         · cases hr
        split at h
        · cases h
        · rename_i e σ H hno he;refine run e σ H he h fun i hi=> ?_;subst hi;exact hno _ rfl
        · cases h
      · cases h
    · cases h
def aho (P:Program) (f:FuncId):Option (Nat×List RV×AC):=match P.funcs[f]? with
 |some fn=>match fn.body with
  |some c=>if fn.name== "runtime.NumGoroutine" then none else match comp P true fn.ntmps (fun _=>false) c,FY P fn.results.toList with
   |some ac,some rs=>some (fn.ntmps,rs,ac)
   |_,_=>none
  |none=>none
 |none=>none
theorem alQ {P:Program} (CF:P.follows .mixedOrders=true) {f:FuncId} {k:Nat} {rs:List RV} {ac:AC} (h:aho P f=some (k,rs,ac)):aY P (fun _=>false) true f k rs ac:=by
 unfold aho at h;split at h
 · rename_i fn hfn;split at h
   · rename_i c hc;split at h
     · cases h
     · rename_i hn;split at h
       · rename_i ac' rs' h1 h2;cases h;exact⟨CF,fn,c,hfn,hc,by simpa using hn,rfl,h1,h2⟩
       · cases h
   · cases h
 · cases h
def ahp (P:Program) (call:FuncId->List PV->Option PV) (f:FuncId) (H:AH):Option (PV×AH):=match aho P f with
 |some (_,rs,ac)=>match exec call (fun _ _=>none) 4000 ac (LW []) H with
  |some (.exit _,_,_)=>none
  |some (_,σ,H')=>(CG σ H' rs).map fun ps=>(packed ps,H')
  |none=>none
 |none=>none
theorem aeu {P:Program} (CF:P.follows .mixedOrders=true) {call:FuncId->List PV->Option PV} (hcall: ∀f args r,(∀a∈args,Pu a)->call f args=some r->aD P f args r) {f:FuncId} {H H2:AH} {v:PV} (h:ahp P call f H=some (v,H2)):bA P f [] H fun q H'=>q=v/\H'=H2:=by
 unfold ahp at h;split at h
 · rename_i k rs ac hc;have run: ∀e σ H',exec call (fun _ _=>none) 4000 ac (LW []) H=some (e,σ,H')->(CG σ H' rs).map (fun ps=>(packed ps,H'))=some (v,H2)->(∀i,e≠ .exit i)->bA P f [] H fun q H'=>q=v/\H'=H2:=by
    intro e σ H' he hr hne;rw [Option.map_eq_some_iff]at hr;obtain⟨ps,hps,hq⟩:=hr;cases hq;refine aF (alQ CF hc) (by simp) (nI (fun g d sz es h=>by cases h) hcall 4000 ac _ _ _ _ _ _ he ?_);cases e with
    |exit i=>exact(hne i rfl).elim
    |normal=>simp [Jg,hps]
    |ret=>simp [Jg,hps]
   split at h
   · cases h
   · rename_i e σ H' hno he;exact run e σ H' he h fun i hi=>by subst hi;exact hno _ rfl
   · cases h
 · cases h
theorem aD.weak {P:Program} {f:FuncId} {args:List PV} {r:PV} (h:aD P f (args.map (ow true 20 AH.empty)) r):aD P f args r:=fun H=>
 ⟨(h H).enters,fun B G w vs hU hM hv=>(h H).call B G w vs hU hM ⟨by simpa using hv.1,fun j c x hc hx=>by
   simp only [List.getElem?_map,Option.map_eq_some_iff]at hc;obtain⟨d,e1,rfl⟩:=hc;exact adr 20 (hv.2 j d x e1 hx)⟩⟩
def LH {α β:Type} (f:α->Option β):List α->Option (List β)
 |[]=>some []
 |x::l=>match f x,LH f l with
  |some y,some r=>some (y::r)
  |_,_=>none
theorem zC {α β:Type} {f:α->Option β} {g:β->α} (hf: ∀x y,f x=some y->x=g y): ∀{l:List α} {m:List β},LH f l=some m->l=m.map g
 |[],m,h=>by cases h;rfl
 |x::l,m,h=>by
  simp only [LH]at h;split at h
  · rename_i y r hy hr;cases h;rw [hf x y hy,zC hf hr];rfl
  · cases h
def ahq:List PV->Option Str
 |[.str s]=>some s
 |_=>none
def ahr:List PV->Option Int
 |[.int .i64 n]=>some n
 |_=>none
def dNd:List PV->Option Nd
 |[.int .i64 k,.int .i64 n,.str t,.ak ns .unk,.ak is' .unk]=>match LH ahq ns,LH ahr is' with
  |some a,some b=>some ⟨k,n,t,a,b⟩
  |_,_=>none
 |_=>none
def dEx:PV->Option (List Nd)
 | .ak es .unk=>LH dNd es
 |_=>none
theorem afz (x:List PV) (y:Str) (h:ahq x=some y):x=aH y:=by
 unfold ahq at h;split at h
 · cases h;rfl
 · cases h
theorem afA (x:List PV) (y:Int) (h:ahr x=some y):x=aS y:=by
 unfold ahr at h;split at h
 · cases h;rfl
 · cases h
theorem auI (x:List PV) (y:Nd) (h:dNd x=some y):x=y.cells:=by
 unfold dNd at h;split at h
 · split at h
   · rename_i a b ha hb;cases h;rw [zC afz ha,zC afA hb];rfl
   · cases h
 · cases h
theorem OB {p:PV} {e:List Nd} (h:dEx p=some e):p=fT e:=by
 unfold dEx at h;split at h
 · rw [zC auI h]
 · cases h
end Go.VL
end
section
set_option maxRecDepth 100000
namespace Go.VL.Kp
open Go.Proofs Go.VL
def dc (n:Nat):Bool:=([107,202,1000000]:List Nat).contains n
def aoI:AC:=(sO [oR 2 (.aV (.c (.ak [] .nil)))] (.seq (sO [oM 3 0,oR 4 (.bin .eql .sl (.t 3) (.c (.ak [] .nil)))] (m6 4 (sO [oR 2 (.aV (.c (.ak [] .nil)))] .ret) .skip)) (sO [oR 5 (.d9 1 []),oM 6 0,⟨(some 7),(.n (.app 1 24 (.t 5) (.t 6))),none⟩,oM 2 7] .ret)))
theorem axq:aY Tryz.prog dc true 107 8 [(.tmp 2)] aoI:=bf Tryz.func107
def Tq:AC:=(sO [p1 40 .lss 39 38] (.seq (z1 40) (.seq (.block 1 (sO [oM 41 39,oX 42 1 37 39,oL 43 1 42,⟨(some 9),(.d (.alloc [(.ak [] .nil)])),none⟩,oM 8 41,oS 1 9 43] (sO [oF 44 0 7,oL 45 1 44,oR 46 (.Jb (.func 203) [] [(.t 9)]),oC 47 161 [(.t 45),(.t 46)],oM 10 47] (.seq (sO [oM 48 10,j0 49 .lss 48 0] (m6 49 (sO [oF 50 1 7,oL 51 1 50,oN 52 51,oM 10 52] (.sD [0,1,0,4,15,0,32,0,255,127,1023,2047,4095] [(oF 53 0 7,false),(oL 54 1 53,false),(oL 55 1 9,false),(oR 56 (.d9 1 [(.t 55)]),false),(⟨(some 57),(.n (.app 1 24 (.t 54) (.t 56))),none⟩,true),(oF 58 1 7,false),(oL 59 1 58,false),(oR 60 (.d9 1 [(d5 0)]),false),(⟨(some 61),(.n (.app 1 8 (.t 59) (.t 60))),none⟩,true),(oF 62 0 7,false)] [oS 1 62 57,oF 63 1 7,oS 1 63 61])) .skip)) (.par [(oF 64 1 7,false),(oL 65 1 64,false),(oM 66 10,false),(oX 67 1 65 66,false),(oL 68 1 67,false),(oM 69 2,false),(oF 70 1 4,false),(oL 71 1 70,false),(oM 72 8,false),(oX 73 1 71 72,false),(oL 74 1 73,false),(p1 75 .mul 69 74,false)] [p1 76 .add 68 75,oX 77 1 65 66,oS 1 77 76]))))) (i6 78 39))))
def Tt:AC:=(sO [p1 88 .lss 87 86] (.seq (m6 88 .skip (.exit 2)) (.seq (.block 3 (sO [oX 89 1 85 87,oL 90 1 89,oM 12 90] (.ops [oF 91 3 7,oL 92 1 91,oM 93 92,bJ 94 12 93 false,iW 95 78 [(.t 94),(d5 (-1000000000)),(d5 1000000000)] 93 false,dh 96 (.not (.t 95)) 93 false,y6 97 93 96,oF 98 3 7,oS 1 98 97]))) (i6 99 87))))
def aoJ:AC:=(sO [c6 3 4 0,c6 4 4 1,⟨(some 6),(.d (.alloc [(.ak [] .nil),(.ak [] .nil),(.int .i64 0),(.bool false)])),none⟩] (.seq (.sD [0,1,3,0,8,31,0,64,0,0,512,1792,4032,0,8192,24639,57407,122943,254015,524287,0,2097151] [(oF 13 0 3,false),(oL 14 1 13,false),(u5 15 107 14,true),(oF 16 1 3,false),(oL 17 1 16,false),(u5 18 202 17,true),(oF 19 2 3,false),(oL 20 1 19,false),(oM 21 2,false),(oF 22 2 4,false),(oL 23 1 22,false),(p1 24 .mul 21 23,false),(p1 25 .add 20 24,false),(oF 26 3 3,false),(oL 27 1 26,false),(oM 28 27,false),(eH 29 3 4 28 false,false),(dK 30 1 29 28 false,false),(y6 31 28 30,false),(oR 32 (.build [(.ak [] .nil),(.ak [] .nil),(.int .i64 0),(.bool false)] [(0,(1,(.t 15))),(1,(1,(.t 18))),(2,(1,(.t 25))),(3,(1,(.t 31)))]),false),(⟨(some 7),(.d (.alloc [(.ak [] .nil),(.ak [] .nil),(.int .i64 0),(.bool false)])),none⟩,true)] [oS 4 7 32]) (.seq (sO [oF 33 3 7,oL 34 1 33] (m6 34 (sO [oA 35 4 7,oS 4 6 35] .ret) .skip)) (.seq (sO [oF 36 0 4,oL 37 1 36,oN 38 37,oI 39 0] (.block 0 (.loop Tq))) (.seq (.seq (.sD [0,1,3,0,8,24,63,127,0] [(oF 79 1 7,false),(oL 80 1 79,false),(u5 81 202 80,true),(oF 82 2 7,false),(oL 83 1 82,false),(oR 84 (.d9 1 [(.t 83)]),false),(⟨(some 85),(.n (.app 1 8 (.t 81) (.t 84))),none⟩,true),(oN 86 85,false),(oI 87 0,false)] []) (.block 2 (.loop Tt))) (sO [oA 100 4 7,oS 4 6 100] .ret))))))
theorem axr:aY Tryz.prog dc true 144 101 [(.cell 6 4 true)] aoJ:=bf Tryz.func144
def ahs:AC:=(sO [oR 2 (.aV (.c (.ak [] .nil)))] (.seq (sO [oM 3 0,oR 4 (.bin .eql .sl (.t 3) (.c (.ak [] .nil)))] (m6 4 (sO [oR 2 (.aV (.c (.ak [] .nil)))] .ret) .skip)) (sO [oR 5 (.d9 1 []),oM 6 0,⟨(some 7),(.n (.app 1 8 (.t 5) (.t 6))),none⟩,oM 2 7] .ret)))
theorem aoK:aY Tryz.prog dc true 202 8 [(.tmp 2)] ahs:=bf Tryz.func202
end Go.VL.Kp
end
section
namespace Go.VL
variable [Glob]
section
variable {P:Program} {σ:Nat->PV}
def JH (P:Program) (H:AH) (o:aR) (v:PV) (σ:Nat->PV):Prop:=match o.g with
 |none=>eG P o.k (fun r fQ=>r=v/\fQ=H) σ H
 |some (s,want)=>match σ s with
  | .bool b=>if b=want then eG P o.k (fun r fQ=>r=v/\fQ=H) σ H else v=ud
  |_=>False
def Fe (P:Program) (H:AH) (skip:Nat->Bool):Nat->List (aR×Bool)->(Nat->PV)->(Nat->PV)->Prop
 |_,[],_,_=>True
 |n,(o,d)::l,val,σ=>(d=true\/skip n=true\/JH P H o (val 0) σ)/\Fe P H skip (n+1) l (fun i=>val (i+1)) (upd σ o.dst (val 0))
theorem JH.or {H:AH} {o:aR} {v:PV} (h:JH P H o v σ):(qI o σ/\v=ud)\/(nJ o σ/\eG P o.k (fun r fQ=>r=v/\fQ=H) σ H):=by
 unfold JH at h;unfold qI nJ;split at h
 · rename_i e;rw [e];exact .inr ⟨trivial,h⟩
 · rename_i s want e;rw [e];split at h
   · rename_i b hb;split at h
     · rename_i hw;subst hw;exact .inr ⟨hb,h⟩
     · rename_i hw;refine .inl ⟨.inl ?_,h⟩;rw [hb];cases b<;>cases want<;>simp_all
   · exact h.elim
theorem Fe.at {H:AH} {skip:Nat->Bool}: ∀{pr:List (aR×Bool)} {n:Nat} {val σ:Nat->PV} (h:Fe P H skip n pr val σ) (i:Nat) (o:aR),pr[i]? =some (o,false)->skip (n+i)=false->JH P H o (val i) (cO pr val σ i)
 |(o,d)::l,n,val,σ,h,0,o',e,hk=>by
   cases e;rcases h.1 with h1|h1|h1
   · cases h1
   · rw [Nat.add_zero,h1]at hk;cases hk
   · exact h1
 |(o,d)::l,n,val,σ,h,i+1,o',e,hk=>Fe.at (pr:=l) h.2 i o' e (by rw [Nat.add_assoc,Nat.add_comm 1 i];exact hk)
def Fg (ms rs rem:List Nat) (i:Nat):Bool:=rem.any (fun s=>eO ms s i)||rs.any fun s=> !rem.contains s&&eO ms i s
theorem alR {ms:List Nat} {pr:List (aR×Bool)} {K:(Nat->PV)->AH->Prop} (rs:List Nat) (hrs:vY pr=rs) (gu:(Nat->PV)->Nat->PV) (Inv:List Nat->(Nat->PV)->AH->Prop)
 (hval: ∀r j,j∈rs->gu r j=r j)
 (dep: ∀r r' i,(∀s∈rs,(eO ms s i=true\/s=i)->r s=r' s)->gu r i=gu r' i)
 (pure: ∀rem r H,Inv rem r H->Fe P H (Fg ms rs rem) 0 pr (gu r) σ)
 (step: ∀rem r H j o,Inv rem r H->j∈rem->pr[j]? =some (o,true)->(∀s∈rem,eO ms s j=false\/s=j)->
  nJ o (cO pr (gu r) σ j)/\eG P o.k (fun p H'=> ∃r',r' j=p/\(∀s,s≠j->r' s=r s)/\Inv (rem.filter (·!=j)) r' H') (cO pr (gu r) σ j) H)
 (fin: ∀r H,Inv [] r H->K (cO pr (gu r) σ pr.length) H): ∀(n:Nat) (rem:List Nat) (r:Nat->PV) (H:AH),rem.length<=n->(∀j∈rem,j∈rs)->Inv rem r H->vX P ms pr K σ n rem (gu r) H:=by
 have hp: ∀rem r H,Inv rem r H-> ∀(i:Nat) (o:aR),pr[i]? =some (o,false)->(∀s∈rem,eO ms s i=false)->(∀(s:Nat) (o':aR),pr[s]? =some (o',true)->s∉rem->eO ms i s=false)->
  (qI o (cO pr (gu r) σ i)/\gu r i=ud)\/(nJ o (cO pr (gu r) σ i)/\eG P o.k (fun q fQ=>q=gu r i/\fQ=H) (cO pr (gu r) σ i) H):=by
  intro rem r H h i o e h1 h2;refine((pure rem r H h).at i o e ?_).or;rw [Nat.zero_add];cases hk:Fg ms rs rem i with
  |false=>rfl
  |true=>
   unfold Fg at hk;rw [Bool.or_eq_true,List.any_eq_true,List.any_eq_true]at hk;rcases hk with⟨s,hs,hb⟩|⟨s,hs,hb⟩
   · rw [h1 s hs]at hb;cases hb
   · rw [Bool.and_eq_true]at hb;obtain⟨o',e'⟩:=(Ie s).1 (hrs▸hs);rw [h2 s o' e' (by have:=hb.1;simpa using this)]at hb;cases hb.2
 intro n
 induction n with
 |zero=>
  intro rem r H hn hm h;obtain rfl:rem=[]:=List.length_eq_zero_iff.1 (by omega);unfold vX;exact⟨hp _ _ _ h,fun _=>fin _ _ h,rfl⟩
 |succ n ih=>
  intro rem r H hn hm h;unfold vX;refine⟨hp _ _ _ h,fun e=>fin _ _ (e▸h),fun j hj o e hb=> ?_⟩;obtain⟨h1,h2⟩:=step rem r H j o h hj e hb;refine⟨h1,mW (fun p H' ⟨r',g1,g2,g3⟩=>⟨gu r',fun i hi hbi=>dep _ _ _ fun s hs hsi=> ?_,?_,ih _ _ _ ?_ (fun k hk=>hm k (List.mem_filter.1 hk).1) g3⟩) h2⟩
  · by_cases hsj:s=j
    · subst hsj;rcases hsi with h|h
      · rw [hbi s hj]at h;cases h
      · exact absurd (h▸hj) hi
    · exact g2 s hsj
  · rw [hval _ _ (hm j hj)];exact g1
  have:(rem.filter (·!=j)).length<rem.length:=by
   rw [List.length_filter_lt_length_iff_exists];exact⟨j,hj,by simp⟩
  omega
theorem O9 {ms:List Nat} {pr:List (aR×Bool)} {post:List aR} {s:List Fm} {Q:Post} {H:AH} (rs:List Nat) (hrs:vY pr=rs) (gu:(Nat->PV)->Nat->PV) (Inv:List Nat->(Nat->PV)->AH->Prop)
 (hval: ∀r j,j∈rs->gu r j=r j)
 (dep: ∀r r' i,(∀s∈rs,(eO ms s i=true\/s=i)->r s=r' s)->gu r i=gu r' i)
 (start: ∃r,Inv rs r H)
 (pure: ∀rem r H,Inv rem r H->Fe P H (Fg ms rs rem) 0 pr (gu r) σ)
 (step: ∀rem r H j o,Inv rem r H->j∈rem->pr[j]? =some (o,true)->(∀s∈rem,eO ms s j=false\/s=j)->
  nJ o (cO pr (gu r) σ j)/\eG P o.k (fun p H'=> ∃r',r' j=p/\(∀s,s≠j->r' s=r s)/\Inv (rem.filter (·!=j)) r' H') (cO pr (gu r) σ j) H)
 (fin: ∀r H,Inv [] r H->WO P post s Q (cO pr (gu r) σ pr.length) H):WS P (.sD ms pr post) s Q σ H:=by
 obtain⟨r,hr⟩:=start;exact VU ⟨gu r,by rw [hrs];exact alR rs hrs gu Inv hval dep pure step fin _ _ _ _ (Nat.le_refl _) (fun _ h=>h) hr⟩
theorem Al.G {H:AH} {skip skip':Nat->Bool} (hs: ∀i,skip i=true->skip' i=true): ∀{pr:List (aR×Bool)} {n:Nat} {val σ:Nat->PV},Al P H skip n pr val σ->Fe P H skip' n pr val σ
 |[],_,_,_,_=>trivial
 |(o,d)::l,n,val,σ,h=>⟨by
  rcases h.1 with h1|h1|⟨h1,h2⟩
  · exact .inl h1
  · exact .inr (.inl (hs _ h1))
  · refine .inr (.inr ?_);unfold JH;rw [h1];exact h2,Al.G hs h.2⟩
def Hg (a b:Nat) (vals:List PV) (x y:PV) (i:Nat):PV:=if i=a then x else if i=b then y else(vals[i]?).getD ud
theorem alS {ms:List Nat} {pr:List (aR×Bool)} {post:List aR} {s:List Fm} {Q:Post} {H:AH} (a b:Nat) (z:List PV) (vals:List PV) {da db:Option Nat} (hrs:vY pr=[a,b]) (hab:a≠b)
 (pra:pr[a]? =some (⟨da,.d (.alloc z),none⟩,true)) (prb:pr[b]? =some (⟨db,.d (.alloc z),none⟩,true))
 (pure: ∀x y H',(H'=H\/H'=H.new z\/H'=(H.new z).new z)->Al P H' (fun _=>false) 0 pr (Hg a b vals x y) σ)
 (fin: ∀x y,(x=H.next/\y=H.next+1\/x=H.next+1/\y=H.next)->WO P post s Q (cO pr (Hg a b vals (.ref x 0) (.ref y 0)) σ pr.length) ((H.new z).new z)):WS P (.sD ms pr post) s Q σ H:=by
 have fa:[a,b].filter (·!=a)=[b]:=by simp [Ne.symm hab]
 have fb:[a,b].filter (·!=b)=[a]:=by simp [hab]
 refine O9 [a,b] hrs (fun r=>Hg a b vals (r a) (r b)) (fun rem r H'=>(rem=[a,b]/\H'=H)\/(rem=[b]/\r a= .ref H.next 0/\H'=H.new z)\/(rem=[a]/\r b= .ref H.next 0/\H'=H.new z)\/
  (rem=[]/\H'=(H.new z).new z/\((r a= .ref H.next 0/\r b= .ref (H.next+1) 0)\/(r a= .ref (H.next+1) 0/\r b= .ref H.next 0)))) (fun r j hj=> ?_) (fun r r' i h=> ?_) ⟨fun _=>ud,.inl ⟨rfl,rfl⟩⟩ ?_ ?_ ?_
 · rcases(show j=a\/j=b by simpa using hj)with rfl|rfl
   · simp [Hg]
   · simp [Hg,Ne.symm hab]
 · simp only [Hg];by_cases h1:i=a
   · rw [if_pos h1,if_pos h1];exact h a (by simp) (.inr h1.symm)
   · rw [if_neg h1,if_neg h1];by_cases h2:i=b
     · rw [if_pos h2,if_pos h2];exact h b (by simp) (.inr h2.symm)
     · rw [if_neg h2,if_neg h2]
 · rintro rem r H' (⟨rfl,rfl⟩|⟨rfl,h1,rfl⟩|⟨rfl,h1,rfl⟩|⟨rfl,rfl,h1⟩)
   · exact(pure _ _ _ (.inl rfl)).G (fun _ h=>by cases h)
   · exact(pure _ _ _ (.inr (.inl rfl))).G (fun _ h=>by cases h)
   · exact(pure _ _ _ (.inr (.inl rfl))).G (fun _ h=>by cases h)
   · exact(pure _ _ _ (.inr (.inr rfl))).G (fun _ h=>by cases h)
 · rintro rem r H' j o (⟨rfl,rfl⟩|⟨rfl,h1,rfl⟩|⟨rfl,h1,rfl⟩|⟨rfl,rfl,h1⟩) hj ho hb
   · rcases(show j=a\/j=b by simpa using hj)with rfl|rfl
     · rw [pra]at ho;cases ho;exact⟨trivial,fun s=>if s=j then .ref H'.next 0 else r s,if_pos rfl,fun s hs=>if_neg hs,.inr (.inl ⟨fa,if_pos rfl,rfl⟩)⟩
     · rw [prb]at ho;cases ho;exact⟨trivial,fun s=>if s=j then .ref H'.next 0 else r s,if_pos rfl,fun s hs=>if_neg hs,.inr (.inr (.inl ⟨fb,if_pos rfl,rfl⟩))⟩
   · obtain rfl:j=b:=by simpa using hj
     rw [prb]at ho;cases ho;exact⟨trivial,fun s=>if s=j then .ref (H.next+1) 0 else r s,if_pos rfl,fun s hs=>if_neg hs,.inr (.inr (.inr ⟨by simp,rfl,.inl ⟨(if_neg hab).trans h1,if_pos rfl⟩⟩))⟩
   · obtain rfl:j=a:=by simpa using hj
     rw [pra]at ho;cases ho;exact⟨trivial,fun s=>if s=j then .ref (H.next+1) 0 else r s,if_pos rfl,fun s hs=>if_neg hs,.inr (.inr (.inr ⟨by simp,rfl,.inr ⟨if_pos rfl,(if_neg (Ne.symm hab)).trans h1⟩⟩))⟩
   · cases hj
 · rintro r H' (⟨h,_⟩|⟨h,_⟩|⟨h,_⟩|⟨_,rfl,h1⟩)
   · cases h
   · cases h
   · cases h
   · rcases h1 with⟨h1,h2⟩|⟨h1,h2⟩
     · show WO P post s Q (cO pr (Hg a b vals (r a) (r b)) σ pr.length) _
       rw [h1,h2];exact fin _ _ (.inl ⟨rfl,rfl⟩)
     · show WO P post s Q (cO pr (Hg a b vals (r a) (r b)) σ pr.length) _
       rw [h1,h2];exact fin _ _ (.inr ⟨rfl,rfl⟩)
theorem adt {ms:List Nat} {pr:List (aR×Bool)} {post:List aR} {s:List Fm} {Q:Post} {H:AH} (a b:Nat) (z:List PV) (vals:List PV) {da db:Option Nat} (hrs:vY pr=[a,b]) (hab:a≠b)
 (pra:pr[a]? =some (⟨da,.d (.alloc z),none⟩,true)) (prb:pr[b]? =some (⟨db,.d (.alloc z),none⟩,true))
 (pure: ∀x y H',(H'=H\/H'=H.new z\/H'=(H.new z).new z)->Al P H' (fun _=>false) 0 pr (Hg a b vals x y) σ)
 (fin: ∀x y H',HF [] H H'->H.next<=x->x<H'.next->H.next<=y->y<H'.next->x≠y->H'.obj x=some z->H'.obj y=some z->(∀c,bq H c->bq H' c)->WO P post s Q (cO pr (Hg a b vals (.ref x 0) (.ref y 0)) σ pr.length) H'):WS P (.sD ms pr post) s Q σ H:=by
 refine alS a b z vals hrs hab pra prb pure fun x y h=> ?_;have n2:((H.new z).new z).next=H.next+2:=rfl;have o0:((H.new z).new z).obj H.next=some z:=by
  show(if H.next=H.next+1 then _ else if H.next=H.next then some z else _)=_
  rw [if_neg (by omega),if_pos rfl]
 have o1:((H.new z).new z).obj (H.next+1)=some z:=by
  show(if H.next+1=H.next+1 then some z else _)=_
  rw [if_pos rfl]
 refine fin x y _ (HF.new (HF.new (HF.refl _ _))) (by omega) (by omega) (by omega) (by omega) (by omega) ?_ ?_ (fun c hc=>hc.new.new)
 · rcases h with⟨rfl,rfl⟩|⟨rfl,rfl⟩<;>assumption
 · rcases h with⟨rfl,rfl⟩|⟨rfl,rfl⟩<;>assumption
theorem FP (a b:Nat) (vals:List PV) (x y:PV) (i:Nat):Hg a b vals x y i=if i=a then x else if i=b then y else(vals[i]?).getD ud:=rfl
theorem OC {fs cs az:List PV} {g:FuncId} {es:List AE} {H:AH} {r q:PV} (h:aD P g az r) (ha:fs++evs σ es++cs=az:=by first|(simp -implicitDefEqProofs only [go_sem,FP,reduceIte,Option.getD_some, *];done)|(simp -implicitDefEqProofs only [go_sem,FP,reduceIte,Option.getD_some, *];rfl)) (hr:r=q:=by simp -implicitDefEqProofs only [go_sem,FP,reduceIte,Option.getD_some, *]):eG P (.call (.c (.fn (.func g) fs cs)) es) (fun p fQ=>p=q/\fQ=H) σ H:=by
 show bA P g (fs++evs σ es++cs) H _
 rw [ha,<-hr];exact h H
theorem zY {A:Prop} (h:A:=by simp -implicitDefEqProofs only [eG,go_sem,FP,Nat.reduceAdd,Nat.reduceEqDiff,reduceIte,List.getElem?_cons_succ,List.getElem?_cons_zero,Option.getD_some,and_self, *]):A:=h
end
end Go.VL
end
section
namespace Go.VL
open Go.Proofs
def nz {α:Type} (l:List α):Ck:=if l.isEmpty then .nil else .unk
theorem auJ {α:Type}:nz ([]:List α)= .nil:=rfl
theorem XQ {α:Type} (x:α) (l:List α):nz (x::l)= .unk:=rfl
theorem LJ {α:Type} {f:α->List PV} (hf: ∀x,∀c∈f x,Pu c) (l:List α):Pu (.ak (l.map f) (nz l)):=by
 cases l with
 |nil=>exact aT (f:=f) hf []|>fun _=> .ak _ _ (fun cs h=>by cases h) (fun k=>by simp [nz])
 |cons x l=>exact aT hf _
structure Fo where
 us:List (List Nd)
 cs:List Int
 num:Int
 bad:Bool
deriving DecidableEq
def Fo.cells (x:Fo):List PV:=[(.ak (x.us.map (eu Nd.cells)) (nz x.us)),(.ak (x.cs.map aS) (nz x.cs)),(.int .i64 x.num),(.bool x.bad)]
theorem Fo.jC (x:Fo):x.cells=[(.ak (x.us.map (eu Nd.cells)) (nz x.us)),(.ak (x.cs.map aS) (nz x.cs)),(.int .i64 x.num),(.bool x.bad)]:=rfl
theorem Fo.pu (x:Fo): ∀c∈x.cells,Pu c:=aX.mem (.cons (LJ (jA Nd.pu) _) (.cons (LJ dF _) (.cons (.int _ _) (.cons (.bool _) .nil))))
attribute [go_sem] Fo.jC auJ XQ
theorem kH {H:AH} {p q:PV} (h:Fz H p q:=by first|exact .pure _ (LJ (jA Nd.pu) _)|exact .pure _ (LJ dF _)|exact .pure _ (.ak _ _ (fun cs h=>by cases h) (fun k=>by simp))|exact dS (jA Nd.pu) [_] _|exact dS dF [_] _):Fz H p q:=h
def Rz {α:Type} (H:AH) (f:α->List PV) (l:List α) (v:PV) (ids:List Nat):Prop:=aJ H f 1 l v ids/\(l=[]->v= .ak [] .nil)
theorem Rz.fz {α:Type} {H:AH} {f:α->List PV} {l:List α} {v:PV} {ids:List Nat} (hp: ∀x,∀c∈f x,Pu c) [hr:mX f 1] (h:Rz H f l v ids):Fz H v (.ak (l.map f) (nz l)):=by
 cases l with
 |nil=>rw [h.2 rfl];exact .pure _ (.ak _ _ (fun cs h=>by cases h) (fun k=>by simp))
 |cons x l=>exact h.1.fz hp
def MkZ {α:Type} (f:α->List PV) (xs:List α) (H:AH) (v:PV) (H':AH):Prop:= ∃ids,Rz H' f xs v ids/\Nw H [] ids/\HF [] H H'/\ ∀c,bq H c->bq H' c
theorem aht (l:List (List Nd)) (hl:l.length<=1000000) (H:AH):bA Tryz.prog 107 [.ak (l.map (eu Nd.cells)) (nz l)] H (MkZ (eu Nd.cells) l H):=by
 refine aF Kp.axq (by simp) (aC ?_);unfold Kp.aoI;cases l with
 |nil=>
  simp -implicitDefEqProofs only [go_sem,List.map_nil];exact⟨[],⟨aJ.nil,fun _=>rfl⟩,(fun _ h=>by cases h),HF.refl _ _,fun _ h=>h⟩
 |cons x l=>
  have h1: ¬((x::l).map (eu Nd.cells)).length=0:=by simp
  rw [XQ];simp -implicitDefEqProofs only [go_sem,h1,if_true,ne_eq,not_false_eq_true,Nat.succ_ne_zero,Nat.add_eq_zero_iff,and_false];refine K7 (f:=eu Nd.cells) (fun x=>T9 x) (x::l) .unk aP aP (by simp) (by simp only [List.length_cons]at hl⊢;omega) (fun v' gZ H' g1 g2 g3 g4=> ?_);simp -implicitDefEqProofs only [go_sem];exact⟨gZ,⟨g1,fun h=>by cases h⟩,g2,g3,g4⟩
theorem Vp (l:List Int) (hl:l.length<=1000000) (H:AH):bA Tryz.prog 202 [.ak (l.map aS) (nz l)] H (MkZ aS l H):=by
 refine aF Kp.aoK (by simp) (aC ?_);unfold Kp.ahs;cases l with
 |nil=>
  simp -implicitDefEqProofs only [go_sem,List.map_nil];exact⟨[],⟨aJ.nil,fun _=>rfl⟩,(fun _ h=>by cases h),HF.refl _ _,fun _ h=>h⟩
 |cons x l=>
  have h1: ¬((x::l).map aS).length=0:=by simp
  rw [XQ];simp -implicitDefEqProofs only [go_sem,h1,if_true,ne_eq,not_false_eq_true,Nat.succ_ne_zero,Nat.add_eq_zero_iff,and_false];refine K7 (f:=aS) uZ (x::l) .unk aP aP (by simp) (by simp only [List.length_cons]at hl⊢;omega) (fun v' gZ H' g1 g2 g3 g4=> ?_);simp -implicitDefEqProofs only [go_sem];exact⟨gZ,⟨g1,fun h=>by cases h⟩,g2,g3,g4⟩
section
variable {P:Program} {σ:Nat->PV} {H:AH} {α:Type} {f:α->List PV} {sz:Nat} {v:PV} {ids:List Nat}
theorem OD {b:Nat} {x y:AE} [hr:mX f sz] (hf: ∀x,kT sz (f x)) (xs ys:List α) (c2:Ck)
 (hx:x.ev σ=v) (hrow:aJ H f sz xs v ids) (hy:y.ev σ= .ak (ys.map f) c2) (hs:0<ys.length) (hb:(xs.length+ys.length)*b<=1099511627776):
 eG P (.n (.app sz b x y)) (fun v' H'=> ∃gZ,aJ H' f sz (xs++ys) v' gZ/\Nw H ids gZ/\HF ids H H'/\ ∀c3,bq H c3->bq H' c3) σ H:=
 Ik (P:=P) (s:=[]) (Q:=fun e σ' H'=> ∃gZ,aJ H' f sz (xs++ys) (σ' 0) gZ/\Nw H ids gZ/\HF ids H H'/\ ∀c3,bq H c3->bq H' c3) (d:=some 0) (l:=[]) hf xs ys c2 hx hrow hy hs hb (fun v' gZ H' a b c d=>⟨gZ,a,b,c,d⟩)
end
section
variable {P:Program} {Q:Post} {σ:Nat->PV} {s:List Fm} {α:Type} {H:AH} {f:α->List PV} {sz:Nat}
theorem aJ.rowOf {l:List α} {v:PV} {ids:List Nat} [hr:mX f sz] (h:aJ H f sz l v ids):rowOf sz H v=some (l.map f):=by
 rcases h with⟨rfl,rfl,rfl⟩|⟨id,cap,junk,rfl,rfl,h2,h3,h4,h5⟩
 · rfl
 · have hfl:=lJ (f:=f) hr.len l;simp only [VL.rowOf,h4];rw [if_pos ⟨trivial,by rw [List.length_append,hfl];omega⟩,List.drop_zero];have:=wu (sz:=sz) (l.map f) junk (fun cs hcs=>by obtain⟨x,_,rfl⟩:=List.mem_map.1 hcs;exact hr.len x);rw [List.length_map]at this;rw [this]
theorem ajQ {d:Option Nat} {b:Nat} {x y:AE} {l:List aR} [hr:mX f sz] (hf: ∀x,kT sz (f x)) (ys:List α)
 (hx:x.ev σ= .ak [] .exact) (hy:rowOf sz H (y.ev σ)=some (ys.map f)) (hs:0<ys.length) (hb:ys.length*b<=1099511627776)
 (h: ∀(v':PV) (gZ:List Nat) (H':AH),aJ H' f sz ys v' gZ->Nw H [] gZ->HF [] H H'->(∀c3,bq H c3->bq H' c3)->WO P l s Q (upd σ d v') H'):
 WO P (⟨d,.n (.app sz b x y),none⟩::l) s Q σ H:=by
 show dH P _ _ σ H
 rw [FZ];have h0: ¬((ys.map f).length=0):=by rw [List.length_map];omega
 have hx':rowOf sz H (.ak [] .exact)=some []:=rfl;simp only [nop,hx,vS,hy,hx'];rw [if_neg h0];split
 · intro cap hcap;simp only [List.length_map,List.length_nil,Nat.zero_add,List.nil_append]at hcap⊢;refine h _ [H.next] _ (.inr ⟨H.next,cap,List.replicate ((cap -ys.length)*sz) .any,rfl,rfl,hcap,Nat.lt_succ_self _,?_,by rw [List.length_replicate]⟩) (fun i hi=> .inr (by rw [List.mem_singleton.1 hi];exact Nat.le_refl _)) (HF.new (HF.refl _ _)) (fun c3 k=>k.new);show(if H.next=H.next then some _ else _)=_;rw [if_pos rfl]
 · rename_i hno;exact(hno ⟨oD hf ([]:List α),oD hf ys,by simpa using hb⟩).elim
end
theorem ahu (l:List Int) (hl:l.length<=1000000) {v:PV} {ids:List Nat} {H:AH} (h:Rz H aS l v ids):bA Tryz.prog 202 [v] H (MkZ aS l H):=by
 cases l with
 |nil=>rw [h.2 rfl];exact Vp [] (by simp) H
 |cons x l=>
  have hro:=h.1.rowOf;rcases h.1 with⟨_,h,_⟩|⟨id,cap,junk,rfl,rfl,h2,h3,h4,h5⟩
  · cases h
  refine aF Kp.aoK (by simp) (aC ?_);unfold Kp.ahs;simp -implicitDefEqProofs only [go_sem];refine ajQ (f:=aS) uZ (x::l) aP hro (by simp) (by simp only [List.length_cons]at hl⊢;omega) (fun v' gZ H' g1 g2 g3 g4=> ?_);simp -implicitDefEqProofs only [go_sem];exact⟨gZ,⟨g1,fun h=>by cases h⟩,g2,g3,g4⟩
end Go.VL
end
section
set_option maxHeartbeats 4000000
namespace Go.VL
open Go.Proofs
def Tv (k:Nat) (Uu:List Nd) (t_1:List Nd):Option Bool:=
 (FM k Uu t_1).bind fun p2=>some p2
theorem ahv {k:Nat} {Uu:List Nd} {t_1:List Nd} {c0:Ck} {r:Bool} (h:Tv k Uu t_1=some r):aD Tryz.prog 203 [(.ak (Uu.map Nd.cells) c0),(.bS [(.ak (t_1.map Nd.cells) .unk)] 0)] (.bool r):=by
 refine aD.lw (.ak (.same .nil)) (aD.aO (aX.mem (.cons (aT Nd.pu _) (.cons (.bS _ _ (aX.mem (.cons (aT Nd.pu _) .nil))) .nil))) (aF av6 (by simp) (aC ?_)) (.bool _));unfold Tv at h;unfold amY;obtain⟨p2,e1,h⟩:=aj h;refine ah ?_;refine av (YX e1) ?_;cases h;refine ah ?_;exact(.pure _ (.bool _))
def mo:Nat->(List (List Nd))->(List Nd)->Int->Int->Option (Unit⊕Int)
 |0,_,_,_,_=>none
 |k+1,s_0,dV,dX,dB=>
  cond (decide (dB<dX)) (if 0<=dB then (s_0[dB.toNat]?).bind fun x3=>(Tv k x3 dV).bind fun p6=>cond p6 (some (.inr (dB))) (mo k s_0 dV dX (IntKind.wrap .i64 (dB+1)))else none) (some (.inl ()))
def tq:List Nat:=[4,5]++List.range' 8 11
theorem JI: ∀(k:Nat) (s_0:List (List Nd)) (dV:List Nd) (dX:Int) (dB:Int) (aB σ:Nat->PV) (H:AH) (f0:Fr tq aB σ) (sl:σ 0=(.ak (s_0.map (eu Nd.cells)) .unk)/\σ 1=(.fn (.func 203) [] [(.bS [(.ak (dV.map Nd.cells) .unk)] 0)])/\σ 7=(.int .i64 dX)/\σ 8=(.int .i64 dB)) (o:Unit⊕Int) (h:mo k s_0 dV dX dB=some o) (Q:Post) (q0: ∀(p:Unit) (σ':Nat->PV),o= .inl p->Fr tq aB σ'->Q (.exit 0) σ' H) (q1: ∀(p:Int) (σ':Nat->PV),o= .inr (p)->Fr tq aB σ'->(σ' 4=(.int .i64 p))->Q .ret σ' H),W Tryz.prog (.loop F6) Q σ H:=by
 intro k
 induction k with
 |zero=>intro s_0 dV dX dB aB σ H f0 sl o h Q q0 q1;simp only [mo,reduceCtorEq]at h
 |succ k ih=>
  intro s_0 dV dX dB aB σ H f0 sl o h Q q0 q1;obtain⟨s0,s1,s7,s8⟩:=sl;unfold mo at h;refine aW (fun K hK=>aC ?_);unfold F6;obtain⟨e1,h⟩|⟨e1,h⟩:=aA h
  ·obtain⟨e2,h⟩:=aU h;obtain⟨x3,e4,h⟩:=aj h;obtain⟨p6,e5,h⟩:=aj h;refine ah ?_;refine av (ahv e5) ?_;obtain⟨e7,h⟩|⟨e7,h⟩:=aA h
   ·cases h;refine ah ?_;exact q1 _ _ rfl aI au
   ·refine ah ?_;refine hK _ _ ?_;exact ih s_0 dV dX (IntKind.wrap .i64 (dB+1)) _ _ _ aI au _ h _ q0 q1
  ·cases h;refine ah ?_;exact q0 _ _ rfl aI
def yH (k:Nat) (s_0:List (List Nd)) (dV:List Nd):Option Int:=
 Option.bind (mo k s_0 dV (s_0.length:Int) 0) (fun o=>Sum.elim (fun iM=>some (-1)) (fun iQ=>some iQ) o)
theorem MI {k:Nat} {s_0:List (List Nd)} {dV:List Nd} {c0:Ck} {r:Int} (h:yH k s_0 dV=some r):aD Tryz.prog 161 [(.ak (s_0.map (eu Nd.cells)) c0),(.fn (.func 203) [] [(.bS [(.ak (dV.map Nd.cells) .unk)] 0)])] (.int .i64 r):=by
 refine aD.lw (.ak (.same .nil)) (aD.aO (aX.mem (.cons (aT (jA Nd.pu) _) (.cons (.fn _ _ _ (aX.mem .nil) (aX.mem (.cons (.bS _ _ (aX.mem (.cons (aT Nd.pu _) .nil))) .nil))) .nil))) (aF amC (by simp) (aC ?_)) (.int _ _));unfold yH at h;unfold agb;refine ah ?_;obtain⟨o8,h9,h⟩:=aj h;refine JI k s_0 dV (s_0.length:Int) 0 _ _ _ (Fr.refl _ _) au _ h9 _ ?_ ?_
 ·rintro iM σ' eo CP;subst eo;rw [bI]at h;cases h;refine ah ?_;exact(.pure _ (.int _ _))
 ·rintro iQ σ' eo sI iX;subst eo;rw [bL]at h;cases h;refine ah ?_;exact(.pure _ (.int _ _))
def k_in (bg:Int) (ahw:Int) (ahx:Int):Option Bool:=
 cond (decide (bg>=ahw)) (some (decide (bg<=ahx))) (some false)
theorem adu {bg:Int} {ahw:Int} {ahx:Int} {r:Bool} (h:k_in bg ahw ahx=some r):aD Tryz.prog 78 [(.int .i64 bg),(.int .i64 ahw),(.int .i64 ahx)] (.bool r):=by
 refine aD.aO (aX.mem (.cons (.int _ _) (.cons (.int _ _) (.cons (.int _ _) .nil)))) (aF azp (by simp) (aC ?_)) (.bool _);unfold k_in at h;unfold arP;obtain⟨e1,h⟩|⟨e1,h⟩:=aA h
 ·cases h;refine ah ?_;exact(.pure _ (.bool _))
 ·cases h;refine ah ?_;exact(.pure _ (.bool _))
abbrev Mw:List PV:=[(.ak [] .nil),(.ak [] .nil),(.int .i64 0),(.bool false)]
def Tw (f g:Fo) (t:Int) (o3 o4:Nat) (r:Nat->PV):Nat->PV
 |0=> .ref o3 0
 |1=> .ak (f.us.map (eu Nd.cells)) (nz f.us)
 |2=>r 2
 |3=> .ref o3 1
 |4=> .ak (f.cs.map aS) (nz f.cs)
 |5=>r 5
 |6=> .ref o3 2
 |7=> .int .i64 f.num
 |8=> .int .i64 t
 |9=> .ref o4 2
 |10=> .int .i64 g.num
 |11=> .int .i64 (IntKind.wrap .i64 (t*g.num))
 |12=> .int .i64 (IntKind.wrap .i64 (f.num+IntKind.wrap .i64 (t*g.num)))
 |13=> .ref o3 3
 |14=> .bool f.bad
 |15=> .bool f.bad
 |16=>if f.bad then ud else .ref o4 3
 |17=>if f.bad then ud else .bool g.bad
 |18=> .bool (f.bad||g.bad)
 |19=> .agg [r 2,r 5,.int .i64 (IntKind.wrap .i64 (f.num+IntKind.wrap .i64 (t*g.num))),.bool (f.bad||g.bad)]
 |20=>r 20
 |_=>ud
structure PlI (f:Fo) (H:AH) (rem:List Nat) (r:Nat->PV) (H':AH):Prop where
 hf:HF [] H H'
 ok: ∀c,bq H c->bq H' c
 sub: ∀j∈rem,j=2\/j=5\/j=20
 ex: ∃(iU iB:List Nat) (o7:Nat),(2∉rem->Rz H' (eu Nd.cells) f.us (r 2) iU/\Nw H [] iU)/\(5∉rem->Rz H' aS f.cs (r 5) iB/\Nw H [] iB)/\(20∉rem->r 20= .ref o7 0/\H.next<=o7/\o7<H'.next/\H'.obj o7=some Mw)/\
  (2∉rem->5∉rem->Dj iU iB)/\(2∉rem->20∉rem->o7∉iU)/\(5∉rem->20∉rem->o7∉iB)
theorem Rz.hf {α:Type} {H H':AH} {f:α->List PV} {l:List α} {v:PV} {ids M:List Nat} (h:Rz H f l v ids) (hf:HF M H H') (hd:Dj ids M):Rz H' f l v ids:=⟨h.1.hf hf hd,h.2⟩
theorem HF.tn {H H1 H2:AH} (h1:HF [] H H1) (h2:HF [] H1 H2):HF [] H H2:=⟨Nat.le_trans h1.1 h2.1,fun i hi hm=>(h2.2 i (Nat.lt_of_lt_of_le hi h1.1) hm).trans (h1.2 i hi hm)⟩
theorem Nw.fr {H H1:AH} {b:List Nat} (h1:HF [] H H1) (h2:Nw H1 [] b):Nw H [] b:=fun i hi=>by
 rcases h2 i hi with q|q
 · exact .inl q
 · exact .inr (Nat.le_trans h1.1 q)
theorem ajR {H1:AH} {a b:List Nat} (h1: ∀i∈a,i<H1.next) (h2:Nw H1 [] b):Dj a b:=fun i hi hj=>by
 rcases h2 i hj with q|q
 · cases q
 · have:=h1 i hi;omega
theorem afB {H1:AH} {b:List Nat} {i:Nat} (h1:i<H1.next) (h2:Nw H1 [] b):i∉b:=fun hj=>by
 rcases h2 i hj with q|q
 · cases q
 · omega
theorem Rz.co {α:Type} {H:AH} {f:α->List PV} {l:List α} {v:PV} {ids:List Nat} (h:Rz H f l v ids):cellsOf v=some [v]:=by
 rcases h.1 with⟨rfl,_⟩|⟨id,cap,junk,_,rfl,_⟩<;>rfl
theorem aJ.co {α:Type} {H:AH} {f:α->List PV} {l:List α} {v:PV} {sz:Nat} {ids:List Nat} (h:aJ H f sz l v ids):cellsOf v=some [v]:=by
 rcases h with⟨rfl,_⟩|⟨id,cap,junk,_,rfl,_⟩<;>rfl
theorem aJ.one {α:Type} {H:AH} {f:α->List PV} {l:List α} {v:PV} {sz:Nat} {ids:List Nat} (h:aJ H f sz l v ids):v.one=true:=by
 rcases h with⟨rfl,_⟩|⟨id,cap,junk,_,rfl,_⟩<;>rfl
theorem flt {rem:List Nat} {s j:Nat} (hs:s≠j) (h:s∉rem.filter (·!=j)):s∉rem:=fun hm=>h (List.mem_filter.2 ⟨hm,by simpa using hs⟩)
abbrev auL:List Nat:=[0,1,3,0,8,31,0,64,0,0,512,1792,4032,0,8192,24639,57407,122943,254015,524287,0,2097151]
abbrev XR:List (aR×Bool):=[(oF 13 0 3,false),(oL 14 1 13,false),(oC 15 107 [(.t 14)],true),(oF 16 1 3,false),(oL 17 1 16,false),(oC 18 202 [(.t 17)],true),(oF 19 2 3,false),(oL 20 1 19,false),(oM 21 2,false),(oF 22 2 4,false),(oL 23 1 22,false),(oB 24 .mul (.t 21) (.t 23),false),(oB 25 .add (.t 20) (.t 24),false),(oF 26 3 3,false),(oL 27 1 26,false),(oM 28 27,false),(eH 29 3 4 28 false,false),(dK 30 1 29 28 false,false),(oR 31 (.pick (.t 28) (.c (.bool true)) (.t 30)),false),(oR 32 (.build [(.ak [] .nil),(.ak [] .nil),(.int .i64 0),(.bool false)] [(0,(1,(.t 15))),(1,(1,(.t 18))),(2,(1,(.t 25))),(3,(1,(.t 31)))]),false),(⟨(some 7),(.d (.alloc [(.ak [] .nil),(.ak [] .nil),(.int .i64 0),(.bool false)])),none⟩,true)]
theorem aev {f g:Fo} {t:Int} {o3 o4:Nat} {σ:Nat->PV} {H:AH} {post:List aR} {s:List Fm} {Q:Post} (s2:σ 2= .int .i64 t) (s3:σ 3= .ref o3 0) (s4:σ 4= .ref o4 0) (h3:H.obj o3=some f.cells) (h4:H.obj o4=some g.cells) (l3:o3<H.next) (l4:o4<H.next)
 (hu:f.us.length<=1000000) (hc:f.cs.length<=1000000)
 (hK: ∀(vU vB:PV) (iU iB:List Nat) (o7:Nat) (H':AH) (σ':Nat->PV),HF [] H H'->Rz H' (eu Nd.cells) f.us vU iU->Rz H' aS f.cs vB iB->Nw H [] iU->Nw H [] iB->Dj iU iB->H.next<=o7->o7<H'.next->H'.obj o7=some Mw->o7∉iU->o7∉iB->
  σ' 7= .ref o7 0->σ' 32= .agg [vU,vB,.int .i64 (IntKind.wrap .i64 (f.num+IntKind.wrap .i64 (t*g.num))),.bool (f.bad||g.bad)]->σ' 2=σ 2->σ' 4=σ 4->σ' 6=σ 6->WO Tryz.prog post s Q σ' H'):WS Tryz.prog (.sD auL XR post) s Q σ H:=by
 refine O9 [2,5,20] (by kernel_rfl) (Tw f g t o3 o4) (PlI f H) (fun r j hj=> ?_) (fun r r' i h=> ?_) ⟨fun _=>ud,HF.refl _ _,fun _ h=>h,fun j hj=>by simpa using hj,[],[],0,fun h=>absurd (by simp) h,fun h=>absurd (by simp) h,fun h=>absurd (by simp) h,fun h=>absurd (by simp) h,fun h=>absurd (by simp) h,fun h=>absurd (by simp) h⟩ ?_ ?_ ?_
 · rcases(show j=2\/j=5\/j=20 by simpa using hj)with rfl|rfl|rfl<;>rfl
 · unfold Tw;split<;>first|rfl|exact h _ (by simp) (.inr rfl)|(rw [h 2 (by simp) (.inl (by decide+kernel)),h 5 (by simp) (.inl (by decide+kernel))])
 · rintro rem r H' ⟨hf,hok,hsub,iU,iB,o7,e2,e5,e20,d1,d2,d3⟩;have h3':H'.obj o3=some f.cells:=(hf.2 o3 l3 List.not_mem_nil).trans h3;have h4':H'.obj o4=some g.cells:=(hf.2 o4 l4 List.not_mem_nil).trans h4;refine⟨.inr (.inr ?_),.inr (.inr ?_),.inl rfl,.inr (.inr ?_),.inr (.inr ?_),.inl rfl,.inr (.inr ?_),.inr (.inr ?_),.inr (.inr ?_),.inr (.inr ?_),.inr (.inr ?_),.inr (.inr ?_),.inr (.inr ?_),.inr (.inr ?_),.inr (.inr ?_),.inr (.inr ?_),.inr (.inr ?_),.inr (.inr ?_),.inr (.inr ?_),?_,.inl rfl,trivial⟩
   all_goals try simp -implicitDefEqProofs only [JH,eG,go_sem,Tw,s2,s3,s4,h3',h4',Nat.reduceAdd,and_self]
   · cases f.bad<;>simp -implicitDefEqProofs only [if_true,if_false,Bool.false_eq_true,Bool.true_eq_false,reduceIte]
   · cases f.bad<;>simp -implicitDefEqProofs only [if_true,if_false,Bool.false_eq_true,Bool.true_eq_false,reduceIte,h4',Fo.jC,List.getElem?_cons_succ,List.getElem?_cons_zero,z8,xO,List.length_cons,List.length_nil,Nat.reduceAdd,Nat.reduceLeDiff]
   · cases f.bad<;>simp -implicitDefEqProofs only [if_true,if_false,Bool.false_eq_true,Bool.true_eq_false,reduceIte,Bool.true_or,Bool.false_or]
   · by_cases m2:2∈rem
     · exact .inr (.inl (by unfold Fg;rw [Bool.or_eq_true];exact .inl (List.any_eq_true.2 ⟨2,m2,by decide+kernel⟩)))
     by_cases m5:5∈rem
     · exact .inr (.inl (by unfold Fg;rw [Bool.or_eq_true];exact .inl (List.any_eq_true.2 ⟨5,m5,by decide+kernel⟩)))
     refine .inr (.inr ?_);rw [(e2 m2).1.co,(e5 m5).1.co];simp -implicitDefEqProofs only [go_sem,List.length_append,List.length_drop,Nat.reduceSub,and_self,if_true,List.drop_succ_cons,List.drop_zero,List.take_zero,List.take_succ_cons]
 · rintro rem r H' j o ⟨hf,hok,hsub,iU,iB,o7,e2,e5,e20,d1,d2,d3⟩ hj ho hb;rcases hsub j hj with rfl|rfl|rfl
   · obtain rfl:oC 15 107 [(.t 14)]=o:=(Prod.mk.inj (Option.some.inj ho)).1;refine⟨trivial,?_⟩;show bA Tryz.prog 107 [cO XR (Tw f g t o3 o4 r) σ 2 14] H' _;rw [show cO XR (Tw f g t o3 o4 r) σ 2 14= .ak (f.us.map (eu Nd.cells)) (nz f.us)from rfl];refine bA.mono (aht f.us hu H') fun p H2 ⟨i2,g1,g2,g3,g4⟩=>⟨fun s=>if s=2 then p else r s,rfl,fun s hs=>if_neg hs,hf.tn g3,fun c h=>g4 c (hok c h),fun k hk=>hsub k (List.mem_filter.1 hk).1,i2,iB,o7,fun _=>⟨g1,g2.fr hf⟩,fun h=> ?_,fun h=> ?_,fun _ h=> ?_,fun _ h=> ?_,fun h h'=>d3 (flt (by decide) h) (flt (by decide) h')⟩
     · obtain⟨a,b⟩:=e5 (flt (by decide) h);exact⟨a.hf g3 Dj.nil.symm,b⟩
     · obtain⟨a,b,c,d⟩:=e20 (flt (by decide) h);exact⟨a,b,Nat.lt_of_lt_of_le c g3.1,(g3.2 o7 c List.not_mem_nil).trans d⟩
     · exact(ajR (e5 (flt (by decide) h)).1.1.lt g2).symm
     · exact afB (e20 (flt (by decide) h)).2.2.1 g2
   · obtain rfl:oC 18 202 [(.t 17)]=o:=(Prod.mk.inj (Option.some.inj ho)).1;refine⟨trivial,?_⟩;show bA Tryz.prog 202 [cO XR (Tw f g t o3 o4 r) σ 5 17] H' _;rw [show cO XR (Tw f g t o3 o4 r) σ 5 17= .ak (f.cs.map aS) (nz f.cs)from rfl];refine bA.mono (Vp f.cs hc H') fun p H2 ⟨i2,g1,g2,g3,g4⟩=>⟨fun s=>if s=5 then p else r s,rfl,fun s hs=>if_neg hs,hf.tn g3,fun c h=>g4 c (hok c h),fun k hk=>hsub k (List.mem_filter.1 hk).1,iU,i2,o7,fun h=> ?_,fun _=>⟨g1,g2.fr hf⟩,fun h=> ?_,fun h _=> ?_,fun h h'=>d2 (flt (by decide) h) (flt (by decide) h'),fun _ h=> ?_⟩
     · obtain⟨a,b⟩:=e2 (flt (by decide) h);exact⟨a.hf g3 Dj.nil.symm,b⟩
     · obtain⟨a,b,c,d⟩:=e20 (flt (by decide) h);exact⟨a,b,Nat.lt_of_lt_of_le c g3.1,(g3.2 o7 c List.not_mem_nil).trans d⟩
     · exact ajR (e2 (flt (by decide) h)).1.1.lt g2
     · exact afB (e20 (flt (by decide) h)).2.2.1 g2
   · obtain rfl:(⟨(some 7),(.d (.alloc Mw)),none⟩:aR)=o:=(Prod.mk.inj (Option.some.inj ho)).1;refine⟨trivial,⟨fun s=>if s=20 then .ref H'.next 0 else r s,rfl,fun s hs=>if_neg hs,HF.new hf,fun c h=>(hok c h).new,fun k hk=>hsub k (List.mem_filter.1 hk).1,iU,iB,H'.next,fun h=> ?_,fun h=> ?_,fun _=>⟨rfl,hf.1,Nat.lt_succ_self _,?_⟩,fun h h'=>d1 (flt (by decide) h) (flt (by decide) h'),fun h _ hm=> ?_,fun h _ hm=> ?_⟩⟩
     · obtain⟨a,b⟩:=e2 (flt (by decide) h);exact⟨a.hf (HF.new (HF.refl _ _)) Dj.nil.symm,b⟩
     · obtain⟨a,b⟩:=e5 (flt (by decide) h);exact⟨a.hf (HF.new (HF.refl _ _)) Dj.nil.symm,b⟩
     · show(if H'.next=H'.next then some Mw else _)=_
       rw [if_pos rfl]
     · exact absurd ((e2 (flt (by decide) h)).1.1.lt _ hm) (Nat.lt_irrefl _)
     · exact absurd ((e5 (flt (by decide) h)).1.1.lt _ hm) (Nat.lt_irrefl _)
 · rintro r H' ⟨hf,hok,hsub,iU,iB,o7,e2,e5,e20,d1,d2,d3⟩;have n2:(2:Nat)∉([]:List Nat):=List.not_mem_nil;have n5:(5:Nat)∉([]:List Nat):=List.not_mem_nil;have n20:(20:Nat)∉([]:List Nat):=List.not_mem_nil;obtain⟨a1,a2⟩:=e2 n2;obtain⟨b1,b2⟩:=e5 n5;obtain⟨c1,c2,c3,c4⟩:=e20 n20;exact hK (r 2) (r 5) iU iB o7 H' _ hf a1 b1 a2 b2 (d1 n2 n5) c2 c3 c4 (d2 n2 n20) (d3 n5 n20) c1 rfl rfl rfl rfl
abbrev aoL:List Nat:=[0,1,0,4,15,0,32,0,255,127,1023,2047,4095]
abbrev aoM:List (aR×Bool):=[(oF 53 0 7,false),(oL 54 1 53,false),(oL 55 1 9,false),(oR 56 (.d9 1 [(.t 55)]),false),(⟨(some 57),(.n (.app 1 24 (.t 54) (.t 56))),none⟩,true),(oF 58 1 7,false),(oL 59 1 58,false),(oR 60 (.d9 1 [(.c (.int .i64 0))]),false),(⟨(some 61),(.n (.app 1 8 (.t 59) (.t 60))),none⟩,true),(oF 62 0 7,false)]
def Z4 (u:List Nd) (vU vB:PV) (o7:Nat) (r:Nat->PV):Nat->PV
 |0=> .ref o7 0
 |1=>vU
 |2=> .ak (u.map Nd.cells) .unk
 |3=> .ak [[.ak (u.map Nd.cells) .unk]] .exact
 |4=>r 4
 |5=> .ref o7 1
 |6=>vB
 |7=> .ak [[.int .i64 0]] .exact
 |8=>r 8
 |9=> .ref o7 0
 |_=>ud
theorem adv {u:List Nd} {us:List (List Nd)} {cs:List Int} {vU vB:PV} {iU iB:List Nat} {num:PV} {bad:PV} {o7 o9:Nat} {σ:Nat->PV} {H:AH} {post:List aR} {s:List Fm} {Q:Post} (s7:σ 7= .ref o7 0) (s9:σ 9= .ref o9 0) (h7:H.obj o7=some [vU,vB,num,bad]) (h9:H.obj o9=some [.ak (u.map Nd.cells) .unk]) (l7:o7<H.next) (l9:o9<H.next)
 (rU:aJ H (eu Nd.cells) 1 us vU iU) (rB:aJ H aS 1 cs vB iB) (dj:Dj iU iB) (Mx:o7∉iU) (KI:o7∉iB) (n9U:o9∉iU) (n9B:o9∉iB)
 (hu:us.length<=1000000) (hc:cs.length<=1000000)
 (hK: ∀(wU wB:PV) (jU jB:List Nat) (H':AH) (σ':Nat->PV),HF (iU++iB) H H'->aJ H' (eu Nd.cells) 1 (us++[u]) wU jU->aJ H' aS 1 (cs++[0]) wB jB->Nw H iU jU->Nw H iB jB->Dj jU jB->
  σ' 62= .ref o7 0->σ' 57=wU->σ' 61=wB->σ' 7=σ 7->σ' 2=σ 2->σ' 4=σ 4->σ' 6=σ 6->σ' 8=σ 8->σ' 10=σ 10->σ' 37=σ 37->σ' 38=σ 38->σ' 39=σ 39->WO Tryz.prog post s Q σ' H'):WS Tryz.prog (.sD aoL aoM post) s Q σ H:=by
 refine O9 [4,8] (by kernel_rfl) (Z4 u vU vB o7) (fun rem r H'=>(rem=[4,8]/\H'=H)\/
  (rem=[8]/\ ∃jU,aJ H' (eu Nd.cells) 1 (us++[u]) (r 4) jU/\Nw H iU jU/\HF iU H H')\/
  (rem=[]/\ ∃jU jB,aJ H' (eu Nd.cells) 1 (us++[u]) (r 4) jU/\aJ H' aS 1 (cs++[0]) (r 8) jB/\Nw H iU jU/\Nw H iB jB/\Dj jU jB/\HF (iU++iB) H H')) (fun r j hj=> ?_) (fun r r' i h=> ?_) ⟨fun _=>ud,.inl ⟨rfl,rfl⟩⟩ ?_ ?_ ?_
 · rcases(show j=4\/j=8 by simpa using hj)with rfl|rfl<;>rfl
 · unfold Z4;split<;>first|rfl|exact h _ (by simp) (.inr rfl)
 · have key: ∀rem r H',H'.obj o7=some [vU,vB,num,bad]->H'.obj o9=some [.ak (u.map Nd.cells) .unk]->Fe Tryz.prog H' (Fg aoL [4,8] rem) 0 aoM (Z4 u vU vB o7 r) σ:=by
    intro rem r H' h7' h9';refine⟨.inr (.inr ?_),.inr (.inr ?_),.inr (.inr ?_),.inr (.inr ?_),.inl rfl,.inr (.inr ?_),.inr (.inr ?_),.inr (.inr ?_),.inl rfl,.inr (.inr ?_),trivial⟩
    all_goals simp -implicitDefEqProofs only [JH,eG,go_sem,Z4,s7,s9,h7',h9',Nat.reduceAdd,and_self]
   rintro rem r H' (⟨rfl,rfl⟩|⟨rfl,jU,g1,g2,g3⟩|⟨rfl,jU,jB,g1,g2,g3,g4,g5,g6⟩)
   · exact key _ _ _ h7 h9
   · exact key _ _ _ ((g3.2 o7 l7 Mx).trans h7) ((g3.2 o9 l9 n9U).trans h9)
   · exact key _ _ _ ((g6.2 o7 l7 (fun h=>(List.mem_append.1 h).elim Mx KI)).trans h7) ((g6.2 o9 l9 (fun h=>(List.mem_append.1 h).elim n9U n9B)).trans h9)
 · rintro rem r H' j o (⟨rfl,rfl⟩|⟨rfl,jU,g1,g2,g3⟩|⟨rfl,jU,jB,g1,g2,g3,g4,g5,g6⟩) hj ho hb
   · have hj4:j=4:=by
      rcases(show j=4\/j=8 by simpa using hj)with rfl|rfl
      · rfl
      · rcases hb 4 (by simp)with h|h
        · exact absurd h (by decide+kernel)
        · cases h
     subst hj4;obtain rfl:(⟨(some 57),(.n (.app 1 24 (.t 54) (.t 56))),none⟩:aR)=o:=(Prod.mk.inj (Option.some.inj ho)).1;refine⟨trivial,mW (fun p H2 ⟨i2,a1,a2,a3,a4⟩=>⟨fun s=>if s=4 then p else r s,rfl,fun s hs=>if_neg hs,.inr (.inl ⟨rfl,i2,a1,a2,a3⟩)⟩) (OD (f:=eu Nd.cells) (fun x=>T9 x) us [u] .exact rfl rU rfl (by simp) (by simp only [List.length_cons,List.length_nil];omega))⟩
   · obtain rfl:j=8:=by simpa using hj
     obtain rfl:(⟨(some 61),(.n (.app 1 8 (.t 59) (.t 60))),none⟩:aR)=o:=(Prod.mk.inj (Option.some.inj ho)).1;have rB':aJ H' aS 1 cs vB iB:=rB.hf g3 dj.symm;refine⟨trivial,mW (fun p H2 ⟨i2,a1,a2,a3,a4⟩=>⟨fun s=>if s=8 then p else r s,rfl,fun s hs=>if_neg hs,.inr (.inr ⟨rfl,jU,i2,g1.hf a3 ?_,a1,g2,?_,?_,?_⟩)⟩) (OD (f:=aS) uZ cs [0] .exact rfl rB' rfl (by simp) (by simp only [List.length_cons,List.length_nil];omega))⟩
     · intro i hi hb';rcases g2 i hi with q|q
       · exact dj i q hb'
       · have:=rB.lt i hb';omega
     · exact Nw.trans (fun i h=> .inl h) g3.1 a2
     · intro i hi hb';rcases a2 i hb' with q|q
       · rcases g2 i hi with q'|q'
         · exact dj i q' q
         · have:=rB.lt i q;omega
       · have:=g1.lt i hi;omega
     · exact⟨Nat.le_trans g3.1 a3.1,fun i hi hm=>(a3.2 i (Nat.lt_of_lt_of_le hi g3.1) (fun h=>hm (List.mem_append_right _ h))).trans (g3.2 i hi (fun h=>hm (List.mem_append_left _ h)))⟩
   · cases hj
 · rintro r H' (⟨h,_⟩|⟨h,_⟩|⟨_,jU,jB,g1,g2,g3,g4,g5,g6⟩)
   · cases h
   · cases h
   · exact hK (r 4) (r 8) jU jB H' _ g6 g1 g2 g3 g4 g5 rfl rfl rfl rfl rfl rfl rfl rfl rfl rfl rfl rfl
theorem aqn {P:Program} {l:List aR} {s:List Fm} {Q:Post} {σ:Nat->PV} {H:AH} (h: ∀fr,fr=s->WO P l fr Q σ H):WO P l s Q σ H:=h s rfl
abbrev aoO:List (aR×Bool):=[(oF 64 1 7,false),(oL 65 1 64,false),(oM 66 10,false),(oX 67 1 65 66,false),(oL 68 1 67,false),(oM 69 2,false),(oF 70 1 4,false),(oL 71 1 70,false),(oM 72 8,false),(oX 73 1 71 72,false),(oL 74 1 73,false),(oB 75 .mul (.t 69) (.t 74),false)]
theorem Y2 {g:Fo} {t num a i c n:Int} {o4 o7:Nat} {cs:List Int} {vU vB:PV} {iB:List Nat} {σ:Nat->PV} {H:AH} {s:List Fm} {Q:Post} (s2:σ 2= .int .i64 t) (s4:σ 4= .ref o4 0) (s7:σ 7= .ref o7 0) (s8:σ 8= .int .i64 i) (s10:σ 10= .int .i64 a)
 (h4:H.obj o4=some g.cells) (h7:H.obj o7=some [vU,vB,.int .i64 num,.bool false]) (rB:Rz H aS cs vB iB) (ha:0<=a) (hc:cs[a.toNat]? =some c) (hi:0<=i) (hn:g.cs[i.toNat]? =some n)
 (hK: ∀(H':AH) (σ':Nat->PV),Rz H' aS (cs.set a.toNat (IntKind.wrap .i64 (c+IntKind.wrap .i64 (t*n)))) vB iB->HF iB H H'->(σ' 2=σ 2/\σ' 4=σ 4/\σ' 6=σ 6/\σ' 7=σ 7/\σ' 37=σ 37/\σ' 38=σ 38/\σ' 39=σ 39)->WE Tryz.prog .normal s Q σ' H'):
 WS Tryz.prog (.par aoO [oB 76 .add (.t 68) (.t 75),oX 77 1 65 66,oS 1 77 76]) s Q σ H:=by
 obtain⟨id,C,hid,hlt,hC,hcell,hL,hD,hI⟩:=aJ.content rB.1 hc;have hx:jV 1 vB (.int .i64 a)=some (.ref id a.toNat):=by simpa using hI .i64 a ha rfl
 have hcc:C[a.toNat]? =some (.int .i64 c):=by simpa using hcell 0 _ rfl
 unfold aoO;refine iJ ?_;refine dz ?_;refine qc (f:=aS) (id:=id) (o:=a.toNat) (i:=a.toNat) (j:=0) (a:=c) (y:=IntKind.wrap .i64 (c+IntKind.wrap .i64 (t*n))) (vs:=[(.int .i64 (IntKind.wrap .i64 (c+IntKind.wrap .i64 (t*n))))]) aP hid (by omega) rB.1 hc aP rfl rfl (by decide) rfl (fun H' g1 g2 g3=> ?_);refine ah ?_;refine hK H' _ ⟨g1,fun h=> ?_⟩ g2 (by simp -implicitDefEqProofs only [go_sem,and_self]);have:=congrArg List.length h;simp only [List.length_set,List.length_nil]at this;have hl:=(List.getElem?_eq_some_iff.1 hc).1;omega
def LK (us:List (List Nd)) (cs:List Int) (a v:Int):Option (List (List Nd)×List Int):=
 if 0<=a then (cs[a.toNat]?).bind fun c=>some (us,cs.set a.toNat (IntKind.wrap .i64 (c+v)))else none
def Eb:Nat->Fo->Int->List (List Nd)->List Int->Int->Option (List (List Nd)×List Int)
 |0,_,_,_,_,_=>none
 |k+1,g,t,us,cs,i=>
  cond (decide (i<(g.us.length:Int))) (if 0<=i then (g.us[i.toNat]?).bind fun u=>if us.length<=1000000/\cs.length<=1000000 then (yH k us u).bind fun a=>(g.cs[i.toNat]?).bind fun n=>
   (cond (decide (a<0)) (LK (us++[u]) (cs++[0]) (cs.length:Int) (IntKind.wrap .i64 (t*n))) (LK us cs a (IntKind.wrap .i64 (t*n)))).bind fun p=>Eb k g t p.1 p.2 (IntKind.wrap .i64 (i+1))else none else none) (some (us,cs))
structure PlS (g:Fo) (t num:Int) (o4 o6 o7:Nat) (us:List (List Nd)) (cs:List Int) (vU vB:PV) (iU iB:List Nat) (σ:Nat->PV) (H:AH):Prop where
 s2:σ 2= .int .i64 t
 s4:σ 4= .ref o4 0
 s6:σ 6= .ref o6 0
 s7:σ 7= .ref o7 0
 h4:H.obj o4=some g.cells
 h6:H.obj o6=some Mw
 h7:H.obj o7=some [vU,vB,.int .i64 num,.bool false]
 l4:o4<H.next
 l6:o6<H.next
 l7:o7<H.next
 n47:o4≠o7
 n67:o6≠o7
 rU:Rz H (eu Nd.cells) us vU iU
 rB:Rz H aS cs vB iB
 dj:Dj iU iB
 n4U:o4∉iU
 n6U:o6∉iU
 Mx:o7∉iU
 Y3:o4∉iB
 Vq:o6∉iB
 KI:o7∉iB
theorem aew (g:Fo) (t num:Int) (o4 o6 o7:Nat): ∀(k:Nat) (us:List (List Nd)) (cs:List Int) (i:Int) (vU vB:PV) (iU iB:List Nat) (σ:Nat->PV) (H:AH) (Q:Post) (us':List (List Nd)) (cs':List Int),PlS g t num o4 o6 o7 us cs vU vB iU iB σ H->σ 37= .ak (g.us.map (eu Nd.cells)) (nz g.us)->σ 38= .int .i64 g.us.length->σ 39= .int .i64 i->
 Eb k g t us cs i=some (us',cs')->(∀(wU wB:PV) (jU jB:List Nat) (σ':Nat->PV) (H':AH),PlS g t num o4 o6 o7 us' cs' wU wB jU jB σ' H'->Q (.exit 0) σ' H')->W Tryz.prog (.loop Kp.Tq) Q σ H:=by
 intro k
 induction k with
 |zero=>intro us cs i vU vB iU iB σ H Q us' cs' hS s37 s38 s39 h hQ;simp only [Eb,reduceCtorEq]at h
 |succ k ih=>
  intro us cs i vU vB iU iB σ H Q us' cs' hS s37 s38 s39 h hQ;have s2:=hS.s2;have s4:=hS.s4;have s6:=hS.s6;have s7:=hS.s7;have h4:=hS.h4;have h7:=hS.h7;unfold Eb at h;refine aW (fun K hK=>aC ?_);unfold Kp.Tq;obtain⟨e1,h⟩|⟨e1,h⟩:=aA h
  · obtain⟨e2,h⟩:=aU h;obtain⟨u,e3,h⟩:=aj h;obtain⟨⟨e4,e4'⟩,h⟩:=aU h;obtain⟨a,e5,h⟩:=aj h;obtain⟨n,e6,h⟩:=aj h;obtain⟨⟨us2,cs2⟩,e7,h⟩:=aj h;have n9U:H.next∉iU:=fun hm=>Nat.lt_irrefl _ (hS.rU.1.lt _ hm);have n9B:H.next∉iB:=fun hm=>Nat.lt_irrefl _ (hS.rB.1.lt _ hm);have l7:=hS.l7;have l4:=hS.l4;have w7:=ne_next l7;have w4:=ne_next l4;refine ah ?_;have hf1:HF [] H ((H.new [PV.ak [] Ck.nil]).put H.next [PV.ak (List.map Nd.cells u) Ck.unk]):=HF.put (.inr (Nat.le_refl _)) (HF.new (HF.refl _ _));have h91:((H.new [PV.ak [] Ck.nil]).put H.next [PV.ak (List.map Nd.cells u) Ck.unk]).obj H.next=some [PV.ak (List.map Nd.cells u) Ck.unk]:=if_pos rfl;have l91:H.next<((H.new [PV.ak [] Ck.nil]).put H.next [PV.ak (List.map Nd.cells u) Ck.unk]).next:=Nat.lt_succ_self _;generalize((H.new [PV.ak [] Ck.nil]).put H.next [PV.ak (List.map Nd.cells u) Ck.unk])=H1 at hf1 h91 l91⊢;have rU1:=hS.rU.hf hf1 Dj.nil.symm;have rB1:=hS.rB.hf hf1 Dj.nil.symm;have h41:=(hf1.2 o4 l4 List.not_mem_nil).trans h4;have h61:=(hf1.2 o6 hS.l6 List.not_mem_nil).trans hS.h6;have h71:=(hf1.2 o7 l7 List.not_mem_nil).trans h7;refine zJ (MI e5) (.cons (rU1.fz (jA Nd.pu)) (.cons (af0 (.cons (aaF h91 (.cons (dS Nd.pu _ _) .nil)) .nil)) .nil)) (.cons (LJ (jA Nd.pu) _) (.cons (.fn _ _ _ (aX.mem .nil) (aX.mem (.cons (.bS _ _ (aX.mem (.cons (aT Nd.pu _) .nil))) .nil))) .nil)) (.int _ _) ?_;rcases hb:decide (a<0)with _|_
    · rw [hb,cond_false]at e7;refine ah ?_;unfold LK at e7;obtain⟨e8,e7⟩:=aU e7;obtain⟨c,e9,e7⟩:=aj e7;cases e7;refine Y2 (g:=g) (t:=t) (num:=num) (o4:=o4) (o7:=o7) (i:=i) (n:=n) (vU:=vU) aP aP aP aP aP h41 h71 rB1 e8 e9 e2 e6 (fun H' σ' g1 g2 ⟨t2,t4,t6,t7,t37,t38,t39⟩=> ?_);refine ah ?_;refine hK _ _ ?_;have nm: ∀x,x<H.next->x∉iB->H'.obj x=H1.obj x:=fun x hx hm=>g2.2 x (Nat.lt_of_lt_of_le hx hf1.1) hm;refine ih us _ _ vU vB iU iB _ H' Q us' cs' ⟨aP,aP,aP,aP,(nm o4 l4 hS.Y3).trans h41,(nm o6 hS.l6 hS.Vq).trans h61,(nm o7 l7 hS.KI).trans h71,?_,?_,?_,hS.n47,hS.n67,rU1.hf g2 hS.dj,g1,hS.dj,hS.n4U,hS.n6U,hS.Mx,hS.Y3,hS.Vq,hS.KI⟩ aP aP aP h hQ
      all_goals have:=hf1.1;have:=g2.1;have:=hS.l6;omega
    · rw [hb,cond_true]at e7;have lB:=rB1.1.aaL;refine ah ?_;refine adv (u:=u) (us:=us) (cs:=cs) (vU:=vU) (vB:=vB) (iU:=iU) (iB:=iB) (o7:=o7) (o9:=H.next) aP aP h71 h91 (by have:=hf1.1;omega) l91 rU1.1 rB1.1 hS.dj hS.Mx hS.KI n9U n9B e4 e4' (fun wU wB jU jB H2 σ2 f1 f2 f3 f4 f5 f6 t62 t57 t61 t7 t2 t4 t6 t8 t10 t37 t38 t39=> ?_);unfold LK at e7;obtain⟨e8,e7⟩:=aU e7;obtain⟨c,e9,e7⟩:=aj e7;cases e7;have s7':σ2 7= .ref o7 0:=t7.trans aP;have n7:o7∉iU++iB:=fun h=>(List.mem_append.1 h).elim hS.Mx hS.KI;have n4:o4∉iU++iB:=fun h=>(List.mem_append.1 h).elim hS.n4U hS.Y3;have n6:o6∉iU++iB:=fun h=>(List.mem_append.1 h).elim hS.n6U hS.Vq;have l71:o7<H1.next:=by have:=hf1.1;omega
      have l41:o4<H1.next:=by have:=hf1.1;omega
      have l61:o6<H1.next:=by have:=hf1.1;have:=hS.l6;omega
      have h72:=(f1.2 o7 l71 n7).trans h71;have h42:=(f1.2 o4 l41 n4).trans h41;have h62:=(f1.2 o6 l61 n6).trans h61;have nw: ∀x,x<H1.next->x∉iU->x∉iB->x∉jU/\x∉jB:=fun x hx h1 h2=>⟨fun h=>by rcases f4 x h with q|q;exact h1 q;omega,fun h=>by rcases f5 x h with q|q;exact h2 q;omega⟩
      obtain⟨Mx,KI⟩:=nw o7 l71 hS.Mx hS.KI;obtain⟨n4U,Y3⟩:=nw o4 l41 hS.n4U hS.Y3;obtain⟨n6U,Vq⟩:=nw o6 l61 hS.n6U hS.Vq;have cU:=f2.co;have cB:=f3.co;have oU:=f2.one;have oB:=f3.one;refine aqn fun fr hfr=> ?_;refine ah ?_;subst hfr;have q0:(cs++[0])[((cs.length:Nat):Int).toNat]? =some c:=e9;have o72:o7<H2.next:=Nat.lt_of_lt_of_le l71 f1.1;have pf:HF [o7] H2 ((H2.put o7 [wU,vB,PV.int IntKind.i64 num,PV.bool false]).put o7 [wU,wB,PV.int IntKind.i64 num,PV.bool false]):=HF.put (.inl (by simp)) (HF.put (.inl (by simp)) (HF.refl _ _));have p7:((H2.put o7 [wU,vB,PV.int IntKind.i64 num,PV.bool false]).put o7 [wU,wB,PV.int IntKind.i64 num,PV.bool false]).obj o7=some [wU,wB,PV.int IntKind.i64 num,PV.bool false]:=if_pos rfl;generalize((H2.put o7 [wU,vB,PV.int IntKind.i64 num,PV.bool false]).put o7 [wU,wB,PV.int IntKind.i64 num,PV.bool false])=H3 at pf p7⊢;have djo: ∀(j:List Nat),o7∉j->Dj j [o7]:=fun j h x hx hm=>h (List.mem_singleton.1 hm▸hx);have h43:=(pf.2 o4 (Nat.lt_of_lt_of_le l41 f1.1) (by simpa using hS.n47)).trans h42;have h63:=(pf.2 o6 (Nat.lt_of_lt_of_le l61 f1.1) (by simpa using hS.n67)).trans h62;have rU3:Rz H3 (eu Nd.cells) (us++[u]) wU jU:=⟨f2.hf pf (djo _ Mx),fun h=>by simp at h⟩;have rB3:Rz H3 aS (cs++[0]) wB jB:=⟨f3.hf pf (djo _ KI),fun h=>by simp at h⟩;refine Y2 (g:=g) (t:=t) (num:=num) (o4:=o4) (o7:=o7) (i:=i) (n:=n) (a:=cs.length) (vU:=wU) (t2.trans aP) (t4.trans aP) aP (t8.trans aP) (t10.trans aP) h43 p7 rB3 e8 q0 e2 e6 (fun H' σ' g1 g2 ⟨u2,u4,u6,u7,u37,u38,u39⟩=> ?_);have v2:σ2 2= .int .i64 t:=t2.trans aP;have v4:σ2 4= .ref o4 0:=t4.trans aP;have v6:σ2 6= .ref o6 0:=t6.trans aP;have v37:σ2 37= .ak (g.us.map (eu Nd.cells)) (nz g.us):=t37.trans aP;have v38:σ2 38= .int .i64 g.us.length:=t38.trans aP;have v39:σ2 39= .int .i64 i:=t39.trans aP;have w39:σ' 39= .int .i64 i:=u39.trans aP;refine ah ?_;refine hK _ _ ?_;have lt3: ∀x,x<H1.next->x<H3.next:=fun x hx=>Nat.lt_of_lt_of_le hx (Nat.le_trans f1.1 pf.1);have nm: ∀x,x<H1.next->x∉jB->H'.obj x=H3.obj x:=fun x hx hm=>g2.2 x (lt3 x hx) hm;refine ih (us++[u]) _ _ wU wB jU jB _ H' Q us' cs' ⟨(show σ' 2=_ from u2.trans aP),(show σ' 4=_ from u4.trans aP),(show σ' 6=_ from u6.trans aP),(show σ' 7=_ from u7.trans aP),(nm o4 l41 Y3).trans h43,(nm o6 l61 Vq).trans h63,(nm o7 l71 KI).trans p7,Nat.lt_of_lt_of_le (lt3 _ l41) g2.1,Nat.lt_of_lt_of_le (lt3 _ l61) g2.1,Nat.lt_of_lt_of_le (lt3 _ l71) g2.1,hS.n47,hS.n67,rU3.hf g2 f6,g1,f6,n4U,n6U,Mx,Y3,Vq,KI⟩ (show σ' 37=_ from u37.trans aP) (show σ' 38=_ from u38.trans aP) aP h hQ
  · cases h;refine ah ?_;exact hQ vU vB iU iB _ _ ⟨aP,aP,aP,aP,hS.h4,hS.h6,hS.h7,hS.l4,hS.l6,hS.l7,hS.n47,hS.n67,hS.rU,hS.rB,hS.dj,hS.n4U,hS.n6U,hS.Mx,hS.Y3,hS.Vq,hS.KI⟩
abbrev aoR:List Nat:=[0,1,3,0,8,24,63,127,0]
abbrev Z5:List (aR×Bool):=[(oF 79 1 7,false),(oL 80 1 79,false),(oC 81 202 [(.t 80)],true),(oF 82 2 7,false),(oL 83 1 82,false),(oR 84 (.d9 1 [(.t 83)]),false),(⟨(some 85),(.n (.app 1 8 (.t 81) (.t 84))),none⟩,true),(oN 86 85,false),(oI 87 0,false)]
def LM (vB:PV) (m num:Int) (o7:Nat) (r:Nat->PV):Nat->PV
 |0=> .ref o7 1
 |1=>vB
 |2=>r 2
 |3=> .ref o7 2
 |4=> .int .i64 num
 |5=> .ak [[.int .i64 num]] .exact
 |6=>r 6
 |7=> .int .i64 m
 |8=> .int .i64 0
 |_=>ud
theorem adx {cs:List Int} {vU vB:PV} {iB:List Nat} {num:Int} {bad:PV} {o7:Nat} {σ:Nat->PV} {H:AH} {post:List aR} {s:List Fm} {Q:Post} (s7:σ 7= .ref o7 0) (h7:H.obj o7=some [vU,vB,.int .i64 num,bad]) (l7:o7<H.next)
 (rB:Rz H aS cs vB iB) (hc:cs.length<=1000000)
 (hK: ∀(w:PV) (j:List Nat) (H':AH) (σ':Nat->PV),HF [] H H'->aJ H' aS 1 (cs++[num]) w j->Nw H [] j->
  (σ' 85=w/\σ' 86= .int .i64 (cs++[num]).length/\σ' 87= .int .i64 0/\σ' 7=σ 7/\σ' 6=σ 6)->WO Tryz.prog post s Q σ' H'):WS Tryz.prog (.sD aoR Z5 post) s Q σ H:=by
 refine O9 [2,6] (by kernel_rfl) (LM vB (cs++[num]).length num o7) (fun rem r H'=>(rem=[2,6]/\H'=H)\/
  (rem=[6]/\ ∃j,aJ H' aS 1 cs (r 2) j/\Nw H [] j/\HF [] H H')\/
  (rem=[]/\ ∃j,aJ H' aS 1 (cs++[num]) (r 6) j/\Nw H [] j/\HF [] H H')) (fun r j hj=> ?_) (fun r r' i h=> ?_) ⟨fun _=>ud,.inl ⟨rfl,rfl⟩⟩ ?_ ?_ ?_
 · rcases(show j=2\/j=6 by simpa using hj)with rfl|rfl<;>rfl
 · unfold LM;split<;>first|rfl|exact h _ (by simp) (.inr rfl)
 · have key: ∀rem r H',H'.obj o7=some [vU,vB,.int .i64 num,bad]->(6∈rem\/xP (r 6)=some (.int .i64 (cs++[num]).length))->Fe Tryz.prog H' (Fg aoR [2,6] rem) 0 Z5 (LM vB (cs++[num]).length num o7 r) σ:=by
    intro rem r H' h7' h6;refine⟨.inr (.inr ?_),.inr (.inr ?_),.inl rfl,.inr (.inr ?_),.inr (.inr ?_),.inr (.inr ?_),.inl rfl,.inr ?_,.inr (.inr ?_),trivial⟩
    all_goals try simp -implicitDefEqProofs only [JH,eG,go_sem,LM,s7,h7',Nat.reduceAdd,and_self]
    rcases h6 with h6|h6
    · exact .inl (by unfold Fg;rw [Bool.or_eq_true];exact .inl (List.any_eq_true.2 ⟨6,h6,by decide+kernel⟩))
    · simp -implicitDefEqProofs only [JH,eG,go_sem,LM,h6,Nat.reduceAdd,and_self,or_true]
   rintro rem r H' (⟨rfl,rfl⟩|⟨rfl,j,g1,g2,g3⟩|⟨rfl,j,g1,g2,g3⟩)
   · exact key _ _ _ h7 (.inl (by simp))
   · exact key _ _ _ ((g3.2 o7 l7 List.not_mem_nil).trans h7) (.inl (by simp))
   · exact key _ _ _ ((g3.2 o7 l7 List.not_mem_nil).trans h7) (.inr g1.aaL)
 · rintro rem r H' j o (⟨rfl,rfl⟩|⟨rfl,i1,g1,g2,g3⟩|⟨rfl,i1,g1,g2,g3⟩) hj ho hb
   · have hj4:j=2:=by
      rcases(show j=2\/j=6 by simpa using hj)with rfl|rfl
      · rfl
      · rcases hb 2 (by simp)with h|h
        · exact absurd h (by decide+kernel)
        · cases h
     subst hj4;obtain rfl:oC 81 202 [(.t 80)]=o:=(Prod.mk.inj (Option.some.inj ho)).1;refine⟨trivial,?_⟩;show bA Tryz.prog 202 [cO Z5 (LM vB (cs++[num]).length num o7 r) σ 2 80] H' _;rw [show cO Z5 (LM vB (cs++[num]).length num o7 r) σ 2 80=vB from rfl];exact bA.mono (ahu cs hc rB) fun p H2 ⟨i2,a1,a2,a3,a4⟩=>⟨fun s=>if s=2 then p else r s,rfl,fun s hs=>if_neg hs,.inr (.inl ⟨rfl,i2,a1.1,a2,a3⟩)⟩
   · obtain rfl:j=6:=by simpa using hj
     obtain rfl:(⟨(some 85),(.n (.app 1 8 (.t 81) (.t 84))),none⟩:aR)=o:=(Prod.mk.inj (Option.some.inj ho)).1;refine⟨trivial,mW (fun p H2 ⟨i2,a1,a2,a3,a4⟩=>⟨fun s=>if s=6 then p else r s,rfl,fun s hs=>if_neg hs,.inr (.inr ⟨rfl,i2,a1,?_,?_⟩)⟩) (OD (f:=aS) uZ cs [num] .exact rfl g1 rfl (by simp) (by simp only [List.length_cons,List.length_nil];omega))⟩
     · exact Nw.trans g2 g3.1 a2
     · refine⟨Nat.le_trans g3.1 a3.1,fun i hi hm=>(a3.2 i (Nat.lt_of_lt_of_le hi g3.1) (fun h=> ?_)).trans (g3.2 i hi hm)⟩;rcases g2 i h with q|q
       · cases q
       · omega
   · cases hj
 · rintro r H' (⟨h,_⟩|⟨h,_⟩|⟨_,j,g1,g2,g3⟩)
   · cases h
   · cases h
   · exact hK (r 6) j H' _ g3 g1 g2 ⟨rfl,rfl,rfl,rfl,rfl⟩
def xM:Nat->List Int->Bool->Int->Option Bool
 |0,_,_,_=>none
 |k+1,l,b,i=>cond (decide (i<(l.length:Int))) (if 0<=i then (l[i.toNat]?).bind fun n=>cond b (xM k l true (IntKind.wrap .i64 (i+1))) ((k_in n (-1000000000) 1000000000).bind fun p=>xM k l (!p) (IntKind.wrap .i64 (i+1)))else none) (some b)
theorem aex (l:List Int) (w vU vB:PV) (j:List Nat) (num:Int) (o6 o7:Nat): ∀(k:Nat) (b:Bool) (i:Int) (σ:Nat->PV) (H:AH) (Q:Post) (b':Bool),σ 85=w->σ 86= .int .i64 l.length->σ 87= .int .i64 i->σ 7= .ref o7 0->σ 6= .ref o6 0->H.obj o7=some [vU,vB,.int .i64 num,.bool b]->aJ H aS 1 l w j->o7∉j->o7<H.next->
 xM k l b i=some b'->(∀(σ':Nat->PV) (H':AH),HF [o7] H H'->H'.obj o7=some [vU,vB,.int .i64 num,.bool b']->σ' 7= .ref o7 0->σ' 6= .ref o6 0->Q (.exit 2) σ' H')->W Tryz.prog (.loop Kp.Tt) Q σ H:=by
 intro k
 induction k with
 |zero=>intro b i σ H Q b' s85 s86 s87 s7 s6 h7 hr n7 l7 h hQ;simp only [xM,reduceCtorEq]at h
 |succ k ih=>
  intro b i σ H Q b' s85 s86 s87 s7 s6 h7 hr n7 l7 h hQ;unfold xM at h;refine aW (fun K hK=>aC ?_);unfold Kp.Tt;obtain⟨e1,h⟩|⟨e1,h⟩:=aA h
  · obtain⟨e2,h⟩:=aU h;obtain⟨n,e3,h⟩:=aj h;obtain⟨id,C,hid,hlt,hC,hcell,hL,hD,hI⟩:=aJ.content hr e3;have hx:jV 1 w (.int .i64 i)=some (.ref id i.toNat):=by simpa using hI .i64 i e2 rfl
    have hcc:C[i.toNat]? =some (.int .i64 n):=by simpa using hcell 0 _ rfl
    have n7':o7≠id:=fun e=>n7 (by rw [hid,e];simp);have step: ∀(p:Bool) (σ':Nat->PV),(σ' 85=w/\σ' 86= .int .i64 l.length/\σ' 87= .int .i64 (IntKind.wrap .i64 (i+1))/\σ' 7= .ref o7 0/\σ' 6= .ref o6 0)->xM k l p (IntKind.wrap .i64 (i+1))=some b'->K σ' (H.put o7 [vU,vB,.int .i64 num,.bool p]):=by
     intro p σ' ⟨t85,t86,t87,t7,t6⟩ h;refine hK _ _ ?_;have pf:HF [o7] H (H.put o7 [vU,vB,.int .i64 num,.bool p]):=HF.put (.inl (by simp)) (HF.refl _ _);refine ih p _ σ' _ Q b' t85 t86 t87 t7 t6 (if_pos rfl) (hr.hf pf (fun x hx hm=>n7 (List.mem_singleton.1 hm▸hx))) n7 l7 h (fun σ2 H2 g1 g2 g3 g4=>hQ σ2 H2 (pf.tr g1) g2 g3 g4)
    obtain⟨e4,h⟩|⟨e4,h⟩:=aA h
    · subst e4;refine ah ?_;first|trivial|exact step true _ ⟨aP,aP,aP,aP,aP⟩ h
    · subst e4;obtain⟨p,e5,h⟩:=aj h;refine ah ?_;refine av (adu e5) ?_;refine ah ?_;first|trivial|exact step (!p) _ ⟨aP,aP,aP,aP,aP⟩ h
  · cases h;refine ah ?_;exact hQ _ _ (HF.refl _ _) h7 aP aP
def mq (k:Nat) (f g:Fo) (t:Int):Option Fo:=
 if f.us.length<=1000000/\f.cs.length<=1000000 then
  cond (f.bad||g.bad) (some ⟨f.us,f.cs,IntKind.wrap .i64 (f.num+IntKind.wrap .i64 (t*g.num)),true⟩)
   ((Eb k g t f.us f.cs 0).bind fun p=>if p.2.length<=1000000 then (xM k (p.2++[IntKind.wrap .i64 (f.num+IntKind.wrap .i64 (t*g.num))]) false 0).bind fun b=>some ⟨p.1,p.2,IntKind.wrap .i64 (f.num+IntKind.wrap .i64 (t*g.num)),b⟩else none)else none
theorem jF {k:Nat} {f g:Fo} {t:Int} {r:Fo} (h:mq k f g t=some r):aD Tryz.prog 144 [(.agg f.cells),(.agg g.cells),(.int .i64 t)] (.agg r.cells):=by
 refine aD.aO (aX.mem (.cons (.agg _ (Fo.pu _)) (.cons (.agg _ (Fo.pu _)) (.cons (.int _ _) .nil)))) (aF Kp.axr (by simp) (aC ?_)) (.agg _ (Fo.pu _));unfold mq at h;unfold Kp.aoJ;obtain⟨⟨hu,hc⟩,h⟩:=aU h;refine ah ?_;have e3:(((AH.empty.new f.cells).new g.cells).new Mw).obj AH.empty.next=some f.cells:=rfl;have e4:(((AH.empty.new f.cells).new g.cells).new Mw).obj (AH.empty.next+1)=some g.cells:=rfl;have e6:(((AH.empty.new f.cells).new g.cells).new Mw).obj (AH.empty.next+2)=some Mw:=rfl;have en:(((AH.empty.new f.cells).new g.cells).new Mw).next=AH.empty.next+3:=rfl;show WS Tryz.prog (.sD auL XR _) _ _ _ (((AH.empty.new f.cells).new g.cells).new Mw);generalize((AH.empty.new f.cells).new g.cells).new Mw=H1 at e3 e4 e6 en⊢;generalize AH.empty.next=o3 at e3 e4 e6 en⊢;refine aev (f:=f) (g:=g) (t:=t) (o3:=o3) (o4:=o3+1) aP aP aP e3 e4 (by omega) (by omega) hu hc (fun vU vB iU iB o7 H2 σ2 g1 g2 g3 g4 g5 g6 g7 g8 g9 g10 g11 s7 s32 s2 s4 s6=> ?_);have v2:σ2 2= .int .i64 t:=s2.trans aP;have v4:σ2 4= .ref (o3+1) 0:=s4.trans aP;have v6:σ2 6= .ref (o3+2) 0:=s6.trans aP;have f4:=(g1.2 (o3+1) (by omega) List.not_mem_nil).trans e4;have f6:=(g1.2 (o3+2) (by omega) List.not_mem_nil).trans e6;have n47: ¬o3+1=o7:=by omega
 have n67: ¬o3+2=o7:=by omega
 have oU:=g2.1.one;have oB:=g3.1.one;have nU: ∀x,x<H1.next->x∉iU/\x∉iB:=fun x hx=>⟨fun h=>by rcases g4 x h with q|q;cases q;omega,fun h=>by rcases g5 x h with q|q;cases q;omega⟩
 obtain⟨eb,h⟩|⟨eb,h⟩:=aA h
 · cases h;refine ah ?_;have d: ∀j,(o7∉j)->(o3+2∉j)->Dj j [o7,o3+2]:=fun j h1 h2 x hx hm=>by
    rcases List.mem_cons.1 hm with rfl|hm
    · exact h1 hx
    · exact h2 (List.mem_singleton.1 hm▸hx)
   have pf: ∀a b,HF [o7,o3+2] H2 ((H2.put o7 a).put (o3+2) b):=fun a b=>HF.put (.inl (by simp)) (HF.put (.inl (by simp)) (HF.refl _ _));exact bQ (.cons ((g2.hf (pf _ _) (d _ g10 (nU _ (by omega)).1)).fz (jA Nd.pu)) (.cons ((g3.hf (pf _ _) (d _ g11 (nU _ (by omega)).2)).fz dF) (aQ (.cons (.pure _ (.bool _)) .nil))))
 · obtain⟨p,e7,h⟩:=aj h;obtain⟨e8,h⟩:=aU h;obtain⟨b,e9,h⟩:=aj h;cases h;refine ah ?_;have pf: ∀a,HF [o7] H2 (H2.put o7 a):=fun a=>HF.put (.inl (by simp)) (HF.refl _ _);have d: ∀j,(o7∉j)->Dj j [o7]:=fun j h1 x hx hm=>h1 (List.mem_singleton.1 hm▸hx);have lt2:=g1.1;refine aew g t _ (o3+1) (o3+2) o7 k f.us f.cs 0 vU vB iU iB _ _ _ p.1 p.2 ⟨aP,aP,aP,aP,((pf _).2 _ (by omega) (by simpa using n47)).trans f4,((pf _).2 _ (by omega) (by simpa using n67)).trans f6,if_pos rfl,(show _<H2.next by omega),(show _<H2.next by omega),g8,n47,n67,g2.hf (pf _) (d _ g10),g3.hf (pf _) (d _ g11),g6,(nU _ (by omega)).1,(nU _ (by omega)).1,g10,(nU _ (by omega)).2,(nU _ (by omega)).2,g11⟩ aP aP aP e7 (fun wU wB jU jB σ3 H3 S=> ?_);have t7:=S.s7;have t6:=S.s6;refine ah ?_;refine adx t7 S.h7 S.l7 S.rB e8 (fun w j H4 Qd k1 k2 k3 ⟨u85,u86,u87,u7,u6⟩=> ?_);have x7:Qd 7= .ref o7 0:=u7.trans t7;have x6:Qd 6= .ref (o3+2) 0:=u6.trans t6;have h74:=(k1.2 o7 S.l7 List.not_mem_nil).trans S.h7;have h64:=(k1.2 (o3+2) S.l6 List.not_mem_nil).trans S.h6;have n7j:o7∉j:=fun h=>by
    rcases k3 o7 h with q|q
    · cases q
    · have:=S.l7;omega
   refine ah ?_;refine aex (p.2++[_]) w wU wB j _ (o3+2) o7 k false 0 Qd H4 _ b u85 u86 u87 x7 x6 h74 k2 n7j (Nat.lt_of_lt_of_le S.l7 k1.1) e9 (fun YH H5 m1 m2 m3 m4=> ?_);have h65:=(m1.2 (o3+2) (Nat.lt_of_lt_of_le S.l6 k1.1) (by simpa using n67)).trans h64;have oU':=S.rU.1.one;have oB':=S.rB.1.one;refine ah ?_;have rU5:=(S.rU.hf k1 Dj.nil.symm).hf m1 (d _ S.Mx);have rB5:=(S.rB.hf k1 Dj.nil.symm).hf m1 (d _ S.KI);have pf5: ∀a,HF [o3+2] H5 (H5.put (o3+2) a):=fun a=>HF.put (.inl (by simp)) (HF.refl _ _);have d6: ∀j,(o3+2∉j)->Dj j [o3+2]:=fun j h1 x hx hm=>h1 (List.mem_singleton.1 hm▸hx);exact bQ (.cons ((rU5.hf (pf5 _) (d6 _ S.n6U)).fz (jA Nd.pu)) (.cons ((rB5.hf (pf5 _) (d6 _ S.Vq)).fz dF) (aQ (.cons (.pure _ (.bool _)) .nil))))
end Go.VL
end
section
namespace Go.VL
structure Co where
 form:Fo
 eq:Bool
deriving DecidableEq
def Co.cells (x:Co):List PV:=[(.ak (x.form.us.map (eu Nd.cells)) (nz x.form.us)),(.ak (x.form.cs.map aS) (nz x.form.cs)),(.int .i64 x.form.num),(.bool x.form.bad),(.bool x.eq)]
theorem Co.jC (x:Co):x.cells=[(.ak (x.form.us.map (eu Nd.cells)) (nz x.form.us)),(.ak (x.form.cs.map aS) (nz x.form.cs)),(.int .i64 x.form.num),(.bool x.form.bad),(.bool x.eq)]:=rfl
theorem Co.pu (x:Co): ∀c∈x.cells,Pu c:=aX.mem (.cons (LJ (jA Nd.pu) _) (.cons (LJ dF _) (.cons (.int _ _) (.cons (.bool _) (.cons (.bool _) .nil)))))
attribute [go_sem] Co.jC
end Go.VL
end
