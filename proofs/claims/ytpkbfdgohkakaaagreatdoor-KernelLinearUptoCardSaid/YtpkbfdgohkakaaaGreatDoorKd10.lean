/- Part 10. -/
import Derived.Test.YtpkbfdgohkakaaaGreatDoorKd9
import Derived.Test.YtpkbfdgohkakaaaGreatDoorProg
import Derived.KernelRfl
set_option maxRecDepth 8000
set_option linter.unusedVariables false
set_option linter.unusedSectionVars false
set_option linter.unusedSimpArgs false
section
namespace Go.VL
open Go.Proofs Go.RowKit
def KL (taken:List Str) (F:Nat):Nat->ajj
 |0=>fun _ _ _ _=>none
 |k+1=>fun e c bound called=>(uj e).bind fun root=>(Ah F root).bind fun nm=>(cond nm (xL F bound called root.text) (some root.text)).bind fun t=>
  (Bv taken F (root.kind==16||root.kind==17) root.names c).bind fun p=>
       if root.names.length<=1000000/\root.args.length<=1000000/\bound.length<=1000000/\called.length<=1000000 then
        (Jq (KL taken F k) F e {root with text:=t} p.1 bound called root.args.length 0 p.2).bind fun q=>
         (Lv F {root with text:=t,names:=p.1} q.1).bind fun r=>some (r,q.2)else none
theorem auC {F:Nat} {root:Nd} {nm:Bool} {t:Str} {bound called:List Str} {p:Nat} {σ:Nat->PV} {H:AH} {Q:Post} (hnm:Ah F root=some nm) (ht:(cond nm (xL F bound called root.text) (some root.text))=some t)
 (s2:σ 2= .ah (bound.map aF) .unk) (s3:σ 3= .ah (called.map aF) .unk) (s9:σ 9= .ref p 0) (hp:H.obj p=some (kR root (.ah (root.names.map aF) .unk)))
 (q0: ∀σ' H',(∀j,j<21->σ' j=σ j)->H'.obj p=some (kR {root with text:=t} (.ah (root.names.map aF) .unk))->HF [p] H H'->H'.next=H.next->(∀c3,aR H c3->aR H' c3)->Q .normal σ' H'):W Tryz.prog Tj Q σ H:=by
 refine aI ?_;unfold Tj;have hp':=hp;unfold kR at hp';simp -implicitDefEqProofs only [go_sem,s9,hp',V1,R0,List.take,List.drop];refine av (Zn hnm) ?_;cases nm with
 |false=>
  cases ht;simp -implicitDefEqProofs only [go_sem];refine q0 _ H (fun j hj=> ?_) hp (HF.refl _ _) rfl (fun _ h=>h);have:j≠21/\j≠22:=by omega
  simp only [upd,this,↓reduceIte]
 |true=>
  simp -implicitDefEqProofs only [go_sem,s2,s3,s9,hp'];refine av (ajf ht) ?_;simp -implicitDefEqProofs only [go_sem,s9];refine Wp (id:=p) (o:=2) (vs:=[.str t]) (cs:=kR root (.ah (root.names.map aF) .unk)) aC aC hp rfl (by show 3<=5;decide) rfl ?_;have hput:putCells (kR root (.ah (root.names.map aF) .unk)) 2 [.str t]=kR {root with text:=t} (.ah (root.names.map aF) .unk):=rfl;rw [hput];simp -implicitDefEqProofs only [go_sem];refine q0 _ _ (fun j hj=> ?_) (by show(if p=p then _ else _)=_;rw [if_pos rfl]) ⟨R0 _,fun a ha hm=> ?_⟩ rfl (fun c3 h=>h.put)
  · have:j≠21/\j≠22/\j≠23/\j≠24/\j≠25/\j≠26/\j≠27/\j≠28:=by omega
    simp only [upd,this,↓reduceIte]
  · show(if a=p then _ else _)=_
    rw [if_neg (fun e=>hm (P0.2 e))]
theorem azw {o:Nat} {taken:List Str} {cl:Ck} {F:Nat}: ∀k,azs o taken cl (KL taken F k):=by
 intro k
 induction k with
 |zero=>intro e c bound called r c' h;cases h
 |succ k ih=>
  intro e c bound called r c' h H ho lo;rw [KL]at h;obtain⟨root,hroot,h1⟩:=aj h;obtain⟨nm,hnm,h2⟩:=aj h1;obtain⟨t,ht,h3⟩:=aj h2;obtain⟨⟨nn,c1⟩,hnn,h4⟩:=aj h3;obtain⟨⟨hb1,hb2,hb3,hb4⟩,h5⟩:=aX h4;obtain⟨⟨ps,c2⟩,hps,h6⟩:=aj h5;obtain⟨r',ash,h7⟩:=aj h6;cases h7;clear h h1 h2 h3 h4 h5 h6;refine aL aBM (by simp) (aI ?_);unfold aqw;simp -implicitDefEqProofs only [go_sem];refine av (an0 hroot) ?_;simp -implicitDefEqProofs only [go_sem,dB,R0];obtain⟨H1,hH1⟩: ∃H1,H1=(H.new [.int .i64 0,.int .i64 0,.str [],.ah [] .nil,.ah [] .nil]).put H.next (kR root (.ah (root.names.map aF) .unk)):=⟨_,rfl⟩;have e1:(H.new [.int .i64 0,.int .i64 0,.str [],.ah [] .nil,.ah [] .nil]).put H.next [.int .i64 root.kind,.int .i64 root.n,.str root.text,.ah (root.names.map aF) .unk,.ah (root.args.map aK) .unk]=H1:=hH1.symm;have hf1:HF [] H H1:=by rw [hH1];exact HF.put (.inr (R0 _)) (HF.new (HF.refl _ _))
  have op1:H1.obj H.next=some (kR root (.ah (root.names.map aF) .unk)):=by rw [hH1];show(if H.next=H.next then _ else _)=_;rw [if_pos rfl]
  have nx1:H1.next=H.next+1:=by rw [hH1];rfl
  have ok1: ∀c3,aR H c3->aR H1 c3:=fun c3 h=>by rw [hH1];exact h.new.put
  simp only [e1];clear hH1 e1;refine auC (p:=H.next) hnm ht aC aC aC op1 fun σ2 H2 Ws op2 hf2 nx2 ok2=> ?_;have t0:σ2 0= .ref o 0:=(Ws 0 (by decide)).trans aC;have t1:σ2 1=gH e:=(Ws 1 (by decide)).trans aC;have t2:σ2 2= .ah (bound.map aF) .unk:=(Ws 2 (by decide)).trans aC;have t3:σ2 3= .ah (called.map aF) .unk:=(Ws 3 (by decide)).trans aC;have t9:σ2 9= .ref H.next 0:=(Ws 9 (by decide)).trans aC;obtain⟨old,hold⟩: ∃old:Nd,old={root with text:=t}:=⟨_,rfl⟩;have k1:old.kind=root.kind:=by rw [hold]
  have g1:old.args=root.args:=by rw [hold]
  have m1:old.names=root.names:=by rw [hold]
  have hj2:({root with text:=t,names:=nn}:Nd)={old with names:=nn}:=by rw [hold]
  rw [hj2]at ash;rw [<-hold]at op2 hps;rw [<-m1]at op2 hnn;rw [<-k1]at hnn;clear hold hj2;have hop2:o≠H.next:=by omega
  have ho2:H2.obj o=some [.ah (taken.map aF) cl,.int .i64 c]:=(hf2.2 o (K0 lo hf1.1) (fun hm=>hop2 (P0.1 hm))).trans ((hf1.2 o lo D0).trans ho);have azx:=op2;unfold kR at azx;have hne: ¬(H.next=H2.next):=by omega
  have hne': ¬(H2.next=H.next):=by omega
  simp -implicitDefEqProofs only [go_sem,dB,t9,azx,hne,hne',V1,R0,List.take,List.drop];obtain⟨H4,hH4⟩: ∃H4,H4=((H2.new [.int .i64 0,.int .i64 0,.str [],.ah [] .nil,.ah [] .nil]).put H2.next (kR old (.ah (old.names.map aF) .unk))).put H.next (kR old (.ah [] .nil)):=⟨_,rfl⟩;have e4:((H2.new [.int .i64 0,.int .i64 0,.str [],.ah [] .nil,.ah [] .nil]).put H2.next [.int .i64 old.kind,.int .i64 old.n,.str old.text,.ah (old.names.map aF) .unk,.ah (old.args.map aK) .unk]).put H.next [.int .i64 old.kind,.int .i64 old.n,.str old.text,.ah [] .nil,.ah (old.args.map aK) .unk]=H4:=hH4.symm;have op4:H4.obj H.next=some (kR old (.ah [] .nil)):=by rw [hH4];show(if H.next=H.next then _ else _)=_;rw [if_pos rfl]
  have ob4:H4.obj H2.next=some (kR old (.ah (old.names.map aF) .unk)):=by
   rw [hH4];show(if H2.next=H.next then _ else if H2.next=H2.next then _ else _)=_;rw [if_neg (fun e=>hne e.symm),if_pos rfl]
  have ot4: ∀j,j<H2.next->j≠H.next->H4.obj j=H2.obj j:=fun j h1 h2=>by
   rw [hH4];show(if j=H.next then _ else if j=H2.next then _ else if j=H2.next then _ else _)=_;rw [if_neg h2,if_neg (by omega),if_neg (by omega)]
  have nx4:H4.next=H2.next+1:=by rw [hH4];rfl
  have ok4: ∀c3,aR H2 c3->aR H4 c3:=fun c3 h=>by rw [hH4];exact h.new.put.put
  simp only [e4];clear hH4 e4;have ho4:H4.obj o=some [.ah (taken.map aF) cl,.int .i64 c]:=(ot4 o (by omega) hop2).trans ho2;have azy:=ob4;unfold kR at azy;obtain⟨fx,hfx⟩: ∃fx,fx=(old.kind==16||old.kind==17):=⟨_,rfl⟩;rw [<-hfx]at hnn
  have key: ∀σ3,(∀j,j<31->j≠11->j≠12->σ3 j=upd (upd (upd σ2 (some 29) (PV.agg (kR old (.ah (old.names.map aF) .unk)))) (some 10) (PV.ref H2.next 0)) (some 30) (PV.ref H.next 3) j)->σ3 11= .bool fx->σ3 12= .int .i64 0->
   WS Tryz.prog IL.loop [Fm.block 0,Fm.seq ((AC.ops [oR 13 (RK.AO (AE.c (PV.ah [] Ck.nil)))]).seq (((AC.ops [oI 14 0]).seq (AC.block 2 IQ.loop)).seq ((AC.ops [oA 115 5 9,oM 116 13,oC 117 118 [AE.t 115,AE.t 116],oM 8 117]).seq AC.ret)))]
    (Iy [RV.tmp 8] fun v H'=>v=gH r/\H'.obj o=some [PV.ah (List.map aF taken) cl,PV.int IntKind.i64 c2]/\HF [o] H H'/\ ∀(c3:Ck),aR H c3->aR H' c3) σ3 H4:=by
   intro σ3 fr3 s11 s12;have u0:σ3 0= .ref o 0:=(fr3 0 (by decide) (by decide) (by decide)).trans aC;have u1:σ3 1=gH e:=(fr3 1 (by decide) (by decide) (by decide)).trans aC;have u2:σ3 2= .ah (bound.map aF) .unk:=(fr3 2 (by decide) (by decide) (by decide)).trans aC;have u3:σ3 3= .ah (called.map aF) .unk:=(fr3 3 (by decide) (by decide) (by decide)).trans aC;have u9:σ3 9= .ref H.next 0:=(fr3 9 (by decide) (by decide) (by decide)).trans aC;have u10:σ3 10= .ref H2.next 0:=(fr3 10 (by decide) (by decide) (by decide)).trans aC;have hnl:old.names.length<=1000000:=by rw [m1];exact hb1
   refine auz (n:=old) (o:=o) (p:=H.next) (b:=H2.next) (taken:=taken) (F:=F) (fx:=fx) (cl:=cl) (c':=c1) hnl hop2 (by omega) hne old.names.length 0 [] .nil c nn σ3 H4 (V1 _) rfl (by rw [P1];exact hnn) ho4 op4 ob4 (by omega) (by omega) (by omega) trivial u0 u9 u10 s11 s12 fun Wt H5 ck5 fr5 o5 p5 Q6 kk5=> ?_;have b5:=(Q6.2 H2.next (by omega) (fun hm=>by
    rcases M1.1 hm with q|q
    · omega
    · have:=P0.1 q;omega)).trans ob4
   have w0:Wt 0= .ref o 0:=(fr5 0 (by decide) (by decide)).trans u0;have w1:Wt 1=gH e:=(fr5 1 (by decide) (by decide)).trans u1;have w2:Wt 2= .ah (bound.map aF) .unk:=(fr5 2 (by decide) (by decide)).trans u2;have w3:Wt 3= .ah (called.map aF) .unk:=(fr5 3 (by decide) (by decide)).trans u3;have w9:Wt 9= .ref H.next 0:=(fr5 9 (by decide) (by decide)).trans u9;have w10:Wt 10= .ref H2.next 0:=(fr5 10 (by decide) (by decide)).trans u10;rw [R2]at p5;simp -implicitDefEqProofs only [go_sem];have hal:old.args.length=root.args.length:=by rw [g1]
   refine auB (o:=o) (p:=H.next) (b:=H2.next) (taken:=taken) (F:=F) (cl:=cl) (Wq:=ck5) (rec:=KL taken F k) (e:=e) (old:=old) (nn:=nn) (bound:=bound) (called:=called) (c':=c2) ih hop2 (by omega) (by rw [hal];exact hb2) hb3 hb4 old.args.length 0 [] ps .nil c1 _ H5 (V1 _) (by rw [hal];exact hps) o5 p5 b5 (by have:=Q6.1;omega) (by have:=Q6.1;omega) (by have:=Q6.1;omega) trivial (by rw [j0,hal];omega) aC aC aC aC aC aC aC aC fun σ6 H6 ck6 v9 v13 o6 hf6 kk6=> ?_;have p6:=(hf6.2 H.next (by have:=Q6.1;omega) (fun hm=>hop2 (P0.1 hm).symm)).trans p5;have p6':=p6;unfold kR at p6';rw [R2]at v13;simp -implicitDefEqProofs only [go_sem,v9,v13,p6',V1,R0,List.take,List.drop];refine av (aG.wx (aoB ash) (.agg (.same (.same (.same (.ah (.same .nil))))) (.same .nil))) ?_;simp -implicitDefEqProofs only [go_sem];refine⟨o6,?_,fun c3 h=>kk6 c3 (kk5 c3 (ok4 c3 (ok2 c3 (ok1 c3 h))) (fun t e=>by cases e)) (fun t e=>by cases e)⟩;refine⟨by have:=Q6.1;have:=hf6.1;omega,fun a ha hm=> ?_⟩;have hap:a≠H.next:=by omega
   have hao:a≠o:=fun e=>hm (P0.2 e);rw [hf6.2 a (by have:=Q6.1;omega) hm,Q6.2 a (by omega) (fun h=>by
    rcases M1.1 h with q|q
    · exact hao q
    · exact hap (P0.1 q)),ot4 a (by omega) hap,hf2.2 a (by omega) (fun h=>hap (P0.1 h)),hf1.2 a ha D0]
  cases h16:(old.kind==16)with
  |true=>
   rw [h16]at hfx;simp -implicitDefEqProofs only [go_sem,Tk,h16];refine key _ (fun j hj h1 h2=> ?_) (by rw [hfx];simp -implicitDefEqProofs only [go_sem];try rfl) aC;have:j≠31/\j≠32/\j≠33/\j≠34/\j≠35/\j≠36/\j≠37/\j≠38:=by omega
   simp only [upd,kR,h1,h2,this,↓reduceIte]
  |false=>
   rw [h16]at hfx;simp -implicitDefEqProofs only [go_sem,Tk,h16,azy];refine key _ (fun j hj h1 h2=> ?_) (by rw [hfx];simp -implicitDefEqProofs only [go_sem];try rfl) aC;have:j≠31/\j≠32/\j≠33/\j≠34/\j≠35/\j≠36/\j≠37/\j≠38:=by omega
   simp only [upd,kR,h1,h2,this,↓reduceIte]
end Go.VL
end
section
namespace Go.VL
theorem PN {α β:Type} (f:Nat->α->Option β) (g:α->β): ∀l:List α,(∀x∈l,Ev (fun k=>f k x) (g x))-> ∃K,∀k,K<=k-> ∀x∈l,f k x=some (g x)
 |[],_=>⟨0,fun k _ x hx=>by cases hx⟩
 |a::l,h=>by
  obtain⟨K,hK⟩:=h a A1;obtain⟨L,hL⟩:=PN f g l fun x hx=>h x (I1 _ hx);refine⟨max K L,fun k hk x hx=> ?_⟩;rcases M1.1 hx with rfl|hx
  · exact hK k (by omega)
  · exact hL k (by omega) x hx
theorem ZL (c:Nat):OU ((c:Int)+1)=bN (c+1):=rfl
section
variable {left:List Str}
theorem alL {K:Nat} (hK: ∀k,K<=k-> ∀x∈List.range 9002,bO k left (bN x)=some (decide (bN x∈left))):
 ∀(f c F:Nat),left.length<=f+cnt left c->c+f<=9000->K+f+1<=F->Dw left F (c:Int)=some (bN (F3 left f c),((F3 left f c:Nat):Int)):=by
 intro f
 induction f with
 |zero=>
  intro c F h1 h2 h3;obtain⟨F,rfl⟩: ∃j,F=j+1:=⟨F -1,by omega⟩;have hn:bN (c+1)∉left:=fun hm=>by
   have h4:=EU left c;have h5:=Wj left (c+1);rw [if_pos hm]at h4;omega
  rw [Dw,if_pos (by omega),ZL,hK F (by omega) (c+1) (B5.2 (by omega)),W0,B0 hn,O2];rfl
 |succ f ih=>
  intro c F h1 h2 h3;obtain⟨F,rfl⟩: ∃j,F=j+1:=⟨F -1,by omega⟩;rw [Dw,if_pos (by omega),ZL,hK F (by omega) (c+1) (B5.2 (by omega)),W0];by_cases hm:bN (c+1)∈left
  · have h4:=EU left c;rw [if_pos hm]at h4;rw [g0 hm,S1,F3,if_pos hm];exact ih (c+1) F (by omega) (by omega) (by omega)
  · rw [B0 hm,O2,F3,if_neg hm];rfl
theorem alM {K:Nat} (hK: ∀k,K<=k-> ∀x∈List.range 9002,lW k left (bN x)=some (decide (bN x∈left))) (hT: ∀k,K<=k-> ∀x∈List.range 9002,FR k ((x:Nat):Int)=some (Lib.decDigits x)):
 ∀(f c F:Nat),left.length<=f+cnt left c->c+f<=9000->K+f+1<=F->Ei left F (c:Int)=some (bN (F3 left f c),((F3 left f c:Nat):Int)):=by
 intro f
 induction f with
 |zero=>
  intro c F h1 h2 h3;obtain⟨F,rfl⟩: ∃j,F=j+1:=⟨F -1,by omega⟩;have hn:bN (c+1)∉left:=fun hm=>by
   have h4:=EU left c;have h5:=Wj left (c+1);rw [if_pos hm]at h4;omega
  have ht:=hT F (by omega) (c+1) (B5.2 (by omega));have hl:=Ki 3 (c+1) (by omega);rw [Ei,if_pos (by omega),show((c:Int)+1)=((c+1:Nat):Int)from rfl,ht,W0,if_pos (by omega),show [98,95]++Lib.decDigits (c+1)=bN (c+1)from(Wi _).symm,hK F (by omega) (c+1) (B5.2 (by omega)),W0,B0 hn,O2];rfl
 |succ f ih=>
  intro c F h1 h2 h3;obtain⟨F,rfl⟩: ∃j,F=j+1:=⟨F -1,by omega⟩;have ht:=hT F (by omega) (c+1) (B5.2 (by omega));have hl:=Ki 3 (c+1) (by omega);rw [Ei,if_pos (by omega),show((c:Int)+1)=((c+1:Nat):Int)from rfl,ht,W0,if_pos (by omega),show [98,95]++Lib.decDigits (c+1)=bN (c+1)from(Wi _).symm,hK F (by omega) (c+1) (B5.2 (by omega)),W0];by_cases hm:bN (c+1)∈left
  · have h4:=EU left c;rw [if_pos hm]at h4;rw [g0 hm,S1,F3,if_pos hm];exact ih (c+1) F (by omega) (by omega) (by omega)
  · rw [B0 hm,O2,F3,if_neg hm]
end
structure Wu (left:List Str) (F:Nat):Prop where
 p: ∀c:Nat,c+left.length<=9000->Dw left F (c:Int)=some (bN (xJ left c),((xJ left c:Nat):Int))
 r: ∀c:Nat,c+left.length<=9000->Ei left F (c:Int)=some (bN (xJ left c),((xJ left c:Nat):Int))
theorem adS (left:List Str) (hl:left.length<=9000): ∃K,∀F,K<=F->Wu left F:=by
 obtain⟨K1,h1⟩:=PN (fun k x=>bO k left (bN x)) (fun x=>decide (bN x∈left)) (List.range 9002) (fun x _=>tK left (bN x) (by omega));obtain⟨K2,h2⟩:=PN (fun k x=>lW k left (bN x)) (fun x=>decide (bN x∈left)) (List.range 9002) (fun x _=>qR left (bN x) (by omega));obtain⟨K3,h3⟩:=PN (fun k (x:Nat)=>FR k (x:Int)) (fun x=>Lib.decDigits x) (List.range 9002) (fun x hx=>by
  have:=B5.1 hx;have h:=aly (n:=(x:Int)) ⟨by omega,by omega⟩;rw [adG]at h;exact h)
 refine⟨K1+K2+K3+left.length+1,fun F hF=>⟨fun c hc=> ?_,fun c hc=> ?_⟩⟩
 · exact alL (K:=K1) (fun k hk x hx=>h1 k hk x hx) left.length c F (by omega) hc (by omega)
 · exact alM (K:=K2+K3) (fun k hk x hx=>h2 k (by omega) x hx) (fun k hk x hx=>h3 k (by omega) x hx) left.length c F (by omega) hc (by omega)
theorem ZM {left:List Str} {F:Nat} (h:Wu left F): ∀(m c:Nat),(ni left m c).2+left.length<=9000->Jp left F m (c:Int)=some ((ni left m c).1,((ni left m c).2:Int))
 |0,c,hc=>rfl
 |m+1,c,hc=>by
  have h1:=(F4 left c).2.1;have h2:=Jm left m (xJ left c);simp only [ni]at hc;rw [Jp,h.p c (by omega),W0,ZM h m (xJ left c) hc];rfl
theorem ZN {left:List Str} {F:Nat} (h:Wu left F): ∀(l:List Str) (c:Nat),(ni left l.length c).2+left.length<=9000->Bv left F false l (c:Int)=some ((ni left l.length c).1,((ni left l.length c).2:Int))
 |[],c,hc=>rfl
 |s::l,c,hc=>by
  have h1:=(F4 left c).2.1;have h2:=Jm left l.length (xJ left c);simp only [I0,ni]at hc;rw [Bv,O2,h.r c (by omega),W0,ZN h l (xJ left c) hc];rfl
theorem ZO {left:List Str} {F:Nat}: ∀(l:List Str) (c:Int),Bv left F true l c=some (l,c)
 |[],c=>rfl
 |s::l,c=>by rw [Bv,S1,W0,ZO l c];rfl
end Go.VL
end
section
namespace Go.VL
open Tm
def qz (k m:Int) (a p:Nat):Nat:=
 if(kX k).getD false=true then(if((p:Int)==IntKind.wrap .i64 ((a:Int) -1))=true then 1 else 0)
 else if k=23 then(if((p:Int)==IntKind.wrap .i64 ((a:Int) -1))=true then 2 else if m=1 then 1 else 3)else 0
def jm:Nat->List Str->List Str
 |1,l=>l
 |2,l=>l.take 1
 |3,l=>l.drop 1
 |_,_=>[]
theorem KM {n:Nd} (h:n.kind=23->1<=n.names.length) (p:Nat):iJ n (p:Int)=some (jm (qz n.kind n.n n.args.length p) n.names):=by
 have hj: ∃b,kX n.kind=some b:=by
  unfold kX
  repeat' first
   |exact⟨_,rfl⟩
   |(generalize(n.kind==_)=b;cases b<;>simp only [S1,O2])
 obtain⟨b,hb⟩:=hj;unfold iJ qz;rw [hb,W0,E2];cases b with
 |true=>
  rw [S1,if_pos rfl];cases((p:Int)==IntKind.wrap .i64 ((n.args.length:Int) -1))<;>rfl
 |false=>
  rw [O2,if_neg (show ¬(false=true) by simp)];by_cases hk:n.kind=23
  · have h2:=h hk;rw [xR (by rw [hk];rfl),if_pos hk,if_pos h2,if_pos h2];cases((p:Int)==IntKind.wrap .i64 ((n.args.length:Int) -1))with
    |true=>rfl
    |false=>
     by_cases hm:n.n=1
     · rw [hm];rfl
     · have:(n.n==1)=false:=O0.2 hm;rw [this,if_neg (show ¬(false=true) by simp),if_neg hm];rfl
  · rw [qc (by rw [O0];exact hk),if_neg hk];rfl
theorem alN {n:Nd} (h:n.kind=23->1<=n.names.length) (p:Nat):Av n p=jm (qz n.kind n.n n.args.length p) n.names:=by
 unfold Av;rw [KM h];rfl
theorem ZP (s:Nat) {l m:List Str} (h:l.length=m.length):(jm s l).length=(jm s m).length:=by
 unfold jm;split<;>simp [h]
theorem adT (s:Nat) (l:List Str):(jm s l).length<=l.length:=by
 unfold jm;split<;>simp<;>omega
theorem ZQ {s:Nat} {l:List Str} {x:Str} (h:x∈jm s l):x∈l:=by
 unfold jm at h;split at h
 · exact h
 · exact CA h
 · exact List.mem_of_mem_drop h
 · cases h
theorem auD {k m:Int} (h:k=16\/k=17) (a p:Nat):qz k m a p=0:=by
 unfold qz;rcases h with rfl|rfl
 · rw [if_neg (by decide),if_neg (by decide)]
 · rw [if_neg (by decide),if_neg (by decide)]
def fF (left:List Str) (x:Nd) (c:Nat):List Str×Nat:=if x.kind=16\/x.kind=17 then(x.names,c)else ni left x.names.length c
def BK (bd:List Scope) (x:Nd):Str:=if kK x=true then l8 bd x.text else x.text
def pE (left:List Str) (bd:List Scope) (c:Nat) (x:Nd):Nd:={x with text:=BK bd x,names:=(fF left x c).1}
def vH (x y:Nd) (a j:Nat):List Scope:=List.zipWith Scope.mk (jm (qz x.kind x.n a j) x.names) (jm (qz x.kind x.n a j) y.names)
mutual
def can (left:List Str) (bd:List Scope) (c:Nat):Tm->Tm×Nat
 | .mk x cs=>(.mk (pE left bd c x) (fU left bd x (pE left bd c x) cs.length 0 (fF left x c).2 cs).1,(fU left bd x (pE left bd c x) cs.length 0 (fF left x c).2 cs).2)
def fU (left:List Str) (bd:List Scope) (x y:Nd) (a j c:Nat):List Tm->List Tm×Nat
 |[]=>([],c)
 |t::ts=>((can left (bd++vH x y a j) c t).1::(fU left bd x y a (j+1) (can left (bd++vH x y a j) c t).2 ts).1,(fU left bd x y a (j+1) (can left (bd++vH x y a j) c t).2 ts).2)
end
theorem F5 {left:List Str} {bd:List Scope} {c:Nat} {x:Nd} {cs:List Tm}:can left bd c (.mk x cs)=(.mk (pE left bd c x) (fU left bd x (pE left bd c x) cs.length 0 (fF left x c).2 cs).1,(fU left bd x (pE left bd c x) cs.length 0 (fF left x c).2 cs).2):=by rw [can]
theorem mW {left:List Str} {bd:List Scope} {x y:Nd} {a j c:Nat} {t:Tm} {ts:List Tm}:fU left bd x y a j c (t::ts)=((can left (bd++vH x y a j) c t).1::(fU left bd x y a (j+1) (can left (bd++vH x y a j) c t).2 ts).1,(fU left bd x y a (j+1) (can left (bd++vH x y a j) c t).2 ts).2):=by rw [fU]
mutual
theorem xM (left:List Str): ∀(t:Tm) (bd:List Scope) (c:Nat),(can left bd c t).1.size=t.size
 | .mk x cs,bd,c=>by rw [F5];simp only [size];rw [Ho left cs]
theorem Ho (left:List Str): ∀(cs:List Tm) (bd:List Scope) (x y:Nd) (a j c:Nat),sizes (fU left bd x y a j c cs).1=sizes cs
 |[],bd,x,y,a,j,c=>by rw [fU]
 |t::ts,bd,x,y,a,j,c=>by rw [mW];simp only [sizes];rw [xM left t,Ho left ts]
end
theorem adU (left:List Str): ∀(cs:List Tm) (bd:List Scope) (x y:Nd) (a j c:Nat),(fU left bd x y a j c cs).1.length=cs.length
 |[],bd,x,y,a,j,c=>by rw [fU]
 |t::ts,bd,x,y,a,j,c=>by rw [mW,I0,I0,adU left ts]
theorem Hq (left:List Str): ∀(cs:List Tm) (b:Nat) (bd:List Scope) (x y:Nd) (a j c:Nat),roots b (fU left bd x y a j c cs).1=roots b cs
 |[],b,bd,x,y,a,j,c=>by rw [fU]
 |t::ts,b,bd,x,y,a,j,c=>by rw [mW,roots,roots,xM,Hq left ts]
theorem YA (left:List Str): ∀(cs:List Tm) (bd:List Scope) (x y y':Nd) (a j c:Nat),y.names=y'.names->fU left bd x y a j c cs=fU left bd x y' a j c cs
 |[],bd,x,y,y',a,j,c,h=>by rw [fU,fU]
 |t::ts,bd,x,y,y',a,j,c,h=>by
  have hs:vH x y a j=vH x y' a j:=by unfold vH;rw [h]
  rw [mW,mW,hs,YA left ts bd x y y' a (j+1) _ h]
theorem Jr (left:List Str) (x:Nd) (c:Nat):(fF left x c).1.length=x.names.length:=by
 unfold fF;split
 · rfl
 · exact ZH left _ _
theorem auE (left:List Str) (x:Nd) (c:Nat):c<=(fF left x c).2:=by
 unfold fF;split
 · exact R0 _
 · exact Jm left _ _
mutual
theorem azz (left:List Str): ∀(t:Tm) (bd:List Scope) (c:Nat),c<=(can left bd c t).2
 | .mk x cs,bd,c=>by rw [F5];exact E1 (auE left x c) (Cv left cs _ _ _ _ _ _)
theorem Cv (left:List Str): ∀(cs:List Tm) (bd:List Scope) (x y:Nd) (a j c:Nat),c<=(fU left bd x y a j c cs).2
 |[],bd,x,y,a,j,c=>by rw [fU];exact R0 _
 |t::ts,bd,x,y,a,j,c=>by rw [mW];exact E1 (azz left t _ _) (Cv left ts _ _ _ _ _ _)
end
end Go.VL
end
section
namespace Go.VL
open Go.Proofs Go.RowKit
theorem auF {H:AH} {n:Nd} {z:NV} {p:Nat} {r:List Str} {bi:Bool} (hbi:lY n.kind=some bi) (hz:bi=true->jF H (n,z)) (h:iJ n (p:Int)=some r):aW Tryz.prog 240 [.agg (kD (n,z)),.int .i64 p] H fun v H'=>rJ H' r v z.ids/\HF [] H H'/\ ∀c,aR H c->aR H' c:=by
 cases bi with
 |true=>exact adK (hz rfl) h
 |false=>
  have:=alJ (ZK hbi) h;subst this;exact alI (ZK hbi)
theorem adV {l l':List (Nd×NV)} {id o:Nat} (h:l'.map (·.2)=l.map (·.2)):mF l' id o=mF l id o:=by
 unfold mF
 have: ∀l:List (Nd×NV),(l.map fun x=>x.2.ids)=(l.map (·.2)).map NV.ids:=fun l=>by rw [E7];rfl
 rw [this,this,h]
def azA (v:PV) (id o lo:Nat) (left:List Str) (cl:Ck) (rec:ajh):Prop:=
 ∀(out:List Nd) (c:Int) (i:Nat) (bound:List Scope) (out':List Nd) (c':Int),rec out c i bound=some (out',c')-> ∀(H:AH) (l:List (Nd×NV)),lS H l v id o lo left cl c->l.map (·.1)=out->
   aW Tryz.prog 258 [.ref o 0,.int .i64 i,.ah (bound.map Scope.cells) .unk] H fun _ H'=> ∃l',l'.map (·.1)=out'/\l'.map (·.2)=l.map (·.2)/\lS H' l' v id o lo left cl c'/\HF (mF l id o) H H'
section
variable {v:PV} {id o lo:Nat} {left:List Str} {cl:Ck} {rec:ajh} {i q b N:Nat} {old:Nd} {z:NV} {bi:Bool} {bound:List Scope} {args:List Int} {Q:Post} {out':List Nd} {c':Int}
theorem alO (hrec:azA v id o lo left cl rec) (hbi:lY old.kind=some bi) (hbd:bound.length<=1000000) (hal:args.length<=1000000) (hqN:N<=q) (hbN:N<=b) (hzN:bi=true-> ∀a∈z.ids,N<=a) {ck:Ck}:
 ∀(m j:Nat) (out:List Nd) (c:Int) (l:List (Nd×NV)) (σ:Nat->PV) (H:AH),j+m=args.length->PK rec old i bound (args.drop j) j out c=some (out',c')->lS H l v id o lo left cl c->l.map (·.1)=out->(∀a∈mF l id o,a<N)->N<=H.next->
   (bi=true->jF H (old,z))->q<H.next->b<H.next->H.obj q=some [.ref id (i*5)]->H.obj b=some (kD (old,z))->σ 0= .ref o 0->σ 2= .ah (bound.map Scope.cells) ck->σ 6= .ref q 0->σ 9= .ref b 0->σ 76= .ah (args.map aK) .unk->σ 77= .int .i64 args.length->σ 78= .int .i64 j->
   (∀σ' H' l',l'.map (·.1)=out'->l'.map (·.2)=l.map (·.2)->lS H' l' v id o lo left cl c'->HF (mF l id o) H H'->Q (.exit 4) σ' H')->W Tryz.prog (.loop Mw) Q σ H:=by
 intro m
 induction m with
 |zero=>
  intro j out c l σ H hj hA hV hl hN hNn hz hq hb ho Dx s0 s2 s6 s9 s76 s77 s78 q0;rw [P4 (by omega)]at hA;cases hA;have hge:decide ((j:Int)<(args.length:Int))=false:=B0 (by omega);refine bB (fun K hK=>aI ?_);unfold Mw;simp -implicitDefEqProofs only [go_sem,s77,s78,hge];exact q0 _ H l hl rfl hV (HF.refl _ _)
 |succ m ih=>
  intro j out c l σ H hj hA hV hl hN hNn hz hq hb ho Dx s0 s2 s6 s9 s76 s77 s78 q0;have hja:j<args.length:=by omega
  rw [N1 hja,PK]at hA;obtain⟨n,hn,hA1⟩:=aj hA;obtain⟨x,hx,hA2⟩:=aj hA1;obtain⟨y,hy,hA3⟩:=aj hA2;obtain⟨⟨hxy,hx1,ha0⟩,hA4⟩:=aX hA3;obtain⟨⟨aHo,c1⟩,hr,hA5⟩:=aj hA4;clear hA hA1 hA2 hA3 hA4;subst hl;rw [J0]at hn;obtain⟨⟨n0,y0⟩,Wv,hn⟩:=Z1.1 hn;simp only at hn;subst hn;have hlt:decide ((j:Int)<(args.length:Int))=true:=g0 (by omega);have Kn:q∉mF l id o:=fun hm=>by have:=hN q hm;omega
  have aHp:(args.map aK)[j]? =some (aK args[j]):=by rw [J0,W2 hja];rfl
  refine bB (fun K hK=>aI ?_);unfold Mw;simp -implicitDefEqProofs only [go_sem,s76,s77,s78,hlt,s2,aHp];refine av (alE bound) ?_;have azB:=Dx;unfold kD at azB;simp -implicitDefEqProofs only [go_sem,s9,azB,V1,R0,List.take,List.drop];refine aW.mono (auF hbi hz hx) ?_;rintro v87 H1 ⟨hB,hf1,hok1⟩;have hlen:=hB.len;have hV1:=hV.new hf1 (fun _ h=>by cases h);have ho1:=(hf1.2 q hq D0).trans ho;simp -implicitDefEqProofs only [go_sem,hlen];refine alH (l:=l) (i:=i) (n:=n0) (y:=y0) (q:=q) (j:=j) (a:=x) (b:=y) (ids:=z.ids) (v87:=v87) (v:=v) (id:=id) (o:=o) (lo:=lo) (left:=left) (cl:=cl) (c:=c) Wv Kn hy hxy hx1 x.length 0 bound .exact _ H1 (V1 _) hB hV1 trivial aC aC aC aC aC aC (K0 hq hf1.1) ho1 (by omega) fun σ' H2 Eu fr e13 hf2=> ?_;have wC:=hf1.tr hf2;have hV2:=hV1.new hf2 (fun _ h=>by cases h);rw [P1,P1]at e13;have t0:σ' 0= .ref o 0:=(fr 0 (by decide) (by decide)).trans aC;have t12:σ' 12= .int .i64 args[j]:=(fr 12 (by decide) (by decide)).trans aC;have t2:σ' 2= .ah (bound.map Scope.cells) ck:=(fr 2 (by decide) (by decide)).trans aC;have t6:σ' 6= .ref q 0:=(fr 6 (by decide) (by decide)).trans aC;have t9:σ' 9= .ref b 0:=(fr 9 (by decide) (by decide)).trans aC;have t76:σ' 76= .ah (args.map aK) .unk:=(fr 76 (by decide) (by decide)).trans aC;have t77:σ' 77= .int .i64 args.length:=(fr 77 (by decide) (by decide)).trans aC;have t78:σ' 78= .int .i64 j:=(fr 78 (by decide) (by decide)).trans aC;simp -implicitDefEqProofs only [go_sem,t0,t12,e13];have aHq:args[j]=((args[j].toNat:Nat):Int):=by omega
  rw [aHq];refine aW.mono (aW.wk (hrec _ _ _ _ _ _ hr H2 l hV2 rfl) (.same (.same (.ah .nil)))) ?_;rintro _ H3 ⟨l',r1,r2,r3,hf3⟩;have hw:IntKind.wrap .i64 ((j:Int)+1)=((j+1:Nat):Int):=by rw [IntKind.wrap_i64];omega
  simp -implicitDefEqProofs only [go_sem,t78,hw];have hM: ∀a∈mF l' id o,a<N:=by rw [adV r2];exact hN
  have aoH:q<H2.next:=K0 hq wC.1;have azC:b<H2.next:=K0 hb wC.1;have hbM:b∉mF l id o:=fun hm=>by have:=hN b hm;omega
  have o2:H2.obj q=_:=(wC.2 q hq D0).trans ho;have b2:H2.obj b=_:=(wC.2 b hb D0).trans Dx;have hz3:bi=true->jF H3 (old,z):=fun h=>((hz h).hf wC (fun _ _ h=>by cases h)).hf hf3 fun a ha hm=>by have:=hzN h a ha;have:=hN a hm;omega
  refine hK _ _ (ih (j+1) aHo c1 l' _ H3 (by omega) hA5 r3 r1 hM (E1 hNn (E1 wC.1 hf3.1)) hz3 (K0 aoH hf3.1) (K0 azC hf3.1) ((hf3.2 q aoH Kn).trans o2) ((hf3.2 b azC hbM).trans b2) (by simp -implicitDefEqProofs only [go_sem,t0]) (by simp -implicitDefEqProofs only [go_sem,t2]) (by simp -implicitDefEqProofs only [go_sem,t6]) (by simp -implicitDefEqProofs only [go_sem,t9]) (by simp -implicitDefEqProofs only [go_sem,t76]) (by simp -implicitDefEqProofs only [go_sem,t77]) (by simp -implicitDefEqProofs only [go_sem]) fun PO H4 l4 u1 u2 u3 u4=> ?_);refine q0 PO H4 l4 u1 (u2.trans r2) u3 (((wC.up fun a ha=>by cases ha).tr hf3).tr ?_);rw [adV r2]at u4;exact u4
end
theorem HF.old {M M':List Nat} {H H1 H2:AH} (h:HF M H H1) (h':HF M' H1 H2) (hs: ∀a∈M',a<H.next->a∈M):HF M H H2:=
 ⟨E1 h.1 h'.1,fun a ha hm=>(h'.2 a (K0 ha h.1) fun hm'=>hm (hs a hm' ha)).trans (h.2 a ha hm)⟩
theorem auG {v:PV} {id o lo:Nat} {left:List Str} {cl:Ck} {F:Nat}: ∀k,azA v id o lo left cl (KJ left F k):=by
 intro k
 induction k with
 |zero=>intro out c i bound out' c' h;cases h
 |succ k ih=>
  intro out c i bound out' c' h H l hV hl;rw [KJ]at h;obtain⟨n,hn,h1⟩:=aj h;obtain⟨nm,hnm,h2⟩:=aj h1;obtain⟨bi,hbi,h3⟩:=aj h2;obtain⟨⟨n2,c2⟩,PS,h4⟩:=aj h3;obtain⟨⟨hb1,hn1,ha1⟩,hA⟩:=aX h4;clear h h1 h2 h3 h4;subst hl;rw [J0]at hn;obtain⟨⟨n0,y⟩,Wv,hn⟩:=Z1.1 hn;simp only at hn;subst hn;obtain⟨id0,C,e1,hid,hC,hcell,hle,hdrop,hI⟩:=aB.content hV.own.row Wv;obtain rfl:id=id0:=by simpa using e1
  have hI':jS 5 v (.int .i64 i)=some (.ref id (i*5)):=hI .i64 i (by omega) (by omega);have hoo:=hV.obj;refine aL aCb (by simp) (aI ?_);unfold aqV;simp -implicitDefEqProofs only [go_sem,dB,hoo,hI',R0];obtain⟨H1,hH1⟩: ∃H1,H1=(H.new [.nW]).put H.next [.ref id (i*5)]:=⟨_,rfl⟩;rw [<-hH1];have hf1:HF [] H H1:=by
   rw [hH1];exact HF.put (.inr (R0 _)) (HF.new (HF.refl _ _))
  have oq1:H1.obj H.next=some [.ref id (i*5)]:=by
   rw [hH1];show(if H.next=H.next then some _ else _)=_;rw [if_pos rfl]
  have nx1:H.next<H1.next:=by rw [hH1];exact A2 _
  clear hH1;have hV1:=hV.new hf1 (fun a ha=>by cases ha);have Kn:H.next∉mF l id o:=fun hm=>d8 _ (hV.lts _ hm);refine azl (l:=l) (i:=i) (n:=n0) (y:=y) (q:=H.next) (bound:=bound) (ck:= .unk) (nm:=nm) (k:=F) hV1 Wv aC aC nx1 Kn oq1 hnm (by omega) fun σ2 H2 Ws hV2 hf2 oq2=> ?_;obtain⟨n1,adW⟩: ∃n1:Nd,n1={n0 with text:=if nm=true then l8 bound n0.text else n0.text}:=⟨_,rfl⟩;have k1:n1.kind=n0.kind:=by rw [adW]
  have g1:n1.args=n0.args:=by rw [adW]
  have m1:n1.names=n0.names:=by rw [adW]
  rw [<-adW]at hV2 PS hA;clear adW;have hi:=(S0.1 Wv).1;have azD:(l.set i (n1,y))[i]? =some (n1,y):=by rw [r8,if_pos rfl,if_pos hi]
  have es2:mF (l.set i (n1,y)) id o=mF l id o:=adL Wv;obtain⟨id2,C2,e2,aMv,hC2,hcell2,hle2,azE,hI2⟩:=aB.content hV2.own.row azD;obtain rfl:id=id2:=by simpa using e2
  have h52:=hle2 5 (R0 _);have t6:σ2 6= .ref H.next 0:=(Ws 6 (by decide)).trans aC;have t0:σ2 0= .ref o 0:=(Ws 0 (by decide)).trans aC;have t2:σ2 2= .ah (bound.map Scope.cells) .unk:=(Ws 2 (by decide)).trans aC;simp -implicitDefEqProofs only [go_sem,t6,oq2,hC2,azE,h52];have hcs:cellsOf (.agg (kD (n1,y)))=some (kD (n1,y)):=rfl;have hone:(kD (n1,y)).all PV.one=true:=by cases y<;>rfl
  have onew:(H2.new [.int .i64 0,.int .i64 0,.str [],.ah [] .nil,.ah [] .nil]).obj H2.next=some [.int .i64 0,.int .i64 0,.str [],.ah [] .nil,.ah [] .nil]:=by
   show(if H2.next=H2.next then some _ else _)=_
   rw [if_pos rfl]
  refine Wp (id:=H2.next) (o:=0) (vs:=kD (n1,y)) (cs:=[.int .i64 0,.int .i64 0,.str [],.ah [] .nil,.ah [] .nil]) aC (by simp -implicitDefEqProofs only [go_sem,hcs]) onew rfl (by show 5<=5;decide) hone ?_;have hput:putCells [.int .i64 0,.int .i64 0,.str [],.ah [] .nil,.ah [] .nil] 0 (kD (n1,y))=kD (n1,y):=by cases y<;>rfl
  rw [hput];obtain⟨H3,hH3⟩: ∃H3,H3=(H2.new [.int .i64 0,.int .i64 0,.str [],.ah [] .nil,.ah [] .nil]).put H2.next (kD (n1,y)):=⟨_,rfl⟩;rw [<-hH3];have hf3:HF [] H2 H3:=by
   rw [hH3];exact HF.put (.inr (R0 _)) (HF.new (HF.refl _ _))
  have ob3:H3.obj H2.next=some (kD (n1,y)):=by
   rw [hH3];show(if H2.next=H2.next then some _ else _)=_;rw [if_pos rfl]
  have nx3:H2.next<H3.next:=by rw [hH3];exact A2 _
  clear hH3;have nx2:H.next<H2.next:=K0 nx1 hf2.1;have hV3:=hV2.new hf3 (fun a ha=>by cases ha);have oq3:=(hf3.2 H.next nx2 D0).trans oq2;simp -implicitDefEqProofs only [go_sem];refine azp (l:=l.set i (n1,y)) (i:=i) (n:=n1) (n':=n2) (y:=y) (q:=H.next) (b:=H2.next) (F:=F) (bi:=bi) (c:=c) (c':=c2) hV3 azD (by rw [m1];exact hn1) (by rw [es2];exact Kn) (fun hm=>by rw [es2]at hm;have:=hV.lts _ hm;omega) (by omega) aC aC aC (Nat.lt_trans nx2 nx3) nx3 oq3 ob3 (by rw [k1];exact hbi) PS fun PO H4 z fr4 hV4 hz4 hf4 oq4 ob4=> ?_;rw [List.set_set]at hV4;have aHr:(l.set i (n2,y))[i]? =some (n2,y):=by rw [r8,if_pos rfl,if_pos hi]
  have es4:mF (l.set i (n2,y)) id o=mF l id o:=adL Wv;obtain⟨id4,C4,e4,aMw,hC4,azG,aMx,aJ4,hI4⟩:=aB.content hV4.own.row aHr;obtain rfl:id=id4:=by simpa using e4
  have c4:C4[i*5+4]? =some (.ah (n2.args.map aK) .unk):=azG 4 _ rfl;have g2:n2.args=n0.args:=by
   rw [<-g1];cases bi with
   |false=>cases PS;rfl
   |true=>obtain⟨p,_,hp⟩:=aj PS;cases hp;rfl
  rw [g2]at c4;have u6:PO 6= .ref H.next 0:=(fr4 6 (by decide) (by decide)).trans aC;have u0:PO 0= .ref o 0:=(fr4 0 (by decide) (by decide)).trans aC;have u2:PO 2= .ah (bound.map Scope.cells) .unk:=(fr4 2 (by decide) (by decide)).trans aC;have u9:PO 9= .ref H2.next 0:=(fr4 9 (by decide) (by decide)).trans aC;simp -implicitDefEqProofs only [go_sem,u6,oq4,hC4,c4];have aHs:HF (mF l id o) H H4:=by
   refine HF.old (((hf1.up fun a ha=>by cases ha).tr (hf2.up fun a ha=> ?_)).tr (hf3.up fun a ha=>by cases ha)) hf4 fun a hm ha=> ?_
   · rw [P0.1 ha];simp [mF]
   · rcases M1.1 hm with rfl|hm
     · omega
     · rcases M1.1 hm with rfl|hm
       · exact A1
       · exact I1 _ (I1 _ (Qs Wv hm))
  refine alO (left:=left) (cl:=cl) (rec:=KJ left F k) (i:=i) (q:=H.next) (b:=H2.next) (N:=H.next) (old:=n1) (z:=z) (bi:=bi) (bound:=bound) (args:=n0.args) (out':=out') (c':=c') ih (by rw [k1];exact hbi) hb1 ha1 (R0 _) (Nat.le_of_lt nx2) (fun hbt a ha=> ?_) n0.args.length 0 (out:=(l.map (·.1)).set i n2) (c:=c2) (l:=l.set i (n2,y)) (H:=H4) (ck:= .unk) (σ:=_) (V1 _) (by rw [P1];exact hA) hV4 (by rw [HA]) (by rw [es4];exact hV.lts) (Nat.le_of_lt (K0 nx2 (E1 hf3.1 hf4.1))) (fun h=>(hz4 h).1) (K0 (Nat.lt_trans nx2 nx3) hf4.1) (K0 nx3 hf4.1) oq4 ob4 aC aC aC aC aC aC aC fun Wt H5 l5 w1 w2 w3 w4=> ?_
  · have:=(hz4 hbt).2 a ha;have:=hf1.1;have:=hf2.1;have:=hf3.1;omega
  · skip
    simp -implicitDefEqProofs only [go_sem];refine⟨l5,w1,w2.trans ?_,w3,aHs.tr ?_⟩
    · rw [HA];obtain⟨h,e⟩:=S0.1 Wv
      have:(l.map (·.2))[i]'(by simpa using h)=y:=by rw [List.getElem_map,e]
      rw [<-this,m7]
    · rw [es4]at w4;exact w4
theorem auH {α:Type} {H:AH} {f g:α->List PV} {sz:Nat} {l:List α} {v:PV} {ids:List Nat} [hr:nk f sz] (h:aB H f sz l v ids) (hg: ∀x,(g x).length=sz) (hz: ∀x∈l,∀(j:Nat) (c c':PV),(f x)[j]? =some c->(g x)[j]? =some c'->Fz H c c'):Fz H v (.ah (l.map g) .unk):=by
 have h0:=h;rcases h with⟨rfl,rfl,_⟩|⟨id,cap,junk,rfl,rfl,h2,h3,h4,h5⟩
 · exact .ah [] [] .nil .unk (.inl rfl) rfl (fun i cs cs' e=>by simp at e) (fun i cs cs' e=>by simp at e)
 · refine .bP id 0 l.length cap sz _ _ (fun i j=>((l.map f)[i]?.bind (·[j]?)).getD .any) h4 (by simp) h2 (fun i cs e=> ?_) (fun i cs e j c ec=> ?_) (fun i cs e j c ec=> ?_)
   · simp only [J0,Z1]at e;obtain⟨x,_,rfl⟩:=e;exact hg x
   · simp only [J0,Z1]at e;obtain⟨x,hx,rfl⟩:=e;obtain⟨id',C,e1,_,e2,e3,_⟩:=h0.content hx;cases e1;rw [h4]at e2;cases e2;have hj:j<(f x).length:=by rw [hr.len x,<-hg x];exact(S0.1 ec).1
     rw [J0,hx,X2,W0,W2 hj,E2,V1];exact e3 j _ (W2 hj)
   · simp only [J0,Z1]at e;obtain⟨x,hx,rfl⟩:=e;have hj:j<(f x).length:=by rw [hr.len x,<-hg x];exact(S0.1 ec).1
     rw [J0,hx,X2,W0,W2 hj,E2];exact hz x (B1 hx) j _ _ (W2 hj) ec
theorem auI {H:AH} {n:Nd} {y:NV} (h:jF H (n,y)):KZ H (kD (n,y)) n.cells:=by
 have hn:Fz H y.pv (.ah (n.names.map aF) .unk):=by
  cases y with
  |p l=>
   obtain⟨h1,h2⟩:l=[]/\n.names=[]:=h;subst h1;rw [h2];exact jV gu [] .unk
  |m id len cap=>
   have hr:aB H aF 1 n.names (.bP id 0 len cap 1) [id]:=h.2;exact aB.fz gu hr
 exact .cons (.pure _ (.int _ _)) (gB (.cons (.pure _ (.str _)) (.cons hn (.cons (jV gV n.args .unk) .nil))))
theorem azH {H:AH} {l:List (Nd×NV)} {v:PV} {id lo:Nat} (h:OI H l v id l.length lo):Fz H v (gH (l.map (·.1))):=by
 have:=auH (g:=fun x:Nd×NV=>x.1.cells) h.row (fun _=>rfl) fun x hx j c c' e e'=>by
  obtain⟨i,hi⟩:=S6.1 hx;have hn:=h.Cj i x hi;rw [if_pos (S0.1 hi).1]at hn;obtain⟨n,y⟩:=x;exact(auI hn).get.2 j c c' e e'
 have e2:l.map (fun x:Nd×NV=>x.1.cells)=(l.map (·.1)).map Nd.cells:=by rw [E7];rfl
 rw [e2]at this;exact this
def xX (k:Nat) (e:List Nd):Option (List Nd):=
 if 0<e.length/\e.length<=1000000/\(∀n∈e,n.names.length<=1000000/\n.args.length<=1000000)then
  (Ef k e).bind fun left=>(KJ left k k e 0 (e.length -1) []).bind fun p=>some p.1 else none
theorem alP {k:Nat} {e r:List Nd} {ck:Ck} (h:xX k e=some r):aG Tryz.prog 216 [aaV e ck] (gH r):=by
 refine aG.wk (args:=[gH e]) ?_ (.ah .nil);unfold xX at h;obtain⟨⟨h0,h1,h2⟩,h3⟩:=aX h;obtain⟨left,hleft,h4⟩:=aj h3;obtain⟨⟨out,c'⟩,azI,h5⟩:=aj h4;cases h5;clear h h3 h4;refine aG.bX (dJ.mem (.cons (bK Nd.pu _) .nil)) (aL aBL (by simp) (aI ?_)) (bK Nd.pu _);unfold aqv;simp -implicitDefEqProofs only [go_sem];refine aW.mono (ail e h0 (fun i n hi=>h2 n (B1 hi)) h1 AH.empty) ?_;rintro v H1 ⟨id,l,hle,hO,hf1,hok⟩;subst hle;rw [J1]at hO;simp -implicitDefEqProofs only [go_sem];refine av (aoC k _ hleft) ?_;obtain⟨cap,rfl⟩: ∃cap,v= .bP id 0 l.length cap 5:=by
  rcases hO.row with⟨_,_,h⟩|⟨id',cap,junk,e1,e2,_⟩
  · cases h
  · cases e1;exact⟨cap,e2⟩
 have hlen:((List.map Prod.fst l).map Nd.cells).length=l.length:=by rw [J1,J1]
 have hw:IntKind.wrap .i64 ((l.length:Int) -1)=((l.length -1:Nat):Int):=by
  rw [J1]at h0 h1;rw [IntKind.wrap_i64];omega
 simp -implicitDefEqProofs only [go_sem,List.take,List.drop,List.append_eq];obtain⟨H2,hH2⟩: ∃H2,H2=H1.new [.bP id 0 l.length cap 5,.ah (left.map aF) .unk,.int .i64 0]:=⟨_,rfl⟩;have hf2:HF [] H1 H2:=by rw [hH2];exact HF.new (HF.refl _ _)
 have ob:H2.obj H1.next=some [.bP id 0 l.length cap 5,.ah (left.map aF) .unk,.int .i64 0]:=by
  rw [hH2];show(if H1.next=H1.next then some _ else _)=_;rw [if_pos rfl]
 have nx:H1.next<H2.next:=by rw [hH2];exact A2 _
 have aMy:id<H1.next:=hO.row.lt _ (P0.2 rfl);have hV:lS H2 l (.bP id 0 l.length cap 5) id H1.next AH.empty.next left .unk 0:=by
  refine⟨⟨hO.row.hf hf2 (fun _ _ h=>by cases h),fun i x hx=> ?_,hO.dj,hO.ne,hO.lob,hO.X0⟩,ob,nx,by omega,fun i x hx hm=> ?_⟩
  · have:=hO.Cj i x hx;rw [if_pos (S0.1 hx).1]at this⊢;exact this.hf hf2 (fun _ _ h=>by cases h)
  · have:=hO.Cj i x hx;rw [if_pos (S0.1 hx).1]at this;have:=this.lt _ hm;omega
 rw [J1]at azI;rw [hw,<-hH2];refine aW.mono (aW.wk (auG k _ _ _ [] _ _ azI H2 l hV rfl) (.same (.same (.ah .nil)))) ?_;rintro _ H3 ⟨l',r1,r2,r3,hf3⟩;have o3:=r3.obj;simp -implicitDefEqProofs only [go_sem,o3];subst r1;exact azH r3.own
end Go.VL
end
section
namespace Go.VL
open Tm
theorem ag9 {e:List Nd} (hF:BU e) {i:Nat} {n:Nd} (hn:e[i]? =some n):n.kind=23->1<=n.names.length:=fun hk=>(Uv (hF.ok i n hn) hk).2
theorem afY (k:Int):lY k=some (!decide (k=16\/k=17)):=by
 unfold lY;by_cases h:k=16
 · subst h;rfl
 · by_cases h2:k=17
   · subst h2;rfl
   · rw [show(k !=16)=true by simp [h],show(k !=17)=true by simp [h2]];simp [h,h2]
theorem auJ {left:List Str} {F:Nat} (hFr:Wu left F) (n:Nd) (c:Nat) (hc:(fF left n c).2+left.length<=9000):adO left F (!decide (n.kind=16\/n.kind=17)) n (c:Int)=some ({n with names:=(fF left n c).1},((fF left n c).2:Int)):=by
 unfold fF at hc⊢;unfold adO;by_cases h:n.kind=16\/n.kind=17
 · rw [if_pos h,g0 h];rfl
 · rw [if_neg h]at hc;rw [if_neg h,B0 h];show Option.bind (Jp left F n.names.length (c:Int)) _=_;rw [ZM hFr _ _ hc];rfl
theorem set_mid {α:Type} (pre A post:List α) (n m:α) {i:Nat} (hi:i=pre.length+A.length):(pre++((A++[n])++post)).set i m=pre++((A++[m])++post):=by
 subst hi;rw [j7 _ _ (by omega),show pre.length+A.length -pre.length=A.length by omega,T1,j7 _ _ (by omega),L5,T1];rfl
theorem alQ {left:List Str} {F k:Nat} {out:List Nd} {c c2:Int} {i:Nat} {bd:List Scope} {n n1 n2:Nd} {bi:Bool} (hget:out[i]? =some n) (hnm:nR F n=some (kK n)) (hbi:lY n.kind=some bi)
 (h1:({n with text:=if kK n=true then l8 bd n.text else n.text}:Nd)=n1) (PS:adO left F bi n1 c=some (n2,c2)) (hl:bd.length<=1000000/\n.names.length<=1000000/\n.args.length<=1000000):
 KJ left F (k+1) out c i bd=PK (KJ left F k) n1 i bd n.args 0 (out.set i n2) c2:=by
 subst h1;rw [KJ];simp only [hget,hnm,hbi,W0];rw [PS,W0,if_pos hl]
section
variable {left:List Str} {F:Nat} (hFr:Wu left F) {e:List Nd} (hF:BU e) (hN: ∀n∈e,nR F n=some (kK n))
include hFr hF hN
mutual
theorem adX: ∀(t:Tm) (b:Nat) (bd:List Scope) (c k:Nat) (pre post:List Nd),Seg e b t->pre.length=b->t.size<=k->bd.length+34*(b+t.size -1)<=10000->(can left bd c t).2+left.length<=9000->
 KJ left F k (pre++(flat b t++post)) (c:Int) (b+t.size -1) bd=some (pre++(flat b (can left bd c t).1++post),((can left bd c t).2:Int))
 | .mk x cs,b,bd,c,k,pre,post,hS,hp,hk,hb,hc=>by
  have hn:=hS.node;have hsz:b+(Tm.mk x cs).size -1=b+sizes cs:=by simp only [size];omega
  rw [hsz]at hb⊢;obtain⟨k,rfl⟩: ∃j,k=j+1:=⟨k -1,by simp only [size]at hk;omega⟩;have Eb:=hF.few _ _ hn;have hget:(pre++(flat b (.mk x cs)++post))[b+sizes cs]? =some (nd x b cs):=(show Seg (pre++(flat b (.mk x cs)++post)) b (.mk x cs)from⟨pre,post,rfl,hp⟩).node;have hnb:kK (nd x b cs)=kK x:=rfl;rw [F5]at hc⊢;have hle:=Cv left cs bd x (pE left bd c x) cs.length 0 (fF left x c).2
  have PS:=auJ hFr (nd {x with text:=BK bd x} b cs) c (by
   show(fF left x c).2+left.length<=9000
   simp only at hc;omega)
  rw [alQ (n:=nd x b cs) (n1:=nd {x with text:=BK bd x} b cs) (n2:=nd (pE left bd c x) b cs) (c2:=((fF left x c).2:Int)) hget (hN _ (B1 hn)) (afY _) rfl PS ⟨by omega,by have:=Eb.2;omega,by have:=Eb.1;omega⟩];have hset:(pre++(flat b (.mk x cs)++post)).set (b+sizes cs) (nd (pE left bd c x) b cs)=pre++((aV b []++aV (b+sizes []) cs)++([nd (pE left bd c x) b cs]++post)):=by
   rw [ig,set_mid pre (aV b cs) post _ _ (by rw [hp,dz])];simp only [aV,sizes,R2,S4,T1]
  rw [hset]
  have:=adY cs x (nd (pE left bd c x) b cs) (nd {x with text:=BK bd x} b cs) [] [] b bd (fF left x c).2 k pre post hS hp rfl (by simp only [size]at hk;omega) (by simpa using hb) (by
   have e1:fU left bd x (nd (pE left bd c x) b cs) ([]++cs).length ([]:List Tm).length (fF left x c).2 cs=fU left bd x (pE left bd c x) cs.length 0 (fF left x c).2 cs:=YA left cs _ _ _ _ _ _ _ rfl;rw [e1];exact hc) rfl rfl rfl (by rw [R2];exact iq b cs) rfl rfl (Jr left x c) (by rw [R2];exact iq b cs)
  simp only [R2,j0]at this;have e1:fU left bd x (nd (pE left bd c x) b cs) cs.length 0 (fF left x c).2 cs=fU left bd x (pE left bd c x) cs.length 0 (fF left x c).2 cs:=YA left cs _ _ _ _ _ _ _ rfl;rw [e1]at this;rw [show sizes ([]:List Tm)=0 from rfl,S4]at this;rw [show sizes ([]:List Tm)=0 from rfl,S4];refine this.trans ?_;rw [ig];have e2:nd (pE left bd c x) b (fU left bd x (pE left bd c x) cs.length 0 (fF left x c).2 cs).1=nd (pE left bd c x) b cs:=by unfold nd;rw [Hq]
  rw [e2];simp only [aV,R2,T1]
theorem adY: ∀(cs:List Tm) (x y n1:Nd) (l l':List Tm) (b:Nat) (bd:List Scope) (c k:Nat) (pre post:List Nd),Seg e b (.mk x (l++cs))->pre.length=b->sizes l'=sizes l->sizes cs<=k->bd.length+34*(b+sizes (l++cs))<=10000->
 (fU left bd x y (l++cs).length l.length c cs).2+left.length<=9000->n1.kind=x.kind->n1.n=x.n->n1.names=x.names->n1.args.length=(l++cs).length->y.kind=x.kind->y.n=x.n->y.names.length=x.names.length->y.args.length=(l++cs).length->
 PK (KJ left F k) n1 (b+sizes (l++cs)) bd (roots (b+sizes l) cs) l.length (pre++((aV b l'++aV (b+sizes l) cs)++([y]++post))) (c:Int)=
  some (pre++((aV b l'++aV (b+sizes l) (fU left bd x y (l++cs).length l.length c cs).1)++([y]++post)),((fU left bd x y (l++cs).length l.length c cs).2:Int))
 |[],x,y,n1,l,l',b,bd,c,k,pre,post,hS,hp,hl',hk,hb,hc,m1,m2,m3,m4,y1,y2,y3,y4=>by rw [roots,PK,fU]
 |t::cs,x,y,n1,l,l',b,bd,c,k,pre,post,hS,hp,hl',hk,hb,hc,m1,m2,m3,m4,y1,y2,y3,y4=>by
  have hn:=hS.node;have Eb:=hF.few _ _ hn;have h23:=ag9 hF hn;have hcp:=t.size_pos;have hsz:sizes (l++t::cs)=sizes l+(t.size+sizes cs):=by rw [dG,sizes]
  have hk2:sizes (t::cs)=t.size+sizes cs:=by rw [sizes]
  have hal:(nd x b (l++t::cs)).args.length=(l++t::cs).length:=iq b _;have e1:l++t::cs=(l++[t])++cs:=by simp
  have e2:l.length+1=(l++[t]).length:=by simp
  have e3:b+sizes l+t.size=b+sizes (l++[t]):=by rw [dG,mR];omega
  have hbx:iJ n1 (l.length:Int)=some (jm (qz x.kind x.n (l++t::cs).length l.length) x.names):=by
   rw [KM (by rw [m1,m3];exact h23),m1,m2,m3,m4]
  have hby:iJ y (l.length:Int)=some (jm (qz x.kind x.n (l++t::cs).length l.length) y.names):=by
   rw [KM (by rw [y1,y3];exact h23),y1,y2,y4]
  rw [mW]at hc⊢;obtain⟨t',ht'⟩: ∃t',t'=(can left (bd++vH x y (l++t::cs).length l.length) c t):=⟨_,rfl⟩;have hts:=xM left t (bd++vH x y (l++t::cs).length l.length) c;rw [<-ht']at hc hts⊢;have hcl:=Cv left cs bd x y (l++t::cs).length (l.length+1) t'.2;have hpl:=adT (qz x.kind x.n (l++t::cs).length l.length) x.names;have Rv:(jm (qz x.kind x.n (l++t::cs).length l.length) x.names).length=(jm (qz x.kind x.n (l++t::cs).length l.length) y.names).length:=ZP _ y3.symm;have hnx:x.names.length<=34:=Eb.2;have aMz:(vH x y (l++t::cs).length l.length).length<=34:=by
   unfold vH;rw [List.length_zipWith];omega
  have hget:(pre++((aV b l'++aV (b+sizes l) (t::cs))++([y]++post)))[b+sizes (l++t::cs)]? =some y:=by
   rw [N0 (by omega),N0 (by rw [X1,dz,dz];omega),X1,dz,dz,show b+sizes (l++t::cs) -pre.length -(sizes l'+sizes (t::cs))=0 by omega];rfl
  have hin:=adX t (b+sizes l) (bd++vH x y (l++t::cs).length l.length) c k (pre++aV b l') (aV (b+sizes l+t.size) cs++([y]++post)) hS.kid (by rw [X1,dz];omega) (by omega) (by rw [X1];omega) (by rw [<-ht'];simp only at hc;omega);have aHt:pre++((aV b l'++aV (b+sizes l) (t::cs))++([y]++post))=(pre++aV b l')++(flat (b+sizes l) t++(aV (b+sizes l+t.size) cs++([y]++post))):=by rw [fH];simp only [T1]
  have aC0:(pre++aV b l')++(flat (b+sizes l) t'.1++(aV (b+sizes l+t.size) cs++([y]++post)))=pre++((aV b (l'++[t'.1])++aV (b+sizes (l++[t])) cs)++([y]++post)):=by
   rw [sK,zK,hl',e3];simp only [T1]
  rw [<-ht']at hin;have htn:(((b+sizes l+t.size -1:Nat):Int)).toNat=b+sizes l+t.size -1:=by omega
  rw [roots,PK,hget,W0,hbx,W0,hby,W0,if_pos ⟨by omega,by omega,by omega⟩,htn,show List.zipWith Scope.mk (jm (qz x.kind x.n (l++t::cs).length l.length) x.names) (jm (qz x.kind x.n (l++t::cs).length l.length) y.names)=vH x y (l++t::cs).length l.length from rfl,aHt,hin,W0];simp only;rw [aC0];have hrest:=adY cs x y n1 (l++[t]) (l'++[t'.1]) b bd t'.2 k pre post (by rw [<-e1];exact hS) hp (by rw [dG,dG,mR,mR,hl',hts]) (by omega) (by rw [<-e1];exact hb) (by rw [<-e1,<-e2];exact hc) m1 m2 m3 (by rw [<-e1];exact m4) y1 y2 y3 (by rw [<-e1];exact y4);rw [<-e1,<-e2]at hrest;rw [<-e3,e3];refine hrest.trans ?_;rw [sK,zK,fH,hl',<-e3,hts];simp only [T1]
end
end
mutual
def nmT:Tm->Nat
 | .mk x cs=>x.names.length+ZR cs
def ZR:List Tm->Nat
 |[]=>0
 |t::ts=>nmT t+ZR ts
end
theorem aoM (left:List Str) (x:Nd) (c:Nat):(fF left x c).2+cnt left c<=c+x.names.length+cnt left (fF left x c).2:=by
 unfold fF;split
 · simp only;omega
 · have:=ZI left x.names.length c;omega
mutual
theorem aha (left:List Str): ∀(t:Tm) (bd:List Scope) (c:Nat),(can left bd c t).2+cnt left c<=c+nmT t+cnt left (can left bd c t).2
 | .mk x cs,bd,c=>by
  rw [F5,nmT];have h1:=aoM left x c;have h2:=adZ left cs bd x (pE left bd c x) cs.length 0 (fF left x c).2;simp only;omega
theorem adZ (left:List Str): ∀(cs:List Tm) (bd:List Scope) (x y:Nd) (a j c:Nat),(fU left bd x y a j c cs).2+cnt left c<=c+ZR cs+cnt left (fU left bd x y a j c cs).2
 |[],bd,x,y,a,j,c=>by rw [fU,ZR];simp only;omega
 |t::ts,bd,x,y,a,j,c=>by
  rw [mW,ZR];have h1:=aha left t (bd++vH x y a j) c;have h2:=adZ left ts bd x y a (j+1) (can left (bd++vH x y a j) c t).2;simp only;omega
end
section
variable {e:List Nd} (hF:BU e)
include hF
mutual
theorem asl: ∀(t:Tm) (b:Nat),Seg e b t->nmT t<=34*t.size
 | .mk x cs,b,hS=>by
  have:=(hF.few _ _ hS.node).2;have h2:=alS cs x [] b hS;rw [nmT];simp only [size];have h3:(nd x b cs).names.length=x.names.length:=rfl;omega
theorem alS: ∀(cs:List Tm) (x:Nd) (l:List Tm) (b:Nat),Seg e b (.mk x (l++cs))->ZR cs<=34*sizes cs
 |[],x,l,b,hS=>by rw [ZR];omega
 |t::ts,x,l,b,hS=>by
  have h1:=asl t (b+sizes l) hS.kid;have h2:=alS ts x (l++[t]) b (by simpa using hS);rw [ZR,sizes];omega
end
end
theorem PU {e:List Nd} (hF:BU e) {t:Tm} (he:e=flat 0 t) (left:List Str) (hl:left.length<=1000):(can left [] 0 t).2+left.length<=9000:=by
 have h1:=aha left t [] 0;have h2:=Wj left (can left [] 0 t).2;have h3:=asl hF t 0 (by rw [he];exact Seg.whole t);have h4:t.size<=170:=by have:=hF.len;rw [he,bn]at this;exact this
 omega
theorem alT {e:List Nd} (hF:BU e) {t:Tm} (he:e=flat 0 t) {left:List Str} (hfree:Ev (fun k=>Ef k e) left) (hl:left.length<=1000):Ev (fun k=>xX k e) (flat 0 (can left [] 0 t).1):=by
 have hlen:=hF.len;have hs:=t.size_pos;have hsz:e.length=t.size:=by rw [he,bn]
 obtain⟨K1,h1⟩:=hfree;obtain⟨K2,h2⟩:=adS left (by omega);obtain⟨K3,h3⟩:=PN (fun k n=>nR k n) kK e (fun n _=>PE n);refine⟨K1+K2+K3+200,fun k hk=> ?_⟩;show xX k e=_
 unfold xX;rw [if_pos ⟨by omega,by omega,fun n hn=>by
  obtain⟨i,hi⟩:=S6.1 hn;have:=hF.few i n hi;omega⟩,(show Ef k e=_ from h1 k (by omega)),W0]
 have:=adX (h2 k (by omega)) hF (h3 k (by omega)) t 0 [] 0 k [] [] (by rw [he];exact Seg.whole t) rfl (by omega) (by simp only [j0];omega) (PU hF he left hl);simp only [R2,W3,V1]at this;rw [<-he]at this;rw [hsz,show((0:Int))=((0:Nat):Int)from rfl,this];rfl
def LD (d:Int) (n:Nd):Nd:={n with args:=n.args.map (·-d)}
theorem ad2 (d:Nat): ∀(cs:List Tm) (b:Nat),(roots (b+d) cs).map (·-(d:Int))=roots b cs
 |[],b=>rfl
 |c::cs,b=>by
  have h:=ad2 d cs (b+c.size);have hp:=size_pos c;rw [roots,roots,M3,show b+d+c.size=b+c.size+d by omega,h];congr 1;omega
theorem aC1 (d:Nat) (x:Nd) (b:Nat) (cs:List Tm):LD d (nd x (b+d) cs)=nd x b cs:=by
 unfold LD nd;simp only [ad2]
mutual
theorem yw (d:Nat): ∀(t:Tm) (b:Nat),(flat (b+d) t).map (LD d)=flat b t
 | .mk x cs,b=>by rw [ig,ig,A5,ad3 d cs b,M3,MA,aC1]
theorem ad3 (d:Nat): ∀(cs:List Tm) (b:Nat),(aV (b+d) cs).map (LD d)=aV b cs
 |[],b=>by rw [aV,aV];rfl
 |c::cs,b=>by
  rw [fH,fH,A5,yw d c b,show b+d+c.size=b+c.size+d by omega,ad3 d cs (b+c.size)]
end
section
variable {e:List Nd} (hlen:e.length<=1000000)
include hlen
theorem Ww: ∀(t:Tm) (b:Nat),Seg e b t->Ev (fun k=>rD k e ((b+t.size -1:Nat):Int)) (.inl (b:Int))
 | .mk x [],b,h=>by
  have hn:=h.node;have e1:b+(Tm.mk x []).size -1=b:=by simp [size,sizes]
  simp only [sizes,S4]at hn;rw [e1];refine Ev.succ ?_;simp only [rD,nn,A0,V0,hn,W0];exact Ev.cF (by simp [nd,roots]) Ev.some
 | .mk x (c::cs),b,h=>by
  have hn:=h.node;have hlt:=h.lt;have hp:=size_pos c;have hk:Seg e (b+sizes []) c:=h.kid (l:=[]);simp only [sizes,S4]at hk;have ih:=Ww c b hk;have e1:b+(Tm.mk x (c::cs)).size -1=b+sizes (c::cs):=by simp only [size];omega
  have hs:sizes (c::cs)=c.size+sizes cs:=by simp only [sizes]
  simp only [size]at hlt;have e2:(nd x b (c::cs)).args=((b+c.size -1:Nat):Int)::roots (b+c.size) cs:=by unfold nd;simp only [roots]
  rw [e1];refine Ev.succ ?_;simp only [rD,nn,A0,V0,hn,W0,e2,N2,jE];refine Ev.cT (by simp<;>omega) (Ev.cT ?_ ih);rw [wrap64 (by omega) (by omega)];exact g0 ⟨trivial,by omega⟩
theorem ad4 {t:Tm} {b:Nat} (h:Seg e b t):Ev (fun k=>vQ k e ((b+t.size -1:Nat):Int)) (b:Int):=by
 unfold vQ;refine Ev.cF (B0 (by omega)) (Ev.bind (Ww hlen t b h) ?_);simp only [eH];exact Ev.some
theorem ad5 {oz:Int} (hf:0<=oz/\oz<=1000000) {i:Nat} {n:Nd} (hn:e[i]? =some n) (ha:n.args.length<=1000) (hr: ∀a∈n.args,-1000000<=a/\a<=1000000) (nm:List Str):
 Ev (fun k=>rY k e oz (i:Int) n.kind n.n n.text nm [] 0) (n.kind,n.n,n.text,nm,n.args.map (·-oz)):=by
 have key:Ev (fun k=>rY k e oz (i:Int) n.kind n.n n.text nm ((n.args.take 0).map (·-oz)) ((0:Nat):Int)) (n.kind,n.n,n.text,nm,n.args.map (·-oz)):=by
  refine eO (len:=n.args.length) (p:=fun j=>Ev (fun k=>rY k e oz (i:Int) n.kind n.n n.text nm ((n.args.take j).map (·-oz)) (j:Int)) (n.kind,n.n,n.text,nm,n.args.map (·-oz))) ?_ fun j hj ih=> ?_
  · refine Ev.succ ?_;simp only [rY,nn,A0,V0,hn,W0];exact Ev.cF (eD _) (Ev.some' (by rw [z6]))
  · have h1:=hr _ (L3 hj);refine Ev.succ ?_;simp only [rY,nn,A0,V0,hn,W0,fC hj,S1,aP hj,bW hj (show n.args.length<=1099511627776 by omega)];rw [wrap64 (x:=n.args[j] -oz) (by omega) (by omega)];refine Ev.jv (by simp;omega) ?_
    have e1:(n.args.take (j+1)).map (·-oz)=(n.args.take j).map (·-oz)++[n.args[j] -oz]:=by rw [M2 hj,A5];rfl
    rw [<-e1];exact ih
 exact key
theorem afZ (hnd: ∀(i:Nat) n,e[i]? =some n->n.names.length<=1000/\n.args.length<=1000/\ ∀a∈n.args,-1000000<=a/\a<=1000000) {t:Tm} {b:Nat} (h:Seg e b t):Ev (fun k=>LC k e ((b+t.size -1:Nat):Int)) (flat 0 t):=by
 have hlt:=h.lt;have hp:=size_pos t;obtain⟨pre,post,he,hpre⟩:=h;have hget: ∀j,j<t.size->e[b+j]? =(flat b t)[j]? :=fun j hj=>by
  rw [he,N0 (by omega),hpre,show b+j -b=j by omega,C0 (by rw [bn];exact hj)]
 have hfl:=yw b t 0;rw [V1]at hfl;have key:Ev (fun k=>uF k e ((b+t.size -1:Nat):Int) (b:Int) ((flat 0 t).take 0) ((b+0:Nat):Int)) (flat 0 t):=by
  refine eO (len:=t.size) (p:=fun j=>Ev (fun k=>uF k e ((b+t.size -1:Nat):Int) (b:Int) ((flat 0 t).take j) ((b+j:Nat):Int)) (flat 0 t)) ?_ fun j hj ih=> ?_
  · refine Ev.succ ?_;simp only [uF];exact Ev.cF (B0 (by omega)) (Ev.some' (by rw [I3 (by rw [bn];exact R0 _)]))
  · have hj0:j<(flat 0 t).length:=by rw [bn];exact hj
    have hj1:j<(flat b t).length:=by rw [bn];exact hj
    have hn:e[b+j]? =some (flat b t)[j]:=by rw [hget j hj,aP hj1]
    have e0:(flat 0 t)[j]=LD b (flat b t)[j]:=by
     have:=congrArg (·[j]?) hfl
     simp only [J0,aP hj1,aP hj0,X2,L1]at this;exact this.symm
    obtain⟨g1,g2,g3⟩:=hnd _ _ hn;have e2:jX (flat b t)[j].names=some (flat b t)[j].names:=by
     unfold jX;rw [if_pos (by simp;omega)];rfl
    have hw:IntKind.wrap .i64 (((b+j:Nat):Int)+1)=((b+(j+1):Nat):Int):=by rw [wrap64 (by omega) (by omega)];omega
    refine Ev.succ ?_;simp only [uF,hw];refine Ev.cT (g0 (by omega)) (Ev.jv (by omega) ?_);simp only [V0,hn,W0,e2];refine Ev.bind (ad5 hlen ⟨by omega,by omega⟩ hn g2 g3 _) (Ev.jv (by rw [P3];omega) ?_);rw [M2 hj0,e0]at ih;exact ih
 unfold LC;exact Ev.bind (ad4 hlen ⟨pre,post,he,hpre⟩) (Ev.bind key Ev.some)
end
theorem nS (x:Nd) (cs:List Tm) (h:sizes cs<=1000000):uj (flat 0 (.mk x cs))=some (nd x 0 cs):=by
 have hn:=(Seg.whole (.mk x cs)).node;rw [V1]at hn;have hl:(flat 0 (.mk x cs)).length=sizes cs+1:=by rw [bn];simp [size]
 unfold uj;have hw:IntKind.wrap .i64 (((flat 0 (.mk x cs)).length:Int) -1)=(sizes cs:Int):=by rw [hl,wrap64 (by omega) (by omega)];omega
 simp only [hw,nn,A0,V0,hn,W0]
theorem ad6: ∀(cs:List Tm) (b:Nat) (a:Int),a∈roots b cs->0<=a/\a<=b+sizes cs
 |[],b,a,h=>by rw [roots]at h;cases h
 |c::cs,b,a,h=>by
  rw [roots,M1]at h;simp only [sizes];rcases h with rfl|h
  · omega
  · have:=ad6 cs _ a h;omega
mutual
theorem PW: ∀(t:Tm) (b:Nat) (n:Nd),n∈flat b t-> ∀a∈n.args,0<=a/\a<=b+t.size
 | .mk x cs,b,n,h,a,ha=>by
  rw [ig,P2,P0]at h;simp only [size];rcases h with h|rfl
  · have:=Wx cs b n h a ha;omega
  · have:=ad6 cs b a ha;omega
theorem Wx: ∀(cs:List Tm) (b:Nat) (n:Nd),n∈aV b cs-> ∀a∈n.args,0<=a/\a<=b+sizes cs
 |[],b,n,h,a,ha=>by rw [aV]at h;cases h
 |c::cs,b,n,h,a,ha=>by
  rw [fH,P2]at h;simp only [sizes];rcases h with h|h
  · have:=PW c b n h a ha;omega
  · have:=Wx cs _ n h a ha;omega
end
theorem auK {e:List Nd} {b:Nat} {t:Tm} (h:Seg e b t) (hnd: ∀(i:Nat) n,e[i]? =some n->n.names.length<=1000/\n.args.length<=1000) (hb:t.size<=1000):
 ∀(i:Nat) n,(flat 0 t)[i]? =some n->n.names.length<=1000/\n.args.length<=1000/\ ∀a∈n.args,-1000000<=a/\a<=1000000:=by
 intro i n hn;have hr:=PW t 0 n (B1 hn);have hfl:=yw b t 0;rw [V1]at hfl;rw [<-hfl,J0,Z1]at hn;obtain⟨m,h1,rfl⟩:=hn;obtain⟨pre,post,he,hpre⟩:=h;have hi:=(S0.1 h1).1;obtain⟨g1,g2⟩:=hnd (b+i) m (by rw [he,N0 (by omega),hpre,show b+i -b=i by omega,C0 hi];exact h1);exact⟨g1,by simpa [LD]using g2,fun a ha=>by have:=hr a ha;omega⟩
theorem Az {x:Nd} {cs l m:List Tm} {c:Tm} (hcs:cs=l++c::m) (hs:sizes cs<=1000) (hnd: ∀(i:Nat) n,(flat 0 (.mk x cs))[i]? =some n->n.names.length<=1000/\n.args.length<=1000/\ ∀a∈n.args,-1000000<=a/\a<=1000000):
 Ev (fun k=>qy k (flat 0 (.mk x cs)) (l.length:Int)) (flat 0 c):=by
 subst hcs;have hk:Seg (flat 0 (.mk x (l++c::m))) (0+sizes l) c:=(Seg.whole _).kid;rw [V1]at hk;have ha:(nd x 0 (l++c::m)).args[l.length]? =some ((sizes l+c.size -1:Nat):Int):=by
  unfold nd;have:=FX (b:=0) (l:=l) (m:=m) (c:=c);rw [V1]at this;exact this
 unfold qy;simp only [nS x _ (show sizes (l++c::m)<=1000000 by omega),W0,nn,A0,V0,ha];exact Ev.bind (afZ (by rw [bn];simp only [size];omega) hnd hk) Ev.some
theorem ajk {i:Nat} (h:i<=1099511627776):IntKind.wrap .i64 ((i:Int)+1)=((i+1:Nat):Int):=by rw [wrap64 (by omega) (by omega)];omega
theorem aaL {l:List Str} (hl:l.length<=1000000) (hn:l.Nodup) {i:Nat} (hi:i<l.length): ∀(m j:Nat),j+m=i->Ev (fun k=>lZ k l l[i] (j:Int)) (.inr (i:Int)):=by
 intro m
 induction m with
 |zero=>
  intro j hj;obtain rfl:j=i:=by omega
  refine Ev.succ ?_;simp only [lZ,V0];refine Ev.cT (g0 (by omega)) (Ev.jv (by omega) (Ev.iG (aP hi) (Ev.cT (by simp) Ev.some)))
 |succ m ih=>
  intro j hj;have hjl:j<l.length:=by omega
  refine Ev.succ ?_;simp only [lZ,V0];refine Ev.cT (g0 (by omega)) (Ev.jv (by omega) (Ev.iG (aP hjl) (Ev.cF ?_ ?_)))
  · rw [O0];exact kA.1 hn j i hjl hi (by omega)
  · rw [ajk (by omega)];exact ih (j+1) (by omega)
theorem ajl {l:List Str} (hl:l.length<=1000000) (hn:l.Nodup) {i:Nat} (hi:i<l.length):Ev (fun k=>Ay k l l[i]) (i:Int):=by
 unfold Ay;exact Ev.bind (aaL hl hn hi i 0 (by omega)) Ev.some
theorem YB {l nn:List Str} (hl:l.length<=1000000) (hn:l.Nodup) (hnn:nn.length=l.length): ∀(m i:Nat),i+m<=l.length->Ev (fun k=>PL k l nn ((l.drop i).take m)) ((nn.drop i).take m):=by
 intro m
 induction m with
 |zero=>intro i h;simp only [HB];exact Ev.all fun k=>rfl
 |succ m ih=>
  intro i h;have hi:i<l.length:=by omega
  have hi2:i<nn.length:=by omega
  rw [N1 hi,N1 hi2,m9,m9];unfold PL;refine Ev.bind (ajl hl hn hi) (Ev.jv (by omega) ?_);simp only [V0,aP hi2,W0];exact Ev.bind (ih (i+1) (by omega)) Ev.some
theorem alU {l nn:List Str} (hl:l.length<=1000000) (hn:l.Nodup) (hnn:nn.length=l.length) (s:Nat):Ev (fun k=>PL k l nn (jm s l)) (jm s nn):=by
 unfold jm;split
 · have:=YB hl hn hnn l.length 0 (by omega);rw [P1,P1,z6,<-hnn,z6]at this;exact this
 · by_cases h:1<=l.length
   · have:=YB hl hn hnn 1 0 (by omega);rw [P1,P1]at this;exact this
   · have h1:l=[]:=u5.1 (by omega);have h2:nn=[]:=u5.1 (by omega);subst h1;subst h2;exact Ev.all fun k=>rfl
 · have:=YB hl hn hnn (l.length -1) 1;by_cases h:1<=l.length
   · have:=this (by omega);rw [I3 (by simp),I3 (by simp;omega)]at this;exact this
   · have h1:l=[]:=u5.1 (by omega);have h2:nn=[]:=u5.1 (by omega);subst h1;subst h2;exact Ev.all fun k=>rfl
 · exact Ev.all fun k=>rfl
theorem YC (bound called:List Str) (hlen:called.length=bound.length) (hb:bound.length<=1000000) (s:Str): ∀(m:Nat),m<=bound.length->Ev (fun k=>Option.bind (vw k bound called s ((m:Int) -1)) (fun o=>Sum.elim (fun _=>some s) (fun x=>some x) o)) (l8 (List.zipWith Scope.mk (bound.take m) (called.take m)) s):=by
 intro m
 induction m with
 |zero=>
  intro hm;refine Ev.succ ?_;simp only [vw];rw [show decide (((0:Nat):Int) -1>=0)=false from by decide];exact Ev.all fun k=>rfl
 |succ m ih=>
  intro hm;have h1:m<bound.length:=by omega
  have h2:m<called.length:=by omega
  have e1:(((m+1:Nat):Int) -1)=(m:Int):=by omega
  have e2:IntKind.wrap .i64 ((m:Int) -1)=(m:Int) -1:=wrap64 (by omega) (by omega);have htake:List.zipWith Scope.mk (bound.take (m+1)) (called.take (m+1))=List.zipWith Scope.mk (bound.take m) (called.take m)++[⟨bound[m],called[m]⟩]:=by
   rw [M2 h1,M2 h2,List.zipWith_append (by rw [P3,P3];omega)];rfl
  refine Ev.succ ?_;rw [e1,htake,MX];simp only [vw,V0,aP h1,aP h2,W0,e2];have d1:decide ((m:Int)>=0)=true:=g0 (by omega);have d2:(0:Int)<=(m:Int):=by omega
  simp only [d1,d2,S1,A0];by_cases h:bound[m]=s
  · have d3:(bound[m]==s)=true:=by simp [h]
    rw [if_pos h];simp only [d3,S1];exact Ev.all fun k=>rfl
  · have d3:(bound[m]==s)=false:=by simp [h]
    rw [if_neg h];simp only [d3,O2];exact ih (by omega)
theorem af0 (bound called:List Str) (hlen:called.length=bound.length) (hb:bound.length<=1000000) (s:Str):Ev (fun k=>xL k bound called s) (l8 (List.zipWith Scope.mk bound called) s):=by
 have:=YC bound called hlen hb s bound.length (R0 _);rw [z6,<-hlen,z6,hlen]at this;unfold xL;have hw:IntKind.wrap .i64 ((bound.length:Int) -1)=(bound.length:Int) -1:=wrap64 (by omega) (by omega);rw [hw];exact this
def shP (d:Int) (n:Nd):Nd:={n with args:=n.args.map (·+d)}
theorem ZT (d:Nat): ∀(cs:List Tm) (b:Nat),(roots b cs).map (·+(d:Int))=roots (b+d) cs
 |[],b=>rfl
 |c::cs,b=>by
  have:=c.size_pos;rw [roots,roots,M3,ZT d cs,show b+c.size+d=b+d+c.size by omega];congr 1;omega
mutual
theorem ad7 (d:Nat): ∀(t:Tm) (b:Nat),(flat b t).map (shP d)=flat (b+d) t
 | .mk x cs,b=>by
  rw [ig,ig,A5,ZU d cs b,M3,MA];congr 2;unfold shP nd;simp only;rw [ZT d cs b]
theorem ZU (d:Nat): ∀(cs:List Tm) (b:Nat),(aV b cs).map (shP d)=aV (b+d) cs
 |[],b=>rfl
 |c::cs,b=>by rw [fH,fH,A5,ad7 d c b,ZU d cs (b+c.size),show b+c.size+d=b+d+c.size by omega]
end
theorem ZV: ∀(cs:List Tm) (b:Nat),∀a∈roots b cs,0<=a/\a<((b+sizes cs:Nat):Int)
 |[],b,a,h=>by cases h
 |c::cs,b,a,h=>by
  have:=c.size_pos;rw [roots]at h;rw [sizes];rcases M1.1 h with rfl|h
  · omega
  · have:=ZV cs (b+c.size) a h;omega
mutual
theorem ad8: ∀(t:Tm) (b:Nat),∀n∈flat b t,∀a∈n.args,0<=a/\a<((b+t.size:Nat):Int)
 | .mk x cs,b,n,hn,a,ha=>by
  rw [ig]at hn;simp only [size];rcases P2.1 hn with h|h
  · have:=ZW cs b n h a ha;omega
  · rw [P0.1 h]at ha;have:=ZV cs b a ha;omega
theorem ZW: ∀(cs:List Tm) (b:Nat),∀n∈aV b cs,∀a∈n.args,0<=a/\a<((b+sizes cs:Nat):Int)
 |[],b,n,hn,a,ha=>by cases hn
 |c::cs,b,n,hn,a,ha=>by
  rw [fH]at hn;rw [sizes];rcases P2.1 hn with h|h
  · have:=ad8 c b n h a ha;omega
  · have:=ZW cs (b+c.size) n h a ha;omega
end
theorem Nt {l:List Str} (h:l.length<=1000000):jX l=some l:=by
 unfold jX;rw [if_pos (by simp;omega)];rfl
theorem ad9 {oz:Int} (hf:0<=oz/\oz<=1000000) (p q:Int) (r:Str) (ns:List Str) (xs:List Int) (hx: ∀a∈xs,0<=a/\a<=1000000) (hl:xs.length<=1000000): ∀(m j:Nat) (done:List Int),j+m=xs.length->done.length+m<=1000000->
 Ev (fun k=>wR k oz p q r ns xs done (j:Int)) (done++(xs.drop j).map (·+oz)):=by
 intro m
 induction m with
 |zero=>
  intro j done hj hd;refine Ev.succ ?_;simp only [wR];refine Ev.cF (B0 (by omega)) (Ev.some' ?_);rw [P4 (by omega)];simp
 |succ m ih=>
  intro j done hj hd;have hjl:j<xs.length:=by omega
  have hb:=hx xs[j] (L3 hjl);refine Ev.succ ?_;simp only [wR,V0];refine Ev.cT (g0 (by omega)) (Ev.jv (by omega) (Ev.iG (aP hjl) (Ev.jv (by omega) ?_)));rw [ajk (by omega),wrap64 (by omega) (by omega)];refine(ih (j+1) _ (by omega) (by simp;omega)).to ?_;rw [N1 hjl,T1];rfl
theorem aea {oz:Int} (hf:0<=oz/\oz<=1000000) {ops:List (List Nd)} {i:Nat} {x:List Nd} (hi:ops[i]? =some x) (hx: ∀n∈x,n.names.length<=1000000/\n.args.length<=1000000/\ ∀a∈n.args,0<=a/\a<=1000000) (hl:x.length<=1000000): ∀(m j:Nat) (out:List Nd),j+m=x.length->out.length+m<=1000000->
 Ev (fun k=>wS k ops out (i:Int) oz (j:Int)) (out++(x.drop j).map (shP oz)):=by
 intro m
 induction m with
 |zero=>
  intro j out hj hd;refine Ev.succ ?_;simp only [wS,V0];refine Ev.jv (by omega) (Ev.iG hi (Ev.cF (B0 (by omega)) (Ev.some' ?_)));rw [P4 (by omega)];simp
 |succ m ih=>
  intro j out hj hd;have hjl:j<x.length:=by omega
  obtain⟨h1,h2,h3⟩:=hx x[j] (L3 hjl);refine Ev.succ ?_;simp only [wS,V0];refine Ev.jv (by omega) (Ev.iG hi (Ev.cT (g0 (by omega)) (Ev.jv (by omega) (Ev.iG (aP hjl) (Ev.iG (Nt h1) ?_)))));refine Ev.bind (ad9 hf _ _ _ _ x[j].args h3 h2 x[j].args.length 0 [] (by omega) (by simp;omega)) (Ev.jv (by omega) ?_);rw [ajk (by omega)];refine(ih (j+1) _ (by omega) (by simp;omega)).to ?_;rw [N1 hjl,T1];rfl
theorem aeb (cs:List Tm) (hs:sizes cs<=1000) (hcl:cs.length<=1000) (hnm: ∀c∈cs,∀n∈flat 0 c,n.names.length<=1000000/\n.args.length<=1000000) (p q:Int) (r:Str) (ns:List Str): ∀(m i:Nat),i+m=cs.length->
 Ev (fun k=>wT k (cs.map (flat 0)) (aV 0 (cs.take i)) p q r ns (roots 0 (cs.take i)) (i:Int)) (aV 0 cs,p,q,r,ns,roots 0 cs):=by
 intro m
 induction m with
 |zero=>
  intro i hi;refine Ev.succ ?_;simp only [wT,J1];refine Ev.cF (B0 (by omega)) (Ev.some' ?_);rw [I3 (by omega)]
 |succ m ih=>
  intro i hi;have hil:i<cs.length:=by omega
  have hc:=(cs[i]).size_pos;have hsz:sizes cs=sizes (cs.take i)+(cs[i].size+sizes (cs.drop (i+1))):=by
   conv=>lhs;rw [<-w6 i cs,N1 hil,dG,sizes]
  refine Ev.succ ?_;simp only [wT,J1];refine Ev.cT (g0 (by omega)) ?_;have hget:(cs.map (flat 0))[i]? =some (flat 0 cs[i]):=by rw [J0,aP hil];rfl
  have hfl:(aV 0 (cs.take i)).length=sizes (cs.take i):=dz 0 _;rw [hfl];have hx: ∀n∈flat 0 cs[i],n.names.length<=1000000/\n.args.length<=1000000/\ ∀a∈n.args,0<=a/\a<=1000000:=fun n hn=>by
   obtain⟨h1,h2⟩:=hnm cs[i] (L3 hil) n hn;exact⟨h1,h2,fun a ha=>by have:=ad8 _ _ n hn a ha;omega⟩
  have h1:=aea (oz:=((sizes (cs.take i):Nat):Int)) ⟨by omega,by omega⟩ hget hx (by rw [bn];omega) (flat 0 cs[i]).length 0 (aV 0 (cs.take i)) (by omega) (by rw [dz,bn];omega);rw [P1,ad7,V1]at h1;have et:aV 0 (cs.take (i+1))=aV 0 (cs.take i)++flat (sizes (cs.take i)) cs[i]:=by
   rw [M2 hil,sK,zK,V1]
  have er:roots 0 (cs.take (i+1))=roots 0 (cs.take i)++[((sizes (cs.take i)+cs[i].size -1:Nat):Int)]:=by
   rw [M2 hil,zJ,Zw,V1]
  refine Ev.bind h1 (Ev.jv (by rw [iq,P3];omega) ?_)
  rw [<-et,ajk (by omega),wrap64 (by rw [dz];omega) (by
   rw [et,X1,dz,bn];omega)]
  have el:((aV 0 (cs.take (i+1))).length:Int) -1=((sizes (cs.take i)+cs[i].size -1:Nat):Int):=by rw [et,X1,dz,bn];omega
  rw [el,<-er];exact ih (i+1) (by omega)
theorem alV (x:Nd) (cs:List Tm) (hs:sizes cs<=1000) (hcl:cs.length<=1000) (hx:x.names.length<=1000000) (hnm: ∀c∈cs,∀n∈flat 0 c,n.names.length<=1000000/\n.args.length<=1000000):Ev (fun k=>Lv k x (cs.map (flat 0))) (flat 0 (.mk x cs)):=by
 unfold Lv;refine Ev.iG (Nt hx) ?_;have:=aeb cs hs hcl hnm x.kind x.n x.text x.names cs.length 0 (by omega);rw [HB]at this;refine Ev.bind this (Ev.jv (by rw [dz];omega) (Ev.some' ?_));rw [ig];rfl
end Go.VL
end
section
namespace Go.VL
open Go.Proofs Go.RowKit
def lT (k:Nat) (e:List Nd):Option (List Nd):=(zM k e).bind fun taken=>(KL taken k k e 0 [] []).bind fun p=>some p.1
theorem Nu (k:Nat) (e:List Nd) {c:Ck} {r:List Nd} (h:lT k e=some r):aG Tryz.prog 164 [.ah (e.map Nd.cells) c] (.ah (r.map Nd.cells) .unk):=by
 refine aG.wk (args:=[gH e]) ?_ (.ah .nil);unfold lT at h;obtain⟨taken,ht,h1⟩:=aj h;obtain⟨⟨r',c'⟩,hr,h2⟩:=aj h1;cases h2;refine aG.bX (dJ.mem (.cons (bK Nd.pu _) .nil)) (aL aBn (by simp) (aI ?_)) (bK Nd.pu _);unfold ap6;simp -implicitDefEqProofs only [go_sem];refine av (ai8 ht) ?_;simp -implicitDefEqProofs only [go_sem,List.take,List.drop,List.append_eq];have ob:(AH.empty.new [.ah (taken.map aF) .unk,.int .i64 0]).obj AH.empty.next=some [.ah (taken.map aF) .unk,.int .i64 0]:=by
  simp [AH.new]
 refine aW.mono (aW.wk (azw (o:=AH.empty.next) (taken:=taken) (cl:= .unk) (F:=k) k e 0 [] [] r' c' hr _ ob (A2 _)) (.same (.same (.ah (.ah .nil))))) ?_;rintro _ H' ⟨rfl,_,_,_⟩;simp -implicitDefEqProofs only [go_sem];exact .pure _ (bK Nd.pu _)
end Go.VL
end
section
namespace Go.VL
open Tm
def LG (n:Nd):Nd:={n with text:=[],names:=n.names.map fun _=>[]}
theorem Q7 {l m:List Str} (h:l.length=m.length):l.map (fun _=>([]:Str))=m.map (fun _=>[]):=by
 rw [List.map_const',List.map_const',h]
theorem ahb {n m:Nd} (h:LG n=LG m):n.kind=m.kind/\n.n=m.n/\n.args=m.args/\n.names.length=m.names.length:=by
 unfold LG at h;have h:=Nd.mk.inj h;refine⟨h.1,h.2.1,h.2.2.2.2,?_⟩;have:=congrArg List.length h.2.2.2.1
 rwa [J1,J1]at this
mutual
theorem alW (left:List Str): ∀(t:Tm) (b:Nat) (bd:List Scope) (c:Nat),(flat b (can left bd c t).1).map LG=(flat b t).map LG
 | .mk x cs,b,bd,c=>by
  have hn:LG (nd (pE left bd c x) b (fU left bd x (pE left bd c x) cs.length 0 (fF left x c).2 cs).1)=LG (nd x b cs):=by
   simp only [LG,nd,Hq,pE];rw [Q7 (Jr left x c)]
  rw [F5,ig,ig,A5,A5,ahc left cs b,M3,M3,hn]
theorem ahc (left:List Str): ∀(cs:List Tm) (b:Nat) (bd:List Scope) (x y:Nd) (a j c:Nat),(aV b (fU left bd x y a j c cs).1).map LG=(aV b cs).map LG
 |[],b,bd,x,y,a,j,c=>by rw [fU]
 |t::ts,b,bd,x,y,a,j,c=>by rw [mW,fH,fH,A5,A5,alW left t b,xM,ahc left ts]
end
theorem Q8 (pl:Bool) (x:Nd) (b b':Nat) (cs:List Tm):bI pl (nd x b cs)=bI pl (nd x b' cs):=by
 unfold bI nM qj qF nd;simp only [iq]
theorem Wy: ∀(l acc:List Str),vW acc l=false->l.Nodup/\ ∀s∈l,s∉acc
 |[],acc,h=>⟨List.Pairwise.nil,fun s hs=>by cases hs⟩
 |s::l,acc,h=>by
  rw [vW,A6,E6]at h;obtain⟨h1,h2⟩:=h;obtain⟨h3,h4⟩:=Wy l _ h2;refine⟨lA.2 ⟨fun hs=>h4 s hs (by simp),h3⟩,fun t ht=> ?_⟩;rcases M1.1 ht with rfl|ht
  · exact h1
  · exact fun hm=>h4 t ht (by simp [hm])
theorem ajm {n:Nd} (h:bI true n=0):n.names.Nodup:=by
 have:vW [] n.names=false:=by
  unfold bI at h
  split at h;·cases h
  split at h;·cases h
  split at h;·cases h
  split at h;·cases h
  split at h
  · rename_i h1;exact absurd h h1
  · split at h
    · cases h
    · rename_i h2;simpa using h2
 exact(Wy _ _ this).1
theorem alX {taken:List Str} {F k:Nat} {e:List Nd} {c c1 c2:Int} {bound called:List Str} {root:Nd} {nm:Bool} {t:Str} {nn:List Str} {ps:List (List Nd)} {r:List Nd} (h1:uj e=some root) (h2:Ah F root=some nm) (h3:(cond nm (xL F bound called root.text) (some root.text))=some t)
 (h4:Bv taken F (root.kind==16||root.kind==17) root.names c=some (nn,c1)) (h5:root.names.length<=1000000/\root.args.length<=1000000/\bound.length<=1000000/\called.length<=1000000)
 (h6:Jq (KL taken F k) F e {root with text:=t} nn bound called root.args.length 0 c1=some (ps,c2)) (h7:Lv F {root with text:=t,names:=nn} ps=some r):KL taken F (k+1) e c bound called=some (r,c2):=by
 rw [KL];simp only [h1,h2,h3,h4,W0];rw [if_pos h5,h6,W0,h7,W0]
theorem alY {left:List Str} {t:Tm} {bd:List Scope} {c:Nat} {N:Nat} (h: ∀n∈flat 0 t,n.names.length<=N/\n.args.length<=N): ∀n∈flat 0 (can left bd c t).1,n.names.length<=N/\n.args.length<=N:=by
 intro n hn;obtain⟨i,hi⟩:=S6.1 hn
 have:=congrArg (·[i]?) (alW left t 0 bd c)
 simp only [J0,hi,X2]at this;cases hm:(flat 0 t)[i]? with
 |none=>rw [hm]at this;cases this
 |some m=>
  rw [hm]at this;obtain⟨_,_,h3,h4⟩:=ahb (V2 this);have:=h m (B1 hm);rw [h3,h4];exact this
theorem ZX {e:List Nd} (hF:BU e) {b:Nat} {t:Tm} (hS:Seg e b t): ∀n∈flat 0 t,n.names.length<=1000/\n.args.length<=1000/\ ∀a∈n.args,-1000000<=a/\a<=1000000:=by
 intro n hn;obtain⟨i,hi⟩:=S6.1 hn;have hlt:=hS.lt;have:=hF.len;exact auK hS (fun i n hn=>by have:=hF.few i n hn;omega) (by omega) i n hi
theorem Wz {left:List Str} {N:Nat}: ∀(cs:List Tm) (bd:List Scope) (x y:Nd) (a j c:Nat),(∀c0∈cs,∀n∈flat 0 c0,n.names.length<=N/\n.args.length<=N)-> ∀c0∈(fU left bd x y a j c cs).1,∀n∈flat 0 c0,n.names.length<=N/\n.args.length<=N
 |[],bd,x,y,a,j,c,h=>by rw [fU];exact h
 |t::ts,bd,x,y,a,j,c,h=>by
  rw [mW];intro c0 hc0;rcases M1.1 hc0 with rfl|hc0
  · exact alY (h t A1)
  · exact Wz ts bd x y a (j+1) _ (fun c0 hc=>h c0 (I1 _ hc)) c0 hc0
theorem auL {a b c d:List Str} (h1:a.length=c.length) (h2:b.length=d.length):(a++b).length=(c++d).length:=by rw [X1,X1,h1,h2]
theorem aec (n:Nd) (m:Nd) (h1:m.kind=n.kind) (h2:m.n=n.n) (h3:m.names=n.names) (h4:m.args.length=n.args.length) (j:Int):vT m j=vT n j:=by
 unfold vT;rw [h1,h2,h3,h4]
section
variable {left:List Str} (hl:left.length<=1000) {e:List Nd} (hF:BU e) (htx: ∀(i:Nat) n,e[i]? =some n->n.text.length<=1000000)
include hl hF htx
mutual
theorem aed: ∀(t:Tm) (b:Nat) (bound called:List Str) (c:Nat),Seg e b t->called.length=bound.length->bound.length+34*(b+t.size -1)<=10000->(can left (List.zipWith Scope.mk bound called) c t).2+left.length<=9000->
 ∃K,∀F k,K<=F->K<=k->KL left F k (flat 0 t) (c:Int) bound called=some (flat 0 (can left (List.zipWith Scope.mk bound called) c t).1,((can left (List.zipWith Scope.mk bound called) c t).2:Int))
 | .mk x cs,b,bound,called,c,hS,hlen,hb,hc=>by
  have hn:=hS.node;have hlt:=hS.lt;have hel:=hF.len;have hsz:(Tm.mk x cs).size=sizes cs+1:=by simp only [size]
  have Eb:=hF.few _ _ hn;have hnx:x.names.length<=34:=Eb.2;have hcl:cs.length<=34:=by have:=Eb.1;unfold nd at this;rwa [iq]at this
  have hspec:bI true (nd x 0 cs)=0:=by rw [Q8 true x 0 b cs];exact hF.ok _ _ hn
  have hroot:=nS x cs (by omega);rw [F5]at hc⊢;have hle:=Cv left cs (List.zipWith Scope.mk bound called) x (pE left (List.zipWith Scope.mk bound called) c x) cs.length 0 (fF left x c).2;obtain⟨K1,k1⟩:=Wh hspec (by have:=htx _ _ hn;exact this);have htext:Ev (fun k=>cond (kK (nd x 0 cs)) (xL k bound called (nd x 0 cs).text) (some (nd x 0 cs).text)) (BK (List.zipWith Scope.mk bound called) x):=by
   unfold BK;cases h:kK x with
   |true=>
    refine Ev.cT h ?_;rw [if_pos rfl];exact af0 bound called hlen (by omega) _
   |false=>
    refine Ev.cF h ?_;rw [if_neg (by simp)];exact Ev.some
  obtain⟨K2,k2⟩:=htext;obtain⟨K3,k3⟩:=adS left (by omega);have azJ: ∀F,K3<=F->Bv left F ((nd x 0 cs).kind==16||(nd x 0 cs).kind==17) (nd x 0 cs).names (c:Int)=some ((fF left x c).1,((fF left x c).2:Int)):=by
   intro F hFF;have hk:(nd x 0 cs).kind=x.kind:=rfl;have hnm:(nd x 0 cs).names=x.names:=rfl;have hc':(fF left x c).2+left.length<=9000:=by simp only at hc;omega
   rw [hk,hnm];unfold fF at hc'⊢;by_cases h:x.kind=16\/x.kind=17
   · rw [if_pos h,show(x.kind==16||x.kind==17)=true by rcases h with h|h<;>rw [h]<;>rfl];exact ZO _ _
   · rw [if_neg h]at hc';rw [if_neg h,show(x.kind==16||x.kind==17)=false by simp only [A6,O0];exact⟨fun q=>h (.inl q),fun q=>h (.inr q)⟩];exact ZN (k3 F hFF) _ _ hc'
  obtain⟨K4,k4⟩:=WA cs x {nd x 0 cs with text:=BK (List.zipWith Scope.mk bound called) x} (pE left (List.zipWith Scope.mk bound called) c x) [] b bound called (fF left x c).2 hS hlen (by simp only [R2];rw [hsz]at hb;omega) (by simpa using hc) rfl rfl rfl (iq 0 cs) (Jr left x c);simp only [R2,j0]at k4;have hsub: ∀c0∈(fU left (List.zipWith Scope.mk bound called) x (pE left (List.zipWith Scope.mk bound called) c x) cs.length 0 (fF left x c).2 cs).1,∀n∈flat 0 c0,n.names.length<=1000000/\n.args.length<=1000000:=by
   refine Wz cs _ _ _ _ _ _ fun c0 hc0 n hn0=> ?_;obtain⟨l1,l2,hcs⟩:=List.append_of_mem hc0;have hk:Seg e (b+sizes l1) c0:=Seg.kid (x:=x) (m:=l2) (by rw [<-hcs];exact hS);have:=ZX hF hk n hn0;omega
  obtain⟨K5,k5⟩:=alV {nd x 0 cs with text:=BK (List.zipWith Scope.mk bound called) x,names:=(fF left x c).1} (fU left (List.zipWith Scope.mk bound called) x (pE left (List.zipWith Scope.mk bound called) c x) cs.length 0 (fF left x c).2 cs).1 (by rw [Ho];omega) (by rw [adU];omega) (by show(fF left x c).1.length<=_;rw [Jr];omega) hsub;refine⟨K1+K2+K3+K4+K5+1,fun F k h1 h2=> ?_⟩;obtain⟨k,rfl⟩: ∃j,k=j+1:=⟨k -1,by omega⟩;have hal:(nd x 0 cs).args.length=cs.length:=iq 0 cs;refine alX hroot (k1 F (by omega)) (k2 F (by omega)) (azJ F (by omega)) ⟨by show x.names.length<=_;omega,by rw [hal];omega,by omega,by omega⟩ (by rw [hal];exact k4 F k (by omega) (by omega)) (k5 F (by omega))
theorem WA: ∀(cs:List Tm) (x old y:Nd) (l:List Tm) (b:Nat) (bound called:List Str) (c:Nat),Seg e b (.mk x (l++cs))->called.length=bound.length->bound.length+34*(b+sizes (l++cs))<=10000->
 (fU left (List.zipWith Scope.mk bound called) x y (l++cs).length l.length c cs).2+left.length<=9000->old.kind=x.kind->old.n=x.n->old.names=x.names->old.args.length=(l++cs).length->y.names.length=x.names.length->
 ∃K,∀F k,K<=F->K<=k->Jq (KL left F k) F (flat 0 (.mk x (l++cs))) old y.names bound called cs.length l.length (c:Int)=
  some ((fU left (List.zipWith Scope.mk bound called) x y (l++cs).length l.length c cs).1.map (flat 0),((fU left (List.zipWith Scope.mk bound called) x y (l++cs).length l.length c cs).2:Int))
 |[],x,old,y,l,b,bound,called,c,hS,hlen,hb,hc,m1,m2,m3,m4,y3=>⟨0,fun F k _ _=>by rw [fU];rfl⟩
 |t::cs,x,old,y,l,b,bound,called,c,hS,hlen,hb,hc,m1,m2,m3,m4,y3=>by
  have hn:=hS.node;have hlt:=hS.lt;have hel:=hF.len;have Eb:=hF.few _ _ hn;have h23:=ag9 hF hn;have hcp:=t.size_pos;have hnx:x.names.length<=34:=Eb.2;have hsz:sizes (l++t::cs)=sizes l+(t.size+sizes cs):=by rw [dG,sizes]
  have aMA:(Tm.mk x (l++t::cs)).size=sizes (l++t::cs)+1:=by simp only [size]
  have hspec:bI true (nd x 0 (l++t::cs))=0:=by rw [Q8 true x 0 b _];exact hF.ok _ _ hn
  have aoN:(nd x 0 (l++t::cs)).args.length=(l++t::cs).length:=iq 0 _;have hcl:(l++t::cs).length<=34:=by have:=Eb.1;unfold nd at this;rwa [iq]at this
  have e1:l++t::cs=(l++[t])++cs:=by simp
  have e2:l.length+1=(l++[t]).length:=by simp
  have hbs:vT old (l.length:Int)=some (jm (qz x.kind x.n (l++t::cs).length l.length) x.names):=by
   rw [aec (nd x 0 (l++t::cs)) old m1 m2 m3 (by rw [m4,aoN]),Ns hspec (by rw [aoN];omega),alN (n:=nd x 0 (l++t::cs)) h23,aoN];rfl
  have hnd:x.names.Nodup:=ajm (n:=nd x 0 (l++t::cs)) hspec;obtain⟨K1,k1⟩:=alU (l:=x.names) (nn:=y.names) (by omega) hnd y3 (qz x.kind x.n (l++t::cs).length l.length);obtain⟨K2,k2⟩:=Az (x:=x) (cs:=l++t::cs) (l:=l) (m:=cs) (c:=t) rfl (by omega) (fun i n hi=>ZX hF hS n (B1 hi));have Rv:(jm (qz x.kind x.n (l++t::cs).length l.length) y.names).length=(jm (qz x.kind x.n (l++t::cs).length l.length) x.names).length:=ZP _ y3;have hpl:=adT (qz x.kind x.n (l++t::cs).length l.length) x.names;have hbd:List.zipWith Scope.mk (bound++jm (qz x.kind x.n (l++t::cs).length l.length) x.names) (called++jm (qz x.kind x.n (l++t::cs).length l.length) y.names)=List.zipWith Scope.mk bound called++vH x y (l++t::cs).length l.length:=by
   rw [List.zipWith_append hlen.symm];rfl
  rw [mW]at hc⊢;have aMB:=Cv left cs (List.zipWith Scope.mk bound called) x y (l++t::cs).length (l.length+1) (can left (List.zipWith Scope.mk bound called++vH x y (l++t::cs).length l.length) c t).2;obtain⟨K3,k3⟩:=aed t (b+sizes l) (bound++jm (qz x.kind x.n (l++t::cs).length l.length) x.names) (called++jm (qz x.kind x.n (l++t::cs).length l.length) y.names) c hS.kid (auL hlen Rv) (by rw [X1];omega) (by rw [hbd];simp only at hc;omega);rw [hbd]at k3;obtain⟨K4,k4⟩:=WA cs x old y (l++[t]) b bound called (can left (List.zipWith Scope.mk bound called++vH x y (l++t::cs).length l.length) c t).2 (by rw [<-e1];exact hS) hlen (by rw [<-e1];exact hb) (by rw [<-e1,<-e2];exact hc) m1 m2 m3 (by rw [<-e1];exact m4) y3;rw [<-e1,<-e2]at k4;refine⟨K1+K2+K3+K4,fun F k g1 g2=> ?_⟩;rw [I0,Jq,hbs,W0,m3,(show PL F x.names y.names _=_ from k1 F (by omega)),W0,(show qy F _ _=_ from k2 F (by omega)),W0,if_pos ⟨by omega,Rv⟩,k3 F k (by omega) (by omega),W0];simp only;rw [k4 F k (by omega) (by omega),W0];rfl
end
end
end Go.VL
end
section
namespace Go.VL
open Go.Proofs Go.RowKit
def UD (k:Nat):List Nd->List Nd->Option Bool
 |[],_=>some true
 |_::_,[]=>none
 |a::l,b::m=>(EH k a b).bind fun r=>cond r (UD k l m) (some false)
def LJ (k:Nat) (a b:List Nd):Option Bool:=if a.length<=1000000000 then if a.length=b.length then UD k a b else some false else none
theorem alZ {l:List Nd} {i:Nat} (h:i<l.length):(l.map Nd.cells)[i]? =some (l[i]).cells:=by rw [J0,W2 h];rfl
theorem aoO (k:Nat) (a b:List Nd) (hab:a.length=b.length) (hbig:a.length<=1000000000) (Q:Post): ∀(m i:Nat) (r:Bool) (σ:Nat->PV) (H:AH),i+m=a.length->UD k (a.drop i) (b.drop i)=some r->
 σ 1=gH b->σ 2= .fn (.func 255) [] []->σ 15=gH a->σ 16= .int .i64 a.length->σ 17= .int .i64 i->
 (∀σ' H',(r=true->Q (.exit 0) σ' H')/\(r=false->σ' 6= .bool false->Q .ret σ' H'))->W Tryz.prog (.loop Ms) Q σ H:=by
 intro m
 induction m with
 |zero=>
  intro i r σ H hi h s1 s2 s15 s16 Cu q0;rw [P4 (by omega),UD]at h;cases h;have hge:decide ((i:Int)<(a.length:Int))=false:=B0 (by omega);refine bB (fun K hK=>aI ?_);unfold Ms;simp -implicitDefEqProofs only [go_sem,s16,Cu,hge];exact(q0 _ H).1 rfl
 |succ m ih=>
  intro i r σ H hi h s1 s2 s15 s16 Cu q0;have hia:i<a.length:=by omega
  have hib:i<b.length:=by omega
  rw [N1 hia,N1 hib,UD]at h;obtain⟨t,ht,h⟩:=aj h;have hlt:decide ((i:Int)<(a.length:Int))=true:=g0 (by omega);have ga:=alZ hia;have gb:=alZ hib;have la:(a[i]).cells.length=5:=rfl;have lb:(b[i]).cells.length=5:=rfl;refine bB (fun K hK=>aI ?_);unfold Ms;simp -implicitDefEqProofs only [go_sem,s1,s2,s15,s16,Cu,hlt,ga,gb,dB,R0];refine av (aiE ht) ?_;have hw:IntKind.wrap .i64 ((i:Int)+1)=((i+1:Nat):Int):=by rw [IntKind.wrap_i64];omega
  cases t with
  |false=>
   cases h;simp -implicitDefEqProofs only [go_sem];exact(q0 _ _).2 rfl aC
  |true=>
   simp -implicitDefEqProofs only [go_sem,Cu,hw];refine hK _ _ (ih (i+1) r _ _ (by omega) h aC aC aC aC aC q0)
theorem aoP {k:Nat} {a b:List Nd} {r:Bool} {ca cb:Ck} (h:LJ k a b=some r):aG Tryz.prog 215 [aaV a ca,aaV b cb] (.bool r):=by
 have aoQ:aG Tryz.prog 254 [gH a,gH b,.fn (.func 255) [] []] (.bool r):=by
  refine aG.bX (dJ.mem (.cons (bK Nd.pu _) (.cons (bK Nd.pu _) (.cons (.fn _ _ _ (dJ.mem .nil) (dJ.mem .nil)) .nil)))) (aL aB7 (by simp) (aI ?_)) (.bool _);unfold aqR;unfold LJ at h;obtain⟨hbig,h⟩:=aX h;by_cases hl:a.length=b.length
  · rw [if_pos hl]at h;have hne:((a.length:Int) !=(b.length:Int))=false:=by simp [hl]
    simp -implicitDefEqProofs only [go_sem,hne];refine aoO k a b hl hbig _ a.length 0 r _ AH.empty (V1 _) (by rw [P1,P1];exact h) aC aC aC aC aC fun σ' H'=>⟨fun hr=> ?_,fun hr h6=> ?_⟩
    · subst hr;simp -implicitDefEqProofs only [go_sem];exact .pure _ (.bool _)
    · subst hr;simp -implicitDefEqProofs only [go_sem,h6];exact .pure _ (.bool _)
  · rw [if_neg hl]at h;cases h;have hne:((a.length:Int) !=(b.length:Int))=true:=by simp;omega
    simp -implicitDefEqProofs only [go_sem,hne];exact .pure _ (.bool _)
 refine aG.wk (args:=[gH a,gH b]) ?_ (.ah (.ah .nil));refine aG.bX (dJ.mem (.cons (bK Nd.pu _) (.cons (bK Nd.pu _) .nil))) (aL aBK (by simp) (aI ?_)) (.bool _);unfold aqu;simp -implicitDefEqProofs only [go_sem];refine av aoQ ?_;simp -implicitDefEqProofs only [go_sem];exact .pure _ (.bool _)
end Go.VL
end
section
namespace Go.VL
open Tm
theorem Js (a b:List Str) (hl:a.length<=1099511627776):Ev (fun k=>mK k a b) (decide (a=b)):=by
 unfold mK;by_cases hab:a.length=b.length
 · refine Ev.cF (by simp [hab]) ?_;have key:Ev (fun k=>fB k a b (a.length:Int) ((0:Nat):Int)) (if a.drop 0=b.drop 0 then .inl ()else .inr false):=by
    refine eO (len:=a.length) (p:=fun i=>Ev (fun k=>fB k a b (a.length:Int) (i:Int)) (if a.drop i=b.drop i then .inl ()else .inr false)) ?_ fun i hi ih=> ?_
    · refine Ev.succ ?_;simp only [fB];refine Ev.cF (eD _) (Ev.some' ?_);simp [hab]
    · have hi':i<b.length:=hab▸hi;refine Ev.succ ?_;simp only [fB,V0,aP hi,aP hi',W0,nn,A0,fC hi,S1,bW hi hl];by_cases h:a[i]=b[i]
      · refine Ev.cT (by rw [E3];exact h) (ih.to ?_);have:List.drop i a=a[i]::List.drop (i+1) a:=N1 hi;have:List.drop i b=b[i]::List.drop (i+1) b:=N1 hi';simp only [*,S7,T8]
      · refine Ev.cF (by rw [O0];exact h) (Ev.some' ?_);have e1:List.drop i a=a[i]::List.drop (i+1) a:=N1 hi;have e2:List.drop i b=b[i]::List.drop (i+1) b:=N1 hi';rw [if_neg];intro e;rw [e1,e2,S7]at e;exact h e.1
   refine Ev.bind key ?_;by_cases h:a=b
   · subst h;simp only [A0,eH,D4];exact Ev.some
   · simp only [P1,h,L2,fP,L4];exact Ev.some
 · refine Ev.cT (by simp;omega) (Ev.some' ?_);exact(B0 fun e=>hab (by rw [e])).symm
theorem PX (a b:List Int) (hl:a.length<=1099511627776):Ev (fun k=>uh k a b) (decide (a=b)):=by
 unfold uh;by_cases hab:a.length=b.length
 · refine Ev.cF (by simp [hab]) ?_;have key:Ev (fun k=>jr k a b (a.length:Int) ((0:Nat):Int)) (if a.drop 0=b.drop 0 then .inl ()else .inr false):=by
    refine eO (len:=a.length) (p:=fun i=>Ev (fun k=>jr k a b (a.length:Int) (i:Int)) (if a.drop i=b.drop i then .inl ()else .inr false)) ?_ fun i hi ih=> ?_
    · refine Ev.succ ?_;simp only [jr];refine Ev.cF (eD _) (Ev.some' ?_);simp [hab]
    · have hi':i<b.length:=hab▸hi;refine Ev.succ ?_;simp only [jr,V0,aP hi,aP hi',W0,nn,A0,fC hi,S1,bW hi hl];have e1:List.drop i a=a[i]::List.drop (i+1) a:=N1 hi;have e2:List.drop i b=b[i]::List.drop (i+1) b:=N1 hi';by_cases h:a[i]=b[i]
      · refine Ev.cF (by rw [bne_eq_false_iff_eq];exact h) (ih.to ?_);rw [e1,e2];simp only [h,S7,T8]
      · refine Ev.cT (by rw [S5];exact h) (Ev.some' ?_);rw [if_neg];intro e;rw [e1,e2,S7]at e;exact h e.1
   refine Ev.bind key ?_;by_cases h:a=b
   · subst h;simp only [A0,eH,D4];exact Ev.some
   · simp only [P1,h,L2,fP,L4];exact Ev.some
 · refine Ev.cT (by simp;omega) (Ev.some' ?_);exact(B0 fun e=>hab (by rw [e])).symm
theorem af2 (x y:Nd) (h1:x.names.length<=1000000) (h2:x.args.length<=1000000):Ev (fun k=>EH k x y) (decide (x=y)):=by
 unfold EH;obtain⟨k1,n1,t1,m1,a1⟩:=x;obtain⟨k2,n2,t2,m2,a2⟩:=y;simp only at h1 h2;simp only [Nd.mk.injEq];by_cases e1:k1=k2
 · refine Ev.cT (by rw [E3];exact e1) ?_;by_cases e2:n1=n2
   · refine Ev.cT (by rw [E3];exact e2) ?_;by_cases e3:t1=t2
     · refine Ev.cT (by rw [E3];exact e3) (Ev.bind (Js m1 m2 (by omega)) ?_);by_cases e4:m1=m2
       · refine Ev.cT (g0 e4) (Ev.bind (PX a1 a2 (by omega)) (Ev.some' ?_));simp [e1,e2,e3,e4]
       · exact Ev.cF (B0 e4) (Ev.some' (by simp [e4]))
     · exact Ev.cF (by rw [O0];exact e3) (Ev.some' (by simp [e3]))
   · exact Ev.cF (by rw [O0];exact e2) (Ev.some' (by simp [e2]))
 · exact Ev.cF (by rw [O0];exact e1) (Ev.some' (by simp [e1]))
theorem ahd: ∀(a b:List Nd),a.length=b.length->(∀n∈a,n.names.length<=1000000/\n.args.length<=1000000)->Ev (fun k=>UD k a b) (decide (a=b))
 |[],[],_,_=>Ev.all fun k=>rfl
 |[],_::_,h,_=>by simp at h
 |_::_,[],h,_=>by simp at h
 |x::a,y::b,h,hn=>by
  have hx:=hn x A1;unfold UD;refine Ev.bind (af2 x y hx.1 hx.2) ?_;by_cases e:x=y
  · refine Ev.cT (g0 e) ((ahd a b (by simpa using h) fun n hm=>hn n (I1 _ hm)).to ?_);simp [e]
  · refine Ev.cF (B0 e) (Ev.some' ?_);simp [e]
theorem al0 (a b:List Nd) (hl:a.length<=1000000) (hn: ∀n∈a,n.names.length<=1000000/\n.args.length<=1000000):Ev (fun k=>LJ k a b) (decide (a=b)):=by
 unfold LJ;refine Ev.jv (by omega) ?_;by_cases h:a.length=b.length
 · simp only [if_pos h];exact ahd a b h hn
 · simp only [if_neg h];exact Ev.some' (B0 fun e=>h (by rw [e])).symm
theorem YD {e:List Nd} (hF:BU e) (hL:oP e) {t:Tm} (he:e=flat 0 t) {left:List Str} (hfree:Ev (fun k=>zM k e) left) (hl:left.length<=1000):Ev (fun k=>lT k e) (flat 0 (can left [] 0 t).1):=by
 have hlen:=hF.len;have hs:=t.size_pos;have hsz:e.length=t.size:=by rw [he,bn]
 obtain⟨K1,h1⟩:=hfree;obtain⟨K2,h2⟩:=aed hl hF (fun i n hn=>by have:=(hL.nd i n hn).1;omega) t 0 [] [] 0 (by rw [he];exact Seg.whole t) rfl (by simp only [j0];omega) (PU hF he left hl);refine⟨K1+K2,fun k hk=> ?_⟩;show lT k e=_;unfold lT;rw [(show zM k e=_ from h1 k (by omega)),W0];have:=h2 k k (by omega) (by omega);rw [<-he]at this;rw [show((0:Int))=((0:Nat):Int)from rfl,this];rfl
def GoodS (left:List Str) (N:Nat) (bd:List Scope):Prop:= ∀s∈bd,∃n,s.new=bN n/\n<=N/\bN n∉left
theorem Q9: ∀(bd:List Scope) (t:Str),l8 bd t=t\/ ∃s∈bd,s.old=t/\l8 bd t=s.new
 |[],t=> .inl (by rw [l8])
 |s::bd,t=>by
  rw [l8];have ih:=Q9 bd t;by_cases h:(bd.any fun s=>decide (s.old=t))=true
  · rw [if_pos h];rcases ih with h1|⟨s1,h1,h2,h3⟩
    · exact .inl h1
    · exact .inr ⟨s1,I1 _ h1,h2,h3⟩
  · rw [if_neg h];by_cases h2:s.old=t
    · rw [if_pos h2];exact .inr ⟨s,A1,h2,rfl⟩
    · rw [if_neg h2];rcases ih with h1|⟨s1,h1,h2,h3⟩
      · exact .inl h1
      · exact .inr ⟨s1,I1 _ h1,h2,h3⟩
theorem aee {left:List Str} {x:Nd} {c:Nat} {s:Str} (h:s∈(fF left x c).1):(s∈x.names/\(x.kind=16\/x.kind=17))\/ ∃n,s=bN n/\c<n/\n<=(fF left x c).2/\bN n∉left:=by
 unfold fF at h⊢;by_cases hk:x.kind=16\/x.kind=17
 · rw [if_pos hk]at h;exact .inl ⟨h,hk⟩
 · rw [if_neg hk]at h⊢;obtain⟨h1,n,h2,h3,h4⟩:=PG left _ _ _ h;exact .inr ⟨n,h2,h3,h4,h2▸h1⟩
theorem auM {left:List Str} {bd:List Scope} {x:Nd} {a j c:Nat} {s:Scope} (h:s∈vH x (pE left bd c x) a j):s.old∈x.names/\ ∃n,s.new=bN n/\c<n/\n<=(fF left x c).2/\bN n∉left:=by
 unfold vH at h;obtain⟨i,hi⟩:=S6.1 h;rw [List.getElem?_zipWith]at hi;cases h1:(jm (qz x.kind x.n a j) x.names)[i]? with
 |none=>rw [h1]at hi;simp at hi
 |some o=>
  cases h2:(jm (qz x.kind x.n a j) (pE left bd c x).names)[i]? with
  |none=>rw [h1,h2]at hi;simp at hi
  |some w=>
   rw [h1,h2]at hi;simp only [L1]at hi;subst hi;refine⟨ZQ (B1 h1),?_⟩;rcases aee (ZQ (B1 h2))with⟨_,hk⟩|h3
   · rw [auD hk]at h2;simp [jm]at h2
   · exact h3
theorem aoR {left:List Str} {bd:List Scope} {x:Nd} {a j c N:Nat} (hN:(fF left x c).2<=N) (hb:GoodS left N bd):GoodS left N (bd++vH x (pE left bd c x) a j):=by
 intro s hs;rcases P2.1 hs with h|h
 · exact hb s h
 · obtain⟨_,n,h1,_,h2,h3⟩:=auM h;exact⟨n,h1,by omega,h3⟩
def TxO (left:List Str) (N:Nat) (o s:Str):Prop:=s=o\/ ∃n,s=bN n/\n<=N/\bN n∉left
theorem ahe {left:List Str} {N:Nat} {bd:List Scope} (hb:GoodS left N bd) (x:Nd):TxO left N x.text (BK bd x)/\(BK bd x≠x.text->kK x=true):=by
 unfold BK;cases h:kK x with
 |false=>rw [if_neg (by simp)];exact⟨.inl rfl,fun h=>absurd rfl h⟩
 |true=>
  rw [if_pos rfl];refine⟨?_,fun _=>rfl⟩;rcases Q9 bd x.text with h1|⟨s,h1,h2,h3⟩
  · exact .inl h1
  · rw [h3];obtain⟨n,h4,h5,h6⟩:=hb s h1;exact .inr ⟨n,h4,h5,h6⟩
structure Out (left:List Str) (N:Nat) (n m:Nd):Prop where
 sk:LG m=LG n
 tx:TxO left N n.text m.text
 nb:m.text≠n.text->kK n=true
 fx:n.kind=16\/n.kind=17->m.names=n.names
 nm: ¬(n.kind=16\/n.kind=17)->m.names.Nodup/\ ∀s∈m.names,∃k,s=bN k/\k<=N/\bN k∉left
theorem azK {left:List Str} {N:Nat} {bd:List Scope} {c:Nat} (hb:GoodS left N bd) (x:Nd) (b:Nat) (cs cs':List Tm) (hr:roots b cs'=roots b cs) (hN:(fF left x c).2<=N):Out left N (nd x b cs) (nd (pE left bd c x) b cs'):=by
 refine⟨?_,(ahe hb x).1,(ahe hb x).2,fun h=> ?_,fun h=>⟨?_,fun s hs=> ?_⟩⟩
 · simp only [LG,nd,hr,pE];rw [Q7 (Jr left x c)]
 · show(fF left x c).1=x.names
   unfold fF;rw [if_pos (show x.kind=16\/x.kind=17 from h)]
 · show(fF left x c).1.Nodup
   unfold fF;rw [if_neg (show ¬(x.kind=16\/x.kind=17)from h)];exact Q5 left _ _
 · rcases aee hs with⟨_,hk⟩|⟨n,h1,_,h2,h3⟩
   · exact absurd hk h
   · exact⟨n,h1,by omega,h3⟩
mutual
theorem ahf {left:List Str} {N:Nat}: ∀(t:Tm) (b:Nat) (bd:List Scope) (c:Nat),GoodS left N bd->(can left bd c t).2<=N-> ∀(i:Nat) (n:Nd),(flat b t)[i]? =some n-> ∃m,(flat b (can left bd c t).1)[i]? =some m/\Out left N n m
 | .mk x cs,b,bd,c,hb,hN,i,n,hn=>by
  rw [F5]at hN⊢;have hle:=Cv left cs bd x (pE left bd c x) cs.length 0 (fF left x c).2;rw [ig]at hn⊢;have hfl:(aV b (fU left bd x (pE left bd c x) cs.length 0 (fF left x c).2 cs).1).length=(aV b cs).length:=by rw [dz,dz,Ho]
  by_cases hi:i<(aV b cs).length
  · rw [C0 hi]at hn;rw [C0 (by omega)];exact aef cs b bd x (pE left bd c x) cs.length 0 (fF left x c).2 (fun j=>aoR (by simp only at hN;omega) hb) hN i n hn
  · rw [N0 (by omega)]at hn;rw [N0 (by omega),hfl];have hi0:i -(aV b cs).length=0:=by
     by_cases h:i -(aV b cs).length=0
     · exact h
     · rw [R1 (by simp;omega)]at hn;cases hn
    rw [hi0]at hn⊢;cases hn;exact⟨_,rfl,azK hb x b cs _ (Hq left cs b _ _ _ _ _ _) (by simp only at hN;omega)⟩
theorem aef {left:List Str} {N:Nat}: ∀(cs:List Tm) (b:Nat) (bd:List Scope) (x y:Nd) (a j c:Nat),(∀j,GoodS left N (bd++vH x y a j))->(fU left bd x y a j c cs).2<=N-> ∀(i:Nat) (n:Nd),(aV b cs)[i]? =some n-> ∃m,(aV b (fU left bd x y a j c cs).1)[i]? =some m/\Out left N n m
 |[],b,bd,x,y,a,j,c,hb,hN,i,n,hn=>by simp [aV]at hn
 |t::ts,b,bd,x,y,a,j,c,hb,hN,i,n,hn=>by
  rw [mW]at hN⊢;have hle:=Cv left ts bd x y a (j+1) (can left (bd++vH x y a j) c t).2;rw [fH]at hn⊢;have hfl:(flat b (can left (bd++vH x y a j) c t).1).length=(flat b t).length:=by rw [bn,bn,xM]
  by_cases hi:i<(flat b t).length
  · rw [C0 hi]at hn;rw [C0 (by omega)];exact ahf t b _ c (hb j) (by simp only at hN;omega) i n hn
  · rw [N0 (by omega)]at hn;rw [N0 (by omega),hfl,xM];exact aef ts (b+t.size) bd x y a (j+1) _ hb hN _ n hn
end
end Go.VL
end
section
namespace Go.VL
open Go.Proofs Go.RowKit
theorem aeg (k:Nat) (e:List Nd) {c:Ck} {r:List Nd} (h:xX k e=some r):aG Tryz.prog 216 [.ah (e.map Nd.cells) c] (.ah (r.map Nd.cells) .unk):=alP h
theorem al1 (k:Nat) (a b:List Nd) {c c2:Ck} {r:Bool} (h:LJ k a b=some r):aG Tryz.prog 215 [.ah (a.map Nd.cells) c,.ah (b.map Nd.cells) c2] (.bool r):=aoP h
end Go.VL
end
section
set_option maxHeartbeats 4000000
namespace Go.VL
open Go.Proofs
def EW (k:Nat) (a_0:List Nd) (b_1:List Nd):Option (Bool×Int):=
 (qp k a_0).bind fun p2=>(qp k b_1).bind fun p4=>(gJ k [p2,p4]).bind fun p6=>cond (p6 !=0) (some (false,p6)) ((xX k a_0).bind fun p9=>(xX k b_1).bind fun vO=>(LJ k p9 vO).bind fun tQ=>some (tQ,0))
theorem ZY {k:Nat} {a_0:List Nd} {b_1:List Nd} {c0 c1:Ck} {r:Bool×Int} (h:EW k a_0 b_1=some r):aG Tryz.prog 160 [(.ah (a_0.map Nd.cells) c0),(.ah (b_1.map Nd.cells) c1)] (.dn [(.bool r.1),(.int .i64 r.2)]):=by
 refine aG.lw (.ah (.ah .nil)) (aG.bX (dJ.mem (.cons (bK Nd.pu _) (.cons (bK Nd.pu _) .nil))) (aL aBl (by simp) (aI ?_)) (.dn _ (dJ.mem (.cons (.bool _) (.cons (.int _ _) .nil)))));unfold EW at h;unfold ap4;obtain⟨p2,e1,h⟩:=aj h;refine ak ?_;refine av (QV e1) ?_;obtain⟨p4,e3,h⟩:=aj h;refine ak ?_;refine av (QV e3) ?_;obtain⟨p6,e5,h⟩:=aj h;refine ak ?_;refine av (oK e5) ?_;obtain⟨e7,h⟩|⟨e7,h⟩:=aJ h
 ·cases h;refine ak ?_;exact(oh (.cons (.pure _ (.bool _)) (gB .nil)))
 ·obtain⟨p9,e8,h⟩:=aj h;refine ak ?_;refine av (aeg k a_0 e8) ?_;obtain⟨vO,e10,h⟩:=aj h;refine ak ?_;refine av (aeg k b_1 e10) ?_;obtain⟨tQ,e12,h⟩:=aj h;refine ak ?_;refine av (al1 k p9 vO e12) ?_;cases h;refine ak ?_;exact(oh (.cons (.pure _ (.bool _)) (gB .nil)))
instance aEG (k:Nat) (a_0:List Nd) (b_1:List Nd):bY Tryz.prog 160 [(.ah (a_0.map Nd.cells) .unk),(.ah (b_1.map Nd.cells) .unk)] (EW k a_0 b_1) (fun r=>(.dn [(.bool r.1),(.int .i64 r.2)])):=⟨fun _ h=>ZY h⟩
end Go.VL
end
section
namespace Go.VL
open Tm
theorem al2 {left:List Str} {N:Nat}:GoodS left N []:=fun s hs=>by cases hs
section
variable {e:List Nd} {t:Tm} (he:e=flat 0 t) {left:List Str} (hl:left.length<=1000)
include he hl
theorem auN (hF:BU e) {i:Nat} {m:Nd} (hm:(flat 0 (can left [] 0 t).1)[i]? =some m): ∃n,e[i]? =some n/\Out left 9000 n m:=by
 have hi:=(S0.1 hm).1;rw [bn,xM]at hi;have hi':i<e.length:=by rw [he,bn];exact hi
 obtain⟨m',h1,h2⟩:=ahf t 0 [] 0 al2 (E1 (tB _ _) (PU hF he left hl)) i e[i] (by rw [<-he];exact aP hi');rw [hm]at h1;cases h1;exact⟨e[i],aP hi',h2⟩
theorem aoS (hF:BU e) (hL:oP e):oP (flat 0 (can left [] 0 t).1):=by
 refine⟨by rw [bn,xM,<-bn 0,<-he];exact hL.len,fun i m hm=> ?_⟩;obtain⟨n,hn,ho⟩:=auN he hl hF hm;obtain⟨h1,h2,h3⟩:=hL.nd i n hn;obtain⟨_,_,a3,a4⟩:=ahb ho.sk;refine⟨?_,by omega,by rw [a3];exact h3⟩;rcases ho.tx with h|⟨k,h4,h5,_⟩
 · rw [h];exact h1
 · rw [h4];have:=aze (n:=k) (by omega);omega
end
theorem aeh {e:List Nd} (hL:oP e) (hF:BU e) (hV:Valid e): ∃t left,e=flat 0 t/\left.length<=1000/\Ev (fun k=>Ef k e) left/\Ev (fun k=>zM k e) left/\Ev (fun k=>xX k e) (flat 0 (can left [] 0 t).1)/\Ev (fun k=>lT k e) (flat 0 (can left [] 0 t).1):=by
 obtain⟨t,he⟩:=hV.tree;obtain⟨left,h1,h2,h3⟩:=alu hV hL hF;exact⟨t,left,he,h3,h1,h2,alT hF he h1 h3,YD hF hL he h2 h3⟩
theorem errs {e:List Nd} (hL:oP e): ∃c:Int,Ev (fun k=>qp k e) c/\Ev (fun k=>yL k e) c/\(c=0->Valid e):=by
 obtain⟨r,ht,hr,hv⟩:=VY e hL;exact⟨r.2,by unfold qp;exact Ev.bind ht Ev.some,by unfold yL;exact Ev.bind hr Ev.some,hv⟩
end Go.VL
end
section
set_option maxHeartbeats 4000000
namespace Go.VL
open Go.Proofs
def Cw (k:Nat) (au:List Nd):Option Int:=
 (iA k au).bind fun p2=>some p2.2
instance aAy (k:Nat) (au:List Nd):bY Tryz.prog 50 [(.ah (au.map Nd.cells) .unk)] (Cw k au) (fun r=>(.int .i64 r)):=bM aFp (by unfold Cw aww;exact bE)
def LK (k:Nat) (a_0:List Nd) (b_1:List Nd):Option Bool:=
 (EW k a_0 b_1).bind fun p2=>some p2.1
instance aEH (k:Nat) (a_0:List Nd) (b_1:List Nd):bY Tryz.prog 95 [(.ah (a_0.map Nd.cells) .unk),(.ah (b_1.map Nd.cells) .unk)] (LK k a_0 b_1) (fun r=>(.bool r)):=bM aFJ (by unfold LK awY;exact bE)
def mg:Nat->(List (List Nd))->(List (List Nd))->Int->Option (List (List Nd))
 |0,_,_,_=>none
 |k+1,aZ,gL,gW=>
  cond (decide (gW<(aZ.length:Int))) (if 0<=gW then (aZ[gW.toNat]?).bind fun x3=>(tX k x3).bind fun p6=>if(gL.length+1)*24<=1099511627776 then mg k aZ (gL++[p6]) (IntKind.wrap .i64 (gW+1))else none else none) (some (gL))
def LM:List Nat:=List.range' 3 16
def AA (k:Nat) (aZ:List (List Nd)):Option (List (List Nd)):=
 Option.bind (mg k aZ ([]:List (List Nd)) 0) (fun p16=>some p16)
def PY (k:Nat) (a_0:List Nd) (b_1:List Nd):Option Bool:=
 cond ((a_0.length:Int)==(b_1.length:Int)) ((lT k a_0).bind fun p3=>(lT k b_1).bind fun p5=>(Ag k p3 p5).bind fun p7=>some p7) (some false)
theorem aoT {k:Nat} {a_0:List Nd} {b_1:List Nd} {c0 c1:Ck} {r:Bool} (h:PY k a_0 b_1=some r):aG Tryz.prog 98 [(.ah (a_0.map Nd.cells) c0),(.ah (b_1.map Nd.cells) c1)] (.bool r):=by
 refine aG.lw (.ah (.ah .nil)) (aG.bX (dJ.mem (.cons (bK Nd.pu _) (.cons (bK Nd.pu _) .nil))) (aL aFK (by simp) (aI ?_)) (.bool _));unfold PY at h;unfold awZ;obtain⟨e1,h⟩|⟨e1,h⟩:=aJ h
 ·obtain⟨p3,e2,h⟩:=aj h;refine ak ?_;refine av (Nu k a_0 e2) ?_;obtain⟨p5,e4,h⟩:=aj h;refine ak ?_;refine av (Nu k b_1 e4) ?_;obtain⟨p7,e6,h⟩:=aj h;refine ak ?_;refine av (acL e6) ?_;cases h;refine ak ?_;exact(.pure _ (.bool _))
 ·cases h;refine ak ?_;exact(.pure _ (.bool _))
end Go.VL
end
section
namespace Go.VL
open Tm
structure Gd (e:List Nd):Prop where
 few:yE e=true
 val:Valid e
 t0:Ev (fun k=>qp k e) 0
 r0:Ev (fun k=>yL k e) 0
open Classical in
noncomputable def KN (e:List Nd):List Nd:=if h: ∃c,Ev (fun k=>xX k e) c/\Ev (fun k=>lT k e) c/\c.length=e.length/\oP c then h.choose else e
theorem LP {e:List Nd} (h:Gd e):Ev (fun k=>xX k e) (KN e)/\Ev (fun k=>lT k e) (KN e)/\(KN e).length=e.length/\oP (KN e):=by
 have hL:=ET h.few;have hF:=adD h.few h.val;obtain⟨t,l,e1,e2,e3,e4,e5,e6⟩:=aeh hL hF h.val
 have hx: ∃c,Ev (fun k=>xX k e) c/\Ev (fun k=>lT k e) c/\c.length=e.length/\oP c:=
  ⟨_,e5,e6,by
   conv=>rhs;rw [e1]
   rw [bn,bn,xM],aoS e1 e2 hF hL⟩
 unfold KN;rw [dif_pos hx];exact hx.choose_spec
noncomputable def pF (a b:List Nd):Bool:=decide (KN a=KN b)
theorem ajn {a b:List Nd} (ha:Gd a) (hb:Gd b):Ev (fun k=>EW k a b) (pF a b,0):=by
 obtain⟨a1,a2,a3,a4⟩:=LP ha;obtain⟨b1,b2,b3,b4⟩:=LP hb;have hs:=al0 (KN a) (KN b) a4.len (fun n hn=>by
  obtain⟨i,hi⟩:=S6.1 hn;have:=a4.nd i n hi;exact this.2)
 unfold EW;exact Ev.bind ha.t0 (Ev.bind hb.t0 (Ev.bind (Ap _ (by simp)) (Ev.cF (by simp [Ll]) (Ev.bind a1 (Ev.bind b1 (Ev.bind hs Ev.some))))))
theorem ajo {a b:List Nd} (ha:Gd a) (hb:Gd b):Ev (fun k=>LK k a b) (pF a b):=by
 unfold LK;exact Ev.bind (ajn ha hb) Ev.some
theorem al3 {a b:List Nd} (ha:Gd a) (hb:Gd b):Ev (fun k=>PY k a b) (pF a b):=by
 obtain⟨a1,a2,a3,a4⟩:=LP ha;obtain⟨b1,b2,b3,b4⟩:=LP hb;unfold PY;by_cases h:a.length=b.length
 · exact Ev.cT (by simp [h]) (Ev.bind a2 (Ev.bind b2 (Ev.bind (aaK a4) Ev.some)))
 · refine Ev.cF (by simp;omega) (Ev.some' ?_);unfold pF;exact(B0 fun e=>h (by rw [<-a3,<-b3,e])).symm
theorem aei {e:List Nd} (h:yE e=true): ∃c:Int,Ev (fun k=>Cw k e) c/\Ev (fun k=>yL k e) c/\(c=0->Gd e):=by
 obtain⟨c,h1,h2,h3⟩:=errs (ET h);exact⟨c,h1,h2,fun hc=>⟨h,h3 hc,hc▸h1,hc▸h2⟩⟩
end Go.VL
end
section
set_option maxRecDepth 100000
namespace Go.VL.Kp
open Go.Proofs Go.VL
def dc (n:Nat):Bool:=([107,202,1000000]:List Nat).contains n
def aso:AC:=(sO [oR 2 (.AO (.c (.ah [] .nil)))] (.seq (sO [oM 3 0,oR 4 (.bin .eql .sl (.t 3) (.c (.ah [] .nil)))] (.cond (.t 4) (sO [oR 2 (.AO (.c (.ah [] .nil)))] .ret) .skip)) (sO [oR 5 (.CO 1 []),oM 6 0,⟨(some 7),(.n (.app 1 24 (.t 5) (.t 6))),none⟩,oM 2 7] .ret)))
theorem aC2:aM Tryz.prog dc true 107 8 [(.tmp 2)] aso:=aQ Tryz.func107
def UE:AC:=(sO [oB 40 .lss (.t 39) (.t 38)] (.seq (.cond (.t 40) .skip (.exit 0)) (.seq (.block 1 (sO [oM 41 39,oX 42 1 37 39,oL 43 1 42,⟨(some 9),(.d (.alloc [(.ah [] .nil)])),none⟩,oM 8 41,oS 1 9 43] (sO [oF 44 0 7,oL 45 1 44,oR 46 (.Xi (.func 203) [] [(.t 9)]),oC 47 161 [(.t 45),(.t 46)],oM 10 47] (.seq (sO [oM 48 10,oB 49 .lss (.t 48) (.c (.int .i64 0))] (.cond (.t 49) (sO [oF 50 1 7,oL 51 1 50,oN 52 51,oM 10 52] (.sV [0,1,0,4,15,0,32,0,255,127,1023,2047,4095] [(oF 53 0 7,false),(oL 54 1 53,false),(oL 55 1 9,false),(oR 56 (.CO 1 [(.t 55)]),false),(⟨(some 57),(.n (.app 1 24 (.t 54) (.t 56))),none⟩,true),(oF 58 1 7,false),(oL 59 1 58,false),(oR 60 (.CO 1 [(.c (.int .i64 0))]),false),(⟨(some 61),(.n (.app 1 8 (.t 59) (.t 60))),none⟩,true),(oF 62 0 7,false)] [oS 1 62 57,oF 63 1 7,oS 1 63 61])) .skip)) (.par [(oF 64 1 7,false),(oL 65 1 64,false),(oM 66 10,false),(oX 67 1 65 66,false),(oL 68 1 67,false),(oM 69 2,false),(oF 70 1 4,false),(oL 71 1 70,false),(oM 72 8,false),(oX 73 1 71 72,false),(oL 74 1 73,false),(oB 75 .mul (.t 69) (.t 74),false)] [oB 76 .add (.t 68) (.t 75),oX 77 1 65 66,oS 1 77 76]))))) (.ops [oB 78 .add (.t 39) (.c (.int .i64 1)),oM 39 78]))))
def UF:AC:=(sO [oB 88 .lss (.t 87) (.t 86)] (.seq (.cond (.t 88) .skip (.exit 2)) (.seq (.block 3 (sO [oX 89 1 85 87,oL 90 1 89,oM 12 90] (.ops [oF 91 3 7,oL 92 1 91,oM 93 92,oMg 94 12 93 false,oCg 95 78 [(.t 94),(.c (.int .i64 (-1000000000))),(.c (.int .i64 1000000000))] 93 false,Zc 96 (.not (.t 95)) 93 false,oR 97 (.pick (.t 93) (.c (.bool true)) (.t 96)),oF 98 3 7,oS 1 98 97]))) (.ops [oB 99 .add (.t 87) (.c (.int .i64 1)),oM 87 99]))))
def asq:AC:=(sO [⟨(some 3),(.d (.box 4 (.t 0))),none⟩,⟨(some 4),(.d (.box 4 (.t 1))),none⟩,⟨(some 6),(.d (.alloc [(.ah [] .nil),(.ah [] .nil),(.int .i64 0),(.bool false)])),none⟩] (.seq (.sV [0,1,3,0,8,31,0,64,0,0,512,1792,4032,0,8192,24639,57407,122943,254015,524287,0,2097151] [(oF 13 0 3,false),(oL 14 1 13,false),(oC 15 107 [(.t 14)],true),(oF 16 1 3,false),(oL 17 1 16,false),(oC 18 202 [(.t 17)],true),(oF 19 2 3,false),(oL 20 1 19,false),(oM 21 2,false),(oF 22 2 4,false),(oL 23 1 22,false),(oB 24 .mul (.t 21) (.t 23),false),(oB 25 .add (.t 20) (.t 24),false),(oF 26 3 3,false),(oL 27 1 26,false),(oM 28 27,false),(oFg 29 3 4 28 false,false),(Zb 30 1 29 28 false,false),(oR 31 (.pick (.t 28) (.c (.bool true)) (.t 30)),false),(oR 32 (.build [(.ah [] .nil),(.ah [] .nil),(.int .i64 0),(.bool false)] [(0,(1,(.t 15))),(1,(1,(.t 18))),(2,(1,(.t 25))),(3,(1,(.t 31)))]),false),(⟨(some 7),(.d (.alloc [(.ah [] .nil),(.ah [] .nil),(.int .i64 0),(.bool false)])),none⟩,true)] [oS 4 7 32]) (.seq (sO [oF 33 3 7,oL 34 1 33] (.cond (.t 34) (sO [oA 35 4 7,oS 4 6 35] .ret) .skip)) (.seq (sO [oF 36 0 4,oL 37 1 36,oN 38 37,oI 39 0] (.block 0 (.loop UE))) (.seq (.seq (.sV [0,1,3,0,8,24,63,127,0] [(oF 79 1 7,false),(oL 80 1 79,false),(oC 81 202 [(.t 80)],true),(oF 82 2 7,false),(oL 83 1 82,false),(oR 84 (.CO 1 [(.t 83)]),false),(⟨(some 85),(.n (.app 1 8 (.t 81) (.t 84))),none⟩,true),(oN 86 85,false),(oI 87 0,false)] []) (.block 2 (.loop UF))) (sO [oA 100 4 7,oS 4 6 100] .ret))))))
theorem aC3:aM Tryz.prog dc true 144 101 [(.cell 6 4 true)] asq:=aQ Tryz.func144
def ajp:AC:=(sO [oR 2 (.AO (.c (.ah [] .nil)))] (.seq (sO [oM 3 0,oR 4 (.bin .eql .sl (.t 3) (.c (.ah [] .nil)))] (.cond (.t 4) (sO [oR 2 (.AO (.c (.ah [] .nil)))] .ret) .skip)) (sO [oR 5 (.CO 1 []),oM 6 0,⟨(some 7),(.n (.app 1 8 (.t 5) (.t 6))),none⟩,oM 2 7] .ret)))
theorem asr:aM Tryz.prog dc true 202 8 [(.tmp 2)] ajp:=aQ Tryz.func202
end Go.VL.Kp
end
section
namespace Go.VL
variable [Glob]
section
variable {P:Program} {σ:Nat->PV}
def KO (P:Program) (H:AH) (o:aD) (v:PV) (σ:Nat->PV):Prop:=match o.g with
 |none=>dQ P o.k (fun r fu=>r=v/\fu=H) σ H
 |some (s,want)=>match σ s with
  | .bool b=>if b=want then dQ P o.k (fun r fu=>r=v/\fu=H) σ H else v=ud
  |_=>False
def Hr (P:Program) (H:AH) (skip:Nat->Bool):Nat->List (aD×Bool)->(Nat->PV)->(Nat->PV)->Prop
 |_,[],_,_=>True
 |n,(o,d)::l,val,σ=>(d=true\/skip n=true\/KO P H o (val 0) σ)/\Hr P H skip (n+1) l (fun i=>val (i+1)) (upd σ o.dst (val 0))
theorem KO.or {H:AH} {o:aD} {v:PV} (h:KO P H o v σ):(sU o σ/\v=ud)\/(pX o σ/\dQ P o.k (fun r fu=>r=v/\fu=H) σ H):=by
 unfold KO at h;unfold sU pX;split at h
 · rename_i e;rw [e];exact .inr ⟨trivial,h⟩
 · rename_i s want e;rw [e];split at h
   · rename_i b hb;split at h
     · rename_i hw;subst hw;exact .inr ⟨hb,h⟩
     · rename_i hw;refine .inl ⟨.inl ?_,h⟩;rw [hb];cases b<;>cases want<;>simp_all
   · exact h.elim
theorem Hr.at {H:AH} {skip:Nat->Bool}: ∀{pr:List (aD×Bool)} {n:Nat} {val σ:Nat->PV} (h:Hr P H skip n pr val σ) (i:Nat) (o:aD),pr[i]? =some (o,false)->skip (n+i)=false->KO P H o (val i) (bV pr val σ i)
 |(o,d)::l,n,val,σ,h,0,o',e,hk=>by
   cases e;rcases h.1 with h1|h1|h1
   · cases h1
   · rw [S4,h1]at hk;cases hk
   · exact h1
 |(o,d)::l,n,val,σ,h,i+1,o',e,hk=>Hr.at (pr:=l) h.2 i o' e (by rw [G4,d7 1 i];exact hk)
def Ht (ms rs rem:List Nat) (i:Nat):Bool:=rem.any (fun s=>dS ms s i)||rs.any fun s=> !rem.contains s&&dS ms i s
theorem aoU {ms:List Nat} {pr:List (aD×Bool)} {K:(Nat->PV)->AH->Prop} (rs:List Nat) (hrs:wZ pr=rs) (gQ:(Nat->PV)->Nat->PV) (Inv:List Nat->(Nat->PV)->AH->Prop)
 (hval: ∀r j,j∈rs->gQ r j=r j)
 (dep: ∀r r' i,(∀s∈rs,(dS ms s i=true\/s=i)->r s=r' s)->gQ r i=gQ r' i)
 (pure: ∀rem r H,Inv rem r H->Hr P H (Ht ms rs rem) 0 pr (gQ r) σ)
 (step: ∀rem r H j o,Inv rem r H->j∈rem->pr[j]? =some (o,true)->(∀s∈rem,dS ms s j=false\/s=j)->
  pX o (bV pr (gQ r) σ j)/\dQ P o.k (fun p H'=> ∃r',r' j=p/\(∀s,s≠j->r' s=r s)/\Inv (rem.filter (·!=j)) r' H') (bV pr (gQ r) σ j) H)
 (fin: ∀r H,Inv [] r H->K (bV pr (gQ r) σ pr.length) H): ∀(n:Nat) (rem:List Nat) (r:Nat->PV) (H:AH),rem.length<=n->(∀j∈rem,j∈rs)->Inv rem r H->yT P ms pr K σ n rem (gQ r) H:=by
 have hp: ∀rem r H,Inv rem r H-> ∀(i:Nat) (o:aD),pr[i]? =some (o,false)->(∀s∈rem,dS ms s i=false)->(∀(s:Nat) (o':aD),pr[s]? =some (o',true)->s∉rem->dS ms i s=false)->
  (sU o (bV pr (gQ r) σ i)/\gQ r i=ud)\/(pX o (bV pr (gQ r) σ i)/\dQ P o.k (fun q fu=>q=gQ r i/\fu=H) (bV pr (gQ r) σ i) H):=by
  intro rem r H h i o e h1 h2;refine((pure rem r H h).at i o e ?_).or;rw [V1];cases hk:Ht ms rs rem i with
  |false=>rfl
  |true=>
   unfold Ht at hk;rw [C5,n9,n9]at hk;rcases hk with⟨s,hs,hb⟩|⟨s,hs,hb⟩
   · rw [h1 s hs]at hb;cases hb
   · rw [z1]at hb;obtain⟨o',e'⟩:=(JM s).1 (hrs▸hs);rw [h2 s o' e' (by have:=hb.1;simpa using this)]at hb;cases hb.2
 intro n
 induction n with
 |zero=>
  intro rem r H hn hm h;obtain rfl:rem=[]:=u5.1 (by omega);unfold yT;exact⟨hp _ _ _ h,fun _=>fin _ _ h,rfl⟩
 |succ n ih=>
  intro rem r H hn hm h;unfold yT;refine⟨hp _ _ _ h,fun e=>fin _ _ (e▸h),fun j hj o e hb=> ?_⟩;obtain⟨h1,h2⟩:=step rem r H j o h hj e hb;refine⟨h1,kI (fun p H' ⟨r',g1,g2,g3⟩=>⟨gQ r',fun i hi hbi=>dep _ _ _ fun s hs hsi=> ?_,?_,ih _ _ _ ?_ (fun k hk=>hm k (i6.1 hk).1) g3⟩) h2⟩
  · by_cases hsj:s=j
    · subst hsj;rcases hsi with h|h
      · rw [hbi s hj]at h;cases h
      · exact absurd (h▸hj) hi
    · exact g2 s hsj
  · rw [hval _ _ (hm j hj)];exact g1
  have:(rem.filter (·!=j)).length<rem.length:=by
   rw [tA];exact⟨j,hj,by simp⟩
  omega
theorem LQ {ms:List Nat} {pr:List (aD×Bool)} {post:List aD} {s:List Fm} {Q:Post} {H:AH} (rs:List Nat) (hrs:wZ pr=rs) (gQ:(Nat->PV)->Nat->PV) (Inv:List Nat->(Nat->PV)->AH->Prop)
 (hval: ∀r j,j∈rs->gQ r j=r j)
 (dep: ∀r r' i,(∀s∈rs,(dS ms s i=true\/s=i)->r s=r' s)->gQ r i=gQ r' i)
 (start: ∃r,Inv rs r H)
 (pure: ∀rem r H,Inv rem r H->Hr P H (Ht ms rs rem) 0 pr (gQ r) σ)
 (step: ∀rem r H j o,Inv rem r H->j∈rem->pr[j]? =some (o,true)->(∀s∈rem,dS ms s j=false\/s=j)->
  pX o (bV pr (gQ r) σ j)/\dQ P o.k (fun p H'=> ∃r',r' j=p/\(∀s,s≠j->r' s=r s)/\Inv (rem.filter (·!=j)) r' H') (bV pr (gQ r) σ j) H)
 (fin: ∀r H,Inv [] r H->WO P post s Q (bV pr (gQ r) σ pr.length) H):WS P (.sV ms pr post) s Q σ H:=by
 obtain⟨r,hr⟩:=start;exact Xu ⟨gQ r,by rw [hrs];exact aoU rs hrs gQ Inv hval dep pure step fin _ _ _ _ (R0 _) (fun _ h=>h) hr⟩
theorem Ac.G {H:AH} {skip skip':Nat->Bool} (hs: ∀i,skip i=true->skip' i=true): ∀{pr:List (aD×Bool)} {n:Nat} {val σ:Nat->PV},Ac P H skip n pr val σ->Hr P H skip' n pr val σ
 |[],_,_,_,_=>trivial
 |(o,d)::l,n,val,σ,h=>⟨by
  rcases h.1 with h1|h1|⟨h1,h2⟩
  · exact .inl h1
  · exact .inr (.inl (hs _ h1))
  · refine .inr (.inr ?_);unfold KO;rw [h1];exact h2,Ac.G hs h.2⟩
def qX (a b:Nat) (vals:List PV) (x y:PV) (i:Nat):PV:=if i=a then x else if i=b then y else(vals[i]?).getD ud
theorem aoV {ms:List Nat} {pr:List (aD×Bool)} {post:List aD} {s:List Fm} {Q:Post} {H:AH} (a b:Nat) (z:List PV) (vals:List PV) {da db:Option Nat} (hrs:wZ pr=[a,b]) (hab:a≠b)
 (Ox:pr[a]? =some (⟨da,.d (.alloc z),none⟩,true)) (Oy:pr[b]? =some (⟨db,.d (.alloc z),none⟩,true))
 (pure: ∀x y H',(H'=H\/H'=H.new z\/H'=(H.new z).new z)->Ac P H' (fun _=>false) 0 pr (qX a b vals x y) σ)
 (fin: ∀x y,(x=H.next/\y=H.next+1\/x=H.next+1/\y=H.next)->WO P post s Q (bV pr (qX a b vals (.ref x 0) (.ref y 0)) σ pr.length) ((H.new z).new z)):WS P (.sV ms pr post) s Q σ H:=by
 have fa:[a,b].filter (·!=a)=[b]:=by simp [B3 hab]
 have fb:[a,b].filter (·!=b)=[a]:=by simp [hab]
 refine LQ [a,b] hrs (fun r=>qX a b vals (r a) (r b)) (fun rem r H'=>(rem=[a,b]/\H'=H)\/(rem=[b]/\r a= .ref H.next 0/\H'=H.new z)\/(rem=[a]/\r b= .ref H.next 0/\H'=H.new z)\/
  (rem=[]/\H'=(H.new z).new z/\((r a= .ref H.next 0/\r b= .ref (H.next+1) 0)\/(r a= .ref (H.next+1) 0/\r b= .ref H.next 0)))) (fun r j hj=> ?_) (fun r r' i h=> ?_) ⟨fun _=>ud,.inl ⟨rfl,rfl⟩⟩ ?_ ?_ ?_
 · rcases(show j=a\/j=b by simpa using hj)with rfl|rfl
   · simp [qX]
   · simp [qX,B3 hab]
 · simp only [qX];by_cases h1:i=a
   · rw [if_pos h1,if_pos h1];exact h a (by simp) (.inr h1.symm)
   · rw [if_neg h1,if_neg h1];by_cases h2:i=b
     · rw [if_pos h2,if_pos h2];exact h b (by simp) (.inr h2.symm)
     · rw [if_neg h2,if_neg h2]
 · rintro rem r H' (⟨rfl,rfl⟩|⟨rfl,h1,rfl⟩|⟨rfl,h1,rfl⟩|⟨rfl,rfl,h1⟩)
   · exact(pure _ _ _ (.inl rfl)).G (fun _ h=>by cases h)
   · exact(pure _ _ _ (.inr (.inl rfl))).G (fun _ h=>by cases h)
   · exact(pure _ _ _ (.inr (.inl rfl))).G (fun _ h=>by cases h)
   · exact(pure _ _ _ (.inr (.inr rfl))).G (fun _ h=>by cases h)
 · rintro rem r H' j o (⟨rfl,rfl⟩|⟨rfl,h1,rfl⟩|⟨rfl,h1,rfl⟩|⟨rfl,rfl,h1⟩) hj ho hb
   · rcases(show j=a\/j=b by simpa using hj)with rfl|rfl
     · rw [Ox]at ho;cases ho;exact⟨trivial,fun s=>if s=j then .ref H'.next 0 else r s,if_pos rfl,fun s hs=>if_neg hs,.inr (.inl ⟨fa,if_pos rfl,rfl⟩)⟩
     · rw [Oy]at ho;cases ho;exact⟨trivial,fun s=>if s=j then .ref H'.next 0 else r s,if_pos rfl,fun s hs=>if_neg hs,.inr (.inr (.inl ⟨fb,if_pos rfl,rfl⟩))⟩
   · obtain rfl:j=b:=by simpa using hj
     rw [Oy]at ho;cases ho;exact⟨trivial,fun s=>if s=j then .ref (H.next+1) 0 else r s,if_pos rfl,fun s hs=>if_neg hs,.inr (.inr (.inr ⟨by simp,rfl,.inl ⟨(if_neg hab).trans h1,if_pos rfl⟩⟩))⟩
   · obtain rfl:j=a:=by simpa using hj
     rw [Ox]at ho;cases ho;exact⟨trivial,fun s=>if s=j then .ref (H.next+1) 0 else r s,if_pos rfl,fun s hs=>if_neg hs,.inr (.inr (.inr ⟨by simp,rfl,.inr ⟨if_pos rfl,(if_neg (B3 hab)).trans h1⟩⟩))⟩
   · cases hj
 · rintro r H' (⟨h,_⟩|⟨h,_⟩|⟨h,_⟩|⟨_,rfl,h1⟩)
   · cases h
   · cases h
   · cases h
   · rcases h1 with⟨h1,h2⟩|⟨h1,h2⟩
     · show WO P post s Q (bV pr (qX a b vals (r a) (r b)) σ pr.length) _
       rw [h1,h2];exact fin _ _ (.inl ⟨rfl,rfl⟩)
     · show WO P post s Q (bV pr (qX a b vals (r a) (r b)) σ pr.length) _
       rw [h1,h2];exact fin _ _ (.inr ⟨rfl,rfl⟩)
theorem aej {ms:List Nat} {pr:List (aD×Bool)} {post:List aD} {s:List Fm} {Q:Post} {H:AH} (a b:Nat) (z:List PV) (vals:List PV) {da db:Option Nat} (hrs:wZ pr=[a,b]) (hab:a≠b)
 (Ox:pr[a]? =some (⟨da,.d (.alloc z),none⟩,true)) (Oy:pr[b]? =some (⟨db,.d (.alloc z),none⟩,true))
 (pure: ∀x y H',(H'=H\/H'=H.new z\/H'=(H.new z).new z)->Ac P H' (fun _=>false) 0 pr (qX a b vals x y) σ)
 (fin: ∀x y H',HF [] H H'->H.next<=x->x<H'.next->H.next<=y->y<H'.next->x≠y->H'.obj x=some z->H'.obj y=some z->(∀c,aR H c->aR H' c)->WO P post s Q (bV pr (qX a b vals (.ref x 0) (.ref y 0)) σ pr.length) H'):WS P (.sV ms pr post) s Q σ H:=by
 refine aoV a b z vals hrs hab Ox Oy pure fun x y h=> ?_;have n2:((H.new z).new z).next=H.next+2:=rfl;have o0:((H.new z).new z).obj H.next=some z:=by
  show(if H.next=H.next+1 then _ else if H.next=H.next then some z else _)=_
  rw [if_neg (by omega),if_pos rfl]
 have o1:((H.new z).new z).obj (H.next+1)=some z:=by
  show(if H.next+1=H.next+1 then some z else _)=_
  rw [if_pos rfl]
 refine fin x y _ (HF.new (HF.new (HF.refl _ _))) (by omega) (by omega) (by omega) (by omega) (by omega) ?_ ?_ (fun c hc=>hc.new.new)
 · rcases h with⟨rfl,rfl⟩|⟨rfl,rfl⟩<;>assumption
 · rcases h with⟨rfl,rfl⟩|⟨rfl,rfl⟩<;>assumption
theorem Cx (a b:Nat) (vals:List PV) (x y:PV) (i:Nat):qX a b vals x y i=if i=a then x else if i=b then y else(vals[i]?).getD ud:=rfl
theorem PZ {fs cs az:List PV} {g:FuncId} {es:List AE} {H:AH} {r q:PV} (h:aG P g az r) (ha:fs++evs σ es++cs=az:=by first|(simp -implicitDefEqProofs only [go_sem,Cx,reduceIte,E2, *];done)|(simp -implicitDefEqProofs only [go_sem,Cx,reduceIte,E2, *];rfl)) (hr:r=q:=by simp -implicitDefEqProofs only [go_sem,Cx,reduceIte,E2, *]):dQ P (.call (.c (.fn (.func g) fs cs)) es) (fun p fu=>p=q/\fu=H) σ H:=by
 show aW P g (fs++evs σ es++cs) H _
 rw [ha,<-hr];exact h H
theorem mX {A:Prop} (h:A:=by simp -implicitDefEqProofs only [dQ,go_sem,Cx,Nat.reduceAdd,Nat.reduceEqDiff,reduceIte,d5,N2,E2,C7, *]):A:=h
end
end Go.VL
end
section
namespace Go.VL
open Go.Proofs
def nz {α:Type} (l:List α):Ck:=if l.isEmpty then .nil else .unk
theorem azL {α:Type}:nz ([]:List α)= .nil:=rfl
theorem YE {α:Type} (x:α) (l:List α):nz (x::l)= .unk:=rfl
theorem MZ {α:Type} {f:α->List PV} (hf: ∀x,∀c∈f x,Pu c) (l:List α):Pu (.ah (l.map f) (nz l)):=by
 cases l with
 |nil=>exact bK (f:=f) hf []|>fun _=> .ah _ _ (fun cs h=>by cases h) (fun k=>by simp [nz])
 |cons x l=>exact bK hf _
structure Fo where
 us:List (List Nd)
 cs:List Int
 num:Int
 bad:Bool
deriving DecidableEq
def Fo.cells (x:Fo):List PV:=[(.ah (x.us.map (bR Nd.cells)) (nz x.us)),(.ah (x.cs.map aK) (nz x.cs)),(.int .i64 x.num),(.bool x.bad)]
theorem Fo.je (x:Fo):x.cells=[(.ah (x.us.map (bR Nd.cells)) (nz x.us)),(.ah (x.cs.map aK) (nz x.cs)),(.int .i64 x.num),(.bool x.bad)]:=rfl
theorem Fo.pu (x:Fo): ∀c∈x.cells,Pu c:=dJ.mem (.cons (MZ (tN Nd.pu) _) (.cons (MZ gV _) (.cons (.int _ _) (.cons (.bool _) .nil))))
instance:K6 Fo.cells:=⟨Fo.pu⟩
attribute [go_sem] Fo.je azL YE
theorem lV {H:AH} {p q:PV} (h:Fz H p q:=by first|exact .pure _ (MZ (tN Nd.pu) _)|exact .pure _ (MZ gV _)|exact .pure _ (.ah _ _ (fun cs h=>by cases h) (fun k=>by simp))|exact jV (tN Nd.pu) [_] _|exact jV gV [_] _):Fz H p q:=h
def Rz {α:Type} (H:AH) (f:α->List PV) (l:List α) (v:PV) (ids:List Nat):Prop:=aB H f 1 l v ids/\(l=[]->v= .ah [] .nil)
theorem Rz.fz {α:Type} {H:AH} {f:α->List PV} {l:List α} {v:PV} {ids:List Nat} (hp: ∀x,∀c∈f x,Pu c) [hr:nk f 1] (h:Rz H f l v ids):Fz H v (.ah (l.map f) (nz l)):=by
 cases l with
 |nil=>rw [h.2 rfl];exact .pure _ (.ah _ _ (fun cs h=>by cases h) (fun k=>by simp))
 |cons x l=>exact h.1.fz hp
def MkZ {α:Type} (f:α->List PV) (xs:List α) (H:AH) (v:PV) (H':AH):Prop:= ∃ids,Rz H' f xs v ids/\Nw H [] ids/\HF [] H H'/\ ∀c,aR H c->aR H' c
theorem ajq (l:List (List Nd)) (hl:l.length<=1000000) (H:AH):aW Tryz.prog 107 [.ah (l.map (bR Nd.cells)) (nz l)] H (MkZ (bR Nd.cells) l H):=by
 refine aL Kp.aC2 (by simp) (aI ?_);unfold Kp.aso;cases l with
 |nil=>
  simp -implicitDefEqProofs only [go_sem,MA];exact⟨[],⟨aB.nil,fun _=>rfl⟩,(fun _ h=>by cases h),HF.refl _ _,fun _ h=>h⟩
 |cons x l=>
  have h1: ¬((x::l).map (bR Nd.cells)).length=0:=by simp
  rw [YE];simp -implicitDefEqProofs only [go_sem,h1,A0,ne_eq,W7,Nat.succ_ne_zero,Nat.add_eq_zero_iff,and_false];refine Mx (f:=bR Nd.cells) (fun x=>IG x) (x::l) .unk aC aC (by simp) (by simp only [I0]at hl⊢;omega) (fun v' gD H' g1 g2 g3 g4=> ?_);simp -implicitDefEqProofs only [go_sem];exact⟨gD,⟨g1,fun h=>by cases h⟩,g2,g3,g4⟩
theorem WB (l:List Int) (hl:l.length<=1000000) (H:AH):aW Tryz.prog 202 [.ah (l.map aK) (nz l)] H (MkZ aK l H):=by
 refine aL Kp.asr (by simp) (aI ?_);unfold Kp.ajp;cases l with
 |nil=>
  simp -implicitDefEqProofs only [go_sem,MA];exact⟨[],⟨aB.nil,fun _=>rfl⟩,(fun _ h=>by cases h),HF.refl _ _,fun _ h=>h⟩
 |cons x l=>
  have h1: ¬((x::l).map aK).length=0:=by simp
  rw [YE];simp -implicitDefEqProofs only [go_sem,h1,A0,ne_eq,W7,Nat.succ_ne_zero,Nat.add_eq_zero_iff,and_false];refine Mx (f:=aK) tJ (x::l) .unk aC aC (by simp) (by simp only [I0]at hl⊢;omega) (fun v' gD H' g1 g2 g3 g4=> ?_);simp -implicitDefEqProofs only [go_sem];exact⟨gD,⟨g1,fun h=>by cases h⟩,g2,g3,g4⟩
section
variable {P:Program} {σ:Nat->PV} {H:AH} {α:Type} {f:α->List PV} {sz:Nat} {v:PV} {ids:List Nat}
theorem Ko {b:Nat} {x y:AE} [hr:nk f sz] (hf: ∀x,kC sz (f x)) (xs ys:List α) (c2:Ck)
 (hx:x.ev σ=v) (hrow:aB H f sz xs v ids) (hy:y.ev σ= .ah (ys.map f) c2) (hs:0<ys.length) (hb:(xs.length+ys.length)*b<=1099511627776):
 dQ P (.n (.app sz b x y)) (fun v' H'=> ∃gD,aB H' f sz (xs++ys) v' gD/\Nw H ids gD/\HF ids H H'/\ ∀c3,aR H c3->aR H' c3) σ H:=
 JU (P:=P) (s:=[]) (Q:=fun e σ' H'=> ∃gD,aB H' f sz (xs++ys) (σ' 0) gD/\Nw H ids gD/\HF ids H H'/\ ∀c3,aR H c3->aR H' c3) (d:=some 0) (l:=[]) hf xs ys c2 hx hrow hy hs hb (fun v' gD H' a b c d=>⟨gD,a,b,c,d⟩)
end
section
variable {P:Program} {Q:Post} {σ:Nat->PV} {s:List Fm} {α:Type} {H:AH} {f:α->List PV} {sz:Nat}
theorem aB.rowOf {l:List α} {v:PV} {ids:List Nat} [hr:nk f sz] (h:aB H f sz l v ids):rowOf sz H v=some (l.map f):=by
 rcases h with⟨rfl,rfl,rfl⟩|⟨id,cap,junk,rfl,rfl,h2,h3,h4,h5⟩
 · rfl
 · have hfl:=nu (f:=f) hr.len l;simp only [VL.rowOf,h4];rw [if_pos ⟨trivial,by rw [X1,hfl];omega⟩,P1];have:=yV (sz:=sz) (l.map f) junk (fun cs hcs=>by obtain⟨x,_,rfl⟩:=G3.1 hcs;exact hr.len x);rw [J1]at this;rw [this]
theorem al4 {d:Option Nat} {b:Nat} {x y:AE} {l:List aD} [hr:nk f sz] (hf: ∀x,kC sz (f x)) (ys:List α)
 (hx:x.ev σ= .ah [] .exact) (hy:rowOf sz H (y.ev σ)=some (ys.map f)) (hs:0<ys.length) (hb:ys.length*b<=1099511627776)
 (h: ∀(v':PV) (gD:List Nat) (H':AH),aB H' f sz ys v' gD->Nw H [] gD->HF [] H H'->(∀c3,aR H c3->aR H' c3)->WO P l s Q (upd σ d v') H'):
 WO P (⟨d,.n (.app sz b x y),none⟩::l) s Q σ H:=by
 show eZ P _ _ σ H
 rw [IB];have h0: ¬((ys.map f).length=0):=by rw [J1];omega
 have hx':rowOf sz H (.ah [] .exact)=some []:=rfl;simp only [nop,hx,vJ,hy,hx'];rw [if_neg h0];split
 · intro cap hcap;simp only [J1,j0,V1,R2]at hcap⊢;refine h _ [H.next] _ (.inr ⟨H.next,cap,List.replicate ((cap -ys.length)*sz) .any,rfl,rfl,hcap,A2 _,?_,by rw [D2]⟩) (fun i hi=> .inr (by rw [P0.1 hi];exact R0 _)) (HF.new (HF.refl _ _)) (fun c3 k=>k.new);show(if H.next=H.next then some _ else _)=_;rw [if_pos rfl]
 · rename_i hno;exact(hno ⟨qO hf ([]:List α),qO hf ys,by simpa using hb⟩).elim
end
theorem ajr (l:List Int) (hl:l.length<=1000000) {v:PV} {ids:List Nat} {H:AH} (h:Rz H aK l v ids):aW Tryz.prog 202 [v] H (MkZ aK l H):=by
 cases l with
 |nil=>rw [h.2 rfl];exact WB [] (by simp) H
 |cons x l=>
  have hro:=h.1.rowOf;rcases h.1 with⟨_,h,_⟩|⟨id,cap,junk,rfl,rfl,h2,h3,h4,h5⟩
  · cases h
  refine aL Kp.asr (by simp) (aI ?_);unfold Kp.ajp;simp -implicitDefEqProofs only [go_sem];refine al4 (f:=aK) tJ (x::l) aC hro (by simp) (by simp only [I0]at hl⊢;omega) (fun v' gD H' g1 g2 g3 g4=> ?_);simp -implicitDefEqProofs only [go_sem];exact⟨gD,⟨g1,fun h=>by cases h⟩,g2,g3,g4⟩
end Go.VL
end
section
set_option maxHeartbeats 4000000
namespace Go.VL
open Go.Proofs
def Jt (k:Nat) (VH:List Nd) (t_1:List Nd):Option Bool:=
 (LK k VH t_1).bind fun p2=>some p2
instance aC4 (k:Nat) (VH:List Nd) (t_1:List Nd):bY Tryz.prog 203 [(.ah (VH.map Nd.cells) .unk),(.cK [(.ah (t_1.map Nd.cells) .unk)] 0)] (Jt k VH t_1) (fun r=>(.bool r)):=bM aBI (by unfold Jt aqs;exact bE)
def gF:Nat->(List (List Nd))->(List Nd)->Int->Int->Option (Unit⊕Int)
 |0,_,_,_,_=>none
 |k+1,s_0,ji,jY,iD=>
  cond (decide (iD<jY)) (if 0<=iD then (s_0[iD.toNat]?).bind fun x3=>(Jt k x3 ji).bind fun p6=>cond p6 (some (.inr (iD))) (gF k s_0 ji jY (IntKind.wrap .i64 (iD+1)))else none) (some (.inl ()))
instance af3 (k:Nat): ∀(s_0:List (List Nd)) (ji:List Nd) (jY:Int) (iD:Int),Lp Tryz.prog (.loop Sq) (gF k s_0 ji jY iD) [(4,6),(8,19)] [(0,(.ah (s_0.map (bR Nd.cells)) .unk)),(1,(.fn (.func 203) [] [(.cK [(.ah (ji.map Nd.cells) .unk)] 0)])),(7,(.int .i64 jY)),(8,(.int .i64 iD))] (Sum.elim (fun p=>(.exit 0,[])) (fun p=>(.ret,[(4,(.int .i64 p))]))):=by
 induction k with
 |zero=>exact fun _ _ _ _=>rP rfl
 |succ k ih=>exact fun _ _ _ _=>rQ Sq.eq_1 (by unfold gF;exact bZ)
def nN (k:Nat) (s_0:List (List Nd)) (ji:List Nd):Option Int:=
 Option.bind (gF k s_0 ji (s_0.length:Int) 0) (fun o=>Sum.elim (fun mH=>some (-1)) (fun nG=>some nG) o)
instance NH (k:Nat) (s_0:List (List Nd)) (ji:List Nd):bY Tryz.prog 161 [(.ah (s_0.map (bR Nd.cells)) .unk),(.fn (.func 203) [] [(.cK [(.ah (ji.map Nd.cells) .unk)] 0)])] (nN k s_0 ji) (fun r=>(.int .i64 r)):=bM aBm (by unfold nN ap5;exact bE)
theorem NI {k:Nat} {s_0:List (List Nd)} {ji:List Nd} {c0:Ck} {r:Int} (h:nN k s_0 ji=some r):aG Tryz.prog 161 [(.ah (s_0.map (bR Nd.cells)) c0),(.fn (.func 203) [] [(.cK [(.ah (ji.map Nd.cells) .unk)] 0)])] (.int .i64 r):=((NH _ _ _).c _ h).wk (.ah (.same .nil))
def k_in (aU:Int) (UG:Int) (UH:Int):Option Bool:=
 cond (decide (aU>=UG)) (some (decide (aU<=UH))) (some false)
instance azN (aU:Int) (UG:Int) (UH:Int):bY Tryz.prog 78 [(.int .i64 aU),(.int .i64 UG),(.int .i64 UH)] (k_in aU UG UH) (fun r=>(.bool r)):=bM aFA (by unfold k_in awL;exact bE)
theorem azO {aU:Int} {UG:Int} {UH:Int} {r:Bool} (h:k_in aU UG UH=some r):aG Tryz.prog 78 [(.int .i64 aU),(.int .i64 UG),(.int .i64 UH)] (.bool r):=(azN _ _ _).c _ h
abbrev uH:List PV:=[(.ah [] .nil),(.ah [] .nil),(.int .i64 0),(.bool false)]
def UJ (f g:Fo) (t:Int) (o3 o4:Nat) (r:Nat->PV):Nat->PV
 |0=> .ref o3 0
 |1=> .ah (f.us.map (bR Nd.cells)) (nz f.us)
 |2=>r 2
 |3=> .ref o3 1
 |4=> .ah (f.cs.map aK) (nz f.cs)
 |5=>r 5
 |6=> .ref o3 2
 |7=> .int .i64 f.num
 |8=> .int .i64 t
 |9=> .ref o4 2
 |10=> .int .i64 g.num
 |11=> .int .i64 (IntKind.wrap .i64 (t*g.num))
 |12=> .int .i64 (IntKind.wrap .i64 (f.num+IntKind.wrap .i64 (t*g.num)))
 |13=> .ref o3 3
 |14=> .bool f.bad
 |15=> .bool f.bad
 |16=>if f.bad then ud else .ref o4 3
 |17=>if f.bad then ud else .bool g.bad
 |18=> .bool (f.bad||g.bad)
 |19=> .agg [r 2,r 5,.int .i64 (IntKind.wrap .i64 (f.num+IntKind.wrap .i64 (t*g.num))),.bool (f.bad||g.bad)]
 |20=>r 20
 |_=>ud
structure PlI (f:Fo) (H:AH) (rem:List Nat) (r:Nat->PV) (H':AH):Prop where
 hf:HF [] H H'
 ok: ∀c,aR H c->aR H' c
 sub: ∀j∈rem,j=2\/j=5\/j=20
 ex: ∃(iU iB:List Nat) (o7:Nat),(2∉rem->Rz H' (bR Nd.cells) f.us (r 2) iU/\Nw H [] iU)/\(5∉rem->Rz H' aK f.cs (r 5) iB/\Nw H [] iB)/\(20∉rem->r 20= .ref o7 0/\H.next<=o7/\o7<H'.next/\H'.obj o7=some uH)/\
  (2∉rem->5∉rem->Dj iU iB)/\(2∉rem->20∉rem->o7∉iU)/\(5∉rem->20∉rem->o7∉iB)
theorem Rz.hf {α:Type} {H H':AH} {f:α->List PV} {l:List α} {v:PV} {ids M:List Nat} (h:Rz H f l v ids) (hf:HF M H H') (hd:Dj ids M):Rz H' f l v ids:=⟨h.1.hf hf hd,h.2⟩
theorem HF.tn {H H1 H2:AH} (h1:HF [] H H1) (h2:HF [] H1 H2):HF [] H H2:=⟨E1 h1.1 h2.1,fun i hi hm=>(h2.2 i (K0 hi h1.1) hm).trans (h1.2 i hi hm)⟩
theorem Nw.fr {H H1:AH} {b:List Nat} (h1:HF [] H H1) (h2:Nw H1 [] b):Nw H [] b:=fun i hi=>by
 rcases h2 i hi with q|q
 · exact .inl q
 · exact .inr (E1 h1.1 q)
theorem al5 {H1:AH} {a b:List Nat} (h1: ∀i∈a,i<H1.next) (h2:Nw H1 [] b):Dj a b:=fun i hi hj=>by
 rcases h2 i hj with q|q
 · cases q
 · have:=h1 i hi;omega
theorem ahg {H1:AH} {b:List Nat} {i:Nat} (h1:i<H1.next) (h2:Nw H1 [] b):i∉b:=fun hj=>by
 rcases h2 i hj with q|q
 · cases q
 · omega
theorem Rz.co {α:Type} {H:AH} {f:α->List PV} {l:List α} {v:PV} {ids:List Nat} (h:Rz H f l v ids):cellsOf v=some [v]:=by
 rcases h.1 with⟨rfl,_⟩|⟨id,cap,junk,_,rfl,_⟩<;>rfl
theorem aB.co {α:Type} {H:AH} {f:α->List PV} {l:List α} {v:PV} {sz:Nat} {ids:List Nat} (h:aB H f sz l v ids):cellsOf v=some [v]:=by
 rcases h with⟨rfl,_⟩|⟨id,cap,junk,_,rfl,_⟩<;>rfl
theorem aB.one {α:Type} {H:AH} {f:α->List PV} {l:List α} {v:PV} {sz:Nat} {ids:List Nat} (h:aB H f sz l v ids):v.one=true:=by
 rcases h with⟨rfl,_⟩|⟨id,cap,junk,_,rfl,_⟩<;>rfl
theorem flt {rem:List Nat} {s j:Nat} (hs:s≠j) (h:s∉rem.filter (·!=j)):s∉rem:=fun hm=>h (i6.2 ⟨hm,by simpa using hs⟩)
abbrev azP:List Nat:=[0,1,3,0,8,31,0,64,0,0,512,1792,4032,0,8192,24639,57407,122943,254015,524287,0,2097151]
abbrev YF:List (aD×Bool):=[(oF 13 0 3,false),(oL 14 1 13,false),(oC 15 107 [(.t 14)],true),(oF 16 1 3,false),(oL 17 1 16,false),(oC 18 202 [(.t 17)],true),(oF 19 2 3,false),(oL 20 1 19,false),(oM 21 2,false),(oF 22 2 4,false),(oL 23 1 22,false),(oB 24 .mul (.t 21) (.t 23),false),(oB 25 .add (.t 20) (.t 24),false),(oF 26 3 3,false),(oL 27 1 26,false),(oM 28 27,false),(oFg 29 3 4 28 false,false),(Zb 30 1 29 28 false,false),(oR 31 (.pick (.t 28) (.c (.bool true)) (.t 30)),false),(oR 32 (.build [(.ah [] .nil),(.ah [] .nil),(.int .i64 0),(.bool false)] [(0,(1,(.t 15))),(1,(1,(.t 18))),(2,(1,(.t 25))),(3,(1,(.t 31)))]),false),(⟨(some 7),(.d (.alloc [(.ah [] .nil),(.ah [] .nil),(.int .i64 0),(.bool false)])),none⟩,true)]
theorem af4 {f g:Fo} {t:Int} {o3 o4:Nat} {σ:Nat->PV} {H:AH} {post:List aD} {s:List Fm} {Q:Post} (s2:σ 2= .int .i64 t) (s3:σ 3= .ref o3 0) (s4:σ 4= .ref o4 0) (h3:H.obj o3=some f.cells) (h4:H.obj o4=some g.cells) (l3:o3<H.next) (l4:o4<H.next)
 (hu:f.us.length<=1000000) (hc:f.cs.length<=1000000)
 (hK: ∀(vU vB:PV) (iU iB:List Nat) (o7:Nat) (H':AH) (σ':Nat->PV),HF [] H H'->Rz H' (bR Nd.cells) f.us vU iU->Rz H' aK f.cs vB iB->Nw H [] iU->Nw H [] iB->Dj iU iB->H.next<=o7->o7<H'.next->H'.obj o7=some uH->o7∉iU->o7∉iB->
  σ' 7= .ref o7 0->σ' 32= .agg [vU,vB,.int .i64 (IntKind.wrap .i64 (f.num+IntKind.wrap .i64 (t*g.num))),.bool (f.bad||g.bad)]->σ' 2=σ 2->σ' 4=σ 4->σ' 6=σ 6->WO Tryz.prog post s Q σ' H'):WS Tryz.prog (.sV azP YF post) s Q σ H:=by
 refine LQ [2,5,20] (by kernel_rfl) (UJ f g t o3 o4) (PlI f H) (fun r j hj=> ?_) (fun r r' i h=> ?_) ⟨fun _=>ud,HF.refl _ _,fun _ h=>h,fun j hj=>by simpa using hj,[],[],0,fun h=>absurd (by simp) h,fun h=>absurd (by simp) h,fun h=>absurd (by simp) h,fun h=>absurd (by simp) h,fun h=>absurd (by simp) h,fun h=>absurd (by simp) h⟩ ?_ ?_ ?_
 · rcases(show j=2\/j=5\/j=20 by simpa using hj)with rfl|rfl|rfl<;>rfl
 · unfold UJ;split<;>first|rfl|exact h _ (by simp) (.inr rfl)|(rw [h 2 (by simp) (.inl (by decide+kernel)),h 5 (by simp) (.inl (by decide+kernel))])
 · rintro rem r H' ⟨hf,hok,hsub,iU,iB,o7,e2,e5,e20,d1,d2,d3⟩;have h3':H'.obj o3=some f.cells:=(hf.2 o3 l3 D0).trans h3;have h4':H'.obj o4=some g.cells:=(hf.2 o4 l4 D0).trans h4;refine⟨.inr (.inr ?_),.inr (.inr ?_),.inl rfl,.inr (.inr ?_),.inr (.inr ?_),.inl rfl,.inr (.inr ?_),.inr (.inr ?_),.inr (.inr ?_),.inr (.inr ?_),.inr (.inr ?_),.inr (.inr ?_),.inr (.inr ?_),.inr (.inr ?_),.inr (.inr ?_),.inr (.inr ?_),.inr (.inr ?_),.inr (.inr ?_),.inr (.inr ?_),?_,.inl rfl,trivial⟩
   all_goals try simp -implicitDefEqProofs only [KO,dQ,go_sem,UJ,s2,s3,s4,h3',h4',Nat.reduceAdd,C7]
   · cases f.bad<;>simp -implicitDefEqProofs only [A0,L2,I2,A7,reduceIte]
   · cases f.bad<;>simp -implicitDefEqProofs only [A0,L2,I2,A7,reduceIte,h4',Fo.je,d5,N2,CQ,zZ,I0,j0,Nat.reduceAdd,Nat.reduceLeDiff]
   · cases f.bad<;>simp -implicitDefEqProofs only [A0,L2,I2,A7,reduceIte,S8,Q4]
   · by_cases m2:2∈rem
     · exact .inr (.inl (by unfold Ht;rw [C5];exact .inl (n9.2 ⟨2,m2,by decide+kernel⟩)))
     by_cases m5:5∈rem
     · exact .inr (.inl (by unfold Ht;rw [C5];exact .inl (n9.2 ⟨5,m5,by decide+kernel⟩)))
     refine .inr (.inr ?_);rw [(e2 m2).1.co,(e5 m5).1.co];simp -implicitDefEqProofs only [go_sem,X1,E4,Nat.reduceSub,C7,A0,GC,P1,HB,m9]
 · rintro rem r H' j o ⟨hf,hok,hsub,iU,iB,o7,e2,e5,e20,d1,d2,d3⟩ hj ho hb;rcases hsub j hj with rfl|rfl|rfl
   · obtain rfl:oC 15 107 [(.t 14)]=o:=(B9 (V2 ho)).1;refine⟨trivial,?_⟩;show aW Tryz.prog 107 [bV YF (UJ f g t o3 o4 r) σ 2 14] H' _;rw [show bV YF (UJ f g t o3 o4 r) σ 2 14= .ah (f.us.map (bR Nd.cells)) (nz f.us)from rfl];refine aW.mono (ajq f.us hu H') fun p H2 ⟨i2,g1,g2,g3,g4⟩=>⟨fun s=>if s=2 then p else r s,rfl,fun s hs=>if_neg hs,hf.tn g3,fun c h=>g4 c (hok c h),fun k hk=>hsub k (i6.1 hk).1,i2,iB,o7,fun _=>⟨g1,g2.fr hf⟩,fun h=> ?_,fun h=> ?_,fun _ h=> ?_,fun _ h=> ?_,fun h h'=>d3 (flt (by decide) h) (flt (by decide) h')⟩
     · obtain⟨a,b⟩:=e5 (flt (by decide) h);exact⟨a.hf g3 Dj.nil.symm,b⟩
     · obtain⟨a,b,c,d⟩:=e20 (flt (by decide) h);exact⟨a,b,K0 c g3.1,(g3.2 o7 c D0).trans d⟩
     · exact(al5 (e5 (flt (by decide) h)).1.1.lt g2).symm
     · exact ahg (e20 (flt (by decide) h)).2.2.1 g2
   · obtain rfl:oC 18 202 [(.t 17)]=o:=(B9 (V2 ho)).1;refine⟨trivial,?_⟩;show aW Tryz.prog 202 [bV YF (UJ f g t o3 o4 r) σ 5 17] H' _;rw [show bV YF (UJ f g t o3 o4 r) σ 5 17= .ah (f.cs.map aK) (nz f.cs)from rfl];refine aW.mono (WB f.cs hc H') fun p H2 ⟨i2,g1,g2,g3,g4⟩=>⟨fun s=>if s=5 then p else r s,rfl,fun s hs=>if_neg hs,hf.tn g3,fun c h=>g4 c (hok c h),fun k hk=>hsub k (i6.1 hk).1,iU,i2,o7,fun h=> ?_,fun _=>⟨g1,g2.fr hf⟩,fun h=> ?_,fun h _=> ?_,fun h h'=>d2 (flt (by decide) h) (flt (by decide) h'),fun _ h=> ?_⟩
     · obtain⟨a,b⟩:=e2 (flt (by decide) h);exact⟨a.hf g3 Dj.nil.symm,b⟩
     · obtain⟨a,b,c,d⟩:=e20 (flt (by decide) h);exact⟨a,b,K0 c g3.1,(g3.2 o7 c D0).trans d⟩
     · exact al5 (e2 (flt (by decide) h)).1.1.lt g2
     · exact ahg (e20 (flt (by decide) h)).2.2.1 g2
   · obtain rfl:(⟨(some 7),(.d (.alloc uH)),none⟩:aD)=o:=(B9 (V2 ho)).1;refine⟨trivial,⟨fun s=>if s=20 then .ref H'.next 0 else r s,rfl,fun s hs=>if_neg hs,HF.new hf,fun c h=>(hok c h).new,fun k hk=>hsub k (i6.1 hk).1,iU,iB,H'.next,fun h=> ?_,fun h=> ?_,fun _=>⟨rfl,hf.1,A2 _,?_⟩,fun h h'=>d1 (flt (by decide) h) (flt (by decide) h'),fun h _ hm=> ?_,fun h _ hm=> ?_⟩⟩
     · obtain⟨a,b⟩:=e2 (flt (by decide) h);exact⟨a.hf (HF.new (HF.refl _ _)) Dj.nil.symm,b⟩
     · obtain⟨a,b⟩:=e5 (flt (by decide) h);exact⟨a.hf (HF.new (HF.refl _ _)) Dj.nil.symm,b⟩
     · show(if H'.next=H'.next then some uH else _)=_
       rw [if_pos rfl]
     · exact absurd ((e2 (flt (by decide) h)).1.1.lt _ hm) (d8 _)
     · exact absurd ((e5 (flt (by decide) h)).1.1.lt _ hm) (d8 _)
 · rintro r H' ⟨hf,hok,hsub,iU,iB,o7,e2,e5,e20,d1,d2,d3⟩;have n2:(2:Nat)∉([]:List Nat):=D0;have n5:(5:Nat)∉([]:List Nat):=D0;have n20:(20:Nat)∉([]:List Nat):=D0;obtain⟨a1,a2⟩:=e2 n2;obtain⟨b1,b2⟩:=e5 n5;obtain⟨c1,c2,c3,c4⟩:=e20 n20;exact hK (r 2) (r 5) iU iB o7 H' _ hf a1 b1 a2 b2 (d1 n2 n5) c2 c3 c4 (d2 n2 n20) (d3 n5 n20) c1 rfl rfl rfl rfl
abbrev asu:List Nat:=[0,1,0,4,15,0,32,0,255,127,1023,2047,4095]
abbrev asv:List (aD×Bool):=[(oF 53 0 7,false),(oL 54 1 53,false),(oL 55 1 9,false),(oR 56 (.CO 1 [(.t 55)]),false),(⟨(some 57),(.n (.app 1 24 (.t 54) (.t 56))),none⟩,true),(oF 58 1 7,false),(oL 59 1 58,false),(oR 60 (.CO 1 [(.c (.int .i64 0))]),false),(⟨(some 61),(.n (.app 1 8 (.t 59) (.t 60))),none⟩,true),(oF 62 0 7,false)]
def aa9 (u:List Nd) (vU vB:PV) (o7:Nat) (r:Nat->PV):Nat->PV
 |0=> .ref o7 0
 |1=>vU
 |2=> .ah (u.map Nd.cells) .unk
 |3=> .ah [[.ah (u.map Nd.cells) .unk]] .exact
 |4=>r 4
 |5=> .ref o7 1
 |6=>vB
 |7=> .ah [[.int .i64 0]] .exact
 |8=>r 8
 |9=> .ref o7 0
 |_=>ud
theorem aek {u:List Nd} {us:List (List Nd)} {cs:List Int} {vU vB:PV} {iU iB:List Nat} {num:PV} {bad:PV} {o7 o9:Nat} {σ:Nat->PV} {H:AH} {post:List aD} {s:List Fm} {Q:Post} (s7:σ 7= .ref o7 0) (s9:σ 9= .ref o9 0) (h7:H.obj o7=some [vU,vB,num,bad]) (h9:H.obj o9=some [.ah (u.map Nd.cells) .unk]) (l7:o7<H.next) (l9:o9<H.next)
 (rU:aB H (bR Nd.cells) 1 us vU iU) (rB:aB H aK 1 cs vB iB) (dj:Dj iU iB) (AZ:o7∉iU) (wD:o7∉iB) (n9U:o9∉iU) (n9B:o9∉iB)
 (hu:us.length<=1000000) (hc:cs.length<=1000000)
 (hK: ∀(wU wB:PV) (jU jB:List Nat) (H':AH) (σ':Nat->PV),HF (iU++iB) H H'->aB H' (bR Nd.cells) 1 (us++[u]) wU jU->aB H' aK 1 (cs++[0]) wB jB->Nw H iU jU->Nw H iB jB->Dj jU jB->
  σ' 62= .ref o7 0->σ' 57=wU->σ' 61=wB->σ' 7=σ 7->σ' 2=σ 2->σ' 4=σ 4->σ' 6=σ 6->σ' 8=σ 8->σ' 10=σ 10->σ' 37=σ 37->σ' 38=σ 38->σ' 39=σ 39->WO Tryz.prog post s Q σ' H'):WS Tryz.prog (.sV asu asv post) s Q σ H:=by
 refine LQ [4,8] (by kernel_rfl) (aa9 u vU vB o7) (fun rem r H'=>(rem=[4,8]/\H'=H)\/
  (rem=[8]/\ ∃jU,aB H' (bR Nd.cells) 1 (us++[u]) (r 4) jU/\Nw H iU jU/\HF iU H H')\/
  (rem=[]/\ ∃jU jB,aB H' (bR Nd.cells) 1 (us++[u]) (r 4) jU/\aB H' aK 1 (cs++[0]) (r 8) jB/\Nw H iU jU/\Nw H iB jB/\Dj jU jB/\HF (iU++iB) H H')) (fun r j hj=> ?_) (fun r r' i h=> ?_) ⟨fun _=>ud,.inl ⟨rfl,rfl⟩⟩ ?_ ?_ ?_
 · rcases(show j=4\/j=8 by simpa using hj)with rfl|rfl<;>rfl
 · unfold aa9;split<;>first|rfl|exact h _ (by simp) (.inr rfl)
 · have key: ∀rem r H',H'.obj o7=some [vU,vB,num,bad]->H'.obj o9=some [.ah (u.map Nd.cells) .unk]->Hr Tryz.prog H' (Ht asu [4,8] rem) 0 asv (aa9 u vU vB o7 r) σ:=by
    intro rem r H' h7' h9';refine⟨.inr (.inr ?_),.inr (.inr ?_),.inr (.inr ?_),.inr (.inr ?_),.inl rfl,.inr (.inr ?_),.inr (.inr ?_),.inr (.inr ?_),.inl rfl,.inr (.inr ?_),trivial⟩
    all_goals simp -implicitDefEqProofs only [KO,dQ,go_sem,aa9,s7,s9,h7',h9',Nat.reduceAdd,C7]
   rintro rem r H' (⟨rfl,rfl⟩|⟨rfl,jU,g1,g2,g3⟩|⟨rfl,jU,jB,g1,g2,g3,g4,g5,g6⟩)
   · exact key _ _ _ h7 h9
   · exact key _ _ _ ((g3.2 o7 l7 AZ).trans h7) ((g3.2 o9 l9 n9U).trans h9)
   · exact key _ _ _ ((g6.2 o7 l7 (fun h=>(P2.1 h).elim AZ wD)).trans h7) ((g6.2 o9 l9 (fun h=>(P2.1 h).elim n9U n9B)).trans h9)
 · rintro rem r H' j o (⟨rfl,rfl⟩|⟨rfl,jU,g1,g2,g3⟩|⟨rfl,jU,jB,g1,g2,g3,g4,g5,g6⟩) hj ho hb
   · have hj4:j=4:=by
      rcases(show j=4\/j=8 by simpa using hj)with rfl|rfl
      · rfl
      · rcases hb 4 (by simp)with h|h
        · exact absurd h (by decide+kernel)
        · cases h
     subst hj4;obtain rfl:(⟨(some 57),(.n (.app 1 24 (.t 54) (.t 56))),none⟩:aD)=o:=(B9 (V2 ho)).1;refine⟨trivial,kI (fun p H2 ⟨i2,a1,a2,a3,a4⟩=>⟨fun s=>if s=4 then p else r s,rfl,fun s hs=>if_neg hs,.inr (.inl ⟨rfl,i2,a1,a2,a3⟩)⟩) (Ko (f:=bR Nd.cells) (fun x=>IG x) us [u] .exact rfl rU rfl (by simp) (by simp only [I0,j0];omega))⟩
   · obtain rfl:j=8:=by simpa using hj
     obtain rfl:(⟨(some 61),(.n (.app 1 8 (.t 59) (.t 60))),none⟩:aD)=o:=(B9 (V2 ho)).1;have rB':aB H' aK 1 cs vB iB:=rB.hf g3 dj.symm;refine⟨trivial,kI (fun p H2 ⟨i2,a1,a2,a3,a4⟩=>⟨fun s=>if s=8 then p else r s,rfl,fun s hs=>if_neg hs,.inr (.inr ⟨rfl,jU,i2,g1.hf a3 ?_,a1,g2,?_,?_,?_⟩)⟩) (Ko (f:=aK) tJ cs [0] .exact rfl rB' rfl (by simp) (by simp only [I0,j0];omega))⟩
     · intro i hi hb';rcases g2 i hi with q|q
       · exact dj i q hb'
       · have:=rB.lt i hb';omega
     · exact Nw.trans (fun i h=> .inl h) g3.1 a2
     · intro i hi hb';rcases a2 i hb' with q|q
       · rcases g2 i hi with q'|q'
         · exact dj i q' q
         · have:=rB.lt i q;omega
       · have:=g1.lt i hi;omega
     · exact⟨E1 g3.1 a3.1,fun i hi hm=>(a3.2 i (K0 hi g3.1) (fun h=>hm (T5 _ h))).trans (g3.2 i hi (fun h=>hm (N4 _ h)))⟩
   · cases hj
 · rintro r H' (⟨h,_⟩|⟨h,_⟩|⟨_,jU,jB,g1,g2,g3,g4,g5,g6⟩)
   · cases h
   · cases h
   · exact hK (r 4) (r 8) jU jB H' _ g6 g1 g2 g3 g4 g5 rfl rfl rfl rfl rfl rfl rfl rfl rfl rfl rfl rfl
theorem YG {P:Program} {l:List aD} {s:List Fm} {Q:Post} {σ:Nat->PV} {H:AH} (h: ∀fr,fr=s->WO P l fr Q σ H):WO P l s Q σ H:=h s rfl
abbrev asx:List (aD×Bool):=[(oF 64 1 7,false),(oL 65 1 64,false),(oM 66 10,false),(oX 67 1 65 66,false),(oL 68 1 67,false),(oM 69 2,false),(oF 70 1 4,false),(oL 71 1 70,false),(oM 72 8,false),(oX 73 1 71 72,false),(oL 74 1 73,false),(oB 75 .mul (.t 69) (.t 74),false)]
theorem Z0 {g:Fo} {t num a i c n:Int} {o4 o7:Nat} {cs:List Int} {vU vB:PV} {iB:List Nat} {σ:Nat->PV} {H:AH} {s:List Fm} {Q:Post} (s2:σ 2= .int .i64 t) (s4:σ 4= .ref o4 0) (s7:σ 7= .ref o7 0) (s8:σ 8= .int .i64 i) (s10:σ 10= .int .i64 a)
 (h4:H.obj o4=some g.cells) (h7:H.obj o7=some [vU,vB,.int .i64 num,.bool false]) (rB:Rz H aK cs vB iB) (ha:0<=a) (hc:cs[a.toNat]? =some c) (hi:0<=i) (hn:g.cs[i.toNat]? =some n)
 (hK: ∀(H':AH) (σ':Nat->PV),Rz H' aK (cs.set a.toNat (IntKind.wrap .i64 (c+IntKind.wrap .i64 (t*n)))) vB iB->HF iB H H'->(σ' 2=σ 2/\σ' 4=σ 4/\σ' 6=σ 6/\σ' 7=σ 7/\σ' 37=σ 37/\σ' 38=σ 38/\σ' 39=σ 39)->WE Tryz.prog .normal s Q σ' H'):
 WS Tryz.prog (.par asx [oB 76 .add (.t 68) (.t 75),oX 77 1 65 66,oS 1 77 76]) s Q σ H:=by
 obtain⟨id,C,hid,hlt,hC,hcell,hL,hD,hI⟩:=aB.content rB.1 hc;have hx:jS 1 vB (.int .i64 a)=some (.ref id a.toNat):=by simpa using hI .i64 a ha rfl
 have hcc:C[a.toNat]? =some (.int .i64 c):=by simpa using hcell 0 _ rfl
 unfold asx;refine oH ?_;refine dD ?_;refine qd (f:=aK) (id:=id) (o:=a.toNat) (i:=a.toNat) (j:=0) (a:=c) (y:=IntKind.wrap .i64 (c+IntKind.wrap .i64 (t*n))) (vs:=[(.int .i64 (IntKind.wrap .i64 (c+IntKind.wrap .i64 (t*n))))]) aC hid (by omega) rB.1 hc aC rfl rfl (by decide) rfl (fun H' g1 g2 g3=> ?_);refine ak ?_;refine hK H' _ ⟨g1,fun h=> ?_⟩ g2 (by simp -implicitDefEqProofs only [go_sem,C7]);have:=congrArg List.length h;simp only [W8,j0]at this;have hl:=(S0.1 hc).1;omega
def zP (us:List (List Nd)) (cs:List Int) (a v:Int):Option (List (List Nd)×List Int):=
 if 0<=a then (cs[a.toNat]?).bind fun c=>some (us,cs.set a.toNat (IntKind.wrap .i64 (c+v)))else none
def uI:Nat->Fo->Int->List (List Nd)->List Int->Int->Option (List (List Nd)×List Int)
 |0,_,_,_,_,_=>none
 |k+1,g,t,us,cs,i=>
  cond (decide (i<(g.us.length:Int))) (if 0<=i then (g.us[i.toNat]?).bind fun u=>if us.length<=1000000/\cs.length<=1000000 then (nN k us u).bind fun a=>(g.cs[i.toNat]?).bind fun n=>
   (cond (decide (a<0)) (zP (us++[u]) (cs++[0]) (cs.length:Int) (IntKind.wrap .i64 (t*n))) (zP us cs a (IntKind.wrap .i64 (t*n)))).bind fun p=>uI k g t p.1 p.2 (IntKind.wrap .i64 (i+1))else none else none) (some (us,cs))
structure PlS (g:Fo) (t num:Int) (o4 o6 o7:Nat) (us:List (List Nd)) (cs:List Int) (vU vB:PV) (iU iB:List Nat) (σ:Nat->PV) (H:AH):Prop where
 s2:σ 2= .int .i64 t
 s4:σ 4= .ref o4 0
 s6:σ 6= .ref o6 0
 s7:σ 7= .ref o7 0
 h4:H.obj o4=some g.cells
 h6:H.obj o6=some uH
 h7:H.obj o7=some [vU,vB,.int .i64 num,.bool false]
 l4:o4<H.next
 l6:o6<H.next
 l7:o7<H.next
 n47:o4≠o7
 n67:o6≠o7
 rU:Rz H (bR Nd.cells) us vU iU
 rB:Rz H aK cs vB iB
 dj:Dj iU iB
 LU:o4∉iU
 Ju:o6∉iU
 AZ:o7∉iU
 F6:o4∉iB
 Ej:o6∉iB
 wD:o7∉iB
theorem af5 (g:Fo) (t num:Int) (o4 o6 o7:Nat): ∀(k:Nat) (us:List (List Nd)) (cs:List Int) (i:Int) (vU vB:PV) (iU iB:List Nat) (σ:Nat->PV) (H:AH) (Q:Post) (us':List (List Nd)) (cs':List Int),PlS g t num o4 o6 o7 us cs vU vB iU iB σ H->σ 37= .ah (g.us.map (bR Nd.cells)) (nz g.us)->σ 38= .int .i64 g.us.length->σ 39= .int .i64 i->
 uI k g t us cs i=some (us',cs')->(∀(wU wB:PV) (jU jB:List Nat) (σ':Nat->PV) (H':AH),PlS g t num o4 o6 o7 us' cs' wU wB jU jB σ' H'->Q (.exit 0) σ' H')->W Tryz.prog (.loop Kp.UE) Q σ H:=by
 intro k
 induction k with
 |zero=>intro us cs i vU vB iU iB σ H Q us' cs' hS s37 s38 s39 h hQ;simp only [uI,reduceCtorEq]at h
 |succ k ih=>
  intro us cs i vU vB iU iB σ H Q us' cs' hS s37 s38 s39 h hQ;have s2:=hS.s2;have s4:=hS.s4;have s6:=hS.s6;have s7:=hS.s7;have h4:=hS.h4;have h7:=hS.h7;unfold uI at h;refine bB (fun K hK=>aI ?_);unfold Kp.UE;obtain⟨e1,h⟩|⟨e1,h⟩:=aJ h
  · obtain⟨e2,h⟩:=aX h;obtain⟨u,e3,h⟩:=aj h;obtain⟨⟨e4,e4'⟩,h⟩:=aX h;obtain⟨a,e5,h⟩:=aj h;obtain⟨n,e6,h⟩:=aj h;obtain⟨⟨us2,cs2⟩,e7,h⟩:=aj h;have n9U:H.next∉iU:=fun hm=>d8 _ (hS.rU.1.lt _ hm);have n9B:H.next∉iB:=fun hm=>d8 _ (hS.rB.1.lt _ hm);have l7:=hS.l7;have l4:=hS.l4;have w7:=ne_next l7;have w4:=ne_next l4;refine ak ?_;have hf1:HF [] H ((H.new [PV.ah [] Ck.nil]).put H.next [PV.ah (List.map Nd.cells u) Ck.unk]):=HF.put (.inr (R0 _)) (HF.new (HF.refl _ _));have h91:((H.new [PV.ah [] Ck.nil]).put H.next [PV.ah (List.map Nd.cells u) Ck.unk]).obj H.next=some [PV.ah (List.map Nd.cells u) Ck.unk]:=if_pos rfl;have l91:H.next<((H.new [PV.ah [] Ck.nil]).put H.next [PV.ah (List.map Nd.cells u) Ck.unk]).next:=A2 _;generalize((H.new [PV.ah [] Ck.nil]).put H.next [PV.ah (List.map Nd.cells u) Ck.unk])=H1 at hf1 h91 l91⊢;have rU1:=hS.rU.hf hf1 Dj.nil.symm;have rB1:=hS.rB.hf hf1 Dj.nil.symm;have h41:=(hf1.2 o4 l4 D0).trans h4;have h61:=(hf1.2 o6 hS.l6 D0).trans hS.h6;have h71:=(hf1.2 o7 l7 D0).trans h7;refine FI (NI e5) (.cons (rU1.fz (tN Nd.pu)) (.cons (apw (.cons (akl h91 (.cons (jV Nd.pu _ _) .nil)) .nil)) .nil)) (.cons (MZ (tN Nd.pu) _) (.cons (.fn _ _ _ (dJ.mem .nil) (dJ.mem (.cons (.cK _ _ (dJ.mem (.cons (bK Nd.pu _) .nil))) .nil))) .nil)) (.int _ _) ?_;rcases hb:decide (a<0)with _|_
    · rw [hb,O2]at e7;refine ak ?_;unfold zP at e7;obtain⟨e8,e7⟩:=aX e7;obtain⟨c,e9,e7⟩:=aj e7;cases e7;refine Z0 (g:=g) (t:=t) (num:=num) (o4:=o4) (o7:=o7) (i:=i) (n:=n) (vU:=vU) aC aC aC aC aC h41 h71 rB1 e8 e9 e2 e6 (fun H' σ' g1 g2 ⟨t2,t4,t6,t7,t37,t38,t39⟩=> ?_);refine ak ?_;refine hK _ _ ?_;have nm: ∀x,x<H.next->x∉iB->H'.obj x=H1.obj x:=fun x hx hm=>g2.2 x (K0 hx hf1.1) hm;refine ih us _ _ vU vB iU iB _ H' Q us' cs' ⟨aC,aC,aC,aC,(nm o4 l4 hS.F6).trans h41,(nm o6 hS.l6 hS.Ej).trans h61,(nm o7 l7 hS.wD).trans h71,?_,?_,?_,hS.n47,hS.n67,rU1.hf g2 hS.dj,g1,hS.dj,hS.LU,hS.Ju,hS.AZ,hS.F6,hS.Ej,hS.wD⟩ aC aC aC h hQ
      all_goals have:=hf1.1;have:=g2.1;have:=hS.l6;omega
    · rw [hb,S1]at e7;have lB:=rB1.1.Ow;refine ak ?_;refine aek (u:=u) (us:=us) (cs:=cs) (vU:=vU) (vB:=vB) (iU:=iU) (iB:=iB) (o7:=o7) (o9:=H.next) aC aC h71 h91 (by have:=hf1.1;omega) l91 rU1.1 rB1.1 hS.dj hS.AZ hS.wD n9U n9B e4 e4' (fun wU wB jU jB H2 σ2 f1 f2 f3 f4 f5 f6 t62 t57 t61 t7 t2 t4 t6 t8 t10 t37 t38 t39=> ?_);unfold zP at e7;obtain⟨e8,e7⟩:=aX e7;obtain⟨c,e9,e7⟩:=aj e7;cases e7;have s7':σ2 7= .ref o7 0:=t7.trans aC;have n7:o7∉iU++iB:=fun h=>(P2.1 h).elim hS.AZ hS.wD;have n4:o4∉iU++iB:=fun h=>(P2.1 h).elim hS.LU hS.F6;have n6:o6∉iU++iB:=fun h=>(P2.1 h).elim hS.Ju hS.Ej;have l71:o7<H1.next:=by have:=hf1.1;omega
      have l41:o4<H1.next:=by have:=hf1.1;omega
      have l61:o6<H1.next:=by have:=hf1.1;have:=hS.l6;omega
      have h72:=(f1.2 o7 l71 n7).trans h71;have h42:=(f1.2 o4 l41 n4).trans h41;have h62:=(f1.2 o6 l61 n6).trans h61;have nw: ∀x,x<H1.next->x∉iU->x∉iB->x∉jU/\x∉jB:=fun x hx h1 h2=>⟨fun h=>by rcases f4 x h with q|q;exact h1 q;omega,fun h=>by rcases f5 x h with q|q;exact h2 q;omega⟩
      obtain⟨AZ,wD⟩:=nw o7 l71 hS.AZ hS.wD;obtain⟨LU,F6⟩:=nw o4 l41 hS.LU hS.F6;obtain⟨Ju,Ej⟩:=nw o6 l61 hS.Ju hS.Ej;have cU:=f2.co;have cB:=f3.co;have oU:=f2.one;have oB:=f3.one;refine YG fun fr hfr=> ?_;refine ak ?_;subst hfr;have q0:(cs++[0])[((cs.length:Nat):Int).toNat]? =some c:=e9;have o72:o7<H2.next:=K0 l71 f1.1;have pf:HF [o7] H2 ((H2.put o7 [wU,vB,PV.int IntKind.i64 num,PV.bool false]).put o7 [wU,wB,PV.int IntKind.i64 num,PV.bool false]):=HF.put (.inl (by simp)) (HF.put (.inl (by simp)) (HF.refl _ _));have p7:((H2.put o7 [wU,vB,PV.int IntKind.i64 num,PV.bool false]).put o7 [wU,wB,PV.int IntKind.i64 num,PV.bool false]).obj o7=some [wU,wB,PV.int IntKind.i64 num,PV.bool false]:=if_pos rfl;generalize((H2.put o7 [wU,vB,PV.int IntKind.i64 num,PV.bool false]).put o7 [wU,wB,PV.int IntKind.i64 num,PV.bool false])=H3 at pf p7⊢;have LV: ∀(j:List Nat),o7∉j->Dj j [o7]:=fun j h x hx hm=>h (P0.1 hm▸hx);have h43:=(pf.2 o4 (K0 l41 f1.1) (by simpa using hS.n47)).trans h42;have h63:=(pf.2 o6 (K0 l61 f1.1) (by simpa using hS.n67)).trans h62;have rU3:Rz H3 (bR Nd.cells) (us++[u]) wU jU:=⟨f2.hf pf (LV _ AZ),fun h=>by simp at h⟩;have rB3:Rz H3 aK (cs++[0]) wB jB:=⟨f3.hf pf (LV _ wD),fun h=>by simp at h⟩;refine Z0 (g:=g) (t:=t) (num:=num) (o4:=o4) (o7:=o7) (i:=i) (n:=n) (a:=cs.length) (vU:=wU) (t2.trans aC) (t4.trans aC) aC (t8.trans aC) (t10.trans aC) h43 p7 rB3 e8 q0 e2 e6 (fun H' σ' g1 g2 ⟨u2,u4,u6,u7,u37,u38,u39⟩=> ?_);have v2:σ2 2= .int .i64 t:=t2.trans aC;have v4:σ2 4= .ref o4 0:=t4.trans aC;have v6:σ2 6= .ref o6 0:=t6.trans aC;have v37:σ2 37= .ah (g.us.map (bR Nd.cells)) (nz g.us):=t37.trans aC;have v38:σ2 38= .int .i64 g.us.length:=t38.trans aC;have v39:σ2 39= .int .i64 i:=t39.trans aC;have w39:σ' 39= .int .i64 i:=u39.trans aC;refine ak ?_;refine hK _ _ ?_;have WC: ∀x,x<H1.next->x<H3.next:=fun x hx=>K0 hx (E1 f1.1 pf.1);have nm: ∀x,x<H1.next->x∉jB->H'.obj x=H3.obj x:=fun x hx hm=>g2.2 x (WC x hx) hm;refine ih (us++[u]) _ _ wU wB jU jB _ H' Q us' cs' ⟨(show σ' 2=_ from u2.trans aC),(show σ' 4=_ from u4.trans aC),(show σ' 6=_ from u6.trans aC),(show σ' 7=_ from u7.trans aC),(nm o4 l41 F6).trans h43,(nm o6 l61 Ej).trans h63,(nm o7 l71 wD).trans p7,K0 (WC _ l41) g2.1,K0 (WC _ l61) g2.1,K0 (WC _ l71) g2.1,hS.n47,hS.n67,rU3.hf g2 f6,g1,f6,LU,Ju,AZ,F6,Ej,wD⟩ (show σ' 37=_ from u37.trans aC) (show σ' 38=_ from u38.trans aC) aC h hQ
  · cases h;refine ak ?_;exact hQ vU vB iU iB _ _ ⟨aC,aC,aC,aC,hS.h4,hS.h6,hS.h7,hS.l4,hS.l6,hS.l7,hS.n47,hS.n67,hS.rU,hS.rB,hS.dj,hS.LU,hS.Ju,hS.AZ,hS.F6,hS.Ej,hS.wD⟩
abbrev asz:List Nat:=[0,1,3,0,8,24,63,127,0]
abbrev abb:List (aD×Bool):=[(oF 79 1 7,false),(oL 80 1 79,false),(oC 81 202 [(.t 80)],true),(oF 82 2 7,false),(oL 83 1 82,false),(oR 84 (.CO 1 [(.t 83)]),false),(⟨(some 85),(.n (.app 1 8 (.t 81) (.t 84))),none⟩,true),(oN 86 85,false),(oI 87 0,false)]
def M0 (vB:PV) (m num:Int) (o7:Nat) (r:Nat->PV):Nat->PV
 |0=> .ref o7 1
 |1=>vB
 |2=>r 2
 |3=> .ref o7 2
 |4=> .int .i64 num
 |5=> .ah [[.int .i64 num]] .exact
 |6=>r 6
 |7=> .int .i64 m
 |8=> .int .i64 0
 |_=>ud
theorem ael {cs:List Int} {vU vB:PV} {iB:List Nat} {num:Int} {bad:PV} {o7:Nat} {σ:Nat->PV} {H:AH} {post:List aD} {s:List Fm} {Q:Post} (s7:σ 7= .ref o7 0) (h7:H.obj o7=some [vU,vB,.int .i64 num,bad]) (l7:o7<H.next)
 (rB:Rz H aK cs vB iB) (hc:cs.length<=1000000)
 (hK: ∀(w:PV) (j:List Nat) (H':AH) (σ':Nat->PV),HF [] H H'->aB H' aK 1 (cs++[num]) w j->Nw H [] j->
  (σ' 85=w/\σ' 86= .int .i64 (cs++[num]).length/\σ' 87= .int .i64 0/\σ' 7=σ 7/\σ' 6=σ 6)->WO Tryz.prog post s Q σ' H'):WS Tryz.prog (.sV asz abb post) s Q σ H:=by
 refine LQ [2,6] (by kernel_rfl) (M0 vB (cs++[num]).length num o7) (fun rem r H'=>(rem=[2,6]/\H'=H)\/
  (rem=[6]/\ ∃j,aB H' aK 1 cs (r 2) j/\Nw H [] j/\HF [] H H')\/
  (rem=[]/\ ∃j,aB H' aK 1 (cs++[num]) (r 6) j/\Nw H [] j/\HF [] H H')) (fun r j hj=> ?_) (fun r r' i h=> ?_) ⟨fun _=>ud,.inl ⟨rfl,rfl⟩⟩ ?_ ?_ ?_
 · rcases(show j=2\/j=6 by simpa using hj)with rfl|rfl<;>rfl
 · unfold M0;split<;>first|rfl|exact h _ (by simp) (.inr rfl)
 · have key: ∀rem r H',H'.obj o7=some [vU,vB,.int .i64 num,bad]->(6∈rem\/z8 (r 6)=some (.int .i64 (cs++[num]).length))->Hr Tryz.prog H' (Ht asz [2,6] rem) 0 abb (M0 vB (cs++[num]).length num o7 r) σ:=by
    intro rem r H' h7' h6;refine⟨.inr (.inr ?_),.inr (.inr ?_),.inl rfl,.inr (.inr ?_),.inr (.inr ?_),.inr (.inr ?_),.inl rfl,.inr ?_,.inr (.inr ?_),trivial⟩
    all_goals try simp -implicitDefEqProofs only [KO,dQ,go_sem,M0,s7,h7',Nat.reduceAdd,C7]
    rcases h6 with h6|h6
    · exact .inl (by unfold Ht;rw [C5];exact .inl (n9.2 ⟨6,h6,by decide+kernel⟩))
    · simp -implicitDefEqProofs only [KO,dQ,go_sem,M0,h6,Nat.reduceAdd,C7,q7]
   rintro rem r H' (⟨rfl,rfl⟩|⟨rfl,j,g1,g2,g3⟩|⟨rfl,j,g1,g2,g3⟩)
   · exact key _ _ _ h7 (.inl (by simp))
   · exact key _ _ _ ((g3.2 o7 l7 D0).trans h7) (.inl (by simp))
   · exact key _ _ _ ((g3.2 o7 l7 D0).trans h7) (.inr g1.Ow)
 · rintro rem r H' j o (⟨rfl,rfl⟩|⟨rfl,i1,g1,g2,g3⟩|⟨rfl,i1,g1,g2,g3⟩) hj ho hb
   · have hj4:j=2:=by
      rcases(show j=2\/j=6 by simpa using hj)with rfl|rfl
      · rfl
      · rcases hb 2 (by simp)with h|h
        · exact absurd h (by decide+kernel)
        · cases h
     subst hj4;obtain rfl:oC 81 202 [(.t 80)]=o:=(B9 (V2 ho)).1;refine⟨trivial,?_⟩;show aW Tryz.prog 202 [bV abb (M0 vB (cs++[num]).length num o7 r) σ 2 80] H' _;rw [show bV abb (M0 vB (cs++[num]).length num o7 r) σ 2 80=vB from rfl];exact aW.mono (ajr cs hc rB) fun p H2 ⟨i2,a1,a2,a3,a4⟩=>⟨fun s=>if s=2 then p else r s,rfl,fun s hs=>if_neg hs,.inr (.inl ⟨rfl,i2,a1.1,a2,a3⟩)⟩
   · obtain rfl:j=6:=by simpa using hj
     obtain rfl:(⟨(some 85),(.n (.app 1 8 (.t 81) (.t 84))),none⟩:aD)=o:=(B9 (V2 ho)).1;refine⟨trivial,kI (fun p H2 ⟨i2,a1,a2,a3,a4⟩=>⟨fun s=>if s=6 then p else r s,rfl,fun s hs=>if_neg hs,.inr (.inr ⟨rfl,i2,a1,?_,?_⟩)⟩) (Ko (f:=aK) tJ cs [num] .exact rfl g1 rfl (by simp) (by simp only [I0,j0];omega))⟩
     · exact Nw.trans g2 g3.1 a2
     · refine⟨E1 g3.1 a3.1,fun i hi hm=>(a3.2 i (K0 hi g3.1) (fun h=> ?_)).trans (g3.2 i hi hm)⟩;rcases g2 i h with q|q
       · cases q
       · omega
   · cases hj
 · rintro r H' (⟨h,_⟩|⟨h,_⟩|⟨_,j,g1,g2,g3⟩)
   · cases h
   · cases h
   · exact hK (r 6) j H' _ g3 g1 g2 ⟨rfl,rfl,rfl,rfl,rfl⟩
def qA:Nat->List Int->Bool->Int->Option Bool
 |0,_,_,_=>none
 |k+1,l,b,i=>cond (decide (i<(l.length:Int))) (if 0<=i then (l[i.toNat]?).bind fun n=>cond b (qA k l true (IntKind.wrap .i64 (i+1))) ((k_in n (-1000000000) 1000000000).bind fun p=>qA k l (!p) (IntKind.wrap .i64 (i+1)))else none) (some b)
theorem af6 (l:List Int) (w vU vB:PV) (j:List Nat) (num:Int) (o6 o7:Nat): ∀(k:Nat) (b:Bool) (i:Int) (σ:Nat->PV) (H:AH) (Q:Post) (b':Bool),σ 85=w->σ 86= .int .i64 l.length->σ 87= .int .i64 i->σ 7= .ref o7 0->σ 6= .ref o6 0->H.obj o7=some [vU,vB,.int .i64 num,.bool b]->aB H aK 1 l w j->o7∉j->o7<H.next->
 qA k l b i=some b'->(∀(σ':Nat->PV) (H':AH),HF [o7] H H'->H'.obj o7=some [vU,vB,.int .i64 num,.bool b']->σ' 7= .ref o7 0->σ' 6= .ref o6 0->Q (.exit 2) σ' H')->W Tryz.prog (.loop Kp.UF) Q σ H:=by
 intro k
 induction k with
 |zero=>intro b i σ H Q b' s85 s86 s87 s7 s6 h7 hr n7 l7 h hQ;simp only [qA,reduceCtorEq]at h
 |succ k ih=>
  intro b i σ H Q b' s85 s86 s87 s7 s6 h7 hr n7 l7 h hQ;unfold qA at h;refine bB (fun K hK=>aI ?_);unfold Kp.UF;obtain⟨e1,h⟩|⟨e1,h⟩:=aJ h
  · obtain⟨e2,h⟩:=aX h;obtain⟨n,e3,h⟩:=aj h;obtain⟨id,C,hid,hlt,hC,hcell,hL,hD,hI⟩:=aB.content hr e3;have hx:jS 1 w (.int .i64 i)=some (.ref id i.toNat):=by simpa using hI .i64 i e2 rfl
    have hcc:C[i.toNat]? =some (.int .i64 n):=by simpa using hcell 0 _ rfl
    have n7':o7≠id:=fun e=>n7 (by rw [hid,e];simp);have step: ∀(p:Bool) (σ':Nat->PV),(σ' 85=w/\σ' 86= .int .i64 l.length/\σ' 87= .int .i64 (IntKind.wrap .i64 (i+1))/\σ' 7= .ref o7 0/\σ' 6= .ref o6 0)->qA k l p (IntKind.wrap .i64 (i+1))=some b'->K σ' (H.put o7 [vU,vB,.int .i64 num,.bool p]):=by
     intro p σ' ⟨t85,t86,t87,t7,t6⟩ h;refine hK _ _ ?_;have pf:HF [o7] H (H.put o7 [vU,vB,.int .i64 num,.bool p]):=HF.put (.inl (by simp)) (HF.refl _ _);refine ih p _ σ' _ Q b' t85 t86 t87 t7 t6 (if_pos rfl) (hr.hf pf (fun x hx hm=>n7 (P0.1 hm▸hx))) n7 l7 h (fun σ2 H2 g1 g2 g3 g4=>hQ σ2 H2 (pf.tr g1) g2 g3 g4)
    obtain⟨e4,h⟩|⟨e4,h⟩:=aJ h
    · subst e4;refine ak ?_;first|trivial|exact step true _ ⟨aC,aC,aC,aC,aC⟩ h
    · subst e4;obtain⟨p,e5,h⟩:=aj h;refine ak ?_;refine av (azO e5) ?_;refine ak ?_;first|trivial|exact step (!p) _ ⟨aC,aC,aC,aC,aC⟩ h
  · cases h;refine ak ?_;exact hQ _ _ (HF.refl _ _) h7 aC aC
def eT (k:Nat) (f g:Fo) (t:Int):Option Fo:=
 if f.us.length<=1000000/\f.cs.length<=1000000 then
  cond (f.bad||g.bad) (some ⟨f.us,f.cs,IntKind.wrap .i64 (f.num+IntKind.wrap .i64 (t*g.num)),true⟩)
   ((uI k g t f.us f.cs 0).bind fun p=>if p.2.length<=1000000 then (qA k (p.2++[IntKind.wrap .i64 (f.num+IntKind.wrap .i64 (t*g.num))]) false 0).bind fun b=>some ⟨p.1,p.2,IntKind.wrap .i64 (f.num+IntKind.wrap .i64 (t*g.num)),b⟩else none)else none
theorem oZ {k:Nat} {f g:Fo} {t:Int} {r:Fo} (h:eT k f g t=some r):aG Tryz.prog 144 [(.agg f.cells),(.agg g.cells),(.int .i64 t)] (.agg r.cells):=by
 refine aG.bX (dJ.mem (.cons (.agg _ (Fo.pu _)) (.cons (.agg _ (Fo.pu _)) (.cons (.int _ _) .nil)))) (aL Kp.aC3 (by simp) (aI ?_)) (.agg _ (Fo.pu _));unfold eT at h;unfold Kp.asq;obtain⟨⟨hu,hc⟩,h⟩:=aX h;refine ak ?_;have e3:(((AH.empty.new f.cells).new g.cells).new uH).obj AH.empty.next=some f.cells:=rfl;have e4:(((AH.empty.new f.cells).new g.cells).new uH).obj (AH.empty.next+1)=some g.cells:=rfl;have e6:(((AH.empty.new f.cells).new g.cells).new uH).obj (AH.empty.next+2)=some uH:=rfl;have en:(((AH.empty.new f.cells).new g.cells).new uH).next=AH.empty.next+3:=rfl;show WS Tryz.prog (.sV azP YF _) _ _ _ (((AH.empty.new f.cells).new g.cells).new uH);generalize((AH.empty.new f.cells).new g.cells).new uH=H1 at e3 e4 e6 en⊢;generalize AH.empty.next=o3 at e3 e4 e6 en⊢;refine af4 (f:=f) (g:=g) (t:=t) (o3:=o3) (o4:=o3+1) aC aC aC e3 e4 (by omega) (by omega) hu hc (fun vU vB iU iB o7 H2 σ2 g1 g2 g3 g4 g5 g6 g7 g8 g9 g10 g11 s7 s32 s2 s4 s6=> ?_);have v2:σ2 2= .int .i64 t:=s2.trans aC;have v4:σ2 4= .ref (o3+1) 0:=s4.trans aC;have v6:σ2 6= .ref (o3+2) 0:=s6.trans aC;have f4:=(g1.2 (o3+1) (by omega) D0).trans e4;have f6:=(g1.2 (o3+2) (by omega) D0).trans e6;have n47: ¬o3+1=o7:=by omega
 have n67: ¬o3+2=o7:=by omega
 have oU:=g2.1.one;have oB:=g3.1.one;have nU: ∀x,x<H1.next->x∉iU/\x∉iB:=fun x hx=>⟨fun h=>by rcases g4 x h with q|q;cases q;omega,fun h=>by rcases g5 x h with q|q;cases q;omega⟩
 obtain⟨eb,h⟩|⟨eb,h⟩:=aJ h
 · cases h;refine ak ?_;have d: ∀j,(o7∉j)->(o3+2∉j)->Dj j [o7,o3+2]:=fun j h1 h2 x hx hm=>by
    rcases M1.1 hm with rfl|hm
    · exact h1 hx
    · exact h2 (P0.1 hm▸hx)
   have pf: ∀a b,HF [o7,o3+2] H2 ((H2.put o7 a).put (o3+2) b):=fun a b=>HF.put (.inl (by simp)) (HF.put (.inl (by simp)) (HF.refl _ _));exact jT (.cons ((g2.hf (pf _ _) (d _ g10 (nU _ (by omega)).1)).fz (tN Nd.pu)) (.cons ((g3.hf (pf _ _) (d _ g11 (nU _ (by omega)).2)).fz gV) (gB (.cons (.pure _ (.bool _)) .nil))))
 · obtain⟨p,e7,h⟩:=aj h;obtain⟨e8,h⟩:=aX h;obtain⟨b,e9,h⟩:=aj h;cases h;refine ak ?_;have pf: ∀a,HF [o7] H2 (H2.put o7 a):=fun a=>HF.put (.inl (by simp)) (HF.refl _ _);have d: ∀j,(o7∉j)->Dj j [o7]:=fun j h1 x hx hm=>h1 (P0.1 hm▸hx);have lt2:=g1.1;refine af5 g t _ (o3+1) (o3+2) o7 k f.us f.cs 0 vU vB iU iB _ _ _ p.1 p.2 ⟨aC,aC,aC,aC,((pf _).2 _ (by omega) (by simpa using n47)).trans f4,((pf _).2 _ (by omega) (by simpa using n67)).trans f6,if_pos rfl,(show _<H2.next by omega),(show _<H2.next by omega),g8,n47,n67,g2.hf (pf _) (d _ g10),g3.hf (pf _) (d _ g11),g6,(nU _ (by omega)).1,(nU _ (by omega)).1,g10,(nU _ (by omega)).2,(nU _ (by omega)).2,g11⟩ aC aC aC e7 (fun wU wB jU jB σ3 H3 S=> ?_);have t7:=S.s7;have t6:=S.s6;refine ak ?_;refine ael t7 S.h7 S.l7 S.rB e8 (fun w j H4 PO k1 k2 k3 ⟨u85,u86,u87,u7,u6⟩=> ?_);have x7:PO 7= .ref o7 0:=u7.trans t7;have x6:PO 6= .ref (o3+2) 0:=u6.trans t6;have h74:=(k1.2 o7 S.l7 D0).trans S.h7;have h64:=(k1.2 (o3+2) S.l6 D0).trans S.h6;have n7j:o7∉j:=fun h=>by
    rcases k3 o7 h with q|q
    · cases q
    · have:=S.l7;omega
   refine ak ?_;refine af6 (p.2++[_]) w wU wB j _ (o3+2) o7 k false 0 PO H4 _ b u85 u86 u87 x7 x6 h74 k2 n7j (K0 S.l7 k1.1) e9 (fun Wt H5 m1 m2 m3 m4=> ?_);have h65:=(m1.2 (o3+2) (K0 S.l6 k1.1) (by simpa using n67)).trans h64;have oU':=S.rU.1.one;have oB':=S.rB.1.one;refine ak ?_;have rU5:=(S.rU.hf k1 Dj.nil.symm).hf m1 (d _ S.AZ);have rB5:=(S.rB.hf k1 Dj.nil.symm).hf m1 (d _ S.wD);have pf5: ∀a,HF [o3+2] H5 (H5.put (o3+2) a):=fun a=>HF.put (.inl (by simp)) (HF.refl _ _);have d6: ∀j,(o3+2∉j)->Dj j [o3+2]:=fun j h1 x hx hm=>h1 (P0.1 hm▸hx);exact jT (.cons ((rU5.hf (pf5 _) (d6 _ S.Ju)).fz (tN Nd.pu)) (.cons ((rB5.hf (pf5 _) (d6 _ S.Ej)).fz gV) (gB (.cons (.pure _ (.bool _)) .nil))))
instance aHu (k:Nat) (f g:Fo) (t:Int):bY Tryz.prog 144 [(.agg f.cells),(.agg g.cells),(.int .i64 t)] (eT k f g t) (fun r=> .agg r.cells):=⟨fun _ h=>oZ h⟩
end Go.VL
end
section
namespace Go.VL
def pG {α:Type} (p:α->Bool):List α->Int->Int
 |[],_=> -1
 |x::l,i=>if p x=true then i else pG p l (i+1)
theorem F7 {α:Type} {p:α->Bool}: ∀{l:List α} {i:Int},(pG p l i= -1/\ ∀x∈l,p x=false)\/ ∃j:Nat,∃x,l[j]? =some x/\p x=true/\pG p l i=i+j
 |[],i=> .inl ⟨rfl,fun x h=>by cases h⟩
 |x::l,i=>by
  cases hx:p x with
  |true=>exact .inr ⟨0,x,rfl,hx,by simp [pG,hx]⟩
  |false=>
   rcases F7 (p:=p) (l:=l) (i:=i+1)with⟨h1,h2⟩|⟨j,y,h1,h2,h3⟩
   · refine .inl ⟨by simpa [pG,hx]using h1,fun y hy=> ?_⟩;rcases M1.1 hy with rfl|hy
     · exact hx
     · exact h2 y hy
   · refine .inr ⟨j+1,y,h1,h2,?_⟩;simp only [pG,hx,I2,L2,h3];omega
theorem auO {us:List (List Nd)} {u:List Nd} (hl: ∀x∈us,Gd x) (hu:Gd u) (hn:us.length<=1099511627776):Ev (fun k=>nN k us u) (pG (fun x=>pF x u) us 0):=by
 have key2: ∃o:Unit⊕Int,Ev (fun k=>gF k us u (us.length:Int) ((0:Nat):Int)) o/\(Sum.elim (fun _=>(-1:Int)) id o=pG (fun x=>pF x u) (us.drop 0) ((0:Nat):Int)):=by
  refine eO (len:=us.length) (p:=fun i=> ∃o:Unit⊕Int,Ev (fun k=>gF k us u (us.length:Int) (i:Int)) o/\(Sum.elim (fun _=>(-1:Int)) id o=pG (fun x=>pF x u) (us.drop i) (i:Int))) ?_ fun i hi ih=> ?_
  · refine⟨.inl (),Ev.succ ?_,by simp [pG]⟩;simp only [gF];exact Ev.cF (eD _) Ev.some
  · have ha:Ev (fun k=>Jt k us[i] u) (pF us[i] u):=by
     unfold Jt;exact Ev.bind (ajo (hl _ (L3 hi)) hu) Ev.some
    cases hc:pF us[i] u with
    |true=>
     refine⟨.inr (i:Int),Ev.succ ?_,by rw [drop_cons hi];simp [pG,hc]⟩;simp only [gF,V0,aP hi,W0,nn,A0,fC hi,S1];exact Ev.bind ha (Ev.cT hc Ev.some)
    |false=>
     obtain⟨o,ho,hd⟩:=ih;refine⟨o,Ev.succ ?_,by rw [drop_cons hi,hd];simp only [pG,hc,I2,L2];rfl⟩;simp only [gF,V0,aP hi,W0,nn,A0,fC hi,S1,bW hi hn];exact Ev.bind ha (Ev.cF hc ho)
 obtain⟨o,ho,h⟩:=key2;rw [P1]at h;unfold nN;refine Ev.bind ho ?_;have h':pG (fun x=>pF x u) us 0=Sum.elim (fun _=>(-1:Int)) id o:=h.symm;rw [h'];cases o<;>exact Ev.some
noncomputable def qB (t:Int) (s:List (List Nd)×List Int) (x:List Nd×Int):List (List Nd)×List Int:=
 if pG (fun o=>pF o x.1) s.1 0<0 then(s.1++[x.1],s.2++[IntKind.wrap .i64 (0+IntKind.wrap .i64 (t*x.2))])
 else(s.1,s.2.set (pG (fun o=>pF o x.1) s.1 0).toNat (IntKind.wrap .i64 ((s.2[(pG (fun o=>pF o x.1) s.1 0).toNat]?).getD 0+IntKind.wrap .i64 (t*x.2))))
noncomputable def BL (f g:Fo) (t:Int):List (List Nd)×List Int:=(g.us.zip g.cs).foldl (qB t) (f.us,f.cs)
structure Uk (us:List (List Nd)) (cs:List Int) (n:Nat):Prop where
 gd: ∀x∈us,Gd x
 un:us.Pairwise fun a b=>pF a b=false
 len:cs.length=us.length
 le:us.length<=n
theorem Qt {t:Int} {us:List (List Nd)} {cs:List Int} {n:Nat} {x:List Nd×Int} (h:Uk us cs n) (hx:Gd x.1):Uk (qB t (us,cs) x).1 (qB t (us,cs) x).2 (n+1):=by
 unfold qB
 dsimp only
 rcases F7 (p:=fun o=>pF o x.1) (l:=us) (i:=0)with⟨h1,h2⟩|⟨j,y,h1,h2,h3⟩
 · rw [h1,if_pos (by decide)];refine⟨fun y hy=> ?_,?_,by simp [h.len],by simp;exact h.le⟩
   · rcases P2.1 hy with hy|hy
     · exact h.gd y hy
     · rw [P0.1 hy];exact hx
   · rw [List.pairwise_append];refine⟨h.un,DB _ _,fun a ha b hb=> ?_⟩;rw [P0.1 hb];exact h2 a ha
 · rw [h3,if_neg (by omega)];exact⟨h.gd,h.un,by simp [h.len],Nat.le_succ_of_le h.le⟩
theorem M4 {t:Int}: ∀{l:List (List Nd×Int)} {us:List (List Nd)} {cs:List Int} {n:Nat},Uk us cs n->(∀x∈l,Gd x.1)->Uk (l.foldl (qB t) (us,cs)).1 (l.foldl (qB t) (us,cs)).2 (n+l.length)
 |[],us,cs,n,h,_=>h
 |x::l,us,cs,n,h,hl=>by
  have:=M4 (t:=t) (l:=l) (Qt (t:=t) h (hl x (A1 ..))) fun y hy=>hl y (I1 _ hy);rw [m6,I0,show n+(l.length+1)=n+1+l.length by omega];exact this
def wide (l:List Int):Bool:=l.any fun n=> !(decide (-1000000000<=n)&&decide (n<=1000000000))
noncomputable def bL (f g:Fo) (t:Int):Fo:=
 if(f.bad||g.bad)=true then⟨f.us,f.cs,IntKind.wrap .i64 (f.num+IntKind.wrap .i64 (t*g.num)),true⟩
 else⟨(BL f g t).1,(BL f g t).2,IntKind.wrap .i64 (f.num+IntKind.wrap .i64 (t*g.num)),wide ((BL f g t).2++[IntKind.wrap .i64 (f.num+IntKind.wrap .i64 (t*g.num))])⟩
abbrev wE (f:Fo) (n:Nat):Prop:=Uk f.us f.cs n
theorem aem {g:Fo} {n:Nat} (hg:wE g n): ∀x∈g.us.zip g.cs,Gd x.1:=fun x hx=>hg.gd _ (List.of_mem_zip hx).1
theorem jM {f g:Fo} {t:Int} {a b:Nat} (hf:wE f a) (hg:wE g b):wE (bL f g t) (a+b):=by
 unfold bL;split
 · exact⟨hf.gd,hf.un,hf.len,E1 hf.le (tB _ _)⟩
 · have h:=M4 (t:=t) hf (aem hg);refine⟨h.gd,h.un,h.len,E1 h.le ?_⟩;rw [j8,hg.len,Nat.min_self];exact Nat.add_le_add_left hg.le _
theorem aen {g:Fo} {t:Int} {b:Nat} (hg:wE g b) (hb:b<=1000): ∀(us:List (List Nd)) (cs:List Int) (a:Nat),Uk us cs a->a+b<=100000->Ev (fun k=>uI k g t us cs ((0:Nat):Int)) ((g.us.zip g.cs).foldl (qB t) (us,cs)):=by
 have hn:g.us.length<=1099511627776:=by have:=hg.le;omega
 have key:=eO (len:=g.us.length) (p:=fun i=> ∀(us:List (List Nd)) (cs:List Int) (a:Nat),Uk us cs a->a+(g.us.length -i)<=100000->Ev (fun k=>uI k g t us cs (i:Int)) (((g.us.zip g.cs).drop i).foldl (qB t) (us,cs))) (fun us cs a h ha=>by
  refine Ev.succ ?_;simp only [uI];refine Ev.cF (eD _) (Ev.some' ?_);rw [P4 (by rw [j8];omega)];rfl) fun i hi ih us cs a h ha=>by
  have hi2:i<g.cs.length:=by rw [hg.len];exact hi
  have hz:i<(g.us.zip g.cs).length:=by rw [j8];omega
  refine Ev.succ ?_;have hl:=h.le;have hlen:=h.len;simp only [uI,V0,aP hi,aP hi2,W0,nn,A0,fC hi,S1,bW hi hn];refine Ev.jv ⟨by omega,by omega⟩ (Ev.bind (auO h.gd (hg.gd _ (L3 hi)) (by omega)) ?_);have hst:Ev (fun k=>cond (decide (pG (fun x=>pF x g.us[i]) us 0<0)) (zP (us++[g.us[i]]) (cs++[0]) (cs.length:Int) (IntKind.wrap .i64 (t*g.cs[i]))) (zP us cs (pG (fun x=>pF x g.us[i]) us 0) (IntKind.wrap .i64 (t*g.cs[i])))) (qB t (us,cs) (g.us[i],g.cs[i])):=by
   unfold qB
   dsimp only
   rcases F7 (p:=fun o=>pF o g.us[i]) (l:=us) (i:=0)with⟨h1,h2⟩|⟨j,y,h1,h2,h3⟩
   · rw [h1,if_pos (by decide)];refine Ev.cT (by decide) (Ev.of_eq ?_);unfold zP;simp
   · have hj:j<cs.length:=by rw [hlen];exact(S0.1 h1).1
     rw [h3,if_neg (by omega),Int.zero_add];refine Ev.cF (B0 (by omega)) (Ev.of_eq ?_);unfold zP;simp [aP hj]
  refine Ev.bind hst ?_;rw [drop_cons hz,m6,List.getElem_zip];have hu:=Qt (t:=t) (x:=(g.us[i],g.cs[i])) h (hg.gd _ (L3 hi));exact ih _ _ _ hu (by omega)
 intro us cs a h ha;have:=key us cs a h (by have:=hg.le;omega)
 rwa [P1]at this
theorem auP (n:Int):Ev (fun k=>k_in n (-1000000000) 1000000000) (decide (-1000000000<=n)&&decide (n<=1000000000)):=by
 unfold k_in;by_cases h:n>= -1000000000
 · exact Ev.cT (g0 h) (Ev.some' (by simp [h]))
 · exact Ev.cF (B0 h) (Ev.some' (by simp;omega))
theorem aeo (l:List Int) (hn:l.length<=1099511627776):Ev (fun k=>qA k l false ((0:Nat):Int)) (wide l):=by
 have key:=eO (len:=l.length) (p:=fun i=> ∀b,Ev (fun k=>qA k l b (i:Int)) (b||wide (l.drop i))) (fun b=>by
  refine Ev.succ ?_;simp only [qA];exact Ev.cF (eD _) (Ev.some' (by simp [wide]))) fun i hi ih b=>by
  refine Ev.succ ?_;simp only [qA,V0,aP hi,W0,nn,A0,fC hi,S1,bW hi hn];cases b with
  |true=>exact Ev.cT rfl ((ih true).to (by simp))
  |false=>
   refine Ev.cF rfl (Ev.bind (auP _) ((ih _).to ?_));rw [drop_cons hi,Q4];unfold wide;rw [b8]
 have:=key false
 rwa [P1,Q4]at this
theorem jO {f g:Fo} {t:Int} {a b:Nat} (hf:wE f a) (hg:wE g b) (ha:a<=20000) (hb:b<=1000):Ev (fun k=>eT k f g t) (bL f g t):=by
 have h1:=hf.le;have h2:=hf.len;unfold eT bL;refine Ev.jv ⟨by omega,by omega⟩ ?_;cases hc:f.bad||g.bad with
 |true=>exact Ev.cT rfl (Ev.some' (by simp))
 |false=>
  have hu:=M4 (t:=t) hf (aem hg);have hl:(BL f g t).2.length<=30000:=by
   have e1:=hu.len;have e2:=hu.le;have e3:(g.us.zip g.cs).length<=b:=by rw [j8];have:=hg.le;omega
   show((g.us.zip g.cs).foldl (qB t) (f.us,f.cs)).2.length<=30000
   omega
  refine Ev.cF rfl (Ev.bind (aen hg hb f.us f.cs a hf (by omega)) ?_);refine Ev.jv (show(BL f g t).2.length<=1000000 by omega) (Ev.bind (aeo _ (by simp only [X1,I0,j0];show(BL f g t).2.length+_<=_;omega)) (Ev.some' ?_));rw [if_neg (by simp)];rfl
def Md (a b:Int):Prop:= ∃k:Int,a=b+18446744073709551616*k
theorem Md.rfl' (a:Int):Md a a:=⟨0,by omega⟩
theorem Md.of {a b:Int} (h:a=b):Md a b:=h▸Md.rfl' a
theorem Md.trans {a b c:Int} (h:Md a b) (h':Md b c):Md a c:=by obtain⟨k,h⟩:=h;obtain⟨l,h'⟩:=h';exact⟨k+l,by omega⟩
theorem Md.add {a b c d:Int} (h:Md a b) (h':Md c d):Md (a+c) (b+d):=by obtain⟨k,h⟩:=h;obtain⟨l,h'⟩:=h';exact⟨k+l,by omega⟩
theorem Md.sub {a b c d:Int} (h:Md a b) (h':Md c d):Md (a -c) (b -d):=by obtain⟨k,h⟩:=h;obtain⟨l,h'⟩:=h';exact⟨k -l,by omega⟩
theorem Md.mulL {a b:Int} (t:Int) (h:Md a b):Md (t*a) (t*b):=by
 obtain⟨k,rfl⟩:=h;exact⟨t*k,by rw [Int.mul_add,Int.mul_left_comm]⟩
theorem Md.mulR {a b:Int} (t:Int) (h:Md a b):Md (a*t) (b*t):=by rw [Int.mul_comm a,Int.mul_comm b];exact h.mulL t
theorem Md.mul {a b c d:Int} (h:Md a b) (h':Md c d):Md (a*c) (b*d):=(h.mulR c).trans (h'.mulL b)
theorem Md.wrap (x:Int):Md (IntKind.wrap .i64 x) x:=by
 rw [IntKind.wrap_i64];exact⟨-((x+9223372036854775808)/18446744073709551616),by omega⟩
theorem Md.eq {a b:Int} (h:Md a b) (h1: -9000000000000000000<=a -b) (h2:a -b<=9000000000000000000):a=b:=by obtain⟨k,h⟩:=h;omega
section
variable (am:List Nd->Int)
def dot:List (List Nd×Int)->Int
 |[]=>0
 |x::l=>x.2*am x.1+dot l
theorem WI: ∀(l m:List (List Nd×Int)),dot am (l++m)=dot am l+dot am m
 |[],m=>by simp [dot]
 |x::l,m=>by rw [B4,dot,dot,WI l m];omega
theorem ahh: ∀(us:List (List Nd)) (cs:List Int) (j:Nat) (w c:Int) (u:List Nd),us[j]? =some u->cs[j]? =some c->dot am (us.zip (cs.set j w))=dot am (us.zip cs)+(w -c)*am u
 |[],cs,j,w,c,u,h,_=>by simp at h
 |x::us,[],j,w,c,u,_,h=>by simp at h
 |x::us,y::cs,0,w,c,u,h,h'=>by
  simp only [N2,L1]at h h';subst h;subst h';simp only [List.set_cons_zero,PB,dot,Int.sub_mul];omega
 |x::us,y::cs,j+1,w,c,u,h,h'=>by
  simp only [d5]at h h';simp only [List.set_cons_succ,PB,dot,ahh us cs j w c u h h'];omega
def vC (f:Fo):Int:=dot am (f.us.zip f.cs)+f.num
variable {am}
theorem aoW {t:Int} {us:List (List Nd)} {cs:List Int} {x:List Nd×Int} (hl:cs.length=us.length) (ha: ∀a∈us,pF a x.1=true->am a=am x.1):
 Md (dot am ((qB t (us,cs) x).1.zip (qB t (us,cs) x).2)) (dot am (us.zip cs)+t*(x.2*am x.1)):=by
 unfold qB
 dsimp only
 rcases F7 (p:=fun o=>pF o x.1) (l:=us) (i:=0)with⟨h1,h2⟩|⟨j,y,h1,h2,h3⟩
 · rw [h1,if_pos (by decide)]
   dsimp only
   rw [List.zip_append hl.symm,WI];refine(Md.rfl' _).add ?_;simp only [PB,List.zip_nil_right,dot,Int.add_zero,Int.zero_add,<-Int.mul_assoc];exact((Md.wrap _).trans (Md.wrap _)).mulR _
 · have hj:j<cs.length:=by rw [hl];exact(S0.1 h1).1
   rw [h3,if_neg (by omega),Int.zero_add,V0]
   dsimp only
   rw [aP hj,E2,ahh am us cs j _ _ y h1 (aP hj),ha y (B1 h1) h2];refine(Md.rfl' _).add ?_;rw [<-Int.mul_assoc];refine Md.mulR _ ?_;have h:=((Md.wrap (cs[j]+IntKind.wrap .i64 (t*x.2))).trans ((Md.rfl' cs[j]).add (Md.wrap (t*x.2)))).sub (Md.rfl' cs[j]);exact h.trans (Md.of (by omega))
theorem Z4 {t:Int}: ∀{l:List (List Nd×Int)} {us:List (List Nd)} {cs:List Int} {n:Nat},Uk us cs n->(∀x∈l,Gd x.1)->(∀a b,(a∈us\/a∈l.map Prod.fst)->b∈l.map Prod.fst->pF a b=true->am a=am b)->
 Md (dot am ((l.foldl (qB t) (us,cs)).1.zip (l.foldl (qB t) (us,cs)).2)) (dot am (us.zip cs)+t*dot am l)
 |[],us,cs,n,h,_,_=>by simp only [BC,dot,Int.mul_zero,Int.add_zero];exact Md.rfl' _
 |x::l,us,cs,n,h,hl,ha=>by
  have h1:=aoW (am:=am) (t:=t) (x:=x) h.len (fun a hm hk=>ha a x.1 (.inl hm) (by simp) hk);have h2:=Z4 (t:=t) (l:=l) (Qt (t:=t) h (hl x (A1 ..))) (fun y hy=>hl y (I1 _ hy)) (fun a b hm hb hk=>by
   refine ha a b ?_ (by simp only [M3];exact I1 _ hb) hk;rcases hm with hm|hm
   · unfold qB at hm;split at hm
     · rcases P2.1 hm with hm|hm
       · exact .inl hm
       · exact .inr (by rw [P0.1 hm];simp)
     · exact .inl hm
   · exact .inr (by simp only [M3];exact I1 _ hm))
  rw [m6];refine h2.trans ?_;refine(h1.add (Md.rfl' _)).trans (Md.of ?_);rw [dot,Int.mul_add];omega
theorem amc {f g:Fo} {t:Int} {a b:Nat} (hf:wE f a) (hg:wE g b) (ha: ∀x y,(x∈f.us\/x∈g.us)->y∈g.us->pF x y=true->am x=am y) (hb:(bL f g t).bad=false):f.bad=false/\g.bad=false/\Md (vC am (bL f g t)) (vC am f+t*vC am g):=by
 unfold bL at hb⊢;split at hb
 · cases hb
 rename_i hc;rw [C5]at hc;refine⟨by cases h:f.bad<;>simp_all,by cases h:g.bad<;>simp_all,?_⟩;rw [if_neg (by rw [C5];exact hc)];unfold vC BL;have hz:(g.us.zip g.cs).map Prod.fst=g.us:=by
  rw [List.map_fst_zip];rw [hg.len];exact R0 _
 have h:=Z4 (am:=am) (t:=t) hf (aem hg) (fun x y hx hy hk=>by rw [hz]at hx hy;exact ha x y hx hy hk);refine(h.add ((Md.wrap _).trans ((Md.rfl' f.num).add (Md.wrap (t*g.num))))).trans (Md.of ?_);rw [Int.mul_add];omega
theorem aep: ∀(us:List (List Nd)) (cs:List Int),(∀c∈cs,c=0)->dot am (us.zip cs)=0
 |[],_,_=>by simp [dot]
 |_::_,[],_=>by simp [dot]
 |u::us,c::cs,h=>by rw [PB,dot,aep us cs fun x hx=>h x (I1 _ hx),h c (A1 ..)];omega
end
end Go.VL
end
section
namespace Go.VL
open Tm
theorem amd {b:Nat} {acc0:List Int} (h0:acc0.length=b) (cs:List Tm): ∀(k:Nat) (l:List Tm) (m:List Tm),l.length=k->cs=l++m->uq (acc0++lN b cs) ((b+sizes l:Nat):Int) (roots b l).reverse=true:=by
 intro k
 induction k with
 |zero=>
  intro l m hl _;rw [T4 hl];rfl
 |succ k ih=>
  intro l' m hl e;rcases pB l' with rfl|⟨l,t,rfl⟩
  · cases hl
  rw [mB]at*;have hp:=t.size_pos;rw [zJ,List.reverse_append];simp only [roots,List.reverse_cons,List.reverse_nil,R2,IA];have hs:sizes (l++[t])=sizes l+t.size:=by rw [dG,mR]
  have hg:=Lr (b:=b) (l:=l) (m:=m) (t:=t);have e2:cs=l++t::m:=by rw [e];simp
  rw [<-e2]at hg;have hx:(((b+sizes (l++[t]):Nat):Int) -1).toNat=b+sizes l+t.size -1:=by rw [hs];omega
  unfold uq;rw [hx,N0 (by omega),h0,show b+sizes l+t.size -1 -b=sizes l+t.size -1 by omega,hg];have h1:decide ((((b+sizes l+t.size -1:Nat):Int))=((b+sizes (l++[t]):Nat):Int) -1)=true:=g0 (by rw [hs];omega);have h2:decide ((1:Int)<=((b+sizes (l++[t]):Nat):Int))=true:=g0 (by rw [hs];omega);rw [h1,h2,C1,C1];exact ih l (t::m) (by simpa using hl) e2
theorem auQ {b:Nat} {acc0:List Int} (h0:acc0.length=b) (x:Nd) (cs:List Tm):yB (acc0++lN b cs) (nd x b cs)=(b:Int):=by
 cases cs with
 |nil=>simp [yB,nd,roots,lN,h0]
 |cons c cs=>
  have hp:=c.size_pos;have hg:=Lr (b:=b) (l:=[]) (m:=cs) (t:=c);simp only [R2,sizes,V1,S4]at hg;simp only [yB,nd,roots,V0];rw [N0 (by omega),h0,show b+c.size -1 -b=c.size -1 by omega,hg];rfl
mutual
theorem aer: ∀(t:Tm) (b:Nat) (acc:List Int) (rest:List Nd),acc.length=b->(∀n∈flat b t,bI true n=0)->jy acc (flat b t++rest)=jy (acc++QW b t) rest
 | .mk x cs,b,acc,rest,h,hn=>by
  rw [ig]at hn⊢;rw [T1,ahi cs b acc _ h (fun n hm=>hn n (N4 _ hm)),VR,IA,jy];have hl:((acc++lN b cs).length:Int)=((b+sizes cs:Nat):Int):=by rw [X1,vv,h]
  have hp:uq (acc++lN b cs) ((acc++lN b cs).length:Int) (nd x b cs).args.reverse=true:=by
   rw [hl];exact amd h cs _ cs [] rfl (by simp)
  rw [hp,if_neg (fun k=>k (hn _ (by simp))),auQ h,T1]
theorem ahi: ∀(cs:List Tm) (b:Nat) (acc:List Int) (rest:List Nd),acc.length=b->(∀n∈aV b cs,bI true n=0)->jy acc (aV b cs++rest)=jy (acc++lN b cs) rest
 |[],b,acc,rest,h,hn=>by simp [aV,lN]
 |c::cs,b,acc,rest,h,hn=>by
  rw [fH]at hn⊢;rw [T1,aer c b acc _ h (fun n hm=>hn n (N4 _ hm)),ahi cs (b+c.size) _ rest (by rw [X1,Yq,h]) (fun n hm=>hn n (T5 _ hm))];rw [show lN b (c::cs)=QW b c++lN (b+c.size) cs by rw [lN],T1]
end
theorem M5 {e:List Nd} {U:List (Int×Int)}: ∀(m i:Nat),Aq e U m i=none↔ ∀j,i<=j->j<i+m->D8 e U j=false
 |0,i=>⟨fun _ j h1 h2=>by omega,fun _=>rfl⟩
 |m+1,i=>by
  rw [Aq];cases hl:D8 e U i with
  |true=>exact⟨fun h=>by simp at h,fun h=>by have:=h i (R0 _) (by omega);rw [hl]at this;cases this⟩
  |false=>
   rw [if_neg (by simp),M5 m (i+1)];exact⟨fun h j h1 h2=>if hj:j=i then hj▸hl else h j (by omega) (by omega),fun h j h1 h2=>h j (by omega) (by omega)⟩
theorem aC5 {t:Tm} (hf:yE (flat 0 t)=true) (hn: ∀n∈flat 0 t,bI true n=0) (hl:t.size<=160) (ajs: ∀i,i<t.size->D8 (flat 0 t) (nY 0 (-1) 0 t) i=false):Gd (flat 0 t):=by
 have hL:=ET hf;have hpos:=t.size_pos;have hlen:=bn 0 t;obtain⟨r,h1,h2,h3⟩:=VY (flat 0 t) hL;have hs:jy [] (flat 0 t)= .inl (QW 0 t):=by
  have:=aer t 0 [] [] rfl hn;simpa [jy]using this
 have hU:Uz (flat 0 t)=nY 0 (-1) 0 t:=by
  rw [<-Kc];exact(Yw (by simp [aV]) hL).symm
 have hc:chk (flat 0 t)=(0,0):=by
  unfold chk;rw [if_neg (by omega),if_neg (by omega),hs]
  dsimp only
  rw [hU,(M5 _ 0).2 fun j _ hj=>ajs j (by omega)]
  dsimp only
  rw [hlen,ac9];rfl
 have hr:r=(0,0):=h1.uniq (Q0 hL)|>.trans hc;subst hr;refine⟨hf,h3 rfl,?_,?_⟩
 · unfold qp;exact Ev.bind h1 Ev.some
 · unfold yL;exact Ev.bind h2 Ev.some
theorem auR {e:List Nd} (h:Gd e) {t:Tm} (he:e=flat 0 t): ∀i,i<t.size->D8 e (nY 0 (-1) 0 t) i=false:=by
 have hL:=ET h.few;have hlen:e.length=t.size:=by rw [he,bn]
 have hpos:=t.size_pos;have hU:Uz e=nY 0 (-1) 0 t:=by
  rw [<-Kc];exact(Yw (by rw [he];simp [aV]) hL).symm
 have hc:(chk e).2=0:=by
  have h1:Ev (fun k=>qp k e) (chk e).2:=by unfold qp;exact Ev.bind (Q0 hL) Ev.some
  exact h1.uniq h.t0
 unfold chk at hc;have:=h.val.len;rw [if_neg (by omega),if_neg (by omega)]at hc;have hs:jy [] e= .inl (QW 0 t):=by
  have:=aer t 0 [] [] rfl (fun n hn=>by
   obtain⟨i,hi⟩:=S6.1 (he▸hn);exact h.val.ok i n hi)
  rw [he];simpa [jy]using this
 rw [hs]at hc
 dsimp only at hc
 rw [hU]at hc;cases hf:Aq e (nY 0 (-1) 0 t) e.length 0 with
 |some j=>rw [hf]at hc;simp at hc
 |none=>exact fun i hi=>(M5 _ 0).1 hf i (N3 _) (by omega)
mutual
theorem UK: ∀(t:Tm) (b s:Nat) (p k p' k':Int) (i:Nat),i<t.size->(i+1=t.size/\(nY (b+s) p k t)[i]? =some (p,k)/\(nY b p' k' t)[i]? =some (p',k'))\/
 (i+1<t.size/\ ∃(P:Nat) (j:Int),i<P/\P<t.size/\(nY (b+s) p k t)[i]? =some (((b+s+P:Nat):Int),j)/\(nY b p' k' t)[i]? =some (((b+P:Nat):Int),j))
 | .mk x cs,b,s,p,k,p',k',i,hi=>by
  simp only [wu];have hsz:(Tm.mk x cs).size=sizes cs+1:=by simp only [size]
  by_cases h:i=sizes cs
  · refine .inl ⟨by omega,?_,?_⟩
    · rw [N0 (by rw [eP];omega),eP,h,L5];rfl
    · rw [N0 (by rw [eP];omega),eP,h,L5];rfl
  · refine .inr ⟨by omega,?_⟩;obtain⟨P,j,h1,h2,h3,h4⟩:=Z5 cs b s 0 (sizes cs) 0 i (by omega) (by omega);rw [S4]at h3 h4;refine⟨P,j,by omega,by omega,?_,?_⟩
    · rw [C0 (by rw [eP];omega)];exact h3
    · rw [C0 (by rw [eP];omega)];exact h4
theorem Z5: ∀(cs:List Tm) (b s q N k i:Nat),i<sizes cs->q+sizes cs<=N-> ∃(P:Nat) (j:Int),q+i<P/\P<=N/\(fI (b+s+q) ((b+s+N:Nat):Int) k cs)[i]? =some (((b+s+P:Nat):Int),j)/\(fI (b+q) ((b+N:Nat):Int) k cs)[i]? =some (((b+P:Nat):Int),j)
 |[],b,s,q,N,k,i,h,_=>by simp [sizes]at h
 |c::cs,b,s,q,N,k,i,h,hN=>by
  simp only [sizes]at h hN;simp only [fI];by_cases hi:i<c.size
  · have:=UK c (b+q) s ((b+s+N:Nat):Int) k ((b+N:Nat):Int) k i hi;rw [show b+q+s=b+s+q by omega]at this;rw [C0 (by rw [fM];exact hi),C0 (by rw [fM];exact hi)];rcases this with⟨h1,h2,h3⟩|⟨h1,P,j,h2,h3,h4,h5⟩
    · exact⟨N,k,by omega,R0 _,h2,h3⟩
    · exact⟨q+P,j,by omega,by omega,by rw [h4];congr 3;omega,by rw [h5];congr 3;omega⟩
  · obtain⟨P,j,h1,h2,h3,h4⟩:=Z5 cs b s (q+c.size) N (k+1) (i -c.size) (by omega) (by omega);rw [N0 (by rw [fM];omega),N0 (by rw [fM];omega),fM,fM];refine⟨P,j,by omega,h2,?_,?_⟩
    · rw [show b+s+q+c.size=b+s+(q+c.size) by omega];exact h3
    · rw [show b+q+c.size=b+(q+c.size) by omega];exact h4
end
theorem P5: ∀(l m:List Tm) (b:Nat) (p:Int) (k:Nat),fI b p k (l++m)=fI b p k l++fI (b+sizes l) p (k+l.length) m
 |[],m,b,p,k=>by simp [fI,sizes]
 |c::l,m,b,p,k=>by
  simp only [B4,fI,sizes,I0,P5 l m (b+c.size) p (k+1),T1,G4];rw [show 1+l.length=l.length+1 by omega]
theorem auS {l m:List Tm} {c:Tm} {x:Nd} {i:Nat} (hi:i<c.size):((flat 0 (.mk x (l++c::m)))[sizes l+i]?).map (fun n=>(n.kind,n.text))=((flat 0 c)[i]?).map fun n=>(n.kind,n.text):=by
 have hS:Seg (flat 0 (.mk x (l++c::m))) (0+sizes l) c:=(Seg.whole _).kid;rw [V1]at hS;obtain⟨pre,post,he,hp⟩:=hS;have hfl:=yw (sizes l) c 0;rw [V1]at hfl;rw [he,N0 (by omega),hp,show sizes l+i -sizes l=i by omega,C0 (by rw [bn];exact hi),<-hfl,J0,Option.map_map];rfl
theorem af7 (d:Int) (n:Nd):bI true (LD d n)=bI true n:=by
 unfold bI nM qj qF;simp only [LD,J1];rfl
theorem auT {e:List Nd} {b:Nat} {c:Tm} (h:yE e=true) (hS:Seg e b c):yE (flat 0 c)=true:=by
 have hlt:=hS.lt;obtain⟨pre,post,rfl,rfl⟩:=hS;have hl:=(LB h).1;have hN: ∀n∈pre++(flat pre.length c++post),KI n=true:=by
  unfold yE at h;simp only [z1,B2]at h;rw [I3 (by omega)]at h;exact S3.1 h.1
 unfold yE;simp only [z1,B2];refine⟨S3.2 fun n hn=> ?_,by rw [bn];omega⟩;have hn:=CA hn;have hf:=yw pre.length c 0;rw [V1]at hf;rw [<-hf]at hn;obtain⟨m,hm,rfl⟩:=G3.1 hn;have:=hN m (by simp [hm]);have e:KI (LD pre.length m)=KI m:=by unfold KI LD;simp
 rw [e];exact this
theorem WJ {x:Nd} {l m:List Tm} {c:Tm} (h:Gd (flat 0 (.mk x (l++c::m)))) (hx:x.kind=3) (ho:(dF dW x.text).2=true\/c.root.kind≠24):Gd (flat 0 c):=by
 have ajs:=auR h rfl;have hS:Seg (flat 0 (.mk x (l++c::m))) (0+sizes l) c:=(Seg.whole _).kid;have hsz:(Tm.mk x (l++c::m)).size=sizes l+(c.size+sizes m)+1:=by simp only [size,dG,sizes]
 have hlen:=bn 0 (Tm.mk x (l++c::m));have hvl:=h.val.len;have aes: ∀{i:Nat},i<c.size->_:=fun{i} hi=>auS (l:=l) (m:=m) (c:=c) (x:=x) (i:=i) hi;have hN:(flat 0 (.mk x (l++c::m)))[sizes (l++c::m)]? =some (nd x 0 (l++c::m)):=by
  have:=(Seg.whole (.mk x (l++c::m))).node
  rwa [V1]at this
 have hsN:sizes (l++c::m)=sizes l+(c.size+sizes m):=by simp only [dG,sizes]
 generalize hW:flat 0 (.mk x (l++c::m))=W at*;have hU: ∀i,i<c.size->(nY 0 (-1) 0 (.mk x (l++c::m)))[sizes l+i]? =(nY (0+sizes l) ((sizes (l++c::m):Nat):Int) ((l.length:Nat):Int) c)[i]? :=by
  intro i hi;rw [wu,P5,T1,N0 (by rw [eP];omega),eP,show sizes l+i -sizes l=i by omega];simp only [fI,T1,V1];rw [C0 (by rw [fM];exact hi)]
 have hUN:(nY 0 (-1) 0 (.mk x (l++c::m)))[sizes (l++c::m)]? =some (-1,0):=by
  rw [wu,N0 (by rw [eP];exact R0 _),eP,L5];rfl
 generalize hUW:nY 0 (-1) 0 (.mk x (l++c::m))=U at*;have old: ∀(m' m2 i:Nat),i<c.size->c.size<=i+m2->A8 W U m' (sizes l+i)=true->A8 (flat 0 c) (nY 0 (-1) 0 c) m2 i=true:=by
  intro m'
  induction m' with
  |zero=>intro m2 i hi hm ht;simp [A8]at ht
  |succ m' ih=>
   intro m2 i hi hm ht;obtain⟨m2,rfl⟩: ∃q,m2=q+1:=⟨m2 -1,by omega⟩;rw [A8,hU i hi]at ht;rcases UK c 0 (sizes l) ((sizes (l++c::m):Nat):Int) ((l.length:Nat):Int) (-1) 0 i hi with⟨h1,h2,h3⟩|⟨h1,P,j,h2,h3,h4,h5⟩
   · rw [h2]at ht
     dsimp only at ht
     rw [if_neg (by omega),V0,hN]at ht;have hk:(nd x 0 (l++c::m)).kind=3:=hx;simp only [X2,hk,L1,show((3:Int)=19)=False by decide,L4,O3,Q4]at ht;cases m' with
     |zero=>simp [A8]at ht
     |succ m'=>rw [A8,hUN]at ht;simp at ht
   · rw [h4]at ht
     dsimp only at ht
     rw [if_neg (by omega),V0,V1]at ht;rw [A8,h5]
     dsimp only
     rw [if_neg (by omega),V0,V1];have hk:(W[sizes l+P]?.map Nd.kind)=((flat 0 c)[P]?.map Nd.kind):=by
      have:=congrArg (Option.map Prod.fst) (aes h3);simpa [Option.map_map,Function.comp_def]using this
     rw [hk,C5]at ht;rw [C5];rcases ht with ht|ht
     · exact .inl ht
     · exact .inr (ih m2 P h3 (by omega) ht)
 refine aC5 (auT h.few hS) ?_ (by omega) ?_
 · intro n hn;obtain⟨i,hi⟩:=S6.1 hn;have hfl:=yw (sizes l) c 0;rw [V1]at hfl;rw [<-hfl,J0,Z1]at hi;obtain⟨n',h1,rfl⟩:=hi;rw [V1]at hS;obtain⟨pre,post,he,hp⟩:=hS;have hlt:=(S0.1 h1).1;have:=h.val.ok (sizes l+i) n' (by rw [he,N0 (by omega),hp,show sizes l+i -sizes l=i by omega,C0 hlt];exact h1);rw [<-this];exact af7 _ _
 · intro i hi;have hw:=ajs (sizes l+i) (by omega);unfold D8 at hw⊢;have hnd:=aes hi;rw [hU i hi]at hw;obtain⟨n2,hn2⟩: ∃n2,(flat 0 c)[i]? =some n2:=⟨_,aP (by rw [bn];exact hi)⟩;rw [hn2]at hnd⊢;obtain⟨n1,hn1,hnk⟩:=Z1.1 hnd;rw [hn1]at hw;have hk:n1.kind=n2.kind:=congrArg Prod.fst hnk;rcases UK c 0 (sizes l) ((sizes (l++c::m):Nat):Int) ((l.length:Nat):Int) (-1) 0 i hi with⟨h1,h2,h3⟩|⟨h1,P,j,h2,h3,h4,h5⟩
   · rw [h2]at hw;rw [h3]
     dsimp only at hw⊢
     rw [hk]at hw;by_cases Ra:n2.kind=24
     · rcases ho with ho|ho
       · rw [if_pos Ra,if_neg (by omega),V0,hN]at hw;have e1:(nd x 0 (l++c::m)).kind=3:=hx;have e2:(nd x 0 (l++c::m)).text=x.text:=rfl;simp only [e1,e2,A0,ho]at hw;cases hw
       · exfalso;obtain⟨y,ds⟩:=c;have:=(Seg.whole (.mk y ds)).node;rw [V1,show sizes ds=i by simp only [size]at h1;omega,hn2]at this;exact ho ((congrArg Nd.kind (V2 this)).symm.trans Ra)
     · rw [if_neg Ra]at hw⊢;by_cases h20:n2.kind=20
       · rw [if_pos h20,k8]at hw;rw [if_pos h20,k8];exact old _ _ i hi (by rw [bn];omega) hw
       · rw [if_neg h20]
   · rw [h4]at hw;rw [h5]
     dsimp only at hw⊢
     rw [hk]at hw;by_cases Ra:n2.kind=24
     · rw [if_pos Ra,if_neg (by omega),V0,V1]at hw;rw [if_pos Ra,if_neg (by omega),V0,V1];have hnd:=aes h3;obtain⟨q2,hq2⟩: ∃q,(flat 0 c)[P]? =some q:=⟨_,aP (by rw [bn];exact h3)⟩;rw [hq2]at hnd⊢;obtain⟨q1,hq1,hqk⟩:=Z1.1 hnd;rw [hq1]at hw;have a1:q1.kind=q2.kind:=congrArg Prod.fst hqk;have a2:q1.text=q2.text:=congrArg Prod.snd hqk
       dsimp only at hw⊢
       rw [a1,a2]at hw;exact hw
     · rw [if_neg Ra]at hw⊢;by_cases h20:n2.kind=20
       · rw [if_pos h20,k8]at hw;rw [if_pos h20,k8];exact old _ _ i hi (by rw [bn];omega) hw
       · rw [if_neg h20]
def Cy (v:Str->Int) (x:Nd) (l:List Int):Int:=
 if x.kind=0 then x.n else if x.kind=2 then v x.text else if x.text=[45,46]then -(l[0]?.getD 0)else
 if x.text=[43]then l[0]?.getD 0+l[1]?.getD 0 else if x.text=[45]then l[0]?.getD 0 -l[1]?.getD 0 else l[0]?.getD 0*l[1]?.getD 0
mutual
def dM (v:Str->Int):Tm->Int
 | .mk x cs=>Cy v x (vD v cs)
def vD (v:Str->Int):List Tm->List Int
 |[]=>[]
 |c::cs=>dM v c::vD v cs
end
theorem aeu (v:Str->Int): ∀cs:List Tm,(vD v cs).length=cs.length
 |[]=>rfl
 |c::cs=>by rw [vD,I0,I0,aeu v cs]
def evS (v:Str->Int):List Nd->List Int->List Int
 |[],s=>s
 |n::l,s=>evS v l (Cy v n ((s.take n.args.length).reverse)::s.drop n.args.length)
mutual
theorem asA (v:Str->Int): ∀(t:Tm) (b:Nat) (rest:List Nd) (s:List Int),evS v (flat b t++rest) s=evS v rest (dM v t::s)
 | .mk x cs,b,rest,s=>by
  rw [ig,T1,ame v cs b _ s,IA,evS];have hl:(nd x b cs).args.length=(vD v cs).reverse.length:=by rw [List.length_reverse,aeu];exact iq b cs
  rw [hl,List.take_left,PA,List.reverse_reverse,dM];rfl
theorem ame (v:Str->Int): ∀(cs:List Tm) (b:Nat) (rest:List Nd) (s:List Int),evS v (aV b cs++rest) s=evS v rest ((vD v cs).reverse++s)
 |[],b,rest,s=>by simp [aV,vD]
 |c::cs,b,rest,s=>by
  rw [fH,T1,asA v c b,ame v cs,vD,List.reverse_cons,T1];rfl
end
def Jv (v:Str->Int) (e:List Nd):Int:=(evS v e []).headD 0
theorem aew (v:Str->Int) (t:Tm):Jv v (flat 0 t)=dM v t:=by
 have:=asA v t 0 [] [];rw [W3]at this;unfold Jv;rw [this];rfl
mutual
def nob:Tm->Prop
 | .mk x cs=>x.names=[]/\P6 cs
def P6:List Tm->Prop
 |[]=>True
 |c::cs=>nob c/\P6 cs
end
mutual
theorem ahj (left:List Str): ∀(t:Tm) (c:Nat),nob t->can left [] c t=(t,c)
 | .mk x cs,c,h=>by
  unfold nob at h;have h1:fF left x c=(x.names,c):=by
   unfold fF;split
   · rfl
   · rw [h.1];rfl
  have h2:pE left [] c x=x:=by
   unfold pE BK;rw [h1];cases hb:kK x<;>simp [l8]
  rw [F5,h2,h1,aey left cs x cs.length 0 c h.1 h.2]
theorem aey (left:List Str): ∀(cs:List Tm) (x:Nd) (a j c:Nat),x.names=[]->P6 cs->fU left [] x x a j c cs=(cs,c)
 |[],x,a,j,c,_,_=>by rw [fU]
 |t::ts,x,a,j,c,hx,h=>by
  unfold P6 at h;have hs:vH x x a j=[]:=by
   unfold vH;rw [hx];have:jm (qz x.kind x.n a j) ([]:List Str)=[]:=by unfold jm;split<;>rfl
   rw [this];rfl
  rw [mW,hs,W3,ahj left t c h.1]
  dsimp only
  rw [aey left ts x a (j+1) c hx h.2]
end
theorem azZ: ∀{t:Tm},(∀n∈flat 0 t,n.names=[])->nob t:=by
 have key: ∀k,(∀(t:Tm) (b:Nat),t.size<=k->(∀n∈flat b t,n.names=[])->nob t)/\(∀(cs:List Tm) (b:Nat),sizes cs<=k->(∀n∈aV b cs,n.names=[])->P6 cs):=by
  intro k
  induction k with
  |zero=>
   refine⟨fun t b h=>by have:=t.size_pos;omega,fun cs b h hn=> ?_⟩;cases cs with
   |nil=>unfold P6;trivial
   |cons c cs=>simp only [sizes]at h;have:=c.size_pos;omega
  |succ k ih=>
   refine⟨fun t b h hn=> ?_,fun cs b h hn=> ?_⟩
   · obtain⟨x,cs⟩:=t;unfold nob;rw [ig]at hn;simp only [size]at h;exact⟨hn (nd x b cs) (by simp),ih.2 cs b (by omega) fun n hm=>hn n (N4 _ hm)⟩
   · cases cs with
     |nil=>unfold P6;trivial
     |cons c cs=>
      rw [fH]at hn;simp only [sizes]at h;have hc:=c.size_pos;unfold P6;refine⟨?_,?_⟩
      · by_cases hk:c.size<=k
        · exact ih.1 c b hk fun n hm=>hn n (N4 _ hm)
        · obtain⟨x,ds⟩:=c;unfold nob;have hn': ∀n∈flat b (.mk x ds),n.names=[]:=fun n hm=>hn n (N4 _ hm);rw [ig]at hn';simp only [size]at h;exact⟨hn' (nd x b ds) (by simp),ih.2 ds b (by omega) fun n hm=>hn' n (N4 _ hm)⟩
      · exact ih.2 cs (b+c.size) (by omega) fun n hm=>hn n (T5 _ hm)
 exact fun{t} h=>(key t.size).1 t 0 (R0 _) h
theorem aez {e:List Nd} (h:Gd e) (hn: ∀n∈e,n.names=[]):KN e=e:=by
 obtain⟨t,l,e1,_,_,_,e5,_⟩:=aeh (ET h.few) (adD h.few h.val) h.val;have:=(LP h).1.uniq e5;rw [ahj l t 0 (azZ (e1▸hn))]at this;rw [this,<-e1]
theorem az0 {a b:List Nd} (ha:Gd a) (hb:Gd b) (na: ∀n∈a,n.names=[]) (nb: ∀n∈b,n.names=[]) (h:pF a b=true):a=b:=by
 have:=W5 h
 rwa [aez ha na,aez hb nb]at this
abbrev wF:Fo:=⟨[],[],0,false⟩
def isNum (f:Fo):Bool:= !f.bad&&f.cs.all fun c=>c==0
def sums:List Str:=[[45,46],[43],[45],[42]]
inductive dX:Tm->Fo->Prop
 |num {x:Nd} {cs:List Tm} (hk:x.kind=0):dX (.mk x cs) ⟨[],[],x.n,false⟩
 |neg {x:Nd} {c:Tm} {r:Fo} (hk:x.kind=3) (ht:x.text=[45,46]) (h:dX c r):dX (.mk x [c]) (bL wF r (-1))
 |add {x:Nd} {a b:Tm} {r s:Fo} (hk:x.kind=3) (ht:x.text=[43]) (h:dX a r) (h':dX b s):dX (.mk x [a,b]) (bL r s 1)
 |sub {x:Nd} {a b:Tm} {r s:Fo} (hk:x.kind=3) (ht:x.text=[45]) (h:dX a r) (h':dX b s):dX (.mk x [a,b]) (bL r s (-1))
 |aoX {x:Nd} {a b:Tm} {r s:Fo} (hk:x.kind=3) (ht:x.text=[42]) (h:dX a r) (h':dX b s) (hb:(r.bad||s.bad)=true):dX (.mk x [a,b]) ⟨[],[],0,true⟩
 |mulL {x:Nd} {a b:Tm} {r s:Fo} (hk:x.kind=3) (ht:x.text=[42]) (h:dX a r) (h':dX b s) (hb:(r.bad||s.bad)=false) (hn:isNum r=true):dX (.mk x [a,b]) (bL wF s r.num)
 |mulR {x:Nd} {a b:Tm} {r s:Fo} (hk:x.kind=3) (ht:x.text=[42]) (h:dX a r) (h':dX b s) (hb:(r.bad||s.bad)=false) (hn:isNum r=false) (hm:isNum s=true):dX (.mk x [a,b]) (bL wF r s.num)
 |aoY {x:Nd} {a b:Tm} {r s:Fo} (hk:x.kind=3) (ht:x.text=[42]) (h:dX a r) (h':dX b s) (hb:(r.bad||s.bad)=false) (hn:isNum r=false) (hm:isNum s=false):dX (.mk x [a,b]) ⟨[flat 0 (.mk x [a,b])],[1],0,false⟩
 |unk {x:Nd} {cs:List Tm} (hk:x.kind≠0) (ht:x.kind=3->x.text∉sums):dX (.mk x cs) ⟨[flat 0 (.mk x cs)],[1],0,false⟩
theorem sN {n:Nat}:Uk [] [] n:=⟨fun x h=>(by cases h),.nil,rfl,N3 _⟩
theorem uk1 {e:List Nd} {n:Nat} (h:Gd e) (hn:1<=n):Uk [e] [1] n:=⟨fun x hx=>by rw [P0.1 hx];exact h,DB _ _,rfl,hn⟩
theorem AB {us:List (List Nd)} {cs:List Int} {a b:Nat} (h:Uk us cs a) (hab:a<=b):Uk us cs b:=⟨h.gd,h.un,h.len,E1 h.le hab⟩
theorem pz {s:Str} (h:s∈sums):(dF dW s).2=true:=by
 have key:sums.all (fun s=>(dF dW s).2)=true:=by kernel_rfl
 exact S3.1 key s h
theorem aeA {x:Nd} {c:Tm} (h:Gd (flat 0 (.mk x [c]))) (hk:x.kind=3) (ho:(dF dW x.text).2=true):Gd (flat 0 c):=WJ (l:=[]) (m:=[]) h hk (.inl ho)
theorem A9 {x:Nd} {a b:Tm} (h:Gd (flat 0 (.mk x [a,b]))) (hk:x.kind=3) (ho:(dF dW x.text).2=true):Gd (flat 0 a)/\Gd (flat 0 b):=⟨WJ (l:=[]) (m:=[b]) h hk (.inl ho),WJ (l:=[a]) (m:=[]) h hk (.inl ho)⟩
theorem jR {t:Tm} {r:Fo} (h:dX t r):Gd (flat 0 t)->wE r t.size:=by
 induction h with
 |num hk=>exact fun _=>sN
 |neg hk ht h ih=>
  intro hg;have:=ih (aeA hg hk (pz (by rw [ht];decide)));refine AB (jM (f:=wF) (a:=0) sN this) ?_;simp only [size,sizes];omega
 |add hk ht h h' ih ih'=>
  intro hg;have:=A9 hg hk (pz (by rw [ht];decide));refine AB (jM (ih this.1) (ih' this.2)) ?_;simp only [size,sizes];omega
 |sub hk ht h h' ih ih'=>
  intro hg;have:=A9 hg hk (pz (by rw [ht];decide));refine AB (jM (ih this.1) (ih' this.2)) ?_;simp only [size,sizes];omega
 |aoX hk ht h h' hb ih ih'=>exact fun _=>sN
 |mulL hk ht h h' hb hn ih ih'=>
  intro hg;have:=A9 hg hk (pz (by rw [ht];decide));refine AB (jM (f:=wF) (a:=0) sN (ih' this.2)) ?_;simp only [size,sizes];omega
 |mulR hk ht h h' hb hn hm ih ih'=>
  intro hg;have:=A9 hg hk (pz (by rw [ht];decide));refine AB (jM (f:=wF) (a:=0) sN (ih this.1)) ?_;simp only [size,sizes];omega
 |aoY hk ht h h' hb hn hm ih ih'=>exact fun hg=>uk1 hg (size_pos _)
 |unk hk ht=>exact fun hg=>uk1 hg (size_pos _)
def Kr (us:List (List Nd)):Prop:= ∀u∈us,∀n∈u,n.names=[]
theorem Z6 {t:Int}: ∀{l:List (List Nd×Int)} {us:List (List Nd)} {cs:List Int} {u:List Nd},u∈(l.foldl (qB t) (us,cs)).1->u∈us\/u∈l.map Prod.fst
 |[],us,cs,u,h=> .inl h
 |x::l,us,cs,u,h=>by
  rw [m6]at h;rcases Z6 (us:=(qB t (us,cs) x).1) (cs:=(qB t (us,cs) x).2) h with h|h
  · unfold qB at h;split at h
    · rcases P2.1 h with h|h
      · exact .inl h
      · exact .inr (by rw [P0.1 h];simp)
    · exact .inl h
  · exact .inr (by simp only [M3];exact I1 _ h)
theorem uJ {f g:Fo} {t:Int} (hf:Kr f.us) (hg:Kr g.us):Kr (bL f g t).us:=by
 intro u hu;unfold bL at hu;split at hu
 · exact hf u hu
 · rcases Z6 hu with h|h
   · exact hf u h
   · obtain⟨p,hp,rfl⟩:=G3.1 h;exact hg _ (List.of_mem_zip hp).1
theorem P7 {x:Nd} {l m:List Tm} {c:Tm} (h: ∀n∈flat 0 (.mk x (l++c::m)),n.names=[]): ∀n∈flat 0 c,n.names=[]:=by
 intro n hn;have hS:Seg (flat 0 (.mk x (l++c::m))) (0+sizes l) c:=(Seg.whole _).kid;obtain⟨pre,post,he,hp⟩:=hS;have hfl:=yw (0+sizes l) c 0;rw [V1]at hfl;rw [<-hfl]at hn;obtain⟨n',h1,rfl⟩:=G3.1 hn;exact h n' (by rw [he];exact T5 _ (N4 _ h1))
theorem auU {x:Nd} {c:Tm} (h: ∀n∈flat 0 (.mk x [c]),n.names=[]): ∀n∈flat 0 c,n.names=[]:=P7 (l:=[]) (m:=[]) h
theorem LW {x:Nd} {a b:Tm} (h: ∀n∈flat 0 (.mk x [a,b]),n.names=[]):(∀n∈flat 0 a,n.names=[])/\ ∀n∈flat 0 b,n.names=[]:=⟨P7 (l:=[]) (m:=[b]) h,P7 (l:=[a]) (m:=[]) h⟩
section
variable (v:Str->Int)
theorem LX {f:Fo} (h:isNum f=true):vC (Jv v) f=f.num:=by
 unfold isNum at h;rw [z1]at h;unfold vC;rw [aep _ _ fun c hc=>by simpa using S3.1 h.2 c hc];omega
theorem sP {f g:Fo} {t:Int} {a b:Nat} (hf:wE f a) (hg:wE g b) (nf:Kr f.us) (ng:Kr g.us) (hb:(bL f g t).bad=false):f.bad=false/\g.bad=false/\Md (vC (Jv v) (bL f g t)) (vC (Jv v) f+t*vC (Jv v) g):=
 amc hf hg (fun x y hx hy hk=>by
  have gx:Gd x:=hx.elim (hf.gd x) (hg.gd x);have nx: ∀n∈x,n.names=[]:=hx.elim (nf x) (ng x);rw [az0 gx (hg.gd y hy) nx (ng y hy) hk]) hb
theorem YH:vC (Jv v) wF=0:=rfl
theorem WK {t:Tm} {r:Fo} (h:dX t r):Gd (flat 0 t)->(∀n∈flat 0 t,n.names=[])->Kr r.us/\(r.bad=false->Md (vC (Jv v) r) (dM v t)):=by
 induction h with
 | @num x cs hk=>
  refine fun _ _=>⟨fun u hu=>(by cases hu),fun _=>Md.of ?_⟩
  simp [vC,dot,dM,Cy,hk]
 | @neg x c r hk ht h ih=>
  intro hg hn;have g1:=aeA hg hk (pz (by rw [ht];decide));obtain⟨i1,i2⟩:=ih g1 (auU hn);refine⟨uJ (f:=wF) (fun u hu=>(by cases hu)) i1,fun hb=> ?_⟩;obtain⟨-,b1,hv⟩:=sP v (f:=wF) (a:=0) sN (jR h g1) (fun u hu=>(by cases hu)) i1 hb;refine hv.trans (((Md.of (YH v)).add ((i2 b1).mulL (-1))).trans (Md.of ?_));simp [dM,vD,Cy,hk,ht]
 | @add x a b r s hk ht h h' ih ih'=>
  intro hg hn;have g1:=A9 hg hk (pz (by rw [ht];decide));have n1:=LW hn;obtain⟨i1,i2⟩:=ih g1.1 n1.1;obtain⟨j1,j2⟩:=ih' g1.2 n1.2;refine⟨uJ i1 j1,fun hb=> ?_⟩;obtain⟨b0,b1,hv⟩:=sP v (jR h g1.1) (jR h' g1.2) i1 j1 hb;refine hv.trans (((i2 b0).add ((j2 b1).mulL 1)).trans (Md.of ?_));simp [dM,vD,Cy,hk,ht]
 | @sub x a b r s hk ht h h' ih ih'=>
  intro hg hn;have g1:=A9 hg hk (pz (by rw [ht];decide));have n1:=LW hn;obtain⟨i1,i2⟩:=ih g1.1 n1.1;obtain⟨j1,j2⟩:=ih' g1.2 n1.2;refine⟨uJ i1 j1,fun hb=> ?_⟩;obtain⟨b0,b1,hv⟩:=sP v (jR h g1.1) (jR h' g1.2) i1 j1 hb;refine hv.trans (((i2 b0).add ((j2 b1).mulL (-1))).trans (Md.of ?_));simp [dM,vD,Cy,hk,ht];omega
 | @aoX x a b r s hk ht h h' hb ih ih'=>exact fun _ _=>⟨fun u hu=>(by cases hu),fun hc=>by cases hc⟩
 | @mulL x a b r s hk ht h h' hb hn' ih ih'=>
  intro hg hn;have g1:=A9 hg hk (pz (by rw [ht];decide));have n1:=LW hn;obtain⟨i1,i2⟩:=ih g1.1 n1.1;obtain⟨j1,j2⟩:=ih' g1.2 n1.2;rw [A6]at hb;refine⟨uJ (f:=wF) (fun u hu=>(by cases hu)) j1,fun hc=> ?_⟩;obtain⟨-,b1,hv⟩:=sP v (f:=wF) (a:=0) sN (jR h' g1.2) (fun u hu=>(by cases hu)) j1 hc;refine hv.trans (((Md.of (YH v)).add (((Md.of (LX v hn').symm).trans (i2 hb.1)).mul (j2 b1))).trans (Md.of ?_));simp [dM,vD,Cy,hk,ht]
 | @mulR x a b r s hk ht h h' hb hn' hm ih ih'=>
  intro hg hn;have g1:=A9 hg hk (pz (by rw [ht];decide));have n1:=LW hn;obtain⟨i1,i2⟩:=ih g1.1 n1.1;obtain⟨j1,j2⟩:=ih' g1.2 n1.2;rw [A6]at hb;refine⟨uJ (f:=wF) (fun u hu=>(by cases hu)) i1,fun hc=> ?_⟩;obtain⟨-,b1,hv⟩:=sP v (f:=wF) (a:=0) sN (jR h g1.1) (fun u hu=>(by cases hu)) i1 hc;refine hv.trans (((Md.of (YH v)).add (((Md.of (LX v hm).symm).trans (j2 hb.2)).mul (i2 b1))).trans (Md.of ?_));simp [dM,vD,Cy,hk,ht,Int.mul_comm]
 | @aoY x a b r s hk ht h h' hb hn' hm ih ih'=>
  refine fun hg hn=>⟨fun u hu=>by rw [P0.1 hu];exact hn,fun _=>Md.of ?_⟩
  simp [vC,dot,aew]
 | @unk x cs hk ht=>
  refine fun hg hn=>⟨fun u hu=>by rw [P0.1 hu];exact hn,fun _=>Md.of ?_⟩
  simp [vC,dot,aew]
end
mutual
def Z7:Tm->Prop
 | .mk x cs=>((x.kind=0/\0<=x.n/\x.n<=100)\/x.kind=2\/(x.kind=3/\x.text=[45,46]/\cs.length=1)\/(x.kind=3/\(x.text=[43]\/x.text=[45]\/x.text=[42])/\cs.length=2))/\ajt cs
def ajt:List Tm->Prop
 |[]=>True
 |c::cs=>Z7 c/\ajt cs
end
mutual
def qJ:Tm->Nat
 | .mk x cs=>Jw cs+(if x.text=[42]then 1 else 0)
def Jw:List Tm->Nat
 |[]=>0
 |c::cs=>qJ c+Jw cs
end
theorem aju {a b m p q:Nat} (ha:a<=m) (hb:b<=m) (hab:a+b<=m):a^(p+1)+b^(q+1)<=m^(p+q+1):=by
 by_cases hm:m=0
 · have:a=0:=by omega
   have:b=0:=by omega
   subst_vars;simp
 have h1:a^p<=m^(p+q):=E1 (m8 ha p) (TC (by omega) (tB _ _));have h2:b^q<=m^(p+q):=E1 (m8 hb q) (TC (by omega) (Nat.le_add_left _ _));rw [Nat.pow_succ,Nat.pow_succ,Nat.pow_succ]
 calc a^p*a+b^q*b<=m^(p+q)*a+m^(p+q)*b:=Nat.add_le_add (Z3 _ h1) (Z3 _ h2)
  _=m^(p+q)*(a+b):=by rw [Nat.mul_add]
  _<=m^(p+q)*m:=Nat.mul_le_mul_left _ hab
theorem ajv {a b m p q:Nat} (ha:a<=m) (hb:b<=m):a^(p+1)*b^(q+1)<=m^(p+q+1+1):=by
 calc a^(p+1)*b^(q+1)<=m^(p+1)*m^(q+1):=Nat.mul_le_mul (m8 ha _) (m8 hb _)
  _=m^(p+q+1+1):=by rw [<-Nat.pow_add];congr 1;omega
theorem abd (v:Str->Int) (hv: ∀s,(v s).natAbs<=100): ∀(k:Nat) (t:Tm),t.size<=k->Z7 t->(dM v t).natAbs<=(100*t.size)^(qJ t+1)
 |0,t,h,_=>by have:=t.size_pos;omega
 |k+1,.mk x cs,h,ha=>by
  unfold Z7 at ha;have hp:(100*(Tm.mk x cs).size)<=(100*(Tm.mk x cs).size)^(qJ (.mk x cs)+1):=Nat.le_self_pow (by omega) _;have hs:(Tm.mk x cs).size=sizes cs+1:=by simp only [size]
  rcases ha.1 with⟨h0,h1,h2⟩|h0|⟨h0,h1,h2⟩|⟨h0,h1,h2⟩
  · have e:dM v (.mk x cs)=x.n:=by simp [dM,Cy,h0]
    rw [e];omega
  · have e:dM v (.mk x cs)=v x.text:=by simp [dM,Cy,h0]
    have:=hv x.text;rw [e];omega
  · obtain⟨c,rfl⟩: ∃c,cs=[c]:=by match cs,h2 with|[c],_=>exact⟨c,rfl⟩
    have e:dM v (.mk x [c])= -(dM v c):=by simp [dM,vD,Cy,h0,h1]
    have ac:Z7 c:=by have:=ha.2;simp only [ajt]at this;exact this.1
    have e2:qJ (.mk x [c])=qJ c:=by simp [qJ,Jw,h1]
    rw [hs,mR]at h;have ih:=abd v hv k c (by omega) ac;rw [e,Int.natAbs_neg,e2];refine E1 ih (m8 ?_ _);rw [hs,mR];omega
  · obtain⟨a,b,rfl⟩: ∃a b,cs=[a,b]:=by match cs,h2 with|[a,b],_=>exact⟨a,b,rfl⟩
    have ac:Z7 a/\Z7 b:=by have:=ha.2;simp only [ajt]at this;exact⟨this.1,this.2.1⟩
    have hss:sizes [a,b]=a.size+b.size:=by simp [sizes]
    have sa:=a.size_pos;have sb:=b.size_pos;rw [hs,hss]at h;have i1:=abd v hv k a (by omega) ac.1;have i2:=abd v hv k b (by omega) ac.2;have az1:(dM v a).natAbs+(dM v b).natAbs<=(100*(Tm.mk x [a,b]).size)^(qJ a+qJ b+1):=by
     refine E1 (Nat.add_le_add i1 i2) (aju ?_ ?_ ?_)<;>rw [hs,hss]<;>omega
    rcases h1 with h1|h1|h1
    · have e:dM v (.mk x [a,b])=dM v a+dM v b:=by simp [dM,vD,Cy,h0,h1]
      have e2:qJ (.mk x [a,b])=qJ a+qJ b:=by simp [qJ,Jw,h1]
      rw [e,e2];exact E1 (Int.natAbs_add_le _ _) az1
    · have e:dM v (.mk x [a,b])=dM v a -dM v b:=by simp [dM,vD,Cy,h0,h1]
      have e2:qJ (.mk x [a,b])=qJ a+qJ b:=by simp [qJ,Jw,h1]
      rw [e,e2];exact E1 (Int.natAbs_sub_le _ _) az1
    · have e:dM v (.mk x [a,b])=dM v a*dM v b:=by simp [dM,vD,Cy,h0,h1]
      have e2:qJ (.mk x [a,b])=qJ a+qJ b+1:=by simp [qJ,Jw,h1]
      rw [e,e2,Int.natAbs_mul];refine E1 (Nat.mul_le_mul i1 i2) (ajv ?_ ?_)<;>rw [hs,hss]<;>omega
theorem UL {v:Str->Int} (hv: ∀s,(v s).natAbs<=100) {t:Tm} (ha:Z7 t) (hs:t.size<=15) (hp:qJ t<=2):(dM v t).natAbs<=3375000000:=by
 refine E1 (abd v hv _ t (R0 _) ha) ?_;refine E1 (m8 (show 100*t.size<=1500 by omega) _) ?_;exact E1 (TC (by omega) (show qJ t+1<=3 by omega)) (by decide)
end Go.VL
end
section
namespace Go.VL
structure Co where
 form:Fo
 eq:Bool
deriving DecidableEq
def Co.cells (x:Co):List PV:=[(.ah (x.form.us.map (bR Nd.cells)) (nz x.form.us)),(.ah (x.form.cs.map aK) (nz x.form.cs)),(.int .i64 x.form.num),(.bool x.form.bad),(.bool x.eq)]
theorem Co.je (x:Co):x.cells=[(.ah (x.form.us.map (bR Nd.cells)) (nz x.form.us)),(.ah (x.form.cs.map aK) (nz x.form.cs)),(.int .i64 x.form.num),(.bool x.form.bad),(.bool x.eq)]:=rfl
theorem Co.pu (x:Co): ∀c∈x.cells,Pu c:=dJ.mem (.cons (MZ (tN Nd.pu) _) (.cons (MZ gV _) (.cons (.int _ _) (.cons (.bool _) (.cons (.bool _) .nil)))))
attribute [go_sem] Co.je
end Go.VL
end
