/- Part 8. -/
import Derived.Test.YthebklihgmhgoaaGreatDoorKi7
import Derived.Lib.RowBridge
import Derived.Lib.SlicesCompact
set_option maxRecDepth 8000
set_option linter.unusedVariables false
set_option linter.unusedSectionVars false
set_option linter.unusedSimpArgs false
section
set_option maxHeartbeats 4000000
namespace Go.VL
open Go.Proofs
def Je (k:Nat) (bR:Nd):Option Bool:=
  Option.bind (kS k bR.text) fun p2=>cond (bR.kind==2) (Option.bind (Ed bR.text) fun p5=>cond p5 (cond (bR.kind==3) (some (!p2.2)) (some false)) (some true)) (cond (bR.kind==3) (some (!p2.2)) (some false))
theorem adN {k:Nat} {bR:Nd} {r:Bool} (h:Je k bR=some r):aC Tryz.prog 80 [(.agg (Nd.cells bR))] (.bool r):=by
  refine aC.aP (bn.mem (.cons (.agg _ (Nd.pu _)) .nil)) (aK ajh (by simp) (aD ?_)) (.bool _);unfold Je at h;unfold ap1;obtain⟨p2,e1,h⟩:=aj h;refine ah ?_
  refine av (qm e1) ?_;rcases au h with⟨e3,h⟩|⟨e3,h⟩
  ·obtain⟨p5,e4,h⟩:=aj h;refine ah ?_
   refine av (Qt e4) ?_;rcases au h with⟨e6,h⟩|⟨e6,h⟩
   ·rcases au h with⟨e7,h⟩|⟨e7,h⟩
    ·cases h;refine ah ?_
     exact(.pure _ (.bool _))
    ·cases h;refine ah ?_
     exact(.pure _ (.bool _))
   ·cases h;refine ah ?_
    exact(.pure _ (.bool _))
  ·rcases au h with⟨e8,h⟩|⟨e8,h⟩
   ·cases h;refine ah ?_
    exact(.pure _ (.bool _))
   ·cases h;refine ah ?_
    exact(.pure _ (.bool _))
def HV (s_0:Str):Option (List Nd):=
  some [(Nd.mk 2 0 s_0 [] [])]
theorem LP {s_0:Str} {r:List Nd} (h:HV s_0=some r):aC Tryz.prog 89 [(.str s_0)] (.aB (r.map Nd.cells) .unk):=by
  refine aC.aP (bn.mem (.cons (.str _) .nil)) (aK awV (by simp) (aD ?_)) (bC Nd.pu _);unfold HV at h;unfold ap5;cases h;refine ah ?_
  exact(jB Nd.pu [(Nd.mk 2 0 s_0 [] [])] _)
def En:Nat->Int->Int->Int->Str->(List Str)->(List Int)->(List Int)->Int->Option (List Int)
  |0,_,_,_,_,_,_,_,_=>none
  |k+1,kX,HY,HZ,H7,Ia,Cq,vk,JH=>
    cond (decide (JH<(Cq.length:Int))) (if 0<=JH then Option.bind (Cq[JH.toNat]?) fun x15=>if(vk.length+1)*8<=1099511627776 then En k kX HY HZ H7 Ia Cq (vk++[(IntKind.wrap .i64 (x15+kX))]) (IntKind.wrap .i64 (JH+1))else none else none) (some (vk))
def UF:List Nat:=[11,12]++List.range' 47 17
theorem adO: ∀(k:Nat) (Eo:Nat) (kX:Int) (HY:Int) (HZ:Int) (H7:Str) (Ia:List Str) (Cq:List Int) (vk:List Int) (JH:Int) (oh:Ck) (lU:Ck) (xX:Ck) (aA σ:Nat->PV) (H0 H:AH) (f0:Fr UF aA σ) (hf0:HF [] H0 H) (sl:σ 8=(.int .i64 kX)/\σ 10=(.ref (Eo) 0)/\σ 11=(.aB (vk.map bD) oh)/\σ 12=(.int .i64 JH)/\H.obj Eo=some [(.int .i64 HY),(.int .i64 HZ),(.str H7),(.aB (Ia.map aU) .unk),(.aB (Cq.map bD) .unk)]) (LQ:Eo<H.next) (UG:eD H oh) (Jc:eD H lU) (amu:eD H xX) (qQ:qz oh lU) (qR:qz oh xX) (rT:qz lU xX) (o:List Int) (h:En k kX HY HZ H7 Ia Cq vk JH=some o) (Q:Post) (q0: ∀(p:List Int) (c0:Ck) (σ':Nat->PV) (H':AH),o=p->Fr UF aA σ'->HF [] H0 H'->(σ' 11=(.aB (p.map bD) c0))->eD H' lU->eD H' xX->qz lU xX->Q (.exit 4) σ' H'),W Tryz.prog (.loop V8) Q σ H:=by
  intro k
  induction k with
  |zero=>intro Eo kX HY HZ H7 Ia Cq vk JH oh lU xX aA σ H0 H f0 hf0 sl LQ UG Jc amu qQ qR rT o h Q q0;simp only [En,reduceCtorEq]at h
  |succ k ih=>
    intro Eo kX HY HZ H7 Ia Cq vk JH oh lU xX aA σ H0 H f0 hf0 sl LQ UG Jc amu qQ qR rT o h Q q0;obtain⟨s8,s10,s11,s12,ays⟩:=sl;have ayt:=ne_next LQ;have ayu:=aR LQ;have hle0:=hf0.1;unfold En at h;refine bf (fun K hK=>aD ?_);unfold V8;rcases au h with⟨e13,h⟩|⟨e13,h⟩
    ·obtain⟨e14,h⟩:=aL h;obtain⟨x15,e16,h⟩:=aj h;obtain⟨e21,h⟩:=aL h;refine ah ?_
     refine kN (f:=bD) JN vk ([(IntKind.wrap .i64 (x15+kX))]:List Int) oh .exact ak ak eZ (by first|exact e21|(simp only [List.length_cons,List.length_nil];exact e21)) (fun c17 H18 axU le ayv asZ=> ?_);have ayw:HF [] _ H18:=⟨le,fun i _ _=>ayv i⟩;try simp only [AH.aF,AH.aG,AH.aH,AH.aI]at le
     obtain⟨apj,ayx⟩:=asZ lU eZ qQ;obtain⟨apm,ayy⟩:=asZ xX eZ qR;have n28:=ne_next (show Eo<H18.next by first|omega|(simp only [AH.aF,AH.aG,AH.aH,AH.aI];omega));have m29:=aR (show Eo<H18.next by first|omega|(simp only [AH.aF,AH.aG,AH.aH,AH.aI];omega));refine ah ?_
     refine hK _ _ ?_;exact ih Eo kX HY HZ H7 Ia Cq (vk++[(IntKind.wrap .i64 (x15+kX))]) (IntKind.wrap .i64 (JH+1)) c17 lU xX _ _ _ _ aM (by repeat (first|exact hf0|refine HF.new ?_|refine HF.oG ?_|refine HF.used ?_|refine HF.put (by first|(right;omega)|(left;simp only [List.mem_cons,true_or,or_true])) ?_|refine HF.via ayw (by first|exact fun i hi=>absurd hi List.not_mem_nil|(intro i hi;simp only [List.mem_cons,List.not_mem_nil,or_false]at hi⊢;first|exact .inl hi|omega)) ?_)) ak bJ eZ eZ eZ ayx ayy rT _ h _ q0
    ·cases h;refine ah ?_
     exact q0 _ oh _ _ rfl aM oo ak eZ eZ rT
def Ep:Nat->(List (List Nd))->(List Nd)->Int->Int->Int->Option (List Nd)
  |0,_,_,_,_,_=>none
  |k+1,bK,cZ,gy,kX,yu=>
    if 0<=gy then Option.bind (bK[gy.toNat]?) fun x5=>cond (decide (yu<(x5.length:Int))) (if 0<=yu then Option.bind (x5[yu.toNat]?) fun x9=>Option.bind (nC x9.names) fun lW=>Option.bind (En k kX x9.kind x9.n x9.text lW x9.args ([]:List Int) 0) (fun p32=>if(cZ.length+1)*80<=1099511627776 then Ep k bK (cZ++[(Nd.mk x9.kind x9.n x9.text lW p32)]) gy kX (IntKind.wrap .i64 (yu+1))else none)else none) (some (cZ))else none
def UH:List Nat:=[5,9,10,11,12]++List.range' 27 43
theorem adP: ∀(k:Nat) (bK:List (List Nd)) (cZ:List Nd) (gy:Int) (kX:Int) (yu:Int) (pO:Ck) (xY:Ck) (aA σ:Nat->PV) (H0 H:AH) (f0:Fr UH aA σ) (hf0:HF [] H0 H) (sl:σ 1=(.aB (bK.map (Nf Nd.cells)) .unk)/\σ 5=(.aB (cZ.map Nd.cells) pO)/\σ 7=(.int .i64 gy)/\σ 8=(.int .i64 kX)/\σ 9=(.int .i64 yu)) (mD:eD H pO) (Jc:eD H xY) (oD:qz pO xY) (o:List Nd) (h:Ep k bK cZ gy kX yu=some o) (Q:Post) (q0: ∀(p:List Nd) (c0:Ck) (σ':Nat->PV) (H':AH),o=p->Fr UH aA σ'->HF [] H0 H'->(σ' 5=(.aB (p.map Nd.cells) c0))->eD H' c0->eD H' xY->qz c0 xY->Q (.exit 2) σ' H'),W Tryz.prog (.loop V9) Q σ H:=by
  intro k
  induction k with
  |zero=>intro bK cZ gy kX yu pO xY aA σ H0 H f0 hf0 sl mD Jc oD o h Q q0;simp only [Ep,reduceCtorEq]at h
  |succ k ih=>
    intro bK cZ gy kX yu pO xY aA σ H0 H f0 hf0 sl mD Jc oD o h Q q0;obtain⟨s1,s5,s7,s8,s9⟩:=sl;have hle0:=hf0.1;unfold Ep at h;refine bf (fun K hK=>aD ?_);unfold V9;obtain⟨e4,h⟩:=aL h;obtain⟨x5,e6,h⟩:=aj h;rcases au h with⟨e7,h⟩|⟨e7,h⟩
    ·obtain⟨e8,h⟩:=aL h;obtain⟨x9,e10,h⟩:=aj h;obtain⟨lW,e11,h⟩:=aj h;refine ah ?_
     refine av (Bh e11) ?_;refine ah ?_
     obtain⟨o30,h31,h⟩:=aj h;refine adO k (H.next) kX x9.kind x9.n x9.text lW x9.args ([]:List Int) 0 .nil pO xY _ _ _ _ (Fr.refl _ _) (HF.refl _ _) ak bJ eZ eZ eZ qz.nil qz.nil oD _ h31 _ ?_
     ·rintro p32 c36 σ' H35 eo vB acI s37 axK aCq ayz;rw [eo]at h;have s41:σ' 1=(.aB (bK.map (Nf Nd.cells)) .unk):=(vB 1 (by decide)).trans ak;have s42:σ' 5=(.aB (cZ.map Nd.cells) pO):=(vB 5 (by decide)).trans ak;have s43:σ' 7=(.int .i64 gy):=(vB 7 (by decide)).trans ak;have s44:σ' 8=(.int .i64 kX):=(vB 8 (by decide)).trans ak;have s45:σ' 9=(.int .i64 yu):=(vB 9 (by decide)).trans ak;have s46:σ' 10=(.ref (H.next) 0):=(vB 10 (by decide)).trans ak;have le:=acI.1;try simp only [AH.aF,AH.aG,AH.aH,AH.aI]at le
      have g47:H35.obj (H.next)=some [(.int .i64 x9.kind),(.int .i64 x9.n),(.str x9.text),(.aB (lW.map aU) .unk),(.aB (x9.args.map bD) .unk)]:=(acI.2 _ bJ (by first|exact List.not_mem_nil|(simp only [List.mem_cons,List.not_mem_nil,or_false,not_or];omega))).trans ak;have n48:=ne_next (show H.next<H35.next by first|omega|(simp only [AH.aF,AH.aG,AH.aH,AH.aI];omega));have m49:=aR (show H.next<H35.next by first|omega|(simp only [AH.aF,AH.aG,AH.aH,AH.aI];omega));obtain⟨e54,h⟩:=aL h;refine ah ?_
      refine kN (f:=Nd.cells) Nd.row cZ ([(Nd.mk x9.kind x9.n x9.text lW p32)]:List Nd) pO .exact ak ak eZ (by first|exact e54|(simp only [List.length_cons,List.length_nil];exact e54)) (fun c50 H51 apI le ayA ayB=> ?_);have akE:HF [] _ H51:=⟨le,fun i _ _=>ayA i⟩;try simp only [AH.aF,AH.aG,AH.aH,AH.aI]at le
      obtain⟨aje,ayC⟩:=ayB xY eZ ayz;have n59:=ne_next (show H.next<H51.next by first|omega|(simp only [AH.aF,AH.aG,AH.aH,AH.aI];omega));have m60:=aR (show H.next<H51.next by first|omega|(simp only [AH.aF,AH.aG,AH.aH,AH.aI];omega));refine ah ?_
      refine hK _ _ ?_;exact ih bK (cZ++[(Nd.mk x9.kind x9.n x9.text lW p32)]) gy kX (IntKind.wrap .i64 (yu+1)) c50 xY _ _ _ _ (by repeat (first|exact f0|refine Fr.upd (by decide) ?_|refine Fr.via vB (by decide) ?_)) (by repeat (first|exact hf0|refine HF.new ?_|refine HF.oG ?_|refine HF.used ?_|refine HF.put (by first|(right;omega)|(left;simp only [List.mem_cons,true_or,or_true])) ?_|refine HF.via acI (by first|exact fun i hi=>absurd hi List.not_mem_nil|(intro i hi;simp only [List.mem_cons,List.not_mem_nil,or_false]at hi⊢;first|exact .inl hi|omega)) ?_|refine HF.via akE (by first|exact fun i hi=>absurd hi List.not_mem_nil|(intro i hi;simp only [List.mem_cons,List.not_mem_nil,or_false]at hi⊢;first|exact .inl hi|omega)) ?_)) ak eZ eZ ayC _ h _ q0
    ·cases h;refine ah ?_
     exact q0 _ pO _ _ rfl aM oo ak eZ eZ oD
def Er:Nat->(List (List Nd))->(List Nd)->Int->Int->Str->(List Str)->(List Int)->Int->Option (((List Nd)×Int×Int×Str×(List Str)×(List Int)))
  |0,_,_,_,_,_,_,_,_=>none
  |k+1,bK,cZ,FC,FD,FE,FH,Cr,gy=>
    cond (decide (gy<(bK.length:Int))) (Option.bind (Ep k bK cZ gy (cZ.length:Int) 0) (fun p63=>if(Cr.length+1)*8<=1099511627776 then Er k bK p63 FC FD FE FH (Cr++[(IntKind.wrap .i64 ((p63.length:Int) -1))]) (IntKind.wrap .i64 (gy+1))else none)) (some ((cZ,FC,FD,FE,FH,Cr)))
def UJ:List Nat:=[5,7,8,9,10,11,12]++List.range' 19 59
theorem adQ: ∀(k:Nat) (uJ:Nat) (bK:List (List Nd)) (cZ:List Nd) (FC:Int) (FD:Int) (FE:Str) (FH:List Str) (Cr:List Int) (gy:Int) (uK:Ck) (pQ:Ck) (aA σ:Nat->PV) (H0 H:AH) (f0:Fr UJ aA σ) (hf0:HF [uJ] H0 H) (sl:σ 1=(.aB (bK.map (Nf Nd.cells)) .unk)/\σ 5=(.aB (cZ.map Nd.cells) uK)/\σ 6=(.ref (uJ) 0)/\σ 7=(.int .i64 gy)/\H.obj uJ=some [(.int .i64 FC),(.int .i64 FD),(.str FE),(.aB (FH.map aU) .unk),(.aB (Cr.map bD) pQ)]) (PK:uJ<H.next) (mD:eD H uK) (acW:eD H pQ) (qH:qz uK pQ) (o:((List Nd)×Int×Int×Str×(List Str)×(List Int))) (h:Er k bK cZ FC FD FE FH Cr gy=some o) (Q:Post) (q0: ∀(p:(List Nd)×Int×Int×Str×(List Str)×(List Int)) (c0:Ck) (c5:Ck) (σ':Nat->PV) (H':AH),o=p->Fr UJ aA σ'->HF [uJ] H0 H'->(σ' 5=(.aB (p.1.map Nd.cells) c0)/\H'.obj uJ=some [(.int .i64 p.2.1),(.int .i64 p.2.2.1),(.str p.2.2.2.1),(.aB (p.2.2.2.2.1.map aU) .unk),(.aB (p.2.2.2.2.2.map bD) c5)])->eD H' c0->Q (.exit 0) σ' H'),W Tryz.prog (.loop Wh) Q σ H:=by
  intro k
  induction k with
  |zero=>intro uJ bK cZ FC FD FE FH Cr gy uK pQ aA σ H0 H f0 hf0 sl PK mD acW qH o h Q q0;simp only [Er,reduceCtorEq]at h
  |succ k ih=>
    intro uJ bK cZ FC FD FE FH Cr gy uK pQ aA σ H0 H f0 hf0 sl PK mD acW qH o h Q q0;obtain⟨s1,s5,s6,s7,ayZ⟩:=sl;have ay0:=ne_next PK;have ay1:=aR PK;have hle0:=hf0.1;unfold Er at h;refine bf (fun K hK=>aD ?_);unfold Wh;rcases au h with⟨e3,h⟩|⟨e3,h⟩
    ·refine ah ?_
     obtain⟨o61,h62,h⟩:=aj h;refine adP k bK cZ gy (cZ.length:Int) 0 uK pQ _ _ _ _ (Fr.refl _ _) (HF.refl _ _) ak eZ eZ qH _ h62 _ ?_
     ·rintro p63 c67 σ' H66 eo Js akF s69 ajf ajg ayD;rw [eo]at h;have s72:σ' 1=(.aB (bK.map (Nf Nd.cells)) .unk):=(Js 1 (by decide)).trans ak;have s73:σ' 6=(.ref (uJ) 0):=(Js 6 (by decide)).trans ak;have s74:σ' 7=(.int .i64 gy):=(Js 7 (by decide)).trans ak;have le:=akF.1;try simp only [AH.aF,AH.aG,AH.aH,AH.aI]at le
      have g75:H66.obj (uJ)=some [(.int .i64 FC),(.int .i64 FD),(.str FE),(.aB (FH.map aU) .unk),(.aB (Cr.map bD) pQ)]:=(akF.2 _ bJ (by first|exact List.not_mem_nil|(simp only [List.mem_cons,List.not_mem_nil,or_false,not_or];omega))).trans ak;have n76:=ne_next (show uJ<H66.next by first|omega|(simp only [AH.aF,AH.aG,AH.aH,AH.aI];omega));have m77:=aR (show uJ<H66.next by first|omega|(simp only [AH.aF,AH.aG,AH.aH,AH.aI];omega));obtain⟨e82,h⟩:=aL h;refine ah ?_
      refine kN (f:=bD) JN Cr ([(IntKind.wrap .i64 ((p63.length:Int) -1))]:List Int) pQ .exact ak ak eZ (by first|exact e82|(simp only [List.length_cons,List.length_nil];exact e82)) (fun c78 H79 ajh le ayE ayF=> ?_);have ayG:HF [] _ H79:=⟨le,fun i _ _=>ayE i⟩;try simp only [AH.aF,AH.aG,AH.aH,AH.aI]at le
      obtain⟨aCr,ayH⟩:=ayF c67 eZ (qz.symm ayD);have n87:=ne_next (show uJ<H79.next by first|omega|(simp only [AH.aF,AH.aG,AH.aH,AH.aI];omega));have m88:=aR (show uJ<H79.next by first|omega|(simp only [AH.aF,AH.aG,AH.aH,AH.aI];omega));refine ah ?_
      refine hK _ _ ?_;exact ih uJ bK p63 FC FD FE FH (Cr++[(IntKind.wrap .i64 ((p63.length:Int) -1))]) (IntKind.wrap .i64 (gy+1)) c67 c78 _ _ _ _ (by repeat (first|exact f0|refine Fr.upd (by decide) ?_|refine Fr.via Js (by decide) ?_)) (by repeat (first|exact hf0|refine HF.new ?_|refine HF.oG ?_|refine HF.used ?_|refine HF.put (by first|(right;omega)|(left;simp only [List.mem_cons,true_or,or_true])) ?_|refine HF.via akF (by first|exact fun i hi=>absurd hi List.not_mem_nil|(intro i hi;simp only [List.mem_cons,List.not_mem_nil,or_false]at hi⊢;first|exact .inl hi|omega)) ?_|refine HF.via ayG (by first|exact fun i hi=>absurd hi List.not_mem_nil|(intro i hi;simp only [List.mem_cons,List.not_mem_nil,or_false]at hi⊢;first|exact .inl hi|omega)) ?_)) ak bJ eZ eZ (qz.symm ayH) _ h _ q0
    ·cases h;refine ah ?_
     exact q0 _ uK pQ _ _ rfl aM oo ak eZ
def acX (k:Nat) (yY:Nd) (bK:List (List Nd)):Option (List Nd):=
  Option.bind (nC yY.names) fun p2=>Option.bind (Er k bK ([]:List Nd) yY.kind yY.n yY.text p2 ([]:List Int) 0) (fun lX=>if(lX.1.length+1)*80<=1099511627776 then some (lX.1++[(Nd.mk lX.2.1 lX.2.2.1 lX.2.2.2.1 lX.2.2.2.2.1 lX.2.2.2.2.2)])else none)
theorem akG {k:Nat} {yY:Nd} {bK:List (List Nd)} {c1:Ck} {r:List Nd} (h:acX k yY bK=some r):aC Tryz.prog 84 [(.agg (Nd.cells yY)),(.aB (bK.map (Nf Nd.cells)) c1)] (.aB (r.map Nd.cells) .unk):=by
  refine aC.lw (.same (.aB .nil)) (aC.aP (bn.mem (.cons (.agg _ (Nd.pu _)) (.cons (bC (ag7 Nd.pu) _) .nil))) (aK awT (by simp) (aD ?_)) (bC Nd.pu _));unfold acX at h;unfold ap3;obtain⟨p2,e1,h⟩:=aj h;refine ah ?_
  refine av (Bh e1) ?_;refine ah ?_
  obtain⟨o89,h90,h⟩:=aj h;refine adQ k (AH.empty.next+1) bK ([]:List Nd) yY.kind yY.n yY.text p2 ([]:List Int) 0 .nil .nil _ _ _ _ (Fr.refl _ _) (HF.refl _ _) ak bJ eZ eZ qz.nil _ h90 _ ?_
  ·rintro lX c95 c98 σ' H94 eo ajA ajB ⟨s97,g99⟩ aqd;rw [eo]at h;have ajt:σ' 6=(.ref (AH.empty.next+1) 0):=(ajA 6 (by decide)).trans ak;have le:=ajB.1;try simp only [AH.aF,AH.aG,AH.aH,AH.aI]at le
   have n102:=ne_next (show AH.empty.next+1<H94.next by first|omega|(simp only [AH.aF,AH.aG,AH.aH,AH.aI];omega));have aCs:=aR (show AH.empty.next+1<H94.next by first|omega|(simp only [AH.aF,AH.aG,AH.aH,AH.aI];omega));obtain⟨e108,h⟩:=aL h;refine ah ?_
   refine kN (f:=Nd.cells) Nd.row lX.1 ([(Nd.mk lX.2.1 lX.2.2.1 lX.2.2.2.1 lX.2.2.2.2.1 lX.2.2.2.2.2)]:List Nd) c95 .exact ak ak eZ (by first|exact e108|(simp only [List.length_cons,List.length_nil];exact e108)) (fun aCt acY aA1 le auF aA2=> ?_);have aA3:HF [] _ acY:=⟨le,fun i _ _=>auF i⟩;try simp only [AH.aF,AH.aG,AH.aH,AH.aI]at le
   have n111:=ne_next (show AH.empty.next<acY.next by first|omega|(simp only [AH.aF,AH.aG,AH.aH,AH.aI];omega));have aCu:=aR (show AH.empty.next<acY.next by first|omega|(simp only [AH.aF,AH.aG,AH.aH,AH.aI];omega));have n113:=ne_next (show AH.empty.next+1<acY.next by first|omega|(simp only [AH.aF,AH.aG,AH.aH,AH.aI];omega));have aCv:=aR (show AH.empty.next+1<acY.next by first|omega|(simp only [AH.aF,AH.aG,AH.aH,AH.aI];omega));cases h;refine ah ?_
   exact(jB Nd.pu _ _)
def PN (k:Nat) (FI:Str) (bK:List (List Nd)):Option (List Nd):=
  Option.bind (acX k (Nd.mk 3 0 FI [] []) bK) fun p2=>some p2
theorem Y2 {k:Nat} {FI:Str} {bK:List (List Nd)} {c1:Ck} {r:List Nd} (h:PN k FI bK=some r):aC Tryz.prog 88 [(.str FI),(.aB (bK.map (Nf Nd.cells)) c1)] (.aB (r.map Nd.cells) .unk):=by
  refine aC.lw (.same (.aB .nil)) (aC.aP (bn.mem (.cons (.str _) (.cons (bC (ag7 Nd.pu) _) .nil))) (aK awU (by simp) (aD ?_)) (bC Nd.pu _));unfold PN at h;unfold ap4;obtain⟨p2,e1,h⟩:=aj h;refine ah ?_
  refine av (aC.wx (akG e1) (.agg (.same (.same (.same (.aB (.aB .nil))))) (.same .nil))) ?_;cases h;refine ah ?_
  exact(jB Nd.pu _ _)
def agn (k:Nat):Option (List Nd):=
  Option.bind (HV ([97]:Str)) fun p2=>Option.bind (HV ([98]:Str)) fun p4=>Option.bind (HV ([99]:Str)) fun p6=>Option.bind (PN k ([42]:Str) [p4,p6]) fun p8=>Option.bind (PN k ([43]:Str) [p2,p8]) fun jo=>some jo
theorem ae3 {k:Nat} {r:List Nd} (h:agn k=some r):aC Tryz.prog 45 [] (.aB (r.map Nd.cells) .unk):=by
  refine aC.aP (bn.mem .nil) (aK awv (by simp) (aD ?_)) (bC Nd.pu _);unfold agn at h;unfold apz;obtain⟨p2,e1,h⟩:=aj h;refine ah ?_
  refine av (LP e1) ?_;obtain⟨p4,e3,h⟩:=aj h;refine ah ?_
  refine av (LP e3) ?_;obtain⟨p6,e5,h⟩:=aj h;refine ah ?_
  refine av (LP e5) ?_;obtain⟨p8,e7,h⟩:=aj h;refine ah ?_
  refine av (Y2 e7) ?_;obtain⟨jo,e9,h⟩:=aj h;refine ah ?_
  refine av (Y2 e9) ?_;cases h;refine ah ?_
  exact(jB Nd.pu _ _)
end Go.VL
end
section
namespace Go.VL
open Go.Proofs
def LU (k:Nat) (e:List Nd) (out:List Str) (at_:Int) (bO:List Str):Option (List Str):=
  if 0<=at_ then Option.bind (e[at_.toNat]?) fun n=>Option.bind (Je k n) fun b=>cond b (Option.bind (dY k bO n.text) fun c=>cond c (some out) (if(out.length+1)*16<=1099511627776 then some (out++[n.text])else none)) (some out)else none
def amv (e:List Nd) (o0 o1:Nat) (out:List Str) (H:AH):Prop:=o0<H.next/\o1<H.next/\o0≠o1/\H.obj o0=some [jg e]/\ ∃v ids,H.obj o1=some [v]/\aO H aU 1 out v ids/\o0∉ids/\o1∉ids
theorem agp (k:Nat) (e:List Nd) (o0 o1:Nat):Visit 118 [.ref o0 0,.ref o1 0] (amv e o0 o1) (LU k e) where
  stable:=by
    rintro a H H' ⟨h1,h2,h3,h4,v,ids,h5,h6,h7,h8⟩ hn ho hc;exact⟨by omega,by omega,h3,(ho _).trans h4,v,ids,(ho _).trans h5,h6.hf (M:=[]) ⟨hn,fun i _ _=>ho i⟩ (fun _ _ h=>by cases h),h7,h8⟩
  call:=by
    rintro a at_ bO a' H ⟨h1,h2,h3,h4,v,ids,h5,h6,h7,h8⟩ h
    unfold LU at h;by_cases e1:0<=at_
    case neg=>rw [if_neg e1]at h;cases h
    rw [if_pos e1]at h;cases e2:e[at_.toNat]? with
    |none=>rw [Au e2]at h;cases h
    |some n=>
    rw [Av e2]at h;cases e3:Je k n with
    |none=>rw [Au e3]at h;cases h
    |some b=>
    rw [Av e3]at h;refine aK atG (by simp) (aD ?_);unfold ak9;simp -implicitDefEqProofs only [go_sem,h4,e1,e2,List.getElem?_map,Option.map_some];refine av (adN e3) ?_;cases b with
    |false=>
      rw [uO rfl]at h;cases h;simp -implicitDefEqProofs only [go_sem,h4,e1,e2,List.getElem?_map,Option.map_some];exact⟨h1,h2,h3,h4,v,ids,h5,h6,h7,h8⟩
    |true=>
      rw [Ar rfl]at h;cases e4:dY k bO n.text with
      |none=>rw [Au e4]at h;cases h
      |some c=>
      rw [Av e4]at h;simp -implicitDefEqProofs only [go_sem,h4,e1,e2,List.getElem?_map,Option.map_some];refine av (kZ e4) ?_;cases c with
      |true=>
        rw [Ar rfl]at h;cases h;simp -implicitDefEqProofs only [go_sem,h4,e1,e2,List.getElem?_map,Option.map_some];exact⟨h1,h2,h3,h4,v,ids,h5,h6,h7,h8⟩
      |false=>
        rw [uO rfl]at h;by_cases e5:(a.length+1)*16<=1099511627776
        case neg=>rw [if_neg e5]at h;cases h
        rw [if_pos e5]at h;cases h;simp -implicitDefEqProofs only [go_sem,h4,e1,e2,List.getElem?_map,Option.map_some];refine dI ?_;simp -implicitDefEqProofs only [go_sem,h4,h5,e1,e2,List.getElem?_map,Option.map_some];refine ND (f:=aU) uV a [n.text] .exact eH h6 eH (by simp) (by simpa using e5) (fun v' zG H' g1 g2 g3 g4=> ?_);have k0:H'.obj o0=some [jg e]:=(g3.2 o0 h1 h7).trans h4;have k1:H'.obj o1=some [v]:=(g3.2 o1 h2 h8).trans h5;have n0: ¬o0∈zG:=fun hm=>by
          rcases g2 o0 hm with q|q
          · exact h7 q
          · omega
        have n1: ¬o1∈zG:=fun hm=>by
          rcases g2 o1 hm with q|q
          · exact h8 q
          · omega
        have g1':=g1;rcases g1 with⟨_,q,_⟩|⟨id,cap,junk,rfl,rfl,q1,q2,q3,q4⟩
        · simp at q
        · have hid:id≠o1:=fun e=>n1 (by rw [e];exact List.mem_singleton.2 rfl);simp -implicitDefEqProofs only [go_sem,KZ,k1,Nat.le_refl];refine⟨Nat.lt_of_lt_of_le h1 g3.1,Nat.lt_of_lt_of_le h2 g3.1,h3,?_,_,[id],?_,g1'.put n1,n0,n1⟩
          · show(if o0=o1 then _ else H'.obj o0)=_
            rw [if_neg h3];exact k0
          · show(if o1=o1 then _ else H'.obj o1)=_
            rw [if_pos rfl]
end Go.VL
end
section
namespace Go.VL
open Go.Proofs Go.RowKit
section
variable {B:Nat->Prop} {G:Gh} {H:AH} {w w':World}
theorem HM.putRow (hM:HM B H G w) {id b:Nat} {cs cs':List PV} {arr:Array Value} {t:TypeId} (d:Array (List UInt8)) (n:Nat) (os:Array Obj) (ho:H.obj id=some cs) (hm:G.m id=some b) (hb:w.heap[b]? =some (.cells arr t (0,0)))
    (hV:Vs G H.next cs' (Sort.putCells encStr 0 d arr)):HM B (H.put id cs') G (Sort.grow (Sort.putRow encStr (Sort.ahead w n) b 0 d) os)/\Tr B w (Sort.grow (Sort.putRow encStr (Sort.ahead w n) b 0 d) os):=by
  obtain⟨h1,h2⟩:=hM.putObj ho hm hb hV;have hh:(Sort.putRow encStr (Sort.ahead w n) b 0 d).heap=(w.setRow b (Sort.putCells encStr 0 d arr)).heap:=by
    apply Array.ext_getElem?
    intro k;by_cases hk:k=b
    · subst hk;rw [setRow_heap w k arr _ t (0,0) hb];show(w.heap.modify k _)[k]? =_
      rw [Array.getElem?_modify,if_pos rfl,hb];rfl
    · rw [setRow_other w b k _ hk];show(w.heap.modify b _)[k]? =_
      rw [Array.getElem?_modify,if_neg (Ne.symm hk)]
  have hB:Below (w.setRow b (Sort.putCells encStr 0 d arr)).heap.size (w.setRow b (Sort.putCells encStr 0 d arr)) (Sort.grow (Sort.putRow encStr (Sort.ahead w n) b 0 d) os):=by
    refine⟨rfl,rfl,rfl,?_,fun k hk=> ?_⟩
    · rw [Sort.size_grow,hh];exact Nat.le_add_right _ _
    · rw [<-hh]at hk⊢;rw [Sort.heap_grow_old _ _ hk]
  exact⟨h1.below hB,(Tr.setRow h2 _).trans (Tr.below hB)⟩
theorem auG {n:Nat} {s:List UInt8} {v:Value} (h:V G n (.str s) v):v= .string ⟨s.toArray⟩:=by cases h;rfl
theorem amw {n id off len cap sz:Nat} {v:Value} (h:V G n (.dQ id off len cap sz) v): ∃b,id<n/\G.m id=some b/\v= .slice (some ⟨b,off,none⟩) len cap:=by
  cases h with
  |dQ _ _ _ _ _ b h1 h2=>exact⟨b,h1,h2,rfl⟩
theorem Es (l:List Str):(l.map aU).flatten=l.map PV.str:=by
  induction l with
  |nil=>rfl
  |cons s l ih=>rw [List.map_cons,List.flatten_cons,ih];rfl
theorem Y3 {l:List Str} {junk:List PV} {arr:Array Value} {b:Nat} {t:TypeId} (hb:w.heap[b]? =some (.cells arr t (0,0))) (hV:Vs G H.next ((l.map aU).flatten++junk) arr):Sort.Holds encStr w b 0 l.toArray:=by
  intro j hj;have hj':j<l.length:=by simpa using hj
  have hlt:j<arr.size:=by rw [hV.1,List.length_append,Es,List.length_map];omega
  have hv:=auG (hV.2 j (.str l[j]) arr[j] (by rw [Es,List.getElem?_append_left (by simpa using hj')];simp [hj']) (by simp [hlt]));refine⟨?_,?_⟩
  · have:arr[j]? =some arr[j]:=by simp [hlt]
    simp only [World.cell?,hb,Nat.zero_add,this,hv];simp [encStr,hj']
  · simp [World.frozen?,hb]
theorem ais {n:Nat} {l m:List Str} {junk:List PV} {arr:Array Value} (hl:m.length=l.length) (hV:Vs G n ((l.map aU).flatten++junk) arr):Vs G n ((m.map aU).flatten++junk) (Sort.putCells encStr 0 m.toArray arr):=by
  rw [Es]at hV⊢;have hs:=hV.1;rw [List.length_append,List.length_map]at hs;refine⟨by simp [Sort.putCells,hs,hl],fun j c x hc hx=> ?_⟩;simp only [Sort.putCells,Array.getElem?_mapIdx,Option.map_eq_some_iff]at hx;obtain⟨y,hy,rfl⟩:=hx;by_cases hj:j<m.length
  · rw [List.getElem?_append_left (by simpa using hj)]at hc;simp [hj]at hc;subst hc;have h2:0<=j/\j<0+m.toArray.size:=by simpa using hj
    rw [if_pos h2];simp [encStr,hj];exact .str _
  · have h2: ¬(0<=j/\j<0+m.toArray.size):=by simp;omega
    rw [if_neg h2];rw [List.getElem?_append_right (by simp;omega),List.length_map,hl]at hc;refine hV.2 j c y ?_ hy;rw [List.getElem?_append_right (by simp;omega),List.length_map];exact hc
end
def Jf (l:List Str):List Str:=l.mergeSort fun x y=>decide (x<=y)
theorem as2 {H:AH} {l:List Str} {v:PV} {ids:List Nat} (h:aO H aU 1 l v ids) (hl:l.length<4611686018427387904):dU Tryz.prog 66 [v] H fun _ H'=>aO H' aU 1 (Jf l) v ids/\HF ids H H'/\ ∀c,eD H c->eD H' c:=by
  refine⟨⟨_,Tryz.func66,rfl,by kernel_rfl⟩,fun B G w vs hU hM hv=> ?_⟩;obtain⟨u,rfl,hu⟩: ∃u,vs=#[u]/\V G H.next v u:=by
    obtain⟨h1,h2⟩:=hv
    match vs,h1,h2 with
    |⟨[u]⟩,_,h2=>exact⟨u,rfl,h2 0 v u rfl rfl⟩
  rcases h with⟨rfl,rfl,rfl⟩|⟨id,cap,junk,rfl,rfl,h2,h3,h4,h5⟩
  · rw [ZL hu];refine(Tryz.slices_Sort_string_none none 0 w).mono ?_;rintro e w' ⟨rfl,rfl⟩;exact⟨.dR [],_,H,G,rfl,Tr.refl _ _,Ext.refl _ _ _,Nat.le_refl _,hM,.dR [] #[] rfl (fun j c x e=>by simp at e),.inl ⟨rfl,by simp [Jf],rfl⟩,HF.refl _ _,fun _ h=>h⟩
  · obtain⟨b,_,hm,rfl⟩:=amw hu;obtain⟨_,b',arr,t,k1,k2,k3,k4,k5⟩:=hM.obj id _ h4;obtain rfl:b'=b:=by rw [hm]at k1;exact(Option.some.inj k1).symm
    have hlt:=hM.lt k3;refine(Tryz.slices_Sort_string b' 0 cap l w (Y3 k3 k4) hlt hl).mono ?_;rintro e w' ⟨rfl,n,os,rfl⟩;have hlen:(Jf l).length=l.length:=List.length_mergeSort _;obtain⟨e1,e2⟩:=hM.putRow (cs':=((Jf l).map aU).flatten++junk) (Jf l).toArray n os h4 hm k3 (ais hlen k4);refine⟨.dR [],_,H.put id (((Jf l).map aU).flatten++junk),G,rfl,e2,Ext.refl _ _ _,Nat.le_refl _,e1,.dR [] #[] rfl (fun j c x e=>by simp at e),.inr ⟨id,cap,junk,rfl,by rw [hlen],by rw [hlen];exact h2,h3,?_,by rw [hlen];exact h5⟩,HF.put (.inl (List.mem_singleton.2 rfl)) (HF.refl _ _),fun c hc=>hc.put⟩;show(if id=id then some _ else _)=_
    rw [if_pos rfl]
theorem agq (l:List Str):(Lib.compact l).length<=l.length:=Lib.compact_length_le l
theorem agr {H:AH} {l:List Str} {v:PV} {ids:List Nat} (h:aO H aU 1 l v ids) (hl:l.length<4611686018427387904):dU Tryz.prog 119 [v] H fun r H'=>aO H' aU 1 (Lib.compact l) r ids/\HF ids H H'/\ ∀c,eD H c->eD H' c:=by
  refine⟨⟨_,Tryz.func119,rfl,by kernel_rfl⟩,fun B G w vs hU hM hv=> ?_⟩;obtain⟨u,rfl,hu⟩: ∃u,vs=#[u]/\V G H.next v u:=by
    obtain⟨h1,h2⟩:=hv
    match vs,h1,h2 with
    |⟨[u]⟩,_,h2=>exact⟨u,rfl,h2 0 v u rfl rfl⟩
  rcases h with⟨rfl,rfl,rfl⟩|⟨id,cap,junk,rfl,rfl,h2,h3,h4,h5⟩
  · rw [ZL hu];refine(Tryz.slices_Compact_string_empty none 0 w).mono ?_;rintro e w' ⟨rfl,rfl⟩;exact⟨.aB [] .nil,_,H,G,rfl,Tr.refl _ _,Ext.refl _ _ _,Nat.le_refl _,hM,ZL hu▸hu,.inl ⟨rfl,rfl,rfl⟩,HF.refl _ _,fun _ h=>h⟩
  · obtain⟨b,_,hm,rfl⟩:=amw hu;obtain⟨_,b',arr,t,k1,k2,k3,k4,k5⟩:=hM.obj id _ h4;obtain rfl:b'=b:=by rw [hm]at k1;exact(Option.some.inj k1).symm
    refine(Tryz.slices_Compact_string b' 0 cap l w (Y3 k3 k4) (by omega) h2).mono ?_;rintro e w' ⟨rfl,q,rfl⟩;have hc:=agq l;have hlen:(Lib.compact l++List.replicate (l.length -(Lib.compact l).length) []).length=l.length:=by rw [List.length_append,List.length_replicate];omega
    obtain⟨e1,e2⟩:=hM.putRow (cs':=((Lib.compact l++List.replicate (l.length -(Lib.compact l).length) []).map aU).flatten++junk) (Lib.compact l++List.replicate (l.length -(Lib.compact l).length) []).toArray q #[] h4 hm k3 (ais hlen k4);rw [Sort.grow_empty]at e1 e2;refine⟨.dQ id 0 (Lib.compact l).length cap 1,_,H.put id (((Lib.compact l++List.replicate (l.length -(Lib.compact l).length) []).map aU).flatten++junk),G,rfl,e2,Ext.refl _ _ _,Nat.le_refl _,e1,.dQ _ _ _ _ _ b' h3 hm,.inr ⟨id,cap,(List.replicate (l.length -(Lib.compact l).length) ([]:Str)).map PV.str++junk,rfl,rfl,by omega,h3,?_,?_⟩,HF.put (.inl (List.mem_singleton.2 rfl)) (HF.refl _ _),fun c hc=>hc.put⟩
    · show(if id=id then some _ else _)=_
      rw [if_pos rfl,Es,List.map_append,Es,List.append_assoc]
    · rw [List.length_append,List.length_map,List.length_replicate,h5];omega
end Go.VL
end
section
namespace Go.VL
theorem OJ: ∀a b:Str,strLt a b=true↔a<b
  |[],[]=>by simp [strLt]
  |a::x,[]=>by simp [strLt]
  |[],b::y=>by simp [strLt]
  |a::x,b::y=>by
    rw [strLt,List.cons_lt_cons_iff,Bool.or_eq_true,Bool.and_eq_true,decide_eq_true_eq,beq_iff_eq,OJ x y]
theorem ME (a b:Str):a<b\/a=b\/b<a:=by
  rcases List.le_total a b with h|h
  · by_cases e:a=b
    · exact .inr (.inl e)
    · by_cases h2:a<b
      · exact .inl h2
      · exact absurd (List.le_antisymm h (List.not_lt.1 h2)) e
  · by_cases e:a=b
    · exact .inr (.inl e)
    · by_cases h2:b<a
      · exact .inr (.inr h2)
      · exact absurd (List.le_antisymm (List.not_lt.1 h2) h) e
def Ib (s:Str):List Str->List Str
  |[]=>[s]
  |x::l=>if strLt x s=true then x::Ib s l else if x=s then x::l else s::x::l
def Ya (l:List Str):List Str:=l.foldl (fun a s=>Ib s a) []
theorem Sq {s y:Str}: ∀{l:List Str},y∈Ib s l↔y=s\/y∈l
  |[]=>by simp [Ib]
  |x::l=>by
    rw [Ib];split
    · simp only [List.mem_cons,Sq (l:=l)];constructor
      · rintro(h|h|h)<;>simp [h]
      · rintro(h|h|h)<;>simp [h]
    · split
      · rename_i h;subst h;simp
      · simp
theorem acZ {s:Str}: ∀{l:List Str},l.Pairwise (·< ·)->(Ib s l).Pairwise (·< ·)
  |[],_=>by simp [Ib]
  |x::l,h=>by
    rw [Ib];obtain⟨h1,h2⟩:=List.pairwise_cons.1 h;split
    · rename_i hx;refine List.pairwise_cons.2 ⟨fun y hy=> ?_,acZ h2⟩;rcases Sq.1 hy with rfl|hy
      · exact(OJ _ _).1 hx
      · exact h1 y hy
    · rename_i hx;split
      · exact h
      · rename_i hne;have hlt:s<x:=by
          rcases ME s x with h|h|h
          · exact h
          · exact absurd h.symm hne
          · exact absurd ((OJ _ _).2 h) hx
        refine List.pairwise_cons.2 ⟨fun y hy=> ?_,h⟩;rcases List.mem_cons.1 hy with rfl|hy
        · exact hlt
        · exact List.lt_trans hlt (h1 y hy)
theorem Sr: ∀(l a:List Str),a.Pairwise (·< ·)->(l.foldl (fun a s=>Ib s a) a).Pairwise (·< ·)/\ ∀y,y∈l.foldl (fun a s=>Ib s a) a↔y∈l\/y∈a
  |[],a,h=>⟨h,fun y=>by simp⟩
  |s::l,a,h=>by
    obtain⟨h1,h2⟩:=Sr l (Ib s a) (acZ h);refine⟨h1,fun y=> ?_⟩;rw [List.foldl_cons,h2 y,Sq,List.mem_cons];constructor
    · rintro(h|h|h)<;>simp [h]
    · rintro((h|h)|h)<;>simp [h]
theorem akH (l:List Str):(Ya l).Pairwise (·< ·):=(Sr l [] List.Pairwise.nil).1
theorem akI {l:List Str} {y:Str}:y∈Ya l↔y∈l:=by rw [Ya,(Sr l [] List.Pairwise.nil).2 y];simp
theorem akJ {l m:List Str} (hl:l.Pairwise (·< ·)) (hm:m.Pairwise (·< ·)) (h: ∀y,y∈l↔y∈m):l=m:=by
  have nd: ∀{l:List Str},l.Pairwise (·< ·)->l.Nodup:=fun h=>h.imp (S:=fun a b=>a≠b) fun{a b} hab e=>List.lt_irrefl a (by rw [<-e]at hab;exact hab)
  have hp:l.Perm m:=(List.perm_ext_iff_of_nodup (nd hl) (nd hm)).2 h
  exact List.Perm.eq_of_pairwise (le:=(·< ·)) (fun a b _ _ h1 h2=>absurd (List.lt_trans h1 h2) (List.lt_irrefl a)) hl hm hp
theorem Ic (d:Array Str) (hd: ∀i j,i<j->j<d.size->d[i]! <=d[j]!): ∀m,m<=d.size->(Lib.compactUpTo d m).Pairwise (·< ·)/\(∀x∈Lib.compactUpTo d m,∃j,j<m/\x=d[j]!)/\(∀j,j<m->d[j]! ∈Lib.compactUpTo d m)
  |0,_=>⟨List.Pairwise.nil,fun x h=>(by simp [Lib.compactUpTo]at h),fun j h=>absurd h (Nat.not_lt_zero _)⟩
  |m+1,hm=>by
    obtain⟨h1,h2,h3⟩:=Ic d hd m (by omega);rw [Lib.compactUpTo_succ];cases hk:Lib.keeps d m with
    |true=>
      rw [if_pos rfl];refine⟨List.pairwise_append.2 ⟨h1,List.pairwise_singleton _ _,fun a ha b hb=> ?_⟩,fun x hx=> ?_,fun j hj=> ?_⟩
      · rw [List.mem_singleton]at hb;subst hb;obtain⟨j,hj,rfl⟩:=h2 a ha;have hne:d[m]! ≠d[m -1]! :=by
          unfold Lib.keeps at hk;rw [decide_eq_true_eq]at hk;rcases hk with h|h
          · omega
          · exact h
        have h4:d[j]! <=d[m -1]! :=by
          by_cases e:j=m -1
          · rw [e];exact List.le_refl _
          · exact hd j (m -1) (by omega) (by omega)
        have h5:d[m -1]! <=d[m]! :=hd (m -1) m (by omega) (by omega);have h6:d[m -1]! <d[m]! :=by
          rcases ME d[m -1]! d[m]! with h|h|h
          · exact h
          · exact absurd h.symm hne
          · exact absurd (List.le_antisymm h5 (List.le_of_lt h)).symm hne
        rcases ME d[j]! d[m]! with h|h|h
        · exact h
        · rw [h]at h4;exact absurd (List.le_antisymm h4 h5) hne
        · have h7:=List.lt_trans h6 h;exact absurd (List.le_antisymm h4 (List.le_of_lt h7)) (fun e=>List.lt_irrefl _ (e▸h7))
      · rcases List.mem_append.1 hx with hx|hx
        · obtain⟨j,hj,e⟩:=h2 x hx;exact⟨j,by omega,e⟩
        · rw [List.mem_singleton]at hx;exact⟨m,Nat.lt_succ_self _,hx⟩
      · by_cases e:j=m
        · subst e;exact List.mem_append_right _ (List.mem_singleton.2 rfl)
        · exact List.mem_append_left _ (h3 j (by omega))
    |false=>
      rw [if_neg (by simp),List.append_nil];refine⟨h1,fun x hx=> ?_,fun j hj=> ?_⟩
      · obtain⟨j,hj,e⟩:=h2 x hx;exact⟨j,by omega,e⟩
      · by_cases e:j=m
        · subst e;unfold Lib.keeps at hk;rw [decide_eq_false_iff_not,not_or,Decidable.not_not]at hk;rw [hk.2];exact h3 (j -1) (by omega)
        · exact h3 j (by omega)
theorem ac0 (l:List Str):Lib.compact (l.mergeSort fun x y=>decide (x<=y))=Ya l:=by
  have tr: ∀a b c:Str,decide (a<=b)=true->decide (b<=c)=true->decide (a<=c)=true:=fun a b c h1 h2=>by simp only [decide_eq_true_eq]at*;exact List.le_trans h1 h2
  have tot: ∀a b:Str,(decide (a<=b)||decide (b<=a))=true:=fun a b=>by simp only [Bool.or_eq_true,decide_eq_true_eq];exact List.le_total a b
  have hs:=List.pairwise_mergeSort (le:=fun x y:Str=>decide (x<=y)) tr tot l;have hp:=List.mergeSort_perm l (fun x y:Str=>decide (x<=y));generalize(l.mergeSort fun x y=>decide (x<=y))=m at hs hp;have hd: ∀i j,i<j->j<m.toArray.size->m.toArray[i]! <=m.toArray[j]! :=fun i j hij hj=>by
    have hj':j<m.length:=by simpa using hj
    have:=List.pairwise_iff_getElem.1 hs i j (by omega) hj' hij;rw [decide_eq_true_eq]at this;simp [hj',show i<m.length by omega];exact this
  obtain⟨h1,h2,h3⟩:=Ic m.toArray hd m.length (by simp);refine akJ h1 (akH l) fun y=> ?_;rw [akI,<-hp.mem_iff];constructor
  · intro h;obtain⟨j,hj,rfl⟩:=h2 y h;simp [hj]
  · intro h;obtain⟨j,hj,rfl⟩:=List.getElem_of_mem h;have:=h3 j hj;unfold Lib.compact;simpa [hj]using this
end Go.VL
end
section
namespace Go.VL
open Go.Proofs
def ac1 (k:Nat) (e:List Nd):Option (List Str):=
  Option.bind (Fj (LU k e) e k (IntKind.wrap .i64 ((e.length:Int) -1)) [] []) fun out=>if out.length<4611686018427387904 then some (Ya out)else none
theorem akK (k:Nat) (e:List Nd) {c:Ck} {r:List Str} (h:ac1 k e=some r):aC Tryz.prog 68 [.aB (e.map Nd.cells) c] (.aB (r.map aU) .unk):=by
  refine aC.wk (args:=[jg e]) ?_ (.aB .nil);refine aC.aP (bn.mem (.cons (bC Nd.pu _) .nil)) (aK ajf (by simp) (aD ?_)) (bC dw _);unfold ac1 at h;cases e1:Fj (LU k e) e k (IntKind.wrap .i64 ((e.length:Int) -1)) [] []with
  |none=>rw [Au e1]at h;cases h
  |some out=>
  rw [Av e1]at h;by_cases e2:out.length<4611686018427387904
  case neg=>rw [if_neg e2]at h;cases h
  rw [if_pos e2]at h;have h:=Option.some.inj h;subst h;unfold apV;simp -implicitDefEqProofs only [go_sem];have hS:amv e (AH.empty.next) (AH.empty.next+1) [] ((AH.empty.new [jg e]).new [.aB [] .nil]):=by
    refine⟨(show 0<2 by omega),(show 1<2 by omega),by decide,rfl,.aB [] .nil,[],rfl,aO.nil,List.not_mem_nil,List.not_mem_nil⟩
  refine dU.mono (dU.wk (asc (agp k e _ _) e k _ [] [] out _ hS e1) (.same (.same (.aB (.same .nil))))) fun r H1 hS1=> ?_;obtain⟨h1,h2,h3,h4,v,ids,h5,h6,h7,h8⟩:=hS1;simp -implicitDefEqProofs only [go_sem,h5];refine dU.mono (as2 h6 e2) fun r2 H2 ⟨g1,g2,g3⟩=> ?_;have h5':H2.obj (AH.empty.next+1)=some [v]:=(g2.2 _ h2 h8).trans h5;simp -implicitDefEqProofs only [go_sem,h5'];refine dU.mono (agr g1 (by rw [show(Jf out).length=out.length from List.length_mergeSort _];exact e2)) fun r3 H3 ⟨f1,f2,f3⟩=> ?_;simp -implicitDefEqProofs only [go_sem];have hc:Lib.compact (Jf out)=Ya out:=ac0 out;rw [<-hc];exact f1.fz dw
end Go.VL
end
section
set_option maxHeartbeats 4000000
namespace Go.VL
open Go.Proofs
def Sv (k:Nat) (aJ:List Nd):Option ((List Str)×Int):=
  Option.bind (nZ k aJ) fun p2=>cond (p2 !=0) (some ([],p2)) (Option.bind (ac1 k aJ) fun p5=>some (p5,0))
theorem ags {k:Nat} {aJ:List Nd} {c0:Ck} {r:(List Str)×Int} (h:Sv k aJ=some r):aC Tryz.prog 32 [(.aB (aJ.map Nd.cells) c0)] (.dR [(.aB (r.1.map aU) .unk),(.int .i64 r.2)]):=by
  refine aC.lw (.aB .nil) (aC.aP (bn.mem (.cons (bC Nd.pu _) .nil)) (aK ok32 (by simp) (aD ?_)) (.dR _ (bn.mem (.cons (bC dw _) (.cons (.int _ _) .nil)))));unfold Sv at h;unfold apu;obtain⟨p2,e1,h⟩:=aj h;refine ah ?_
  refine av (Qy e1) ?_;rcases au h with⟨e3,h⟩|⟨e3,h⟩
  ·cases h;refine ah ?_
   exact(dJ (.cons (jB dw [] _) (aN .nil)))
  ·obtain⟨p5,e4,h⟩:=aj h;refine ah ?_
   refine av (akK k aJ e4) ?_;cases h;refine ah ?_
   exact(dJ (.cons (jB dw _ _) (aN .nil)))
def Yb (k:Nat):Option Bool:=
  Option.bind (agn k) fun p2=>Option.bind (og k p2) fun p4=>Option.bind (Sv k p2) fun p8=>Option.bind (Hg k ([92,99,100,111,116]:Str)) fun jo=>Option.bind (nI k [(Nd.mk 20 0 [] [] [])]) fun lW=>cond (p4.2==0) (cond (p4.1==([97,32,43,32,98,32,42,32,99]:Str)) (cond (p8.2==0) (Option.bind (sK k p8.1 [([97]:Str),([98]:Str),([99]:Str)]) fun Qm=>cond Qm (cond (jo.2==0) (cond (jo.1.high==14) (cond jo.1.left (cond (lW.2==30) (some (lW.1==0)) (some false)) (some false)) (some false)) (some false)) (some false)) (some false)) (some false)) (some false)
theorem ait {k:Nat} {r:Bool} (h:Yb k=some r):aC Tryz.prog 12 [] (.bool r):=by
  refine aC.aP (bn.mem .nil) (aK awl (by simp) (aD ?_)) (.bool _);unfold Yb at h;unfold ao5;obtain⟨p2,e1,h⟩:=aj h;refine ah ?_
  refine av (ae3 e1) ?_;obtain⟨p4,e3,h⟩:=aj h;refine ah ?_
  refine av (xW e3) ?_;refine ah ?_
  refine av (ae3 e1) ?_;obtain⟨p8,e7,h⟩:=aj h;refine ah ?_
  refine av (ags e7) ?_;obtain⟨jo,e9,h⟩:=aj h;refine ah ?_
  refine av (XY e9) ?_;obtain⟨lW,e11,h⟩:=aj h;refine ah ?_
  refine av (Mv e11) ?_;rcases au h with⟨e13,h⟩|⟨e13,h⟩
  ·rcases au h with⟨e14,h⟩|⟨e14,h⟩
   ·rcases au h with⟨e15,h⟩|⟨e15,h⟩
    ·obtain⟨Qm,e16,h⟩:=aj h;refine ah ?_
     refine av (JY e16) ?_;rcases au h with⟨e18,h⟩|⟨e18,h⟩
     ·rcases au h with⟨e19,h⟩|⟨e19,h⟩
      ·rcases au h with⟨e20,h⟩|⟨e20,h⟩
       ·rcases au h with⟨e21,h⟩|⟨e21,h⟩
        ·rcases au h with⟨e22,h⟩|⟨e22,h⟩
         ·cases h;refine ah ?_
          exact(.pure _ (.bool _))
         ·cases h;refine ah ?_
          exact(.pure _ (.bool _))
        ·cases h;refine ah ?_
         exact(.pure _ (.bool _))
       ·cases h;refine ah ?_
        exact(.pure _ (.bool _))
      ·cases h;refine ah ?_
       exact(.pure _ (.bool _))
     ·cases h;refine ah ?_
      exact(.pure _ (.bool _))
    ·cases h;refine ah ?_
     exact(.pure _ (.bool _))
   ·cases h;refine ah ?_
    exact(.pure _ (.bool _))
  ·cases h;refine ah ?_
   exact(.pure _ (.bool _))
end Go.VL
end
section
namespace Go.VL
open Go.Proofs
theorem agt:Yb 100=some true:=by kernel_rfl
theorem aod:aC Tryz.prog 12 [] (.bool true):=ait agt
end Go.VL
end
section
namespace Go.VL
open Tm
theorem akL {e:List Nd} (h:zS e=true) (hV:Valid e):Good e:=⟨hV.len,fun i n hn=>⟨hV.ok i n hn,by
  obtain⟨h1,h2,h3,h4⟩:=(OI h).2 i n hn;exact⟨h3,h2,h4,h1⟩⟩⟩
theorem Yc (a b:List Int) (hl:a.length<=1099511627776):Ev (fun k=>yH k a b) (decide (a=b)):=by
  unfold yH;by_cases hab:a.length=b.length
  · refine Ev.cF (by simp [hab]) ?_;have key:Ev (fun k=>jT k a b ((0:Nat):Int)) (if a.drop 0=b.drop 0 then .inl ()else .inr false):=by
      refine lq (len:=a.length) (p:=fun i=>Ev (fun k=>jT k a b (i:Int)) (if a.drop i=b.drop i then .inl ()else .inr false)) ?_ fun i hi ih=> ?_
      · refine Ev.succ ?_;simp only [jT];refine Ev.cF (jU _) (Ev.some' ?_);simp [hab]
      · have hi':i<b.length:=hab▸hi;refine Ev.succ ?_;simp only [jT,Int.toNat_natCast,bE hi,bE hi',Option.bind_some,nn,if_true,mh hi,cond_true,eT hi hl];have e1:List.drop i a=a[i]::List.drop (i+1) a:=List.drop_eq_getElem_cons hi;have e2:List.drop i b=b[i]::List.drop (i+1) b:=List.drop_eq_getElem_cons hi';by_cases h:a[i]=b[i]
        · refine Ev.cF (by rw [bne_eq_false_iff_eq];exact h) (ih.to ?_);rw [e1,e2];simp only [h,List.cons.injEq,true_and]
        · refine Ev.cT (by rw [bne_iff_ne];exact h) (Ev.some' ?_);rw [if_neg];intro e;rw [e1,e2,List.cons.injEq]at e;exact h e.1
    refine Ev.bind key ?_;by_cases h:a=b
    · subst h;simp only [if_true,bZ,decide_true];exact Ev.some
    · simp only [List.drop_zero,h,if_false,dn,decide_false];exact Ev.some
  · refine Ev.cT (by simp;omega) (Ev.some' ?_);exact(decide_eq_false fun e=>hab (by rw [e])).symm
theorem ZB (x y:Nd) (h1:x.names.length<=1000000) (h2:x.args.length<=1000000):Ev (fun k=>Bl k x y) (decide (x=y)):=by
  unfold Bl;obtain⟨k1,n1,t1,m1,a1⟩:=x;obtain⟨k2,n2,t2,m2,a2⟩:=y;simp only at h1 h2;simp only [Nd.mk.injEq];by_cases e1:k1=k2
  · refine Ev.cT (by rw [beq_iff_eq];exact e1) ?_;by_cases e2:n1=n2
    · refine Ev.cT (by rw [beq_iff_eq];exact e2) ?_;by_cases e3:t1=t2
      · refine Ev.cT (by rw [beq_iff_eq];exact e3) (Ev.bind (TB m1 m2 (by omega)) ?_);by_cases e4:m1=m2
        · refine Ev.cT (decide_eq_true e4) (Ev.bind (Yc a1 a2 (by omega)) (Ev.some' ?_));simp [e1,e2,e3,e4]
        · exact Ev.cF (decide_eq_false e4) (Ev.some' (by simp [e4]))
      · exact Ev.cF (by rw [beq_eq_false_iff_ne];exact e3) (Ev.some' (by simp [e3]))
    · exact Ev.cF (by rw [beq_eq_false_iff_ne];exact e2) (Ev.some' (by simp [e2]))
  · exact Ev.cF (by rw [beq_eq_false_iff_ne];exact e1) (Ev.some' (by simp [e1]))
theorem ZC {a b:List Nd} (hL:Bq a):Ev (fun k=>xG k a b) (decide (a=b)):=by
  have hl:=hL.len;unfold xG;by_cases hab:a.length=b.length
  · refine Ev.cF (by simp [hab]) ?_;have key:Ev (fun k=>lg k a b ((0:Nat):Int)) (if a.drop 0=b.drop 0 then .inl ()else .inr false):=by
      refine lq (len:=a.length) (p:=fun i=>Ev (fun k=>lg k a b (i:Int)) (if a.drop i=b.drop i then .inl ()else .inr false)) ?_ fun i hi ih=> ?_
      · refine Ev.succ ?_;simp only [lg];refine Ev.cF (jU _) (Ev.some' ?_);simp [hab]
      · have hi':i<b.length:=hab▸hi;refine Ev.succ ?_;obtain⟨_,h2,h3⟩:=hL.nd i _ (bE hi);simp only [lg,Int.toNat_natCast,bE hi,bE hi',Option.bind_some,nn,if_true,mh hi,cond_true,eT hi (show a.length<=1099511627776 by omega)];have e1:List.drop i a=a[i]::List.drop (i+1) a:=List.drop_eq_getElem_cons hi;have e2:List.drop i b=b[i]::List.drop (i+1) b:=List.drop_eq_getElem_cons hi';refine Ev.bind (ZB _ _ h2 h3) ?_;by_cases h:a[i]=b[i]
        · refine Ev.cT (decide_eq_true h) (ih.to ?_);rw [e1,e2];simp only [h,List.cons.injEq,true_and]
        · refine Ev.cF (decide_eq_false h) (Ev.some' ?_);rw [if_neg];intro e;rw [e1,e2,List.cons.injEq]at e;exact h e.1
    refine Ev.bind key ?_;by_cases h:a=b
    · subst h;simp only [if_true,bZ,decide_true];exact Ev.some
    · simp only [List.drop_zero,h,if_false,dn,decide_false];exact Ev.some
  · refine Ev.cT (by simp;omega) (Ev.some' ?_);exact(decide_eq_false fun e=>hab (by rw [e])).symm
end Go.VL
end
section
set_option maxHeartbeats 4000000
namespace Go.VL
open Go.Proofs
def xk (UK:Str) (OL:Int) (UL:Int) (UM:Int) (UN:Bool) (UO:Int) (UQ:Int) (ac2:Bool) (wZ:Bool):Option Bool:=
  cond wZ (some (true)) (cond ac2 (some ((OL==2))) (some (true)))
def MO:List Nat:=List.range' 21 8
theorem Yd: ∀(UR:Nat) (UK:Str) (OL:Int) (UL:Int) (UM:Int) (UN:Bool) (UO:Int) (UQ:Int) (ac2:Bool) (wZ:Bool) (aA σ:Nat->PV) (H:AH) (f0:Fr MO aA σ) (sl:σ 4=(.ref (UR) 0)/\σ 5=(.bool ac2)/\σ 20=(.bool wZ)/\H.obj UR=some [(.str UK),(.int .i64 OL),(.int .i64 UL),(.int .i64 UM),(.bool UN),(.int .i64 UO),(.int .i64 UQ)]) (Sw:UR<H.next) (o:Bool) (h:xk UK OL UL UM UN UO UQ ac2 wZ=some o) (Q:Post) (q0: ∀(p:Bool) (σ':Nat->PV),o=p->Fr MO aA σ'->(σ' 28=(.bool p))->Q .normal σ' H),dD Tryz.prog Vn (Q .normal) σ H:=by
  intro UR UK OL UL UM UN UO UQ ac2 wZ aA σ H f0 sl Sw o h Q q0;obtain⟨s4,s5,s20,ayI⟩:=sl;have ayJ:=ne_next Sw;have ayK:=aR Sw;unfold xk at h;refine dB ?_;unfold Vn;rcases au h with⟨e8,h⟩|⟨e8,h⟩
  ·cases h;refine ah ?_
   exact q0 _ _ rfl aM ak
  ·rcases au h with⟨e9,h⟩|⟨e9,h⟩
   ·cases h;refine ah ?_
    exact q0 _ _ rfl aM ak
   ·cases h;refine ah ?_
    exact q0 _ _ rfl aM ak
def qI:Nat->(List Nd)->Option Bool
  |0,_=>none
  |k+1,aJ=>
    Option.bind (yJ aJ) fun p2=>Option.bind (CX p2.kind) fun p4=>cond p4 (some (true)) (Option.bind (qA k p2.text) fun p7=>Option.bind (xk p7.1.text p7.1.fix p7.1.low p7.1.high p7.1.left p7.1.least p7.1.most p7.2 (p2.kind !=3)) (fun lW=>cond lW (some (false)) (Option.bind (Ag k aJ (IntKind.wrap .i64 ((p2.args.length:Int) -1))) fun tC=>qI k tC)))
def MP:List Nat:=[0]++List.range' 2 33
theorem Ye: ∀(k:Nat) (aJ:List Nd) (aA σ:Nat->PV) (H0 H:AH) (f0:Fr MP aA σ) (hf0:HF [] H0 H) (sl:σ 0=(.aB (aJ.map Nd.cells) .unk)) (o:Bool) (h:qI k aJ=some o) (Q:Post) (q0: ∀(p:Bool) (σ':Nat->PV) (H':AH),o=p->Fr MP aA σ'->HF [] H0 H'->(σ' 2=(.bool p))->Q .ret σ' H'),W Tryz.prog (.loop Vo) Q σ H:=by
  intro k
  induction k with
  |zero=>intro aJ aA σ H0 H f0 hf0 sl o h Q q0;simp only [qI,reduceCtorEq]at h
  |succ k ih=>
    intro aJ aA σ H0 H f0 hf0 sl o h Q q0;have s0:=sl;have hle0:=hf0.1;unfold qI at h;refine bf (fun K hK=>aD ?_);unfold Vo;obtain⟨p2,e1,h⟩:=aj h;refine ah ?_
    refine av (Lc e1) ?_;obtain⟨p4,e3,h⟩:=aj h;refine ah ?_
    refine av (TA e3) ?_;rcases au h with⟨e5,h⟩|⟨e5,h⟩
    ·cases h;refine ah ?_
     exact q0 _ _ _ rfl aM oo ak
    ·obtain⟨p7,e6,h⟩:=aj h;refine ah ?_
     refine av (CP e6) ?_;refine ah ?_
     obtain⟨o10,h11,h⟩:=aj h;refine Yd (H.next+1) p7.1.text p7.1.fix p7.1.low p7.1.high p7.1.left p7.1.least p7.1.most p7.2 (p2.kind !=3) _ _ _ (Fr.refl _ _) ak bJ _ h11 _ ?_
     ·rintro lW σ' eo vS s16;rw [eo]at h;have s17:σ' 0=(.aB (aJ.map Nd.cells) .unk):=(vS 0 (by decide)).trans ak;have qB:σ' 3=(.ref (H.next) 0):=(vS 3 (by decide)).trans ak;rcases au h with⟨e19,h⟩|⟨e19,h⟩
      ·cases h;refine ah ?_
       exact q0 _ _ _ rfl (by repeat (first|exact f0|refine Fr.upd (by decide) ?_|refine Fr.via vS (by decide) ?_)) oo ak
      ·obtain⟨tC,e20,h⟩:=aj h;refine ah ?_
       refine av (QI e20) ?_;refine ah ?_
       refine hK _ _ ?_;exact ih tC _ _ _ _ (by repeat (first|exact f0|refine Fr.upd (by decide) ?_|refine Fr.via vS (by decide) ?_)) oo ak _ h _ q0
def Jg (k:Nat) (aJ:List Nd):Option Bool:=
  Option.bind (qI k aJ) (fun mg=>some mg)
theorem adR {k:Nat} {aJ:List Nd} {c0:Ck} {r:Bool} (h:Jg k aJ=some r):aC Tryz.prog 25 [(.aB (aJ.map Nd.cells) c0)] (.bool r):=by
  refine aC.lw (.aB .nil) (aC.aP (bn.mem (.cons (bC Nd.pu _) .nil)) (aK awq (by simp) (aD ?_)) (.bool _));unfold Jg at h;unfold apn;refine ah ?_
  obtain⟨o22,h23,h⟩:=aj h;refine Ye k aJ _ _ _ _ (Fr.refl _ _) (HF.refl _ _) ak _ h23 _ ?_
  ·rintro mg σ' Tp eo Ns Jr s28;rw [eo]at h;have le:=Jr.1;try simp only [AH.aF,AH.aG,AH.aH,AH.aI]at le
   cases h;refine ah ?_
   exact(.pure _ (.bool _))
def jQ (k:Nat) (a_0:List Nd) (b_1:List Nd) (Gx:Bool):Option Bool:=
  cond Gx (some (true)) (Option.bind (O9 k b_1) fun p5=>cond p5 (Option.bind (Bg k a_0) fun p8=>cond (p8 !=0) (some (true)) (Option.bind (Bg k b_1) fun mQ=>some ((mQ !=0)))) (some (true)))
def ES:List Nat:=List.range' 23 14
theorem OM (k:Nat): ∀(a_0:List Nd) (b_1:List Nd) (Gx:Bool) (aA σ:Nat->PV) (H:AH) (f0:Fr ES aA σ) (sl:σ 0=(.aB (a_0.map Nd.cells) .unk)/\σ 1=(.aB (b_1.map Nd.cells) .unk)/\σ 22=(.bool Gx)) (o:Bool) (h:jQ k a_0 b_1 Gx=some o) (Q:Post) (q0: ∀(p:Bool) (σ':Nat->PV),o=p->Fr ES aA σ'->(σ' 36=(.bool p))->Q .normal σ' H),dD Tryz.prog aaw (Q .normal) σ H:=by
  intro a_0 b_1 Gx aA σ H f0 sl o h Q q0;obtain⟨s0,s1,s22⟩:=sl;unfold jQ at h;refine dB ?_;unfold aaw;rcases au h with⟨e3,h⟩|⟨e3,h⟩
  ·cases h;refine ah ?_
   exact q0 _ _ rfl aM ak
  ·obtain⟨p5,e4,h⟩:=aj h;refine ah ?_
   refine av (aee e4) ?_;rcases au h with⟨e6,h⟩|⟨e6,h⟩
   ·obtain⟨p8,e7,h⟩:=aj h;refine ah ?_
    refine av (Xi e7) ?_;rcases au h with⟨e9,h⟩|⟨e9,h⟩
    ·cases h;refine ah ?_
     exact q0 _ _ rfl aM ak
    ·obtain⟨mQ,e10,h⟩:=aj h;refine ah ?_
     refine av (Xi e10) ?_;cases h;refine ah ?_
     exact q0 _ _ rfl aM ak
   ·cases h;refine ah ?_
    exact q0 _ _ rfl aM ak
def ng (f_8:Int) (ac3:Bool):Option Bool:=
  cond ac3 (some (true)) (some ((f_8 !=0)))
theorem OO: ∀(f_8:Int) (ac3:Bool) (aA σ:Nat->PV) (H:AH) (f0:Fr [52,53,54] aA σ) (sl:σ 8=(.int .i64 f_8)/\σ 51=(.bool ac3)) (o:Bool) (h:ng f_8 ac3=some o) (Q:Post) (q0: ∀(p:Bool) (σ':Nat->PV),o=p->Fr [52,53,54] aA σ'->(σ' 54=(.bool p))->Q .normal σ' H),dD Tryz.prog aax (Q .normal) σ H:=by
  intro f_8 ac3 aA σ H f0 sl o h Q q0;obtain⟨s8,s51⟩:=sl;unfold ng at h;refine dB ?_;unfold aax;rcases au h with⟨e30,h⟩|⟨e30,h⟩
  ·cases h;refine ah ?_
   exact q0 _ _ rfl aM ak
  ·cases h;refine ah ?_
   exact q0 _ _ rfl aM ak
def qJ (e_6:Int) (ac4:Bool):Option Bool:=
  cond ac4 (some (true)) (some ((e_6==2)))
theorem OP: ∀(e_6:Int) (ac4:Bool) (aA σ:Nat->PV) (H:AH) (f0:Fr [58,59,60] aA σ) (sl:σ 6=(.int .i64 e_6)/\σ 57=(.bool ac4)) (o:Bool) (h:qJ e_6 ac4=some o) (Q:Post) (q0: ∀(p:Bool) (σ':Nat->PV),o=p->Fr [58,59,60] aA σ'->(σ' 60=(.bool p))->Q .normal σ' H),dD Tryz.prog aay (Q .normal) σ H:=by
  intro e_6 ac4 aA σ H f0 sl o h Q q0;obtain⟨s6,s57⟩:=sl;unfold qJ at h;refine dB ?_;unfold aay;rcases au h with⟨e44,h⟩|⟨e44,h⟩
  ·cases h;refine ah ?_
   exact q0 _ _ rfl aM ak
  ·cases h;refine ah ?_
   exact q0 _ _ rfl aM ak
def iw:Nat->Str->Str->Bool->Int->Option Bool
  |0,_,_,_,_=>none
  |k+1,tK,Ct,xq,yB=>
    cond (decide ((IntKind.wrap .i64 (yB+(Ct.length:Int)))<=(tK.length:Int))) (cond xq (some (xq)) (if 0<=yB/\yB<=(IntKind.wrap .i64 (yB+(Ct.length:Int)))/\(IntKind.wrap .i64 (yB+(Ct.length:Int))).toNat<=tK.length then iw k tK Ct (((tK.take (IntKind.wrap .i64 (yB+(Ct.length:Int))).toNat).drop yB.toNat)==Ct) (IntKind.wrap .i64 (yB+1))else none)) (some (xq))
def ET:List Nat:=[15,16]++List.range' 93 22
theorem OQ: ∀(k:Nat) (tK:Str) (Ct:Str) (xq:Bool) (yB:Int) (aA σ:Nat->PV) (H:AH) (f0:Fr ET aA σ) (sl:σ 5=(.str tK)/\σ 13=(.str Ct)/\σ 15=(.bool xq)/\σ 16=(.int .i64 yB)) (o:Bool) (h:iw k tK Ct xq yB=some o) (Q:Post) (q0: ∀(p:Bool) (σ':Nat->PV),o=p->Fr ET aA σ'->(σ' 15=(.bool p))->Q (.exit 2) σ' H),W Tryz.prog (.loop aaz) Q σ H:=by
  intro k
  induction k with
  |zero=>intro tK Ct xq yB aA σ H f0 sl o h Q q0;simp only [iw,reduceCtorEq]at h
  |succ k ih=>
    intro tK Ct xq yB aA σ H f0 sl o h Q q0;obtain⟨s5,s13,s15,s16⟩:=sl;unfold iw at h;refine bf (fun K hK=>aD ?_);unfold aaz;rcases au h with⟨Yr,h⟩|⟨Yr,h⟩
    ·rcases au h with⟨e72,h⟩|⟨e72,h⟩
     ·cases h;refine ah ?_
      exact q0 _ _ rfl aM ak
     ·obtain⟨Qn,h⟩:=aL h;refine ah ?_
      refine hK _ _ ?_;exact ih tK Ct (((tK.take (IntKind.wrap .i64 (yB+(Ct.length:Int))).toNat).drop yB.toNat)==Ct) (IntKind.wrap .i64 (yB+1)) _ _ _ aM ak _ h _ q0
    ·cases h;refine ah ?_
     exact q0 _ _ rfl aM ak
def fI:Nat->(List Nd)->Str->Int->Int->Str->(List Str)->(List Int)->Int->Int->Option (Int⊕Bool)
  |0,_,_,_,_,_,_,_,_,_=>none
  |k+1,a_0,tK,Cu,Cv,Cw,Cx,zq,xZ,Cy=>
    cond (decide (Cy<(zq.length:Int))) (Option.bind (Ag k a_0 Cy) fun p62=>Option.bind (Bg k p62) fun p64=>cond (p64 !=0) (some (.inr (true))) (Option.bind (wo k p62) fun p67=>Option.bind (og k p67) fun p69=>cond (p69.2 !=0) (some (.inr (false))) (Option.bind (iw k tK p69.1 false 0) (fun Us=>cond Us (Option.bind (Iq false) fun JW=>fI k a_0 tK Cu Cv Cw Cx zq (IntKind.wrap .i64 (xZ+JW)) (IntKind.wrap .i64 (Cy+1))) (Option.bind (yJ p62) fun lX=>Option.bind (CX lX.kind) fun p93=>cond p93 (Option.bind (Iq false) fun p96=>fI k a_0 tK Cu Cv Cw Cx zq (IntKind.wrap .i64 (xZ+p96)) (IntKind.wrap .i64 (Cy+1))) (Option.bind (Jg k p62) fun p98=>Option.bind (Iq (!p98)) fun K7=>fI k a_0 tK Cu Cv Cw Cx zq (IntKind.wrap .i64 (xZ+K7)) (IntKind.wrap .i64 (Cy+1)))))))) (some (.inl xZ))
def yC:List Nat:=[4]++List.range' 10 7++List.range' 72 60
theorem OT: ∀(k:Nat) (FJ:Nat) (a_0:List Nd) (tK:Str) (Cu:Int) (Cv:Int) (Cw:Str) (Cx:List Str) (zq:List Int) (xZ:Int) (Cy:Int) (aA σ:Nat->PV) (H:AH) (f0:Fr yC aA σ) (sl:σ 0=(.aB (a_0.map Nd.cells) .unk)/\σ 5=(.str tK)/\σ 9=(.ref (FJ) 0)/\σ 10=(.int .i64 xZ)/\σ 11=(.int .i64 Cy)/\H.obj FJ=some [(.int .i64 Cu),(.int .i64 Cv),(.str Cw),(.aB (Cx.map aU) .unk),(.aB (zq.map bD) .unk)]) (PO:FJ<H.next) (o:Int⊕Bool) (h:fI k a_0 tK Cu Cv Cw Cx zq xZ Cy=some o) (Q:Post) (q0: ∀(p:Int) (σ':Nat->PV),o= .inl p->Fr yC aA σ'->(σ' 10=(.int .i64 p))->Q (.exit 0) σ' H) (q1: ∀(p:Bool) (σ':Nat->PV),o= .inr (p)->Fr yC aA σ'->(σ' 4=(.bool p))->Q .ret σ' H),W Tryz.prog (.loop aaA) Q σ H:=by
  intro k
  induction k with
  |zero=>intro FJ a_0 tK Cu Cv Cw Cx zq xZ Cy aA σ H f0 sl PO o h Q q0 q1;simp only [fI,reduceCtorEq]at h
  |succ k ih=>
    intro FJ a_0 tK Cu Cv Cw Cx zq xZ Cy aA σ H f0 sl PO o h Q q0 q1;obtain⟨s0,s5,s9,s10,s11,ay2⟩:=sl;have ay3:=ne_next PO;have ay4:=aR PO;unfold fI at h;refine bf (fun K hK=>aD ?_);unfold aaA;rcases au h with⟨e60,h⟩|⟨e60,h⟩
    ·obtain⟨p62,e61,h⟩:=aj h;refine ah ?_
     refine av (QI e61) ?_;obtain⟨p64,e63,h⟩:=aj h;refine ah ?_
     refine av (Xi e63) ?_;rcases au h with⟨e65,h⟩|⟨e65,h⟩
     ·cases h;refine ah ?_
      exact q1 _ _ rfl aM ak
     ·obtain⟨p67,e66,h⟩:=aj h;refine ah ?_
      refine av (Jv e66) ?_;obtain⟨p69,e68,h⟩:=aj h;refine ah ?_
      refine av (xW e68) ?_;rcases au h with⟨YB,h⟩|⟨YB,h⟩
      ·cases h;refine ah ?_
       exact q1 _ _ rfl aM ak
      ·refine ah ?_
       obtain⟨o74,h75,h⟩:=aj h;refine OQ k tK p69.1 false 0 _ _ _ (Fr.refl _ _) ak _ h75 _ ?_
       ·rintro Us σ' eo LV s80;rw [eo]at h;have s81:σ' 0=(.aB (a_0.map Nd.cells) .unk):=(LV 0 (by decide)).trans ak;have s82:σ' 5=(.str tK):=(LV 5 (by decide)).trans ak;have s83:σ' 9=(.ref (FJ) 0):=(LV 9 (by decide)).trans ak;have s84:σ' 10=(.int .i64 xZ):=(LV 10 (by decide)).trans ak;have s85:σ' 11=(.int .i64 Cy):=(LV 11 (by decide)).trans ak;have s86:σ' 12=(.aB (p62.map Nd.cells) .unk):=(LV 12 (by decide)).trans ak;rcases au h with⟨e87,h⟩|⟨e87,h⟩
        ·obtain⟨JW,Nk,h⟩:=aj h;refine ah ?_
         refine av (JO Nk) ?_;refine ah ?_
         refine hK _ _ ?_;exact ih FJ a_0 tK Cu Cv Cw Cx zq (IntKind.wrap .i64 (xZ+JW)) (IntKind.wrap .i64 (Cy+1)) _ _ _ (by repeat (first|exact f0|refine Fr.upd (by decide) ?_|refine Fr.via LV (by decide) ?_)) ak bJ _ h _ q0 q1
        ·obtain⟨lX,Tf,h⟩:=aj h;refine ah ?_
         refine av (Lc Tf) ?_;obtain⟨p93,e92,h⟩:=aj h;refine ah ?_
         refine av (TA e92) ?_;rcases au h with⟨e94,h⟩|⟨e94,h⟩
         ·obtain⟨p96,e95,h⟩:=aj h;refine ah ?_
          refine av (JO e95) ?_;refine ah ?_
          refine hK _ _ ?_;exact ih FJ a_0 tK Cu Cv Cw Cx zq (IntKind.wrap .i64 (xZ+p96)) (IntKind.wrap .i64 (Cy+1)) _ _ _ (by repeat (first|exact f0|refine Fr.upd (by decide) ?_|refine Fr.via LV (by decide) ?_)) ak bJ _ h _ q0 q1
         ·obtain⟨p98,e97,h⟩:=aj h;refine ah ?_
          refine av (adR e97) ?_;obtain⟨K7,e99,h⟩:=aj h;refine ah ?_
          refine av (JO e99) ?_;refine ah ?_
          refine hK _ _ ?_;exact ih FJ a_0 tK Cu Cv Cw Cx zq (IntKind.wrap .i64 (xZ+K7)) (IntKind.wrap .i64 (Cy+1)) _ _ _ (by repeat (first|exact f0|refine Fr.upd (by decide) ?_|refine Fr.via LV (by decide) ?_)) ak bJ _ h _ q0 q1
    ·cases h;refine ah ?_
     exact q0 _ _ rfl aM ak
def zu (k:Nat) (a_0:List Nd) (b_1:List Nd):Option Bool:=
  Option.bind (O9 k a_0) fun p2=>Option.bind (jQ k a_0 b_1 (!p2)) (fun jq=>cond jq (some true) (Option.bind (wo k a_0) fun EO=>Option.bind (og k EO) fun p25=>Option.bind (wo k b_1) fun p27=>Option.bind (og k p27) fun p29=>Option.bind (ng p29.2 (p25.2 !=0)) (fun p33=>cond p33 (Option.bind (qJ p25.2 (p25.2==0)) (fun p47=>some p47)) (cond (p25.1==p29.1) (Option.bind (xG k a_0 b_1) fun p54=>some p54) (Option.bind (xG k a_0 b_1) fun p56=>cond p56 (some false) (Option.bind (yJ a_0) fun p59=>Option.bind (fI k a_0 p25.1 p59.kind p59.n p59.text p59.names p59.args 0 0) (fun o=>Sum.elim (fun as4=>some (as4==0)) (fun as5=>some as5) o)))))))
theorem UU {k:Nat} {a_0:List Nd} {b_1:List Nd} {c0 c1:Ck} {r:Bool} (h:zu k a_0 b_1=some r):aC Tryz.prog 5 [(.aB (a_0.map Nd.cells) c0),(.aB (b_1.map Nd.cells) c1)] (.bool r):=by
  refine aC.lw (.aB (.aB .nil)) (aC.aP (bn.mem (.cons (bC Nd.pu _) (.cons (bC Nd.pu _) .nil))) (aK ok5 (by simp) (aD ?_)) (.bool _));unfold zu at h;unfold ac5;refine ah ?_
  refine av (aod) ?_;obtain⟨p2,e1,h⟩:=aj h;refine ah ?_
  refine av (aee e1) ?_;refine ah ?_
  obtain⟨o12,Nn,h⟩:=aj h;refine OM k a_0 b_1 (!p2) _ _ _ (Fr.refl _ _) ak _ Nn _ ?_
  ·rintro jq σ' eo vv qB;rw [eo]at h;have qM:σ' 0=(.aB (a_0.map Nd.cells) .unk):=(vv 0 (by decide)).trans ak;have s20:σ' 1=(.aB (b_1.map Nd.cells) .unk):=(vv 1 (by decide)).trans ak;rcases au h with⟨e21,h⟩|⟨e21,h⟩
   ·cases h;refine ah ?_
    exact(.pure _ (.bool _))
   ·obtain⟨EO,e22,h⟩:=aj h;refine ah ?_
    refine av (Jv e22) ?_;obtain⟨p25,e24,h⟩:=aj h;refine ah ?_
    refine av (xW e24) ?_;obtain⟨p27,e26,h⟩:=aj h;refine ah ?_
    refine av (Jv e26) ?_;obtain⟨p29,e28,h⟩:=aj h;refine ah ?_
    refine av (xW e28) ?_;refine ah ?_
    obtain⟨o31,h32,h⟩:=aj h;refine OO p29.2 (p25.2 !=0) _ _ _ (Fr.refl _ _) ak _ h32 _ ?_
    ·rintro p33 σ' eo ac6 s37;rw [eo]at h;have s38:σ' 0=(.aB (a_0.map Nd.cells) .unk):=(ac6 0 (by decide)).trans ak;have s39:σ' 1=(.aB (b_1.map Nd.cells) .unk):=(ac6 1 (by decide)).trans ak;have s40:σ' 5=(.str p25.1):=(ac6 5 (by decide)).trans ak;have s41:σ' 6=(.int .i64 p25.2):=(ac6 6 (by decide)).trans ak;have s42:σ' 7=(.str p29.1):=(ac6 7 (by decide)).trans ak;rcases au h with⟨e43,h⟩|⟨e43,h⟩
     ·refine ah ?_
      obtain⟨o45,h46,h⟩:=aj h;refine OP p25.2 (p25.2==0) _ _ _ (Fr.refl _ _) ak _ h46 _ ?_
      ·rintro p47 σ' eo aCw s51;rw [eo]at h;cases h;refine ah ?_
       exact(.pure _ (.bool _))
     ·rcases au h with⟨e52,h⟩|⟨e52,h⟩
      ·obtain⟨p54,e53,h⟩:=aj h;refine ah ?_
       refine av (NA e53) ?_;cases h;refine ah ?_
       exact(.pure _ (.bool _))
      ·obtain⟨p56,e55,h⟩:=aj h;refine ah ?_
       refine av (NA e55) ?_;rcases au h with⟨e57,h⟩|⟨e57,h⟩
       ·cases h;refine ah ?_
        exact(.pure _ (.bool _))
       ·obtain⟨p59,e58,h⟩:=aj h;refine ah ?_
        refine av (Lc e58) ?_;refine ah ?_
        obtain⟨aCx,ayL,h⟩:=aj h;refine OT k (AH.empty.next) a_0 p25.1 p59.kind p59.n p59.text p59.names p59.args 0 0 _ _ _ (Fr.refl _ _) ak bJ _ ayL _ ?_ ?_
        ·rintro as4 σ' eo aA4 aCy;subst eo;rw [bZ]at h;cases h;refine ah ?_
         exact(.pure _ (.bool _))
        ·rintro as5 σ' eo aA5 aCz;subst eo;rw [dn]at h;cases h;refine ah ?_
         exact(.pure _ (.bool _))
end Go.VL
end
section
namespace Go.VL
open Tm
theorem aoe {e:List Nd} {b:Nat} {c:Tm} (h:zS e=true) (hS:Seg e b c):zS (flat 0 c)=true:=by
  have hlt:=hS.lt;obtain⟨pre,post,rfl,rfl⟩:=hS;have hl:=(OI h).1;have hN: ∀n∈pre++(flat pre.length c++post),JG n=true:=by
    unfold zS at h;simp only [Bool.and_eq_true,decide_eq_true_eq]at h;rw [List.take_of_length_le (by omega)]at h;exact List.all_eq_true.1 h.1
  unfold zS;simp only [Bool.and_eq_true,decide_eq_true_eq];refine⟨List.all_eq_true.2 fun n hn=> ?_,by rw [ig];omega⟩;have hn:=List.mem_of_mem_take hn;have hf:=PI pre.length c 0;rw [Nat.zero_add]at hf;rw [<-hf]at hn;obtain⟨m,hm,rfl⟩:=List.mem_map.1 hn;have:=hN m (by simp [hm]);have e:JG (Y1 pre.length m)=JG m:=by unfold JG Y1;simp
  rw [e];exact this
theorem Yf {t:Tm} (h:zS (flat 0 t)=true):t.size<=170/\ ∀(i:Nat) n,(flat 0 t)[i]? =some n->n.names.length<=1000/\n.args.length<=1000/\ ∀a∈n.args,-1000000<=a/\a<=1000000:=by
  have hl:=(OI h).1;rw [ig]at hl;refine⟨hl,fun i n hn=> ?_⟩;have h2:=(OI h).2 i n hn;refine⟨by omega,by omega,fun a ha=> ?_⟩;have:=OH t 0 n (List.mem_of_getElem? hn) a ha;omega
theorem ac7 {t:Tm} (hf:zS (flat 0 t)=true) (hV:Valid (flat 0 t)) (PS:Ev (fun k=>nZ k (flat 0 t)) 0):Ev (fun k=>og k (flat 0 t)) (if 20000<(fm t false).length then([],2)else(fm t false,0)):=by
  have hlen:=hV.len;have hl:(flat 0 t).length=t.size:=ig 0 t;have hp:=size_pos t;have h1:=(air (akL hf hV) t 0 (Seg.whole t)).ev false;have hw:IntKind.wrap .i64 (((flat 0 t).length:Int) -1)=((0+t.size -1:Nat):Int):=by rw [wrap64 (by omega) (by omega)];omega
  unfold og;refine Ev.bind PS (Ev.cF rfl ?_);rw [hw];refine Ev.bind h1 ?_;by_cases h:20000<(fm t false).length
  · rw [if_pos h];exact Ev.cT (decide_eq_true (by show((fm t false).length:Int)>20000;omega)) Ev.some
  · rw [if_neg h];exact Ev.cF (decide_eq_false (by show ¬((fm t false).length:Int)>20000;omega)) Ev.some
theorem aof {s u:Str} (hs:s.length<=20000) (hu:u.length<=20000): ∀(m i:Nat) (found:Bool),s.length+1<=i+m->i<=s.length+1-> ∃v,Ev (fun k=>iw k s u found (i:Int)) v/\(found=true->v=true)/\((∃a b,s=a++(u++b)/\i<=a.length)->v=true):=by
  have hw: ∀i:Nat,i<=20001->IntKind.wrap .i64 ((i:Int)+(u.length:Int))=((i+u.length:Nat):Int):=fun i hi=>by rw [wrap64 (by omega) (by omega)];omega
  have over: ∀(i:Nat) (found:Bool),i<=20001->s.length<i+u.length-> ∃v,Ev (fun k=>iw k s u found (i:Int)) v/\(found=true->v=true)/\((∃a b,s=a++(u++b)/\i<=a.length)->v=true):=by
    intro i found hi hlt;refine⟨found,?_,id,?_⟩
    · refine Ev.succ ?_;simp only [iw,hw i hi];exact Ev.cF (decide_eq_false (by omega)) Ev.some
    · rintro⟨a,b,e,h⟩;have:=congrArg List.length e;simp only [List.length_append]at this;omega
  intro m
  induction m with
  |zero=>
    intro i found hm hi;exact over i found (by omega) (by omega)
  |succ m ih=>
    intro i found hm hi;by_cases hlt:s.length<i+u.length
    · exact over i found (by omega) hlt
    cases found with
    |true=>
      refine⟨true,?_,fun _=>rfl,fun _=>rfl⟩;refine Ev.succ ?_;simp only [iw,hw i (by omega)];exact Ev.cT (decide_eq_true (by omega)) (Ev.cT rfl Ev.some)
    |false=>
      obtain⟨v,h1,h2,h3⟩:=ih (i+1) (((s.take (i+u.length)).drop i)==u) (by omega) (by omega);refine⟨v,?_,fun h=>Bool.noConfusion h,?_⟩
      · have hw1:IntKind.wrap .i64 ((i:Int)+1)=((i+1:Nat):Int):=by rw [wrap64 (by omega) (by omega)];omega
        refine Ev.succ ?_;simp only [iw,hw i (by omega),hw1,Int.toNat_natCast];exact Ev.cT (decide_eq_true (by omega)) (Ev.cF rfl (Ev.aX ⟨by omega,by omega,by omega⟩ h1))
      · rintro⟨a,b,e,h⟩;by_cases ha:a.length=i
        · apply h2
          rw [beq_iff_eq,e,<-ha,List.take_append,List.drop_append,List.drop_of_length_le (by rw [List.length_take];omega),List.nil_append,List.length_take,Nat.min_eq_right (by omega),Nat.sub_self,List.drop_zero,Nat.add_sub_cancel_left,List.take_left]
        · exact h3 ⟨a,b,e,by omega⟩
theorem aog: ∀(n:Nat) (t:Tm),t.size<=n->VT t->t.size<=170->(∀(i:Nat) n,(flat 0 t)[i]? =some n->n.names.length<=1000/\n.args.length<=1000/\ ∀a∈n.args,-1000000<=a/\a<=1000000)->Ev (fun k=>qI k (flat 0 t)) (EJ t):=by
  intro n
  induction n with
  |zero=>intro t h;have:=size_pos t;omega
  |succ n ih=>
    intro t hn hV hsz hnd;obtain⟨x,cs⟩:=t;have hs:sizes cs<=170:=by simp only [size]at hsz;omega
    refine Ev.succ ?_;simp only [qI,Jd x cs (by omega),Option.bind_some,QJ,show(nd x 0 cs).kind=x.kind from rfl,show(nd x 0 cs).text=x.text from rfl];rw [Pq];cases ho:fE x.kind with
    |true=>exact Ev.cT rfl (Ev.some' rfl)
    |false=>
      refine Ev.cF rfl (Ev.bind (Bp x.text) ?_);by_cases hk:x.kind=3
      · rw [hk,IV];unfold xk;cases hop:bH bU x.text with
        |mk o is=>
        cases is with
        |false=>exact Ev.bind (x:=true) (Ev.cF rfl (Ev.cF rfl Ev.some)) (Ev.cT rfl (Ev.some' rfl))
        |true=>
          by_cases h2:o.fix=2
          · exact Ev.bind (x:=true) (Ev.cF rfl (Ev.cT rfl (Ev.some' (by rw [beq_iff_eq];exact h2)))) (Ev.cT rfl (Ev.some' (by simp [h2])))
          · refine Ev.bind (x:=false) (Ev.cF rfl (Ev.cT rfl (Ev.some' (by rw [beq_eq_false_iff_ne];exact h2)))) (Ev.cF rfl ?_);have hne:cs≠[]:=by
              rintro rfl;rcases xQ hV.bX with ha|⟨o,c,_,_,_,e⟩|⟨o,c,_,_,_,e⟩|⟨o,c,d,m,_,_,_,_,e⟩|⟨c,d,m,e⟩|⟨s,c,_,e⟩
              · unfold gP at ha;rw [show(Tm.mk x []).root=x from rfl,hk,IV,hop]at ha;cases ha
              all_goals cases e
            obtain⟨m,c,rfl,hm⟩:=LA (l:=cs) (n:=cs.length -1) (by have:=List.length_pos_iff.2 hne;omega);have hw:IntKind.wrap .i64 (((nd x 0 (m++[c])).args.length:Int) -1)=(m.length:Int):=by
              have h1:(nd x 0 (m++[c])).args.length=m.length+1:=by rw [show(nd x 0 (m++[c])).args=roots 0 (m++[c])from rfl,qd];simp
              have h2:m.length+1<=sizes (m++[c]):=by
                have hle: ∀l:List Tm,l.length<=sizes l:=by
                  intro l
                  induction l with
                  |nil=>simp
                  |cons d l ihl=>have:=size_pos d;simp only [sizes,List.length_cons];omega
                have:=hle (m++[c]);simpa using this
              rw [h1,wrap64 (by omega) (by omega)];omega
            have hS:Seg (flat 0 (.mk x (m++[c]))) (0+sizes m) c:=(Seg.whole _).kid;have hcs:c.size<=sizes (m++[c]):=RZ c (by simp);rw [hw];refine Ev.bind (KN (l:=m) (m:=[]) rfl (by omega) hnd) ?_;have hVc:VT c:=hV.kids.get c (by simp);have:=ih c (by simp only [size]at hn;omega) hVc (by omega) (aoc hS (fun i n hn=>⟨(hnd i n hn).1,(hnd i n hn).2.1⟩) (by omega));refine this.to ?_;rw [YS,decide_eq_false h2];simp
      · have hno:(fq x.kind x.text).2=false:=by unfold fq;rw [if_neg hk]
        rw [hno];unfold xk;exact Ev.bind (x:=true) (Ev.cT (by rw [bne_iff_ne];exact hk) Ev.some) (Ev.cT rfl (Ev.some' rfl))
theorem ac8 {x:Nd} {s:Str} (hs:s.length<=20000): ∀(cs l:List Tm),s=fm (.mk x (l++cs)) false->VT (.mk x (l++cs))->zS (flat 0 (.mk x (l++cs)))=true->
    ∃o,Ev (fun k=>fI k (flat 0 (.mk x (l++cs))) s (nd x 0 (l++cs)).kind (nd x 0 (l++cs)).n (nd x 0 (l++cs)).text (nd x 0 (l++cs)).names (nd x 0 (l++cs)).args 0 ((l.length:Nat):Int)) o/\(o= .inl 0\/o= .inr true)
  |[],l,e,hV,hf=>by
    refine⟨.inl 0,?_,.inl rfl⟩;have hal:(nd x 0 (l++[])).args.length=l.length:=by rw [List.append_nil];exact qd 0 l
    refine Ev.succ ?_;simp only [fI];exact Ev.cF (decide_eq_false (by omega)) Ev.some
  |c::cs,l,e,hV,hf=>by
    obtain⟨hsz,hnd⟩:=Yf hf;have hp1:=size_pos c;have hzz:sizes (l++c::cs)=sizes l+(c.size+sizes cs):=by rw [kU];simp only [sizes]
    have hsz2:sizes (l++c::cs)<=170:=by simp only [size]at hsz;omega
    have hal:(nd x 0 (l++c::cs)).args.length=l.length+(cs.length+1):=by rw [show(nd x 0 (l++c::cs)).args=roots 0 (l++c::cs)from rfl,qd];simp
    have hall:(nd x 0 (l++c::cs)).args.length<=1000:=(hnd (sizes (l++c::cs)) _ (by have:=(Seg.whole (.mk x (l++c::cs))).node;rwa [Nat.zero_add]at this)).2.1;have hS:Seg (flat 0 (.mk x (l++c::cs))) (0+sizes l) c:=(Seg.whole _).kid;have hfc:=aoe hf hS;have hVc:VT c:=hV.kids.get c (by simp);have hw:IntKind.wrap .i64 (((l.length:Nat):Int)+1)=(((l++[c]).length:Nat):Int):=by rw [wrap64 (by omega) (by omega),List.length_append,List.length_singleton];omega
    have e1:l++c::cs=(l++[c])++cs:=by simp
    have next: ∃o,Ev (fun k=>fI k (flat 0 (.mk x (l++c::cs))) s (nd x 0 (l++c::cs)).kind (nd x 0 (l++c::cs)).n (nd x 0 (l++c::cs)).text (nd x 0 (l++c::cs)).names (nd x 0 (l++c::cs)).args 0 (((l++[c]).length:Nat):Int)) o/\(o= .inl 0\/o= .inr true):=by
      have:=ac8 hs cs (l++[c]) (by rw [<-e1];exact e) (by rw [<-e1];exact hV) (by rw [<-e1];exact hf);rw [<-e1]at this;exact this
    have hLc:=Sn hfc;obtain⟨r,ht,hr,hv⟩:=Lp (flat 0 c) hLc;have PS:Ev (fun k=>nZ k (flat 0 c)) r.2:=by unfold nZ;exact Ev.bind ht Ev.some
    have PU:Ev (fun k=>Bg k (flat 0 c)) r.2:=by unfold Bg;exact Ev.bind hr Ev.some
    have hlt:decide (((l.length:Nat):Int)<((nd x 0 (l++c::cs)).args.length:Int))=true:=decide_eq_true (by omega);have hop:=KN (x:=x) (cs:=l++c::cs) rfl (by omega) hnd;by_cases h0:r.2=0
    case neg=>
      refine⟨.inr true,?_,.inr rfl⟩;refine Ev.succ ?_;simp only [fI];exact Ev.cT hlt (Ev.bind hop (Ev.bind PU (Ev.cT (by rw [bne_iff_ne];exact h0) Ev.some)))
    have hVx:=hv h0;obtain⟨p1,p2⟩:=ah5 (c:=c) hV (by simp [kids]);rw [<-e]at p1 p2;have hfm:=ac7 hfc hVx (h0▸PS);rw [if_neg (by omega)]at hfm;obtain⟨v,f1,f2,f3⟩:=aof (s:=s) (u:=fm c false) hs (by omega) (s.length+1) 0 false (by omega) (by omega);obtain⟨o,n1,n2⟩:=next;refine⟨o,?_,n2⟩;have w0:IntKind.wrap .i64 ((0:Int)+0)=0:=rfl;refine Ev.succ ?_;simp only [fI,hw];refine Ev.cT hlt (Ev.bind hop (Ev.bind PU (Ev.cF (by rw [h0];rfl) (Ev.bind (Hz hLc) (Ev.bind hfm (Ev.cF rfl (Ev.bind f1 ?_)))))));cases hvv:v with
    |true=>exact Ev.cT rfl (Ev.lV (x:=0) rfl (by rw [w0];exact n1))
    |false=>
      refine Ev.cF rfl ?_;obtain⟨y,ds⟩:=c;have hrt:yJ (flat 0 (.mk y ds))=some (nd y 0 ds):=Jd y ds (by simp only [size]at*;omega);simp only [hrt,Option.bind_some,QJ,show(nd y 0 ds).kind=y.kind from rfl];cases ho:fE y.kind with
      |true=>exact Ev.cT rfl (Ev.lV (x:=0) rfl (by rw [w0];exact n1))
      |false=>
        have hO:EJ (.mk y ds)=true:=by
          cases hO:EJ (.mk y ds)with
          |true=>rfl
          |false=>
            obtain⟨a,b,e2⟩:=p2 hO;have:=f3 ⟨a,b,e2,Nat.zero_le _⟩;rw [hvv]at this;cases this
        have hoe:=aog _ (.mk y ds) (Nat.le_refl _) hVc (by omega) (Yf hfc).2;refine Ev.cF rfl (Ev.bind (x:=true) ?_ ?_)
        · unfold Jg;exact Ev.bind hoe (Ev.some' hO)
        · exact Ev.lV (x:=0) rfl (by rw [w0];exact n1)
theorem Sy (a b:List Nd):Ev (fun k=>zu k a b) true:=by
  unfold zu;refine Ev.bind (Hy a) ?_;cases hfa:zS a with
  |false=>exact Ev.bind (x:=true) (by unfold jQ;exact Ev.cT rfl Ev.some) (Ev.cT rfl Ev.some)
  |true=>
  cases YA:zS b with
  |false=>exact Ev.bind (x:=true) (by unfold jQ;exact Ev.cF rfl (Ev.bind ((Hy b).to YA) (Ev.cF rfl Ev.some))) (Ev.cT rfl Ev.some)
  |true=>
  have hLa:=Sn hfa;have hLb:=Sn YA;obtain⟨r,ht,hr,hv⟩:=Lp a hLa;obtain⟨r',ht',hr',hv'⟩:=Lp b hLb;have PS:Ev (fun k=>nZ k a) r.2:=by unfold nZ;exact Ev.bind ht Ev.some
  have PU:Ev (fun k=>Bg k a) r.2:=by unfold Bg;exact Ev.bind hr Ev.some
  have aiw:Ev (fun k=>nZ k b) r'.2:=by unfold nZ;exact Ev.bind ht' Ev.some
  have aix:Ev (fun k=>Bg k b) r'.2:=by unfold Bg;exact Ev.bind hr' Ev.some
  by_cases h0:r.2=0
  case neg=>exact Ev.bind (x:=true) (by unfold jQ;exact Ev.cF rfl (Ev.bind ((Hy b).to YA) (Ev.cT rfl (Ev.bind PU (Ev.cT (by rw [bne_iff_ne];exact h0) Ev.some))))) (Ev.cT rfl Ev.some)
  by_cases h0':r'.2=0
  case neg=>exact Ev.bind (x:=true) (by unfold jQ;exact Ev.cF rfl (Ev.bind ((Hy b).to YA) (Ev.cT rfl (Ev.bind PU (Ev.cF (by rw [h0];rfl) (Ev.bind aix (Ev.some' (by rw [bne_iff_ne];exact h0')))))))) (Ev.cT rfl Ev.some)
  refine Ev.bind (x:=false) (by unfold jQ;exact Ev.cF rfl (Ev.bind ((Hy b).to YA) (Ev.cT rfl (Ev.bind PU (Ev.cF (by rw [h0];rfl) (Ev.bind aix (Ev.some' (by rw [h0'];rfl)))))))) (Ev.cF rfl ?_);obtain⟨ta,ea,hVa⟩:=acv (hv h0);obtain⟨tb,eb,hVb⟩:=acv (hv' h0');have hva:=hv h0;have hvb:=hv' h0';rw [h0]at PS;rw [h0']at aiw;subst ea;subst eb;have fa:=ac7 hfa hva PS;have fb:=ac7 YA hvb aiw;refine Ev.bind (Hz hLa) (Ev.bind fa (Ev.bind (Hz hLb) (Ev.bind fb ?_)));by_cases la:20000<(fm ta false).length
  · rw [if_pos la];refine Ev.lV (x:=true) ?_ (Ev.cT rfl (Ev.lV (x:=true) ?_ Ev.some))
    · unfold ng;rfl
    · unfold qJ;rfl
  rw [if_neg la];by_cases lb:20000<(fm tb false).length
  · rw [if_pos lb];refine Ev.lV (x:=true) ?_ (Ev.cT rfl (Ev.lV (x:=true) ?_ Ev.some))
    · unfold ng;rfl
    · unfold qJ;rfl
  rw [if_neg lb];refine Ev.lV (x:=false) (by unfold ng;rfl) (Ev.cF rfl ?_);have hse:=ZC (b:=flat 0 tb) hLa;by_cases hst:fm ta false=fm tb false
  · have:ta=tb:=asD hVa hVb hst;subst this;exact Ev.cT (by simp) (Ev.bind (hse.to (decide_eq_true rfl)) Ev.some)
  · have hne: ¬flat 0 ta=flat 0 tb:=by
      intro e;rw [e]at fa;have:=fa.uniq fb;rw [if_neg la,if_neg lb]at this;exact hst (Prod.mk.inj this).1
    refine Ev.cF (by rw [beq_eq_false_iff_ne];exact hst) (Ev.bind (hse.to (decide_eq_false hne)) (Ev.cF rfl ?_));obtain⟨x,cs⟩:=ta;have hsz:=(Yf hfa).1;have hrt:yJ (flat 0 (.mk x cs))=some (nd x 0 cs):=Jd x cs (by simp only [size]at hsz;omega);simp only [hrt,Option.bind_some];obtain⟨o,o1,o2⟩:=ac8 (x:=x) (s:=fm (.mk x cs) false) (by omega) cs [] rfl hVa hfa;refine Ev.bind o1 ?_;rcases o2 with rfl|rfl
    · exact Ev.some
    · exact Ev.some
end Go.VL
end
