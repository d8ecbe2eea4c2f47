/- Part 4. -/
import Derived.Test.YthebklihgmhgoaaGreatDoorKi3
import Derived.KernelRfl
import Derived.Below
set_option maxRecDepth 8000
set_option linter.unusedVariables false
set_option linter.unusedSectionVars false
set_option linter.unusedSimpArgs false
section
set_option maxHeartbeats 4000000
namespace Go.VL
open Go.Proofs
def Iq (K4:Bool):Option Int:=
  cond K4 (some 1) (some 0)
theorem JO {K4:Bool} {r:Int} (h:Iq K4=some r):aC Tryz.prog 23 [(.bool K4)] (.int .i64 r):=by
  refine aC.aP (bn.mem (.cons (.bool _) .nil)) (aK awp (by simp) (aD ?_)) (.int _ _);unfold Iq at h;unfold apk;rcases au h with⟨e1,h⟩|⟨e1,h⟩
  ·cases h;refine ah ?_
   exact(.pure _ (.int _ _))
  ·cases h;refine ah ?_
   exact(.pure _ (.int _ _))
def iY (bR:Int) (ZK:Int) (S9:Int):Option Bool:=
  cond (decide (bR>=ZK)) (some (decide (bR<=S9))) (some false)
theorem jm {bR:Int} {ZK:Int} {S9:Int} {r:Bool} (h:iY bR ZK S9=some r):aC Tryz.prog 35 [(.int .i64 bR),(.int .i64 ZK),(.int .i64 S9)] (.bool r):=by
  refine aC.aP (bn.mem (.cons (.int _ _) (.cons (.int _ _) (.cons (.int _ _) .nil)))) (aK apw (by simp) (aD ?_)) (.bool _);unfold iY at h;unfold apv;rcases au h with⟨e1,h⟩|⟨e1,h⟩
  ·cases h;refine ah ?_
   exact(.pure _ (.bool _))
  ·cases h;refine ah ?_
   exact(.pure _ (.bool _))
def kY:Nat->(List Str)->Str->Int->Option (Unit⊕Bool)
  |0,_,_,_=>none
  |k+1,qZ,s_1,fJ=>
    cond (decide (fJ<(qZ.length:Int))) (if 0<=fJ then Option.bind (qZ[fJ.toNat]?) fun x3=>cond (x3==s_1) (some (.inr (true))) (kY k qZ s_1 (IntKind.wrap .i64 (fJ+1)))else none) (some (.inl ()))
def CO:List Nat:=List.range' 4 14
theorem Ta: ∀(k:Nat) (qZ:List Str) (s_1:Str) (fJ:Int) (aA σ:Nat->PV) (H:AH) (f0:Fr CO aA σ) (sl:σ 0=(.aB (qZ.map aU) .unk)/\σ 1=(.str s_1)/\σ 5=(.int .i64 fJ)) (o:Unit⊕Bool) (h:kY k qZ s_1 fJ=some o) (Q:Post) (q0: ∀(p:Unit) (σ':Nat->PV),o= .inl p->Fr CO aA σ'->Q (.exit 0) σ' H) (q1: ∀(p:Bool) (σ':Nat->PV),o= .inr (p)->Fr CO aA σ'->(σ' 4=(.bool p))->Q .ret σ' H),W Tryz.prog (.loop Vr) Q σ H:=by
  intro k
  induction k with
  |zero=>intro qZ s_1 fJ aA σ H f0 sl o h Q q0 q1;simp only [kY,reduceCtorEq]at h
  |succ k ih=>
    intro qZ s_1 fJ aA σ H f0 sl o h Q q0 q1;obtain⟨s0,s1,s5⟩:=sl;unfold kY at h;refine bf (fun K hK=>aD ?_);unfold Vr;rcases au h with⟨e1,h⟩|⟨e1,h⟩
    ·obtain⟨e2,h⟩:=aL h;obtain⟨x3,e4,h⟩:=aj h;rcases au h with⟨e5,h⟩|⟨e5,h⟩
     ·cases h;refine ah ?_
      exact q1 _ _ rfl aM ak
     ·refine ah ?_
      refine hK _ _ ?_;exact ih qZ s_1 (IntKind.wrap .i64 (fJ+1)) _ _ _ aM ak _ h _ q0 q1
    ·cases h;refine ah ?_
     exact q0 _ _ rfl aM
def xA (k:Nat) (qZ:List Str) (s_1:Str):Option Bool:=
  Option.bind (kY k qZ s_1 0) (fun o=>Sum.elim (fun p8=>some false) (fun lW=>some lW) o)
theorem Ng {k:Nat} {qZ:List Str} {s_1:Str} {c0:Ck} {r:Bool} (h:xA k qZ s_1=some r):aC Tryz.prog 31 [(.aB (qZ.map aU) c0),(.str s_1)] (.bool r):=by
  refine aC.lw (.aB (.same .nil)) (aC.aP (bn.mem (.cons (bC dw _) (.cons (.str _) .nil))) (aK awu (by simp) (aD ?_)) (.bool _));unfold xA at h;unfold apt;refine ah ?_
  obtain⟨o6,h7,h⟩:=aj h;refine Ta k qZ s_1 0 _ _ _ (Fr.refl _ _) ak _ h7 _ ?_ ?_
  ·rintro p8 σ' eo fr9;subst eo;rw [bZ]at h;cases h;refine ah ?_
   exact(.pure _ (.bool _))
  ·rintro lW σ' eo vS s16;subst eo;rw [dn]at h;cases h;refine ah ?_
   exact(.pure _ (.bool _))
def nu:Nat->(List Operator)->(List Operator)->Int->Option (List Operator)
  |0,_,_,_=>none
  |k+1,vI,Ay,dL=>
    cond (decide (dL<(Ay.length:Int))) (if 0<=dL then Option.bind (Ay[dL.toNat]?) fun x3=>Option.bind (Iq (x3.fix==1)) fun p6=>cond (x3.text==([92,88]:Str)) (if(vI.length+1)*64<=1099511627776 then nu k (vI++[(Operator.mk x3.text x3.fix x3.low x3.high x3.left (IntKind.wrap .i64 (1+p6)) 4)]) Ay (IntKind.wrap .i64 (dL+1))else none) (if(vI.length+1)*64<=1099511627776 then nu k (vI++[(Operator.mk x3.text x3.fix x3.low x3.high x3.left (IntKind.wrap .i64 (1+p6)) (IntKind.wrap .i64 (1+p6)))]) Ay (IntKind.wrap .i64 (dL+1))else none)else none) (some (vI))
def Qf:List Nat:=[1,3,4]++List.range' 48 27
theorem aaD: ∀(k:Nat) (vI:List Operator) (Ay:List Operator) (dL:Int) (tY:Ck) (Az:Ck) (aA σ:Nat->PV) (H0 H:AH) (f0:Fr Qf aA σ) (hf0:HF [] H0 H) (sl:σ 1=(.aB (vI.map Operator.cells) tY)/\σ 2=(.aB (Ay.map Operator.cells) Az)/\σ 3=(.int .i64 dL)) (aaE:eD H tY) (o:List Operator) (h:nu k vI Ay dL=some o) (Q:Post) (q0: ∀(p:List Operator) (c0:Ck) (σ':Nat->PV) (H':AH),o=p->Fr Qf aA σ'->HF [] H0 H'->(σ' 1=(.aB (p.map Operator.cells) c0))->Q (.exit 0) σ' H'),W Tryz.prog (.loop VX) Q σ H:=by
  intro k
  induction k with
  |zero=>intro vI Ay dL tY Az aA σ H0 H f0 hf0 sl aaE o h Q q0;simp only [nu,reduceCtorEq]at h
  |succ k ih=>
    intro vI Ay dL tY Az aA σ H0 H f0 hf0 sl aaE o h Q q0;obtain⟨s1,s2,s3⟩:=sl;have hle0:=hf0.1;unfold nu at h;refine bf (fun K hK=>aD ?_);unfold VX;rcases au h with⟨e1,h⟩|⟨e1,h⟩
    ·obtain⟨e2,h⟩:=aL h;obtain⟨x3,e4,h⟩:=aj h;obtain⟨p6,e5,h⟩:=aj h;refine ah ?_
     refine av (JO e5) ?_;rcases au h with⟨e7,h⟩|⟨e7,h⟩
     ·obtain⟨e12,h⟩:=aL h;refine ah ?_
      refine kN (f:=Operator.cells) Operator.row vI ([(Operator.mk x3.text x3.fix x3.low x3.high x3.left (IntKind.wrap .i64 (1+p6)) 4)]:List Operator) tY .exact ak ak eZ (by first|exact e12|(simp only [List.length_cons,List.length_nil];exact e12)) (fun c8 H9 aA9 le aw5 aBa=> ?_);have aw6:HF [] _ H9:=⟨le,fun i _ _=>aw5 i⟩;try simp only [AH.aF,AH.aG,AH.aH,AH.aI]at le
      have n22:=ne_next (show H.next<H9.next by first|omega|(simp only [AH.aF,AH.aG,AH.aH,AH.aI];omega));have m23:=aR (show H.next<H9.next by first|omega|(simp only [AH.aF,AH.aG,AH.aH,AH.aI];omega));refine ah ?_
      refine hK _ _ ?_;exact ih (vI++[(Operator.mk x3.text x3.fix x3.low x3.high x3.left (IntKind.wrap .i64 (1+p6)) 4)]) Ay (IntKind.wrap .i64 (dL+1)) c8 Az _ _ _ _ aM (by repeat (first|exact hf0|refine HF.new ?_|refine HF.oG ?_|refine HF.used ?_|refine HF.put (by first|(right;omega)|(left;simp only [List.mem_cons,true_or,or_true])) ?_|refine HF.via aw6 (by first|exact fun i hi=>absurd hi List.not_mem_nil|(intro i hi;simp only [List.mem_cons,List.not_mem_nil,or_false]at hi⊢;first|exact .inl hi|omega)) ?_)) ak eZ _ h _ q0
     ·obtain⟨e19,h⟩:=aL h;refine ah ?_
      refine kN (f:=Operator.cells) Operator.row vI ([(Operator.mk x3.text x3.fix x3.low x3.high x3.left (IntKind.wrap .i64 (1+p6)) (IntKind.wrap .i64 (1+p6)))]:List Operator) tY .exact ak ak eZ (by first|exact e19|(simp only [List.length_cons,List.length_nil];exact e19)) (fun c15 H16 apb le aw7 aBb=> ?_);have aji:HF [] _ H16:=⟨le,fun i _ _=>aw7 i⟩;try simp only [AH.aF,AH.aG,AH.aH,AH.aI]at le
      have n24:=ne_next (show H.next<H16.next by first|omega|(simp only [AH.aF,AH.aG,AH.aH,AH.aI];omega));have m25:=aR (show H.next<H16.next by first|omega|(simp only [AH.aF,AH.aG,AH.aH,AH.aI];omega));refine ah ?_
      refine hK _ _ ?_;exact ih (vI++[(Operator.mk x3.text x3.fix x3.low x3.high x3.left (IntKind.wrap .i64 (1+p6)) (IntKind.wrap .i64 (1+p6)))]) Ay (IntKind.wrap .i64 (dL+1)) c15 Az _ _ _ _ aM (by repeat (first|exact hf0|refine HF.new ?_|refine HF.oG ?_|refine HF.used ?_|refine HF.put (by first|(right;omega)|(left;simp only [List.mem_cons,true_or,or_true])) ?_|refine HF.via aji (by first|exact fun i hi=>absurd hi List.not_mem_nil|(intro i hi;simp only [List.mem_cons,List.not_mem_nil,or_false]at hi⊢;first|exact .inl hi|omega)) ?_)) ak eZ _ h _ q0
    ·cases h;refine ah ?_
     exact q0 _ tY _ _ rfl aM oo ak
def FP (k:Nat):Option (List Operator):=
  Option.bind (nu k ([]:List Operator) [(Operator.mk ([126]:Str) 0 4 4 false 0 0),(Operator.mk ([69,78,65,66,76,69,68]:Str) 0 4 15 false 0 0),(Operator.mk ([85,78,67,72,65,78,71,69,68]:Str) 0 4 15 false 0 0),(Operator.mk ([91,93]:Str) 0 4 15 false 0 0),(Operator.mk ([60,62]:Str) 0 4 15 false 0 0),(Operator.mk ([83,85,66,83,69,84]:Str) 0 8 8 false 0 0),(Operator.mk ([85,78,73,79,78]:Str) 0 8 8 false 0 0),(Operator.mk ([68,79,77,65,73,78]:Str) 0 9 9 false 0 0),(Operator.mk ([45,46]:Str) 0 12 12 false 0 0),(Operator.mk ([61,62]:Str) 1 1 1 false 0 0),(Operator.mk ([60,61,62]:Str) 1 2 2 false 0 0),(Operator.mk ([126,62]:Str) 1 2 2 false 0 0),(Operator.mk ([47,92]:Str) 1 3 3 true 0 0),(Operator.mk ([92,47]:Str) 1 3 3 true 0 0),(Operator.mk ([61]:Str) 1 5 5 false 0 0),(Operator.mk ([35]:Str) 1 5 5 false 0 0),(Operator.mk ([60]:Str) 1 5 5 false 0 0),(Operator.mk ([60,61]:Str) 1 5 5 false 0 0),(Operator.mk ([62]:Str) 1 5 5 false 0 0),(Operator.mk ([62,61]:Str) 1 5 5 false 0 0),(Operator.mk ([92,105,110]:Str) 1 5 5 false 0 0),(Operator.mk ([92,110,111,116,105,110]:Str) 1 5 5 false 0 0),(Operator.mk ([92,115,117,98,115,101,116,101,113]:Str) 1 5 5 false 0 0),(Operator.mk ([92,115,113,115,117,98,115,101,116,101,113]:Str) 1 5 5 false 0 0),(Operator.mk ([64,64]:Str) 1 6 6 true 0 0),(Operator.mk ([58,62]:Str) 1 7 7 false 0 0),(Operator.mk ([92,99,100,111,116]:Str) 1 5 14 true 0 0),(Operator.mk ([92,99,117,112]:Str) 1 8 8 true 0 0),(Operator.mk ([92,99,97,112]:Str) 1 8 8 true 0 0),(Operator.mk ([92]:Str) 1 8 8 false 0 0),(Operator.mk ([46,46]:Str) 1 9 9 false 0 0),(Operator.mk ([43]:Str) 1 10 10 true 0 0),(Operator.mk ([40,43,41]:Str) 1 10 10 true 0 0),(Operator.mk ([37]:Str) 1 10 11 false 0 0),(Operator.mk ([92,88]:Str) 1 10 13 false 0 0),(Operator.mk ([45]:Str) 1 11 11 true 0 0),(Operator.mk ([40,45,41]:Str) 1 11 11 true 0 0),(Operator.mk ([42]:Str) 1 13 13 true 0 0),(Operator.mk ([92,100,105,118]:Str) 1 13 13 false 0 0),(Operator.mk ([92,111]:Str) 1 13 13 true 0 0),(Operator.mk ([94]:Str) 1 14 14 false 0 0),(Operator.mk ([39]:Str) 2 15 15 false 0 0)] 0) (fun p28=>some p28)
theorem ag8 {k:Nat} {r:List Operator} (h:FP k=some r):aC Tryz.prog 64 [] (.aB (r.map Operator.cells) .unk):=by
  refine aC.aP (bn.mem .nil) (aK awM (by simp) (aD ?_)) (bC Operator.pu _);unfold FP at h;unfold apT;refine ah ?_
  obtain⟨o26,h27,h⟩:=aj h;refine aaD k ([]:List Operator) [(Operator.mk ([126]:Str) 0 4 4 false 0 0),(Operator.mk ([69,78,65,66,76,69,68]:Str) 0 4 15 false 0 0),(Operator.mk ([85,78,67,72,65,78,71,69,68]:Str) 0 4 15 false 0 0),(Operator.mk ([91,93]:Str) 0 4 15 false 0 0),(Operator.mk ([60,62]:Str) 0 4 15 false 0 0),(Operator.mk ([83,85,66,83,69,84]:Str) 0 8 8 false 0 0),(Operator.mk ([85,78,73,79,78]:Str) 0 8 8 false 0 0),(Operator.mk ([68,79,77,65,73,78]:Str) 0 9 9 false 0 0),(Operator.mk ([45,46]:Str) 0 12 12 false 0 0),(Operator.mk ([61,62]:Str) 1 1 1 false 0 0),(Operator.mk ([60,61,62]:Str) 1 2 2 false 0 0),(Operator.mk ([126,62]:Str) 1 2 2 false 0 0),(Operator.mk ([47,92]:Str) 1 3 3 true 0 0),(Operator.mk ([92,47]:Str) 1 3 3 true 0 0),(Operator.mk ([61]:Str) 1 5 5 false 0 0),(Operator.mk ([35]:Str) 1 5 5 false 0 0),(Operator.mk ([60]:Str) 1 5 5 false 0 0),(Operator.mk ([60,61]:Str) 1 5 5 false 0 0),(Operator.mk ([62]:Str) 1 5 5 false 0 0),(Operator.mk ([62,61]:Str) 1 5 5 false 0 0),(Operator.mk ([92,105,110]:Str) 1 5 5 false 0 0),(Operator.mk ([92,110,111,116,105,110]:Str) 1 5 5 false 0 0),(Operator.mk ([92,115,117,98,115,101,116,101,113]:Str) 1 5 5 false 0 0),(Operator.mk ([92,115,113,115,117,98,115,101,116,101,113]:Str) 1 5 5 false 0 0),(Operator.mk ([64,64]:Str) 1 6 6 true 0 0),(Operator.mk ([58,62]:Str) 1 7 7 false 0 0),(Operator.mk ([92,99,100,111,116]:Str) 1 5 14 true 0 0),(Operator.mk ([92,99,117,112]:Str) 1 8 8 true 0 0),(Operator.mk ([92,99,97,112]:Str) 1 8 8 true 0 0),(Operator.mk ([92]:Str) 1 8 8 false 0 0),(Operator.mk ([46,46]:Str) 1 9 9 false 0 0),(Operator.mk ([43]:Str) 1 10 10 true 0 0),(Operator.mk ([40,43,41]:Str) 1 10 10 true 0 0),(Operator.mk ([37]:Str) 1 10 11 false 0 0),(Operator.mk ([92,88]:Str) 1 10 13 false 0 0),(Operator.mk ([45]:Str) 1 11 11 true 0 0),(Operator.mk ([40,45,41]:Str) 1 11 11 true 0 0),(Operator.mk ([42]:Str) 1 13 13 true 0 0),(Operator.mk ([92,100,105,118]:Str) 1 13 13 false 0 0),(Operator.mk ([92,111]:Str) 1 13 13 true 0 0),(Operator.mk ([94]:Str) 1 14 14 false 0 0),(Operator.mk ([39]:Str) 2 15 15 false 0 0)] 0 .nil .exact _ _ _ _ (Fr.refl _ _) (HF.refl _ _) ak eZ _ h27 _ ?_
  ·rintro p28 c32 σ' H31 eo WM aw8 s33;rw [eo]at h;have le:=aw8.1;try simp only [AH.aF,AH.aG,AH.aH,AH.aI]at le
   cases h;refine ah ?_
   exact(jB Operator.pu _ _)
def jD:Nat->Str->Str->Int->Int->Int->Bool->Int->Int->(List Operator)->Int->Option ((Str×Int×Int×Int×Bool×Int×Int)⊕(Bool×Str×Int×Int×Int×Bool×Int×Int))
  |0,_,_,_,_,_,_,_,_,_,_=>none
  |k+1,jE,Ir,Iu,Iw,Iy,Iz,IB,IC,dX,fJ=>
    cond (decide (fJ<(dX.length:Int))) (if 0<=fJ then Option.bind (dX[fJ.toNat]?) fun x5=>cond (x5.text==jE) (some (.inr ((true,x5.text,x5.fix,x5.low,x5.high,x5.left,x5.least,x5.most)))) (jD k jE Ir Iu Iw Iy Iz IB IC dX (IntKind.wrap .i64 (fJ+1)))else none) (some (.inl (Ir,Iu,Iw,Iy,Iz,IB,IC)))
def zB:List Nat:=[3,5]++List.range' 7 17
theorem PW: ∀(k:Nat) (AA:Nat) (jE:Str) (Ir:Str) (Iu:Int) (Iw:Int) (Iy:Int) (Iz:Bool) (IB:Int) (IC:Int) (dX:List Operator) (fJ:Int) (aA σ:Nat->PV) (H0 H:AH) (f0:Fr zB aA σ) (hf0:HF [AA] H0 H) (sl:σ 0=(.str jE)/\σ 2=(.ref (AA) 0)/\σ 4=(.aB (dX.map Operator.cells) .unk)/\σ 5=(.int .i64 fJ)/\H.obj AA=some [(.str Ir),(.int .i64 Iu),(.int .i64 Iw),(.int .i64 Iy),(.bool Iz),(.int .i64 IB),(.int .i64 IC)]) (O1:AA<H.next) (o:(Str×Int×Int×Int×Bool×Int×Int)⊕(Bool×Str×Int×Int×Int×Bool×Int×Int)) (h:jD k jE Ir Iu Iw Iy Iz IB IC dX fJ=some o) (Q:Post) (q0: ∀(p:Str×Int×Int×Int×Bool×Int×Int) (σ':Nat->PV) (H':AH),o= .inl p->Fr zB aA σ'->HF [AA] H0 H'->(H'.obj AA=some [(.str p.1),(.int .i64 p.2.1),(.int .i64 p.2.2.1),(.int .i64 p.2.2.2.1),(.bool p.2.2.2.2.1),(.int .i64 p.2.2.2.2.2.1),(.int .i64 p.2.2.2.2.2.2)])->Q (.exit 0) σ' H') (q1: ∀(p:Bool×Str×Int×Int×Int×Bool×Int×Int) (σ':Nat->PV) (H':AH),o= .inr (p)->Fr zB aA σ'->HF [AA] H0 H'->(σ' 3=(.bool p.1)/\H'.obj AA=some [(.str p.2.1),(.int .i64 p.2.2.1),(.int .i64 p.2.2.2.1),(.int .i64 p.2.2.2.2.1),(.bool p.2.2.2.2.2.1),(.int .i64 p.2.2.2.2.2.2.1),(.int .i64 p.2.2.2.2.2.2.2)])->Q .ret σ' H'),W Tryz.prog (.loop Vp) Q σ H:=by
  intro k
  induction k with
  |zero=>intro AA jE Ir Iu Iw Iy Iz IB IC dX fJ aA σ H0 H f0 hf0 sl O1 o h Q q0 q1;simp only [jD,reduceCtorEq]at h
  |succ k ih=>
    intro AA jE Ir Iu Iw Iy Iz IB IC dX fJ aA σ H0 H f0 hf0 sl O1 o h Q q0 q1;obtain⟨s0,s2,s4,s5,ayN⟩:=sl;have ayO:=ne_next O1;have ayP:=aR O1;have hle0:=hf0.1;unfold jD at h;refine bf (fun K hK=>aD ?_);unfold Vp;rcases au h with⟨e3,h⟩|⟨e3,h⟩
    ·obtain⟨e4,h⟩:=aL h;obtain⟨x5,e6,h⟩:=aj h;rcases au h with⟨e7,h⟩|⟨e7,h⟩
     ·cases h;refine ah ?_
      exact q1 _ _ _ rfl aM oo ak
     ·refine ah ?_
      refine hK _ _ ?_;exact ih AA jE Ir Iu Iw Iy Iz IB IC dX (IntKind.wrap .i64 (fJ+1)) _ _ _ _ aM oo ak bJ _ h _ q0 q1
    ·cases h;refine ah ?_
     exact q0 _ _ _ rfl aM oo ak
def qA (k:Nat) (jE:Str):Option (Operator×Bool):=
  Option.bind (FP k) fun p2=>Option.bind (jD k jE ([]:Str) 0 0 0 false 0 0 p2 0) (fun o=>Sum.elim (fun jo=>some ((Operator.mk [] 0 0 0 false 0 0),false)) (fun kP=>some ((Operator.mk kP.2.1 kP.2.2.1 kP.2.2.2.1 kP.2.2.2.2.1 kP.2.2.2.2.2.1 kP.2.2.2.2.2.2.1 kP.2.2.2.2.2.2.2),kP.1)) o)
theorem CP {k:Nat} {jE:Str} {r:Operator×Bool} (h:qA k jE=some r):aC Tryz.prog 27 [(.str jE)] (.dR [(.agg (Operator.cells r.1)),(.bool r.2)]):=by
  refine aC.aP (bn.mem (.cons (.str _) .nil)) (aK apr (by simp) (aD ?_)) (.dR _ (bn.mem (.cons (.agg _ (Operator.pu _)) (.cons (.bool _) .nil))));unfold qA at h;unfold apq;obtain⟨p2,e1,h⟩:=aj h;refine ah ?_
  refine av (ag8 e1) ?_;refine ah ?_
  obtain⟨o8,h9,h⟩:=aj h;refine PW k (AH.empty.next) jE ([]:Str) 0 0 0 false 0 0 p2 0 _ _ _ _ (Fr.refl _ _) (HF.refl _ _) ak bJ _ h9 _ ?_ ?_
  ·rintro jo σ' H13 eo WQ aw9 g14;subst eo;rw [bZ]at h;have s15:σ' 2=(.ref (AH.empty.next) 0):=(WQ 2 (by decide)).trans ak;have le:=aw9.1;try simp only [AH.aF,AH.aG,AH.aH,AH.aI]at le
   have n17:=ne_next (show AH.empty.next<H13.next by first|omega|(simp only [AH.aF,AH.aG,AH.aH,AH.aI];omega));have m18:=aR (show AH.empty.next<H13.next by first|omega|(simp only [AH.aF,AH.aG,AH.aH,AH.aI];omega));cases h;refine ah ?_
   exact(dJ (.cons (dN (.cons (.pure _ (.str _)) (aN (aN (aN (.cons (.pure _ (.bool _)) (aN (aN .nil)))))))) (.cons (.pure _ (.bool _)) .nil)))
  ·rintro kP σ' H22 eo WT aji ⟨s23,g24⟩;subst eo;rw [dn]at h;have s25:σ' 2=(.ref (AH.empty.next) 0):=(WT 2 (by decide)).trans ak;have le:=aji.1;try simp only [AH.aF,AH.aG,AH.aH,AH.aI]at le
   have n27:=ne_next (show AH.empty.next<H22.next by first|omega|(simp only [AH.aF,AH.aG,AH.aH,AH.aI];omega));have m28:=aR (show AH.empty.next<H22.next by first|omega|(simp only [AH.aF,AH.aG,AH.aH,AH.aI];omega));cases h;refine ah ?_
   exact(dJ (.cons (dN (.cons (.pure _ (.str _)) (aN (aN (aN (.cons (.pure _ (.bool _)) (aN (aN .nil)))))))) (.cons (.pure _ (.bool _)) .nil)))
def AB:Option (List Str):=
  some [([65,83,83,85,77,69]:Str),([65,83,83,85,77,80,84,73,79,78]:Str),([65,88,73,79,77]:Str),([66,89]:Str),([67,65,83,69]:Str),([67,72,79,79,83,69]:Str),([67,79,78,83,84,65,78,84]:Str),([67,79,78,83,84,65,78,84,83]:Str),([68,69,70]:Str),([68,69,70,73,78,69]:Str),([68,69,70,83]:Str),([68,79,77,65,73,78]:Str),([69,76,83,69]:Str),([69,78,65,66,76,69,68]:Str),([69,88,67,69,80,84]:Str),([69,88,84,69,78,68,83]:Str),([70,65,76,83,69]:Str),([72,65,86,69]:Str),([72,73,68,69]:Str),([73,70]:Str),([73,78]:Str),([73,78,83,84,65,78,67,69]:Str),([76,65,77,66,68,65]:Str),([76,69,77,77,65]:Str),([76,69,84]:Str),([76,79,67,65,76]:Str),([77,79,68,85,76,69]:Str),([78,69,87]:Str),([79,66,86,73,79,85,83]:Str),([79,77,73,84,84,69,68]:Str),([79,84,72,69,82]:Str),([80,73,67,75]:Str),([80,82,79,79,70]:Str),([80,82,79,80,79,83,73,84,73,79,78]:Str),([80,82,79,86,69]:Str),([81,69,68]:Str),([82,69,67,85,82,83,73,86,69]:Str),([83,85,66,83,69,84]:Str),([83,85,70,70,73,67,69,83]:Str),([84,65,75,69]:Str),([84,72,69,78]:Str),([84,72,69,79,82,69,77]:Str),([84,82,85,69]:Str),([85,78,67,72,65,78,71,69,68]:Str),([85,78,73,79,78]:Str),([85,83,69]:Str),([86,65,82,73,65,66,76,69]:Str),([86,65,82,73,65,66,76,69,83]:Str),([87,73,84,72]:Str),([87,73,84,78,69,83,83]:Str)]
theorem aaG {r:List Str} (h:AB=some r):aC Tryz.prog 122 [] (.aB (r.map aU) .unk):=by
  refine aC.aP (bn.mem .nil) (aK atI (by simp) (aD ?_)) (bC dw _);unfold AB at h;unfold ald;cases h;refine ah ?_
  exact(jB dw [([65,83,83,85,77,69]:Str),([65,83,83,85,77,80,84,73,79,78]:Str),([65,88,73,79,77]:Str),([66,89]:Str),([67,65,83,69]:Str),([67,72,79,79,83,69]:Str),([67,79,78,83,84,65,78,84]:Str),([67,79,78,83,84,65,78,84,83]:Str),([68,69,70]:Str),([68,69,70,73,78,69]:Str),([68,69,70,83]:Str),([68,79,77,65,73,78]:Str),([69,76,83,69]:Str),([69,78,65,66,76,69,68]:Str),([69,88,67,69,80,84]:Str),([69,88,84,69,78,68,83]:Str),([70,65,76,83,69]:Str),([72,65,86,69]:Str),([72,73,68,69]:Str),([73,70]:Str),([73,78]:Str),([73,78,83,84,65,78,67,69]:Str),([76,65,77,66,68,65]:Str),([76,69,77,77,65]:Str),([76,69,84]:Str),([76,79,67,65,76]:Str),([77,79,68,85,76,69]:Str),([78,69,87]:Str),([79,66,86,73,79,85,83]:Str),([79,77,73,84,84,69,68]:Str),([79,84,72,69,82]:Str),([80,73,67,75]:Str),([80,82,79,79,70]:Str),([80,82,79,80,79,83,73,84,73,79,78]:Str),([80,82,79,86,69]:Str),([81,69,68]:Str),([82,69,67,85,82,83,73,86,69]:Str),([83,85,66,83,69,84]:Str),([83,85,70,70,73,67,69,83]:Str),([84,65,75,69]:Str),([84,72,69,78]:Str),([84,72,69,79,82,69,77]:Str),([84,82,85,69]:Str),([85,78,67,72,65,78,71,69,68]:Str),([85,78,73,79,78]:Str),([85,83,69]:Str),([86,65,82,73,65,66,76,69]:Str),([86,65,82,73,65,66,76,69,83]:Str),([87,73,84,72]:Str),([87,73,84,78,69,83,83]:Str)] _)
def AJ (yg:Int):Option Bool:=
  cond (decide (yg>=97)) (cond (decide (yg<=122)) (some true) (cond (decide (yg>=65)) (some (decide (yg<=90))) (some false))) (cond (decide (yg>=65)) (some (decide (yg<=90))) (some false))
theorem Nh {yg:Int} {r:Bool} (h:AJ yg=some r):aC Tryz.prog 123 [(.int .u8 yg)] (.bool r):=by
  refine aC.aP (bn.mem (.cons (.int _ _) .nil)) (aK atJ (by simp) (aD ?_)) (.bool _);unfold AJ at h;unfold ale;rcases au h with⟨e1,h⟩|⟨e1,h⟩
  ·rcases au h with⟨e2,h⟩|⟨e2,h⟩
   ·cases h;refine ah ?_
    exact(.pure _ (.bool _))
   ·rcases au h with⟨e3,h⟩|⟨e3,h⟩
    ·cases h;refine ah ?_
     exact(.pure _ (.bool _))
    ·cases h;refine ah ?_
     exact(.pure _ (.bool _))
  ·rcases au h with⟨e4,h⟩|⟨e4,h⟩
   ·cases h;refine ah ?_
    exact(.pure _ (.bool _))
   ·cases h;refine ah ?_
    exact(.pure _ (.bool _))
def D7 (yg:Int):Option Bool:=
  cond (decide (yg>=48)) (some (decide (yg<=57))) (some false)
theorem ads {yg:Int} {r:Bool} (h:D7 yg=some r):aC Tryz.prog 124 [(.int .u8 yg)] (.bool r):=by
  refine aC.aP (bn.mem (.cons (.int _ _) .nil)) (aK atK (by simp) (aD ?_)) (.bool _);unfold D7 at h;unfold alf;rcases au h with⟨e1,h⟩|⟨e1,h⟩
  ·cases h;refine ah ?_
   exact(.pure _ (.bool _))
  ·cases h;refine ah ?_
   exact(.pure _ (.bool _))
def DF (k:Nat) (s_0:Str):Option (Unit⊕Bool):=
  Option.bind (iY (s_0.length:Int) 1 24) fun p2=>cond p2 (Option.bind (AB) fun p5=>Option.bind (xA k p5 s_0) fun p7=>cond p7 (some (.inr (false))) (some (.inl ()))) (some (.inr (false)))
def Gi:List Nat:=[2]++List.range' 5 9
theorem Y5 (k:Nat): ∀(s_0:Str) (aA σ:Nat->PV) (H:AH) (f0:Fr Gi aA σ) (sl:σ 0=(.str s_0)) (o:Unit⊕Bool) (h:DF k s_0=some o) (Q:Post) (q0: ∀(p:Unit) (σ':Nat->PV),o= .inl p->Fr Gi aA σ'->Q .normal σ' H) (q1: ∀(p:Bool) (σ':Nat->PV),o= .inr (p)->Fr Gi aA σ'->(σ' 2=(.bool p))->Q .ret σ' H),W Tryz.prog VZ Q σ H:=by
  intro s_0 aA σ H f0 sl o h Q q0 q1;have s0:=sl;unfold DF at h;refine aD ?_;unfold VZ;obtain⟨p2,e1,h⟩:=aj h;refine ah ?_
  refine av (jm e1) ?_;rcases au h with⟨e3,h⟩|⟨e3,h⟩
  ·obtain⟨p5,e4,h⟩:=aj h;refine ah ?_
   refine av (aaG e4) ?_;obtain⟨p7,e6,h⟩:=aj h;refine ah ?_
   refine av (Ng e6) ?_;rcases au h with⟨e8,h⟩|⟨e8,h⟩
   ·cases h;refine ah ?_
    exact q1 _ _ rfl aM ak
   ·cases h;refine ah ?_
    exact q0 _ _ rfl aM
  ·cases h;refine ah ?_
   exact q1 _ _ rfl aM ak
def yF (s_0:Str) (kD:Int) (jw:Bool):Option Bool:=
  cond jw (if 0<=kD then Option.bind (s_0[kD.toNat]?) fun x24=>Option.bind (D7 (x24.toNat:Int)) fun p27=>cond p27 (some (false)) (some (((x24.toNat:Int) !=95)))else none) (some (false))
def Ni:List Nat:=List.range' 26 12
theorem Y6: ∀(s_0:Str) (kD:Int) (jw:Bool) (aA σ:Nat->PV) (H:AH) (f0:Fr Ni aA σ) (sl:σ 0=(.str s_0)/\σ 4=(.int .i64 kD)/\σ 25=(.bool jw)) (o:Bool) (h:yF s_0 kD jw=some o) (Q:Post) (q0: ∀(p:Bool) (σ':Nat->PV),o=p->Fr Ni aA σ'->(σ' 37=(.bool p))->Q .normal σ' H),dD Tryz.prog V3 (Q .normal) σ H:=by
  intro s_0 kD jw aA σ H f0 sl o h Q q0;obtain⟨s0,s4,s25⟩:=sl;unfold yF at h;refine dB ?_;unfold V3;rcases au h with⟨e22,h⟩|⟨e22,h⟩
  ·obtain⟨e23,h⟩:=aL h;obtain⟨x24,e25,h⟩:=aj h;obtain⟨p27,e26,h⟩:=aj h;refine ah ?_
   refine av (ads e26) ?_;rcases au h with⟨e28,h⟩|⟨e28,h⟩
   ·cases h;refine ah ?_
    exact q0 _ _ rfl aM ak
   ·cases h;refine ah ?_
    exact q0 _ _ rfl aM ak
  ·cases h;refine ah ?_
   exact q0 _ _ rfl aM ak
def lZ:Nat->Str->Bool->Int->Option (Bool⊕Bool)
  |0,_,_,_=>none
  |k+1,s_0,vT,kD=>
    cond (decide (kD<(s_0.length:Int))) (if 0<=kD then Option.bind (s_0[kD.toNat]?) fun x18=>Option.bind (AJ (x18.toNat:Int)) fun tC=>Option.bind (yF s_0 kD (!tC)) (fun p31=>cond p31 (some (.inr (false))) (cond vT (lZ k s_0 true (IntKind.wrap .i64 (kD+1))) (lZ k s_0 tC (IntKind.wrap .i64 (kD+1)))))else none) (some (.inl vT))
def Gj:List Nat:=[2,3,4]++List.range' 14 31
theorem Y7: ∀(k:Nat) (s_0:Str) (vT:Bool) (kD:Int) (aA σ:Nat->PV) (H:AH) (f0:Fr Gj aA σ) (sl:σ 0=(.str s_0)/\σ 3=(.bool vT)/\σ 4=(.int .i64 kD)) (o:Bool⊕Bool) (h:lZ k s_0 vT kD=some o) (Q:Post) (q0: ∀(p:Bool) (σ':Nat->PV),o= .inl p->Fr Gj aA σ'->(σ' 3=(.bool p))->Q (.exit 0) σ' H) (q1: ∀(p:Bool) (σ':Nat->PV),o= .inr (p)->Fr Gj aA σ'->(σ' 2=(.bool p))->Q .ret σ' H),W Tryz.prog (.loop V4) Q σ H:=by
  intro k
  induction k with
  |zero=>intro s_0 vT kD aA σ H f0 sl o h Q q0 q1;simp only [lZ,reduceCtorEq]at h
  |succ k ih=>
    intro s_0 vT kD aA σ H f0 sl o h Q q0 q1;obtain⟨s0,s3,s4⟩:=sl;unfold lZ at h;refine bf (fun K hK=>aD ?_);unfold V4;rcases au h with⟨e16,h⟩|⟨e16,h⟩
    ·obtain⟨e17,h⟩:=aL h;obtain⟨x18,e19,h⟩:=aj h;obtain⟨tC,e20,h⟩:=aj h;refine ah ?_
     refine av (Nh e20) ?_;refine ah ?_
     obtain⟨o29,h30,h⟩:=aj h;refine Y6 s_0 kD (!tC) _ _ _ (Fr.refl _ _) ak _ h30 _ ?_
     ·rintro p31 σ' eo RF s35;rw [eo]at h;have s36:σ' 0=(.str s_0):=(RF 0 (by decide)).trans ak;have s37:σ' 3=(.bool vT):=(RF 3 (by decide)).trans ak;have s38:σ' 4=(.int .i64 kD):=(RF 4 (by decide)).trans ak;rcases au h with⟨e39,h⟩|⟨e39,h⟩
      ·cases h;refine ah ?_
       exact q1 _ _ rfl (by repeat (first|exact f0|refine Fr.upd (by decide) ?_|refine Fr.via RF (by decide) ?_)) ak
      ·rcases au h with⟨e40,h⟩|⟨e40,h⟩
       ·refine ah ?_
        refine hK _ _ ?_;exact ih s_0 true (IntKind.wrap .i64 (kD+1)) _ _ _ (by repeat (first|exact f0|refine Fr.upd (by decide) ?_|refine Fr.via RF (by decide) ?_)) ak _ h _ q0 q1
       ·refine ah ?_
        refine av (Nh e20) ?_;refine ah ?_
        refine hK _ _ ?_;exact ih s_0 tC (IntKind.wrap .i64 (kD+1)) _ _ _ (by repeat (first|exact f0|refine Fr.upd (by decide) ?_|refine Fr.via RF (by decide) ?_)) ak _ h _ q0 q1
    ·cases h;refine ah ?_
     exact q0 _ _ rfl aM ak
def Gl (k:Nat) (s_0:Str):Option Bool:=
  Option.bind (DF k s_0) (fun o=>Sum.elim (fun mQ=>Option.bind (lZ k s_0 false 0) (fun o=>Sum.elim (fun p45=>some p45) (fun p50=>some p50) o)) (fun p55=>some p55) o)
theorem afy {k:Nat} {s_0:Str} {r:Bool} (h:Gl k s_0=some r):aC Tryz.prog 75 [(.str s_0)] (.bool r):=by
  refine aC.aP (bn.mem (.cons (.str _) .nil)) (aK awP (by simp) (aD ?_)) (.bool _);unfold Gl at h;unfold apY;refine ah ?_
  obtain⟨o9,h10,h⟩:=aj h;refine Y5 k s_0 _ _ _ (Fr.refl _ _) ak _ h10 _ ?_ ?_
  ·rintro mQ σ' eo Nj;subst eo;rw [bZ]at h;have s15:σ' 0=(.str s_0):=(Nj 0 (by decide)).trans ak;refine ah ?_
   obtain⟨o43,Qg,h⟩:=aj h;refine Y7 k s_0 false 0 _ _ _ (Fr.refl _ _) ak _ Qg _ ?_ ?_
   ·rintro p45 σ' eo ajj s49;subst eo;rw [bZ]at h;cases h;refine ah ?_
    exact(.pure _ (.bool _))
   ·rintro p50 σ' eo aBd s54;subst eo;rw [dn]at h;cases h;refine ah ?_
    exact(.pure _ (.bool _))
  ·rintro p55 σ' eo aqj s59;subst eo;rw [dn]at h;cases h;refine ah ?_
   exact(.pure _ (.bool _))
def zX (s_0:Str):Option Bool:=
  cond (s_0==([84,82,85,69]:Str)) (some true) (cond (s_0==([70,65,76,83,69]:Str)) (some true) (cond (s_0==([66,79,79,76,69,65,78]:Str)) (some true) (some (s_0==([83,84,82,73,78,71]:Str)))))
theorem Qh {s_0:Str} {r:Bool} (h:zX s_0=some r):aC Tryz.prog 76 [(.str s_0)] (.bool r):=by
  refine aC.aP (bn.mem (.cons (.str _) .nil)) (aK awQ (by simp) (aD ?_)) (.bool _);unfold zX at h;unfold apZ;rcases au h with⟨e1,h⟩|⟨e1,h⟩
  ·cases h;refine ah ?_
   exact(.pure _ (.bool _))
  ·rcases au h with⟨e2,h⟩|⟨e2,h⟩
   ·cases h;refine ah ?_
    exact(.pure _ (.bool _))
   ·rcases au h with⟨e3,h⟩|⟨e3,h⟩
    ·cases h;refine ah ?_
     exact(.pure _ (.bool _))
    ·cases h;refine ah ?_
     exact(.pure _ (.bool _))
def tZ (k:Nat) (s_0:Str):Option Bool:=
  Option.bind (Gl k s_0) fun p2=>cond p2 (Option.bind (zX s_0) fun p5=>cond p5 (some false) (cond (decide ((s_0.length:Int)>2)) (if 3<=s_0.length then cond ((s_0.take 3)==([87,70,95]:Str)) (some false) (some (!((s_0.take 3)==([83,70,95]:Str))))else none) (some true))) (some false)
theorem AL {k:Nat} {s_0:Str} {r:Bool} (h:tZ k s_0=some r):aC Tryz.prog 37 [(.str s_0)] (.bool r):=by
  refine aC.aP (bn.mem (.cons (.str _) .nil)) (aK apy (by simp) (aD ?_)) (.bool _);unfold tZ at h;unfold apx;obtain⟨p2,e1,h⟩:=aj h;refine ah ?_
  refine av (afy e1) ?_;rcases au h with⟨e3,h⟩|⟨e3,h⟩
  ·obtain⟨p5,e4,h⟩:=aj h;refine ah ?_
   refine av (Qh e4) ?_;rcases au h with⟨e6,h⟩|⟨e6,h⟩
   ·cases h;refine ah ?_
    exact(.pure _ (.bool _))
   ·rcases au h with⟨e7,h⟩|⟨e7,h⟩
    ·obtain⟨e8,h⟩:=aL h;rcases au h with⟨e9,h⟩|⟨e9,h⟩
     ·cases h;refine ah ?_
      exact(.pure _ (.bool _))
     ·cases h;refine ah ?_
      exact(.pure _ (.bool _))
    ·cases h;refine ah ?_
     exact(.pure _ (.bool _))
  ·cases h;refine ah ?_
   exact(.pure _ (.bool _))
def l5:Nat->Str->Int->Option (Unit⊕Bool)
  |0,_,_=>none
  |k+1,s_0,dL=>
    cond (decide (dL<(s_0.length:Int))) (if 0<=dL then Option.bind (s_0[dL.toNat]?) fun x3=>cond ((x3.toNat:Int)==33) (if 0<=dL/\dL.toNat<=s_0.length then Option.bind (tZ k (s_0.take dL.toNat)) fun p8=>cond p8 (if 0<=(IntKind.wrap .i64 (dL+1))/\(IntKind.wrap .i64 (dL+1)).toNat<=s_0.length then Option.bind (tZ k (s_0.drop (IntKind.wrap .i64 (dL+1)).toNat)) fun lW=>some (.inr (lW))else none) (some (.inr (false)))else none) (l5 k s_0 (IntKind.wrap .i64 (dL+1)))else none) (some (.inl ()))
def Gm:List Nat:=List.range' 2 23
theorem Y8: ∀(k:Nat) (s_0:Str) (dL:Int) (aA σ:Nat->PV) (H:AH) (f0:Fr Gm aA σ) (sl:σ 0=(.str s_0)/\σ 3=(.int .i64 dL)) (o:Unit⊕Bool) (h:l5 k s_0 dL=some o) (Q:Post) (q0: ∀(p:Unit) (σ':Nat->PV),o= .inl p->Fr Gm aA σ'->Q (.exit 0) σ' H) (q1: ∀(p:Bool) (σ':Nat->PV),o= .inr (p)->Fr Gm aA σ'->(σ' 2=(.bool p))->Q .ret σ' H),W Tryz.prog (.loop VP) Q σ H:=by
  intro k
  induction k with
  |zero=>intro s_0 dL aA σ H f0 sl o h Q q0 q1;simp only [l5,reduceCtorEq]at h
  |succ k ih=>
    intro s_0 dL aA σ H f0 sl o h Q q0 q1;obtain⟨s0,s3⟩:=sl;unfold l5 at h;refine bf (fun K hK=>aD ?_);unfold VP;rcases au h with⟨e1,h⟩|⟨e1,h⟩
    ·obtain⟨e2,h⟩:=aL h;obtain⟨x3,e4,h⟩:=aj h;rcases au h with⟨e5,h⟩|⟨e5,h⟩
     ·obtain⟨e6,h⟩:=aL h;obtain⟨p8,e7,h⟩:=aj h;refine ah ?_
      refine av (AL e7) ?_;rcases au h with⟨e9,h⟩|⟨e9,h⟩
      ·obtain⟨e10,h⟩:=aL h;obtain⟨lW,e11,h⟩:=aj h;refine ah ?_
       refine av (AL e11) ?_;cases h;refine ah ?_
       exact q1 _ _ rfl aM ak
      ·cases h;refine ah ?_
       exact q1 _ _ rfl aM ak
     ·refine ah ?_
      refine hK _ _ ?_;exact ih s_0 (IntKind.wrap .i64 (dL+1)) _ _ _ aM ak _ h _ q0 q1
    ·cases h;refine ah ?_
     exact q0 _ _ rfl aM
def zC (k:Nat) (s_0:Str):Option Bool:=
  Option.bind (l5 k s_0 0) (fun o=>Sum.elim (fun Qi=>Option.bind (tZ k s_0) fun tC=>some tC) (fun Gn=>some Gn) o)
theorem K5 {k:Nat} {s_0:Str} {r:Bool} (h:zC k s_0=some r):aC Tryz.prog 56 [(.str s_0)] (.bool r):=by
  refine aC.aP (bn.mem (.cons (.str _) .nil)) (aK awF (by simp) (aD ?_)) (.bool _);unfold zC at h;unfold apM;refine ah ?_
  obtain⟨o13,h14,h⟩:=aj h;refine Y8 k s_0 0 _ _ _ (Fr.refl _ _) ak _ h14 _ ?_ ?_
  ·rintro Qi σ' eo ajk;subst eo;rw [bZ]at h;have qM:σ' 0=(.str s_0):=(ajk 0 (by decide)).trans ak;obtain⟨tC,e20,h⟩:=aj h;refine ah ?_
   refine av (AL e20) ?_;cases h;refine ah ?_
   exact(.pure _ (.bool _))
  ·rintro Gn σ' eo WU s26;subst eo;rw [dn]at h;cases h;refine ah ?_
   exact(.pure _ (.bool _))
def uf (dX:Int):Option Bool:=
  cond (dX==0) (some ((dX==0))) (cond (dX==1) (some ((dX==1))) (cond (dX==2) (some ((dX==2))) (some ((dX==20)))))
def Qj:List Nat:=[5,6,7,8,9]
theorem aaH: ∀(dX:Int) (aA σ:Nat->PV) (H:AH) (f0:Fr Qj aA σ) (sl:σ 4=(.int .i64 dX)) (o:Bool) (h:uf dX=some o) (Q:Post) (q0: ∀(p:Bool) (σ':Nat->PV),o=p->Fr Qj aA σ'->(σ' 5=(.bool p))->Q .normal σ' H),W Tryz.prog Wy Q σ H:=by
  intro dX aA σ H f0 sl o h Q q0;have s4:=sl;unfold uf at h;refine aD ?_;unfold Wy;rcases au h with⟨e1,h⟩|⟨e1,h⟩
  ·cases h;refine ah ?_
   exact q0 _ _ rfl aM ak
  ·rcases au h with⟨e2,h⟩|⟨e2,h⟩
   ·cases h;refine ah ?_
    exact q0 _ _ rfl aM ak
   ·rcases au h with⟨e3,h⟩|⟨e3,h⟩
    ·cases h;refine ah ?_
     exact q0 _ _ rfl aM ak
    ·cases h;refine ah ?_
     exact q0 _ _ rfl aM ak
def AO (dX:Int):Option Bool:=
  cond (dX==4) (some ((dX==4))) (some ((dX==5)))
theorem aaI: ∀(dX:Int) (aA σ:Nat->PV) (H:AH) (f0:Fr [14,15,16] aA σ) (sl:σ 4=(.int .i64 dX)) (o:Bool) (h:AO dX=some o) (Q:Post) (q0: ∀(p:Bool) (σ':Nat->PV),o=p->Fr [14,15,16] aA σ'->(σ' 14=(.bool p))->Q .normal σ' H),W Tryz.prog Wz Q σ H:=by
  intro dX aA σ H f0 sl o h Q q0;have s4:=sl;unfold AO at h;refine aD ?_;unfold Wz;rcases au h with⟨e15,h⟩|⟨e15,h⟩
  ·cases h;refine ah ?_
   exact q0 _ _ rfl aM ak
  ·cases h;refine ah ?_
   exact q0 _ _ rfl aM ak
def AP (dX:Int):Option Bool:=
  cond (dX==6) (some ((dX==6))) (some ((dX==12)))
theorem aaJ: ∀(dX:Int) (aA σ:Nat->PV) (H:AH) (f0:Fr [18,19,20] aA σ) (sl:σ 4=(.int .i64 dX)) (o:Bool) (h:AP dX=some o) (Q:Post) (q0: ∀(p:Bool) (σ':Nat->PV),o=p->Fr [18,19,20] aA σ'->(σ' 18=(.bool p))->Q .normal σ' H),W Tryz.prog WA Q σ H:=by
  intro dX aA σ H f0 sl o h Q q0;have s4:=sl;unfold AP at h;refine aD ?_;unfold WA;rcases au h with⟨e26,h⟩|⟨e26,h⟩
  ·cases h;refine ah ?_
   exact q0 _ _ rfl aM ak
  ·cases h;refine ah ?_
   exact q0 _ _ rfl aM ak
def AQ (dX:Int):Option Bool:=
  cond (dX==7) (some ((dX==7))) (cond (dX==8) (some ((dX==8))) (cond (dX==9) (some ((dX==9))) (some ((dX==13)))))
def Qk:List Nat:=[22,23,24,25,26]
theorem aaK: ∀(dX:Int) (aA σ:Nat->PV) (H:AH) (f0:Fr Qk aA σ) (sl:σ 4=(.int .i64 dX)) (o:Bool) (h:AQ dX=some o) (Q:Post) (q0: ∀(p:Bool) (σ':Nat->PV),o=p->Fr Qk aA σ'->(σ' 22=(.bool p))->Q .normal σ' H),W Tryz.prog WB Q σ H:=by
  intro dX aA σ H f0 sl o h Q q0;have s4:=sl;unfold AQ at h;refine aD ?_;unfold WB;rcases au h with⟨e37,h⟩|⟨e37,h⟩
  ·cases h;refine ah ?_
   exact q0 _ _ rfl aM ak
  ·rcases au h with⟨e38,h⟩|⟨e38,h⟩
   ·cases h;refine ah ?_
    exact q0 _ _ rfl aM ak
   ·rcases au h with⟨e39,h⟩|⟨e39,h⟩
    ·cases h;refine ah ?_
     exact q0 _ _ rfl aM ak
    ·cases h;refine ah ?_
     exact q0 _ _ rfl aM ak
def AU (dX:Int):Option Bool:=
  cond (dX==10) (some ((dX==10))) (some ((dX==11)))
theorem aaL: ∀(dX:Int) (aA σ:Nat->PV) (H:AH) (f0:Fr [28,29,30] aA σ) (sl:σ 4=(.int .i64 dX)) (o:Bool) (h:AU dX=some o) (Q:Post) (q0: ∀(p:Bool) (σ':Nat->PV),o=p->Fr [28,29,30] aA σ'->(σ' 28=(.bool p))->Q .normal σ' H),W Tryz.prog WC Q σ H:=by
  intro dX aA σ H f0 sl o h Q q0;have s4:=sl;unfold AU at h;refine aD ?_;unfold WC;rcases au h with⟨e50,h⟩|⟨e50,h⟩
  ·cases h;refine ah ?_
   exact q0 _ _ rfl aM ak
  ·cases h;refine ah ?_
   exact q0 _ _ rfl aM ak
def AV (dX:Int):Option Bool:=
  cond (dX==15) (some ((dX==15))) (cond (dX==25) (some ((dX==25))) (cond (dX==26) (some ((dX==26))) (cond (dX==27) (some ((dX==27))) (some ((dX==28))))))
def Ql:List Nat:=[35,36,37,38,39,40]
theorem aaM: ∀(dX:Int) (aA σ:Nat->PV) (H:AH) (f0:Fr Ql aA σ) (sl:σ 4=(.int .i64 dX)) (o:Bool) (h:AV dX=some o) (Q:Post) (q0: ∀(p:Bool) (σ':Nat->PV),o=p->Fr Ql aA σ'->(σ' 35=(.bool p))->Q .normal σ' H),W Tryz.prog WI Q σ H:=by
  intro dX aA σ H f0 sl o h Q q0;have s4:=sl;unfold AV at h;refine aD ?_;unfold WI;rcases au h with⟨e62,h⟩|⟨e62,h⟩
  ·cases h;refine ah ?_
   exact q0 _ _ rfl aM ak
  ·rcases au h with⟨e63,h⟩|⟨e63,h⟩
   ·cases h;refine ah ?_
    exact q0 _ _ rfl aM ak
   ·rcases au h with⟨e64,h⟩|⟨e64,h⟩
    ·cases h;refine ah ?_
     exact q0 _ _ rfl aM ak
    ·rcases au h with⟨e65,h⟩|⟨e65,h⟩
     ·cases h;refine ah ?_
      exact q0 _ _ rfl aM ak
     ·cases h;refine ah ?_
      exact q0 _ _ rfl aM ak
def AX (dX:Int):Option Bool:=
  cond (dX==16) (some ((dX==16))) (some ((dX==17)))
theorem aaN: ∀(dX:Int) (aA σ:Nat->PV) (H:AH) (f0:Fr [42,43,44] aA σ) (sl:σ 4=(.int .i64 dX)) (o:Bool) (h:AX dX=some o) (Q:Post) (q0: ∀(p:Bool) (σ':Nat->PV),o=p->Fr [42,43,44] aA σ'->(σ' 42=(.bool p))->Q .normal σ' H),W Tryz.prog WJ Q σ H:=by
  intro dX aA σ H f0 sl o h Q q0;have s4:=sl;unfold AX at h;refine aD ?_;unfold WJ;rcases au h with⟨Yp,h⟩|⟨Yp,h⟩
  ·cases h;refine ah ?_
   exact q0 _ _ rfl aM ak
  ·cases h;refine ah ?_
   exact q0 _ _ rfl aM ak
def sI (dK:Int):Option ((Int×Int×Int×Int)×Bool):=
  Option.bind (uf dK) (fun p6=>cond p6 (some ((0,0,0,0),false)) (cond (dK==3) (some ((0,0,1,4),false)) (Option.bind (AO dK) (fun sj=>cond sj (some ((0,0,0,30),false)) (Option.bind (AP dK) (fun p29=>cond p29 (some ((1,1,2,2),false)) (Option.bind (AQ dK) (fun p42=>cond p42 (some ((1,4,1,1),true)) (Option.bind (AU dK) (fun p53=>cond p53 (some ((1,4,1,1),false)) (cond (dK==14) (some ((0,0,2,5),false)) (Option.bind (AV dK) (fun p68=>cond p68 (some ((0,0,2,2),false)) (Option.bind (AX dK) (fun p79=>cond p79 (some ((1,30,0,0),true)) (cond (dK==18) (some ((0,0,1,1),false)) (cond (dK==19) (some ((0,0,3,3),false)) (cond (dK==21) (some ((0,0,3,3),false)) (cond (dK==22) (some ((0,0,2,30),false)) (cond (dK==23) (some ((1,5,2,2),false)) (some ((1,4,1,1),false))))))))))))))))))))))
theorem ahd {dK:Int} {r:(Int×Int×Int×Int)×Bool} (h:sI dK=some r):aC Tryz.prog 95 [(.int .i64 dK)] (.dR [(.agg [(.int .i64 r.1.1),(.int .i64 r.1.2.1),(.int .i64 r.1.2.2.1),(.int .i64 r.1.2.2.2)]),(.bool r.2)]):=by
  refine aC.aP (bn.mem (.cons (.int _ _) .nil)) (aK aw1 (by simp) (aD ?_)) (.dR _ (bn.mem (.cons (.agg _ (bn.mem (.cons (.int _ _) (.cons (.int _ _) (.cons (.int _ _) (.cons (.int _ _) .nil)))))) (.cons (.bool _) .nil))));unfold sI at h;unfold aqb;refine ah ?_
  obtain⟨o4,h5,h⟩:=aj h;refine aaH dK _ _ _ (Fr.refl _ _) ak _ h5 _ ?_
  ·rintro p6 σ' eo fr7 s10;rw [eo]at h;have s11:σ' 2=(.ref (AH.empty.next) 0):=(fr7 2 (by decide)).trans ak;have s12:σ' 4=(.int .i64 dK):=(fr7 4 (by decide)).trans ak;rcases au h with⟨e13,h⟩|⟨e13,h⟩
   ·cases h;refine ah ?_
    exact(dJ (.cons (dN (aN (aN (aN (aN .nil))))) (.cons (.pure _ (.bool _)) .nil)))
   ·rcases au h with⟨e14,h⟩|⟨e14,h⟩
    ·cases h;refine ah ?_
     exact(dJ (.cons (dN (aN (aN (aN (aN .nil))))) (.cons (.pure _ (.bool _)) .nil)))
    ·refine ah ?_
     obtain⟨o16,h17,h⟩:=aj h;refine aaI dK _ _ _ (Fr.refl _ _) ak _ h17 _ ?_
     ·rintro sj σ' eo afz s22;rw [eo]at h;have s23:σ' 2=(.ref (AH.empty.next) 0):=(afz 2 (by decide)).trans ak;have s24:σ' 4=(.int .i64 dK):=(afz 4 (by decide)).trans ak;rcases au h with⟨e25,h⟩|⟨e25,h⟩
      ·cases h;refine ah ?_
       exact(dJ (.cons (dN (aN (aN (aN (aN .nil))))) (.cons (.pure _ (.bool _)) .nil)))
      ·refine ah ?_
       obtain⟨o27,h28,h⟩:=aj h;refine aaJ dK _ _ _ (Fr.refl _ _) ak _ h28 _ ?_
       ·rintro p29 σ' eo Jl s33;rw [eo]at h;have s34:σ' 2=(.ref (AH.empty.next) 0):=(Jl 2 (by decide)).trans ak;have s35:σ' 4=(.int .i64 dK):=(Jl 4 (by decide)).trans ak;rcases au h with⟨e36,h⟩|⟨e36,h⟩
        ·cases h;refine ah ?_
         exact(dJ (.cons (dN (aN (aN (aN (aN .nil))))) (.cons (.pure _ (.bool _)) .nil)))
        ·refine ah ?_
         obtain⟨o40,h41,h⟩:=aj h;refine aaK dK _ _ _ (Fr.refl _ _) ak _ h41 _ ?_
         ·rintro p42 σ' eo aqn s46;rw [eo]at h;have s47:σ' 2=(.ref (AH.empty.next) 0):=(aqn 2 (by decide)).trans ak;have s48:σ' 4=(.int .i64 dK):=(aqn 4 (by decide)).trans ak;rcases au h with⟨e49,h⟩|⟨e49,h⟩
          ·cases h;refine ah ?_
           exact(dJ (.cons (dN (aN (aN (aN (aN .nil))))) (.cons (.pure _ (.bool _)) .nil)))
          ·refine ah ?_
           obtain⟨o51,h52,h⟩:=aj h;refine aaL dK _ _ _ (Fr.refl _ _) ak _ h52 _ ?_
           ·rintro p53 σ' eo K6 s57;rw [eo]at h;have s58:σ' 2=(.ref (AH.empty.next) 0):=(K6 2 (by decide)).trans ak;have s59:σ' 4=(.int .i64 dK):=(K6 4 (by decide)).trans ak;rcases au h with⟨e60,h⟩|⟨e60,h⟩
            ·cases h;refine ah ?_
             exact(dJ (.cons (dN (aN (aN (aN (aN .nil))))) (.cons (.pure _ (.bool _)) .nil)))
            ·rcases au h with⟨e61,h⟩|⟨e61,h⟩
             ·cases h;refine ah ?_
              exact(dJ (.cons (dN (aN (aN (aN (aN .nil))))) (.cons (.pure _ (.bool _)) .nil)))
             ·refine ah ?_
              obtain⟨o66,h67,h⟩:=aj h;refine aaM dK _ _ _ (Fr.refl _ _) ak _ h67 _ ?_
              ·rintro p68 σ' eo aqr s72;rw [eo]at h;have s73:σ' 2=(.ref (AH.empty.next) 0):=(aqr 2 (by decide)).trans ak;have s74:σ' 4=(.int .i64 dK):=(aqr 4 (by decide)).trans ak;rcases au h with⟨Tc,h⟩|⟨Tc,h⟩
               ·cases h;refine ah ?_
                exact(dJ (.cons (dN (aN (aN (aN (aN .nil))))) (.cons (.pure _ (.bool _)) .nil)))
               ·refine ah ?_
                obtain⟨o77,h78,h⟩:=aj h;refine aaN dK _ _ _ (Fr.refl _ _) ak _ h78 _ ?_
                ·rintro p79 σ' eo aqs s83;rw [eo]at h;have s84:σ' 2=(.ref (AH.empty.next) 0):=(aqs 2 (by decide)).trans ak;have s85:σ' 4=(.int .i64 dK):=(aqs 4 (by decide)).trans ak;rcases au h with⟨Td,h⟩|⟨Td,h⟩
                 ·cases h;refine ah ?_
                  exact(dJ (.cons (dN (aN (aN (aN (aN .nil))))) (.cons (.pure _ (.bool _)) .nil)))
                 ·rcases au h with⟨e87,h⟩|⟨e87,h⟩
                  ·cases h;refine ah ?_
                   exact(dJ (.cons (dN (aN (aN (aN (aN .nil))))) (.cons (.pure _ (.bool _)) .nil)))
                  ·rcases au h with⟨Nk,h⟩|⟨Nk,h⟩
                   ·cases h;refine ah ?_
                    exact(dJ (.cons (dN (aN (aN (aN (aN .nil))))) (.cons (.pure _ (.bool _)) .nil)))
                   ·rcases au h with⟨Te,h⟩|⟨Te,h⟩
                    ·cases h;refine ah ?_
                     exact(dJ (.cons (dN (aN (aN (aN (aN .nil))))) (.cons (.pure _ (.bool _)) .nil)))
                    ·rcases au h with⟨Tf,h⟩|⟨Tf,h⟩
                     ·cases h;refine ah ?_
                      exact(dJ (.cons (dN (aN (aN (aN (aN .nil))))) (.cons (.pure _ (.bool _)) .nil)))
                     ·rcases au h with⟨Tg,h⟩|⟨Tg,h⟩
                      ·cases h;refine ah ?_
                       exact(dJ (.cons (dN (aN (aN (aN (aN .nil))))) (.cons (.pure _ (.bool _)) .nil)))
                      ·cases h;refine ah ?_
                       exact(dJ (.cons (dN (aN (aN (aN (aN .nil))))) (.cons (.pure _ (.bool _)) .nil)))
def ny:Nat->(List Nd)->Int->Option (Int⊕Int)
  |0,_,_=>none
  |k+1,aJ,fP=>
    if 0<=fP then Option.bind (aJ[fP.toNat]?) fun x3=>cond (decide ((x3.args.length:Int)>0)) (Option.bind (x3.args[0]?) fun x6=>Option.bind (iY x6 0 (IntKind.wrap .i64 (fP -1))) fun p9=>cond p9 (ny k aJ x6) (some (.inr ((-1))))) (some (.inl fP))else none
def Jm:List Nat:=[1,4,5]++List.range' 8 20
theorem aaP: ∀(k:Nat) (aJ:List Nd) (fP:Int) (aA σ:Nat->PV) (H:AH) (f0:Fr Jm aA σ) (sl:σ 0=(.aB (aJ.map Nd.cells) .unk)/\σ 1=(.int .i64 fP)) (o:Int⊕Int) (h:ny k aJ fP=some o) (Q:Post) (q0: ∀(p:Int) (σ':Nat->PV),o= .inl p->Fr Jm aA σ'->(σ' 1=(.int .i64 p))->Q (.exit 0) σ' H) (q1: ∀(p:Int) (σ':Nat->PV),o= .inr (p)->Fr Jm aA σ'->(σ' 4=(.int .i64 p))->Q .ret σ' H),W Tryz.prog (.loop VQ) Q σ H:=by
  intro k
  induction k with
  |zero=>intro aJ fP aA σ H f0 sl o h Q q0 q1;simp only [ny,reduceCtorEq]at h
  |succ k ih=>
    intro aJ fP aA σ H f0 sl o h Q q0 q1;obtain⟨s0,s1⟩:=sl;unfold ny at h;refine bf (fun K hK=>aD ?_);unfold VQ;obtain⟨e2,h⟩:=aL h;obtain⟨x3,e4,h⟩:=aj h;rcases au h with⟨e5,h⟩|⟨e5,h⟩
    ·obtain⟨x6,e7,h⟩:=aj h;obtain⟨p9,e8,h⟩:=aj h;refine ah ?_
     refine av (jm e8) ?_;rcases au h with⟨e10,h⟩|⟨e10,h⟩
     ·refine ah ?_
      refine hK _ _ ?_;exact ih aJ x6 _ _ _ aM ak _ h _ q0 q1
     ·cases h;refine ah ?_
      exact q1 _ _ rfl aM ak
    ·cases h;refine ah ?_
     exact q0 _ _ rfl aM ak
def uW (k:Nat) (aJ:List Nd) (fP:Int):Option Int:=
  cond (decide (fP<0)) (some (-1)) (Option.bind (ny k aJ fP) (fun o=>Sum.elim (fun yG=>some yG) (fun sj=>some sj) o))
theorem Nl {k:Nat} {aJ:List Nd} {fP:Int} {c0:Ck} {r:Int} (h:uW k aJ fP=some r):aC Tryz.prog 57 [(.aB (aJ.map Nd.cells) c0),(.int .i64 fP)] (.int .i64 r):=by
  refine aC.lw (.aB (.same .nil)) (aC.aP (bn.mem (.cons (bC Nd.pu _) (.cons (.int _ _) .nil))) (aK awG (by simp) (aD ?_)) (.int _ _));unfold uW at h;unfold apN;rcases au h with⟨e1,h⟩|⟨e1,h⟩
  ·cases h;refine ah ?_
   exact(.pure _ (.int _ _))
  ·refine ah ?_
   obtain⟨o11,h12,h⟩:=aj h;refine aaP k aJ fP _ _ _ (Fr.refl _ _) ak _ h12 _ ?_ ?_
   ·rintro yG σ' eo aqt s17;subst eo;rw [bZ]at h;cases h;refine ah ?_
    exact(.pure _ (.int _ _))
   ·rintro sj σ' eo afz s22;subst eo;rw [dn]at h;cases h;refine ah ?_
    exact(.pure _ (.int _ _))
def pU:Nat->(List Nd)->Int->Int->Int->Option (Unit⊕Bool)
  |0,_,_,_,_=>none
  |k+1,aJ,dP,D8,oW=>
    cond (decide (oW>=0)) (if 0<=dP then Option.bind (aJ[dP.toNat]?) fun x6=>if 0<=oW then Option.bind (x6.args[oW.toNat]?) fun x9=>cond (x9 !=(IntKind.wrap .i64 (D8 -1))) (some (.inr (false))) (cond (decide (D8<1)) (some (.inr (false))) (Option.bind (uW k aJ (IntKind.wrap .i64 (D8 -1))) fun jq=>pU k aJ dP jq (IntKind.wrap .i64 (oW -1))))else none else none) (some (.inl ()))
def Gp:List Nat:=[4,5,6]++List.range' 15 23
theorem Y9: ∀(k:Nat) (aJ:List Nd) (dP:Int) (D8:Int) (oW:Int) (aA σ:Nat->PV) (H:AH) (f0:Fr Gp aA σ) (sl:σ 0=(.aB (aJ.map Nd.cells) .unk)/\σ 1=(.int .i64 dP)/\σ 5=(.int .i64 D8)/\σ 6=(.int .i64 oW)) (o:Unit⊕Bool) (h:pU k aJ dP D8 oW=some o) (Q:Post) (q0: ∀(p:Unit) (σ':Nat->PV),o= .inl p->Fr Gp aA σ'->Q (.exit 0) σ' H) (q1: ∀(p:Bool) (σ':Nat->PV),o= .inr (p)->Fr Gp aA σ'->(σ' 4=(.bool p))->Q .ret σ' H),W Tryz.prog (.loop WK) Q σ H:=by
  intro k
  induction k with
  |zero=>intro aJ dP D8 oW aA σ H f0 sl o h Q q0 q1;simp only [pU,reduceCtorEq]at h
  |succ k ih=>
    intro aJ dP D8 oW aA σ H f0 sl o h Q q0 q1;obtain⟨s0,s1,s5,s6⟩:=sl;unfold pU at h;refine bf (fun K hK=>aD ?_);unfold WK;rcases au h with⟨e4,h⟩|⟨e4,h⟩
    ·obtain⟨e5,h⟩:=aL h;obtain⟨x6,e7,h⟩:=aj h;obtain⟨e8,h⟩:=aL h;obtain⟨x9,e10,h⟩:=aj h;rcases au h with⟨e11,h⟩|⟨e11,h⟩
     ·cases h;refine ah ?_
      exact q1 _ _ rfl aM ak
     ·rcases au h with⟨e12,h⟩|⟨e12,h⟩
      ·cases h;refine ah ?_
       exact q1 _ _ rfl aM ak
      ·obtain⟨jq,e13,h⟩:=aj h;refine ah ?_
       refine av (Nl e13) ?_;refine ah ?_
       refine hK _ _ ?_;exact ih aJ dP jq (IntKind.wrap .i64 (oW -1)) _ _ _ aM ak _ h _ q0 q1
    ·cases h;refine ah ?_
     exact q0 _ _ rfl aM
def CQ (k:Nat) (aJ:List Nd) (dP:Int):Option Bool:=
  if 0<=dP then Option.bind (aJ[dP.toNat]?) fun x2=>Option.bind (pU k aJ dP dP (IntKind.wrap .i64 ((x2.args.length:Int) -1))) (fun o=>Sum.elim (fun Qm=>some true) (fun tC=>some tC) o)else none
theorem afA {k:Nat} {aJ:List Nd} {dP:Int} {c0:Ck} {r:Bool} (h:CQ k aJ dP=some r):aC Tryz.prog 96 [(.aB (aJ.map Nd.cells) c0),(.int .i64 dP)] (.bool r):=by
  refine aC.lw (.aB (.same .nil)) (aC.aP (bn.mem (.cons (bC Nd.pu _) (.cons (.int _ _) .nil))) (aK aqd (by simp) (aD ?_)) (.bool _));unfold CQ at h;unfold aqc;obtain⟨e1,h⟩:=aL h;obtain⟨x2,e3,h⟩:=aj h;refine ah ?_
  obtain⟨o15,h16,h⟩:=aj h;refine Y9 k aJ dP dP (IntKind.wrap .i64 ((x2.args.length:Int) -1)) _ _ _ (Fr.refl _ _) ak _ h16 _ ?_ ?_
  ·rintro Qm σ' eo axa;subst eo;rw [bZ]at h;cases h;refine ah ?_
   exact(.pure _ (.bool _))
  ·rintro tC σ' eo aBe s25;subst eo;rw [dn]at h;cases h;refine ah ?_
   exact(.pure _ (.bool _))
def l8:Nat->Str->Int->Option (Unit⊕Bool)
  |0,_,_=>none
  |k+1,s_0,fJ=>
    cond (decide (fJ<(s_0.length:Int))) (if 0<=fJ then Option.bind (s_0[fJ.toNat]?) fun x4=>cond (decide ((x4.toNat:Int)<32)) (some (.inr (false))) (cond (decide ((x4.toNat:Int)>126)) (some (.inr (false))) (l8 k s_0 (IntKind.wrap .i64 (fJ+1))))else none) (some (.inl ()))
def Ew:List Nat:=[4,5]++List.range' 10 16
theorem WV: ∀(k:Nat) (s_0:Str) (fJ:Int) (aA σ:Nat->PV) (H:AH) (f0:Fr Ew aA σ) (sl:σ 0=(.str s_0)/\σ 5=(.int .i64 fJ)) (o:Unit⊕Bool) (h:l8 k s_0 fJ=some o) (Q:Post) (q0: ∀(p:Unit) (σ':Nat->PV),o= .inl p->Fr Ew aA σ'->Q (.exit 0) σ' H) (q1: ∀(p:Bool) (σ':Nat->PV),o= .inr (p)->Fr Ew aA σ'->(σ' 4=(.bool p))->Q .ret σ' H),W Tryz.prog (.loop Ro) Q σ H:=by
  intro k
  induction k with
  |zero=>intro s_0 fJ aA σ H f0 sl o h Q q0 q1;simp only [l8,reduceCtorEq]at h
  |succ k ih=>
    intro s_0 fJ aA σ H f0 sl o h Q q0 q1;obtain⟨s0,s5⟩:=sl;unfold l8 at h;refine bf (fun K hK=>aD ?_);unfold Ro;rcases au h with⟨e2,h⟩|⟨e2,h⟩
    ·obtain⟨e3,h⟩:=aL h;obtain⟨x4,e5,h⟩:=aj h;rcases au h with⟨e6,h⟩|⟨e6,h⟩
     ·cases h;refine ah ?_
      exact q1 _ _ rfl aM ak
     ·rcases au h with⟨e7,h⟩|⟨e7,h⟩
      ·cases h;refine ah ?_
       exact q1 _ _ rfl aM ak
      ·refine ah ?_
       refine hK _ _ ?_;exact ih s_0 (IntKind.wrap .i64 (fJ+1)) _ _ _ aM ak _ h _ q0 q1
    ·cases h;refine ah ?_
     exact q0 _ _ rfl aM
def D9 (k:Nat) (s_0:Str) (Ti:Int):Option Bool:=
  cond (decide ((s_0.length:Int)>Ti)) (some false) (Option.bind (l8 k s_0 0) (fun o=>Sum.elim (fun jo=>some true) (fun jq=>some jq) o))
theorem adt {k:Nat} {s_0:Str} {Ti:Int} {r:Bool} (h:D9 k s_0 Ti=some r):aC Tryz.prog 148 [(.str s_0),(.int .i64 Ti)] (.bool r):=by
  refine aC.aP (bn.mem (.cons (.str _) (.cons (.int _ _) .nil))) (aK atW (by simp) (aD ?_)) (.bool _);unfold D9 at h;unfold alr;rcases au h with⟨e1,h⟩|⟨e1,h⟩
  ·cases h;refine ah ?_
   exact(.pure _ (.bool _))
  ·refine ah ?_
   obtain⟨o8,h9,h⟩:=aj h;refine WV k s_0 0 _ _ _ (Fr.refl _ _) ak _ h9 _ ?_ ?_
   ·rintro jo σ' eo WQ;subst eo;rw [bZ]at h;cases h;refine ah ?_
    exact(.pure _ (.bool _))
   ·rintro jq σ' eo vv qB;subst eo;rw [dn]at h;cases h;refine ah ?_
    exact(.pure _ (.bool _))
def pz:Nat->Str->Int->Option (Unit⊕Bool)
  |0,_,_=>none
  |k+1,s_0,dL=>
    cond (decide (dL<(s_0.length:Int))) (if 0<=dL then Option.bind (s_0[dL.toNat]?) fun x6=>cond ((x6.toNat:Int)==34) (some (.inr (false))) (cond ((x6.toNat:Int)==92) (some (.inr (false))) (pz k s_0 (IntKind.wrap .i64 (dL+1))))else none) (some (.inl ()))
def Jo:List Nat:=[2,3]++List.range' 7 16
theorem aaR: ∀(k:Nat) (s_0:Str) (dL:Int) (aA σ:Nat->PV) (H:AH) (f0:Fr Jo aA σ) (sl:σ 0=(.str s_0)/\σ 3=(.int .i64 dL)) (o:Unit⊕Bool) (h:pz k s_0 dL=some o) (Q:Post) (q0: ∀(p:Unit) (σ':Nat->PV),o= .inl p->Fr Jo aA σ'->Q (.exit 0) σ' H) (q1: ∀(p:Bool) (σ':Nat->PV),o= .inr (p)->Fr Jo aA σ'->(σ' 2=(.bool p))->Q .ret σ' H),W Tryz.prog (.loop WL) Q σ H:=by
  intro k
  induction k with
  |zero=>intro s_0 dL aA σ H f0 sl o h Q q0 q1;simp only [pz,reduceCtorEq]at h
  |succ k ih=>
    intro s_0 dL aA σ H f0 sl o h Q q0 q1;obtain⟨s0,s3⟩:=sl;unfold pz at h;refine bf (fun K hK=>aD ?_);unfold WL;rcases au h with⟨e4,h⟩|⟨e4,h⟩
    ·obtain⟨e5,h⟩:=aL h;obtain⟨x6,e7,h⟩:=aj h;rcases au h with⟨e8,h⟩|⟨e8,h⟩
     ·cases h;refine ah ?_
      exact q1 _ _ rfl aM ak
     ·rcases au h with⟨e9,h⟩|⟨e9,h⟩
      ·cases h;refine ah ?_
       exact q1 _ _ rfl aM ak
      ·refine ah ?_
       refine hK _ _ ?_;exact ih s_0 (IntKind.wrap .i64 (dL+1)) _ _ _ aM ak _ h _ q0 q1
    ·cases h;refine ah ?_
     exact q0 _ _ rfl aM
def iP (k:Nat) (s_0:Str):Option Bool:=
  Option.bind (D9 k s_0 40) fun p2=>cond p2 (Option.bind (pz k s_0 0) (fun o=>Sum.elim (fun lW=>some true) (fun p16=>some p16) o)) (some false)
theorem mH {k:Nat} {s_0:Str} {r:Bool} (h:iP k s_0=some r):aC Tryz.prog 97 [(.str s_0)] (.bool r):=by
  refine aC.aP (bn.mem (.cons (.str _) .nil)) (aK aw2 (by simp) (aD ?_)) (.bool _);unfold iP at h;unfold aqe;obtain⟨p2,e1,h⟩:=aj h;refine ah ?_
  refine av (adt e1) ?_;rcases au h with⟨e3,h⟩|⟨e3,h⟩
  ·refine ah ?_
   obtain⟨o10,h11,h⟩:=aj h;refine aaR k s_0 0 _ _ _ (Fr.refl _ _) ak _ h11 _ ?_ ?_
   ·rintro lW σ' eo vS;subst eo;rw [bZ]at h;cases h;refine ah ?_
    exact(.pure _ (.bool _))
   ·rintro p16 σ' eo aaS s20;subst eo;rw [dn]at h;cases h;refine ah ?_
    exact(.pure _ (.bool _))
  ·cases h;refine ah ?_
   exact(.pure _ (.bool _))
def AY (aZ:Int) (bS:Int) (bG:Str) (bT:List Str) (bY:List Int) (aaT:Bool):Option Bool:=
  cond aaT (some ((aZ==3))) (some (false))
theorem WW: ∀(cK:Nat) (aZ:Int) (bS:Int) (bG:Str) (bT:List Str) (bY:List Int) (aaT:Bool) (aA σ:Nat->PV) (H:AH) (f0:Fr [38,39,40,41] aA σ) (sl:σ 5=(.ref (cK) 0)/\σ 37=(.bool aaT)/\H.obj cK=some [(.int .i64 aZ),(.int .i64 bS),(.str bG),(.aB (bT.map aU) .unk),(.aB (bY.map bD) .unk)]) (dh:cK<H.next) (o:Bool) (h:AY aZ bS bG bT bY aaT=some o) (Q:Post) (q0: ∀(p:Bool) (σ':Nat->PV),o=p->Fr [38,39,40,41] aA σ'->(σ' 41=(.bool p))->Q .normal σ' H),dD Tryz.prog VA (Q .normal) σ H:=by
  intro cK aZ bS bG bT bY aaT aA σ H f0 sl dh o h Q q0;obtain⟨s5,s37,xB⟩:=sl;have xC:=ne_next dh;have xD:=aR dh;unfold AY at h;refine dB ?_;unfold VA;rcases au h with⟨e11,h⟩|⟨e11,h⟩
  ·cases h;refine ah ?_
   exact q0 _ _ rfl aM ak
  ·cases h;refine ah ?_
   exact q0 _ _ rfl aM ak
def vU (k:Nat) (aZ:Int) (bS:Int) (bG:Str) (bT:List Str) (bY:List Int) (AZ:Int) (A8:Int) (A9:Int) (Ba:Int):Option ((Int×Int×Int×Int)):=
  Option.bind (qA k bG) fun jo=>Option.bind (AY aZ bS bG bT bY jo.2) (fun jq=>cond jq (some ((AZ,A8,0,(bY.length:Int)))) (some ((AZ,A8,A9,Ba))))
def L8:List Nat:=[8,9]++List.range' 30 17
theorem WX (k:Nat): ∀(cK:Nat) (ug:Nat) (aZ:Int) (bS:Int) (bG:Str) (bT:List Str) (bY:List Int) (AZ:Int) (A8:Int) (A9:Int) (Ba:Int) (aA σ:Nat->PV) (H0 H:AH) (f0:Fr L8 aA σ) (hf0:HF [ug] H0 H) (sl:σ 5=(.ref (cK) 0)/\σ 6=(.ref (ug) 0)/\H.obj cK=some [(.int .i64 aZ),(.int .i64 bS),(.str bG),(.aB (bT.map aU) .unk),(.aB (bY.map bD) .unk)]/\H.obj ug=some [(.int .i64 AZ),(.int .i64 A8),(.int .i64 A9),(.int .i64 Ba)]) (dh:cK<H.next) (CS:ug<H.next) (Ey:cK≠ug) (o:(Int×Int×Int×Int)) (h:vU k aZ bS bG bT bY AZ A8 A9 Ba=some o) (Q:Post) (q0: ∀(p:Int×Int×Int×Int) (σ':Nat->PV) (H':AH),o=p->Fr L8 aA σ'->HF [ug] H0 H'->(H'.obj ug=some [(.int .i64 p.1),(.int .i64 p.2.1),(.int .i64 p.2.2.1),(.int .i64 p.2.2.2)])->Q .normal σ' H'),W Tryz.prog VB Q σ H:=by
  intro cK ug aZ bS bG bT bY AZ A8 A9 Ba aA σ H0 H f0 hf0 sl dh CS Ey o h Q q0;obtain⟨s5,s6,xB,anj⟩:=sl;have xC:=ne_next dh;have xD:=aR dh;have ank:=ne_next CS;have anl:=aR CS;have aoj:=eq_false Ey;have aok:=eq_false (Ne.symm Ey);have hle0:=hf0.1;unfold vU at h;refine aD ?_;unfold VB;obtain⟨jo,e9,h⟩:=aj h;refine ah ?_
  refine av (CP e9) ?_;refine ah ?_
  obtain⟨o12,Nn,h⟩:=aj h;refine WW (cK) aZ bS bG bT bY jo.2 _ _ _ (Fr.refl _ _) ak bJ _ Nn _ ?_
  ·rintro jq σ' eo vv qB;rw [eo]at h;have qM:σ' 5=(.ref (cK) 0):=(vv 5 (by decide)).trans ak;have s20:σ' 6=(.ref (ug) 0):=(vv 6 (by decide)).trans ak;rcases au h with⟨e21,h⟩|⟨e21,h⟩
   ·refine ah ?_
    refine U4 (ug) ?_;cases h;refine ah ?_
    exact q0 _ _ _ rfl (by repeat (first|exact f0|refine Fr.upd (by decide) ?_|refine Fr.via vv (by decide) ?_)) oo ak
   ·cases h;refine ah ?_
    exact q0 _ _ _ rfl (by repeat (first|exact f0|refine Fr.upd (by decide) ?_|refine Fr.via vv (by decide) ?_)) oo ak
def vV (AZ:Int) (A8:Int) (A9:Int) (Ba:Int) (JQ:Int) (Gq:Bool):Option Bool:=
  cond Gq (some (true)) (Option.bind (iY JQ A9 Ba) fun p46=>some ((!p46)))
def L9:List Nat:=List.range' 67 8
theorem WY: ∀(ug:Nat) (AZ:Int) (A8:Int) (A9:Int) (Ba:Int) (JQ:Int) (Gq:Bool) (aA σ:Nat->PV) (H:AH) (f0:Fr L9 aA σ) (sl:σ 6=(.ref (ug) 0)/\σ 10=(.int .i64 JQ)/\σ 66=(.bool Gq)/\H.obj ug=some [(.int .i64 AZ),(.int .i64 A8),(.int .i64 A9),(.int .i64 Ba)]) (CS:ug<H.next) (o:Bool) (h:vV AZ A8 A9 Ba JQ Gq=some o) (Q:Post) (q0: ∀(p:Bool) (σ':Nat->PV),o=p->Fr L9 aA σ'->(σ' 74=(.bool p))->Q .normal σ' H),dD Tryz.prog VD (Q .normal) σ H:=by
  intro ug AZ A8 A9 Ba JQ Gq aA σ H f0 sl CS o h Q q0;obtain⟨s6,s10,s66,anj⟩:=sl;have ank:=ne_next CS;have anl:=aR CS;unfold vV at h;refine dB ?_;unfold VD;rcases au h with⟨e44,h⟩|⟨e44,h⟩
  ·cases h;refine ah ?_
   exact q0 _ _ rfl aM ak
  ·obtain⟨p46,e45,h⟩:=aj h;refine ah ?_
   refine av (jm e45) ?_;cases h;refine ah ?_
   exact q0 _ _ rfl aM ak
def vW (aZ:Int) (bS:Int) (bG:Str) (bT:List Str) (bY:List Int) (aaU:Bool):Option Bool:=
  cond aaU (some (true)) (cond (aZ==2) (some (true)) (cond (aZ==3) (some (true)) (some ((aZ==18)))))
def Ma:List Nat:=List.range' 79 14
theorem WZ: ∀(cK:Nat) (aZ:Int) (bS:Int) (bG:Str) (bT:List Str) (bY:List Int) (aaU:Bool) (aA σ:Nat->PV) (H:AH) (f0:Fr Ma aA σ) (sl:σ 5=(.ref (cK) 0)/\σ 78=(.bool aaU)/\H.obj cK=some [(.int .i64 aZ),(.int .i64 bS),(.str bG),(.aB (bT.map aU) .unk),(.aB (bY.map bD) .unk)]) (dh:cK<H.next) (o:Bool) (h:vW aZ bS bG bT bY aaU=some o) (Q:Post) (q0: ∀(p:Bool) (σ':Nat->PV),o=p->Fr Ma aA σ'->(σ' 92=(.bool p))->Q .normal σ' H),dD Tryz.prog VE (Q .normal) σ H:=by
  intro cK aZ bS bG bT bY aaU aA σ H f0 sl dh o h Q q0;obtain⟨s5,s78,xB⟩:=sl;have xC:=ne_next dh;have xD:=aR dh;unfold vW at h;refine dB ?_;unfold VE;rcases au h with⟨e58,h⟩|⟨e58,h⟩
  ·cases h;refine ah ?_
   exact q0 _ _ rfl aM ak
  ·rcases au h with⟨e59,h⟩|⟨e59,h⟩
   ·cases h;refine ah ?_
    exact q0 _ _ rfl aM ak
   ·rcases au h with⟨e60,h⟩|⟨e60,h⟩
    ·cases h;refine ah ?_
     exact q0 _ _ rfl aM ak
    ·cases h;refine ah ?_
     exact q0 _ _ rfl aM ak
def vX (k:Nat) (aZ:Int) (bS:Int) (bG:Str) (bT:List Str) (bY:List Int) (JR:Bool) (aaV:Bool):Option Bool:=
  cond aaV (some (true)) (cond JR (cond (aZ !=0) (cond (aZ !=23) (cond (bS !=0) (some (true)) (cond (aZ==23) (Option.bind (iY bS 0 1) fun Bb=>cond Bb (cond (aZ==1) (Option.bind (iP k bG) fun p84=>some ((!p84))) (some (false))) (some (true))) (cond (aZ==1) (Option.bind (iP k bG) fun Mc=>some ((!Mc))) (some (false))))) (cond (aZ==23) (Option.bind (iY bS 0 1) fun p90=>cond p90 (cond (aZ==1) (Option.bind (iP k bG) fun Yq=>some ((!Yq))) (some (false))) (some (true))) (cond (aZ==1) (Option.bind (iP k bG) fun p97=>some ((!p97))) (some (false))))) (cond (aZ==23) (Option.bind (iY bS 0 1) fun K7=>cond K7 (cond (aZ==1) (Option.bind (iP k bG) fun aaW=>some ((!aaW))) (some (false))) (some (true))) (cond (aZ==1) (Option.bind (iP k bG) fun aqv=>some ((!aqv))) (some (false))))) (cond (bG==[]) (cond (aZ !=0) (cond (aZ !=23) (cond (bS !=0) (some (true)) (cond (aZ==23) (Option.bind (iY bS 0 1) fun aaX=>cond aaX (cond (aZ==1) (Option.bind (iP k bG) fun Jp=>some ((!Jp))) (some (false))) (some (true))) (cond (aZ==1) (Option.bind (iP k bG) fun aqw=>some ((!aqw))) (some (false))))) (cond (aZ==23) (Option.bind (iY bS 0 1) fun aqx=>cond aqx (cond (aZ==1) (Option.bind (iP k bG) fun aqy=>some ((!aqy))) (some (false))) (some (true))) (cond (aZ==1) (Option.bind (iP k bG) fun aqz=>some ((!aqz))) (some (false))))) (cond (aZ==23) (Option.bind (iY bS 0 1) fun aqA=>cond aqA (cond (aZ==1) (Option.bind (iP k bG) fun Np=>some ((!Np))) (some (false))) (some (true))) (cond (aZ==1) (Option.bind (iP k bG) fun aqB=>some ((!aqB))) (some (false))))) (some (true))))
def Md:List Nat:=List.range' 98 45
theorem W9 (k:Nat): ∀(cK:Nat) (aZ:Int) (bS:Int) (bG:Str) (bT:List Str) (bY:List Int) (JR:Bool) (aaV:Bool) (aA σ:Nat->PV) (H:AH) (f0:Fr Md aA σ) (sl:σ 5=(.ref (cK) 0)/\σ 11=(.bool JR)/\σ 97=(.bool aaV)/\H.obj cK=some [(.int .i64 aZ),(.int .i64 bS),(.str bG),(.aB (bT.map aU) .unk),(.aB (bY.map bD) .unk)]) (dh:cK<H.next) (o:Bool) (h:vX k aZ bS bG bT bY JR aaV=some o) (Q:Post) (q0: ∀(p:Bool) (σ':Nat->PV),o=p->Fr Md aA σ'->(σ' 142=(.bool p))->Q .normal σ' H),dD Tryz.prog VF (Q .normal) σ H:=by
  intro cK aZ bS bG bT bY JR aaV aA σ H f0 sl dh o h Q q0;obtain⟨s5,s11,s97,xB⟩:=sl;have xC:=ne_next dh;have xD:=aR dh;unfold vX at h;refine dB ?_;unfold VF;rcases au h with⟨Qn,h⟩|⟨Qn,h⟩
  ·cases h;refine ah ?_
   exact q0 _ _ rfl aM ak
  ·rcases au h with⟨e74,h⟩|⟨e74,h⟩
   ·rcases au h with⟨Tc,h⟩|⟨Tc,h⟩
    ·rcases au h with⟨Yp,h⟩|⟨Yp,h⟩
     ·rcases au h with⟨Qo,h⟩|⟨Qo,h⟩
      ·cases h;refine ah ?_
       exact q0 _ _ rfl aM ak
      ·rcases au h with⟨e78,h⟩|⟨e78,h⟩
       ·obtain⟨Bb,e79,h⟩:=aj h;refine ah ?_
        refine av (jm e79) ?_;rcases au h with⟨e81,h⟩|⟨e81,h⟩
        ·rcases au h with⟨e82,h⟩|⟨e82,h⟩
         ·obtain⟨p84,e83,h⟩:=aj h;refine ah ?_
          refine av (mH e83) ?_;cases h;refine ah ?_
          exact q0 _ _ rfl aM ak
         ·cases h;refine ah ?_
          exact q0 _ _ rfl aM ak
        ·cases h;refine ah ?_
         exact q0 _ _ rfl aM ak
       ·rcases au h with⟨e85,h⟩|⟨e85,h⟩
        ·obtain⟨Mc,Td,h⟩:=aj h;refine ah ?_
         refine av (mH Td) ?_;cases h;refine ah ?_
         exact q0 _ _ rfl aM ak
        ·cases h;refine ah ?_
         exact q0 _ _ rfl aM ak
     ·rcases au h with⟨Nk,h⟩|⟨Nk,h⟩
      ·obtain⟨p90,Te,h⟩:=aj h;refine ah ?_
       refine av (jm Te) ?_;rcases au h with⟨Tg,h⟩|⟨Tg,h⟩
       ·rcases au h with⟨e92,h⟩|⟨e92,h⟩
        ·obtain⟨Yq,Tj,h⟩:=aj h;refine ah ?_
         refine av (mH Tj) ?_;cases h;refine ah ?_
         exact q0 _ _ rfl aM ak
        ·cases h;refine ah ?_
         exact q0 _ _ rfl aM ak
       ·cases h;refine ah ?_
        exact q0 _ _ rfl aM ak
      ·rcases au h with⟨e95,h⟩|⟨e95,h⟩
       ·obtain⟨p97,e96,h⟩:=aj h;refine ah ?_
        refine av (mH e96) ?_;cases h;refine ah ?_
        exact q0 _ _ rfl aM ak
       ·cases h;refine ah ?_
        exact q0 _ _ rfl aM ak
    ·rcases au h with⟨e98,h⟩|⟨e98,h⟩
     ·obtain⟨K7,e99,h⟩:=aj h;refine ah ?_
      refine av (jm e99) ?_;rcases au h with⟨RG,h⟩|⟨RG,h⟩
      ·rcases au h with⟨aaZ,h⟩|⟨aaZ,h⟩
       ·obtain⟨aaW,K8,h⟩:=aj h;refine ah ?_
        refine av (mH K8) ?_;cases h;refine ah ?_
        exact q0 _ _ rfl aM ak
       ·cases h;refine ah ?_
        exact q0 _ _ rfl aM ak
      ·cases h;refine ah ?_
       exact q0 _ _ rfl aM ak
     ·rcases au h with⟨Nq,h⟩|⟨Nq,h⟩
      ·obtain⟨aqv,ajl,h⟩:=aj h;refine ah ?_
       refine av (mH ajl) ?_;cases h;refine ah ?_
       exact q0 _ _ rfl aM ak
      ·cases h;refine ah ?_
       exact q0 _ _ rfl aM ak
   ·rcases au h with⟨e108,h⟩|⟨e108,h⟩
    ·rcases au h with⟨e109,h⟩|⟨e109,h⟩
     ·rcases au h with⟨Xa,h⟩|⟨Xa,h⟩
      ·rcases au h with⟨aa0,h⟩|⟨aa0,h⟩
       ·cases h;refine ah ?_
        exact q0 _ _ rfl aM ak
       ·rcases au h with⟨axb,h⟩|⟨axb,h⟩
        ·obtain⟨aaX,aa1,h⟩:=aj h;refine ah ?_
         refine av (jm aa1) ?_;rcases au h with⟨e115,h⟩|⟨e115,h⟩
         ·rcases au h with⟨e116,h⟩|⟨e116,h⟩
          ·obtain⟨Jp,e117,h⟩:=aj h;refine ah ?_
           refine av (mH e117) ?_;cases h;refine ah ?_
           exact q0 _ _ rfl aM ak
          ·cases h;refine ah ?_
           exact q0 _ _ rfl aM ak
         ·cases h;refine ah ?_
          exact q0 _ _ rfl aM ak
        ·rcases au h with⟨e119,h⟩|⟨e119,h⟩
         ·obtain⟨aqw,e120,h⟩:=aj h;refine ah ?_
          refine av (mH e120) ?_;cases h;refine ah ?_
          exact q0 _ _ rfl aM ak
         ·cases h;refine ah ?_
          exact q0 _ _ rfl aM ak
      ·rcases au h with⟨aa2,h⟩|⟨aa2,h⟩
       ·obtain⟨aqx,axc,h⟩:=aj h;refine ah ?_
        refine av (jm axc) ?_;rcases au h with⟨e125,h⟩|⟨e125,h⟩
        ·rcases au h with⟨e126,h⟩|⟨e126,h⟩
         ·obtain⟨aqy,e127,h⟩:=aj h;refine ah ?_
          refine av (mH e127) ?_;cases h;refine ah ?_
          exact q0 _ _ rfl aM ak
         ·cases h;refine ah ?_
          exact q0 _ _ rfl aM ak
        ·cases h;refine ah ?_
         exact q0 _ _ rfl aM ak
       ·rcases au h with⟨e129,h⟩|⟨e129,h⟩
        ·obtain⟨aqz,aqE,h⟩:=aj h;refine ah ?_
         refine av (mH aqE) ?_;cases h;refine ah ?_
         exact q0 _ _ rfl aM ak
        ·cases h;refine ah ?_
         exact q0 _ _ rfl aM ak
     ·rcases au h with⟨axd,h⟩|⟨axd,h⟩
      ·obtain⟨aqA,ajm,h⟩:=aj h;refine ah ?_
       refine av (jm ajm) ?_;rcases au h with⟨axe,h⟩|⟨axe,h⟩
       ·rcases au h with⟨aqF,h⟩|⟨aqF,h⟩
        ·obtain⟨Np,e137,h⟩:=aj h;refine ah ?_
         refine av (mH e137) ?_;cases h;refine ah ?_
         exact q0 _ _ rfl aM ak
        ·cases h;refine ah ?_
         exact q0 _ _ rfl aM ak
       ·cases h;refine ah ?_
        exact q0 _ _ rfl aM ak
      ·rcases au h with⟨ajn,h⟩|⟨ajn,h⟩
       ·obtain⟨aqB,aa3,h⟩:=aj h;refine ah ?_
        refine av (mH aa3) ?_;cases h;refine ah ?_
        exact q0 _ _ rfl aM ak
       ·cases h;refine ah ?_
        exact q0 _ _ rfl aM ak
    ·cases h;refine ah ?_
     exact q0 _ _ rfl aM ak
def vY (aZ:Int) (bS:Int) (bG:Str) (bT:List Str) (bY:List Int) (Tk:Bool):Option Bool:=
  cond Tk (Option.bind (iY bS 0 10000) fun aa4=>some ((!aa4))) (some (false))
def Me:List Nat:=[147,148,149,150,151]
theorem Xb: ∀(cK:Nat) (aZ:Int) (bS:Int) (bG:Str) (bT:List Str) (bY:List Int) (Tk:Bool) (aA σ:Nat->PV) (H:AH) (f0:Fr Me aA σ) (sl:σ 5=(.ref (cK) 0)/\σ 146=(.bool Tk)/\H.obj cK=some [(.int .i64 aZ),(.int .i64 bS),(.str bG),(.aB (bT.map aU) .unk),(.aB (bY.map bD) .unk)]) (dh:cK<H.next) (o:Bool) (h:vY aZ bS bG bT bY Tk=some o) (Q:Post) (q0: ∀(p:Bool) (σ':Nat->PV),o=p->Fr Me aA σ'->(σ' 151=(.bool p))->Q .normal σ' H),dD Tryz.prog VG (Q .normal) σ H:=by
  intro cK aZ bS bG bT bY Tk aA σ H f0 sl dh o h Q q0;obtain⟨s5,aBf,xB⟩:=sl;have xC:=ne_next dh;have xD:=aR dh;unfold vY at h;refine dB ?_;unfold VG;rcases au h with⟨ajo,h⟩|⟨ajo,h⟩
  ·obtain⟨aa4,e152,h⟩:=aj h;refine ah ?_
   refine av (jm e152) ?_;cases h;refine ah ?_
   exact q0 _ _ rfl aM ak
  ·cases h;refine ah ?_
   exact q0 _ _ rfl aM ak
def l9:Nat->Int->Int->Str->(List Str)->(List Int)->Int->Option (Unit⊕Int)
  |0,_,_,_,_,_,_=>none
  |k+1,aZ,bS,bG,bT,bY,Jq=>
    cond (decide (Jq<(bT.length:Int))) (if 0<=Jq then Option.bind (bT[Jq.toNat]?) fun aqG=>Option.bind (tZ k aqG) fun aa5=>cond aa5 (l9 k aZ bS bG bT bY (IntKind.wrap .i64 (Jq+1))) (some (.inr (7)))else none) (some (.inl ()))
def Ez:List Nat:=[4,12]++List.range' 152 14
theorem Xc: ∀(k:Nat) (cK:Nat) (aZ:Int) (bS:Int) (bG:Str) (bT:List Str) (bY:List Int) (Jq:Int) (aA σ:Nat->PV) (H:AH) (f0:Fr Ez aA σ) (sl:σ 5=(.ref (cK) 0)/\σ 12=(.int .i64 Jq)/\H.obj cK=some [(.int .i64 aZ),(.int .i64 bS),(.str bG),(.aB (bT.map aU) .unk),(.aB (bY.map bD) .unk)]) (dh:cK<H.next) (o:Unit⊕Int) (h:l9 k aZ bS bG bT bY Jq=some o) (Q:Post) (q0: ∀(p:Unit) (σ':Nat->PV),o= .inl p->Fr Ez aA σ'->Q (.exit 0) σ' H) (q1: ∀(p:Int) (σ':Nat->PV),o= .inr (p)->Fr Ez aA σ'->(σ' 4=(.int .i64 p))->Q .ret σ' H),W Tryz.prog (.loop VH) Q σ H:=by
  intro k
  induction k with
  |zero=>intro cK aZ bS bG bT bY Jq aA σ H f0 sl dh o h Q q0 q1;simp only [l9,reduceCtorEq]at h
  |succ k ih=>
    intro cK aZ bS bG bT bY Jq aA σ H f0 sl dh o h Q q0 q1;obtain⟨s5,s12,xB⟩:=sl;have xC:=ne_next dh;have xD:=aR dh;unfold l9 at h;refine bf (fun K hK=>aD ?_);unfold VH;rcases au h with⟨ajp,h⟩|⟨ajp,h⟩
    ·obtain⟨aqH,h⟩:=aL h;obtain⟨aqG,e166,h⟩:=aj h;obtain⟨aa5,e167,h⟩:=aj h;refine ah ?_
     refine av (AL e167) ?_;rcases au h with⟨e169,h⟩|⟨e169,h⟩
     ·refine ah ?_
      refine hK _ _ ?_;exact ih cK aZ bS bG bT bY (IntKind.wrap .i64 (Jq+1)) _ _ _ aM ak bJ _ h _ q0 q1
     ·cases h;refine ah ?_
      exact q1 _ _ rfl aM ak
    ·cases h;refine ah ?_
     exact q0 _ _ rfl aM
def Bc (k:Nat) (aZ:Int) (bS:Int) (bG:Str) (bT:List Str) (bY:List Int) (Tn:Bool):Option Bool:=
  cond Tn (Option.bind (zC k bG) fun aqI=>some ((!aqI))) (some (false))
def Mf:List Nat:=[197,198,199,200,201]
theorem Xd (k:Nat): ∀(cK:Nat) (aZ:Int) (bS:Int) (bG:Str) (bT:List Str) (bY:List Int) (Tn:Bool) (aA σ:Nat->PV) (H:AH) (f0:Fr Mf aA σ) (sl:σ 5=(.ref (cK) 0)/\σ 196=(.bool Tn)/\H.obj cK=some [(.int .i64 aZ),(.int .i64 bS),(.str bG),(.aB (bT.map aU) .unk),(.aB (bY.map bD) .unk)]) (dh:cK<H.next) (o:Bool) (h:Bc k aZ bS bG bT bY Tn=some o) (Q:Post) (q0: ∀(p:Bool) (σ':Nat->PV),o=p->Fr Mf aA σ'->(σ' 201=(.bool p))->Q .normal σ' H),dD Tryz.prog VI (Q .normal) σ H:=by
  intro cK aZ bS bG bT bY Tn aA σ H f0 sl dh o h Q q0;obtain⟨s5,aBg,xB⟩:=sl;have xC:=ne_next dh;have xD:=aR dh;unfold Bc at h;refine dB ?_;unfold VI;rcases au h with⟨axf,h⟩|⟨axf,h⟩
  ·obtain⟨aqI,axg,h⟩:=aj h;refine ah ?_
   refine av (K5 axg) ?_;cases h;refine ah ?_
   exact q0 _ _ rfl aM ak
  ·cases h;refine ah ?_
   exact q0 _ _ rfl aM ak
def vZ (k:Nat) (aZ:Int) (bS:Int) (bG:Str) (bT:List Str) (bY:List Int) (O4:Str) (O5:Int) (O6:Int) (O7:Int) (O8:Bool) (JU:Int) (JV:Int) (IE:Bool):Option (Unit⊕Int):=
  cond (aZ==2) (Option.bind (zC k bG) fun aqJ=>cond aqJ (some (.inl ())) (Option.bind (zX bG) fun aqK=>cond aqK (some (.inl ())) (some (.inr (7))))) (cond (aZ==18) (Option.bind (tZ k bG) fun aqL=>cond aqL (some (.inl ())) (some (.inr (7)))) (cond (aZ==3) (Option.bind (Bc k aZ bS bG bT bY (!IE)) (fun aqM=>cond aqM (some (.inr (7))) (cond IE (Option.bind (iY (bY.length:Int) JU JV) fun aqN=>cond aqN (some (.inl ())) (some (.inr (17)))) (some (.inl ()))))) (some (.inl ()))))
def EA:List Nat:=[4]++List.range' 172 42
theorem Xe (k:Nat): ∀(cK:Nat) (FQ:Nat) (aZ:Int) (bS:Int) (bG:Str) (bT:List Str) (bY:List Int) (O4:Str) (O5:Int) (O6:Int) (O7:Int) (O8:Bool) (JU:Int) (JV:Int) (IE:Bool) (aA σ:Nat->PV) (H:AH) (f0:Fr EA aA σ) (sl:σ 5=(.ref (cK) 0)/\σ 13=(.ref (FQ) 0)/\σ 14=(.bool IE)/\H.obj cK=some [(.int .i64 aZ),(.int .i64 bS),(.str bG),(.aB (bT.map aU) .unk),(.aB (bY.map bD) .unk)]/\H.obj FQ=some [(.str O4),(.int .i64 O5),(.int .i64 O6),(.int .i64 O7),(.bool O8),(.int .i64 JU),(.int .i64 JV)]) (dh:cK<H.next) (Nr:FQ<H.next) (Bd:cK≠FQ) (o:Unit⊕Int) (h:vZ k aZ bS bG bT bY O4 O5 O6 O7 O8 JU JV IE=some o) (Q:Post) (q0: ∀(p:Unit) (σ':Nat->PV),o= .inl p->Fr EA aA σ'->Q .normal σ' H) (q1: ∀(p:Int) (σ':Nat->PV),o= .inr (p)->Fr EA aA σ'->(σ' 4=(.int .i64 p))->Q .ret σ' H),W Tryz.prog VJ Q σ H:=by
  intro cK FQ aZ bS bG bT bY O4 O5 O6 O7 O8 JU JV IE aA σ H f0 sl dh Nr Bd o h Q q0 q1;obtain⟨s5,s13,s14,xB,au1⟩:=sl;have xC:=ne_next dh;have xD:=aR dh;have au2:=ne_next Nr;have au3:=aR Nr;have alT:=eq_false Bd;have alU:=eq_false (Ne.symm Bd);unfold vZ at h;refine aD ?_;unfold VJ;rcases au h with⟨axh,h⟩|⟨axh,h⟩
  ·obtain⟨aqJ,axi,h⟩:=aj h;refine ah ?_
   refine av (K5 axi) ?_;rcases au h with⟨axj,h⟩|⟨axj,h⟩
   ·cases h;refine ah ?_
    exact q0 _ _ rfl aM
   ·obtain⟨aqK,axk,h⟩:=aj h;refine ah ?_
    refine av (Qh axk) ?_;rcases au h with⟨e185,h⟩|⟨e185,h⟩
    ·cases h;refine ah ?_
     exact q0 _ _ rfl aM
    ·cases h;refine ah ?_
     exact q1 _ _ rfl aM ak
  ·rcases au h with⟨axl,h⟩|⟨axl,h⟩
   ·obtain⟨aqL,e187,h⟩:=aj h;refine ah ?_
    refine av (AL e187) ?_;rcases au h with⟨e189,h⟩|⟨e189,h⟩
    ·cases h;refine ah ?_
     exact q0 _ _ rfl aM
    ·cases h;refine ah ?_
     exact q1 _ _ rfl aM ak
   ·rcases au h with⟨e190,h⟩|⟨e190,h⟩
    ·refine ah ?_
     obtain⟨aBh,axn,h⟩:=aj h;refine Xd k (cK) aZ bS bG bT bY (!IE) _ _ _ (Fr.refl _ _) ak bJ _ axn _ ?_
     ·rintro aqM σ' eo K9 aBi;rw [eo]at h;have aBj:σ' 5=(.ref (cK) 0):=(K9 5 (by decide)).trans ak;have aBk:σ' 13=(.ref (FQ) 0):=(K9 13 (by decide)).trans ak;have aBl:σ' 14=(.bool IE):=(K9 14 (by decide)).trans ak;rcases au h with⟨e204,h⟩|⟨e204,h⟩
      ·cases h;refine ah ?_
       exact q1 _ _ rfl (by repeat (first|exact f0|refine Fr.upd (by decide) ?_|refine Fr.via K9 (by decide) ?_)) ak
      ·rcases au h with⟨axo,h⟩|⟨axo,h⟩
       ·obtain⟨aqN,e206,h⟩:=aj h;refine ah ?_
        refine av (jm e206) ?_;rcases au h with⟨e208,h⟩|⟨e208,h⟩
        ·cases h;refine ah ?_
         exact q0 _ _ rfl (by repeat (first|exact f0|refine Fr.upd (by decide) ?_|refine Fr.via K9 (by decide) ?_))
        ·cases h;refine ah ?_
         exact q1 _ _ rfl (by repeat (first|exact f0|refine Fr.upd (by decide) ?_|refine Fr.via K9 (by decide) ?_)) ak
       ·cases h;refine ah ?_
        exact q0 _ _ rfl (by repeat (first|exact f0|refine Fr.upd (by decide) ?_|refine Fr.via K9 (by decide) ?_))
    ·cases h;refine ah ?_
     exact q0 _ _ rfl aM
def kQ:Nat->Int->Int->Str->(List Str)->(List Int)->Int->Option (Unit⊕Int)
  |0,_,_,_,_,_,_=>none
  |k+1,aZ,bS,bG,bT,bY,CU=>
    cond (decide (CU<(bT.length:Int))) (if 0<=CU/\CU.toNat<=bT.length then if 0<=CU then Option.bind (bT[CU.toNat]?) fun aqO=>Option.bind (xA k (bT.take CU.toNat) aqO) fun aqP=>cond aqP (some (.inr (12))) (kQ k aZ bS bG bT bY (IntKind.wrap .i64 (CU+1)))else none else none) (some (.inl ()))
def EB:List Nat:=[4,15]++List.range' 214 17
theorem Xf: ∀(k:Nat) (cK:Nat) (aZ:Int) (bS:Int) (bG:Str) (bT:List Str) (bY:List Int) (CU:Int) (aA σ:Nat->PV) (H:AH) (f0:Fr EB aA σ) (sl:σ 5=(.ref (cK) 0)/\σ 15=(.int .i64 CU)/\H.obj cK=some [(.int .i64 aZ),(.int .i64 bS),(.str bG),(.aB (bT.map aU) .unk),(.aB (bY.map bD) .unk)]) (dh:cK<H.next) (o:Unit⊕Int) (h:kQ k aZ bS bG bT bY CU=some o) (Q:Post) (q0: ∀(p:Unit) (σ':Nat->PV),o= .inl p->Fr EB aA σ'->Q (.exit 3) σ' H) (q1: ∀(p:Int) (σ':Nat->PV),o= .inr (p)->Fr EB aA σ'->(σ' 4=(.int .i64 p))->Q .ret σ' H),W Tryz.prog (.loop VK) Q σ H:=by
  intro k
  induction k with
  |zero=>intro cK aZ bS bG bT bY CU aA σ H f0 sl dh o h Q q0 q1;simp only [kQ,reduceCtorEq]at h
  |succ k ih=>
    intro cK aZ bS bG bT bY CU aA σ H f0 sl dh o h Q q0 q1;obtain⟨s5,s15,xB⟩:=sl;have xC:=ne_next dh;have xD:=aR dh;unfold kQ at h;refine bf (fun K hK=>aD ?_);unfold VK;rcases au h with⟨e216,h⟩|⟨e216,h⟩
    ·refine ah ?_
     refine dI ?_;obtain⟨e217,h⟩:=aL h;obtain⟨aBm,h⟩:=aL h;obtain⟨aqO,e220,h⟩:=aj h;obtain⟨aqP,e221,h⟩:=aj h;refine ah ?_
     refine av (Ng e221) ?_;rcases au h with⟨e223,h⟩|⟨e223,h⟩
     ·cases h;refine ah ?_
      exact q1 _ _ rfl aM ak
     ·refine ah ?_
      refine hK _ _ ?_;exact ih cK aZ bS bG bT bY (IntKind.wrap .i64 (CU+1)) _ _ _ aM ak bJ _ h _ q0 q1
    ·cases h;refine ah ?_
     exact q0 _ _ rfl aM
def Ea (k:Nat) (aJ:List Nd) (dP:Int):Option Int:=
  if 0<=dP then Option.bind (aJ[dP.toNat]?) fun x2=>Option.bind (iY x2.kind 0 28) fun p5=>cond p5 (Option.bind (sI x2.kind) fun p8=>Option.bind (vU k x2.kind x2.n x2.text x2.names x2.args p8.1.1 p8.1.2.1 p8.1.2.2.1 p8.1.2.2.2) (fun mg=>Option.bind (Iq p8.2) fun p41=>Option.bind (iY (x2.names.length:Int) mg.1 mg.2.1) fun p43=>Option.bind (vV mg.1 mg.2.1 mg.2.2.1 mg.2.2.2 (IntKind.wrap .i64 ((x2.args.length:Int) -(IntKind.wrap .i64 ((x2.names.length:Int)*p41)))) (!p43)) (fun p49=>cond p49 (some 6) (Option.bind (vW x2.kind x2.n x2.text x2.names x2.args (x2.kind==1)) (fun p63=>Option.bind (CQ k aJ dP) fun p72=>Option.bind (vX k x2.kind x2.n x2.text x2.names x2.args p63 (!p72)) (fun Xg=>cond Xg (some 5) (Option.bind (vY x2.kind x2.n x2.text x2.names x2.args (x2.kind==0)) (fun RH=>cond RH (some 3) (Option.bind (l9 k x2.kind x2.n x2.text x2.names x2.args 0) (fun o=>Sum.elim (fun afB=>Option.bind (qA k x2.text) fun wm=>Option.bind (vZ k x2.kind x2.n x2.text x2.names x2.args wm.1.text wm.1.fix wm.1.low wm.1.high wm.1.left wm.1.least wm.1.most wm.2) (fun o=>Sum.elim (fun axp=>Option.bind (kQ k x2.kind x2.n x2.text x2.names x2.args 1) (fun o=>Sum.elim (fun axq=>some 0) (fun aqQ=>some aqQ) o)) (fun aqR=>some aqR) o)) (fun aqS=>some aqS) o)))))))))) (some 4)else none
theorem adu {k:Nat} {aJ:List Nd} {dP:Int} {c0:Ck} {r:Int} (h:Ea k aJ dP=some r):aC Tryz.prog 54 [(.aB (aJ.map Nd.cells) c0),(.int .i64 dP)] (.int .i64 r):=by
  refine aC.lw (.aB (.same .nil)) (aC.aP (bn.mem (.cons (bC Nd.pu _) (.cons (.int _ _) .nil))) (aK awE (by simp) (aD ?_)) (.int _ _));unfold Ea at h;unfold apK;obtain⟨e1,h⟩:=aL h;obtain⟨x2,e3,h⟩:=aj h;obtain⟨p5,e4,h⟩:=aj h;refine ah ?_
  refine av (jm e4) ?_;rcases au h with⟨e6,h⟩|⟨e6,h⟩
  ·obtain⟨p8,e7,h⟩:=aj h;refine ah ?_
   refine av (ahd e7) ?_;refine ah ?_
   obtain⟨o22,h23,h⟩:=aj h;refine WX k (AH.empty.next) (AH.empty.next+1) x2.kind x2.n x2.text x2.names x2.args p8.1.1 p8.1.2.1 p8.1.2.2.1 p8.1.2.2.2 _ _ _ _ (Fr.refl _ _) (HF.refl _ _) ak bJ bJ bJ _ h23 _ ?_
   ·rintro mg σ' Tp eo Ns Jr g28;rw [eo]at h;have s29:σ' 0=(.aB (aJ.map Nd.cells) .unk):=(Ns 0 (by decide)).trans ak;have s30:σ' 1=(.int .i64 dP):=(Ns 1 (by decide)).trans ak;have s31:σ' 5=(.ref (AH.empty.next) 0):=(Ns 5 (by decide)).trans ak;have s32:σ' 6=(.ref (AH.empty.next+1) 0):=(Ns 6 (by decide)).trans ak;have s33:σ' 7=(.bool p8.2):=(Ns 7 (by decide)).trans ak;have le:=Jr.1;try simp only [AH.aF,AH.aG,AH.aH,AH.aI]at le
    have g34:Tp.obj (AH.empty.next)=some [(.int .i64 x2.kind),(.int .i64 x2.n),(.str x2.text),(.aB (x2.names.map aU) .unk),(.aB (x2.args.map bD) .unk)]:=(Jr.2 _ bJ (by first|exact List.not_mem_nil|(simp only [List.mem_cons,List.not_mem_nil,or_false,not_or];omega))).trans ak;have n35:=ne_next (show AH.empty.next<Tp.next by first|omega|(simp only [AH.aF,AH.aG,AH.aH,AH.aI];omega));have m36:=aR (show AH.empty.next<Tp.next by first|omega|(simp only [AH.aF,AH.aG,AH.aH,AH.aI];omega));have n38:=ne_next (show AH.empty.next+1<Tp.next by first|omega|(simp only [AH.aF,AH.aG,AH.aH,AH.aI];omega));have m39:=aR (show AH.empty.next+1<Tp.next by first|omega|(simp only [AH.aF,AH.aG,AH.aH,AH.aI];omega));refine ah ?_
    refine dI ?_;obtain⟨p41,e40,h⟩:=aj h;refine ah ?_
    refine PC.mk (JO e40) ?_;obtain⟨p43,e42,h⟩:=aj h;refine ah ?_
    refine av (jm e42) ?_;refine ah ?_
    obtain⟨o47,h48,h⟩:=aj h;refine WY (AH.empty.next+1) mg.1 mg.2.1 mg.2.2.1 mg.2.2.2 (IntKind.wrap .i64 ((x2.args.length:Int) -(IntKind.wrap .i64 ((x2.names.length:Int)*p41)))) (!p43) _ _ _ (Fr.refl _ _) ak bJ _ h48 _ ?_
    ·rintro p49 σ' eo Nt s53;rw [eo]at h;have s54:σ' 0=(.aB (aJ.map Nd.cells) .unk):=(Nt 0 (by decide)).trans ak;have s55:σ' 1=(.int .i64 dP):=(Nt 1 (by decide)).trans ak;have s56:σ' 5=(.ref (AH.empty.next) 0):=(Nt 5 (by decide)).trans ak;rcases au h with⟨e57,h⟩|⟨e57,h⟩
     ·cases h;refine ah ?_
      exact(.pure _ (.int _ _))
     ·refine ah ?_
      obtain⟨o61,h62,h⟩:=aj h;refine WZ (AH.empty.next) x2.kind x2.n x2.text x2.names x2.args (x2.kind==1) _ _ _ (Fr.refl _ _) ak bJ _ h62 _ ?_
      ·rintro p63 σ' eo Js s67;rw [eo]at h;have s68:σ' 0=(.aB (aJ.map Nd.cells) .unk):=(Js 0 (by decide)).trans ak;have s69:σ' 1=(.int .i64 dP):=(Js 1 (by decide)).trans ak;have s70:σ' 5=(.ref (AH.empty.next) 0):=(Js 5 (by decide)).trans ak;obtain⟨p72,Yr,h⟩:=aj h;refine ah ?_
       refine av (afA Yr) ?_;refine ah ?_
       obtain⟨aBn,axr,h⟩:=aj h;refine W9 k (AH.empty.next) x2.kind x2.n x2.text x2.names x2.args p63 (!p72) _ _ _ (Fr.refl _ _) ak bJ _ axr _ ?_
       ·rintro Xg σ' eo aui aBo;rw [eo]at h;have aBp:σ' 5=(.ref (AH.empty.next) 0):=(aui 5 (by decide)).trans ak;rcases au h with⟨ajq,h⟩|⟨ajq,h⟩
        ·cases h;refine ah ?_
         exact(.pure _ (.int _ _))
        ·refine ah ?_
         obtain⟨aBq,axt,h⟩:=aj h;refine Xb (AH.empty.next) x2.kind x2.n x2.text x2.names x2.args (x2.kind==0) _ _ _ (Fr.refl _ _) ak bJ _ axt _ ?_
         ·rintro RH σ' eo auj aBr;rw [eo]at h;have aBs:σ' 5=(.ref (AH.empty.next) 0):=(auj 5 (by decide)).trans ak;rcases au h with⟨ajr,h⟩|⟨ajr,h⟩
          ·cases h;refine ah ?_
           exact(.pure _ (.int _ _))
          ·refine ah ?_
           obtain⟨aBt,axu,h⟩:=aj h;refine Xc k (AH.empty.next) x2.kind x2.n x2.text x2.names x2.args 0 _ _ _ (Fr.refl _ _) ak bJ _ axu _ ?_ ?_
           ·rintro afB σ' eo auk;subst eo;rw [bZ]at h;have aBu:σ' 5=(.ref (AH.empty.next) 0):=(auk 5 (by decide)).trans ak;obtain⟨wm,axv,h⟩:=aj h;refine ah ?_
            refine av (CP axv) ?_;refine ah ?_
            obtain⟨aBv,axw,h⟩:=aj h;refine Xe k (AH.empty.next) (Tp.next) x2.kind x2.n x2.text x2.names x2.args wm.1.text wm.1.fix wm.1.low wm.1.high wm.1.left wm.1.least wm.1.most wm.2 _ _ _ (Fr.refl _ _) ak bJ bJ bJ _ axw _ ?_ ?_
            ·rintro axp σ' eo aul;subst eo;rw [bZ]at h;have aBw:σ' 5=(.ref (AH.empty.next) 0):=(aul 5 (by decide)).trans ak;refine ah ?_
             obtain⟨aBx,axx,h⟩:=aj h;refine Xf k (AH.empty.next) x2.kind x2.n x2.text x2.names x2.args 1 _ _ _ (Fr.refl _ _) ak bJ _ axx _ ?_ ?_
             ·rintro axq σ' eo aAC;subst eo;rw [bZ]at h;cases h;refine ah ?_
              exact(.pure _ (.int _ _))
             ·rintro aqQ σ' eo aAD aBy;subst eo;rw [dn]at h;cases h;refine ah ?_
              exact(.pure _ (.int _ _))
            ·rintro aqR σ' eo aAE aBz;subst eo;rw [dn]at h;cases h;refine ah ?_
             exact(.pure _ (.int _ _))
           ·rintro aqS σ' eo aAF aBA;subst eo;rw [dn]at h;cases h;refine ah ?_
            exact(.pure _ (.int _ _))
  ·cases h;refine ah ?_
   exact(.pure _ (.int _ _))
def pV:Nat->(List Nd)->Int->Int->Int->Option (Unit⊕(Int×Int))
  |0,_,_,_,_=>none
  |k+1,aJ,dP,oW,Nu=>
    if 0<=oW then Option.bind (aJ[oW.toNat]?) fun x3=>cond (decide (Nu<(x3.args.length:Int))) (if 0<=Nu then Option.bind (x3.args[Nu.toNat]?) fun x7=>cond (x7==dP) (some (.inr ((oW,Nu)))) (pV k aJ dP oW (IntKind.wrap .i64 (Nu+1)))else none) (some (.inl ()))else none
def Gs:List Nat:=[4,5,7]++List.range' 16 22
theorem Za: ∀(k:Nat) (aJ:List Nd) (dP:Int) (oW:Int) (Nu:Int) (aA σ:Nat->PV) (H:AH) (f0:Fr Gs aA σ) (sl:σ 0=(.aB (aJ.map Nd.cells) .unk)/\σ 1=(.int .i64 dP)/\σ 6=(.int .i64 oW)/\σ 7=(.int .i64 Nu)) (o:Unit⊕(Int×Int)) (h:pV k aJ dP oW Nu=some o) (Q:Post) (q0: ∀(p:Unit) (σ':Nat->PV),o= .inl p->Fr Gs aA σ'->Q (.exit 2) σ' H) (q1: ∀(p:Int×Int) (σ':Nat->PV),o= .inr (p)->Fr Gs aA σ'->(σ' 4=(.int .i64 p.1)/\σ' 5=(.int .i64 p.2))->Q .ret σ' H),W Tryz.prog (.loop VN) Q σ H:=by
  intro k
  induction k with
  |zero=>intro aJ dP oW Nu aA σ H f0 sl o h Q q0 q1;simp only [pV,reduceCtorEq]at h
  |succ k ih=>
    intro aJ dP oW Nu aA σ H f0 sl o h Q q0 q1;obtain⟨s0,s1,s6,s7⟩:=sl;unfold pV at h;refine bf (fun K hK=>aD ?_);unfold VN;obtain⟨e2,h⟩:=aL h;obtain⟨x3,e4,h⟩:=aj h;rcases au h with⟨e5,h⟩|⟨e5,h⟩
    ·obtain⟨e6,h⟩:=aL h;obtain⟨x7,e8,h⟩:=aj h;rcases au h with⟨e9,h⟩|⟨e9,h⟩
     ·cases h;refine ah ?_
      exact q1 _ _ rfl aM ak
     ·refine ah ?_
      refine hK _ _ ?_;exact ih aJ dP oW (IntKind.wrap .i64 (Nu+1)) _ _ _ aM ak _ h _ q0 q1
    ·cases h;refine ah ?_
     exact q0 _ _ rfl aM
def pW:Nat->(List Nd)->Int->Int->Option (Unit⊕(Int×Int))
  |0,_,_,_=>none
  |k+1,aJ,dP,oW=>
    cond (decide (oW<(aJ.length:Int))) (Option.bind (pV k aJ dP oW 0) (fun o=>Sum.elim (fun lW=>pW k aJ dP (IntKind.wrap .i64 (oW+1))) (fun kP=>some (.inr ((kP.1,kP.2)))) o)) (some (.inl ()))
def Gt:List Nat:=[4,5,6,7]++List.range' 10 28
theorem Zb: ∀(k:Nat) (aJ:List Nd) (dP:Int) (oW:Int) (aA σ:Nat->PV) (H:AH) (f0:Fr Gt aA σ) (sl:σ 0=(.aB (aJ.map Nd.cells) .unk)/\σ 1=(.int .i64 dP)/\σ 6=(.int .i64 oW)) (o:Unit⊕(Int×Int)) (h:pW k aJ dP oW=some o) (Q:Post) (q0: ∀(p:Unit) (σ':Nat->PV),o= .inl p->Fr Gt aA σ'->Q (.exit 0) σ' H) (q1: ∀(p:Int×Int) (σ':Nat->PV),o= .inr (p)->Fr Gt aA σ'->(σ' 4=(.int .i64 p.1)/\σ' 5=(.int .i64 p.2))->Q .ret σ' H),W Tryz.prog (.loop VO) Q σ H:=by
  intro k
  induction k with
  |zero=>intro aJ dP oW aA σ H f0 sl o h Q q0 q1;simp only [pW,reduceCtorEq]at h
  |succ k ih=>
    intro aJ dP oW aA σ H f0 sl o h Q q0 q1;obtain⟨s0,s1,s6⟩:=sl;unfold pW at h;refine bf (fun K hK=>aD ?_);unfold VO;rcases au h with⟨e1,h⟩|⟨e1,h⟩
    ·refine ah ?_
     obtain⟨o10,h11,h⟩:=aj h;refine Za k aJ dP oW 0 _ _ _ (Fr.refl _ _) ak _ h11 _ ?_ ?_
     ·rintro lW σ' eo vS;subst eo;rw [bZ]at h;have s16:σ' 0=(.aB (aJ.map Nd.cells) .unk):=(vS 0 (by decide)).trans ak;have s17:σ' 1=(.int .i64 dP):=(vS 1 (by decide)).trans ak;have qB:σ' 6=(.int .i64 oW):=(vS 6 (by decide)).trans ak;refine ah ?_
      refine hK _ _ ?_;exact ih aJ dP (IntKind.wrap .i64 (oW+1)) _ _ _ (by repeat (first|exact f0|refine Fr.upd (by decide) ?_|refine Fr.via vS (by decide) ?_)) ak _ h _ q0 q1
     ·rintro kP σ' eo WT ⟨s23,s24⟩;subst eo;rw [dn]at h;cases h;refine ah ?_
      exact q1 _ _ rfl (by repeat (first|exact f0|refine Fr.upd (by decide) ?_|refine Fr.via WT (by decide) ?_)) ak
    ·cases h;refine ah ?_
     exact q0 _ _ rfl aM
def CV (k:Nat) (aJ:List Nd) (dP:Int):Option (Int×Int):=
  Option.bind (pW k aJ dP (IntKind.wrap .i64 (dP+1))) (fun o=>Sum.elim (fun p27=>some ((-1),0)) (fun p31=>some (p31.1,p31.2)) o)
theorem Tq {k:Nat} {aJ:List Nd} {dP:Int} {c0:Ck} {r:Int×Int} (h:CV k aJ dP=some r):aC Tryz.prog 55 [(.aB (aJ.map Nd.cells) c0),(.int .i64 dP)] (.dR [(.int .i64 r.1),(.int .i64 r.2)]):=by
  refine aC.lw (.aB (.same .nil)) (aC.aP (bn.mem (.cons (bC Nd.pu _) (.cons (.int _ _) .nil))) (aK aje (by simp) (aD ?_)) (.dR _ (bn.mem (.cons (.int _ _) (.cons (.int _ _) .nil)))));unfold CV at h;unfold apL;refine ah ?_
  obtain⟨o25,h26,h⟩:=aj h;refine Zb k aJ dP (IntKind.wrap .i64 (dP+1)) _ _ _ (Fr.refl _ _) ak _ h26 _ ?_ ?_
  ·rintro p27 σ' eo aBB;subst eo;rw [bZ]at h;cases h;refine ah ?_
   exact(dJ (aN (aN .nil)))
  ·rintro p31 σ' eo RF ⟨s35,s36⟩;subst eo;rw [dn]at h;cases h;refine ah ?_
   exact(dJ (aN (aN .nil)))
def pE:Nat->(List Nd)->Int->Option (Unit⊕(Int×Int))
  |0,_,_=>none
  |k+1,aJ,kD=>
    cond (decide (kD<(aJ.length:Int))) (Option.bind (Ea k aJ kD) fun p5=>cond (p5 !=0) (some (.inr ((kD,p5)))) (pE k aJ (IntKind.wrap .i64 (kD+1)))) (some (.inl ()))
def Jt:List Nat:=[2,3,4,5]++List.range' 17 13
theorem aa6: ∀(k:Nat) (aJ:List Nd) (kD:Int) (aA σ:Nat->PV) (H:AH) (f0:Fr Jt aA σ) (sl:σ 0=(.aB (aJ.map Nd.cells) .unk)/\σ 4=(.int .i64 kD)) (o:Unit⊕(Int×Int)) (h:pE k aJ kD=some o) (Q:Post) (q0: ∀(p:Unit) (σ':Nat->PV),o= .inl p->Fr Jt aA σ'->Q (.exit 0) σ' H) (q1: ∀(p:Int×Int) (σ':Nat->PV),o= .inr (p)->Fr Jt aA σ'->(σ' 2=(.int .i64 p.1)/\σ' 3=(.int .i64 p.2))->Q .ret σ' H),W Tryz.prog (.loop Vf) Q σ H:=by
  intro k
  induction k with
  |zero=>intro aJ kD aA σ H f0 sl o h Q q0 q1;simp only [pE,reduceCtorEq]at h
  |succ k ih=>
    intro aJ kD aA σ H f0 sl o h Q q0 q1;obtain⟨s0,s4⟩:=sl;unfold pE at h;refine bf (fun K hK=>aD ?_);unfold Vf;rcases au h with⟨e3,h⟩|⟨e3,h⟩
    ·obtain⟨p5,e4,h⟩:=aj h;refine ah ?_
     refine av (adu e4) ?_;rcases au h with⟨e6,h⟩|⟨e6,h⟩
     ·cases h;refine ah ?_
      exact q1 _ _ rfl aM ak
     ·refine ah ?_
      refine hK _ _ ?_;exact ih aJ (IntKind.wrap .i64 (kD+1)) _ _ _ aM ak _ h _ q0 q1
    ·cases h;refine ah ?_
     exact q0 _ _ rfl aM
def Bf (k:Nat) (aJ:List Nd) (pF:Int) (aa7:Bool):Option Bool:=
  cond aa7 (if 0<=pF then Option.bind (aJ[pF.toNat]?) fun x19=>cond (x19.kind==3) (Option.bind (zC k x19.text) fun EO=>some (EO)) (some (false))else none) (some (false))
def Qp:List Nat:=List.range' 45 15
theorem aa8 (k:Nat): ∀(aJ:List Nd) (pF:Int) (aa7:Bool) (aA σ:Nat->PV) (H:AH) (f0:Fr Qp aA σ) (sl:σ 0=(.aB (aJ.map Nd.cells) .unk)/\σ 7=(.int .i64 pF)/\σ 44=(.bool aa7)) (o:Bool) (h:Bf k aJ pF aa7=some o) (Q:Post) (q0: ∀(p:Bool) (σ':Nat->PV),o=p->Fr Qp aA σ'->(σ' 59=(.bool p))->Q .normal σ' H),dD Tryz.prog Vg (Q .normal) σ H:=by
  intro aJ pF aa7 aA σ H f0 sl o h Q q0;obtain⟨s0,s7,s44⟩:=sl;unfold Bf at h;refine dB ?_;unfold Vg;rcases au h with⟨e17,h⟩|⟨e17,h⟩
  ·obtain⟨e18,h⟩:=aL h;obtain⟨x19,e20,h⟩:=aj h;rcases au h with⟨e21,h⟩|⟨e21,h⟩
   ·obtain⟨EO,e22,h⟩:=aj h;refine ah ?_
    refine av (K5 e22) ?_;cases h;refine ah ?_
    exact q0 _ _ rfl aM ak
   ·cases h;refine ah ?_
    exact q0 _ _ rfl aM ak
  ·cases h;refine ah ?_
   exact q0 _ _ rfl aM ak
def EZ (Gu:Bool) (Gq:Bool):Option Bool:=
  cond Gq (some ((!Gu))) (some (false))
theorem aa9: ∀(Gu:Bool) (Gq:Bool) (aA σ:Nat->PV) (H:AH) (f0:Fr [67,68,69] aA σ) (sl:σ 9=(.bool Gu)/\σ 66=(.bool Gq)) (o:Bool) (h:EZ Gu Gq=some o) (Q:Post) (q0: ∀(p:Bool) (σ':Nat->PV),o=p->Fr [67,68,69] aA σ'->(σ' 69=(.bool p))->Q .normal σ' H),dD Tryz.prog Vh (Q .normal) σ H:=by
  intro Gu Gq aA σ H f0 sl o h Q q0;obtain⟨s9,s66⟩:=sl;unfold EZ at h;refine dB ?_;unfold Vh;rcases au h with⟨e38,h⟩|⟨e38,h⟩
  ·cases h;refine ah ?_
   exact q0 _ _ rfl aM ak
  ·cases h;refine ah ?_
   exact q0 _ _ rfl aM ak
def E5 (aJ:List Nd) (pF:Int) (qj:Int) (abb:Bool):Option Bool:=
  cond abb (some (true)) (if 0<=pF then Option.bind (aJ[pF.toNat]?) fun x54=>cond (x54.kind==19) (some ((qj==2))) (some (false))else none)
def Qq:List Nat:=List.range' 75 11
theorem abd: ∀(aJ:List Nd) (pF:Int) (qj:Int) (abb:Bool) (aA σ:Nat->PV) (H:AH) (f0:Fr Qq aA σ) (sl:σ 0=(.aB (aJ.map Nd.cells) .unk)/\σ 7=(.int .i64 pF)/\σ 8=(.int .i64 qj)/\σ 74=(.bool abb)) (o:Bool) (h:E5 aJ pF qj abb=some o) (Q:Post) (q0: ∀(p:Bool) (σ':Nat->PV),o=p->Fr Qq aA σ'->(σ' 85=(.bool p))->Q .normal σ' H),dD Tryz.prog Vi (Q .normal) σ H:=by
  intro aJ pF qj abb aA σ H f0 sl o h Q q0;obtain⟨s0,s7,s8,s74⟩:=sl;unfold E5 at h;refine dB ?_;unfold Vi;rcases au h with⟨e52,h⟩|⟨e52,h⟩
  ·cases h;refine ah ?_
   exact q0 _ _ rfl aM ak
  ·obtain⟨e53,h⟩:=aL h;obtain⟨x54,e55,h⟩:=aj h;rcases au h with⟨e56,h⟩|⟨e56,h⟩
   ·cases h;refine ah ?_
    exact q0 _ _ rfl aM ak
   ·cases h;refine ah ?_
    exact q0 _ _ rfl aM ak
def q8:Nat->(List Nd)->Int->Int->Bool->Option Bool
  |0,_,_,_,_=>none
  |k+1,aJ,pF,qj,Eb=>
    cond (decide (pF>=0)) (Option.bind (E5 aJ pF qj Eb) (fun p59=>Option.bind (CV k aJ pF) fun p67=>q8 k aJ p67.1 p67.2 p59)) (some (Eb))
def Qr:List Nat:=[7,8,10]++List.range' 71 21
theorem abe: ∀(k:Nat) (aJ:List Nd) (pF:Int) (qj:Int) (Eb:Bool) (aA σ:Nat->PV) (H:AH) (f0:Fr Qr aA σ) (sl:σ 0=(.aB (aJ.map Nd.cells) .unk)/\σ 7=(.int .i64 pF)/\σ 8=(.int .i64 qj)/\σ 10=(.bool Eb)) (o:Bool) (h:q8 k aJ pF qj Eb=some o) (Q:Post) (q0: ∀(p:Bool) (σ':Nat->PV),o=p->Fr Qr aA σ'->(σ' 10=(.bool p))->Q (.exit 4) σ' H),W Tryz.prog (.loop Vj) Q σ H:=by
  intro k
  induction k with
  |zero=>intro aJ pF qj Eb aA σ H f0 sl o h Q q0;simp only [q8,reduceCtorEq]at h
  |succ k ih=>
    intro aJ pF qj Eb aA σ H f0 sl o h Q q0;obtain⟨s0,s7,s8,s10⟩:=sl;unfold q8 at h;refine bf (fun K hK=>aD ?_);unfold Vj;rcases au h with⟨e51,h⟩|⟨e51,h⟩
    ·refine ah ?_
     obtain⟨o57,h58,h⟩:=aj h;refine abd aJ pF qj Eb _ _ _ (Fr.refl _ _) ak _ h58 _ ?_
     ·rintro p59 σ' eo ajs s63;rw [eo]at h;have s64:σ' 0=(.aB (aJ.map Nd.cells) .unk):=(ajs 0 (by decide)).trans ak;have s65:σ' 7=(.int .i64 pF):=(ajs 7 (by decide)).trans ak;obtain⟨p67,e66,h⟩:=aj h;refine ah ?_
      refine av (Tq e66) ?_;refine ah ?_
      refine hK _ _ ?_;exact ih aJ p67.1 p67.2 p59 _ _ _ (by repeat (first|exact f0|refine Fr.upd (by decide) ?_|refine Fr.via ajs (by decide) ?_)) ak _ h _ q0
    ·cases h;refine ah ?_
     exact q0 _ _ rfl aM ak
def nA:Nat->(List Nd)->Int->Option (Unit⊕(Int×Int))
  |0,_,_=>none
  |k+1,aJ,lJ=>
    cond (decide (lJ<(aJ.length:Int))) (Option.bind (CV k aJ lJ) fun p16=>Option.bind (Bf k aJ p16.1 (decide (p16.1>=0))) (fun p26=>if 0<=lJ then Option.bind (aJ[lJ.toNat]?) fun x36=>Option.bind (EZ p26 (x36.kind==24)) (fun p41=>cond p41 (some (.inr ((lJ,30)))) (Option.bind (q8 k aJ p16.1 p16.2 false) (fun p70=>cond (x36.kind==20) (cond p70 (nA k aJ (IntKind.wrap .i64 (lJ+1))) (some (.inr ((lJ,30))))) (nA k aJ (IntKind.wrap .i64 (lJ+1))))))else none)) (some (.inl ()))
def Ju:List Nat:=[2,3,6,7,8,9,10]++List.range' 30 73
theorem abg: ∀(k:Nat) (aJ:List Nd) (lJ:Int) (aA σ:Nat->PV) (H:AH) (f0:Fr Ju aA σ) (sl:σ 0=(.aB (aJ.map Nd.cells) .unk)/\σ 6=(.int .i64 lJ)) (o:Unit⊕(Int×Int)) (h:nA k aJ lJ=some o) (Q:Post) (q0: ∀(p:Unit) (σ':Nat->PV),o= .inl p->Fr Ju aA σ'->Q (.exit 2) σ' H) (q1: ∀(p:Int×Int) (σ':Nat->PV),o= .inr (p)->Fr Ju aA σ'->(σ' 2=(.int .i64 p.1)/\σ' 3=(.int .i64 p.2))->Q .ret σ' H),W Tryz.prog (.loop Vk) Q σ H:=by
  intro k
  induction k with
  |zero=>intro aJ lJ aA σ H f0 sl o h Q q0 q1;simp only [nA,reduceCtorEq]at h
  |succ k ih=>
    intro aJ lJ aA σ H f0 sl o h Q q0 q1;obtain⟨s0,s6⟩:=sl;unfold nA at h;refine bf (fun K hK=>aD ?_);unfold Vk;rcases au h with⟨e14,h⟩|⟨e14,h⟩
    ·obtain⟨p16,e15,h⟩:=aj h;refine ah ?_
     refine av (Tq e15) ?_;refine ah ?_
     obtain⟨o24,h25,h⟩:=aj h;refine aa8 k aJ p16.1 (decide (p16.1>=0)) _ _ _ (Fr.refl _ _) ak _ h25 _ ?_
     ·rintro p26 σ' eo Nv s30;rw [eo]at h;have s31:σ' 0=(.aB (aJ.map Nd.cells) .unk):=(Nv 0 (by decide)).trans ak;have s32:σ' 6=(.int .i64 lJ):=(Nv 6 (by decide)).trans ak;have s33:σ' 7=(.int .i64 p16.1):=(Nv 7 (by decide)).trans ak;have s34:σ' 8=(.int .i64 p16.2):=(Nv 8 (by decide)).trans ak;obtain⟨e35,h⟩:=aL h;obtain⟨x36,e37,h⟩:=aj h;refine ah ?_
      obtain⟨o39,EP,h⟩:=aj h;refine aa9 p26 (x36.kind==24) _ _ _ (Fr.refl _ _) ak _ EP _ ?_
      ·rintro p41 σ' eo EC s45;rw [eo]at h;have s46:σ' 0=(.aB (aJ.map Nd.cells) .unk):=(EC 0 (by decide)).trans ak;have s47:σ' 6=(.int .i64 lJ):=(EC 6 (by decide)).trans ak;have s48:σ' 7=(.int .i64 p16.1):=(EC 7 (by decide)).trans ak;have s49:σ' 8=(.int .i64 p16.2):=(EC 8 (by decide)).trans ak;rcases au h with⟨e50,h⟩|⟨e50,h⟩
       ·cases h;refine ah ?_
        exact q1 _ _ rfl (by repeat (first|exact f0|refine Fr.upd (by decide) ?_|refine Fr.via Nv (by decide) ?_|refine Fr.via EC (by decide) ?_)) ak
       ·refine ah ?_
        obtain⟨o68,h69,h⟩:=aj h;refine abe k aJ p16.1 p16.2 false _ _ _ (Fr.refl _ _) ak _ h69 _ ?_
        ·rintro p70 σ' eo abh s74;rw [eo]at h;have s75:σ' 0=(.aB (aJ.map Nd.cells) .unk):=(abh 0 (by decide)).trans ak;have s76:σ' 6=(.int .i64 lJ):=(abh 6 (by decide)).trans ak;rcases au h with⟨Qo,h⟩|⟨Qo,h⟩
         ·rcases au h with⟨e78,h⟩|⟨e78,h⟩
          ·refine ah ?_
           refine hK _ _ ?_;exact ih aJ (IntKind.wrap .i64 (lJ+1)) _ _ _ (by repeat (first|exact f0|refine Fr.upd (by decide) ?_|refine Fr.via Nv (by decide) ?_|refine Fr.via EC (by decide) ?_|refine Fr.via abh (by decide) ?_)) ak _ h _ q0 q1
          ·cases h;refine ah ?_
           exact q1 _ _ rfl (by repeat (first|exact f0|refine Fr.upd (by decide) ?_|refine Fr.via Nv (by decide) ?_|refine Fr.via EC (by decide) ?_|refine Fr.via abh (by decide) ?_)) ak
         ·refine ah ?_
          refine hK _ _ ?_;exact ih aJ (IntKind.wrap .i64 (lJ+1)) _ _ _ (by repeat (first|exact f0|refine Fr.upd (by decide) ?_|refine Fr.via Nv (by decide) ?_|refine Fr.via EC (by decide) ?_|refine Fr.via abh (by decide) ?_)) ak _ h _ q0 q1
    ·cases h;refine ah ?_
     exact q0 _ _ rfl aM
def zY (k:Nat) (aJ:List Nd):Option (Int×Int):=
  cond ((aJ.length:Int)==0) (some (0,1)) (cond (decide ((aJ.length:Int)>160)) (some (0,2)) (Option.bind (pE k aJ 0) (fun o=>Sum.elim (fun p9=>Option.bind (nA k aJ 0) (fun o=>Sum.elim (fun Yt=>Option.bind (uW k aJ (IntKind.wrap .i64 ((aJ.length:Int) -1))) fun Mc=>cond (Mc !=0) (some ((IntKind.wrap .i64 ((aJ.length:Int) -1)),15)) (some (0,0))) (fun JW=>some (JW.1,JW.2)) o)) (fun Tt=>some (Tt.1,Tt.2)) o)))
theorem aho {k:Nat} {aJ:List Nd} {c0:Ck} {r:Int×Int} (h:zY k aJ=some r):aC Tryz.prog 16 [(.aB (aJ.map Nd.cells) c0)] (.dR [(.int .i64 r.1),(.int .i64 r.2)]):=by
  refine aC.lw (.aB .nil) (aC.aP (bn.mem (.cons (bC Nd.pu _) .nil)) (aK ok16 (by simp) (aD ?_)) (.dR _ (bn.mem (.cons (.int _ _) (.cons (.int _ _) .nil)))));unfold zY at h;unfold ao9;rcases au h with⟨e1,h⟩|⟨e1,h⟩
  ·cases h;refine ah ?_
   exact(dJ (aN (aN .nil)))
  ·rcases au h with⟨e2,h⟩|⟨e2,h⟩
   ·cases h;refine ah ?_
    exact(dJ (aN (aN .nil)))
   ·refine ah ?_
    obtain⟨o7,h8,h⟩:=aj h;refine aa6 k aJ 0 _ _ _ (Fr.refl _ _) ak _ h8 _ ?_ ?_
    ·rintro p9 σ' eo abj;subst eo;rw [bZ]at h;have s13:σ' 0=(.aB (aJ.map Nd.cells) .unk):=(abj 0 (by decide)).trans ak;refine ah ?_
     obtain⟨o79,h80,h⟩:=aj h;refine abg k aJ 0 _ _ _ (Fr.refl _ _) ak _ h80 _ ?_ ?_
     ·rintro Yt σ' eo Xh;subst eo;rw [bZ]at h;have s85:σ' 0=(.aB (aJ.map Nd.cells) .unk):=(Xh 0 (by decide)).trans ak;obtain⟨Mc,Td,h⟩:=aj h;refine ah ?_
      refine av (Nl Td) ?_;rcases au h with⟨Nk,h⟩|⟨Nk,h⟩
      ·cases h;refine ah ?_
       exact(dJ (aN (aN .nil)))
      ·cases h;refine ah ?_
       exact(dJ (aN (aN .nil)))
     ·rintro JW σ' eo aBC ⟨s93,s94⟩;subst eo;rw [dn]at h;cases h;refine ah ?_
      exact(dJ (aN (aN .nil)))
    ·rintro Tt σ' eo aBD ⟨s99,ajt⟩;subst eo;rw [dn]at h;cases h;refine ah ?_
     exact(dJ (aN (aN .nil)))
def Bg (k:Nat) (aJ:List Nd):Option Int:=
  Option.bind (zY k aJ) fun p2=>some p2.2
theorem Xi {k:Nat} {aJ:List Nd} {c0:Ck} {r:Int} (h:Bg k aJ=some r):aC Tryz.prog 18 [(.aB (aJ.map Nd.cells) c0)] (.int .i64 r):=by
  refine aC.lw (.aB .nil) (aC.aP (bn.mem (.cons (bC Nd.pu _) .nil)) (aK apd (by simp) (aD ?_)) (.int _ _));unfold Bg at h;unfold apc;obtain⟨p2,e1,h⟩:=aj h;refine ah ?_
  refine av (aho e1) ?_;cases h;refine ah ?_
  exact(.pure _ (.int _ _))
def Gv (dL:Int) (pX:Bool):Option Bool:=
  cond pX (some ((decide (dL<172)))) (some (false))
theorem afC: ∀(dL:Int) (pX:Bool) (aA σ:Nat->PV) (H:AH) (f0:Fr [10,11,12] aA σ) (sl:σ 3=(.int .i64 dL)/\σ 9=(.bool pX)) (o:Bool) (h:Gv dL pX=some o) (Q:Post) (q0: ∀(p:Bool) (σ':Nat->PV),o=p->Fr [10,11,12] aA σ'->(σ' 12=(.bool p))->Q .normal σ' H),dD Tryz.prog U7 (Q .normal) σ H:=by
  intro dL pX aA σ H f0 sl o h Q q0;obtain⟨s3,s9⟩:=sl;unfold Gv at h;refine dB ?_;unfold U7;rcases au h with⟨e1,h⟩|⟨e1,h⟩
  ·cases h;refine ah ?_
   exact q0 _ _ rfl aM ak
  ·cases h;refine ah ?_
   exact q0 _ _ rfl aM ak
def Gw (aJ:List Nd) (dL:Int) (Gx:Bool):Option Bool:=
  cond Gx (some (true)) (if 0<=dL then Option.bind (aJ[dL.toNat]?) fun CB=>cond (decide ((CB.names.length:Int)>34)) (some (true)) (some ((decide ((CB.text.length:Int)>80))))else none)
def Yu:List Nat:=List.range' 23 17
theorem afD: ∀(aJ:List Nd) (dL:Int) (Gx:Bool) (aA σ:Nat->PV) (H:AH) (f0:Fr Yu aA σ) (sl:σ 0=(.aB (aJ.map Nd.cells) .unk)/\σ 3=(.int .i64 dL)/\σ 22=(.bool Gx)) (o:Bool) (h:Gw aJ dL Gx=some o) (Q:Post) (q0: ∀(p:Bool) (σ':Nat->PV),o=p->Fr Yu aA σ'->(σ' 39=(.bool p))->Q .normal σ' H),dD Tryz.prog U8 (Q .normal) σ H:=by
  intro aJ dL Gx aA σ H f0 sl o h Q q0;obtain⟨s0,s3,s22⟩:=sl;unfold Gw at h;refine dB ?_;unfold U8;rcases au h with⟨e15,h⟩|⟨e15,h⟩
  ·cases h;refine ah ?_
   exact q0 _ _ rfl aM ak
  ·obtain⟨e16,h⟩:=aL h;obtain⟨CB,e18,h⟩:=aj h;rcases au h with⟨e19,h⟩|⟨e19,h⟩
   ·cases h;refine ah ?_
    exact q0 _ _ rfl aM ak
   ·cases h;refine ah ?_
    exact q0 _ _ rfl aM ak
def uh:Nat->(List Nd)->Int->Int->Option (Unit⊕Bool)
  |0,_,_,_=>none
  |k+1,aJ,dL,Qs=>
    if 0<=dL then Option.bind (aJ[dL.toNat]?) fun x31=>cond (decide (Qs<(x31.names.length:Int))) (if 0<=Qs then Option.bind (x31.names[Qs.toNat]?) fun x35=>cond (decide ((x35.length:Int)>80)) (some (.inr (false))) (uh k aJ dL (IntKind.wrap .i64 (Qs+1)))else none) (some (.inl ()))else none
def Ny:List Nat:=[2,4]++List.range' 40 20
theorem afE: ∀(k:Nat) (aJ:List Nd) (dL:Int) (Qs:Int) (aA σ:Nat->PV) (H:AH) (f0:Fr Ny aA σ) (sl:σ 0=(.aB (aJ.map Nd.cells) .unk)/\σ 3=(.int .i64 dL)/\σ 4=(.int .i64 Qs)) (o:Unit⊕Bool) (h:uh k aJ dL Qs=some o) (Q:Post) (q0: ∀(p:Unit) (σ':Nat->PV),o= .inl p->Fr Ny aA σ'->Q (.exit 2) σ' H) (q1: ∀(p:Bool) (σ':Nat->PV),o= .inr (p)->Fr Ny aA σ'->(σ' 2=(.bool p))->Q .ret σ' H),W Tryz.prog (.loop U9) Q σ H:=by
  intro k
  induction k with
  |zero=>intro aJ dL Qs aA σ H f0 sl o h Q q0 q1;simp only [uh,reduceCtorEq]at h
  |succ k ih=>
    intro aJ dL Qs aA σ H f0 sl o h Q q0 q1;obtain⟨s0,s3,s4⟩:=sl;unfold uh at h;refine bf (fun K hK=>aD ?_);unfold U9;obtain⟨e30,h⟩:=aL h;obtain⟨x31,e32,h⟩:=aj h;rcases au h with⟨e33,h⟩|⟨e33,h⟩
    ·obtain⟨e34,h⟩:=aL h;obtain⟨x35,e36,h⟩:=aj h;rcases au h with⟨e37,h⟩|⟨e37,h⟩
     ·cases h;refine ah ?_
      exact q1 _ _ rfl aM ak
     ·refine ah ?_
      refine hK _ _ ?_;exact ih aJ dL (IntKind.wrap .i64 (Qs+1)) _ _ _ aM ak _ h _ q0 q1
    ·cases h;refine ah ?_
     exact q0 _ _ rfl aM
def uj:Nat->(List Nd)->Int->Option (Unit⊕Bool)
  |0,_,_=>none
  |k+1,aJ,dL=>
    Option.bind (Gv dL (decide (dL<(aJ.length:Int)))) (fun p4=>cond p4 (if 0<=dL then Option.bind (aJ[dL.toNat]?) fun x13=>Option.bind (Gw aJ dL (decide ((x13.args.length:Int)>34))) (fun Gn=>cond Gn (some (.inr (false))) (Option.bind (uh k aJ dL 0) (fun o=>Sum.elim (fun p40=>uj k aJ (IntKind.wrap .i64 (dL+1))) (fun p46=>some (.inr (p46))) o)))else none) (some (.inl ())))
def Nz:List Nat:=List.range' 2 58
theorem afF: ∀(k:Nat) (aJ:List Nd) (dL:Int) (aA σ:Nat->PV) (H:AH) (f0:Fr Nz aA σ) (sl:σ 0=(.aB (aJ.map Nd.cells) .unk)/\σ 3=(.int .i64 dL)) (o:Unit⊕Bool) (h:uj k aJ dL=some o) (Q:Post) (q0: ∀(p:Unit) (σ':Nat->PV),o= .inl p->Fr Nz aA σ'->Q (.exit 0) σ' H) (q1: ∀(p:Bool) (σ':Nat->PV),o= .inr (p)->Fr Nz aA σ'->(σ' 2=(.bool p))->Q .ret σ' H),W Tryz.prog (.loop Va) Q σ H:=by
  intro k
  induction k with
  |zero=>intro aJ dL aA σ H f0 sl o h Q q0 q1;simp only [uj,reduceCtorEq]at h
  |succ k ih=>
    intro aJ dL aA σ H f0 sl o h Q q0 q1;obtain⟨s0,s3⟩:=sl;unfold uj at h;refine bf (fun K hK=>aD ?_);unfold Va;refine ah ?_
    obtain⟨o2,h3,h⟩:=aj h;refine afC dL (decide (dL<(aJ.length:Int))) _ _ _ (Fr.refl _ _) ak _ h3 _ ?_
    ·rintro p4 σ' eo fr5 s8;rw [eo]at h;have s9:σ' 0=(.aB (aJ.map Nd.cells) .unk):=(fr5 0 (by decide)).trans ak;have s10:σ' 3=(.int .i64 dL):=(fr5 3 (by decide)).trans ak;rcases au h with⟨e11,h⟩|⟨e11,h⟩
     ·obtain⟨e12,h⟩:=aL h;obtain⟨x13,e14,h⟩:=aj h;refine ah ?_
      obtain⟨o20,h21,h⟩:=aj h;refine afD aJ dL (decide ((x13.args.length:Int)>34)) _ _ _ (Fr.refl _ _) ak _ h21 _ ?_
      ·rintro Gn σ' eo WU s26;rw [eo]at h;have s27:σ' 0=(.aB (aJ.map Nd.cells) .unk):=(WU 0 (by decide)).trans ak;have s28:σ' 3=(.int .i64 dL):=(WU 3 (by decide)).trans ak;rcases au h with⟨e29,h⟩|⟨e29,h⟩
       ·cases h;refine ah ?_
        exact q1 _ _ rfl (by repeat (first|exact f0|refine Fr.upd (by decide) ?_|refine Fr.via fr5 (by decide) ?_|refine Fr.via WU (by decide) ?_)) ak
       ·refine ah ?_
        obtain⟨o38,h39,h⟩:=aj h;refine afE k aJ dL 0 _ _ _ (Fr.refl _ _) ak _ h39 _ ?_ ?_
        ·rintro p40 σ' eo abk;subst eo;rw [bZ]at h;have s44:σ' 0=(.aB (aJ.map Nd.cells) .unk):=(abk 0 (by decide)).trans ak;have s45:σ' 3=(.int .i64 dL):=(abk 3 (by decide)).trans ak;refine ah ?_
         refine hK _ _ ?_;exact ih aJ (IntKind.wrap .i64 (dL+1)) _ _ _ (by repeat (first|exact f0|refine Fr.upd (by decide) ?_|refine Fr.via fr5 (by decide) ?_|refine Fr.via WU (by decide) ?_|refine Fr.via abk (by decide) ?_)) ak _ h _ q0 q1
        ·rintro p46 σ' eo axy s50;subst eo;rw [dn]at h;cases h;refine ah ?_
         exact q1 _ _ rfl (by repeat (first|exact f0|refine Fr.upd (by decide) ?_|refine Fr.via fr5 (by decide) ?_|refine Fr.via WU (by decide) ?_|refine Fr.via axy (by decide) ?_)) ak
     ·cases h;refine ah ?_
      exact q0 _ _ rfl (by repeat (first|exact f0|refine Fr.upd (by decide) ?_|refine Fr.via fr5 (by decide) ?_))
def O9 (k:Nat) (aJ:List Nd):Option Bool:=
  Option.bind (uj k aJ 0) (fun o=>Sum.elim (fun p53=>some (decide ((aJ.length:Int)<=170))) (fun p58=>some p58) o)
theorem aee {k:Nat} {aJ:List Nd} {c0:Ck} {r:Bool} (h:O9 k aJ=some r):aC Tryz.prog 13 [(.aB (aJ.map Nd.cells) c0)] (.bool r):=by
  refine aC.lw (.aB .nil) (aC.aP (bn.mem (.cons (bC Nd.pu _) .nil)) (aK ajd (by simp) (aD ?_)) (.bool _));unfold O9 at h;unfold ao6;refine ah ?_
  obtain⟨o51,h52,h⟩:=aj h;refine afF k aJ 0 _ _ _ (Fr.refl _ _) ak _ h52 _ ?_ ?_
  ·rintro p53 σ' eo K6;subst eo;rw [bZ]at h;have s57:σ' 0=(.aB (aJ.map Nd.cells) .unk):=(K6 0 (by decide)).trans ak;cases h;refine ah ?_
   exact(.pure _ (.bool _))
  ·rintro p58 σ' eo aju s62;subst eo;rw [dn]at h;cases h;refine ah ?_
   exact(.pure _ (.bool _))
def Ec (qZ:List Int):Option (List Int):=
  if(([]:List Int).length+qZ.length)*8<=1099511627776 then some (([]:List Int)++qZ)else none
theorem adv {qZ:List Int} {c0:Ck} {r:List Int} (h:Ec qZ=some r):aC Tryz.prog 53 [(.aB (qZ.map bD) c0)] (.aB (r.map bD) .unk):=by
  refine aC.lw (.aB .nil) (aC.aP (bn.mem (.cons (bC iO _) .nil)) (aK awD (by simp) (aD ?_)) (bC iO _));unfold Ec at h;unfold apJ;obtain⟨e5,h⟩:=aL h;refine ah ?_
  refine kN (f:=bD) JN ([]:List Int) (qZ:List Int) .exact .unk ak ak eZ (by first|exact e5|(simp only [List.length_cons,List.length_nil];exact e5)) (fun c1 H2 ok3 le ob6 rl4=> ?_);have hf7:HF [] _ H2:=⟨le,fun i _ _=>ob6 i⟩;try simp only [AH.aF,AH.aG,AH.aH,AH.aI]at le
  cases h;refine ah ?_
  exact(jB iO _ _)
def nC (qZ:List Str):Option (List Str):=
  if(([]:List Str).length+qZ.length)*16<=1099511627776 then some (([]:List Str)++qZ)else none
theorem Bh {qZ:List Str} {c0:Ck} {r:List Str} (h:nC qZ=some r):aC Tryz.prog 52 [(.aB (qZ.map aU) c0)] (.aB (r.map aU) .unk):=by
  refine aC.lw (.aB .nil) (aC.aP (bn.mem (.cons (bC dw _) .nil)) (aK apI (by simp) (aD ?_)) (bC dw _));unfold nC at h;unfold apH;obtain⟨e5,h⟩:=aL h;refine ah ?_
  refine kN (f:=aU) uV ([]:List Str) (qZ:List Str) .exact .unk ak ak eZ (by first|exact e5|(simp only [List.length_cons,List.length_nil];exact e5)) (fun c1 H2 ok3 le ob6 rl4=> ?_);have hf7:HF [] _ H2:=⟨le,fun i _ _=>ob6 i⟩;try simp only [AH.aF,AH.aG,AH.aH,AH.aI]at le
  cases h;refine ah ?_
  exact(jB dw _ _)
def nS:Nat->(List Nd)->(List Nd)->Int->Option (List Nd)
  |0,_,_,_=>none
  |k+1,aJ,mO,kD=>
    cond (decide (kD<(aJ.length:Int))) (if 0<=kD then Option.bind (aJ[kD.toNat]?) fun x3=>Option.bind (nC x3.names) fun p6=>Option.bind (Ec x3.args) fun p8=>if(mO.length+1)*80<=1099511627776 then nS k aJ (mO++[(Nd.mk x3.kind x3.n x3.text p6 p8)]) (IntKind.wrap .i64 (kD+1))else none else none) (some (mO))
def Mg:List Nat:=List.range' 3 25
theorem Xj: ∀(k:Nat) (aJ:List Nd) (mO:List Nd) (kD:Int) (xE:Ck) (aA σ:Nat->PV) (H0 H:AH) (f0:Fr Mg aA σ) (hf0:HF [] H0 H) (sl:σ 0=(.aB (aJ.map Nd.cells) .unk)/\σ 3=(.aB (mO.map Nd.cells) xE)/\σ 4=(.int .i64 kD)) (abl:eD H xE) (o:List Nd) (h:nS k aJ mO kD=some o) (Q:Post) (q0: ∀(p:List Nd) (c0:Ck) (σ':Nat->PV) (H':AH),o=p->Fr Mg aA σ'->HF [] H0 H'->(σ' 3=(.aB (p.map Nd.cells) c0))->Q (.exit 0) σ' H'),W Tryz.prog (.loop Ve) Q σ H:=by
  intro k
  induction k with
  |zero=>intro aJ mO kD xE aA σ H0 H f0 hf0 sl abl o h Q q0;simp only [nS,reduceCtorEq]at h
  |succ k ih=>
    intro aJ mO kD xE aA σ H0 H f0 hf0 sl abl o h Q q0;obtain⟨s0,s3,s4⟩:=sl;have hle0:=hf0.1;unfold nS at h;refine bf (fun K hK=>aD ?_);unfold Ve;rcases au h with⟨e1,h⟩|⟨e1,h⟩
    ·obtain⟨e2,h⟩:=aL h;obtain⟨x3,e4,h⟩:=aj h;refine ah ?_
     refine dI ?_;obtain⟨p6,e5,h⟩:=aj h;refine ah ?_
     refine PC.mk (Bh e5) ?_;obtain⟨p8,e7,h⟩:=aj h;refine ah ?_
     refine PC.mk (adv e7) ?_;obtain⟨e13,h⟩:=aL h;refine ah ?_
     refine kN (f:=Nd.cells) Nd.row mO ([(Nd.mk x3.kind x3.n x3.text p6 p8)]:List Nd) xE .exact ak ak eZ (by first|exact e13|(simp only [List.length_cons,List.length_nil];exact e13)) (fun c9 Tv axz le ajv axA=> ?_);have ajw:HF [] _ Tv:=⟨le,fun i _ _=>ajv i⟩;try simp only [AH.aF,AH.aG,AH.aH,AH.aI]at le
     have n16:=ne_next (show H.next<Tv.next by first|omega|(simp only [AH.aF,AH.aG,AH.aH,AH.aI];omega));have m17:=aR (show H.next<Tv.next by first|omega|(simp only [AH.aF,AH.aG,AH.aH,AH.aI];omega));refine ah ?_
     refine hK _ _ ?_;exact ih aJ (mO++[(Nd.mk x3.kind x3.n x3.text p6 p8)]) (IntKind.wrap .i64 (kD+1)) c9 _ _ _ _ aM (by repeat (first|exact hf0|refine HF.new ?_|refine HF.oG ?_|refine HF.used ?_|refine HF.put (by first|(right;omega)|(left;simp only [List.mem_cons,true_or,or_true])) ?_|refine HF.via ajw (by first|exact fun i hi=>absurd hi List.not_mem_nil|(intro i hi;simp only [List.mem_cons,List.not_mem_nil,or_false]at hi⊢;first|exact .inl hi|omega)) ?_)) ak eZ _ h _ q0
    ·cases h;refine ah ?_
     exact q0 _ xE _ _ rfl aM oo ak
def wo (k:Nat) (aJ:List Nd):Option (List Nd):=
  Option.bind (nS k aJ ([]:List Nd) 0) (fun mR=>some mR)
theorem Jv {k:Nat} {aJ:List Nd} {c0:Ck} {r:List Nd} (h:wo k aJ=some r):aC Tryz.prog 15 [(.aB (aJ.map Nd.cells) c0)] (.aB (r.map Nd.cells) .unk):=by
  refine aC.lw (.aB .nil) (aC.aP (bn.mem (.cons (bC Nd.pu _) .nil)) (aK awn (by simp) (aD ?_)) (bC Nd.pu _));unfold wo at h;unfold ao8;refine ah ?_
  obtain⟨o18,h19,h⟩:=aj h;refine Xj k aJ ([]:List Nd) 0 .nil _ _ _ _ (Fr.refl _ _) (HF.refl _ _) ak eZ _ h19 _ ?_
  ·rintro mR c24 σ' H23 eo aBE axB s25;rw [eo]at h;have le:=axB.1;try simp only [AH.aF,AH.aG,AH.aH,AH.aI]at le
   cases h;refine ah ?_
   exact(jB Nd.pu _ _)
def gU (bR:Int) (Tw:Int) (afG:Int):Option Bool:=
  cond (decide (Tw<=bR)) (some (decide (bR<=afG))) (some false)
theorem gV {bR:Int} {Tw:Int} {afG:Int} {r:Bool} (h:gU bR Tw afG=some r):aC Tryz.prog 69 [(.int .i64 bR),(.int .i64 Tw),(.int .i64 afG)] (.bool r):=by
  refine aC.aP (bn.mem (.cons (.int _ _) (.cons (.int _ _) (.cons (.int _ _) .nil)))) (aK awO (by simp) (aD ?_)) (.bool _);unfold gU at h;unfold apW;rcases au h with⟨e1,h⟩|⟨e1,h⟩
  ·cases h;refine ah ?_
   exact(.pure _ (.bool _))
  ·cases h;refine ah ?_
   exact(.pure _ (.bool _))
def mW (K4:Bool) (Tx:Int):Option Int:=
  cond K4 (some Tx) (some 0)
theorem mI {K4:Bool} {Tx:Int} {r:Int} (h:mW K4 Tx=some r):aC Tryz.prog 47 [(.bool K4),(.int .i64 Tx)] (.int .i64 r):=by
  refine aC.aP (bn.mem (.cons (.bool _) (.cons (.int _ _) .nil))) (aK apC (by simp) (aD ?_)) (.int _ _);unfold mW at h;unfold apB;rcases au h with⟨e1,h⟩|⟨e1,h⟩
  ·cases h;refine ah ?_
   exact(.pure _ (.int _ _))
  ·cases h;refine ah ?_
   exact(.pure _ (.int _ _))
def iG:Nat->(List Int)->Int->Int->Option (Unit⊕Int)
  |0,_,_,_=>none
  |k+1,Yv,kE,fQ=>
    cond (decide (fQ<kE)) (if 0<=fQ then Option.bind (Yv[fQ.toNat]?) fun x3=>cond (x3 !=0) (some (.inr (x3))) (iG k Yv kE (IntKind.wrap .i64 (fQ+1)))else none) (some (.inl ()))
def wu:List Nat:=[2,5]++List.range' 8 9
theorem MQ: ∀(k:Nat) (Yv:List Int) (kE:Int) (fQ:Int) (aA σ:Nat->PV) (H:AH) (f0:Fr wu aA σ) (sl:σ 3=(.int .i64 0)/\σ 6=(.aB (Yv.map bD) .unk)/\σ 7=(.int .i64 kE)/\σ 8=(.int .i64 fQ)) (o:Unit⊕Int) (h:iG k Yv kE fQ=some o) (Q:Post) (q0: ∀(p:Unit) (σ':Nat->PV),o= .inl p->Fr wu aA σ'->Q (.exit 0) σ' H) (q1: ∀(p:Int) (σ':Nat->PV),o= .inr (p)->Fr wu aA σ'->(σ' 2=(.int .i64 p))->Q .ret σ' H),W Tryz.prog (.loop Vt) Q σ H:=by
  intro k
  induction k with
  |zero=>intro Yv kE fQ aA σ H f0 sl o h Q q0 q1;simp only [iG,reduceCtorEq]at h
  |succ k ih=>
    intro Yv kE fQ aA σ H f0 sl o h Q q0 q1;obtain⟨s3,s6,s7,s8⟩:=sl;unfold iG at h;refine bf (fun K hK=>aD ?_);unfold Vt;rcases au h with⟨e1,h⟩|⟨e1,h⟩
    ·obtain⟨e2,h⟩:=aL h;obtain⟨x3,e4,h⟩:=aj h;rcases au h with⟨e5,h⟩|⟨e5,h⟩
     ·cases h;refine ah ?_
      exact q1 _ _ rfl aM ak
     ·refine ah ?_
      refine hK _ _ ?_;exact ih Yv kE (IntKind.wrap .i64 (fQ+1)) _ _ _ aM ak _ h _ q0 q1
    ·cases h;refine ah ?_
     exact q0 _ _ rfl aM
def iQ (k:Nat) (Gy:List Int):Option Int:=
  Option.bind (iG k Gy (Gy.length:Int) 0) (fun o=>Sum.elim (fun p8=>some 0) (fun yG=>some yG) o)
theorem mX {k:Nat} {Gy:List Int} {c0:Ck} {r:Int} (h:iQ k Gy=some r):aC Tryz.prog 46 [(.aB (Gy.map bD) c0)] (.int .i64 r):=by
  refine aC.lw (.aB .nil) (aC.aP (bn.mem (.cons (bC iO _) .nil)) (aK aww (by simp) (aD ?_)) (.int _ _));unfold iQ at h;unfold apA;refine ah ?_
  obtain⟨o6,h7,h⟩:=aj h;refine MQ k Gy (Gy.length:Int) 0 _ _ _ (Fr.refl _ _) ak _ h7 _ ?_ ?_
  ·rintro p8 σ' eo fr9;subst eo;rw [bZ]at h;have s12:σ' 3=(.int .i64 0):=(fr9 3 (by decide)).trans ak;cases h;refine ah ?_
   exact(.pure _ (.int _ _))
  ·rintro yG σ' eo aqt s17;subst eo;rw [dn]at h;cases h;refine ah ?_
   exact(.pure _ (.int _ _))
def sJ (o_0:Operator) (t_1:Str):Option Bool:=
  some (o_0.text==t_1)
theorem RI {o_0:Operator} {t_1:Str} {r:Bool} (h:sJ o_0 t_1=some r):aC Tryz.prog 112 [(.agg (Operator.cells o_0)),(.eP [(.str t_1)] 0)] (.bool r):=by
  refine aC.aP (bn.mem (.cons (.agg _ (Operator.pu _)) (.cons (.eP _ _ (bn.mem (.cons (.str _) .nil))) .nil))) (aK atD (by simp) (aD ?_)) (.bool _);unfold sJ at h;unfold ak4;cases h;refine ah ?_
  exact(.pure _ (.bool _))
def aV:Nat->(List Operator)->Str->Int->Int->Option (Unit⊕Int)
  |0,_,_,_,_=>none
  |k+1,s_0,vJ,kE,fQ=>
    cond (decide (fQ<kE)) (if 0<=fQ then Option.bind (s_0[fQ.toNat]?) fun x3=>Option.bind (sJ x3 vJ) fun p6=>cond p6 (some (.inr (fQ))) (aV k s_0 vJ kE (IntKind.wrap .i64 (fQ+1)))else none) (some (.inl ()))
def gK:List Nat:=[4,5]++List.range' 8 11
theorem qC: ∀(k:Nat) (s_0:List Operator) (vJ:Str) (kE:Int) (fQ:Int) (aA σ:Nat->PV) (H:AH) (f0:Fr gK aA σ) (sl:σ 0=(.aB (s_0.map Operator.cells) .unk)/\σ 1=(.fn (.func 112) [] [(.eP [(.str vJ)] 0)])/\σ 7=(.int .i64 kE)/\σ 8=(.int .i64 fQ)) (o:Unit⊕Int) (h:aV k s_0 vJ kE fQ=some o) (Q:Post) (q0: ∀(p:Unit) (σ':Nat->PV),o= .inl p->Fr gK aA σ'->Q (.exit 0) σ' H) (q1: ∀(p:Int) (σ':Nat->PV),o= .inr (p)->Fr gK aA σ'->(σ' 4=(.int .i64 p))->Q .ret σ' H),W Tryz.prog (.loop Rf) Q σ H:=by
  intro k
  induction k with
  |zero=>intro s_0 vJ kE fQ aA σ H f0 sl o h Q q0 q1;simp only [aV,reduceCtorEq]at h
  |succ k ih=>
    intro s_0 vJ kE fQ aA σ H f0 sl o h Q q0 q1;obtain⟨s0,s1,s7,s8⟩:=sl;unfold aV at h;refine bf (fun K hK=>aD ?_);unfold Rf;rcases au h with⟨e1,h⟩|⟨e1,h⟩
    ·obtain⟨e2,h⟩:=aL h;obtain⟨x3,e4,h⟩:=aj h;obtain⟨p6,e5,h⟩:=aj h;refine ah ?_
     refine av (RI e5) ?_;rcases au h with⟨e7,h⟩|⟨e7,h⟩
     ·cases h;refine ah ?_
      exact q1 _ _ rfl aM ak
     ·refine ah ?_
      refine hK _ _ ?_;exact ih s_0 vJ kE (IntKind.wrap .i64 (fQ+1)) _ _ _ aM ak _ h _ q0 q1
    ·cases h;refine ah ?_
     exact q0 _ _ rfl aM
def fB (k:Nat) (s_0:List Operator) (vJ:Str):Option Int:=
  Option.bind (aV k s_0 vJ (s_0.length:Int) 0) (fun o=>Sum.elim (fun jo=>some (-1)) (fun jq=>some jq) o)
theorem q9 {k:Nat} {s_0:List Operator} {vJ:Str} {c0:Ck} {r:Int} (h:fB k s_0 vJ=some r):aC Tryz.prog 111 [(.aB (s_0.map Operator.cells) c0),(.fn (.func 112) [] [(.eP [(.str vJ)] 0)])] (.int .i64 r):=by
  refine aC.lw (.aB (.same .nil)) (aC.aP (bn.mem (.cons (bC Operator.pu _) (.cons (.fn _ _ _ (bn.mem .nil) (bn.mem (.cons (.eP _ _ (bn.mem (.cons (.str _) .nil))) .nil))) .nil))) (aK atC (by simp) (aD ?_)) (.int _ _));unfold fB at h;unfold ak3;refine ah ?_
  obtain⟨o8,h9,h⟩:=aj h;refine qC k s_0 vJ (s_0.length:Int) 0 _ _ _ (Fr.refl _ _) ak _ h9 _ ?_ ?_
  ·rintro jo σ' eo WQ;subst eo;rw [bZ]at h;cases h;refine ah ?_
   exact(.pure _ (.int _ _))
  ·rintro jq σ' eo vv qB;subst eo;rw [dn]at h;cases h;refine ah ?_
   exact(.pure _ (.int _ _))
def E8 (yg:Int):Option Bool:=
  Option.bind (gU (IntKind.wrap .i64 yg) 32 126) fun p2=>cond p2 (cond (yg==34) (some true) (some (yg==92))) (some true)
theorem abm {yg:Int} {r:Bool} (h:E8 yg=some r):aC Tryz.prog 142 [(.int .i32 yg)] (.bool r):=by
  refine aC.aP (bn.mem (.cons (.int _ _) .nil)) (aK atQ (by simp) (aD ?_)) (.bool _);unfold E8 at h;unfold alm;obtain⟨p2,e1,h⟩:=aj h;refine ah ?_
  refine av (gV e1) ?_;rcases au h with⟨e3,h⟩|⟨e3,h⟩
  ·rcases au h with⟨e4,h⟩|⟨e4,h⟩
   ·cases h;refine ah ?_
    exact(.pure _ (.bool _))
   ·cases h;refine ah ?_
    exact(.pure _ (.bool _))
  ·cases h;refine ah ?_
   exact(.pure _ (.bool _))
def dG:Nat->(List Str)->Str->Int->Int->Option (Unit⊕Int)
  |0,_,_,_,_=>none
  |k+1,s_0,v_1,kE,fQ=>
    cond (decide (fQ<kE)) (if 0<=fQ then Option.bind (s_0[fQ.toNat]?) fun x3=>cond (v_1==x3) (some (.inr (fQ))) (dG k s_0 v_1 kE (IntKind.wrap .i64 (fQ+1)))else none) (some (.inl ()))
def pG:List Nat:=[4,5]++List.range' 8 11
theorem ED: ∀(k:Nat) (s_0:List Str) (v_1:Str) (kE:Int) (fQ:Int) (aA σ:Nat->PV) (H:AH) (f0:Fr pG aA σ) (sl:σ 0=(.aB (s_0.map aU) .unk)/\σ 1=(.str v_1)/\σ 7=(.int .i64 kE)/\σ 8=(.int .i64 fQ)) (o:Unit⊕Int) (h:dG k s_0 v_1 kE fQ=some o) (Q:Post) (q0: ∀(p:Unit) (σ':Nat->PV),o= .inl p->Fr pG aA σ'->Q (.exit 0) σ' H) (q1: ∀(p:Int) (σ':Nat->PV),o= .inr (p)->Fr pG aA σ'->(σ' 4=(.int .i64 p))->Q .ret σ' H),W Tryz.prog (.loop Rn) Q σ H:=by
  intro k
  induction k with
  |zero=>intro s_0 v_1 kE fQ aA σ H f0 sl o h Q q0 q1;simp only [dG,reduceCtorEq]at h
  |succ k ih=>
    intro s_0 v_1 kE fQ aA σ H f0 sl o h Q q0 q1;obtain⟨s0,s1,s7,s8⟩:=sl;unfold dG at h;refine bf (fun K hK=>aD ?_);unfold Rn;rcases au h with⟨e1,h⟩|⟨e1,h⟩
    ·obtain⟨e2,h⟩:=aL h;obtain⟨x3,e4,h⟩:=aj h;rcases au h with⟨e5,h⟩|⟨e5,h⟩
     ·cases h;refine ah ?_
      exact q1 _ _ rfl aM ak
     ·refine ah ?_
      refine hK _ _ ?_;exact ih s_0 v_1 kE (IntKind.wrap .i64 (fQ+1)) _ _ _ aM ak _ h _ q0 q1
    ·cases h;refine ah ?_
     exact q0 _ _ rfl aM
def lK (k:Nat) (s_0:List Str) (v_1:Str):Option Int:=
  Option.bind (dG k s_0 v_1 (s_0.length:Int) 0) (fun o=>Sum.elim (fun p8=>some (-1)) (fun lW=>some lW) o)
theorem Ie {k:Nat} {s_0:List Str} {v_1:Str} {c0:Ck} {r:Int} (h:lK k s_0 v_1=some r):aC Tryz.prog 130 [(.aB (s_0.map aU) c0),(.str v_1)] (.int .i64 r):=by
  refine aC.lw (.aB (.same .nil)) (aC.aP (bn.mem (.cons (bC dw _) (.cons (.str _) .nil))) (aK atO (by simp) (aD ?_)) (.int _ _));unfold lK at h;unfold alj;refine ah ?_
  obtain⟨o6,h7,h⟩:=aj h;refine ED k s_0 v_1 (s_0.length:Int) 0 _ _ _ (Fr.refl _ _) ak _ h7 _ ?_ ?_
  ·rintro p8 σ' eo fr9;subst eo;rw [bZ]at h;cases h;refine ah ?_
   exact(.pure _ (.int _ _))
  ·rintro lW σ' eo vS s16;subst eo;rw [dn]at h;cases h;refine ah ?_
   exact(.pure _ (.int _ _))
def dY (k:Nat) (s_0:List Str) (v_1:Str):Option Bool:=
  Option.bind (lK k s_0 v_1) fun p2=>some (decide (p2>=0))
theorem kZ {k:Nat} {s_0:List Str} {v_1:Str} {c0:Ck} {r:Bool} (h:dY k s_0 v_1=some r):aC Tryz.prog 81 [(.aB (s_0.map aU) c0),(.str v_1)] (.bool r):=by
  refine aC.lw (.aB (.same .nil)) (aC.aP (bn.mem (.cons (bC dw _) (.cons (.str _) .nil))) (aK awS (by simp) (aD ?_)) (.bool _));unfold dY at h;unfold ap2;obtain⟨p2,e1,h⟩:=aj h;refine ah ?_
  refine av (Ie e1) ?_;cases h;refine ah ?_
  exact(.pure _ (.bool _))
def ru (s_0:Str) (oH:Str):Option Bool:=
  cond (decide ((s_0.length:Int)>=(oH.length:Int))) (if oH.length<=s_0.length then some ((s_0.take oH.length)==oH)else none) (some false)
theorem PX {s_0:Str} {oH:Str} {r:Bool} (h:ru s_0 oH=some r):aC Tryz.prog 179 [(.str s_0),(.str oH)] (.bool r):=by
  refine aC.aP (bn.mem (.cons (.str _) (.cons (.str _) .nil))) (aK aub (by simp) (aD ?_)) (.bool _);unfold ru at h;unfold alD;rcases au h with⟨e1,h⟩|⟨e1,h⟩
  ·obtain⟨e2,h⟩:=aL h;cases h;refine ah ?_
   exact(.pure _ (.bool _))
  ·cases h;refine ah ?_
   exact(.pure _ (.bool _))
def dZ (s_0:Str) (oH:Str):Option Bool:=
  Option.bind (ru s_0 oH) fun p2=>some p2
theorem jr {s_0:Str} {oH:Str} {r:Bool} (h:dZ s_0 oH=some r):aC Tryz.prog 125 [(.str s_0),(.str oH)] (.bool r):=by
  refine aC.aP (bn.mem (.cons (.str _) (.cons (.str _) .nil))) (aK atL (by simp) (aD ?_)) (.bool _);unfold dZ at h;unfold alg;obtain⟨p2,e1,h⟩:=aj h;refine ah ?_
  refine av (PX e1) ?_;cases h;refine ah ?_
  exact(.pure _ (.bool _))
def Ed (s_0:Str):Option Bool:=
  cond (s_0==([84,82,85,69]:Str)) (some true) (cond (s_0==([70,65,76,83,69]:Str)) (some true) (cond (s_0==([66,79,79,76,69,65,78]:Str)) (some true) (some (s_0==([83,84,82,73,78,71]:Str)))))
theorem Qt {s_0:Str} {r:Bool} (h:Ed s_0=some r):aC Tryz.prog 129 [(.str s_0)] (.bool r):=by
  refine aC.aP (bn.mem (.cons (.str _) .nil)) (aK atN (by simp) (aD ?_)) (.bool _);unfold Ed at h;unfold ali;rcases au h with⟨e1,h⟩|⟨e1,h⟩
  ·cases h;refine ah ?_
   exact(.pure _ (.bool _))
  ·rcases au h with⟨e2,h⟩|⟨e2,h⟩
   ·cases h;refine ah ?_
    exact(.pure _ (.bool _))
   ·rcases au h with⟨e3,h⟩|⟨e3,h⟩
    ·cases h;refine ah ?_
     exact(.pure _ (.bool _))
    ·cases h;refine ah ?_
     exact(.pure _ (.bool _))
def Pb (aJ:List Nd) (dP:Int) (rW:List Int):Option Int:=
  if 0<=dP then Option.bind (aJ[dP.toNat]?) fun x2=>cond ((x2.args.length:Int)==0) (some dP) (Option.bind (x2.args[0]?) fun x5=>if 0<=x5 then Option.bind (rW[x5.toNat]?) fun x8=>some x8 else none)else none
theorem ahr {aJ:List Nd} {dP:Int} {rW:List Int} {c0 c2:Ck} {r:Int} (h:Pb aJ dP rW=some r):aC Tryz.prog 49 [(.aB (aJ.map Nd.cells) c0),(.int .i64 dP),(.aB (rW.map bD) c2)] (.int .i64 r):=by
  refine aC.lw (.aB (.same (.aB .nil))) (aC.aP (bn.mem (.cons (bC Nd.pu _) (.cons (.int _ _) (.cons (bC iO _) .nil)))) (aK awy (by simp) (aD ?_)) (.int _ _));unfold Pb at h;unfold apE;obtain⟨e1,h⟩:=aL h;obtain⟨x2,e3,h⟩:=aj h;rcases au h with⟨e4,h⟩|⟨e4,h⟩
  ·cases h;refine ah ?_
   exact(.pure _ (.int _ _))
  ·obtain⟨x5,e6,h⟩:=aj h;obtain⟨e7,h⟩:=aL h;obtain⟨x8,e9,h⟩:=aj h;cases h;refine ah ?_
   exact(.pure _ (.int _ _))
def uX (JX:Int) (bK:Int):Option Shape:=
  some (Shape.mk (JX,JX) (bK,bK) false false)
theorem EF {JX:Int} {bK:Int} {r:Shape} (h:uX JX bK=some r):aC Tryz.prog 140 [(.int .i64 JX),(.int .i64 bK)] (.agg (Shape.cells r)):=by
  refine aC.aP (bn.mem (.cons (.int _ _) (.cons (.int _ _) .nil))) (aK atP (by simp) (aD ?_)) (.agg _ (Shape.pu _));unfold uX at h;unfold alk;cases h;refine ah ?_
  exact(dN (aN (aN (aN (aN (.cons (.pure _ (.bool _)) (.cons (.pure _ (.bool _)) .nil)))))))
def fZ:Nat->(List Int)->Int->Int->Int->Option (Unit⊕Int)
  |0,_,_,_,_=>none
  |k+1,s_0,v_1,kE,fQ=>
    cond (decide (fQ<kE)) (if 0<=fQ then Option.bind (s_0[fQ.toNat]?) fun x3=>cond (v_1==x3) (some (.inr (fQ))) (fZ k s_0 v_1 kE (IntKind.wrap .i64 (fQ+1)))else none) (some (.inl ()))
def vw:List Nat:=[4,5]++List.range' 8 11
theorem La: ∀(k:Nat) (s_0:List Int) (v_1:Int) (kE:Int) (fQ:Int) (aA σ:Nat->PV) (H:AH) (f0:Fr vw aA σ) (sl:σ 0=(.aB (s_0.map bD) .unk)/\σ 1=(.int .i64 v_1)/\σ 7=(.int .i64 kE)/\σ 8=(.int .i64 fQ)) (o:Unit⊕Int) (h:fZ k s_0 v_1 kE fQ=some o) (Q:Post) (q0: ∀(p:Unit) (σ':Nat->PV),o= .inl p->Fr vw aA σ'->Q (.exit 0) σ' H) (q1: ∀(p:Int) (σ':Nat->PV),o= .inr (p)->Fr vw aA σ'->(σ' 4=(.int .i64 p))->Q .ret σ' H),W Tryz.prog (.loop RA) Q σ H:=by
  intro k
  induction k with
  |zero=>intro s_0 v_1 kE fQ aA σ H f0 sl o h Q q0 q1;simp only [fZ,reduceCtorEq]at h
  |succ k ih=>
    intro s_0 v_1 kE fQ aA σ H f0 sl o h Q q0 q1;obtain⟨s0,s1,s7,s8⟩:=sl;unfold fZ at h;refine bf (fun K hK=>aD ?_);unfold RA;rcases au h with⟨e1,h⟩|⟨e1,h⟩
    ·obtain⟨e2,h⟩:=aL h;obtain⟨x3,e4,h⟩:=aj h;rcases au h with⟨e5,h⟩|⟨e5,h⟩
     ·cases h;refine ah ?_
      exact q1 _ _ rfl aM ak
     ·refine ah ?_
      refine hK _ _ ?_;exact ih s_0 v_1 kE (IntKind.wrap .i64 (fQ+1)) _ _ _ aM ak _ h _ q0 q1
    ·cases h;refine ah ?_
     exact q0 _ _ rfl aM
def vK (k:Nat) (s_0:List Int) (v_1:Int):Option Int:=
  Option.bind (fZ k s_0 v_1 (s_0.length:Int) 0) (fun o=>Sum.elim (fun p8=>some (-1)) (fun lW=>some lW) o)
theorem PY {k:Nat} {s_0:List Int} {v_1:Int} {c0:Ck} {r:Int} (h:vK k s_0 v_1=some r):aC Tryz.prog 190 [(.aB (s_0.map bD) c0),(.int .i64 v_1)] (.int .i64 r):=by
  refine aC.lw (.aB (.same .nil)) (aC.aP (bn.mem (.cons (bC iO _) (.cons (.int _ _) .nil))) (aK aue (by simp) (aD ?_)) (.int _ _));unfold vK at h;unfold alH;refine ah ?_
  obtain⟨o6,h7,h⟩:=aj h;refine La k s_0 v_1 (s_0.length:Int) 0 _ _ _ (Fr.refl _ _) ak _ h7 _ ?_ ?_
  ·rintro p8 σ' eo fr9;subst eo;rw [bZ]at h;cases h;refine ah ?_
   exact(.pure _ (.int _ _))
  ·rintro lW σ' eo vS s16;subst eo;rw [dn]at h;cases h;refine ah ?_
   exact(.pure _ (.int _ _))
def nT (k:Nat) (s_0:List Int) (v_1:Int):Option Bool:=
  Option.bind (vK k s_0 v_1) fun p2=>some (decide (p2>=0))
theorem Lb {k:Nat} {s_0:List Int} {v_1:Int} {c0:Ck} {r:Bool} (h:nT k s_0 v_1=some r):aC Tryz.prog 149 [(.aB (s_0.map bD) c0),(.int .i64 v_1)] (.bool r):=by
  refine aC.lw (.aB (.same .nil)) (aC.aP (bn.mem (.cons (bC iO _) (.cons (.int _ _) .nil))) (aK atX (by simp) (aD ?_)) (.bool _));unfold nT at h;unfold als;obtain⟨p2,e1,h⟩:=aj h;refine ah ?_
  refine av (PY e1) ?_;cases h;refine ah ?_
  exact(.pure _ (.bool _))
def Gz (k:Nat) (dK:Int):Option Bool:=
  Option.bind (nT k [8,9,10,11,12,21,22,23,24] dK) fun p2=>some p2
theorem afH {k:Nat} {dK:Int} {r:Bool} (h:Gz k dK=some r):aC Tryz.prog 98 [(.int .i64 dK)] (.bool r):=by
  refine aC.aP (bn.mem (.cons (.int _ _) .nil)) (aK aw3 (by simp) (aD ?_)) (.bool _);unfold Gz at h;unfold aqf;obtain⟨p2,e1,h⟩:=aj h;refine ah ?_
  refine av (Lb e1) ?_;cases h;refine ah ?_
  exact(.pure _ (.bool _))
def jF:Nat->(List Str)->(List Str)->Int->Option (Unit⊕Bool)
  |0,_,_,_=>none
  |k+1,a_0,b_1,fJ=>
    cond (decide (fJ<(a_0.length:Int))) (if 0<=fJ then Option.bind (a_0[fJ.toNat]?) fun x4=>Option.bind (b_1[fJ.toNat]?) fun x6=>cond (x4==x6) (jF k a_0 b_1 (IntKind.wrap .i64 (fJ+1))) (some (.inr (false)))else none) (some (.inl ()))
def zD:List Nat:=[4,5]++List.range' 11 15
theorem PZ: ∀(k:Nat) (a_0:List Str) (b_1:List Str) (fJ:Int) (aA σ:Nat->PV) (H:AH) (f0:Fr zD aA σ) (sl:σ 0=(.aB (a_0.map aU) .unk)/\σ 1=(.aB (b_1.map aU) .unk)/\σ 5=(.int .i64 fJ)) (o:Unit⊕Bool) (h:jF k a_0 b_1 fJ=some o) (Q:Post) (q0: ∀(p:Unit) (σ':Nat->PV),o= .inl p->Fr zD aA σ'->Q (.exit 0) σ' H) (q1: ∀(p:Bool) (σ':Nat->PV),o= .inr (p)->Fr zD aA σ'->(σ' 4=(.bool p))->Q .ret σ' H),W Tryz.prog (.loop Vq) Q σ H:=by
  intro k
  induction k with
  |zero=>intro a_0 b_1 fJ aA σ H f0 sl o h Q q0 q1;simp only [jF,reduceCtorEq]at h
  |succ k ih=>
    intro a_0 b_1 fJ aA σ H f0 sl o h Q q0 q1;obtain⟨s0,s1,s5⟩:=sl;unfold jF at h;refine bf (fun K hK=>aD ?_);unfold Vq;rcases au h with⟨e2,h⟩|⟨e2,h⟩
    ·refine ah ?_
     refine dI ?_;obtain⟨e3,h⟩:=aL h;obtain⟨x4,e5,h⟩:=aj h;obtain⟨x6,e7,h⟩:=aj h;rcases au h with⟨e8,h⟩|⟨e8,h⟩
     ·refine ah ?_
      refine hK _ _ ?_;exact ih a_0 b_1 (IntKind.wrap .i64 (fJ+1)) _ _ _ aM ak _ h _ q0 q1
     ·cases h;refine ah ?_
      exact q1 _ _ rfl aM ak
    ·cases h;refine ah ?_
     exact q0 _ _ rfl aM
def sK (k:Nat) (a_0:List Str) (b_1:List Str):Option Bool:=
  cond ((a_0.length:Int) !=(b_1.length:Int)) (some false) (Option.bind (jF k a_0 b_1 0) (fun o=>Sum.elim (fun mQ=>some true) (fun Qi=>some Qi) o))
theorem JY {k:Nat} {a_0:List Str} {b_1:List Str} {c0 c1:Ck} {r:Bool} (h:sK k a_0 b_1=some r):aC Tryz.prog 29 [(.aB (a_0.map aU) c0),(.aB (b_1.map aU) c1)] (.bool r):=by
  refine aC.lw (.aB (.aB .nil)) (aC.aP (bn.mem (.cons (bC dw _) (.cons (bC dw _) .nil))) (aK awt (by simp) (aD ?_)) (.bool _));unfold sK at h;unfold aps;rcases au h with⟨e1,h⟩|⟨e1,h⟩
  ·cases h;refine ah ?_
   exact(.pure _ (.bool _))
  ·refine ah ?_
   obtain⟨o9,h10,h⟩:=aj h;refine PZ k a_0 b_1 0 _ _ _ (Fr.refl _ _) ak _ h10 _ ?_ ?_
   ·rintro mQ σ' eo Nj;subst eo;rw [bZ]at h;cases h;refine ah ?_
    exact(.pure _ (.bool _))
   ·rintro Qi σ' eo ajk qM;subst eo;rw [dn]at h;cases h;refine ah ?_
    exact(.pure _ (.bool _))
def jT:Nat->(List Int)->(List Int)->Int->Option (Unit⊕Bool)
  |0,_,_,_=>none
  |k+1,a_0,b_1,fJ=>
    cond (decide (fJ<(a_0.length:Int))) (if 0<=fJ then Option.bind (a_0[fJ.toNat]?) fun x4=>Option.bind (b_1[fJ.toNat]?) fun x6=>cond (x4 !=x6) (some (.inr (false))) (jT k a_0 b_1 (IntKind.wrap .i64 (fJ+1)))else none) (some (.inl ()))
def Bj:List Nat:=[4,5]++List.range' 11 15
theorem RJ: ∀(k:Nat) (a_0:List Int) (b_1:List Int) (fJ:Int) (aA σ:Nat->PV) (H:AH) (f0:Fr Bj aA σ) (sl:σ 0=(.aB (a_0.map bD) .unk)/\σ 1=(.aB (b_1.map bD) .unk)/\σ 5=(.int .i64 fJ)) (o:Unit⊕Bool) (h:jT k a_0 b_1 fJ=some o) (Q:Post) (q0: ∀(p:Unit) (σ':Nat->PV),o= .inl p->Fr Bj aA σ'->Q (.exit 0) σ' H) (q1: ∀(p:Bool) (σ':Nat->PV),o= .inr (p)->Fr Bj aA σ'->(σ' 4=(.bool p))->Q .ret σ' H),W Tryz.prog (.loop Rb) Q σ H:=by
  intro k
  induction k with
  |zero=>intro a_0 b_1 fJ aA σ H f0 sl o h Q q0 q1;simp only [jT,reduceCtorEq]at h
  |succ k ih=>
    intro a_0 b_1 fJ aA σ H f0 sl o h Q q0 q1;obtain⟨s0,s1,s5⟩:=sl;unfold jT at h;refine bf (fun K hK=>aD ?_);unfold Rb;rcases au h with⟨e2,h⟩|⟨e2,h⟩
    ·refine ah ?_
     refine dI ?_;obtain⟨e3,h⟩:=aL h;obtain⟨x4,e5,h⟩:=aj h;obtain⟨x6,e7,h⟩:=aj h;rcases au h with⟨e8,h⟩|⟨e8,h⟩
     ·cases h;refine ah ?_
      exact q1 _ _ rfl aM ak
     ·refine ah ?_
      refine hK _ _ ?_;exact ih a_0 b_1 (IntKind.wrap .i64 (fJ+1)) _ _ _ aM ak _ h _ q0 q1
    ·cases h;refine ah ?_
     exact q0 _ _ rfl aM
def yH (k:Nat) (a_0:List Int) (b_1:List Int):Option Bool:=
  cond ((a_0.length:Int) !=(b_1.length:Int)) (some false) (Option.bind (jT k a_0 b_1 0) (fun o=>Sum.elim (fun mQ=>some true) (fun Qi=>some Qi) o))
theorem Zc {k:Nat} {a_0:List Int} {b_1:List Int} {c0 c1:Ck} {r:Bool} (h:yH k a_0 b_1=some r):aC Tryz.prog 110 [(.aB (a_0.map bD) c0),(.aB (b_1.map bD) c1)] (.bool r):=by
  refine aC.lw (.aB (.aB .nil)) (aC.aP (bn.mem (.cons (bC iO _) (.cons (bC iO _) .nil))) (aK ak2 (by simp) (aD ?_)) (.bool _));unfold yH at h;unfold ak1;rcases au h with⟨e1,h⟩|⟨e1,h⟩
  ·cases h;refine ah ?_
   exact(.pure _ (.bool _))
  ·refine ah ?_
   obtain⟨o9,h10,h⟩:=aj h;refine RJ k a_0 b_1 0 _ _ _ (Fr.refl _ _) ak _ h10 _ ?_ ?_
   ·rintro mQ σ' eo Nj;subst eo;rw [bZ]at h;cases h;refine ah ?_
    exact(.pure _ (.bool _))
   ·rintro Qi σ' eo ajk qM;subst eo;rw [dn]at h;cases h;refine ah ?_
    exact(.pure _ (.bool _))
def Bl (k:Nat) (a_0:Nd) (b_1:Nd):Option Bool:=
  cond (a_0.kind==b_1.kind) (cond (a_0.n==b_1.n) (cond (a_0.text==b_1.text) (Option.bind (sK k a_0.names b_1.names) fun p5=>cond p5 (Option.bind (yH k a_0.args b_1.args) fun p8=>some p8) (some false)) (some false)) (some false)) (some false)
theorem abn {k:Nat} {a_0:Nd} {b_1:Nd} {r:Bool} (h:Bl k a_0 b_1=some r):aC Tryz.prog 61 [(.agg (Nd.cells a_0)),(.agg (Nd.cells b_1))] (.bool r):=by
  refine aC.aP (bn.mem (.cons (.agg _ (Nd.pu _)) (.cons (.agg _ (Nd.pu _)) .nil))) (aK awJ (by simp) (aD ?_)) (.bool _);unfold Bl at h;unfold apQ;rcases au h with⟨e1,h⟩|⟨e1,h⟩
  ·rcases au h with⟨e2,h⟩|⟨e2,h⟩
   ·rcases au h with⟨e3,h⟩|⟨e3,h⟩
    ·obtain⟨p5,e4,h⟩:=aj h;refine ah ?_
     refine av (JY e4) ?_;rcases au h with⟨e6,h⟩|⟨e6,h⟩
     ·obtain⟨p8,e7,h⟩:=aj h;refine ah ?_
      refine av (Zc e7) ?_;cases h;refine ah ?_
      exact(.pure _ (.bool _))
     ·cases h;refine ah ?_
      exact(.pure _ (.bool _))
    ·cases h;refine ah ?_
     exact(.pure _ (.bool _))
   ·cases h;refine ah ?_
    exact(.pure _ (.bool _))
  ·cases h;refine ah ?_
   exact(.pure _ (.bool _))
def lg:Nat->(List Nd)->(List Nd)->Int->Option (Unit⊕Bool)
  |0,_,_,_=>none
  |k+1,a_0,b_1,fJ=>
    cond (decide (fJ<(a_0.length:Int))) (if 0<=fJ then Option.bind (a_0[fJ.toNat]?) fun x4=>Option.bind (b_1[fJ.toNat]?) fun x6=>Option.bind (Bl k x4 x6) fun p9=>cond p9 (lg k a_0 b_1 (IntKind.wrap .i64 (fJ+1))) (some (.inr (false)))else none) (some (.inl ()))
def CW:List Nat:=[4,5]++List.range' 11 16
theorem Tz: ∀(k:Nat) (a_0:List Nd) (b_1:List Nd) (fJ:Int) (aA σ:Nat->PV) (H:AH) (f0:Fr CW aA σ) (sl:σ 0=(.aB (a_0.map Nd.cells) .unk)/\σ 1=(.aB (b_1.map Nd.cells) .unk)/\σ 5=(.int .i64 fJ)) (o:Unit⊕Bool) (h:lg k a_0 b_1 fJ=some o) (Q:Post) (q0: ∀(p:Unit) (σ':Nat->PV),o= .inl p->Fr CW aA σ'->Q (.exit 0) σ' H) (q1: ∀(p:Bool) (σ':Nat->PV),o= .inr (p)->Fr CW aA σ'->(σ' 4=(.bool p))->Q .ret σ' H),W Tryz.prog (.loop Vl) Q σ H:=by
  intro k
  induction k with
  |zero=>intro a_0 b_1 fJ aA σ H f0 sl o h Q q0 q1;simp only [lg,reduceCtorEq]at h
  |succ k ih=>
    intro a_0 b_1 fJ aA σ H f0 sl o h Q q0 q1;obtain⟨s0,s1,s5⟩:=sl;unfold lg at h;refine bf (fun K hK=>aD ?_);unfold Vl;rcases au h with⟨e2,h⟩|⟨e2,h⟩
    ·refine ah ?_
     refine dI ?_;obtain⟨e3,h⟩:=aL h;obtain⟨x4,e5,h⟩:=aj h;obtain⟨x6,e7,h⟩:=aj h;obtain⟨p9,e8,h⟩:=aj h;refine ah ?_
     refine av (abn e8) ?_;rcases au h with⟨e10,h⟩|⟨e10,h⟩
     ·refine ah ?_
      refine hK _ _ ?_;exact ih a_0 b_1 (IntKind.wrap .i64 (fJ+1)) _ _ _ aM ak _ h _ q0 q1
     ·cases h;refine ah ?_
      exact q1 _ _ rfl aM ak
    ·cases h;refine ah ?_
     exact q0 _ _ rfl aM
def xG (k:Nat) (a_0:List Nd) (b_1:List Nd):Option Bool:=
  cond ((a_0.length:Int) !=(b_1.length:Int)) (some false) (Option.bind (lg k a_0 b_1 0) (fun o=>Sum.elim (fun yG=>some true) (fun Qm=>some Qm) o))
theorem NA {k:Nat} {a_0:List Nd} {b_1:List Nd} {c0 c1:Ck} {r:Bool} (h:xG k a_0 b_1=some r):aC Tryz.prog 20 [(.aB (a_0.map Nd.cells) c0),(.aB (b_1.map Nd.cells) c1)] (.bool r):=by
  refine aC.lw (.aB (.aB .nil)) (aC.aP (bn.mem (.cons (bC Nd.pu _) (.cons (bC Nd.pu _) .nil))) (aK awo (by simp) (aD ?_)) (.bool _));unfold xG at h;unfold ape;rcases au h with⟨e1,h⟩|⟨e1,h⟩
  ·cases h;refine ah ?_
   exact(.pure _ (.bool _))
  ·refine ah ?_
   obtain⟨o11,h12,h⟩:=aj h;refine Tz k a_0 b_1 0 _ _ _ (Fr.refl _ _) ak _ h12 _ ?_ ?_
   ·rintro yG σ' eo aqt;subst eo;rw [bZ]at h;cases h;refine ah ?_
    exact(.pure _ (.bool _))
   ·rintro Qm σ' eo axa s21;subst eo;rw [dn]at h;cases h;refine ah ?_
    exact(.pure _ (.bool _))
def DI (yI:Int):Option Bool:=
  cond (yI==8) (some ((yI==8))) (cond (yI==9) (some ((yI==9))) (cond (yI==10) (some ((yI==10))) (cond (yI==11) (some ((yI==11))) (cond (yI==12) (some ((yI==12))) (cond (yI==21) (some ((yI==21))) (cond (yI==22) (some ((yI==22))) (cond (yI==23) (some ((yI==23))) (some ((yI==24))))))))))
def NC:List Nat:=List.range' 4 10
theorem Zd: ∀(yI:Int) (aA σ:Nat->PV) (H:AH) (f0:Fr NC aA σ) (sl:σ 3=(.int .i64 yI)) (o:Bool) (h:DI yI=some o) (Q:Post) (q0: ∀(p:Bool) (σ':Nat->PV),o=p->Fr NC aA σ'->(σ' 4=(.bool p))->Q .normal σ' H),W Tryz.prog Vm Q σ H:=by
  intro yI aA σ H f0 sl o h Q q0;have s3:=sl;unfold DI at h;refine aD ?_;unfold Vm;rcases au h with⟨e1,h⟩|⟨e1,h⟩
  ·cases h;refine ah ?_
   exact q0 _ _ rfl aM ak
  ·rcases au h with⟨e2,h⟩|⟨e2,h⟩
   ·cases h;refine ah ?_
    exact q0 _ _ rfl aM ak
   ·rcases au h with⟨e3,h⟩|⟨e3,h⟩
    ·cases h;refine ah ?_
     exact q0 _ _ rfl aM ak
    ·rcases au h with⟨e4,h⟩|⟨e4,h⟩
     ·cases h;refine ah ?_
      exact q0 _ _ rfl aM ak
     ·rcases au h with⟨e5,h⟩|⟨e5,h⟩
      ·cases h;refine ah ?_
       exact q0 _ _ rfl aM ak
      ·rcases au h with⟨e6,h⟩|⟨e6,h⟩
       ·cases h;refine ah ?_
        exact q0 _ _ rfl aM ak
       ·rcases au h with⟨e7,h⟩|⟨e7,h⟩
        ·cases h;refine ah ?_
         exact q0 _ _ rfl aM ak
        ·rcases au h with⟨e8,h⟩|⟨e8,h⟩
         ·cases h;refine ah ?_
          exact q0 _ _ rfl aM ak
         ·cases h;refine ah ?_
          exact q0 _ _ rfl aM ak
def CX (dK:Int):Option Bool:=
  Option.bind (DI dK) (fun mQ=>cond mQ (some true) (some false))
theorem TA {dK:Int} {r:Bool} (h:CX dK=some r):aC Tryz.prog 24 [(.int .i64 dK)] (.bool r):=by
  refine aC.aP (bn.mem (.cons (.int _ _) .nil)) (aK apm (by simp) (aD ?_)) (.bool _);unfold CX at h;unfold apl;refine ah ?_
  obtain⟨o9,h10,h⟩:=aj h;refine Zd dK _ _ _ (Fr.refl _ _) ak _ h10 _ ?_
  ·rintro mQ σ' eo Nj s15;rw [eo]at h;rcases au h with⟨e16,h⟩|⟨e16,h⟩
   ·cases h;refine ah ?_
    exact(.pure _ (.bool _))
   ·cases h;refine ah ?_
    exact(.pure _ (.bool _))
def yJ (aJ:List Nd):Option Nd:=
  if 0<=(IntKind.wrap .i64 ((aJ.length:Int) -1))then Option.bind (aJ[(IntKind.wrap .i64 ((aJ.length:Int) -1)).toNat]?) fun x2=>some x2 else none
theorem Lc {aJ:List Nd} {c0:Ck} {r:Nd} (h:yJ aJ=some r):aC Tryz.prog 21 [(.aB (aJ.map Nd.cells) c0)] (.agg (Nd.cells r)):=by
  refine aC.lw (.aB .nil) (aC.aP (bn.mem (.cons (bC Nd.pu _) .nil)) (aK apg (by simp) (aD ?_)) (.agg _ (Nd.pu _)));unfold yJ at h;unfold apf;obtain⟨e1,h⟩:=aL h;obtain⟨x2,e3,h⟩:=aj h;cases h;refine ah ?_
  exact(dN (aN (aN (.cons (.pure _ (.str _)) (.cons (jB dw _ _) (.cons (jB iO _ _) .nil))))))
def Ld (iD:Int):Option Bool:=
  cond (iD==6) (some ((iD==6))) (cond (iD==12) (some ((iD==12))) (cond (iD==7) (some ((iD==7))) (cond (iD==8) (some ((iD==8))) (cond (iD==9) (some ((iD==9))) (cond (iD==13) (some ((iD==13))) (cond (iD==10) (some ((iD==10))) (cond (iD==11) (some ((iD==11))) (some ((iD==24))))))))))
def Qu:List Nat:=List.range' 14 10
theorem abo: ∀(iD:Int) (aA σ:Nat->PV) (H:AH) (f0:Fr Qu aA σ) (sl:σ 13=(.int .i64 iD)) (o:Bool) (h:Ld iD=some o) (Q:Post) (q0: ∀(p:Bool) (σ':Nat->PV),o=p->Fr Qu aA σ'->(σ' 14=(.bool p))->Q .normal σ' H),W Tryz.prog Rm Q σ H:=by
  intro iD aA σ H f0 sl o h Q q0;have s13:=sl;unfold Ld at h;refine aD ?_;unfold Rm;rcases au h with⟨e1,h⟩|⟨e1,h⟩
  ·cases h;refine ah ?_
   exact q0 _ _ rfl aM ak
  ·rcases au h with⟨e2,h⟩|⟨e2,h⟩
   ·cases h;refine ah ?_
    exact q0 _ _ rfl aM ak
   ·rcases au h with⟨e3,h⟩|⟨e3,h⟩
    ·cases h;refine ah ?_
     exact q0 _ _ rfl aM ak
    ·rcases au h with⟨e4,h⟩|⟨e4,h⟩
     ·cases h;refine ah ?_
      exact q0 _ _ rfl aM ak
     ·rcases au h with⟨e5,h⟩|⟨e5,h⟩
      ·cases h;refine ah ?_
       exact q0 _ _ rfl aM ak
      ·rcases au h with⟨e6,h⟩|⟨e6,h⟩
       ·cases h;refine ah ?_
        exact q0 _ _ rfl aM ak
       ·rcases au h with⟨e7,h⟩|⟨e7,h⟩
        ·cases h;refine ah ?_
         exact q0 _ _ rfl aM ak
        ·rcases au h with⟨e8,h⟩|⟨e8,h⟩
         ·cases h;refine ah ?_
          exact q0 _ _ rfl aM ak
         ·cases h;refine ah ?_
          exact q0 _ _ rfl aM ak
def Pf (bR:Nd) (FR:Int):Option (List Str):=
  Option.bind (Ld bR.kind) (fun mQ=>cond mQ (cond (FR==(IntKind.wrap .i64 ((bR.args.length:Int) -1))) (some bR.names) (some [])) (cond (bR.kind==23) (cond (FR==(IntKind.wrap .i64 ((bR.args.length:Int) -1))) (if 1<=bR.names.length then some (bR.names.take 1)else none) (cond (bR.n==1) (some bR.names) (if 1<=bR.names.length then some (bR.names.drop 1)else none))) (some [])))
theorem ahs {bR:Nd} {FR:Int} {r:List Str} (h:Pf bR FR=some r):aC Tryz.prog 121 [(.agg (Nd.cells bR)),(.int .i64 FR)] (.aB (r.map aU) .unk):=by
  refine aC.aP (bn.mem (.cons (.agg _ (Nd.pu _)) (.cons (.int _ _) .nil))) (aK atH (by simp) (aD ?_)) (bC dw _);unfold Pf at h;unfold alc;refine ah ?_
  obtain⟨o9,h10,h⟩:=aj h;refine abo bR.kind _ _ _ (Fr.refl _ _) ak _ h10 _ ?_
  ·rintro mQ σ' eo Nj s15;rw [eo]at h;have s16:σ' 2=(.ref (AH.empty.next) 0):=(Nj 2 (by decide)).trans ak;have s17:σ' 5=(.bool (FR==(IntKind.wrap .i64 ((bR.args.length:Int) -1)))):=(Nj 5 (by decide)).trans ak;have qB:σ' 13=(.int .i64 bR.kind):=(Nj 13 (by decide)).trans ak;rcases au h with⟨e19,h⟩|⟨e19,h⟩
   ·rcases au h with⟨e20,h⟩|⟨e20,h⟩
    ·cases h;refine ah ?_
     exact(jB dw _ _)
    ·cases h;refine ah ?_
     exact(jB dw [] _)
   ·rcases au h with⟨e21,h⟩|⟨e21,h⟩
    ·rcases au h with⟨e22,h⟩|⟨e22,h⟩
     ·obtain⟨e23,h⟩:=aL h;cases h;refine ah ?_
      exact(jB dw _ _)
     ·rcases au h with⟨e24,h⟩|⟨e24,h⟩
      ·cases h;refine ah ?_
       exact(jB dw _ _)
      ·obtain⟨e25,h⟩:=aL h;cases h;refine ah ?_
       exact(jB dw _ _)
    ·cases h;refine ah ?_
     exact(jB dw [] _)
end Go.VL
end
section
namespace Go.VL
theorem down {p:Nat->Prop} {len:Nat} (h0:p len) (h1: ∀i,i<len->p (i+1)->p i): ∀i,i<=len->p i:=by
  intro i hi;obtain⟨n,rfl⟩: ∃n,len=i+n:=⟨len -i,by omega⟩
  induction n generalizing i with
  |zero=>exact h0
  |succ n ih=>exact h1 i (by omega) (ih (i+1) (by rw [Nat.add_right_comm];exact h0) (by rw [Nat.add_right_comm];exact h1) (by omega))
theorem lq {p:Nat->Prop} {len:Nat} (h0:p len) (h1: ∀i,i<len->p (i+1)->p i):p 0:=down h0 h1 0 (Nat.zero_le _)
theorem eT {i n:Nat} (hi:i<n) (hn:n<=1099511627776):IntKind.wrap .i64 ((i:Int)+1)=((i+1:Nat):Int):=by rw [wrap64 (by omega) (by omega)];omega
theorem mh {i n:Nat} (h:i<n):decide ((i:Int)<(n:Int))=true:=decide_eq_true (by omega)
theorem jU (n:Nat):decide ((n:Int)<(n:Int))=false:=decide_eq_false (by omega)
theorem nn (i:Nat):(0:Int)<=(i:Int):=by omega
theorem abp (b:Bool):Iq b=some (if b=true then 1 else 0):=by cases b<;>rfl
theorem nU (n lo hi:Int):iY n lo hi=some (decide (lo<=n/\n<=hi)):=by
  unfold iY;by_cases h:lo<=n
  · simp [h,ge_iff_le]
  · simp [h,ge_iff_le]
theorem rz (n lo hi:Int):gU n lo hi=some (decide (lo<=n/\n<=hi)):=by
  unfold gU;by_cases h:lo<=n
  · simp [h]
  · simp [h]
theorem Bn (b:Bool) (c:Int):mW b c=some (if b=true then c else 0):=by cases b<;>rfl
theorem CY {α:Type} {l:List α} {i:Nat} (h:i<l.length) {s:α}:s∈l.drop i↔l[i]=s\/s∈l.drop (i+1):=by
  rw [List.drop_eq_getElem_cons h,List.mem_cons];exact or_congr_left eq_comm
theorem EG (l:List Str) (s:Str) (hl:l.length<=1099511627776):Ev (fun k=>xA k l s) (decide (s∈l)):=by
  have key:Ev (fun k=>kY k l s ((0:Nat):Int)) (if s∈l.drop 0 then .inr true else .inl ()):=by
    refine lq (len:=l.length) (p:=fun i=>Ev (fun k=>kY k l s (i:Int)) (if s∈l.drop i then .inr true else .inl ())) ?_ fun i hi ih=> ?_
    · refine Ev.succ ?_;simp only [kY];refine Ev.cF (jU _) (Ev.some' ?_);simp
    · refine Ev.succ ?_;simp only [kY,Int.toNat_natCast,bE hi,Option.bind_some,nn,if_true,mh hi,cond_true,eT hi hl];by_cases h:l[i]=s
      · refine Ev.cT (by rw [beq_iff_eq];exact h) (Ev.some' ?_);rw [if_pos ((CY hi).2 (.inl h))]
      · refine Ev.cF (by rw [beq_eq_false_iff_ne];exact h) (ih.to ?_);simp only [CY hi,h,false_or]
  unfold xA;refine Ev.bind key ?_;rw [List.drop_zero];by_cases h:s∈l
  · simp only [h,if_true,dn,decide_true];exact Ev.some
  · simp only [h,if_false,bZ,decide_false];exact Ev.some
theorem EH (l:List Str) (s:Str) (hl:l.length<=1099511627776):Ev (fun k=>dY k l s) (decide (s∈l)):=by
  have key: ∃o:Unit⊕Int,Ev (fun k=>dG k l s (l.length:Int) ((0:Nat):Int)) o/\((o= .inl ()/\ ¬s∈l.drop 0)\/(∃j:Nat,o= .inr (j:Int))/\s∈l.drop 0):=by
    refine lq (len:=l.length) (p:=fun i=> ∃o:Unit⊕Int,Ev (fun k=>dG k l s (l.length:Int) (i:Int)) o/\((o= .inl ()/\ ¬s∈l.drop i)\/(∃j:Nat,o= .inr (j:Int))/\s∈l.drop i)) ?_ fun i hi ⟨o,ih,ho⟩=> ?_
    · refine⟨.inl (),Ev.succ ?_,.inl ⟨rfl,by simp⟩⟩;simp only [dG];exact Ev.cF (jU _) Ev.some
    · by_cases h:l[i]=s
      · refine⟨.inr (i:Int),Ev.succ ?_,.inr ⟨⟨i,rfl⟩,(CY hi).2 (.inl h)⟩⟩;simp only [dG,Int.toNat_natCast,bE hi,Option.bind_some,nn,if_true,mh hi,cond_true,eT hi hl];exact Ev.cT (by rw [beq_iff_eq];exact h.symm) Ev.some
      · refine⟨o,Ev.succ ?_,by simp only [CY hi,h,false_or];exact ho⟩;simp only [dG,Int.toNat_natCast,bE hi,Option.bind_some,nn,if_true,mh hi,cond_true,eT hi hl];exact Ev.cF (by rw [beq_eq_false_iff_ne];exact fun e=>h e.symm) ih
  obtain⟨o,h1,h2⟩:=key;rw [List.drop_zero]at h2;unfold dY;rcases h2 with⟨rfl,h2⟩|⟨⟨j,rfl⟩,h2⟩
  · refine Ev.bind (x:= -1) (by unfold lK;exact Ev.bind h1 Ev.some) (Ev.some' ?_);simp [h2]
  · refine Ev.bind (x:=(j:Int)) (by unfold lK;exact Ev.bind h1 Ev.some) (Ev.some' ?_);simp [h2]
theorem TB (a b:List Str) (hl:a.length<=1099511627776):Ev (fun k=>sK k a b) (decide (a=b)):=by
  unfold sK;by_cases hab:a.length=b.length
  · refine Ev.cF (by simp [hab]) ?_;have key:Ev (fun k=>jF k a b ((0:Nat):Int)) (if a.drop 0=b.drop 0 then .inl ()else .inr false):=by
      refine lq (len:=a.length) (p:=fun i=>Ev (fun k=>jF k a b (i:Int)) (if a.drop i=b.drop i then .inl ()else .inr false)) ?_ fun i hi ih=> ?_
      · refine Ev.succ ?_;simp only [jF];refine Ev.cF (jU _) (Ev.some' ?_);simp [hab]
      · have hi':i<b.length:=hab▸hi;refine Ev.succ ?_;simp only [jF,Int.toNat_natCast,bE hi,bE hi',Option.bind_some,nn,if_true,mh hi,cond_true,eT hi hl];by_cases h:a[i]=b[i]
        · refine Ev.cT (by rw [beq_iff_eq];exact h) (ih.to ?_);have:List.drop i a=a[i]::List.drop (i+1) a:=List.drop_eq_getElem_cons hi;have:List.drop i b=b[i]::List.drop (i+1) b:=List.drop_eq_getElem_cons hi';simp only [*,List.cons.injEq,true_and]
        · refine Ev.cF (by rw [beq_eq_false_iff_ne];exact h) (Ev.some' ?_);have e1:List.drop i a=a[i]::List.drop (i+1) a:=List.drop_eq_getElem_cons hi;have e2:List.drop i b=b[i]::List.drop (i+1) b:=List.drop_eq_getElem_cons hi';rw [if_neg];intro e;rw [e1,e2,List.cons.injEq]at e;exact h e.1
    refine Ev.bind key ?_;by_cases h:a=b
    · subst h;simp only [if_true,bZ,decide_true];exact Ev.some
    · simp only [List.drop_zero,h,if_false,dn,decide_false];exact Ev.some
  · refine Ev.cT (by simp;omega) (Ev.some' ?_);exact(decide_eq_false fun e=>hab (by rw [e])).symm
def Bo:Operator:=Operator.mk [] 0 0 0 false 0 0
def bH (l:List Operator) (t:Str):Operator×Bool:=match l with
  |[]=>(Bo,false)
  |o::l=>if o.text=t then(o,true)else bH l t
def afI (x:Operator):Operator:=Operator.mk x.text x.fix x.low x.high x.left (if x.fix=1 then 2 else 1) (if x.text=[92,88]then 4 else if x.fix=1 then 2 else 1)
theorem Ze (add:List Operator) (hl:add.length<=1000): ∀i,i<=add.length-> ∀out:List Operator,out.length=i->Ev (fun k=>nu k out add (i:Int)) (out++(add.drop i).map afI):=by
  refine down (p:=fun i=> ∀out:List Operator,out.length=i->Ev (fun k=>nu k out add (i:Int)) (out++(add.drop i).map afI)) ?_ fun i hi ih out ho=> ?_
  · intro out ho;refine Ev.succ ?_;simp only [nu];refine Ev.cF (jU _) (Ev.some' ?_);simp
  · refine Ev.succ ?_;simp only [nu,Int.toNat_natCast,bE hi,Option.bind_some,nn,if_true,mh hi,cond_true,eT hi (by omega),abp];have e1:(out.length+1)*64<=1099511627776:=by omega
    have e2:IntKind.wrap .i64 (1+if(add[i].fix==1)=true then 1 else 0)=if add[i].fix=1 then 2 else 1:=by
      by_cases h:add[i].fix=1
      · simp [h];rfl
      · simp [h];rfl
    simp only [if_pos e1,e2];by_cases h:add[i].text=[92,88]
    · refine Ev.cT (by rw [beq_iff_eq];exact h) ((ih _ (by simp [ho])).to ?_);rw [List.drop_eq_getElem_cons hi,List.map_cons,List.append_assoc];simp [afI,h]
    · refine Ev.cF (by rw [beq_eq_false_iff_ne];exact h) ((ih _ (by simp [ho])).to ?_);rw [List.drop_eq_getElem_cons hi,List.map_cons,List.append_assoc];simp [afI,h]
def bU:List Operator:=(FP 60).getD []
theorem afJ:Ev (fun k=>FP k) bU:=by
  unfold FP;exact Ev.bind (Ze _ (by simp) 0 (Nat.zero_le _) [] rfl) (Ev.some' (by kernel_rfl))
theorem Bp (t:Str):Ev (fun k=>qA k t) (bH bU t):=by
  have hlen:bU.length≤1099511627776:=by
    have:bU.length=42:=by kernel_rfl
    omega
  have key: ∀(l:List Operator),l.length<=1099511627776->Ev (fun k=>jD k t ([]:Str) 0 0 0 false 0 0 l ((0:Nat):Int)) (match bH (l.drop 0) t with|(o,true)=> .inr (true,o.text,o.fix,o.low,o.high,o.left,o.least,o.most)|(_,false)=> .inl (([]:Str),0,0,0,false,0,0)):=by
    intro l hl;refine lq (len:=l.length) (p:=fun i=>Ev (fun k=>jD k t ([]:Str) 0 0 0 false 0 0 l (i:Int)) (match bH (l.drop i) t with|(o,true)=> .inr (true,o.text,o.fix,o.low,o.high,o.left,o.least,o.most)|(_,false)=> .inl (([]:Str),0,0,0,false,0,0))) ?_ fun i hi ih=> ?_
    · refine Ev.succ ?_;simp only [jD];refine Ev.cF (jU _) (Ev.some' ?_);simp [bH]
    · refine Ev.succ ?_;simp only [jD,Int.toNat_natCast,bE hi,Option.bind_some,nn,if_true,mh hi,cond_true,eT hi hl];have e1:List.drop i l=l[i]::List.drop (i+1) l:=List.drop_eq_getElem_cons hi;by_cases h:l[i].text=t
      · refine Ev.cT (by rw [beq_iff_eq];exact h) (Ev.some' ?_);rw [e1,bH,if_pos h]
      · refine Ev.cF (by rw [beq_eq_false_iff_ne];exact h) (ih.to ?_);rw [e1,bH,if_neg h]
  have hk:=key bU hlen;rw [List.drop_zero]at hk;unfold qA;refine Ev.bind afJ (Ev.bind hk ?_);have hno: ∀l:List Operator,(bH l t).2=false->(bH l t).1=Bo:=by
    intro l
    induction l with
    |nil=>intro _;rfl
    |cons o l ih=>
      intro h;rw [bH]at h⊢;by_cases e:o.text=t
      · rw [if_pos e]at h;cases h
      · rw [if_neg e]at h⊢;exact ih h
  have:=hno bU;generalize bH bU t=r at this;obtain⟨o,b⟩:=r;cases b with
  |true=>simp only [dn];exact Ev.some
  |false=>simp only [bZ];exact Ev.some' (by rw [show o=Bo from this rfl];rfl)
def isLet (c:UInt8):Bool:=decide (97<=c.toNat/\c.toNat<=122)||decide (65<=c.toNat/\c.toNat<=90)
def pI (c:UInt8):Bool:=decide (48<=c.toNat/\c.toNat<=57)
def jG (c:UInt8):Bool:=isLet c||pI c||decide (c.toNat=95)
def JZ:List Str:=AB.getD []
theorem Zf:AB=some JZ:=rfl
theorem aef:JZ.length=50:=by kernel_rfl
def bName (s:Str):Bool:=decide (1<=s.length/\s.length<=24)&& !decide (s∈JZ)&&s.all jG&&s.any isLet
def oJ (s:Str):Bool:=decide (s=[84,82,85,69])||decide (s=[70,65,76,83,69])||decide (s=[66,79,79,76,69,65,78])||decide (s=[83,84,82,73,78,71])
def TD (s:Str):Bool:=decide (s.take 3=[87,70,95])||decide (s.take 3=[83,70,95])
def rName (s:Str):Bool:=bName s&& !oJ s&& !TD s
def bang:Str->Option (Str×Str)
  |[]=>none
  |c::s=>if c=33 then some ([],s)else(bang s).map fun p=>(c::p.1,p.2)
def gq (s:Str):Bool:=match bang s with
  |some (a,b)=>rName a&&rName b
  |none=>rName s
theorem Zg (c:UInt8):AJ (c.toNat:Int)=some (isLet c):=by
  unfold AJ isLet;generalize c.toNat=n;by_cases h1:97<=n<;>by_cases h2:n<=122<;>by_cases h3:65<=n<;>by_cases h4:n<=90<;>simp [h1,h2,h3,h4,ge_iff_le,show((97:Int)<=n)=(97<=n) by rw [eq_iff_iff];omega,show((n:Int)<=122)=(n<=122) by rw [eq_iff_iff];omega,show((65:Int)<=n)=(65<=n) by rw [eq_iff_iff];omega,show((n:Int)<=90)=(n<=90) by rw [eq_iff_iff];omega]
theorem abq (c:UInt8):D7 (c.toNat:Int)=some (pI c):=by
  unfold D7 pI;generalize c.toNat=n;by_cases h1:48<=n<;>by_cases h2:n<=57<;>simp [h1,h2,ge_iff_le,show((48:Int)<=n)=(48<=n) by rw [eq_iff_iff];omega,show((n:Int)<=57)=(n<=57) by rw [eq_iff_iff];omega]
theorem drop_cons {α:Type} {l:List α} {i:Nat} (h:i<l.length):List.drop i l=l[i]::List.drop (i+1) l:=List.drop_eq_getElem_cons h
theorem Xk (s:Str) (i:Nat) (h:i<s.length) (t:Bool):yF s (i:Int) t=some (t&& !pI s[i]&& !decide (s[i].toNat=95)):=by
  unfold yF;simp only [Int.toNat_natCast,bE h,Option.bind_some,nn,if_true,abq];cases t
  · rfl
  · cases pI s[i]
    · simp only [cond_true,cond_false,Bool.true_and,Bool.not_false];congr 1
      by_cases e:s[i].toNat=95
      · simp [e]
      · simp only [e,decide_false,Bool.not_false,bne_iff_ne,ne_eq];omega
    · rfl
theorem adw (s:Str):Ev (fun k=>Gl k s) (bName s):=by
  unfold Gl DF;simp only [nU,Zf,Option.bind_some];by_cases h1:1<=s.length/\s.length<=24
  · have e1:(decide ((1:Int)<=(s.length:Int)/\(s.length:Int)<=24))=true:=decide_eq_true (by omega);simp only [e1,cond_true];by_cases h2:s∈JZ
    · refine Ev.bind (x:= .inr false) (Ev.bind (EG _ _ (by rw [aef];omega)) (Ev.cT (decide_eq_true h2) Ev.some)) ?_;simp only [dn];exact Ev.some' (by simp [bName,h2])
    · refine Ev.bind (x:= .inl ()) (Ev.bind (EG _ _ (by rw [aef];omega)) (Ev.cF (decide_eq_false h2) Ev.some)) ?_;simp only [bZ];have hb:s.length<=1099511627776:=by omega
      have key: ∀l:Bool,Ev (fun k=>lZ k s l ((0:Nat):Int)) (if(s.drop 0).all jG=true then .inl (l||(s.drop 0).any isLet)else .inr false):=by
        refine lq (len:=s.length) (p:=fun i=> ∀l:Bool,Ev (fun k=>lZ k s l (i:Int)) (if(s.drop i).all jG=true then .inl (l||(s.drop i).any isLet)else .inr false)) ?_ fun i hi ih l=> ?_
        · intro l;refine Ev.succ ?_;simp only [lZ];refine Ev.cF (jU _) (Ev.some' ?_);simp
        · refine Ev.succ ?_;simp only [lZ,Int.toNat_natCast,bE hi,Option.bind_some,nn,if_true,mh hi,cond_true,eT hi hb,Zg,Xk s i hi];rw [drop_cons hi];simp only [List.all_cons,List.any_cons];by_cases hc:jG s[i]=true
          · refine Ev.cF ?_ ?_
            · unfold jG at hc;revert hc;cases isLet s[i]<;>cases pI s[i]<;>cases decide (s[i].toNat=95)<;>simp
            · simp only [hc,Bool.true_and];cases l
              · simp only [cond_false,Bool.false_or];exact ih _
              · simp only [cond_true,Bool.true_or];exact(ih true).to (by simp)
          · refine Ev.cT ?_ (Ev.some' ?_)
            · unfold jG at hc;revert hc;cases isLet s[i]<;>cases pI s[i]<;>cases decide (s[i].toNat=95)<;>simp
            · simp [hc]
      refine Ev.bind (key false) ?_;rw [List.drop_zero];by_cases h3:s.all jG=true
      · simp only [h3,if_true,bZ];exact Ev.some' (by simp [bName,h1,h2,h3])
      · simp only [h3,dn];exact Ev.some' (by simp [bName,h3])
  · have e1:(decide ((1:Int)<=(s.length:Int)/\(s.length:Int)<=24))=false:=decide_eq_false (by omega);simp only [e1,cond_false,Option.bind_some,dn];exact Ev.some' (by simp [bName,h1])
theorem sM (a b:Str):(a==b)=decide (a=b):=by
  by_cases h:a=b
  · simp [h]
  · simp [h]
theorem GA (s:Str):zX s=some (oJ s):=by
  unfold zX oJ;simp only [sM];cases decide (s=[84,82,85,69])<;>cases decide (s=[70,65,76,83,69])<;>cases decide (s=[66,79,79,76,69,65,78])<;>rfl
theorem abr (s:Str):Ed s=some (oJ s):=GA s
theorem yK (s:Str):Ev (fun k=>tZ k s) (rName s):=by
  unfold tZ;refine Ev.bind (adw s) ?_;simp only [GA,Option.bind_some,sM];unfold rName;cases bName s
  · exact Ev.some
  · simp only [cond_true,Bool.true_and];cases oJ s
    · simp only [cond_false,Bool.not_false,Bool.true_and];by_cases h:3<=s.length
      · refine Ev.cT (decide_eq_true (by omega)) (Ev.aX h ?_);unfold TD;cases decide (s.take 3=[87,70,95])<;>exact Ev.some
      · refine Ev.cF (decide_eq_false (by omega)) (Ev.some' ?_);unfold TD;have e1: ¬s.take 3=[87,70,95]:=fun e=>h (by have:=congrArg List.length e;rw [List.length_take]at this;simp at this;omega);have e2: ¬s.take 3=[83,70,95]:=fun e=>h (by have:=congrArg List.length e;rw [List.length_take]at this;simp at this;omega);simp [e1,e2]
    · exact Ev.some
theorem aht (s:Str) (i:Nat) (h:i<s.length):bang (s.drop i)=if s[i]=33 then some ([],s.drop (i+1))else(bang (s.drop (i+1))).map fun p=>(s[i]::p.1,p.2):=by
  rw [drop_cons h,bang]
theorem Jw (s:Str) (hb:s.length<=1099511627776):Ev (fun k=>zC k s) (gq s):=by
  have key: ∃o:Unit⊕Bool,Ev (fun k=>l5 k s ((0:Nat):Int)) o/\(match bang (s.drop 0)with|some (a,b)=>o= .inr (rName (s.take 0++a)&&rName b)|none=>o= .inl ()):=by
    refine lq (len:=s.length) (p:=fun i=> ∃o:Unit⊕Bool,Ev (fun k=>l5 k s (i:Int)) o/\(match bang (s.drop i)with|some (a,b)=>o= .inr (rName (s.take i++a)&&rName b)|none=>o= .inl ())) ?_ fun i hi ⟨o,ih,ho⟩=> ?_
    · refine⟨.inl (),Ev.succ ?_,by simp [bang]⟩;simp only [l5];exact Ev.cF (jU _) Ev.some
    · rw [aht s i hi];by_cases h:s[i]=33
      · refine⟨.inr (rName (s.take i)&&rName (s.drop (i+1))),Ev.succ ?_,by simp [h]⟩;simp only [l5,Int.toNat_natCast,bE hi,Option.bind_some,nn,if_true,mh hi,cond_true,eT hi hb,true_and];refine Ev.cT (by rw [h];rfl) (Ev.aX (by omega) (Ev.bind (yK _) ?_));cases rName (s.take i)
        · exact Ev.some
        · simp only [cond_true,Bool.true_and];exact Ev.aX (by omega) (Ev.bind (yK _) Ev.some)
      · refine⟨o,Ev.succ ?_,?_⟩
        · simp only [l5,Int.toNat_natCast,bE hi,Option.bind_some,nn,if_true,mh hi,cond_true,eT hi hb,true_and];refine Ev.cF ?_ ih;rw [beq_eq_false_iff_ne];intro e;refine h (UInt8.toNat_inj.1 ?_);show s[i].toNat=33
          omega
        · rw [if_neg h];revert ho;cases bang (s.drop (i+1))with
          |none=>exact id
          |some p=>
            obtain⟨a,b⟩:=p;simp only [Option.map_some];rw [List.take_succ_eq_append_getElem hi,List.append_assoc];exact id
  obtain⟨o,h1,h2⟩:=key;unfold zC;refine Ev.bind h1 ?_;unfold gq;rw [List.drop_zero]at h2;revert h2;cases bang s with
  |none=>intro h2;subst h2;simp only [bZ];exact Ev.bind (yK s) Ev.some
  |some p=>
    obtain⟨a,b⟩:=p;intro h2;simp only [List.take_zero,List.nil_append]at h2;subst h2;simp only [dn];exact Ev.some
def fK (n lo hi:Int):Bool:=decide (lo<=n/\n<=hi)
def J2 (c:UInt8):Bool:=decide (32<=c.toNat/\c.toNat<=126)&& !decide (c.toNat=34)&& !decide (c.toNat=92)
def qD (s:Str):Bool:=decide (s.length<=40)&&s.all J2
theorem abt (s:Str) (m:Int) (hm:m<=1099511627776):Ev (fun k=>D9 k s m) (decide ((s.length:Int)<=m)&&s.all fun c=>decide (32<=c.toNat/\c.toNat<=126)):=by
  unfold D9;by_cases h:(s.length:Int)<=m
  · refine Ev.cF (decide_eq_false (by omega)) ?_;have hb:s.length<=1099511627776:=by omega
    have key:Ev (fun k=>l8 k s ((0:Nat):Int)) (if(s.drop 0).all (fun c=>decide (32<=c.toNat/\c.toNat<=126))=true then .inl ()else .inr false):=by
      refine lq (len:=s.length) (p:=fun i=>Ev (fun k=>l8 k s (i:Int)) (if(s.drop i).all (fun c=>decide (32<=c.toNat/\c.toNat<=126))=true then .inl ()else .inr false)) ?_ fun i hi ih=> ?_
      · refine Ev.succ ?_;simp only [l8];exact Ev.cF (jU _) (Ev.some' (by simp))
      · refine Ev.succ ?_;simp only [l8,Int.toNat_natCast,bE hi,Option.bind_some,nn,if_true,mh hi,cond_true,eT hi hb];rw [drop_cons hi];simp only [List.all_cons,Bool.and_eq_true,decide_eq_true_eq];by_cases h1:32<=s[i].toNat
        · refine Ev.cF (decide_eq_false (by omega)) ?_;by_cases h2:s[i].toNat<=126
          · refine Ev.cF (decide_eq_false (by omega)) (ih.to ?_);simp only [h1,h2,true_and]
          · refine Ev.cT (decide_eq_true (by omega)) (Ev.some' ?_);simp only [h1,h2,and_false,false_and,if_false]
        · refine Ev.cT (decide_eq_true (by omega)) (Ev.some' ?_);simp only [h1,false_and,if_false]
    refine Ev.bind key ?_;rw [List.drop_zero];by_cases h3:(s.all fun c=>decide (32<=c.toNat/\c.toNat<=126))=true
    · simp only [h3,if_true,bZ];exact Ev.some' (by simp [h])
    · simp only [h3,if_false,dn];exact Ev.some' (by simp)
  · refine Ev.cT (decide_eq_true (by omega)) (Ev.some' ?_);simp [h]
theorem afK (s:Str):Ev (fun k=>iP k s) (qD s):=by
  unfold iP;refine Ev.bind (abt s 40 (by omega)) ?_;by_cases h0:s.length<=40
  · have h0':(s.length:Int)<=40:=by omega
    have hb:s.length<=1099511627776:=by omega
    have key:Ev (fun k=>pz k s ((0:Nat):Int)) (if(s.drop 0).all (fun c=> !decide (c.toNat=34)&& !decide (c.toNat=92))=true then .inl ()else .inr false):=by
      refine lq (len:=s.length) (p:=fun i=>Ev (fun k=>pz k s (i:Int)) (if(s.drop i).all (fun c=> !decide (c.toNat=34)&& !decide (c.toNat=92))=true then .inl ()else .inr false)) ?_ fun i hi ih=> ?_
      · refine Ev.succ ?_;simp only [pz];exact Ev.cF (jU _) (Ev.some' (by simp))
      · refine Ev.succ ?_;simp only [pz,Int.toNat_natCast,bE hi,Option.bind_some,nn,if_true,mh hi,cond_true,eT hi hb];rw [drop_cons hi];simp only [List.all_cons,Bool.and_eq_true,Bool.not_eq_true',decide_eq_false_iff_not];by_cases h1:s[i].toNat=34
        · refine Ev.cT (by rw [h1];rfl) (Ev.some' ?_);simp [h1]
        · refine Ev.cF (by rw [beq_eq_false_iff_ne];omega) ?_;by_cases h2:s[i].toNat=92
          · refine Ev.cT (by rw [h2];rfl) (Ev.some' ?_);simp [h2]
          · refine Ev.cF (by rw [beq_eq_false_iff_ne];omega) (ih.to ?_);simp [h1,h2]
    have hsplit:qD s=((s.all fun c=>decide (32<=c.toNat/\c.toNat<=126))&&s.all fun c=> !decide (c.toNat=34)&& !decide (c.toNat=92)):=by
      unfold qD;rw [decide_eq_true h0,Bool.true_and]
      induction s with
      |nil=>rfl
      |cons c l ih=>
        have: ∀a b c d:Bool,(a&&b&&(c&&d))=(a&&c&&(b&&d)):=by decide
        have e1: ∀l:Str,l.all J2=((l.all fun c=>decide (32<=c.toNat/\c.toNat<=126))&&l.all fun c=> !decide (c.toNat=34)&& !decide (c.toNat=92)):=by
          intro l
          induction l with
          |nil=>rfl
          |cons c l ih=>simp only [List.all_cons,ih,J2,Bool.and_assoc];cases decide (32<=c.toNat/\c.toNat<=126)<;>cases decide (c.toNat=34)<;>cases decide (c.toNat=92)<;>simp
        exact e1 _
    rw [hsplit];simp only [decide_eq_true h0',Bool.true_and];cases(s.all fun c=>decide (32<=c.toNat/\c.toNat<=126))
    · exact Ev.some
    · simp only [cond_true,Bool.true_and];refine Ev.bind key ?_;rw [List.drop_zero];cases h3:(s.all fun c=> !decide (c.toNat=34)&& !decide (c.toNat=92))
      · simp only [Bool.false_eq_true,if_false,dn];exact Ev.some
      · simp only [if_true,bZ];exact Ev.some
  · have h0': ¬(s.length:Int)<=40:=by omega
    simp only [decide_eq_false h0',Bool.false_and,cond_false];exact Ev.some' (by simp [qD,h0])
def aS (kind:Int):(Int×Int×Int×Int)×Bool:=(sI kind).getD ((0,0,0,0),false)
theorem afL (kind:Int):sI kind=some (aS kind):=by
  have:(sI kind).isSome=true:=by
    unfold sI uf AO AP AQ AU AV AX
    repeat' first
      |rfl
      |(generalize(kind==_)=b;cases b<;>simp only [cond_true,cond_false,Option.bind_some])
  unfold aS;cases h:sI kind with
  |none=>rw [h]at this;cases this
  |some v=>rfl
def ql (n:Nd):Bool:=
  let s:=aS n.kind
  let o:=(bH bU n.text).2&&decide (n.kind=3)
  let lo:=if o=true then 0 else s.1.2.2.1
  let hi:=if o=true then(n.args.length:Int)else s.1.2.2.2
  fK (n.names.length:Int) s.1.1 s.1.2.1&&fK ((n.args.length:Int) -(n.names.length:Int)*(if s.2=true then 1 else 0)) lo hi
def mo (n:Nd):Bool:=
  (decide (n.kind=1)||decide (n.kind=2)||decide (n.kind=3)||decide (n.kind=18)||decide (n.text=[]))&&
  (decide (n.kind=0)||decide (n.kind=23)||decide (n.n=0))&&(!decide (n.kind=23)||fK n.n 0 1)&&(!decide (n.kind=1)||qD n.text)
def wz:List Str->List Str->Bool
  |_,[]=>false
  |acc,s::l=>decide (s∈acc)||wz (acc++[s]) l
def oq (n:Nd):Int:=
  if(n.names.all rName)=false then 7 else
  if n.kind=2 then(if(gq n.text||oJ n.text)=true then 0 else 7)else
  if n.kind=18 then(if rName n.text=true then 0 else 7)else
  if n.kind=3 then(if((bH bU n.text).2||gq n.text)=true then(if((bH bU n.text).2&& !fK (n.args.length:Int) (bH bU n.text).1.least (bH bU n.text).1.most)=true then 17 else 0)else 7)else 0
def bW (pl:Bool) (n:Nd):Int:=
  if fK n.kind 0 28=false then 4 else
  if ql n=false then 6 else
  if(pl&&mo n)=false then 5 else
  if(decide (n.kind=0)&& !fK n.n 0 10000)=true then 3 else
  if oq n≠0 then oq n else
  if wz [] n.names=true then 12 else 0
theorem afM (a b:Int) (c:Str) (l:List Str) (d:List Int) (hl:l.length<=1099511627776):Ev (fun k=>l9 k a b c l d ((0:Nat):Int)) (if(l.drop 0).all rName=true then .inl ()else .inr 7):=by
  refine lq (len:=l.length) (p:=fun i=>Ev (fun k=>l9 k a b c l d (i:Int)) (if(l.drop i).all rName=true then .inl ()else .inr 7)) ?_ fun i hi ih=> ?_
  · refine Ev.succ ?_;simp only [l9];exact Ev.cF (jU _) (Ev.some' (by simp))
  · refine Ev.succ ?_;simp only [l9,Int.toNat_natCast,bE hi,Option.bind_some,nn,if_true,mh hi,cond_true,eT hi hl];refine Ev.bind (yK _) ?_;rw [drop_cons hi];simp only [List.all_cons];by_cases hb:rName l[i]=true
    · exact Ev.cT hb (ih.to (by simp only [hb,Bool.true_and]))
    · have hb:rName l[i]=false:=by simpa using hb
      exact Ev.cF hb (Ev.some' (by simp only [hb,Bool.false_and];rfl))
theorem ajx (a b:Int) (c:Str) (l:List Str) (d:List Int) (hl:l.length<=1099511627776):Ev (fun k=>kQ k a b c l d 1) (if wz [] l=true then .inr 12 else .inl ()):=by
  have key: ∀i,i<=l.length->Ev (fun k=>kQ k a b c l d (i:Int)) (if wz (l.take i) (l.drop i)=true then .inr 12 else .inl ()):=by
    refine down ?_ fun i hi ih=> ?_
    · refine Ev.succ ?_;simp only [kQ];exact Ev.cF (jU _) (Ev.some' (by simp [wz]))
    · refine Ev.succ ?_;have h2:i<=l.length:=by omega
      simp only [kQ,Int.toNat_natCast,bE hi,Option.bind_some,nn,if_true,mh hi,cond_true,eT hi hl,true_and,h2];refine Ev.bind (EG _ _ (by rw [List.length_take];omega)) ?_;rw [drop_cons hi,wz,<-List.take_succ_eq_append_getElem hi];cases decide (l[i]∈l.take i)
      · simp only [cond_false,Bool.false_or];exact ih
      · exact Ev.some
  cases l with
  |nil=>
    refine Ev.succ ?_;simp only [kQ];exact Ev.cF (by rfl) Ev.some
  |cons x l=>
    have:=key 1 (by simp);exact this.to (by simp [wz])
theorem abu (e:List Nd) (i:Nat) (n:Nd) (pl:Bool) (hn:e[i]? =some n) (hpl:Ev (fun k=>CQ k e (i:Int)) pl) (h1:n.text.length<=1000000) (h2:n.names.length<=1000000) (h3:n.args.length<=1000000):
    Ev (fun k=>Ea k e (i:Int)) (bW pl n):=by
  unfold Ea;simp only [Int.toNat_natCast,hn,Option.bind_some,nn,if_true,nU,afL,abp];unfold bW;by_cases hk:fK n.kind 0 28=true
  case neg=>
    refine Ev.to (Ev.cF (by simpa [fK]using hk) Ev.some) (if_pos (by simpa using hk)).symm
  refine Ev.to ?_ (if_neg (by simp [hk])).symm;refine Ev.cT hk ?_
  have hj:Ev (fun k=>vU k n.kind n.n n.text n.names n.args (aS n.kind).1.1 (aS n.kind).1.2.1 (aS n.kind).1.2.2.1 (aS n.kind).1.2.2.2)
      ((aS n.kind).1.1,(aS n.kind).1.2.1,if((bH bU n.text).2&&decide (n.kind=3))=true then 0 else(aS n.kind).1.2.2.1,if((bH bU n.text).2&&decide (n.kind=3))=true then(n.args.length:Int)else(aS n.kind).1.2.2.2):=by
    unfold vU AY;refine Ev.bind (Bp _) ?_;cases(bH bU n.text).2
    · exact Ev.some
    · simp only [cond_true,Option.bind_some,Bool.true_and];by_cases h:n.kind=3
      · simp only [h,beq_self_eq_true,cond_true,decide_true,if_true];exact Ev.some
      · rw [show(n.kind==3)=false from beq_eq_false_iff_ne.2 h];simp only [cond_false,h,decide_false,Bool.false_eq_true,if_false];exact Ev.some
  refine Ev.bind hj ?_;have hm:IntKind.wrap .i64 ((n.names.length:Int)*if(aS n.kind).2=true then 1 else 0)=(n.names.length:Int)*if(aS n.kind).2=true then 1 else 0:=by
    split
    · exact wrap64 (by omega) (by omega)
    · exact wrap64 (by omega) (by omega)
  have hm2:IntKind.wrap .i64 ((n.args.length:Int) -((n.names.length:Int)*if(aS n.kind).2=true then 1 else 0))=(n.args.length:Int) -((n.names.length:Int)*if(aS n.kind).2=true then 1 else 0):=by
    split
    · exact wrap64 (by omega) (by omega)
    · exact wrap64 (by omega) (by omega)
  simp only [hm,hm2]
  have hsh: ∀(t:Bool),vV (aS n.kind).1.1 (aS n.kind).1.2.1 (if((bH bU n.text).2&&decide (n.kind=3))=true then 0 else(aS n.kind).1.2.2.1) (if((bH bU n.text).2&&decide (n.kind=3))=true then(n.args.length:Int)else(aS n.kind).1.2.2.2)
      ((n.args.length:Int) -((n.names.length:Int)*if(aS n.kind).2=true then 1 else 0)) (!fK (n.names.length:Int) (aS n.kind).1.1 (aS n.kind).1.2.1)=some (!ql n):=by
    intro t;unfold vV ql;simp only [nU,Option.bind_some];cases fK (n.names.length:Int) (aS n.kind).1.1 (aS n.kind).1.2.1
    · rfl
    · simp only [Bool.not_true,cond_false,Bool.true_and];rfl
  have aq2:=hsh true;unfold fK at aq2;refine Ev.lV aq2 ?_;cases hs:ql n
  · exact Ev.some
  simp only [Bool.not_true,cond_false,Bool.true_eq_false,if_false];have h3p:vW n.kind n.n n.text n.names n.args (n.kind==1)=some (decide (n.kind=1)||decide (n.kind=2)||decide (n.kind=3)||decide (n.kind=18)):=by
    unfold vW;by_cases a:n.kind=1
    · simp [a]
    by_cases b:n.kind=2
    · simp [b]
    by_cases c:n.kind=3
    · simp [c]
    by_cases d:n.kind=18
    · simp [d]
    simp [a,b,c,d,beq_eq_false_iff_ne.2 a,beq_eq_false_iff_ne.2 b,beq_eq_false_iff_ne.2 c,beq_eq_false_iff_ne.2 d]
  refine Ev.lV h3p (Ev.bind hpl ?_);have h4:Ev (fun k=>vX k n.kind n.n n.text n.names n.args (decide (n.kind=1)||decide (n.kind=2)||decide (n.kind=3)||decide (n.kind=18)) (!pl)) (!(pl&&mo n)):=by
    cases pl
    · exact Ev.some
    unfold vX mo;simp only [Bool.not_true,cond_false,Bool.true_and,nU,Option.bind_some];have hp:Ev (fun k=>Option.bind (iP k n.text) fun p=>some (!p)) (!qD n.text):=Ev.bind (afK _) Ev.some
    have key: ∀T0 T3 T2:Bool,T0=decide (n.n=0)->T2=fK n.n 0 1->
        Ev (fun k=>cond (n.kind !=0) (cond (n.kind !=23) (cond (n.n !=0) (some true) (cond (n.kind==23) (cond (decide (0<=n.n/\n.n<=1)) (cond (n.kind==1) (Option.bind (iP k n.text) fun p=>some (!p)) (some false)) (some true)) (cond (n.kind==1) (Option.bind (iP k n.text) fun p=>some (!p)) (some false))))
          (cond (n.kind==23) (cond (decide (0<=n.n/\n.n<=1)) (cond (n.kind==1) (Option.bind (iP k n.text) fun p=>some (!p)) (some false)) (some true)) (cond (n.kind==1) (Option.bind (iP k n.text) fun p=>some (!p)) (some false))))
          (cond (n.kind==23) (cond (decide (0<=n.n/\n.n<=1)) (cond (n.kind==1) (Option.bind (iP k n.text) fun p=>some (!p)) (some false)) (some true)) (cond (n.kind==1) (Option.bind (iP k n.text) fun p=>some (!p)) (some false))))
        (!((decide (n.kind=0)||decide (n.kind=23)||decide (n.n=0))&&(!decide (n.kind=23)||fK n.n 0 1)&&(!decide (n.kind=1)||qD n.text))):=by
      intro T0 T3 T2 _ _;unfold fK;by_cases a:n.kind=0
      · simp only [a];exact Ev.some
      by_cases b:n.kind=23
      · simp only [b];by_cases c:0<=n.n/\n.n<=1
        · simp only [c,and_self,decide_true];exact Ev.some
        · simp only [c,decide_false];exact Ev.some
      by_cases c:n.n=0
      · by_cases d:n.kind=1
        · simp only [c,d];exact hp
        · simp only [a,b,c,d,bne_iff_ne,beq_eq_false_iff_ne.2 a,beq_eq_false_iff_ne.2 b,beq_eq_false_iff_ne.2 d,bne,Bool.not_false,cond_true,cond_false,decide_false,decide_true];exact Ev.some
      · simp only [a,b,c,beq_eq_false_iff_ne.2 a,beq_eq_false_iff_ne.2 b,beq_eq_false_iff_ne.2 c,bne,Bool.not_false,cond_true,decide_false];exact Ev.some
    have key':=key _ false _ rfl rfl;cases(decide (n.kind=1)||decide (n.kind=2)||decide (n.kind=3)||decide (n.kind=18))
    · simp only [cond_false,Bool.false_or,sM];cases decide (n.text=[])
      · exact Ev.some
      · simp only [cond_true,Bool.true_and];exact key'
    · simp only [cond_true,Bool.true_or,Bool.true_and];exact key'
  refine Ev.bind h4 ?_;cases hc:(pl&&mo n)
  · exact Ev.some
  simp only [Bool.not_true,cond_false,Bool.true_eq_false,if_false];have h5:vY n.kind n.n n.text n.names n.args (n.kind==0)=some (decide (n.kind=0)&& !fK n.n 0 10000):=by
    unfold vY fK;simp only [nU,Option.bind_some];by_cases a:n.kind=0
    · simp only [a,beq_self_eq_true,cond_true,decide_true,Bool.true_and]
    · simp only [a,beq_eq_false_iff_ne.2 a,cond_false,decide_false,Bool.false_and]
  refine Ev.lV h5 ?_;cases h6:(decide (n.kind=0)&& !fK n.n 0 10000)
  case true=>exact Ev.some
  simp only [cond_false,Bool.false_eq_true,if_false];refine Ev.bind (afM _ _ _ n.names _ (by omega)) ?_;rw [List.drop_zero];unfold oq;cases h7:n.names.all rName
  · simp only [Bool.false_eq_true,if_false,dn,if_true];exact Ev.some
  simp only [if_true,bZ,Bool.true_eq_false,if_false];refine Ev.bind (Bp _) ?_
  have h8: ∀op:Operator,∀is:Bool,Ev (fun k=>vZ k n.kind n.n n.text n.names n.args op.text op.fix op.low op.high op.left op.least op.most is)
      (if(if n.kind=2 then(if(gq n.text||oJ n.text)=true then(0:Int)else 7)else if n.kind=18 then(if rName n.text=true then 0 else 7)else if n.kind=3 then(if(is||gq n.text)=true then(if(is&& !fK (n.args.length:Int) op.least op.most)=true then 17 else 0)else 7)else 0)=0 then .inl ()else
        .inr (if n.kind=2 then(if(gq n.text||oJ n.text)=true then(0:Int)else 7)else if n.kind=18 then(if rName n.text=true then 0 else 7)else if n.kind=3 then(if(is||gq n.text)=true then(if(is&& !fK (n.args.length:Int) op.least op.most)=true then 17 else 0)else 7)else 0)):=by
    intro op is;unfold vZ;by_cases a:n.kind=2
    · simp only [a,beq_self_eq_true,cond_true,if_true];refine Ev.bind (Jw _ (by omega)) ?_;cases gq n.text
      · simp only [cond_false,GA,Option.bind_some,Bool.false_or];cases oJ n.text<;>exact Ev.some
      · exact Ev.some
    by_cases b:n.kind=18
    · simp only [b];refine Ev.cF rfl (Ev.cT rfl ?_);refine Ev.bind (yK _) ?_;cases rName n.text<;>exact Ev.some
    by_cases c:n.kind=3
    · simp only [c];refine Ev.cF rfl (Ev.cF rfl (Ev.cT rfl ?_));unfold Bc;cases is
      · simp only [Bool.not_false,cond_true,Bool.false_or];refine Ev.bind (Ev.bind (Jw _ (by omega)) Ev.some) ?_;cases gq n.text<;>exact Ev.some
      · simp only [Bool.not_true,cond_false,Option.bind_some,cond_true,nU,Bool.true_or,if_true,Bool.true_and];unfold fK;cases decide (op.least<=(n.args.length:Int)/\(n.args.length:Int)<=op.most)<;>exact Ev.some
    · simp only [a,b,c,beq_eq_false_iff_ne.2 a,beq_eq_false_iff_ne.2 b,beq_eq_false_iff_ne.2 c,cond_false,if_false,if_true];exact Ev.some
  refine Ev.bind (h8 (bH bU n.text).1 (bH bU n.text).2) ?_;generalize hx:(if n.kind=2 then(if(gq n.text||oJ n.text)=true then(0:Int)else 7)else if n.kind=18 then(if rName n.text=true then 0 else 7)else if n.kind=3 then(if((bH bU n.text).2||gq n.text)=true then(if((bH bU n.text).2&& !fK (n.args.length:Int) (bH bU n.text).1.least (bH bU n.text).1.most)=true then 17 else 0)else 7)else 0)=x;by_cases hx0:x=0
  · subst hx0;simp only [if_true,bZ,ne_eq,not_true_eq_false,if_false];refine Ev.bind (ajx _ _ _ n.names _ (by omega)) ?_;cases wz [] n.names<;>exact Ev.some
  · simp only [hx0,if_false,dn,ne_eq,not_false_eq_true,if_true];exact Ev.some
def zF (acc:List Int) (n:Nd):Int:=match n.args with
  |[]=>acc.length
  |a::_=>acc[a.toNat]?.getD 0
def tF (acc:List Int):Int->List Int->Bool
  |_,[]=>true
  |next,a::l=>decide (a=next -1)&&decide (1<=next)&&tF acc (acc[(next -1).toNat]?.getD 0) l
structure qO (e:List Nd) (i:Nat) (acc:List Int):Prop where
  len:acc.length=i
  le:i<=e.length
  at_: ∀j,j<i-> ∃n b,e[j]? =some n/\acc[j]? =some b/\0<=b/\b<=(j:Int)/\(n.args=[]->b=(j:Int))/\ ∀a l,n.args=a::l->0<=a/\a<(j:Int)/\acc[a.toNat]? =some b
structure Bq (e:List Nd):Prop where
  len:e.length<=1000000
  nd: ∀(i:Nat) n,e[i]? =some n->n.text.length<=1000000/\n.names.length<=1000000/\n.args.length<=1000000
theorem qO.rng {e:List Nd} {i:Nat} {acc:List Int} (h:qO e i acc) {j:Nat} {b:Int} (hb:acc[j]? =some b):j<i/\0<=b/\b<=(j:Int):=by
  have hj:j<i:=by have:=(List.getElem?_eq_some_iff.1 hb).1;have:=h.len;omega
  obtain⟨n,b',h1,h2,h3,h4,_⟩:=h.at_ j hj;rw [hb]at h2;cases h2;exact⟨hj,h3,h4⟩
theorem Zh {e:List Nd} {i:Nat} {acc:List Int} (h:qO e i acc) (hi:i<=1000000): ∀(j:Nat) (b:Int),acc[j]? =some b->Ev (fun k=>ny k e (j:Int)) (.inl b):=by
  intro j
  induction j using Nat.strongRecOn with
  |_ j ih=>
    intro b hb;obtain⟨hj,hb0,hb1⟩:=h.rng hb;obtain⟨n,b',h1,h2,_,_,h5,h6⟩:=h.at_ j hj;rw [hb]at h2;cases h2;refine Ev.succ ?_;simp only [ny,Int.toNat_natCast,nn,if_true,h1,Option.bind_some,nU];cases hargs:n.args with
    |nil=>
      refine Ev.cF (by simp) (Ev.some' ?_);rw [h5 hargs]
    |cons a l=>
      obtain⟨h7,h8,h9⟩:=h6 a l hargs;refine Ev.cT (by simp) ?_;simp only [List.getElem?_cons_zero,Option.bind_some];rw [wrap64 (by omega) (by omega)];refine Ev.cT (decide_eq_true (by omega)) ?_;have:=ih a.toNat (by omega) b h9
      rwa [Int.toNat_of_nonneg h7]at this
theorem TF {e:List Nd} {i:Nat} {acc:List Int} (h:qO e i acc) (hi:i<=1000000) {j:Nat} {b:Int} (hb:acc[j]? =some b):Ev (fun k=>uW k e (j:Int)) b:=by
  unfold uW;refine Ev.cF (decide_eq_false (by omega)) (Ev.bind (Zh h hi j b hb) ?_);simp only [bZ];exact Ev.some
theorem abv {α:Type} {l:List α} {m:Nat} (h:m<l.length):(l.take (m+1)).reverse=l[m]::(l.take m).reverse:=by
  rw [List.take_succ_eq_append_getElem h,List.reverse_append];rfl
theorem Xl {e:List Nd} {i:Nat} {acc:List Int} (h:qO e i acc) (hi:i<=1000000) {n:Nd} (hn:e[i]? =some n) (hl:n.args.length<=1000000): ∀(m:Nat),m<=n.args.length-> ∀nx:Nat,nx<=i->
    Ev (fun k=>pU k e (i:Int) (nx:Int) ((m:Int) -1)) (if tF acc nx (n.args.take m).reverse=true then .inl ()else .inr false):=by
  intro m
  induction m with
  |zero=>
    intro _ nx hnx;refine Ev.succ ?_;simp only [pU];exact Ev.cF (by rfl) (Ev.some' (by simp [tF]))
  |succ m ih=>
    intro hm nx hnx;have hm':m<n.args.length:=by omega
    refine Ev.succ ?_;have e1:(((m+1:Nat):Int) -1)=(m:Int):=by omega
    simp only [e1,pU,Int.toNat_natCast,nn,if_true,hn,Option.bind_some,bE hm'];rw [abv hm',tF];refine Ev.cT (by simp) ?_;rw [wrap64 (x:=(nx:Int) -1) (by omega) (by omega),wrap64 (x:=(m:Int) -1) (by omega) (by omega)];by_cases h1:n.args[m]=(nx:Int) -1
    · refine Ev.cF (by rw [h1];simp) ?_;by_cases h2:nx<1
      · refine Ev.cT (decide_eq_true (by omega)) (Ev.some' ?_);have: ¬(1:Int)<=nx:=by omega
        simp [this]
      · refine Ev.cF (decide_eq_false (by omega)) ?_;obtain⟨j,rfl⟩: ∃j,nx=j+1:=⟨nx -1,by omega⟩;have e2:(((j+1:Nat):Int) -1)=(j:Int):=by omega
        rw [e2]at h1⊢;obtain⟨n',b,h3,h4,h5,h6,_⟩:=h.at_ j (by omega);refine Ev.bind (TF h hi h4) ?_;obtain⟨b,rfl⟩: ∃b':Nat,b=b':=⟨b.toNat,by omega⟩;refine(ih (by omega) b (by omega)).to ?_;have e3:(1:Int)<=((j+1:Nat):Int):=by omega
        simp only [h1,e3,decide_true,Bool.true_and,Int.toNat_natCast,h4,Option.getD_some]
    · refine Ev.cT (by rw [bne_iff_ne];exact h1) (Ev.some' ?_);simp [h1]
theorem adx {e:List Nd} {i:Nat} {acc:List Int} (h:qO e i acc) (hi:i<=1000000) {n:Nd} (hn:e[i]? =some n) (hl:n.args.length<=1000000):Ev (fun k=>CQ k e (i:Int)) (tF acc i n.args.reverse):=by
  unfold CQ;simp only [Int.toNat_natCast,nn,if_true,hn,Option.bind_some];rw [wrap64 (by omega) (by omega)];have:=Xl h hi hn hl n.args.length (Nat.le_refl _) i (Nat.le_refl _);rw [List.take_length]at this;refine Ev.bind this ?_;cases tF acc i n.args.reverse
  · simp only [Bool.false_eq_true,if_false,dn];exact Ev.some
  · simp only [if_true,bZ];exact Ev.some
theorem Xm {e:List Nd} {i:Nat} {acc:List Int} (h:qO e i acc): ∀(l:List Int) (nx:Nat),nx<=i->tF acc nx l=true-> ∀a∈l,0<=a/\a<(nx:Int)
  |[],_,_,_,a,ha=>by cases ha
  |a::l,nx,hnx,hp,x,hx=>by
    rw [tF,Bool.and_eq_true,Bool.and_eq_true,decide_eq_true_eq,decide_eq_true_eq]at hp;obtain⟨⟨h1,h2⟩,h3⟩:=hp;rcases List.mem_cons.1 hx with rfl|hx
    · omega
    · obtain⟨j,rfl⟩: ∃j,nx=j+1:=⟨nx -1,by omega⟩;have e2:(((j+1:Nat):Int) -1)=(j:Int):=by omega
      obtain⟨n',b,h4,h5,h6,h7,_⟩:=h.at_ j (by omega);rw [e2,Int.toNat_natCast,h5,Option.getD_some]at h3;obtain⟨b,rfl⟩: ∃b':Nat,b=b':=⟨b.toNat,by omega⟩;have:=Xm h l b (by omega) h3 x hx;omega
theorem qO.zero (e:List Nd):qO e 0 []:=⟨rfl,Nat.zero_le _,fun j hj=>absurd hj (Nat.not_lt_zero _)⟩
theorem qO.succ {e:List Nd} {i:Nat} {acc:List Int} (h:qO e i acc) {n:Nd} (hn:e[i]? =some n) (hp:tF acc i n.args.reverse=true):qO e (i+1) (acc++[zF acc n]):=by
  have hmem:=Xm h _ i (Nat.le_refl _) hp;have hlen:=h.len;refine⟨by simp [hlen],(List.getElem?_eq_some_iff.1 hn).1,fun j hj=> ?_⟩;have old: ∀(m:Nat) (b:Int),acc[m]? =some b->(acc++[zF acc n])[m]? =some b:=fun m b e=>by
    rw [List.getElem?_append_left (List.getElem?_eq_some_iff.1 e).1];exact e
  by_cases hj':j<i
  · obtain⟨n',b,h1,h2,h3,h4,h5,h6⟩:=h.at_ j hj';exact⟨n',b,h1,old _ _ h2,h3,h4,h5,fun a l ha=>⟨(h6 a l ha).1,(h6 a l ha).2.1,old _ _ (h6 a l ha).2.2⟩⟩
  · obtain rfl:j=i:=by omega
    have hnew:(acc++[zF acc n])[j]? =some (zF acc n):=by rw [List.getElem?_append_right (by omega),hlen,Nat.sub_self];rfl
    cases hargs:n.args with
    |nil=>
      have e1:zF acc n=(j:Int):=by unfold zF;rw [hargs];simp [hlen]
      exact⟨n,_,hn,hnew,by omega,by omega,fun _=>e1,fun a l ha=>by rw [hargs]at ha;cases ha⟩
    |cons a l=>
      have ha:=hmem a (by rw [hargs];simp);obtain⟨n',b,h1,h2,h3,h4,h5,h6⟩:=h.at_ a.toNat (by omega);have e1:zF acc n=b:=by unfold zF;rw [hargs];simp only [h2,Option.getD_some]
      rw [e1]at hnew old⊢;refine⟨n,b,hn,hnew,h3,by omega,(fun h=>by rw [hargs]at h;cases h),fun a' l' ha'=> ?_⟩;rw [hargs]at ha';cases ha';exact⟨ha.1,ha.2,old _ _ h2⟩
def ou:List Int->List Nd->List Int⊕(Int×Int)
  |acc,[]=> .inl acc
  |acc,n::l=>if bW (tF acc acc.length n.args.reverse) n≠0 then .inr ((acc.length:Int),bW (tF acc acc.length n.args.reverse) n)else ou (acc++[zF acc n]) l
theorem yL {n:Nd} {pl:Bool} (h:bW pl n=0):pl=true:=by
  cases pl with
  |true=>rfl
  |false=>
    exfalso;unfold bW at h;simp only [Bool.false_and,if_true]at h;split at h
    · cases h
    · split at h<;>cases h
theorem Zi {e:List Nd} (hL:Bq e): ∀i,i<=e.length-> ∀acc,qO e i acc->Ev (fun k=>pE k e (i:Int)) (match ou acc (e.drop i)with| .inl _=> .inl ()| .inr r=> .inr r):=by
  have hlen:=hL.len;refine down (fun acc h=> ?_) (fun i hi ih acc h=> ?_)
  · refine Ev.succ ?_;simp only [pE];exact Ev.cF (jU _) (Ev.some' (by simp [ou]))
  · refine Ev.succ ?_;obtain⟨h1,h2,h3⟩:=hL.nd i _ (bE hi);simp only [pE];refine Ev.cT (mh hi) (Ev.bind (abu e i e[i] _ (bE hi) (adx h (by omega) (bE hi) h3) h1 h2 h3) ?_);rw [drop_cons hi,ou,h.len];by_cases hc:bW (tF acc i e[i].args.reverse) e[i]=0
    · refine Ev.cF (by rw [hc];rfl) ?_;rw [eT hi (by omega)];refine(ih _ (h.succ (bE hi) (yL hc))).to ?_;simp only [hc,ne_eq,not_true_eq_false,if_false]
    · refine Ev.cT (by rw [bne_iff_ne];exact hc) (Ev.some' ?_);simp only [ne_eq,hc,not_false_eq_true,if_true]
theorem GD {sz:Nat}: ∀(es:List (List PV)) (rest:List PV),(∀cs∈es,cs.length=sz)->chunks sz es.length (es.flatten++rest)=es
  |[],rest,_=>by simp [chunks]
  |c::es,rest,h=>by
    have hc:=h c (List.mem_cons_self ..);have ih:=GD es rest fun cs hcs=>h cs (List.mem_cons_of_mem _ hcs);unfold chunks at ih⊢;rw [List.length_cons,List.range_succ_eq_map,List.map_cons,List.map_map,List.flatten_cons,List.append_assoc];congr 1
    · rw [Nat.zero_mul,List.drop_zero,<-hc,List.take_left]
    · conv=>rhs;rw [<-ih]
      refine List.map_congr_left fun i _=> ?_;simp only [Function.comp];rw [show(i+1)*sz=sz+i*sz by rw [Nat.add_mul,Nat.one_mul,Nat.add_comm],<-List.drop_drop];congr 2
      rw [<-hc,List.drop_left]
theorem rX {α:Type} {sz:Nat} {f:α->List PV} (hf: ∀x,(f x).length=sz): ∀l:List α,((l.map f).flatten).length=l.length*sz
  |[]=>by simp
  |x::l=>by rw [List.map_cons,List.flatten_cons,List.length_append,hf,rX hf l,List.length_cons,Nat.succ_mul,Nat.add_comm]
theorem Yw {α:Type} {sz:Nat} {f:α->List PV} (hf: ∀x,(f x).length=sz): ∀(l:List α) (i:Nat),((l.map f).flatten).drop (i*sz)=((l.drop i).map f).flatten
  |l,0=>by simp
  |[],i+1=>by simp
  |x::l,i+1=>by
    rw [List.map_cons,List.flatten_cons,Nat.succ_mul,Nat.add_comm,<-List.drop_drop];have:List.drop sz (f x++(l.map f).flatten)=(l.map f).flatten:=by rw [<-hf x,List.drop_left]
    rw [this,Yw hf l i,List.drop_succ_cons]
theorem abw (A fa B vs:List PV) {j:Nat} (h:j+vs.length<=fa.length):putCells (A++(fa++B)) (A.length+j) vs=A++(putCells fa j vs++B):=by
  have h1:j -fa.length=0:=by omega
  have h2:A.length+j+vs.length -A.length=j+vs.length:=by omega
  have h3:j+vs.length -fa.length=0:=by omega
  have h4:A.take (A.length+j)=A:=List.take_of_length_le (by omega);have h5:A.drop (A.length+j+vs.length)=[]:=List.drop_eq_nil_of_le (by omega);have h6:A.length+j -A.length=j:=by omega
  simp only [putCells,List.take_append,List.drop_append,h1,h2,h3,h4,h5,h6,List.take_zero,List.drop_zero,List.append_nil,List.nil_append,List.append_assoc]
theorem Yx (z:List PV): ∀n,((List.replicate n z).flatten).length=n*z.length
  |0=>by simp
  |n+1=>by rw [List.replicate_succ,List.flatten_cons,List.length_append,Yx z n,Nat.add_mul,Nat.one_mul,Nat.add_comm]
theorem abx {α:Type} {l:List α} {i:Nat} {x:α} (h:l[i]? =some x):l.drop i=x::l.drop (i+1):=by
  have hlt:=(List.getElem?_eq_some_iff.1 h).1;rw [List.drop_eq_getElem_cons hlt];congr 1
  exact(List.getElem?_eq_some_iff.1 h).2
def aO {α:Type} (H:AH) (f:α->List PV) (sz:Nat) (l:List α) (v:PV) (ids:List Nat):Prop:=
  (v= .aB [] .nil/\l=[]/\ids=[])\/ ∃id cap junk,ids=[id]/\v= .dQ id 0 l.length cap sz/\l.length<=cap/\id<H.next/\H.obj id=some ((l.map f).flatten++junk)/\junk.length=(cap -l.length)*sz
def Nw (H:AH) (ids zG:List Nat):Prop:= ∀i∈zG,i∈ids\/H.next<=i
theorem Nw.refl {H:AH} {ids:List Nat}:Nw H ids ids:=fun _ h=> .inl h
theorem Nw.trans {H H':AH} {a b c:List Nat} (h:Nw H a b) (hn:H.next<=H'.next) (k:Nw H' b c):Nw H a c:=fun i hi=>by
  rcases k i hi with q|q
  · exact h i q
  · exact .inr (Nat.le_trans hn q)
theorem Nw.via {H H':AH} {M N c:List Nat} (h: ∀i∈N,i∈M\/H.next<=i) (hn:H.next<=H'.next) (k:Nw H' N c):Nw H M c:=fun i hi=>by
  rcases k i hi with q|q
  · exact h i q
  · exact .inr (Nat.le_trans hn q)
def Dj (a b:List Nat):Prop:= ∀i∈a,i∉b
theorem Dj.nil {b:List Nat}:Dj [] b:=fun _ h=>by cases h
theorem Dj.symm {a b:List Nat} (h:Dj a b):Dj b a:=fun i hi hj=>h i hj hi
section
variable {α:Type} {H H':AH} {f:α->List PV} {sz:Nat} {l:List α} {v:PV} {ids:List Nat}
theorem aO.nil:aO H f sz ([]:List α) (.aB [] .nil) []:= .inl ⟨rfl,rfl,rfl⟩
theorem aO.lt (h:aO H f sz l v ids): ∀i∈ids,i<H.next:=by
  rcases h with⟨_,_,rfl⟩|⟨id,cap,junk,rfl,_,_,h,_⟩
  · intro i hi;cases hi
  · intro i hi;rw [List.mem_singleton.1 hi];exact h
theorem aO.hf {M:List Nat} (h:aO H f sz l v ids) (hf:HF M H H') (hd:Dj ids M):aO H' f sz l v ids:=by
  rcases h with⟨h1,h2,h3⟩|⟨id,cap,junk,rfl,h1,h2,h3,h4,h5⟩
  · exact .inl ⟨h1,h2,h3⟩
  · exact .inr ⟨id,cap,junk,rfl,h1,h2,Nat.lt_of_lt_of_le h3 hf.1,(hf.2 id h3 (hd id (List.mem_singleton.2 rfl))).trans h4,h5⟩
theorem aO.new {cs:List PV} (h:aO H f sz l v ids):aO (H.new cs) f sz l v ids:=h.hf (M:=[]) (HF.new (HF.refl _ _)) (fun _ _ h=>by cases h)
theorem aO.put {id:Nat} {cs:List PV} (h:aO H f sz l v ids) (hn:id∉ids):aO (H.put id cs) f sz l v ids:=
  h.hf (M:=[id]) (HF.put (.inl (List.mem_singleton.2 rfl)) (HF.refl _ _)) (fun i hi hj=>hn (List.mem_singleton.1 hj▸hi))
theorem aO.axC (h:aO H f sz l v ids):Ih v=some (.int .i64 l.length):=by
  rcases h with⟨rfl,rfl,_⟩|⟨id,cap,junk,rfl,rfl,_⟩
  · rfl
  · rfl
theorem aO.at (h:aO H f sz l v ids) {i:Nat} {x:α} (hx:l[i]? =some x): ∃id cap junk,ids=[id]/\v= .dQ id 0 l.length cap sz/\l.length<=cap/\id<H.next/\H.obj id=some ((l.map f).flatten++junk)/\junk.length=(cap -l.length)*sz:=by
  rcases h with⟨_,rfl,_⟩|h
  · simp at hx
  · exact h
theorem aO.content [hr:Aq f sz] (h:aO H f sz l v ids) {i:Nat} {x:α} (hx:l[i]? =some x):
    ∃id C,ids=[id]/\id<H.next/\H.obj id=some C/\(∀j c,(f x)[j]? =some c->C[i*sz+j]? =some c)/\(∀j,j<=sz->i*sz+j<=C.length)/\(C.drop (i*sz)).take sz=f x/\
      ∀k n,0<=n->n.toNat=i->qL sz v (.int k n)=some (.ref id (i*sz)):=by
  obtain⟨id,cap,junk,rfl,rfl,h2,h3,h4,h5⟩:=h.at hx;have hlt:=(List.getElem?_eq_some_iff.1 hx).1;have hd:((l.map f).flatten++junk).drop (i*sz)=f x++(((l.drop (i+1)).map f).flatten++junk):=by
    rw [List.drop_append_of_le_length (by rw [rX hr.len];exact Nat.mul_le_mul_right _ (by omega)),Yw hr.len,abx hx];simp
  have hlen:i*sz+sz<=((l.map f).flatten++junk).length:=by
    rw [List.length_append,rX hr.len];have:(i+1)*sz<=l.length*sz:=Nat.mul_le_mul_right _ hlt;rw [Nat.succ_mul]at this;omega
  refine⟨id,_,rfl,h3,h4,fun j c hc=> ?_,fun j hj=>by omega,?_,fun k n hn he=> ?_⟩
  · rw [<-List.getElem?_drop,hd];have hj:j<(f x).length:=(List.getElem?_eq_some_iff.1 hc).1;rw [List.getElem?_append_left hj];exact hc
  · rw [hd,List.take_append_of_le_length (by rw [hr.len];exact Nat.le_refl _),List.take_of_length_le (by rw [hr.len];exact Nat.le_refl _)]
  · subst he;have h6:n<(l.length:Int):=by omega
    simp [qL,hn,h6]
theorem aO.fz (hp: ∀x,∀c∈f x,Pu c) [hr:Aq f sz] (h:aO H f sz l v ids):Fz H v (.aB (l.map f) .unk):=by
  rcases h with⟨rfl,rfl,_⟩|⟨id,cap,junk,rfl,rfl,h2,h3,h4,h5⟩
  · exact jB hp [] .nil
  · refine .dQ id 0 l.length cap sz _ _ (fun i j=>((l.map f)[i]?.bind (·[j]?)).getD .any) h4 (by simp) h2 (fun i cs e=> ?_) (fun i cs e j c ec=> ?_) (fun i cs e j c ec=> ?_)
    · simp only [List.getElem?_map,Option.map_eq_some_iff]at e;obtain⟨x,_,rfl⟩:=e;exact hr.len x
    · have e':=e;simp only [List.getElem?_map,Option.map_eq_some_iff]at e;obtain⟨x,hx,rfl⟩:=e;have hrow:aO H f sz l (.dQ id 0 l.length cap sz) [id]:= .inr ⟨id,cap,junk,rfl,rfl,h2,h3,h4,h5⟩;obtain⟨id',C,e1,_,e2,e3,_⟩:=hrow.content hx;cases e1;rw [h4]at e2;cases e2;rw [e',Option.bind_some,ec,Option.getD_some,Nat.zero_add];exact e3 j c ec
    · rw [e,Option.bind_some,ec,Option.getD_some];simp only [List.getElem?_map,Option.map_eq_some_iff]at e;obtain⟨x,_,rfl⟩:=e;exact .pure _ (hp x c (List.mem_of_getElem? ec))
end
variable [Glob]
section
variable {P:Program} {Q:Post} {σ:Nat->PV} {s:List Fm} {α:Type} {H:AH} {f:α->List PV} {sz:Nat} {v:PV} {ids:List Nat}
theorem ND {d:Option Nat} {b:Nat} {x y:AE} {l:List aQ} [hr:Aq f sz] (hf: ∀x,xw sz (f x)) (xs ys:List α) (c2:Ck)
    (hx:x.ev σ=v) (hrow:aO H f sz xs v ids) (hy:y.ev σ= .aB (ys.map f) c2) (hs:0<ys.length) (hb:(xs.length+ys.length)*b<=1099511627776)
    (h: ∀(v':PV) (zG:List Nat) (H':AH),aO H' f sz (xs++ys) v' zG->Nw H ids zG->HF ids H H'->(∀c3,eD H c3->eD H' c3)->WO P l s Q (upd σ d v') H'):
    WO P (⟨d,.n (.app sz b x y),none⟩::l) s Q σ H:=by
  show dD P _ _ σ H
  rw [SX];simp only [nop,hx,hy];have h0: ¬((ys.map f).length=0):=by rw [List.length_map];omega
  have fresh: ∀(es:List (List PV)),es=xs.map f->zw sz b H es (ys.map f) (fun p H'=>dD P l (Gf P s Q .normal) (upd σ d p) H'):=by
    intro es he cap hcap;subst he;simp only [List.length_map]at hcap⊢;refine h _ [H.next] _ (.inr ⟨H.next,cap,List.replicate ((cap -(xs.length+ys.length))*sz) .any,rfl,by rw [List.length_append],by rw [List.length_append];exact hcap,Nat.lt_succ_self _,?_,by rw [List.length_replicate,List.length_append]⟩) (fun i hi=> .inr (by rw [List.mem_singleton.1 hi];exact Nat.le_refl _)) (HF.new (HF.refl _ _)) (fun c3 k=>k.new);show(if H.next=H.next then some _ else _)=_
    rw [if_pos rfl,List.map_append]
  rcases hrow with⟨rfl,rfl,rfl⟩|⟨id,cap,junk,rfl,rfl,h2,h3,h4,h5⟩
  · simp only [DV,rowOf];rw [if_neg h0];split
    · exact fresh [] rfl
    · rename_i hno;exact(hno ⟨CK hf ([]:List α),CK hf ys,by simpa using hb⟩).elim
  · have hfl:=rX (f:=f) hr.len xs;have hrow:rowOf sz H (.dQ id 0 xs.length cap sz)=some (xs.map f):=by
      simp only [rowOf,h4];rw [if_pos ⟨trivial,by rw [List.length_append,hfl];omega⟩,List.drop_zero];have:=GD (sz:=sz) (xs.map f) junk (fun cs hcs=>by obtain⟨x,_,rfl⟩:=List.mem_map.1 hcs;exact hr.len x);rw [List.length_map]at this;rw [this]
    simp only [DV,hrow];have:rowOf sz H (.aB (ys.map f) c2)=some (ys.map f):=rfl;simp only [this];rw [if_neg h0,if_pos ⟨CK hf xs,CK hf ys,by simpa using hb⟩];simp only [List.length_map];by_cases hc:xs.length+ys.length<=cap
    · rw [if_pos hc,h4];have hsz:cap -xs.length=(cap -(xs.length+ys.length))+ys.length:=by omega
      have h6:0+(xs.length+ys.length)*sz<=((xs.map f).flatten++junk).length:=by
        rw [List.length_append,hfl,h5,Nat.add_mul,hsz,Nat.add_mul];omega
      simp only;rw [if_pos h6];have hyl:=rX (f:=f) hr.len ys;have hput:putCells ((xs.map f).flatten++junk) (0+xs.length*sz) (ys.map f).flatten=((xs++ys).map f).flatten++junk.drop (ys.length*sz):=by
        rw [Nat.zero_add,putCells,<-hfl,List.take_left,hyl,<-List.drop_drop,List.drop_left,List.map_append,List.flatten_append]
      rw [hput];refine h _ [id] _ (.inr ⟨id,cap,junk.drop (ys.length*sz),rfl,by rw [List.length_append],by rw [List.length_append];exact hc,h3,?_,?_⟩) Nw.refl (HF.put (.inl (List.mem_singleton.2 rfl)) (HF.refl _ _)) (fun c3 k=>k.put)
      · show(if id=id then some _ else _)=_
        rw [if_pos rfl]
      · rw [List.length_drop,h5,List.length_append,hsz,Nat.add_mul];omega
    · rw [if_neg hc,if_pos h2];have hfr:=fresh _ rfl;intro cap' aum;exact hfr cap' aum
theorem aby {d:Option Nat} {bytes:Nat} {zero:List PV} {x y:AE} {l:List aQ} [hr:Aq f sz] (z:α) (hz:f z=zero) {k k':IntKind} {n c:Int} (hx:x.ev σ= .int k n) (hy:y.ev σ= .int k' c)
    (hb:0<=n/\n<=c/\c<=1099511627776/\bytes*c<=1099511627776) (hs:0<sz)
    (h: ∀(v':PV) (zG:List Nat) (H':AH),aO H' f sz (List.replicate n.toNat z) v' zG->Nw H [] zG->HF [] H H'->(∀c3,eD H c3->eD H' c3)->WO P l s Q (upd σ d v') H'):
    WO P (⟨d,.d (.tV sz bytes zero x y),none⟩::l) s Q σ H:=by
  show WD P (ni (.tV sz bytes zero x y) σ H) d l s Q σ
  simp only [ni,hx,hy];rw [if_pos ⟨hb.1,hb.2.1,hb.2.2.1,hb.2.2.2,by rw [<-hz,hr.len],hs⟩];show WO P l s Q (upd σ d _) _
  have hn:(List.replicate n.toNat z).length=n.toNat:=List.length_replicate;refine h _ [H.next] _ (.inr ⟨H.next,c.toNat,(List.replicate (c.toNat -n.toNat) zero).flatten,rfl,by rw [hn],by rw [hn];omega,Nat.lt_succ_self _,?_,?_⟩) (fun i hi=> .inr (by rw [List.mem_singleton.1 hi];exact Nat.le_refl _)) (HF.new (HF.refl _ _)) (fun c3 k=>k.new)
  · show(if H.next=H.next then some _ else _)=_
    rw [if_pos rfl,List.map_replicate,hz,<-List.flatten_append,List.replicate_append_replicate];congr 3
    omega
  · rw [hn,Yx,<-hz,hr.len]
theorem zZ {d:Option Nat} {n:Nat} {x w:AE} {l:List aQ} [hr:Aq f sz] {xs:List α} {id o i j:Nat} {a y:α} {vs:List PV}
    (hx:x.ev σ= .ref id o) (hid:ids=[id]) (ho:o=i*sz+j) (hrow:aO H f sz xs v ids) (ha:xs[i]? =some a) (hv:cellsOf (w.ev σ)=some vs) (hl:vs.length=n) (hone:vs.all PV.one=true) (hj:j+n<=sz) (hy:putCells (f a) j vs=f y)
    (h: ∀H':AH,aO H' f sz (xs.set i y) v ids->HF ids H H'->(∀c3,eD H c3->eD H' c3)->WO P l s Q (upd σ d .any) H'):
    WO P (⟨d,.d (.store n x w),none⟩::l) s Q σ H:=by
  obtain⟨id',cap,junk,e1,rfl,h2,h3,h4,h5⟩:=hrow.at ha;subst hid;cases e1;have hlt:=(List.getElem?_eq_some_iff.1 ha).1;have hfl:=rX (f:=f) hr.len xs;have hle:o+n<=((xs.map f).flatten++junk).length:=by
    rw [List.length_append,hfl,ho];have:(i+1)*sz<=xs.length*sz:=Nat.mul_le_mul_right _ hlt;rw [Nat.succ_mul]at this;omega
  show WD P (ni (.store n x w) σ H) d l s Q σ
  simp only [ni,hx,hv,h4];rw [if_pos ⟨hl,hle,hone⟩];show WO P l s Q (upd σ d .any) _
  have hxs:xs=xs.take i++a::xs.drop (i+1):=by rw [<-abx ha,List.take_append_drop]
  have hA:((xs.take i).map f).flatten.length=i*sz:=by rw [rX hr.len,List.length_take];congr 1;omega
  have hput:putCells ((xs.map f).flatten++junk) o vs=((xs.set i y).map f).flatten++junk:=by
    have e2:(xs.map f).flatten++junk=((xs.take i).map f).flatten++(f a++(((xs.drop (i+1)).map f).flatten++junk)):=by
      conv=>lhs;rw [hxs]
      simp
    have e3:xs.set i y=xs.take i++y::xs.drop (i+1):=by rw [List.set_eq_take_append_cons_drop,if_pos hlt]
    rw [e2,e3,ho,<-hA,abw _ _ _ _ (by rw [hr.len,hl];exact hj),hy];simp
  rw [hput];refine h _ (.inr ⟨id,cap,junk,rfl,by rw [List.length_set],by rw [List.length_set];exact h2,h3,?_,by rw [List.length_set];exact h5⟩) (HF.put (.inl (List.mem_singleton.2 rfl)) (HF.refl _ _)) (fun c3 k=>k.put);show(if id=id then some _ else _)=_
  rw [if_pos rfl]
end
end Go.VL
end
section
namespace Go.VL
open Go.RowKit
variable [Glob]
section
variable {P:Program} {B:Nat->Prop} {G:Gh} {H:AH} {w w':World}
theorem HM.below (hM:HM B H G w) (h:Below w.heap.size w w'):HM B H G w':=by
  have hlt: ∀b arr t fr,w.heap[b]? =some (.cells arr t fr)->b<w.heap.size:=fun b arr t fr e=>(Array.getElem?_eq_some_iff.1 e).1
  exact{
    glob:=hM.glob
    tu:=fun a x e=>by
      have hc:=hM.tu a x e;exact(World.cell?_of_block (h.block _ (World.block_lt_of_cell? w a hc))).trans hc
    obj:=fun id cs e=>by
      obtain⟨k0,b,arr,t,k1,k2,k3,k4,k5⟩:=hM.obj id cs e;exact⟨k0,b,arr,t,k1,k2,(h.block b (hlt _ _ _ _ k3)).trans k3,k4,k5⟩
    inj:=hM.inj
    tok:=fun k e=>by
      obtain⟨k0,b,o,arr,t,k1,k2,k3,k5⟩:=hM.tok k e;exact⟨k0,b,o,arr,t,k1,k2,(h.block b (hlt _ _ _ _ k3)).trans k3,k5⟩
    sD:=hM.sD
    tobj:=hM.tobj
    wh:=hM.wh.keep fun b _ hb=>h.block b hb}
theorem Tr.below (h:Below w.heap.size w w'):Tr B w w':=
  ⟨h.size,fun b hb _=>h.block b hb,h.os,h.tape,h.output,fun b o e _=>(h.block b (Array.getElem?_eq_some_iff.1 e).1).trans e⟩
theorem NG {f:FuncId} {args:List PV} {r:PV} (he:Enters P f)
    (h: ∀(w:World) (G:Gh) (vs:Array Value),(∀a x,Glob.gc a=some x->w.cell? a=some x)->(∀a x,G.F a=some x->w.cell? a=some x)->WH (fun b=>w.heap.size<=b) w->Vs G 0 args vs->Calls P f vs w fun e w'=> ∃v,e= .returned v/\Below w.heap.size w w'/\ ∀G n,V G n r v)
    (hp: ∀a∈args,Pu a):aC P f args r:=by
  intro H;refine⟨he,fun B G w vs hU hM hv=> ?_⟩;have hv':Vs ⟨G.F,fun _=>none,fun _=>none⟩ 0 args vs:=⟨hv.1,fun j c x hc hx=>V.pure (G:=G) (G':=⟨G.F,fun _=>none,fun _=>none⟩) (n':=0) (fun(_:Addr) (_:Value) e=>e) (hv.2 j c x hc hx) (hp c (List.mem_of_getElem? hc))⟩;refine(h w ⟨G.F,fun _=>none,fun _=>none⟩ vs (fun a x e=>hM.tu a x (hM.glob a x e)) hM.tu hM.wh.old hv').mono ?_;rintro e w' ⟨v,h1,h2,h3⟩;exact⟨r,v,H,G,h1,Tr.below h2,Ext.refl B _ G,Nat.le_refl _,hM.below h2,h3 G _,rfl,rfl⟩
theorem RL {f:FuncId} {args:List PV} {r:PV} (he:Enters P f)
    (h: ∀(w:World) (G:Gh) (vs:Array Value),(∀a x,Glob.gc a=some x->w.cell? a=some x)->(∀a x,G.F a=some x->w.cell? a=some x)->Vs G 0 args vs->Calls P f vs w fun e w'=> ∃v,e= .returned v/\Below w.heap.size w w'/\ ∀G n,V G n r v)
    (hp: ∀a∈args,Pu a):aC P f args r:=NG he (fun w G vs h1 h2 _=>h w G vs h1 h2) hp
theorem Vs.str2 {n:Nat} {s t:List UInt8} {vs:Array Value} (h:Vs G n [.str s,.str t] vs):vs=#[.string ⟨s.toArray⟩,.string ⟨t.toArray⟩]:=by
  obtain⟨h1,h2⟩:=h
  match vs,h1,h2 with
  |⟨[v,u]⟩,_,h2=>
    have a:=h2 0 (.str s) v rfl rfl;have b:=h2 1 (.str t) u rfl rfl;cases a;cases b;rfl
theorem Vs.axD {n:Nat} {k:IntKind} {x:Int} {vs:Array Value} (h:Vs G n [.int k x] vs):vs=#[.int k x]:=by
  obtain⟨h1,h2⟩:=h
  match vs,h1,h2 with
  |⟨[v]⟩,_,h2=>
    have:=h2 0 (.int k x) v rfl rfl;cases this;rfl
theorem Vs.anm {n:Nat} {l:List (List UInt8)} {t:List UInt8} {vs:Array Value} (hi: ∀a x,G.F a=some x->w.cell? a=some x) (h:Vs G n [.aB (l.map aU) .unk,.str t] vs):
    (∃ad cap,l.length<=cap/\vs=#[.slice ad l.length cap,.string ⟨t.toArray⟩]/\(l≠[]-> ∃b o,ad=some ⟨b,o,none⟩/\b<w.heap.size/\ ∀(j:Nat) (x:ByteArray),(l.map fun s=>(⟨s.toArray⟩:ByteArray))[j]? =some x->w.cell? ⟨b,o+j,none⟩=some (.string x))):=by
  obtain⟨h1,h2⟩:=h
  match vs,h1,h2 with
  |⟨[v,u]⟩,_,h2=>
    have a:=h2 0 _ v rfl rfl;have b:=h2 1 (.str t) u rfl rfl;cases b;generalize hes:l.map aU=es at a;have hl:l.length=es.length:=by rw [<-hes];simp
    cases a with
    |aB _ _ sz ad cap f k1 k2 k3 k4 k5=>
      refine⟨ad,cap,by omega,by rw [hl],fun hne=> ?_⟩;have hne':es≠[]:=fun e=>hne (List.eq_nil_of_length_eq_zero (by rw [hl,e];rfl));obtain⟨bk,o,rfl,k6⟩:=k3 hne';have get: ∀j s,l[j]? =some s->es[j]? =some (aU s):=fun j s e=>by rw [<-hes,List.getElem?_map,e];rfl
      have hsz:sz=1:=by
        obtain⟨s,l',rfl⟩:=List.exists_cons_of_ne_nil hne;have:=k1 0 _ (get 0 s rfl);exact this.symm
      subst hsz;have cell: ∀j s,l[j]? =some s->w.cell? ⟨bk,o+j,none⟩=some (.string ⟨s.toArray⟩):=fun j s e=>by
        have e1:=get j s e;have e2:=k6 j _ e1 0 (.str s) rfl;have e3:=k4 j _ 0 (.str s) e1 rfl;generalize f j 0=v at e2 e3;cases e3;have:=hi _ _ e2;simpa using this
      refine⟨bk,o,rfl,?_,fun j x e=> ?_⟩
      · obtain⟨s,l',rfl⟩:=List.exists_cons_of_ne_nil hne;exact World.block_lt_of_cell? w _ (cell 0 s rfl)
      · simp only [List.getElem?_map,Option.map_eq_some_iff]at e;obtain⟨s,e1,rfl⟩:=e;exact cell j s e1
end
end Go.VL
end
