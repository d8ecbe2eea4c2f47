/- Part 4. -/
import Derived.Test.YthebklihgmhgoaaGreatDoorKh3
import Derived.KernelRfl
import Derived.Below
set_option maxRecDepth 8000
set_option linter.unusedVariables false
set_option linter.unusedSectionVars false
set_option linter.unusedSimpArgs false
section
set_option maxHeartbeats 4000000
namespace Go.VL
open Go.Proofs
def Pb (Iy:Bool):Option Int:=
  cond Iy (some 1) (some 0)
theorem aaK {Iy:Bool} {r:Int} (h:Pb Iy=some r):aF Tryz.prog 23 [(.bool Iy)] (.int .i64 r):=by
  refine aF.aP (bg.mem (.cons (.bool _) .nil)) (aH ark (by simp) (aD ?_)) (.int _ _);unfold Pb at h;unfold akO;rcases av h with⟨e1,h⟩|⟨e1,h⟩
  ·obtain rfl:=ak h;try refine ah ?_
   exact(.pure _ (.int _ _))
  ·obtain rfl:=ak h;try refine ah ?_
   exact(.pure _ (.int _ _))
def gH (bA:Int) (V9:Int) (Pf:Int):Option Bool:=
  cond (decide (bA>=V9)) (some (decide (bA<=Pf))) (some false)
theorem gM {bA:Int} {V9:Int} {Pf:Int} {r:Bool} (h:gH bA V9 Pf=some r):aF Tryz.prog 35 [(.int .i64 bA),(.int .i64 V9),(.int .i64 Pf)] (.bool r):=by
  refine aF.aP (bg.mem (.cons (.int _ _) (.cons (.int _ _) (.cons (.int _ _) .nil)))) (aH akW (by simp) (aD ?_)) (.bool _);unfold gH at h;unfold akV;rcases av h with⟨e1,h⟩|⟨e1,h⟩
  ·obtain rfl:=ak h;try refine ah ?_
   exact(.pure _ (.bool _))
  ·obtain rfl:=ak h;try refine ah ?_
   exact(.pure _ (.bool _))
def j4:Nat->(List Str)->Str->Int->Option (Unit⊕Bool)
  |0,_,_,_=>none
  |k+1,pK,s_1,fq=>
    cond (decide (fq<(pK.length:Int))) (if 0<=fq then Option.bind (pK[fq.toNat]?) fun x3=>cond (x3==s_1) (some (.inr (true))) (j4 k pK s_1 (IntKind.wrap .i64 (fq+1)))else none) (some (.inl ()))
def AX:List Nat:=List.range' 4 14
theorem Pg: ∀(k:Nat) (pK:List Str) (s_1:Str) (fq:Int) (aC σ:Nat->PV) (H:AH) (f0:Fr AX aC σ) (sl:σ 0=(.aB (pK.map aX) .unk)/\σ 1=(.str s_1)/\σ 5=(.int .i64 fq)) (o:Unit⊕Bool) (h:j4 k pK s_1 fq=some o) (Q:Post) (q0: ∀(p:Unit) (σ':Nat->PV),o= .inl p->Fr AX aC σ'->Q (.exit 0) σ' H) (q1: ∀(p:Bool) (σ':Nat->PV),o= .inr (p)->Fr AX aC σ'->(σ' 4=(.bool p))->Q .ret σ' H),W Tryz.prog (.loop Rj) Q σ H:=by
  intro k
  induction k with
  |zero=>intro pK s_1 fq aC σ H f0 sl o h Q q0 q1;simp only [j4,reduceCtorEq]at h
  |succ k ih=>
    intro pK s_1 fq aC σ H f0 sl o h Q q0 q1;obtain⟨s0,s1,s5⟩:=sl;unfold j4 at h;refine aV (fun K hK=>aD ?_);unfold Rj;rcases av h with⟨e1,h⟩|⟨e1,h⟩
    ·obtain⟨e2,h⟩:=aO h;obtain⟨x3,e4,h⟩:=aj h;rcases av h with⟨e5,h⟩|⟨e5,h⟩
     ·obtain rfl:=ak h;try refine ah ?_
      exact q1 _ _ rfl aN au
     ·try refine ah ?_
      refine hK _ _ ?_;exact ih pK s_1 (IntKind.wrap .i64 (fq+1)) _ _ _ aN au _ h _ q0 q1
    ·obtain rfl:=ak h;try refine ah ?_
     exact q0 _ _ rfl aN
def pO (k:Nat) (pK:List Str) (s_1:Str):Option Bool:=
  Option.bind (j4 k pK s_1 0) (fun o=>Sum.elim (fun p8=>some false) (fun mE=>some mE) o)
theorem y8 {k:Nat} {pK:List Str} {s_1:Str} {c0:Ck} {r:Bool} (h:pO k pK s_1=some r):aF Tryz.prog 31 [(.aB (pK.map aX) c0),(.str s_1)] (.bool r):=by
  refine aF.lw (.aB (.same .nil)) (aF.aP (bg.mem (.cons (aU bN _) (.cons (.str _) .nil))) (aH aro (by simp) (aD ?_)) (.bool _));unfold pO at h;unfold akT;try refine ah ?_
  obtain⟨o6,h7,h⟩:=aj h;refine Pg k pK s_1 0 _ _ _ (Fr.refl _ _) au _ h7 _ ?_ ?_
  ·rintro p8 σ' eo fr9;subst eo;rw [bT]at h;obtain rfl:=ak h;try refine ah ?_
   exact(.pure _ (.bool _))
  ·rintro mE σ' eo Kh s16;subst eo;rw [bZ]at h;obtain rfl:=ak h;try refine ah ?_
   exact(.pure _ (.bool _))
def lS:Nat->(List Operator)->(List Operator)->Int->Option (List Operator)
  |0,_,_,_=>none
  |k+1,uw,y9,dD=>
    cond (decide (dD<(y9.length:Int))) (if 0<=dD then Option.bind (y9[dD.toNat]?) fun x3=>Option.bind (Pb (x3.fix==1)) fun p6=>cond (x3.text==([92,88]:Str)) (if(uw.length+1)*64<=1099511627776 then lS k (uw++[(Operator.mk x3.text x3.fix x3.low x3.high x3.left (IntKind.wrap .i64 (1+p6)) 4)]) y9 (IntKind.wrap .i64 (dD+1))else none) (if(uw.length+1)*64<=1099511627776 then lS k (uw++[(Operator.mk x3.text x3.fix x3.low x3.high x3.left (IntKind.wrap .i64 (1+p6)) (IntKind.wrap .i64 (1+p6)))]) y9 (IntKind.wrap .i64 (dD+1))else none)else none) (some (uw))
def MG:List Nat:=[1,3,4]++List.range' 48 27
theorem Xl: ∀(k:Nat) (uw:List Operator) (y9:List Operator) (dD:Int) (rU:Ck) (za:Ck) (aC σ:Nat->PV) (H0 H:AH) (f0:Fr MG aC σ) (hf0:HF [] H0 H) (sl:σ 1=(.aB (uw.map Operator.cells) rU)/\σ 2=(.aB (y9.map Operator.cells) za)/\σ 3=(.int .i64 dD)) (Xm:cB H rU) (o:List Operator) (h:lS k uw y9 dD=some o) (Q:Post) (q0: ∀(p:List Operator) (c0:Ck) (σ':Nat->PV) (H':AH),o=p->Fr MG aC σ'->HF [] H0 H'->(σ' 1=(.aB (p.map Operator.cells) c0))->Q (.exit 0) σ' H'),W Tryz.prog (.loop RX) Q σ H:=by
  intro k
  induction k with
  |zero=>intro uw y9 dD rU za aC σ H0 H f0 hf0 sl Xm o h Q q0;simp only [lS,reduceCtorEq]at h
  |succ k ih=>
    intro uw y9 dD rU za aC σ H0 H f0 hf0 sl Xm o h Q q0;obtain⟨s1,s2,s3⟩:=sl;have hle0:=hf0.1;unfold lS at h;refine aV (fun K hK=>aD ?_);unfold RX;rcases av h with⟨e1,h⟩|⟨e1,h⟩
    ·obtain⟨e2,h⟩:=aO h;obtain⟨x3,e4,h⟩:=aj h;obtain⟨p6,e5,h⟩:=aj h;try refine ah ?_
     refine aA (aaK e5) ?_;rcases av h with⟨e7,h⟩|⟨e7,h⟩
     ·obtain⟨e12,h⟩:=aO h;try refine ah ?_
      refine ku (f:=Operator.cells) Operator.row uw ([(Operator.mk x3.text x3.fix x3.low x3.high x3.left (IntKind.wrap .i64 (1+p6)) 4)]:List Operator) rU .exact au au fE (by first|exact e12|(simp only [List.length_cons,List.length_nil];exact e12)) (fun c8 H9 awG le ar5 awH=> ?_);have ar6:HF [] _ H9:=⟨le,fun i _ _=>ar5 i⟩;try simp only [AH.aI,AH.aJ,AH.aL,AH.aM]at le
      have n22:=ne_next (show H.next<H9.next by first|omega|(simp only [AH.aI,AH.aJ,AH.aL,AH.aM];omega));have m23:=aS (show H.next<H9.next by first|omega|(simp only [AH.aI,AH.aJ,AH.aL,AH.aM];omega));try refine ah ?_
      refine hK _ _ ?_;exact ih (uw++[(Operator.mk x3.text x3.fix x3.low x3.high x3.left (IntKind.wrap .i64 (1+p6)) 4)]) y9 (IntKind.wrap .i64 (dD+1)) c8 za _ _ _ _ aN (by repeat (first|exact hf0|refine HF.new ?_|refine HF.eG ?_|refine HF.used ?_|refine HF.put (by first|(right;omega)|(left;simp only [List.mem_cons,true_or,or_true])) ?_|refine HF.via ar6 (by first|exact fun i hi=>absurd hi List.not_mem_nil|(intro i hi;simp only [List.mem_cons,List.not_mem_nil,or_false]at hi⊢;first|exact .inl hi|omega)) ?_)) au fE _ h _ q0
     ·obtain⟨e19,h⟩:=aO h;try refine ah ?_
      refine ku (f:=Operator.cells) Operator.row uw ([(Operator.mk x3.text x3.fix x3.low x3.high x3.left (IntKind.wrap .i64 (1+p6)) (IntKind.wrap .i64 (1+p6)))]:List Operator) rU .exact au au fE (by first|exact e19|(simp only [List.length_cons,List.length_nil];exact e19)) (fun c15 H16 akH le ar7 awI=> ?_);have afC:HF [] _ H16:=⟨le,fun i _ _=>ar7 i⟩;try simp only [AH.aI,AH.aJ,AH.aL,AH.aM]at le
      have n24:=ne_next (show H.next<H16.next by first|omega|(simp only [AH.aI,AH.aJ,AH.aL,AH.aM];omega));have m25:=aS (show H.next<H16.next by first|omega|(simp only [AH.aI,AH.aJ,AH.aL,AH.aM];omega));try refine ah ?_
      refine hK _ _ ?_;exact ih (uw++[(Operator.mk x3.text x3.fix x3.low x3.high x3.left (IntKind.wrap .i64 (1+p6)) (IntKind.wrap .i64 (1+p6)))]) y9 (IntKind.wrap .i64 (dD+1)) c15 za _ _ _ _ aN (by repeat (first|exact hf0|refine HF.new ?_|refine HF.eG ?_|refine HF.used ?_|refine HF.put (by first|(right;omega)|(left;simp only [List.mem_cons,true_or,or_true])) ?_|refine HF.via afC (by first|exact fun i hi=>absurd hi List.not_mem_nil|(intro i hi;simp only [List.mem_cons,List.not_mem_nil,or_false]at hi⊢;first|exact .inl hi|omega)) ?_)) au fE _ h _ q0
    ·obtain rfl:=ak h;try refine ah ?_
     exact q0 _ rU _ _ rfl aN (by repeat (first|exact hf0|refine HF.new ?_|refine HF.eG ?_|refine HF.used ?_|refine HF.put (by first|(right;omega)|(left;simp only [List.mem_cons,true_or,or_true])) ?_)) au
def DR (k:Nat):Option (List Operator):=
  Option.bind (lS k ([]:List Operator) [(Operator.mk ([126]:Str) 0 4 4 false 0 0),(Operator.mk ([69,78,65,66,76,69,68]:Str) 0 4 15 false 0 0),(Operator.mk ([85,78,67,72,65,78,71,69,68]:Str) 0 4 15 false 0 0),(Operator.mk ([91,93]:Str) 0 4 15 false 0 0),(Operator.mk ([60,62]:Str) 0 4 15 false 0 0),(Operator.mk ([83,85,66,83,69,84]:Str) 0 8 8 false 0 0),(Operator.mk ([85,78,73,79,78]:Str) 0 8 8 false 0 0),(Operator.mk ([68,79,77,65,73,78]:Str) 0 9 9 false 0 0),(Operator.mk ([45,46]:Str) 0 12 12 false 0 0),(Operator.mk ([61,62]:Str) 1 1 1 false 0 0),(Operator.mk ([60,61,62]:Str) 1 2 2 false 0 0),(Operator.mk ([126,62]:Str) 1 2 2 false 0 0),(Operator.mk ([47,92]:Str) 1 3 3 true 0 0),(Operator.mk ([92,47]:Str) 1 3 3 true 0 0),(Operator.mk ([61]:Str) 1 5 5 false 0 0),(Operator.mk ([35]:Str) 1 5 5 false 0 0),(Operator.mk ([60]:Str) 1 5 5 false 0 0),(Operator.mk ([60,61]:Str) 1 5 5 false 0 0),(Operator.mk ([62]:Str) 1 5 5 false 0 0),(Operator.mk ([62,61]:Str) 1 5 5 false 0 0),(Operator.mk ([92,105,110]:Str) 1 5 5 false 0 0),(Operator.mk ([92,110,111,116,105,110]:Str) 1 5 5 false 0 0),(Operator.mk ([92,115,117,98,115,101,116,101,113]:Str) 1 5 5 false 0 0),(Operator.mk ([92,115,113,115,117,98,115,101,116,101,113]:Str) 1 5 5 false 0 0),(Operator.mk ([64,64]:Str) 1 6 6 true 0 0),(Operator.mk ([58,62]:Str) 1 7 7 false 0 0),(Operator.mk ([92,99,100,111,116]:Str) 1 5 14 true 0 0),(Operator.mk ([92,99,117,112]:Str) 1 8 8 true 0 0),(Operator.mk ([92,99,97,112]:Str) 1 8 8 true 0 0),(Operator.mk ([92]:Str) 1 8 8 false 0 0),(Operator.mk ([46,46]:Str) 1 9 9 false 0 0),(Operator.mk ([43]:Str) 1 10 10 true 0 0),(Operator.mk ([40,43,41]:Str) 1 10 10 true 0 0),(Operator.mk ([37]:Str) 1 10 11 false 0 0),(Operator.mk ([92,88]:Str) 1 10 13 false 0 0),(Operator.mk ([45]:Str) 1 11 11 true 0 0),(Operator.mk ([40,45,41]:Str) 1 11 11 true 0 0),(Operator.mk ([42]:Str) 1 13 13 true 0 0),(Operator.mk ([92,100,105,118]:Str) 1 13 13 false 0 0),(Operator.mk ([92,111]:Str) 1 13 13 true 0 0),(Operator.mk ([94]:Str) 1 14 14 false 0 0),(Operator.mk ([39]:Str) 2 15 15 false 0 0)] 0) (fun p28=>some p28)
theorem adB {k:Nat} {r:List Operator} (h:DR k=some r):aF Tryz.prog 64 [] (.aB (r.map Operator.cells) .unk):=by
  refine aF.aP (bg.mem .nil) (aH arJ (by simp) (aD ?_)) (aU Operator.pu _);unfold DR at h;unfold alp;try refine ah ?_
  obtain⟨o26,h27,h⟩:=aj h;refine Xl k ([]:List Operator) [(Operator.mk ([126]:Str) 0 4 4 false 0 0),(Operator.mk ([69,78,65,66,76,69,68]:Str) 0 4 15 false 0 0),(Operator.mk ([85,78,67,72,65,78,71,69,68]:Str) 0 4 15 false 0 0),(Operator.mk ([91,93]:Str) 0 4 15 false 0 0),(Operator.mk ([60,62]:Str) 0 4 15 false 0 0),(Operator.mk ([83,85,66,83,69,84]:Str) 0 8 8 false 0 0),(Operator.mk ([85,78,73,79,78]:Str) 0 8 8 false 0 0),(Operator.mk ([68,79,77,65,73,78]:Str) 0 9 9 false 0 0),(Operator.mk ([45,46]:Str) 0 12 12 false 0 0),(Operator.mk ([61,62]:Str) 1 1 1 false 0 0),(Operator.mk ([60,61,62]:Str) 1 2 2 false 0 0),(Operator.mk ([126,62]:Str) 1 2 2 false 0 0),(Operator.mk ([47,92]:Str) 1 3 3 true 0 0),(Operator.mk ([92,47]:Str) 1 3 3 true 0 0),(Operator.mk ([61]:Str) 1 5 5 false 0 0),(Operator.mk ([35]:Str) 1 5 5 false 0 0),(Operator.mk ([60]:Str) 1 5 5 false 0 0),(Operator.mk ([60,61]:Str) 1 5 5 false 0 0),(Operator.mk ([62]:Str) 1 5 5 false 0 0),(Operator.mk ([62,61]:Str) 1 5 5 false 0 0),(Operator.mk ([92,105,110]:Str) 1 5 5 false 0 0),(Operator.mk ([92,110,111,116,105,110]:Str) 1 5 5 false 0 0),(Operator.mk ([92,115,117,98,115,101,116,101,113]:Str) 1 5 5 false 0 0),(Operator.mk ([92,115,113,115,117,98,115,101,116,101,113]:Str) 1 5 5 false 0 0),(Operator.mk ([64,64]:Str) 1 6 6 true 0 0),(Operator.mk ([58,62]:Str) 1 7 7 false 0 0),(Operator.mk ([92,99,100,111,116]:Str) 1 5 14 true 0 0),(Operator.mk ([92,99,117,112]:Str) 1 8 8 true 0 0),(Operator.mk ([92,99,97,112]:Str) 1 8 8 true 0 0),(Operator.mk ([92]:Str) 1 8 8 false 0 0),(Operator.mk ([46,46]:Str) 1 9 9 false 0 0),(Operator.mk ([43]:Str) 1 10 10 true 0 0),(Operator.mk ([40,43,41]:Str) 1 10 10 true 0 0),(Operator.mk ([37]:Str) 1 10 11 false 0 0),(Operator.mk ([92,88]:Str) 1 10 13 false 0 0),(Operator.mk ([45]:Str) 1 11 11 true 0 0),(Operator.mk ([40,45,41]:Str) 1 11 11 true 0 0),(Operator.mk ([42]:Str) 1 13 13 true 0 0),(Operator.mk ([92,100,105,118]:Str) 1 13 13 false 0 0),(Operator.mk ([92,111]:Str) 1 13 13 true 0 0),(Operator.mk ([94]:Str) 1 14 14 false 0 0),(Operator.mk ([39]:Str) 2 15 15 false 0 0)] 0 .nil .exact _ _ _ _ (Fr.refl _ _) (HF.refl _ _) au fE _ h27 _ ?_
  ·rintro p28 c32 σ' H31 eo N7 afD s33;rw [eo]at h;have le:=afD.1;try simp only [AH.aI,AH.aJ,AH.aL,AH.aM]at le
   obtain rfl:=ak h;try refine ah ?_
   exact(dN Operator.pu _ _)
def iX:Nat->Str->Str->Int->Int->Int->Bool->Int->Int->(List Operator)->Int->Option ((Str×Int×Int×Int×Bool×Int×Int)⊕(Bool×Str×Int×Int×Int×Bool×Int×Int))
  |0,_,_,_,_,_,_,_,_,_,_=>none
  |k+1,iY,Fu,Fv,Fx,Fy,FB,FC,FD,dP,fq=>
    cond (decide (fq<(dP.length:Int))) (if 0<=fq then Option.bind (dP[fq.toNat]?) fun x5=>cond (x5.text==iY) (some (.inr ((true,x5.text,x5.fix,x5.low,x5.high,x5.left,x5.least,x5.most)))) (iX k iY Fu Fv Fx Fy FB FC FD dP (IntKind.wrap .i64 (fq+1)))else none) (some (.inl (Fu,Fv,Fx,Fy,FB,FC,FD)))
def yg:List Nat:=[3,5]++List.range' 7 17
theorem Mh: ∀(k:Nat) (ze:Nat) (iY:Str) (Fu:Str) (Fv:Int) (Fx:Int) (Fy:Int) (FB:Bool) (FC:Int) (FD:Int) (dP:List Operator) (fq:Int) (aC σ:Nat->PV) (H0 H:AH) (f0:Fr yg aC σ) (hf0:HF [ze] H0 H) (sl:σ 0=(.str iY)/\σ 2=(.ref (ze) 0)/\σ 4=(.aB (dP.map Operator.cells) .unk)/\σ 5=(.int .i64 fq)/\H.obj ze=some [(.str Fu),(.int .i64 Fv),(.int .i64 Fx),(.int .i64 Fy),(.bool FB),(.int .i64 FC),(.int .i64 FD)]) (LM:ze<H.next) (o:(Str×Int×Int×Int×Bool×Int×Int)⊕(Bool×Str×Int×Int×Int×Bool×Int×Int)) (h:iX k iY Fu Fv Fx Fy FB FC FD dP fq=some o) (Q:Post) (q0: ∀(p:Str×Int×Int×Int×Bool×Int×Int) (σ':Nat->PV) (H':AH),o= .inl p->Fr yg aC σ'->HF [ze] H0 H'->(H'.obj ze=some [(.str p.1),(.int .i64 p.2.1),(.int .i64 p.2.2.1),(.int .i64 p.2.2.2.1),(.bool p.2.2.2.2.1),(.int .i64 p.2.2.2.2.2.1),(.int .i64 p.2.2.2.2.2.2)])->Q (.exit 0) σ' H') (q1: ∀(p:Bool×Str×Int×Int×Int×Bool×Int×Int) (σ':Nat->PV) (H':AH),o= .inr (p)->Fr yg aC σ'->HF [ze] H0 H'->(σ' 3=(.bool p.1)/\H'.obj ze=some [(.str p.2.1),(.int .i64 p.2.2.1),(.int .i64 p.2.2.2.1),(.int .i64 p.2.2.2.2.1),(.bool p.2.2.2.2.2.1),(.int .i64 p.2.2.2.2.2.2.1),(.int .i64 p.2.2.2.2.2.2.2)])->Q .ret σ' H'),W Tryz.prog (.loop Rh) Q σ H:=by
  intro k
  induction k with
  |zero=>intro ze iY Fu Fv Fx Fy FB FC FD dP fq aC σ H0 H f0 hf0 sl LM o h Q q0 q1;simp only [iX,reduceCtorEq]at h
  |succ k ih=>
    intro ze iY Fu Fv Fx Fy FB FC FD dP fq aC σ H0 H f0 hf0 sl LM o h Q q0 q1;obtain⟨s0,s2,s4,s5,atS⟩:=sl;have atT:=ne_next LM;have atU:=aS LM;have hle0:=hf0.1;unfold iX at h;refine aV (fun K hK=>aD ?_);unfold Rh;rcases av h with⟨e3,h⟩|⟨e3,h⟩
    ·obtain⟨e4,h⟩:=aO h;obtain⟨x5,e6,h⟩:=aj h;rcases av h with⟨e7,h⟩|⟨e7,h⟩
     ·obtain rfl:=ak h;try refine ah ?_
      exact q1 _ _ _ rfl aN (by repeat (first|exact hf0|refine HF.new ?_|refine HF.eG ?_|refine HF.used ?_|refine HF.put (by first|(right;omega)|(left;simp only [List.mem_cons,true_or,or_true])) ?_)) au
     ·try refine ah ?_
      refine hK _ _ ?_;exact ih ze iY Fu Fv Fx Fy FB FC FD dP (IntKind.wrap .i64 (fq+1)) _ _ _ _ aN (by repeat (first|exact hf0|refine HF.new ?_|refine HF.eG ?_|refine HF.used ?_|refine HF.put (by first|(right;omega)|(left;simp only [List.mem_cons,true_or,or_true])) ?_)) au bO _ h _ q0 q1
    ·obtain rfl:=ak h;try refine ah ?_
     exact q0 _ _ _ rfl aN (by repeat (first|exact hf0|refine HF.new ?_|refine HF.eG ?_|refine HF.used ?_|refine HF.put (by first|(right;omega)|(left;simp only [List.mem_cons,true_or,or_true])) ?_)) au
def qO (k:Nat) (iY:Str):Option (Operator×Bool):=
  Option.bind (DR k) fun p2=>Option.bind (iX k iY ([]:Str) 0 0 0 false 0 0 p2 0) (fun o=>Sum.elim (fun gT=>some ((Operator.mk [] 0 0 0 false 0 0),false)) (fun uz=>some ((Operator.mk uz.2.1 uz.2.2.1 uz.2.2.2.1 uz.2.2.2.2.1 uz.2.2.2.2.2.1 uz.2.2.2.2.2.2.1 uz.2.2.2.2.2.2.2),uz.1)) o)
theorem GL {k:Nat} {iY:Str} {r:Operator×Bool} (h:qO k iY=some r):aF Tryz.prog 27 [(.str iY)] (.dw [(.agg (Operator.cells r.1)),(.bool r.2)]):=by
  refine aF.aP (bg.mem (.cons (.str _) .nil)) (aH akR (by simp) (aD ?_)) (.dw _ (bg.mem (.cons (.agg _ (Operator.pu _)) (.cons (.bool _) .nil))));unfold qO at h;unfold akQ;obtain⟨p2,e1,h⟩:=aj h;try refine ah ?_
  refine aA (adB e1) ?_;try refine ah ?_
  obtain⟨o8,h9,h⟩:=aj h;refine Mh k (AH.empty.next) iY ([]:Str) 0 0 0 false 0 0 p2 0 _ _ _ _ (Fr.refl _ _) (HF.refl _ _) au bO _ h9 _ ?_ ?_
  ·rintro gT σ' H13 eo Iz ar8 g14;subst eo;rw [bT]at h;have s15:σ' 2=(.ref (AH.empty.next) 0):=(Iz 2 (by decide)).trans au;have le:=ar8.1;try simp only [AH.aI,AH.aJ,AH.aL,AH.aM]at le
   have n17:=ne_next (show AH.empty.next<H13.next by first|omega|(simp only [AH.aI,AH.aJ,AH.aL,AH.aM];omega));have m18:=aS (show AH.empty.next<H13.next by first|omega|(simp only [AH.aI,AH.aJ,AH.aL,AH.aM];omega));obtain rfl:=ak h;try refine ah ?_
   exact(bR (.cons (dG (.cons (.pure _ (.str _)) (.cons (.pure _ (.int _ _)) (.cons (.pure _ (.int _ _)) (.cons (.pure _ (.int _ _)) (.cons (.pure _ (.bool _)) (.cons (.pure _ (.int _ _)) (.cons (.pure _ (.int _ _)) .nil)))))))) (.cons (.pure _ (.bool _)) .nil)))
  ·rintro uz σ' H22 eo afE afC ⟨Ph,g24⟩;subst eo;rw [bZ]at h;have uD:σ' 2=(.ref (AH.empty.next) 0):=(afE 2 (by decide)).trans au;have le:=afC.1;try simp only [AH.aI,AH.aJ,AH.aL,AH.aM]at le
   have n27:=ne_next (show AH.empty.next<H22.next by first|omega|(simp only [AH.aI,AH.aJ,AH.aL,AH.aM];omega));have m28:=aS (show AH.empty.next<H22.next by first|omega|(simp only [AH.aI,AH.aJ,AH.aL,AH.aM];omega));obtain rfl:=ak h;try refine ah ?_
   exact(bR (.cons (dG (.cons (.pure _ (.str _)) (.cons (.pure _ (.int _ _)) (.cons (.pure _ (.int _ _)) (.cons (.pure _ (.int _ _)) (.cons (.pure _ (.bool _)) (.cons (.pure _ (.int _ _)) (.cons (.pure _ (.int _ _)) .nil)))))))) (.cons (.pure _ (.bool _)) .nil)))
def zf:Option (List Str):=
  some [([65,83,83,85,77,69]:Str),([65,83,83,85,77,80,84,73,79,78]:Str),([65,88,73,79,77]:Str),([66,89]:Str),([67,65,83,69]:Str),([67,72,79,79,83,69]:Str),([67,79,78,83,84,65,78,84]:Str),([67,79,78,83,84,65,78,84,83]:Str),([68,69,70]:Str),([68,69,70,73,78,69]:Str),([68,69,70,83]:Str),([68,79,77,65,73,78]:Str),([69,76,83,69]:Str),([69,78,65,66,76,69,68]:Str),([69,88,67,69,80,84]:Str),([69,88,84,69,78,68,83]:Str),([70,65,76,83,69]:Str),([72,65,86,69]:Str),([72,73,68,69]:Str),([73,70]:Str),([73,78]:Str),([73,78,83,84,65,78,67,69]:Str),([76,65,77,66,68,65]:Str),([76,69,77,77,65]:Str),([76,69,84]:Str),([76,79,67,65,76]:Str),([77,79,68,85,76,69]:Str),([78,69,87]:Str),([79,66,86,73,79,85,83]:Str),([79,77,73,84,84,69,68]:Str),([79,84,72,69,82]:Str),([80,73,67,75]:Str),([80,82,79,79,70]:Str),([80,82,79,80,79,83,73,84,73,79,78]:Str),([80,82,79,86,69]:Str),([81,69,68]:Str),([82,69,67,85,82,83,73,86,69]:Str),([83,85,66,83,69,84]:Str),([83,85,70,70,73,67,69,83]:Str),([84,65,75,69]:Str),([84,72,69,78]:Str),([84,72,69,79,82,69,77]:Str),([84,82,85,69]:Str),([85,78,67,72,65,78,71,69,68]:Str),([85,78,73,79,78]:Str),([85,83,69]:Str),([86,65,82,73,65,66,76,69]:Str),([86,65,82,73,65,66,76,69,83]:Str),([87,73,84,72]:Str),([87,73,84,78,69,83,83]:Str)]
theorem Xn {r:List Str} (h:zf=some r):aF Tryz.prog 122 [] (.aB (r.map aX) .unk):=by
  refine aF.aP (bg.mem .nil) (aH aoT (by simp) (aD ?_)) (aU bN _);unfold zf at h;unfold ahq;obtain rfl:=ak h;try refine ah ?_
  exact(dN bN [([65,83,83,85,77,69]:Str),([65,83,83,85,77,80,84,73,79,78]:Str),([65,88,73,79,77]:Str),([66,89]:Str),([67,65,83,69]:Str),([67,72,79,79,83,69]:Str),([67,79,78,83,84,65,78,84]:Str),([67,79,78,83,84,65,78,84,83]:Str),([68,69,70]:Str),([68,69,70,73,78,69]:Str),([68,69,70,83]:Str),([68,79,77,65,73,78]:Str),([69,76,83,69]:Str),([69,78,65,66,76,69,68]:Str),([69,88,67,69,80,84]:Str),([69,88,84,69,78,68,83]:Str),([70,65,76,83,69]:Str),([72,65,86,69]:Str),([72,73,68,69]:Str),([73,70]:Str),([73,78]:Str),([73,78,83,84,65,78,67,69]:Str),([76,65,77,66,68,65]:Str),([76,69,77,77,65]:Str),([76,69,84]:Str),([76,79,67,65,76]:Str),([77,79,68,85,76,69]:Str),([78,69,87]:Str),([79,66,86,73,79,85,83]:Str),([79,77,73,84,84,69,68]:Str),([79,84,72,69,82]:Str),([80,73,67,75]:Str),([80,82,79,79,70]:Str),([80,82,79,80,79,83,73,84,73,79,78]:Str),([80,82,79,86,69]:Str),([81,69,68]:Str),([82,69,67,85,82,83,73,86,69]:Str),([83,85,66,83,69,84]:Str),([83,85,70,70,73,67,69,83]:Str),([84,65,75,69]:Str),([84,72,69,78]:Str),([84,72,69,79,82,69,77]:Str),([84,82,85,69]:Str),([85,78,67,72,65,78,71,69,68]:Str),([85,78,73,79,78]:Str),([85,83,69]:Str),([86,65,82,73,65,66,76,69]:Str),([86,65,82,73,65,66,76,69,83]:Str),([87,73,84,72]:Str),([87,73,84,78,69,83,83]:Str)] _)
def zh (wR:Int):Option Bool:=
  cond (decide (wR>=97)) (cond (decide (wR<=122)) (some true) (cond (decide (wR>=65)) (some (decide (wR<=90))) (some false))) (cond (decide (wR>=65)) (some (decide (wR<=90))) (some false))
theorem Ki {wR:Int} {r:Bool} (h:zh wR=some r):aF Tryz.prog 123 [(.int .u8 wR)] (.bool r):=by
  refine aF.aP (bg.mem (.cons (.int _ _) .nil)) (aH aoU (by simp) (aD ?_)) (.bool _);unfold zh at h;unfold ahr;rcases av h with⟨e1,h⟩|⟨e1,h⟩
  ·rcases av h with⟨e2,h⟩|⟨e2,h⟩
   ·obtain rfl:=ak h;try refine ah ?_
    exact(.pure _ (.bool _))
   ·rcases av h with⟨e3,h⟩|⟨e3,h⟩
    ·obtain rfl:=ak h;try refine ah ?_
     exact(.pure _ (.bool _))
    ·obtain rfl:=ak h;try refine ah ?_
     exact(.pure _ (.bool _))
  ·rcases av h with⟨e4,h⟩|⟨e4,h⟩
   ·obtain rfl:=ak h;try refine ah ?_
    exact(.pure _ (.bool _))
   ·obtain rfl:=ak h;try refine ah ?_
    exact(.pure _ (.bool _))
def BO (wR:Int):Option Bool:=
  cond (decide (wR>=48)) (some (decide (wR<=57))) (some false)
theorem Z0 {wR:Int} {r:Bool} (h:BO wR=some r):aF Tryz.prog 124 [(.int .u8 wR)] (.bool r):=by
  refine aF.aP (bg.mem (.cons (.int _ _) .nil)) (aH aoV (by simp) (aD ?_)) (.bool _);unfold BO at h;unfold ahs;rcases av h with⟨e1,h⟩|⟨e1,h⟩
  ·obtain rfl:=ak h;try refine ah ?_
   exact(.pure _ (.bool _))
  ·obtain rfl:=ak h;try refine ah ?_
   exact(.pure _ (.bool _))
def Bu (k:Nat) (s_0:Str):Option (Unit⊕Bool):=
  Option.bind (gH (s_0.length:Int) 1 24) fun p2=>cond p2 (Option.bind (zf) fun p5=>Option.bind (pO k p5 s_0) fun p7=>cond p7 (some (.inr (false))) (some (.inl ()))) (some (.inr (false)))
def Ec:List Nat:=[2]++List.range' 5 9
theorem Vo (k:Nat): ∀(s_0:Str) (aC σ:Nat->PV) (H:AH) (f0:Fr Ec aC σ) (sl:σ 0=(.str s_0)) (o:Unit⊕Bool) (h:Bu k s_0=some o) (Q:Post) (q0: ∀(p:Unit) (σ':Nat->PV),o= .inl p->Fr Ec aC σ'->Q .normal σ' H) (q1: ∀(p:Bool) (σ':Nat->PV),o= .inr (p)->Fr Ec aC σ'->(σ' 2=(.bool p))->Q .ret σ' H),W Tryz.prog R3 Q σ H:=by
  intro s_0 aC σ H f0 sl o h Q q0 q1;have s0:=sl;unfold Bu at h;refine aD ?_;unfold R3;obtain⟨p2,e1,h⟩:=aj h;try refine ah ?_
  refine aA (gM e1) ?_;rcases av h with⟨e3,h⟩|⟨e3,h⟩
  ·obtain⟨p5,e4,h⟩:=aj h;try refine ah ?_
   refine aA (Xn e4) ?_;obtain⟨p7,e6,h⟩:=aj h;try refine ah ?_
   refine aA (y8 e6) ?_;rcases av h with⟨e8,h⟩|⟨e8,h⟩
   ·obtain rfl:=ak h;try refine ah ?_
    exact q1 _ _ rfl aN au
   ·obtain rfl:=ak h;try refine ah ?_
    exact q0 _ _ rfl aN
  ·obtain rfl:=ak h;try refine ah ?_
   exact q1 _ _ rfl aN au
def xk (s_0:Str) (jH:Int) (fV:Bool):Option Bool:=
  cond fV (if 0<=jH then Option.bind (s_0[jH.toNat]?) fun x24=>Option.bind (BO (x24.toNat:Int)) fun p27=>cond p27 (some (false)) (some (((x24.toNat:Int) !=95)))else none) (some (false))
def Kj:List Nat:=List.range' 26 12
theorem Vp: ∀(s_0:Str) (jH:Int) (fV:Bool) (aC σ:Nat->PV) (H:AH) (f0:Fr Kj aC σ) (sl:σ 0=(.str s_0)/\σ 4=(.int .i64 jH)/\σ 25=(.bool fV)) (o:Bool) (h:xk s_0 jH fV=some o) (Q:Post) (q0: ∀(p:Bool) (σ':Nat->PV),o=p->Fr Kj aC σ'->(σ' 37=(.bool p))->Q .normal σ' H),cO Tryz.prog R4 (Q .normal) σ H:=by
  intro s_0 jH fV aC σ H f0 sl o h Q q0;obtain⟨s0,s4,uD⟩:=sl;unfold xk at h;refine dx ?_;unfold R4;rcases av h with⟨e22,h⟩|⟨e22,h⟩
  ·obtain⟨e23,h⟩:=aO h;obtain⟨x24,e25,h⟩:=aj h;obtain⟨p27,e26,h⟩:=aj h;try refine ah ?_
   refine aA (Z0 e26) ?_;rcases av h with⟨e28,h⟩|⟨e28,h⟩
   ·obtain rfl:=ak h;try refine ah ?_
    exact q0 _ _ rfl aN au
   ·obtain rfl:=ak h;try refine ah ?_
    exact q0 _ _ rfl aN au
  ·obtain rfl:=ak h;try refine ah ?_
   exact q0 _ _ rfl aN au
def kP:Nat->Str->Bool->Int->Option (Bool⊕Bool)
  |0,_,_,_=>none
  |k+1,s_0,uQ,jH=>
    cond (decide (jH<(s_0.length:Int))) (if 0<=jH then Option.bind (s_0[jH.toNat]?) fun x18=>Option.bind (zh (x18.toNat:Int)) fun mF=>Option.bind (xk s_0 jH (!mF)) (fun p31=>cond p31 (some (.inr (false))) (cond uQ (kP k s_0 true (IntKind.wrap .i64 (jH+1))) (kP k s_0 mF (IntKind.wrap .i64 (jH+1)))))else none) (some (.inl uQ))
def Ed:List Nat:=[2,3,4]++List.range' 14 31
theorem Vq: ∀(k:Nat) (s_0:Str) (uQ:Bool) (jH:Int) (aC σ:Nat->PV) (H:AH) (f0:Fr Ed aC σ) (sl:σ 0=(.str s_0)/\σ 3=(.bool uQ)/\σ 4=(.int .i64 jH)) (o:Bool⊕Bool) (h:kP k s_0 uQ jH=some o) (Q:Post) (q0: ∀(p:Bool) (σ':Nat->PV),o= .inl p->Fr Ed aC σ'->(σ' 3=(.bool p))->Q (.exit 0) σ' H) (q1: ∀(p:Bool) (σ':Nat->PV),o= .inr (p)->Fr Ed aC σ'->(σ' 2=(.bool p))->Q .ret σ' H),W Tryz.prog (.loop R5) Q σ H:=by
  intro k
  induction k with
  |zero=>intro s_0 uQ jH aC σ H f0 sl o h Q q0 q1;simp only [kP,reduceCtorEq]at h
  |succ k ih=>
    intro s_0 uQ jH aC σ H f0 sl o h Q q0 q1;obtain⟨s0,s3,s4⟩:=sl;unfold kP at h;refine aV (fun K hK=>aD ?_);unfold R5;rcases av h with⟨e16,h⟩|⟨e16,h⟩
    ·obtain⟨e17,h⟩:=aO h;obtain⟨x18,e19,h⟩:=aj h;obtain⟨mF,e20,h⟩:=aj h;try refine ah ?_
     refine aA (Ki e20) ?_;try refine ah ?_
     obtain⟨o29,h30,h⟩:=aj h;refine Vp s_0 jH (!mF) _ _ _ (Fr.refl _ _) au _ h30 _ ?_
     ·rintro p31 σ' eo N8 s35;rw [eo]at h;have s36:σ' 0=(.str s_0):=(N8 0 (by decide)).trans au;have s37:σ' 3=(.bool uQ):=(N8 3 (by decide)).trans au;have s38:σ' 4=(.int .i64 jH):=(N8 4 (by decide)).trans au;rcases av h with⟨e39,h⟩|⟨e39,h⟩
      ·obtain rfl:=ak h;try refine ah ?_
       exact q1 _ _ rfl (by repeat (first|exact f0|refine Fr.upd (by decide) ?_|refine Fr.via N8 (by decide) ?_)) au
      ·rcases av h with⟨e40,h⟩|⟨e40,h⟩
       ·try refine ah ?_
        refine hK _ _ ?_;exact ih s_0 true (IntKind.wrap .i64 (jH+1)) _ _ _ (by repeat (first|exact f0|refine Fr.upd (by decide) ?_|refine Fr.via N8 (by decide) ?_)) au _ h _ q0 q1
       ·try refine ah ?_
        refine aA (Ki e20) ?_;try refine ah ?_
        refine hK _ _ ?_;exact ih s_0 mF (IntKind.wrap .i64 (jH+1)) _ _ _ (by repeat (first|exact f0|refine Fr.upd (by decide) ?_|refine Fr.via N8 (by decide) ?_)) au _ h _ q0 q1
    ·obtain rfl:=ak h;try refine ah ?_
     exact q0 _ _ rfl aN au
def Ee (k:Nat) (s_0:Str):Option Bool:=
  Option.bind (Bu k s_0) (fun o=>Sum.elim (fun rC=>Option.bind (kP k s_0 false 0) (fun o=>Sum.elim (fun p45=>some p45) (fun p50=>some p50) o)) (fun p55=>some p55) o)
theorem abU {k:Nat} {s_0:Str} {r:Bool} (h:Ee k s_0=some r):aF Tryz.prog 75 [(.str s_0)] (.bool r):=by
  refine aF.aP (bg.mem (.cons (.str _) .nil)) (aH arN (by simp) (aD ?_)) (.bool _);unfold Ee at h;unfold alz;try refine ah ?_
  obtain⟨o9,h10,h⟩:=aj h;refine Vo k s_0 _ _ _ (Fr.refl _ _) au _ h10 _ ?_ ?_
  ·rintro rC σ' eo Ef;subst eo;rw [bT]at h;have s15:σ' 0=(.str s_0):=(Ef 0 (by decide)).trans au;try refine ah ?_
   obtain⟨o43,h44,h⟩:=aj h;refine Vq k s_0 false 0 _ _ _ (Fr.refl _ _) au _ h44 _ ?_ ?_
   ·rintro p45 σ' eo awJ s49;subst eo;rw [bT]at h;obtain rfl:=ak h;try refine ah ?_
    exact(.pure _ (.bool _))
   ·rintro p50 σ' eo awK s54;subst eo;rw [bZ]at h;obtain rfl:=ak h;try refine ah ?_
    exact(.pure _ (.bool _))
  ·rintro p55 σ' eo alZ s59;subst eo;rw [bZ]at h;obtain rfl:=ak h;try refine ah ?_
   exact(.pure _ (.bool _))
def uR (s_0:Str):Option Bool:=
  cond (s_0==([84,82,85,69]:Str)) (some true) (cond (s_0==([70,65,76,83,69]:Str)) (some true) (cond (s_0==([66,79,79,76,69,65,78]:Str)) (some true) (some (s_0==([83,84,82,73,78,71]:Str)))))
theorem Gc {s_0:Str} {r:Bool} (h:uR s_0=some r):aF Tryz.prog 76 [(.str s_0)] (.bool r):=by
  refine aF.aP (bg.mem (.cons (.str _) .nil)) (aH arO (by simp) (aD ?_)) (.bool _);unfold uR at h;unfold alA;rcases av h with⟨e1,h⟩|⟨e1,h⟩
  ·obtain rfl:=ak h;try refine ah ?_
   exact(.pure _ (.bool _))
  ·rcases av h with⟨e2,h⟩|⟨e2,h⟩
   ·obtain rfl:=ak h;try refine ah ?_
    exact(.pure _ (.bool _))
   ·rcases av h with⟨e3,h⟩|⟨e3,h⟩
    ·obtain rfl:=ak h;try refine ah ?_
     exact(.pure _ (.bool _))
    ·obtain rfl:=ak h;try refine ah ?_
     exact(.pure _ (.bool _))
def og (k:Nat) (s_0:Str):Option Bool:=
  Option.bind (Ee k s_0) fun p2=>cond p2 (Option.bind (uR s_0) fun p5=>cond p5 (some false) (cond (decide ((s_0.length:Int)>2)) (if 3<=s_0.length then cond ((s_0.take 3)==([87,70,95]:Str)) (some false) (some (!((s_0.take 3)==([83,70,95]:Str))))else none) (some true))) (some false)
theorem rV {k:Nat} {s_0:Str} {r:Bool} (h:og k s_0=some r):aF Tryz.prog 37 [(.str s_0)] (.bool r):=by
  refine aF.aP (bg.mem (.cons (.str _) .nil)) (aH akZ (by simp) (aD ?_)) (.bool _);unfold og at h;unfold akY;obtain⟨p2,e1,h⟩:=aj h;try refine ah ?_
  refine aA (abU e1) ?_;rcases av h with⟨e3,h⟩|⟨e3,h⟩
  ·obtain⟨p5,e4,h⟩:=aj h;try refine ah ?_
   refine aA (Gc e4) ?_;rcases av h with⟨e6,h⟩|⟨e6,h⟩
   ·obtain rfl:=ak h;try refine ah ?_
    exact(.pure _ (.bool _))
   ·rcases av h with⟨e7,h⟩|⟨e7,h⟩
    ·obtain⟨e8,h⟩:=aO h;rcases av h with⟨e9,h⟩|⟨e9,h⟩
     ·obtain rfl:=ak h;try refine ah ?_
      exact(.pure _ (.bool _))
     ·obtain rfl:=ak h;try refine ah ?_
      exact(.pure _ (.bool _))
    ·obtain rfl:=ak h;try refine ah ?_
     exact(.pure _ (.bool _))
  ·obtain rfl:=ak h;try refine ah ?_
   exact(.pure _ (.bool _))
def kQ:Nat->Str->Int->Option (Unit⊕Bool)
  |0,_,_=>none
  |k+1,s_0,dD=>
    cond (decide (dD<(s_0.length:Int))) (if 0<=dD then Option.bind (s_0[dD.toNat]?) fun x3=>cond ((x3.toNat:Int)==33) (if 0<=dD/\dD.toNat<=s_0.length then Option.bind (og k (s_0.take dD.toNat)) fun p8=>cond p8 (if 0<=(IntKind.wrap .i64 (dD+1))/\(IntKind.wrap .i64 (dD+1)).toNat<=s_0.length then Option.bind (og k (s_0.drop (IntKind.wrap .i64 (dD+1)).toNat)) fun mE=>some (.inr (mE))else none) (some (.inr (false)))else none) (kQ k s_0 (IntKind.wrap .i64 (dD+1)))else none) (some (.inl ()))
def Eh:List Nat:=List.range' 2 23
theorem Vr: ∀(k:Nat) (s_0:Str) (dD:Int) (aC σ:Nat->PV) (H:AH) (f0:Fr Eh aC σ) (sl:σ 0=(.str s_0)/\σ 3=(.int .i64 dD)) (o:Unit⊕Bool) (h:kQ k s_0 dD=some o) (Q:Post) (q0: ∀(p:Unit) (σ':Nat->PV),o= .inl p->Fr Eh aC σ'->Q (.exit 0) σ' H) (q1: ∀(p:Bool) (σ':Nat->PV),o= .inr (p)->Fr Eh aC σ'->(σ' 2=(.bool p))->Q .ret σ' H),W Tryz.prog (.loop RO) Q σ H:=by
  intro k
  induction k with
  |zero=>intro s_0 dD aC σ H f0 sl o h Q q0 q1;simp only [kQ,reduceCtorEq]at h
  |succ k ih=>
    intro s_0 dD aC σ H f0 sl o h Q q0 q1;obtain⟨s0,s3⟩:=sl;unfold kQ at h;refine aV (fun K hK=>aD ?_);unfold RO;rcases av h with⟨e1,h⟩|⟨e1,h⟩
    ·obtain⟨e2,h⟩:=aO h;obtain⟨x3,e4,h⟩:=aj h;rcases av h with⟨e5,h⟩|⟨e5,h⟩
     ·obtain⟨e6,h⟩:=aO h;obtain⟨p8,e7,h⟩:=aj h;try refine ah ?_
      refine aA (rV e7) ?_;rcases av h with⟨e9,h⟩|⟨e9,h⟩
      ·obtain⟨e10,h⟩:=aO h;obtain⟨mE,e11,h⟩:=aj h;try refine ah ?_
       refine aA (rV e11) ?_;obtain rfl:=ak h;try refine ah ?_
       exact q1 _ _ rfl aN au
      ·obtain rfl:=ak h;try refine ah ?_
       exact q1 _ _ rfl aN au
     ·try refine ah ?_
      refine hK _ _ ?_;exact ih s_0 (IntKind.wrap .i64 (dD+1)) _ _ _ aN au _ h _ q0 q1
    ·obtain rfl:=ak h;try refine ah ?_
     exact q0 _ _ rfl aN
def rW (k:Nat) (s_0:Str):Option Bool:=
  Option.bind (kQ k s_0 0) (fun o=>Sum.elim (fun GN=>Option.bind (og k s_0) fun mF=>some mF) (fun Je=>some Je) o)
theorem zi {k:Nat} {s_0:Str} {r:Bool} (h:rW k s_0=some r):aF Tryz.prog 56 [(.str s_0)] (.bool r):=by
  refine aF.aP (bg.mem (.cons (.str _) .nil)) (aH arD (by simp) (aD ?_)) (.bool _);unfold rW at h;unfold alg;try refine ah ?_
  obtain⟨o13,h14,h⟩:=aj h;refine Vr k s_0 0 _ _ _ (Fr.refl _ _) au _ h14 _ ?_ ?_
  ·rintro GN σ' eo afF;subst eo;rw [bT]at h;have qE:σ' 0=(.str s_0):=(afF 0 (by decide)).trans au;obtain⟨mF,e20,h⟩:=aj h;try refine ah ?_
   refine aA (rV e20) ?_;obtain rfl:=ak h;try refine ah ?_
   exact(.pure _ (.bool _))
  ·rintro Je σ' eo SV uS;subst eo;rw [bZ]at h;obtain rfl:=ak h;try refine ah ?_
   exact(.pure _ (.bool _))
def rX (dP:Int):Option Bool:=
  cond (dP==0) (some ((dP==0))) (cond (dP==1) (some ((dP==1))) (cond (dP==2) (some ((dP==2))) (some ((dP==20)))))
def MH:List Nat:=[5,6,7,8,9]
theorem Xo: ∀(dP:Int) (aC σ:Nat->PV) (H:AH) (f0:Fr MH aC σ) (sl:σ 4=(.int .i64 dP)) (o:Bool) (h:rX dP=some o) (Q:Post) (q0: ∀(p:Bool) (σ':Nat->PV),o=p->Fr MH aC σ'->(σ' 5=(.bool p))->Q .normal σ' H),W Tryz.prog SF Q σ H:=by
  intro dP aC σ H f0 sl o h Q q0;have s4:=sl;unfold rX at h;refine aD ?_;unfold SF;rcases av h with⟨e1,h⟩|⟨e1,h⟩
  ·obtain rfl:=ak h;try refine ah ?_
   exact q0 _ _ rfl aN au
  ·rcases av h with⟨e2,h⟩|⟨e2,h⟩
   ·obtain rfl:=ak h;try refine ah ?_
    exact q0 _ _ rfl aN au
   ·rcases av h with⟨e3,h⟩|⟨e3,h⟩
    ·obtain rfl:=ak h;try refine ah ?_
     exact q0 _ _ rfl aN au
    ·obtain rfl:=ak h;try refine ah ?_
     exact q0 _ _ rfl aN au
def zk (dP:Int):Option Bool:=
  cond (dP==4) (some ((dP==4))) (some ((dP==5)))
theorem Xp: ∀(dP:Int) (aC σ:Nat->PV) (H:AH) (f0:Fr [14,15,16] aC σ) (sl:σ 4=(.int .i64 dP)) (o:Bool) (h:zk dP=some o) (Q:Post) (q0: ∀(p:Bool) (σ':Nat->PV),o=p->Fr [14,15,16] aC σ'->(σ' 14=(.bool p))->Q .normal σ' H),W Tryz.prog SG Q σ H:=by
  intro dP aC σ H f0 sl o h Q q0;have s4:=sl;unfold zk at h;refine aD ?_;unfold SG;rcases av h with⟨e15,h⟩|⟨e15,h⟩
  ·obtain rfl:=ak h;try refine ah ?_
   exact q0 _ _ rfl aN au
  ·obtain rfl:=ak h;try refine ah ?_
   exact q0 _ _ rfl aN au
def zl (dP:Int):Option Bool:=
  cond (dP==6) (some ((dP==6))) (some ((dP==12)))
theorem Xq: ∀(dP:Int) (aC σ:Nat->PV) (H:AH) (f0:Fr [18,19,20] aC σ) (sl:σ 4=(.int .i64 dP)) (o:Bool) (h:zl dP=some o) (Q:Post) (q0: ∀(p:Bool) (σ':Nat->PV),o=p->Fr [18,19,20] aC σ'->(σ' 18=(.bool p))->Q .normal σ' H),W Tryz.prog SH Q σ H:=by
  intro dP aC σ H f0 sl o h Q q0;have s4:=sl;unfold zl at h;refine aD ?_;unfold SH;rcases av h with⟨e26,h⟩|⟨e26,h⟩
  ·obtain rfl:=ak h;try refine ah ?_
   exact q0 _ _ rfl aN au
  ·obtain rfl:=ak h;try refine ah ?_
   exact q0 _ _ rfl aN au
def zm (dP:Int):Option Bool:=
  cond (dP==7) (some ((dP==7))) (cond (dP==8) (some ((dP==8))) (cond (dP==9) (some ((dP==9))) (some ((dP==13)))))
def MI:List Nat:=[22,23,24,25,26]
theorem Xr: ∀(dP:Int) (aC σ:Nat->PV) (H:AH) (f0:Fr MI aC σ) (sl:σ 4=(.int .i64 dP)) (o:Bool) (h:zm dP=some o) (Q:Post) (q0: ∀(p:Bool) (σ':Nat->PV),o=p->Fr MI aC σ'->(σ' 22=(.bool p))->Q .normal σ' H),W Tryz.prog SI Q σ H:=by
  intro dP aC σ H f0 sl o h Q q0;have s4:=sl;unfold zm at h;refine aD ?_;unfold SI;rcases av h with⟨e37,h⟩|⟨e37,h⟩
  ·obtain rfl:=ak h;try refine ah ?_
   exact q0 _ _ rfl aN au
  ·rcases av h with⟨e38,h⟩|⟨e38,h⟩
   ·obtain rfl:=ak h;try refine ah ?_
    exact q0 _ _ rfl aN au
   ·rcases av h with⟨e39,h⟩|⟨e39,h⟩
    ·obtain rfl:=ak h;try refine ah ?_
     exact q0 _ _ rfl aN au
    ·obtain rfl:=ak h;try refine ah ?_
     exact q0 _ _ rfl aN au
def zn (dP:Int):Option Bool:=
  cond (dP==10) (some ((dP==10))) (some ((dP==11)))
theorem Xt: ∀(dP:Int) (aC σ:Nat->PV) (H:AH) (f0:Fr [28,29,30] aC σ) (sl:σ 4=(.int .i64 dP)) (o:Bool) (h:zn dP=some o) (Q:Post) (q0: ∀(p:Bool) (σ':Nat->PV),o=p->Fr [28,29,30] aC σ'->(σ' 28=(.bool p))->Q .normal σ' H),W Tryz.prog SK Q σ H:=by
  intro dP aC σ H f0 sl o h Q q0;have s4:=sl;unfold zn at h;refine aD ?_;unfold SK;rcases av h with⟨e50,h⟩|⟨e50,h⟩
  ·obtain rfl:=ak h;try refine ah ?_
   exact q0 _ _ rfl aN au
  ·obtain rfl:=ak h;try refine ah ?_
   exact q0 _ _ rfl aN au
def zo (dP:Int):Option Bool:=
  cond (dP==15) (some ((dP==15))) (cond (dP==25) (some ((dP==25))) (cond (dP==26) (some ((dP==26))) (cond (dP==27) (some ((dP==27))) (some ((dP==28))))))
def MJ:List Nat:=[35,36,37,38,39,40]
theorem Xu: ∀(dP:Int) (aC σ:Nat->PV) (H:AH) (f0:Fr MJ aC σ) (sl:σ 4=(.int .i64 dP)) (o:Bool) (h:zo dP=some o) (Q:Post) (q0: ∀(p:Bool) (σ':Nat->PV),o=p->Fr MJ aC σ'->(σ' 35=(.bool p))->Q .normal σ' H),W Tryz.prog SL Q σ H:=by
  intro dP aC σ H f0 sl o h Q q0;have s4:=sl;unfold zo at h;refine aD ?_;unfold SL;rcases av h with⟨e62,h⟩|⟨e62,h⟩
  ·obtain rfl:=ak h;try refine ah ?_
   exact q0 _ _ rfl aN au
  ·rcases av h with⟨e63,h⟩|⟨e63,h⟩
   ·obtain rfl:=ak h;try refine ah ?_
    exact q0 _ _ rfl aN au
   ·rcases av h with⟨e64,h⟩|⟨e64,h⟩
    ·obtain rfl:=ak h;try refine ah ?_
     exact q0 _ _ rfl aN au
    ·rcases av h with⟨e65,h⟩|⟨e65,h⟩
     ·obtain rfl:=ak h;try refine ah ?_
      exact q0 _ _ rfl aN au
     ·obtain rfl:=ak h;try refine ah ?_
      exact q0 _ _ rfl aN au
def zq (dP:Int):Option Bool:=
  cond (dP==16) (some ((dP==16))) (some ((dP==17)))
theorem Xv: ∀(dP:Int) (aC σ:Nat->PV) (H:AH) (f0:Fr [42,43,44] aC σ) (sl:σ 4=(.int .i64 dP)) (o:Bool) (h:zq dP=some o) (Q:Post) (q0: ∀(p:Bool) (σ':Nat->PV),o=p->Fr [42,43,44] aC σ'->(σ' 42=(.bool p))->Q .normal σ' H),W Tryz.prog SN Q σ H:=by
  intro dP aC σ H f0 sl o h Q q0;have s4:=sl;unfold zq at h;refine aD ?_;unfold SN;rcases av h with⟨MK,h⟩|⟨MK,h⟩
  ·obtain rfl:=ak h;try refine ah ?_
   exact q0 _ _ rfl aN au
  ·obtain rfl:=ak h;try refine ah ?_
   exact q0 _ _ rfl aN au
def qP (dY:Int):Option ((Int×Int×Int×Int)×Bool):=
  Option.bind (rX dY) (fun p6=>cond p6 (some ((0,0,0,0),false)) (cond (dY==3) (some ((0,0,1,4),false)) (Option.bind (zk dY) (fun qQ=>cond qQ (some ((0,0,0,30),false)) (Option.bind (zl dY) (fun p29=>cond p29 (some ((1,1,2,2),false)) (Option.bind (zm dY) (fun p42=>cond p42 (some ((1,4,1,1),true)) (Option.bind (zn dY) (fun p53=>cond p53 (some ((1,4,1,1),false)) (cond (dY==14) (some ((0,0,2,5),false)) (Option.bind (zo dY) (fun p68=>cond p68 (some ((0,0,2,2),false)) (Option.bind (zq dY) (fun p79=>cond p79 (some ((1,30,0,0),true)) (cond (dY==18) (some ((0,0,1,1),false)) (cond (dY==19) (some ((0,0,3,3),false)) (cond (dY==21) (some ((0,0,3,3),false)) (cond (dY==22) (some ((0,0,2,30),false)) (cond (dY==23) (some ((1,5,2,2),false)) (some ((1,4,1,1),false))))))))))))))))))))))
theorem adF {dY:Int} {r:(Int×Int×Int×Int)×Bool} (h:qP dY=some r):aF Tryz.prog 95 [(.int .i64 dY)] (.dw [(.agg [(.int .i64 r.1.1),(.int .i64 r.1.2.1),(.int .i64 r.1.2.2.1),(.int .i64 r.1.2.2.2)]),(.bool r.2)]):=by
  refine aF.aP (bg.mem (.cons (.int _ _) .nil)) (aH ar1 (by simp) (aD ?_)) (.dw _ (bg.mem (.cons (.agg _ (bg.mem (.cons (.int _ _) (.cons (.int _ _) (.cons (.int _ _) (.cons (.int _ _) .nil)))))) (.cons (.bool _) .nil))));unfold qP at h;unfold alP;try refine ah ?_
  obtain⟨o4,h5,h⟩:=aj h;refine Xo dY _ _ _ (Fr.refl _ _) au _ h5 _ ?_
  ·rintro p6 σ' eo fr7 s10;rw [eo]at h;have s11:σ' 2=(.ref (AH.empty.next) 0):=(fr7 2 (by decide)).trans au;have s12:σ' 4=(.int .i64 dY):=(fr7 4 (by decide)).trans au;rcases av h with⟨e13,h⟩|⟨e13,h⟩
   ·obtain rfl:=ak h;try refine ah ?_
    exact(bR (.cons (dG (.cons (.pure _ (.int _ _)) (.cons (.pure _ (.int _ _)) (.cons (.pure _ (.int _ _)) (.cons (.pure _ (.int _ _)) .nil))))) (.cons (.pure _ (.bool _)) .nil)))
   ·rcases av h with⟨e14,h⟩|⟨e14,h⟩
    ·obtain rfl:=ak h;try refine ah ?_
     exact(bR (.cons (dG (.cons (.pure _ (.int _ _)) (.cons (.pure _ (.int _ _)) (.cons (.pure _ (.int _ _)) (.cons (.pure _ (.int _ _)) .nil))))) (.cons (.pure _ (.bool _)) .nil)))
    ·try refine ah ?_
     obtain⟨o16,h17,h⟩:=aj h;refine Xp dY _ _ _ (Fr.refl _ _) au _ h17 _ ?_
     ·rintro qQ σ' eo afG Xw;rw [eo]at h;have Ph:σ' 2=(.ref (AH.empty.next) 0):=(afG 2 (by decide)).trans au;have s24:σ' 4=(.int .i64 dY):=(afG 4 (by decide)).trans au;rcases av h with⟨e25,h⟩|⟨e25,h⟩
      ·obtain rfl:=ak h;try refine ah ?_
       exact(bR (.cons (dG (.cons (.pure _ (.int _ _)) (.cons (.pure _ (.int _ _)) (.cons (.pure _ (.int _ _)) (.cons (.pure _ (.int _ _)) .nil))))) (.cons (.pure _ (.bool _)) .nil)))
      ·try refine ah ?_
       obtain⟨o27,h28,h⟩:=aj h;refine Xq dY _ _ _ (Fr.refl _ _) au _ h28 _ ?_
       ·rintro p29 σ' eo Gd s33;rw [eo]at h;have s34:σ' 2=(.ref (AH.empty.next) 0):=(Gd 2 (by decide)).trans au;have s35:σ' 4=(.int .i64 dY):=(Gd 4 (by decide)).trans au;rcases av h with⟨e36,h⟩|⟨e36,h⟩
        ·obtain rfl:=ak h;try refine ah ?_
         exact(bR (.cons (dG (.cons (.pure _ (.int _ _)) (.cons (.pure _ (.int _ _)) (.cons (.pure _ (.int _ _)) (.cons (.pure _ (.int _ _)) .nil))))) (.cons (.pure _ (.bool _)) .nil)))
        ·try refine ah ?_
         obtain⟨o40,h41,h⟩:=aj h;refine Xr dY _ _ _ (Fr.refl _ _) au _ h41 _ ?_
         ·rintro p42 σ' eo al2 s46;rw [eo]at h;have s47:σ' 2=(.ref (AH.empty.next) 0):=(al2 2 (by decide)).trans au;have s48:σ' 4=(.int .i64 dY):=(al2 4 (by decide)).trans au;rcases av h with⟨e49,h⟩|⟨e49,h⟩
          ·obtain rfl:=ak h;try refine ah ?_
           exact(bR (.cons (dG (.cons (.pure _ (.int _ _)) (.cons (.pure _ (.int _ _)) (.cons (.pure _ (.int _ _)) (.cons (.pure _ (.int _ _)) .nil))))) (.cons (.pure _ (.bool _)) .nil)))
          ·try refine ah ?_
           obtain⟨o51,h52,h⟩:=aj h;refine Xt dY _ _ _ (Fr.refl _ _) au _ h52 _ ?_
           ·rintro p53 σ' eo IB s57;rw [eo]at h;have s58:σ' 2=(.ref (AH.empty.next) 0):=(IB 2 (by decide)).trans au;have s59:σ' 4=(.int .i64 dY):=(IB 4 (by decide)).trans au;rcases av h with⟨e60,h⟩|⟨e60,h⟩
            ·obtain rfl:=ak h;try refine ah ?_
             exact(bR (.cons (dG (.cons (.pure _ (.int _ _)) (.cons (.pure _ (.int _ _)) (.cons (.pure _ (.int _ _)) (.cons (.pure _ (.int _ _)) .nil))))) (.cons (.pure _ (.bool _)) .nil)))
            ·rcases av h with⟨e61,h⟩|⟨e61,h⟩
             ·obtain rfl:=ak h;try refine ah ?_
              exact(bR (.cons (dG (.cons (.pure _ (.int _ _)) (.cons (.pure _ (.int _ _)) (.cons (.pure _ (.int _ _)) (.cons (.pure _ (.int _ _)) .nil))))) (.cons (.pure _ (.bool _)) .nil)))
             ·try refine ah ?_
              obtain⟨o66,h67,h⟩:=aj h;refine Xu dY _ _ _ (Fr.refl _ _) au _ h67 _ ?_
              ·rintro p68 σ' eo al5 s72;rw [eo]at h;have Xx:σ' 2=(.ref (AH.empty.next) 0):=(al5 2 (by decide)).trans au;have s74:σ' 4=(.int .i64 dY):=(al5 4 (by decide)).trans au;rcases av h with⟨Kk,h⟩|⟨Kk,h⟩
               ·obtain rfl:=ak h;try refine ah ?_
                exact(bR (.cons (dG (.cons (.pure _ (.int _ _)) (.cons (.pure _ (.int _ _)) (.cons (.pure _ (.int _ _)) (.cons (.pure _ (.int _ _)) .nil))))) (.cons (.pure _ (.bool _)) .nil)))
               ·try refine ah ?_
                obtain⟨o77,h78,h⟩:=aj h;refine Xv dY _ _ _ (Fr.refl _ _) au _ h78 _ ?_
                ·rintro p79 σ' eo al6 s83;rw [eo]at h;have s84:σ' 2=(.ref (AH.empty.next) 0):=(al6 2 (by decide)).trans au;have s85:σ' 4=(.int .i64 dY):=(al6 4 (by decide)).trans au;rcases av h with⟨Pj,h⟩|⟨Pj,h⟩
                 ·obtain rfl:=ak h;try refine ah ?_
                  exact(bR (.cons (dG (.cons (.pure _ (.int _ _)) (.cons (.pure _ (.int _ _)) (.cons (.pure _ (.int _ _)) (.cons (.pure _ (.int _ _)) .nil))))) (.cons (.pure _ (.bool _)) .nil)))
                 ·rcases av h with⟨e87,h⟩|⟨e87,h⟩
                  ·obtain rfl:=ak h;try refine ah ?_
                   exact(bR (.cons (dG (.cons (.pure _ (.int _ _)) (.cons (.pure _ (.int _ _)) (.cons (.pure _ (.int _ _)) (.cons (.pure _ (.int _ _)) .nil))))) (.cons (.pure _ (.bool _)) .nil)))
                  ·rcases av h with⟨Pk,h⟩|⟨Pk,h⟩
                   ·obtain rfl:=ak h;try refine ah ?_
                    exact(bR (.cons (dG (.cons (.pure _ (.int _ _)) (.cons (.pure _ (.int _ _)) (.cons (.pure _ (.int _ _)) (.cons (.pure _ (.int _ _)) .nil))))) (.cons (.pure _ (.bool _)) .nil)))
                   ·rcases av h with⟨Kl,h⟩|⟨Kl,h⟩
                    ·obtain rfl:=ak h;try refine ah ?_
                     exact(bR (.cons (dG (.cons (.pure _ (.int _ _)) (.cons (.pure _ (.int _ _)) (.cons (.pure _ (.int _ _)) (.cons (.pure _ (.int _ _)) .nil))))) (.cons (.pure _ (.bool _)) .nil)))
                    ·rcases av h with⟨Pm,h⟩|⟨Pm,h⟩
                     ·obtain rfl:=ak h;try refine ah ?_
                      exact(bR (.cons (dG (.cons (.pure _ (.int _ _)) (.cons (.pure _ (.int _ _)) (.cons (.pure _ (.int _ _)) (.cons (.pure _ (.int _ _)) .nil))))) (.cons (.pure _ (.bool _)) .nil)))
                     ·rcases av h with⟨Pn,h⟩|⟨Pn,h⟩
                      ·obtain rfl:=ak h;try refine ah ?_
                       exact(bR (.cons (dG (.cons (.pure _ (.int _ _)) (.cons (.pure _ (.int _ _)) (.cons (.pure _ (.int _ _)) (.cons (.pure _ (.int _ _)) .nil))))) (.cons (.pure _ (.bool _)) .nil)))
                      ·obtain rfl:=ak h;try refine ah ?_
                       exact(bR (.cons (dG (.cons (.pure _ (.int _ _)) (.cons (.pure _ (.int _ _)) (.cons (.pure _ (.int _ _)) (.cons (.pure _ (.int _ _)) .nil))))) (.cons (.pure _ (.bool _)) .nil)))
def lT:Nat->(List Nd)->Int->Option (Int⊕Int)
  |0,_,_=>none
  |k+1,aG,fA=>
    if 0<=fA then Option.bind (aG[fA.toNat]?) fun x3=>cond (decide ((x3.args.length:Int)>0)) (Option.bind (x3.args[0]?) fun x6=>Option.bind (gH x6 0 (IntKind.wrap .i64 (fA -1))) fun p9=>cond p9 (lT k aG x6) (some (.inr ((-1))))) (some (.inl fA))else none
def Gf:List Nat:=[1,4,5]++List.range' 8 20
theorem Xy: ∀(k:Nat) (aG:List Nd) (fA:Int) (aC σ:Nat->PV) (H:AH) (f0:Fr Gf aC σ) (sl:σ 0=(.aB (aG.map Nd.cells) .unk)/\σ 1=(.int .i64 fA)) (o:Int⊕Int) (h:lT k aG fA=some o) (Q:Post) (q0: ∀(p:Int) (σ':Nat->PV),o= .inl p->Fr Gf aC σ'->(σ' 1=(.int .i64 p))->Q (.exit 0) σ' H) (q1: ∀(p:Int) (σ':Nat->PV),o= .inr (p)->Fr Gf aC σ'->(σ' 4=(.int .i64 p))->Q .ret σ' H),W Tryz.prog (.loop RP) Q σ H:=by
  intro k
  induction k with
  |zero=>intro aG fA aC σ H f0 sl o h Q q0 q1;simp only [lT,reduceCtorEq]at h
  |succ k ih=>
    intro aG fA aC σ H f0 sl o h Q q0 q1;obtain⟨s0,s1⟩:=sl;unfold lT at h;refine aV (fun K hK=>aD ?_);unfold RP;obtain⟨e2,h⟩:=aO h;obtain⟨x3,e4,h⟩:=aj h;rcases av h with⟨e5,h⟩|⟨e5,h⟩
    ·obtain⟨x6,e7,h⟩:=aj h;obtain⟨p9,e8,h⟩:=aj h;try refine ah ?_
     refine aA (gM e8) ?_;rcases av h with⟨e10,h⟩|⟨e10,h⟩
     ·try refine ah ?_
      refine hK _ _ ?_;exact ih aG x6 _ _ _ aN au _ h _ q0 q1
     ·obtain rfl:=ak h;try refine ah ?_
      exact q1 _ _ rfl aN au
    ·obtain rfl:=ak h;try refine ah ?_
     exact q0 _ _ rfl aN au
def qR (k:Nat) (aG:List Nd) (fA:Int):Option Int:=
  cond (decide (fA<0)) (some (-1)) (Option.bind (lT k aG fA) (fun o=>Sum.elim (fun qF=>some qF) (fun qQ=>some qQ) o))
theorem FE {k:Nat} {aG:List Nd} {fA:Int} {c0:Ck} {r:Int} (h:qR k aG fA=some r):aF Tryz.prog 57 [(.aB (aG.map Nd.cells) c0),(.int .i64 fA)] (.int .i64 r):=by
  refine aF.lw (.aB (.same .nil)) (aF.aP (bg.mem (.cons (aU Nd.pu _) (.cons (.int _ _) .nil))) (aH ali (by simp) (aD ?_)) (.int _ _));unfold qR at h;unfold alh;rcases av h with⟨e1,h⟩|⟨e1,h⟩
  ·obtain rfl:=ak h;try refine ah ?_
   exact(.pure _ (.int _ _))
  ·try refine ah ?_
   obtain⟨o11,h12,h⟩:=aj h;refine Xy k aG fA _ _ _ (Fr.refl _ _) au _ h12 _ ?_ ?_
   ·rintro qF σ' eo al7 s17;subst eo;rw [bT]at h;obtain rfl:=ak h;try refine ah ?_
    exact(.pure _ (.int _ _))
   ·rintro qQ σ' eo afG Xw;subst eo;rw [bZ]at h;obtain rfl:=ak h;try refine ah ?_
    exact(.pure _ (.int _ _))
def nI:Nat->(List Nd)->Int->Int->Int->Option (Unit⊕Bool)
  |0,_,_,_,_=>none
  |k+1,aG,dz,BP,mY=>
    cond (decide (mY>=0)) (if 0<=dz then Option.bind (aG[dz.toNat]?) fun x6=>if 0<=mY then Option.bind (x6.args[mY.toNat]?) fun x9=>cond (x9 !=(IntKind.wrap .i64 (BP -1))) (some (.inr (false))) (cond (decide (BP<1)) (some (.inr (false))) (Option.bind (qR k aG (IntKind.wrap .i64 (BP -1))) fun kZ=>nI k aG dz kZ (IntKind.wrap .i64 (mY -1))))else none else none) (some (.inl ()))
def Ei:List Nat:=[4,5,6]++List.range' 15 23
theorem Vt: ∀(k:Nat) (aG:List Nd) (dz:Int) (BP:Int) (mY:Int) (aC σ:Nat->PV) (H:AH) (f0:Fr Ei aC σ) (sl:σ 0=(.aB (aG.map Nd.cells) .unk)/\σ 1=(.int .i64 dz)/\σ 5=(.int .i64 BP)/\σ 6=(.int .i64 mY)) (o:Unit⊕Bool) (h:nI k aG dz BP mY=some o) (Q:Post) (q0: ∀(p:Unit) (σ':Nat->PV),o= .inl p->Fr Ei aC σ'->Q (.exit 0) σ' H) (q1: ∀(p:Bool) (σ':Nat->PV),o= .inr (p)->Fr Ei aC σ'->(σ' 4=(.bool p))->Q .ret σ' H),W Tryz.prog (.loop SQ) Q σ H:=by
  intro k
  induction k with
  |zero=>intro aG dz BP mY aC σ H f0 sl o h Q q0 q1;simp only [nI,reduceCtorEq]at h
  |succ k ih=>
    intro aG dz BP mY aC σ H f0 sl o h Q q0 q1;obtain⟨s0,s1,s5,s6⟩:=sl;unfold nI at h;refine aV (fun K hK=>aD ?_);unfold SQ;rcases av h with⟨e4,h⟩|⟨e4,h⟩
    ·obtain⟨e5,h⟩:=aO h;obtain⟨x6,e7,h⟩:=aj h;obtain⟨e8,h⟩:=aO h;obtain⟨x9,e10,h⟩:=aj h;rcases av h with⟨e11,h⟩|⟨e11,h⟩
     ·obtain rfl:=ak h;try refine ah ?_
      exact q1 _ _ rfl aN au
     ·rcases av h with⟨e12,h⟩|⟨e12,h⟩
      ·obtain rfl:=ak h;try refine ah ?_
       exact q1 _ _ rfl aN au
      ·obtain⟨kZ,e13,h⟩:=aj h;try refine ah ?_
       refine aA (FE e13) ?_;try refine ah ?_
       refine hK _ _ ?_;exact ih aG dz kZ (IntKind.wrap .i64 (mY -1)) _ _ _ aN au _ h _ q0 q1
    ·obtain rfl:=ak h;try refine ah ?_
     exact q0 _ _ rfl aN
def AY (k:Nat) (aG:List Nd) (dz:Int):Option Bool:=
  if 0<=dz then Option.bind (aG[dz.toNat]?) fun x2=>Option.bind (nI k aG dz dz (IntKind.wrap .i64 ((x2.args.length:Int) -1))) (fun o=>Sum.elim (fun Xz=>some true) (fun mF=>some mF) o)else none
theorem abV {k:Nat} {aG:List Nd} {dz:Int} {c0:Ck} {r:Bool} (h:AY k aG dz=some r):aF Tryz.prog 96 [(.aB (aG.map Nd.cells) c0),(.int .i64 dz)] (.bool r):=by
  refine aF.lw (.aB (.same .nil)) (aF.aP (bg.mem (.cons (aU Nd.pu _) (.cons (.int _ _) .nil))) (aH alR (by simp) (aD ?_)) (.bool _));unfold AY at h;unfold alQ;obtain⟨e1,h⟩:=aO h;obtain⟨x2,e3,h⟩:=aj h;try refine ah ?_
  obtain⟨o15,h16,h⟩:=aj h;refine Vt k aG dz dz (IntKind.wrap .i64 ((x2.args.length:Int) -1)) _ _ _ (Fr.refl _ _) au _ h16 _ ?_ ?_
  ·rintro Xz σ' eo ar9;subst eo;rw [bT]at h;obtain rfl:=ak h;try refine ah ?_
   exact(.pure _ (.bool _))
  ·rintro mF σ' eo awL uD;subst eo;rw [bZ]at h;obtain rfl:=ak h;try refine ah ?_
   exact(.pure _ (.bool _))
def kS:Nat->Str->Int->Option (Unit⊕Bool)
  |0,_,_=>none
  |k+1,s_0,fq=>
    cond (decide (fq<(s_0.length:Int))) (if 0<=fq then Option.bind (s_0[fq.toNat]?) fun x4=>cond (decide ((x4.toNat:Int)<32)) (some (.inr (false))) (cond (decide ((x4.toNat:Int)>126)) (some (.inr (false))) (kS k s_0 (IntKind.wrap .i64 (fq+1))))else none) (some (.inl ()))
def Cw:List Nat:=[4,5]++List.range' 10 16
theorem SX: ∀(k:Nat) (s_0:Str) (fq:Int) (aC σ:Nat->PV) (H:AH) (f0:Fr Cw aC σ) (sl:σ 0=(.str s_0)/\σ 5=(.int .i64 fq)) (o:Unit⊕Bool) (h:kS k s_0 fq=some o) (Q:Post) (q0: ∀(p:Unit) (σ':Nat->PV),o= .inl p->Fr Cw aC σ'->Q (.exit 0) σ' H) (q1: ∀(p:Bool) (σ':Nat->PV),o= .inr (p)->Fr Cw aC σ'->(σ' 4=(.bool p))->Q .ret σ' H),W Tryz.prog (.loop NS) Q σ H:=by
  intro k
  induction k with
  |zero=>intro s_0 fq aC σ H f0 sl o h Q q0 q1;simp only [kS,reduceCtorEq]at h
  |succ k ih=>
    intro s_0 fq aC σ H f0 sl o h Q q0 q1;obtain⟨s0,s5⟩:=sl;unfold kS at h;refine aV (fun K hK=>aD ?_);unfold NS;rcases av h with⟨e2,h⟩|⟨e2,h⟩
    ·obtain⟨e3,h⟩:=aO h;obtain⟨x4,e5,h⟩:=aj h;rcases av h with⟨e6,h⟩|⟨e6,h⟩
     ·obtain rfl:=ak h;try refine ah ?_
      exact q1 _ _ rfl aN au
     ·rcases av h with⟨e7,h⟩|⟨e7,h⟩
      ·obtain rfl:=ak h;try refine ah ?_
       exact q1 _ _ rfl aN au
      ·try refine ah ?_
       refine hK _ _ ?_;exact ih s_0 (IntKind.wrap .i64 (fq+1)) _ _ _ aN au _ h _ q0 q1
    ·obtain rfl:=ak h;try refine ah ?_
     exact q0 _ _ rfl aN
def BQ (k:Nat) (s_0:Str) (Po:Int):Option Bool:=
  cond (decide ((s_0.length:Int)>Po)) (some false) (Option.bind (kS k s_0 0) (fun o=>Sum.elim (fun gT=>some true) (fun kZ=>some kZ) o))
theorem Z4 {k:Nat} {s_0:Str} {Po:Int} {r:Bool} (h:BQ k s_0 Po=some r):aF Tryz.prog 148 [(.str s_0),(.int .i64 Po)] (.bool r):=by
  refine aF.aP (bg.mem (.cons (.str _) (.cons (.int _ _) .nil))) (aH ao7 (by simp) (aD ?_)) (.bool _);unfold BQ at h;unfold ahE;rcases av h with⟨e1,h⟩|⟨e1,h⟩
  ·obtain rfl:=ak h;try refine ah ?_
   exact(.pure _ (.bool _))
  ·try refine ah ?_
   obtain⟨o8,h9,h⟩:=aj h;refine SX k s_0 0 _ _ _ (Fr.refl _ _) au _ h9 _ ?_ ?_
   ·rintro gT σ' eo Iz;subst eo;rw [bT]at h;obtain rfl:=ak h;try refine ah ?_
    exact(.pure _ (.bool _))
   ·rintro kZ σ' eo yh pQ;subst eo;rw [bZ]at h;obtain rfl:=ak h;try refine ah ?_
    exact(.pure _ (.bool _))
def ni:Nat->Str->Int->Option (Unit⊕Bool)
  |0,_,_=>none
  |k+1,s_0,dD=>
    cond (decide (dD<(s_0.length:Int))) (if 0<=dD then Option.bind (s_0[dD.toNat]?) fun x6=>cond ((x6.toNat:Int)==34) (some (.inr (false))) (cond ((x6.toNat:Int)==92) (some (.inr (false))) (ni k s_0 (IntKind.wrap .i64 (dD+1))))else none) (some (.inl ()))
def Gg:List Nat:=[2,3]++List.range' 7 16
theorem XA: ∀(k:Nat) (s_0:Str) (dD:Int) (aC σ:Nat->PV) (H:AH) (f0:Fr Gg aC σ) (sl:σ 0=(.str s_0)/\σ 3=(.int .i64 dD)) (o:Unit⊕Bool) (h:ni k s_0 dD=some o) (Q:Post) (q0: ∀(p:Unit) (σ':Nat->PV),o= .inl p->Fr Gg aC σ'->Q (.exit 0) σ' H) (q1: ∀(p:Bool) (σ':Nat->PV),o= .inr (p)->Fr Gg aC σ'->(σ' 2=(.bool p))->Q .ret σ' H),W Tryz.prog (.loop SS) Q σ H:=by
  intro k
  induction k with
  |zero=>intro s_0 dD aC σ H f0 sl o h Q q0 q1;simp only [ni,reduceCtorEq]at h
  |succ k ih=>
    intro s_0 dD aC σ H f0 sl o h Q q0 q1;obtain⟨s0,s3⟩:=sl;unfold ni at h;refine aV (fun K hK=>aD ?_);unfold SS;rcases av h with⟨e4,h⟩|⟨e4,h⟩
    ·obtain⟨e5,h⟩:=aO h;obtain⟨x6,e7,h⟩:=aj h;rcases av h with⟨e8,h⟩|⟨e8,h⟩
     ·obtain rfl:=ak h;try refine ah ?_
      exact q1 _ _ rfl aN au
     ·rcases av h with⟨e9,h⟩|⟨e9,h⟩
      ·obtain rfl:=ak h;try refine ah ?_
       exact q1 _ _ rfl aN au
      ·try refine ah ?_
       refine hK _ _ ?_;exact ih s_0 (IntKind.wrap .i64 (dD+1)) _ _ _ aN au _ h _ q0 q1
    ·obtain rfl:=ak h;try refine ah ?_
     exact q0 _ _ rfl aN
def iB (k:Nat) (s_0:Str):Option Bool:=
  Option.bind (BQ k s_0 40) fun p2=>cond p2 (Option.bind (ni k s_0 0) (fun o=>Sum.elim (fun mE=>some true) (fun p16=>some p16) o)) (some false)
theorem lg {k:Nat} {s_0:Str} {r:Bool} (h:iB k s_0=some r):aF Tryz.prog 97 [(.str s_0)] (.bool r):=by
  refine aF.aP (bg.mem (.cons (.str _) .nil)) (aH ar2 (by simp) (aD ?_)) (.bool _);unfold iB at h;unfold alS;obtain⟨p2,e1,h⟩:=aj h;try refine ah ?_
  refine aA (Z4 e1) ?_;rcases av h with⟨e3,h⟩|⟨e3,h⟩
  ·try refine ah ?_
   obtain⟨o10,h11,h⟩:=aj h;refine XA k s_0 0 _ _ _ (Fr.refl _ _) au _ h11 _ ?_ ?_
   ·rintro mE σ' eo Kh;subst eo;rw [bT]at h;obtain rfl:=ak h;try refine ah ?_
    exact(.pure _ (.bool _))
   ·rintro p16 σ' eo XB s20;subst eo;rw [bZ]at h;obtain rfl:=ak h;try refine ah ?_
    exact(.pure _ (.bool _))
  ·obtain rfl:=ak h;try refine ah ?_
   exact(.pure _ (.bool _))
def zu (bB:Int) (bP:Int) (bH:Str) (bS:List Str) (cu:List Int) (XC:Bool):Option Bool:=
  cond XC (some ((bB==3))) (some (false))
theorem SY: ∀(cZ:Nat) (bB:Int) (bP:Int) (bH:Str) (bS:List Str) (cu:List Int) (XC:Bool) (aC σ:Nat->PV) (H:AH) (f0:Fr [38,39,40,41] aC σ) (sl:σ 5=(.ref (cZ) 0)/\σ 37=(.bool XC)/\H.obj cZ=some [(.int .i64 bB),(.int .i64 bP),(.str bH),(.aB (bS.map aX) .unk),(.aB (cu.map aY) .unk)]) (dn:cZ<H.next) (o:Bool) (h:zu bB bP bH bS cu XC=some o) (Q:Post) (q0: ∀(p:Bool) (σ':Nat->PV),o=p->Fr [38,39,40,41] aC σ'->(σ' 41=(.bool p))->Q .normal σ' H),cO Tryz.prog Ry (Q .normal) σ H:=by
  intro cZ bB bP bH bS cu XC aC σ H f0 sl dn o h Q q0;obtain⟨s5,s37,yH⟩:=sl;have yI:=ne_next dn;have yJ:=aS dn;unfold zu at h;refine dx ?_;unfold Ry;rcases av h with⟨e11,h⟩|⟨e11,h⟩
  ·obtain rfl:=ak h;try refine ah ?_
   exact q0 _ _ rfl aN au
  ·obtain rfl:=ak h;try refine ah ?_
   exact q0 _ _ rfl aN au
def uT (k:Nat) (bB:Int) (bP:Int) (bH:Str) (bS:List Str) (cu:List Int) (zw:Int) (zx:Int) (zy:Int) (zA:Int):Option ((Int×Int×Int×Int)):=
  Option.bind (qO k bH) fun gT=>Option.bind (zu bB bP bH bS cu gT.2) (fun kZ=>cond kZ (some ((zw,zx,0,(cu.length:Int)))) (some ((zw,zx,zy,zA))))
def Jf:List Nat:=[8,9]++List.range' 30 17
theorem S9 (k:Nat): ∀(cZ:Nat) (rY:Nat) (bB:Int) (bP:Int) (bH:Str) (bS:List Str) (cu:List Int) (zw:Int) (zx:Int) (zy:Int) (zA:Int) (aC σ:Nat->PV) (H0 H:AH) (f0:Fr Jf aC σ) (hf0:HF [rY] H0 H) (sl:σ 5=(.ref (cZ) 0)/\σ 6=(.ref (rY) 0)/\H.obj cZ=some [(.int .i64 bB),(.int .i64 bP),(.str bH),(.aB (bS.map aX) .unk),(.aB (cu.map aY) .unk)]/\H.obj rY=some [(.int .i64 zw),(.int .i64 zx),(.int .i64 zy),(.int .i64 zA)]) (dn:cZ<H.next) (AZ:rY<H.next) (Cx:cZ≠rY) (o:(Int×Int×Int×Int)) (h:uT k bB bP bH bS cu zw zx zy zA=some o) (Q:Post) (q0: ∀(p:Int×Int×Int×Int) (σ':Nat->PV) (H':AH),o=p->Fr Jf aC σ'->HF [rY] H0 H'->(H'.obj rY=some [(.int .i64 p.1),(.int .i64 p.2.1),(.int .i64 p.2.2.1),(.int .i64 p.2.2.2)])->Q .normal σ' H'),W Tryz.prog Rz Q σ H:=by
  intro cZ rY bB bP bH bS cu zw zx zy zA aC σ H0 H f0 hf0 sl dn AZ Cx o h Q q0;obtain⟨s5,s6,yH,ajf⟩:=sl;have yI:=ne_next dn;have yJ:=aS dn;have ajg:=ne_next AZ;have ajh:=aS AZ;have ajR:=eq_false Cx;have ajS:=eq_false (Ne.symm Cx);have hle0:=hf0.1;unfold uT at h;refine aD ?_;unfold Rz;obtain⟨gT,e9,h⟩:=aj h;try refine ah ?_
  refine aA (GL e9) ?_;try refine ah ?_
  obtain⟨o12,Pp,h⟩:=aj h;refine SY (cZ) bB bP bH bS cu gT.2 _ _ _ (Fr.refl _ _) au bO _ Pp _ ?_
  ·rintro kZ σ' eo yh pQ;rw [eo]at h;have qE:σ' 5=(.ref (cZ) 0):=(yh 5 (by decide)).trans au;have s20:σ' 6=(.ref (rY) 0):=(yh 6 (by decide)).trans au;rcases av h with⟨e21,h⟩|⟨e21,h⟩
   ·try refine ah ?_
    refine QS (rY) ?_;obtain rfl:=ak h;try refine ah ?_
    exact q0 _ _ _ rfl (by repeat (first|exact f0|refine Fr.upd (by decide) ?_|refine Fr.via yh (by decide) ?_)) (by repeat (first|exact hf0|refine HF.new ?_|refine HF.eG ?_|refine HF.used ?_|refine HF.put (by first|(right;omega)|(left;simp only [List.mem_cons,true_or,or_true])) ?_)) au
   ·obtain rfl:=ak h;try refine ah ?_
    exact q0 _ _ _ rfl (by repeat (first|exact f0|refine Fr.upd (by decide) ?_|refine Fr.via yh (by decide) ?_)) (by repeat (first|exact hf0|refine HF.new ?_|refine HF.eG ?_|refine HF.used ?_|refine HF.put (by first|(right;omega)|(left;simp only [List.mem_cons,true_or,or_true])) ?_)) au
def uU (zw:Int) (zx:Int) (zy:Int) (zA:Int) (GQ:Int) (uV:Bool):Option Bool:=
  cond uV (some (true)) (Option.bind (gH GQ zy zA) fun p46=>some ((!p46)))
def Jg:List Nat:=List.range' 67 8
theorem Ta: ∀(rY:Nat) (zw:Int) (zx:Int) (zy:Int) (zA:Int) (GQ:Int) (uV:Bool) (aC σ:Nat->PV) (H:AH) (f0:Fr Jg aC σ) (sl:σ 6=(.ref (rY) 0)/\σ 10=(.int .i64 GQ)/\σ 66=(.bool uV)/\H.obj rY=some [(.int .i64 zw),(.int .i64 zx),(.int .i64 zy),(.int .i64 zA)]) (AZ:rY<H.next) (o:Bool) (h:uU zw zx zy zA GQ uV=some o) (Q:Post) (q0: ∀(p:Bool) (σ':Nat->PV),o=p->Fr Jg aC σ'->(σ' 74=(.bool p))->Q .normal σ' H),cO Tryz.prog RA (Q .normal) σ H:=by
  intro rY zw zx zy zA GQ uV aC σ H f0 sl AZ o h Q q0;obtain⟨s6,s10,s66,ajf⟩:=sl;have ajg:=ne_next AZ;have ajh:=aS AZ;unfold uU at h;refine dx ?_;unfold RA;rcases av h with⟨e44,h⟩|⟨e44,h⟩
  ·obtain rfl:=ak h;try refine ah ?_
   exact q0 _ _ rfl aN au
  ·obtain⟨p46,e45,h⟩:=aj h;try refine ah ?_
   refine aA (gM e45) ?_;obtain rfl:=ak h;try refine ah ?_
   exact q0 _ _ rfl aN au
def uW (bB:Int) (bP:Int) (bH:Str) (bS:List Str) (cu:List Int) (XD:Bool):Option Bool:=
  cond XD (some (true)) (cond (bB==2) (some (true)) (cond (bB==3) (some (true)) (some ((bB==18)))))
def Jh:List Nat:=List.range' 79 14
theorem Tc: ∀(cZ:Nat) (bB:Int) (bP:Int) (bH:Str) (bS:List Str) (cu:List Int) (XD:Bool) (aC σ:Nat->PV) (H:AH) (f0:Fr Jh aC σ) (sl:σ 5=(.ref (cZ) 0)/\σ 78=(.bool XD)/\H.obj cZ=some [(.int .i64 bB),(.int .i64 bP),(.str bH),(.aB (bS.map aX) .unk),(.aB (cu.map aY) .unk)]) (dn:cZ<H.next) (o:Bool) (h:uW bB bP bH bS cu XD=some o) (Q:Post) (q0: ∀(p:Bool) (σ':Nat->PV),o=p->Fr Jh aC σ'->(σ' 92=(.bool p))->Q .normal σ' H),cO Tryz.prog RB (Q .normal) σ H:=by
  intro cZ bB bP bH bS cu XD aC σ H f0 sl dn o h Q q0;obtain⟨s5,s78,yH⟩:=sl;have yI:=ne_next dn;have yJ:=aS dn;unfold uW at h;refine dx ?_;unfold RB;rcases av h with⟨e58,h⟩|⟨e58,h⟩
  ·obtain rfl:=ak h;try refine ah ?_
   exact q0 _ _ rfl aN au
  ·rcases av h with⟨e59,h⟩|⟨e59,h⟩
   ·obtain rfl:=ak h;try refine ah ?_
    exact q0 _ _ rfl aN au
   ·rcases av h with⟨e60,h⟩|⟨e60,h⟩
    ·obtain rfl:=ak h;try refine ah ?_
     exact q0 _ _ rfl aN au
    ·obtain rfl:=ak h;try refine ah ?_
     exact q0 _ _ rfl aN au
def uX (k:Nat) (bB:Int) (bP:Int) (bH:Str) (bS:List Str) (cu:List Int) (GR:Bool) (XE:Bool):Option Bool:=
  cond XE (some (true)) (cond GR (cond (bB !=0) (cond (bB !=23) (cond (bP !=0) (some (true)) (cond (bB==23) (Option.bind (gH bP 0 1) fun wS=>cond wS (cond (bB==1) (Option.bind (iB k bH) fun p84=>some ((!p84))) (some (false))) (some (true))) (cond (bB==1) (Option.bind (iB k bH) fun Ji=>some ((!Ji))) (some (false))))) (cond (bB==23) (Option.bind (gH bP 0 1) fun p90=>cond p90 (cond (bB==1) (Option.bind (iB k bH) fun GU=>some ((!GU))) (some (false))) (some (true))) (cond (bB==1) (Option.bind (iB k bH) fun p97=>some ((!p97))) (some (false))))) (cond (bB==23) (Option.bind (gH bP 0 1) fun XF=>cond XF (cond (bB==1) (Option.bind (iB k bH) fun XG=>some ((!XG))) (some (false))) (some (true))) (cond (bB==1) (Option.bind (iB k bH) fun Td=>some ((!Td))) (some (false))))) (cond (bH==[]) (cond (bB !=0) (cond (bB !=23) (cond (bP !=0) (some (true)) (cond (bB==23) (Option.bind (gH bP 0 1) fun XH=>cond XH (cond (bB==1) (Option.bind (iB k bH) fun Gi=>some ((!Gi))) (some (false))) (some (true))) (cond (bB==1) (Option.bind (iB k bH) fun al9=>some ((!al9))) (some (false))))) (cond (bB==23) (Option.bind (gH bP 0 1) fun ama=>cond ama (cond (bB==1) (Option.bind (iB k bH) fun amb=>some ((!amb))) (some (false))) (some (true))) (cond (bB==1) (Option.bind (iB k bH) fun amc=>some ((!amc))) (some (false))))) (cond (bB==23) (Option.bind (gH bP 0 1) fun amd=>cond amd (cond (bB==1) (Option.bind (iB k bH) fun Km=>some ((!Km))) (some (false))) (some (true))) (cond (bB==1) (Option.bind (iB k bH) fun ame=>some ((!ame))) (some (false))))) (some (true))))
def Jj:List Nat:=List.range' 98 45
theorem Te (k:Nat): ∀(cZ:Nat) (bB:Int) (bP:Int) (bH:Str) (bS:List Str) (cu:List Int) (GR:Bool) (XE:Bool) (aC σ:Nat->PV) (H:AH) (f0:Fr Jj aC σ) (sl:σ 5=(.ref (cZ) 0)/\σ 11=(.bool GR)/\σ 97=(.bool XE)/\H.obj cZ=some [(.int .i64 bB),(.int .i64 bP),(.str bH),(.aB (bS.map aX) .unk),(.aB (cu.map aY) .unk)]) (dn:cZ<H.next) (o:Bool) (h:uX k bB bP bH bS cu GR XE=some o) (Q:Post) (q0: ∀(p:Bool) (σ':Nat->PV),o=p->Fr Jj aC σ'->(σ' 142=(.bool p))->Q .normal σ' H),cO Tryz.prog RD (Q .normal) σ H:=by
  intro cZ bB bP bH bS cu GR XE aC σ H f0 sl dn o h Q q0;obtain⟨s5,s11,s97,yH⟩:=sl;have yI:=ne_next dn;have yJ:=aS dn;unfold uX at h;refine dx ?_;unfold RD;rcases av h with⟨Pq,h⟩|⟨Pq,h⟩
  ·obtain rfl:=ak h;try refine ah ?_
   exact q0 _ _ rfl aN au
  ·rcases av h with⟨e74,h⟩|⟨e74,h⟩
   ·rcases av h with⟨Kk,h⟩|⟨Kk,h⟩
    ·rcases av h with⟨MK,h⟩|⟨MK,h⟩
     ·rcases av h with⟨ML,h⟩|⟨ML,h⟩
      ·obtain rfl:=ak h;try refine ah ?_
       exact q0 _ _ rfl aN au
      ·rcases av h with⟨XI,h⟩|⟨XI,h⟩
       ·obtain⟨wS,e79,h⟩:=aj h;try refine ah ?_
        refine aA (gM e79) ?_;rcases av h with⟨XJ,h⟩|⟨XJ,h⟩
        ·rcases av h with⟨e82,h⟩|⟨e82,h⟩
         ·obtain⟨p84,e83,h⟩:=aj h;try refine ah ?_
          refine aA (lg e83) ?_;obtain rfl:=ak h;try refine ah ?_
          exact q0 _ _ rfl aN au
         ·obtain rfl:=ak h;try refine ah ?_
          exact q0 _ _ rfl aN au
        ·obtain rfl:=ak h;try refine ah ?_
         exact q0 _ _ rfl aN au
       ·rcases av h with⟨e85,h⟩|⟨e85,h⟩
        ·obtain⟨Ji,Pj,h⟩:=aj h;try refine ah ?_
         refine aA (lg Pj) ?_;obtain rfl:=ak h;try refine ah ?_
         exact q0 _ _ rfl aN au
        ·obtain rfl:=ak h;try refine ah ?_
         exact q0 _ _ rfl aN au
     ·rcases av h with⟨Pk,h⟩|⟨Pk,h⟩
      ·obtain⟨p90,Kl,h⟩:=aj h;try refine ah ?_
       refine aA (gM Kl) ?_;rcases av h with⟨Pn,h⟩|⟨Pn,h⟩
       ·rcases av h with⟨e92,h⟩|⟨e92,h⟩
        ·obtain⟨GU,Kn,h⟩:=aj h;try refine ah ?_
         refine aA (lg Kn) ?_;obtain rfl:=ak h;try refine ah ?_
         exact q0 _ _ rfl aN au
        ·obtain rfl:=ak h;try refine ah ?_
         exact q0 _ _ rfl aN au
       ·obtain rfl:=ak h;try refine ah ?_
        exact q0 _ _ rfl aN au
      ·rcases av h with⟨e95,h⟩|⟨e95,h⟩
       ·obtain⟨p97,UG,h⟩:=aj h;try refine ah ?_
        refine aA (lg UG) ?_;obtain rfl:=ak h;try refine ah ?_
        exact q0 _ _ rfl aN au
       ·obtain rfl:=ak h;try refine ah ?_
        exact q0 _ _ rfl aN au
    ·rcases av h with⟨e98,h⟩|⟨e98,h⟩
     ·obtain⟨XF,e99,h⟩:=aj h;try refine ah ?_
      refine aA (gM e99) ?_;rcases av h with⟨N9,h⟩|⟨N9,h⟩
      ·rcases av h with⟨XK,h⟩|⟨XK,h⟩
       ·obtain⟨XG,IC,h⟩:=aj h;try refine ah ?_
        refine aA (lg IC) ?_;obtain rfl:=ak h;try refine ah ?_
        exact q0 _ _ rfl aN au
       ·obtain rfl:=ak h;try refine ah ?_
        exact q0 _ _ rfl aN au
      ·obtain rfl:=ak h;try refine ah ?_
       exact q0 _ _ rfl aN au
     ·rcases av h with⟨Ko,h⟩|⟨Ko,h⟩
      ·obtain⟨Td,XL,h⟩:=aj h;try refine ah ?_
       refine aA (lg XL) ?_;obtain rfl:=ak h;try refine ah ?_
       exact q0 _ _ rfl aN au
      ·obtain rfl:=ak h;try refine ah ?_
       exact q0 _ _ rfl aN au
   ·rcases av h with⟨e108,h⟩|⟨e108,h⟩
    ·rcases av h with⟨e109,h⟩|⟨e109,h⟩
     ·rcases av h with⟨Kq,h⟩|⟨Kq,h⟩
      ·rcases av h with⟨Oa,h⟩|⟨Oa,h⟩
       ·obtain rfl:=ak h;try refine ah ?_
        exact q0 _ _ rfl aN au
       ·rcases av h with⟨asa,h⟩|⟨asa,h⟩
        ·obtain⟨XH,Ob,h⟩:=aj h;try refine ah ?_
         refine aA (gM Ob) ?_;rcases av h with⟨e115,h⟩|⟨e115,h⟩
         ·rcases av h with⟨e116,h⟩|⟨e116,h⟩
          ·obtain⟨Gi,e117,h⟩:=aj h;try refine ah ?_
           refine aA (lg e117) ?_;obtain rfl:=ak h;try refine ah ?_
           exact q0 _ _ rfl aN au
          ·obtain rfl:=ak h;try refine ah ?_
           exact q0 _ _ rfl aN au
         ·obtain rfl:=ak h;try refine ah ?_
          exact q0 _ _ rfl aN au
        ·rcases av h with⟨e119,h⟩|⟨e119,h⟩
         ·obtain⟨al9,e120,h⟩:=aj h;try refine ah ?_
          refine aA (lg e120) ?_;obtain rfl:=ak h;try refine ah ?_
          exact q0 _ _ rfl aN au
         ·obtain rfl:=ak h;try refine ah ?_
          exact q0 _ _ rfl aN au
      ·rcases av h with⟨XM,h⟩|⟨XM,h⟩
       ·obtain⟨ama,asb,h⟩:=aj h;try refine ah ?_
        refine aA (gM asb) ?_;rcases av h with⟨e125,h⟩|⟨e125,h⟩
        ·rcases av h with⟨e126,h⟩|⟨e126,h⟩
         ·obtain⟨amb,e127,h⟩:=aj h;try refine ah ?_
          refine aA (lg e127) ?_;obtain rfl:=ak h;try refine ah ?_
          exact q0 _ _ rfl aN au
         ·obtain rfl:=ak h;try refine ah ?_
          exact q0 _ _ rfl aN au
        ·obtain rfl:=ak h;try refine ah ?_
         exact q0 _ _ rfl aN au
       ·rcases av h with⟨e129,h⟩|⟨e129,h⟩
        ·obtain⟨amc,amg,h⟩:=aj h;try refine ah ?_
         refine aA (lg amg) ?_;obtain rfl:=ak h;try refine ah ?_
         exact q0 _ _ rfl aN au
        ·obtain rfl:=ak h;try refine ah ?_
         exact q0 _ _ rfl aN au
     ·rcases av h with⟨asc,h⟩|⟨asc,h⟩
      ·obtain⟨amd,afH,h⟩:=aj h;try refine ah ?_
       refine aA (gM afH) ?_;rcases av h with⟨ase,h⟩|⟨ase,h⟩
       ·rcases av h with⟨amh,h⟩|⟨amh,h⟩
        ·obtain⟨Km,e137,h⟩:=aj h;try refine ah ?_
         refine aA (lg e137) ?_;obtain rfl:=ak h;try refine ah ?_
         exact q0 _ _ rfl aN au
        ·obtain rfl:=ak h;try refine ah ?_
         exact q0 _ _ rfl aN au
       ·obtain rfl:=ak h;try refine ah ?_
        exact q0 _ _ rfl aN au
      ·rcases av h with⟨afI,h⟩|⟨afI,h⟩
       ·obtain⟨ame,XO,h⟩:=aj h;try refine ah ?_
        refine aA (lg XO) ?_;obtain rfl:=ak h;try refine ah ?_
        exact q0 _ _ rfl aN au
       ·obtain rfl:=ak h;try refine ah ?_
        exact q0 _ _ rfl aN au
    ·obtain rfl:=ak h;try refine ah ?_
     exact q0 _ _ rfl aN au
def uY (bB:Int) (bP:Int) (bH:Str) (bS:List Str) (cu:List Int) (Pt:Bool):Option Bool:=
  cond Pt (Option.bind (gH bP 0 10000) fun XP=>some ((!XP))) (some (false))
def Jk:List Nat:=[147,148,149,150,151]
theorem Tf: ∀(cZ:Nat) (bB:Int) (bP:Int) (bH:Str) (bS:List Str) (cu:List Int) (Pt:Bool) (aC σ:Nat->PV) (H:AH) (f0:Fr Jk aC σ) (sl:σ 5=(.ref (cZ) 0)/\σ 146=(.bool Pt)/\H.obj cZ=some [(.int .i64 bB),(.int .i64 bP),(.str bH),(.aB (bS.map aX) .unk),(.aB (cu.map aY) .unk)]) (dn:cZ<H.next) (o:Bool) (h:uY bB bP bH bS cu Pt=some o) (Q:Post) (q0: ∀(p:Bool) (σ':Nat->PV),o=p->Fr Jk aC σ'->(σ' 151=(.bool p))->Q .normal σ' H),cO Tryz.prog RF (Q .normal) σ H:=by
  intro cZ bB bP bH bS cu Pt aC σ H f0 sl dn o h Q q0;obtain⟨s5,awM,yH⟩:=sl;have yI:=ne_next dn;have yJ:=aS dn;unfold uY at h;refine dx ?_;unfold RF;rcases av h with⟨afJ,h⟩|⟨afJ,h⟩
  ·obtain⟨XP,e152,h⟩:=aj h;try refine ah ?_
   refine aA (gM e152) ?_;obtain rfl:=ak h;try refine ah ?_
   exact q0 _ _ rfl aN au
  ·obtain rfl:=ak h;try refine ah ?_
   exact q0 _ _ rfl aN au
def kT:Nat->Int->Int->Str->(List Str)->(List Int)->Int->Option (Unit⊕Int)
  |0,_,_,_,_,_,_=>none
  |k+1,bB,bP,bH,bS,cu,Gj=>
    cond (decide (Gj<(bS.length:Int))) (if 0<=Gj then Option.bind (bS[Gj.toNat]?) fun ami=>Option.bind (og k ami) fun XQ=>cond XQ (kT k bB bP bH bS cu (IntKind.wrap .i64 (Gj+1))) (some (.inr (7)))else none) (some (.inl ()))
def Cy:List Nat:=[4,12]++List.range' 152 14
theorem Tg: ∀(k:Nat) (cZ:Nat) (bB:Int) (bP:Int) (bH:Str) (bS:List Str) (cu:List Int) (Gj:Int) (aC σ:Nat->PV) (H:AH) (f0:Fr Cy aC σ) (sl:σ 5=(.ref (cZ) 0)/\σ 12=(.int .i64 Gj)/\H.obj cZ=some [(.int .i64 bB),(.int .i64 bP),(.str bH),(.aB (bS.map aX) .unk),(.aB (cu.map aY) .unk)]) (dn:cZ<H.next) (o:Unit⊕Int) (h:kT k bB bP bH bS cu Gj=some o) (Q:Post) (q0: ∀(p:Unit) (σ':Nat->PV),o= .inl p->Fr Cy aC σ'->Q (.exit 0) σ' H) (q1: ∀(p:Int) (σ':Nat->PV),o= .inr (p)->Fr Cy aC σ'->(σ' 4=(.int .i64 p))->Q .ret σ' H),W Tryz.prog (.loop RG) Q σ H:=by
  intro k
  induction k with
  |zero=>intro cZ bB bP bH bS cu Gj aC σ H f0 sl dn o h Q q0 q1;simp only [kT,reduceCtorEq]at h
  |succ k ih=>
    intro cZ bB bP bH bS cu Gj aC σ H f0 sl dn o h Q q0 q1;obtain⟨s5,s12,yH⟩:=sl;have yI:=ne_next dn;have yJ:=aS dn;unfold kT at h;refine aV (fun K hK=>aD ?_);unfold RG;rcases av h with⟨afK,h⟩|⟨afK,h⟩
    ·obtain⟨amj,h⟩:=aO h;obtain⟨ami,e166,h⟩:=aj h;obtain⟨XQ,e167,h⟩:=aj h;try refine ah ?_
     refine aA (rV e167) ?_;rcases av h with⟨e169,h⟩|⟨e169,h⟩
     ·try refine ah ?_
      refine hK _ _ ?_;exact ih cZ bB bP bH bS cu (IntKind.wrap .i64 (Gj+1)) _ _ _ aN au bO _ h _ q0 q1
     ·obtain rfl:=ak h;try refine ah ?_
      exact q1 _ _ rfl aN au
    ·obtain rfl:=ak h;try refine ah ?_
     exact q0 _ _ rfl aN
def zB (k:Nat) (bB:Int) (bP:Int) (bH:Str) (bS:List Str) (cu:List Int) (Pv:Bool):Option Bool:=
  cond Pv (Option.bind (rW k bH) fun amk=>some ((!amk))) (some (false))
def Jl:List Nat:=[197,198,199,200,201]
theorem Ti (k:Nat): ∀(cZ:Nat) (bB:Int) (bP:Int) (bH:Str) (bS:List Str) (cu:List Int) (Pv:Bool) (aC σ:Nat->PV) (H:AH) (f0:Fr Jl aC σ) (sl:σ 5=(.ref (cZ) 0)/\σ 196=(.bool Pv)/\H.obj cZ=some [(.int .i64 bB),(.int .i64 bP),(.str bH),(.aB (bS.map aX) .unk),(.aB (cu.map aY) .unk)]) (dn:cZ<H.next) (o:Bool) (h:zB k bB bP bH bS cu Pv=some o) (Q:Post) (q0: ∀(p:Bool) (σ':Nat->PV),o=p->Fr Jl aC σ'->(σ' 201=(.bool p))->Q .normal σ' H),cO Tryz.prog RH (Q .normal) σ H:=by
  intro cZ bB bP bH bS cu Pv aC σ H f0 sl dn o h Q q0;obtain⟨s5,awN,yH⟩:=sl;have yI:=ne_next dn;have yJ:=aS dn;unfold zB at h;refine dx ?_;unfold RH;rcases av h with⟨asf,h⟩|⟨asf,h⟩
  ·obtain⟨amk,asg,h⟩:=aj h;try refine ah ?_
   refine aA (zi asg) ?_;obtain rfl:=ak h;try refine ah ?_
   exact q0 _ _ rfl aN au
  ·obtain rfl:=ak h;try refine ah ?_
   exact q0 _ _ rfl aN au
def uZ (k:Nat) (bB:Int) (bP:Int) (bH:Str) (bS:List Str) (cu:List Int) (LP:Str) (LQ:Int) (LU:Int) (LV:Int) (LW:Bool) (GV:Int) (GX:Int) (FH:Bool):Option (Unit⊕Int):=
  cond (bB==2) (Option.bind (rW k bH) fun aml=>cond aml (some (.inl ())) (Option.bind (uR bH) fun amm=>cond amm (some (.inl ())) (some (.inr (7))))) (cond (bB==18) (Option.bind (og k bH) fun amn=>cond amn (some (.inl ())) (some (.inr (7)))) (cond (bB==3) (Option.bind (zB k bB bP bH bS cu (!FH)) (fun amo=>cond amo (some (.inr (7))) (cond FH (Option.bind (gH (cu.length:Int) GV GX) fun amq=>cond amq (some (.inl ())) (some (.inr (17)))) (some (.inl ()))))) (some (.inl ()))))
def Cz:List Nat:=[4]++List.range' 172 42
theorem Tj (k:Nat): ∀(cZ:Nat) (DT:Nat) (bB:Int) (bP:Int) (bH:Str) (bS:List Str) (cu:List Int) (LP:Str) (LQ:Int) (LU:Int) (LV:Int) (LW:Bool) (GV:Int) (GX:Int) (FH:Bool) (aC σ:Nat->PV) (H:AH) (f0:Fr Cz aC σ) (sl:σ 5=(.ref (cZ) 0)/\σ 13=(.ref (DT) 0)/\σ 14=(.bool FH)/\H.obj cZ=some [(.int .i64 bB),(.int .i64 bP),(.str bH),(.aB (bS.map aX) .unk),(.aB (cu.map aY) .unk)]/\H.obj DT=some [(.str LP),(.int .i64 LQ),(.int .i64 LU),(.int .i64 LV),(.bool LW),(.int .i64 GV),(.int .i64 GX)]) (dn:cZ<H.next) (Kr:DT<H.next) (zC:cZ≠DT) (o:Unit⊕Int) (h:uZ k bB bP bH bS cu LP LQ LU LV LW GV GX FH=some o) (Q:Post) (q0: ∀(p:Unit) (σ':Nat->PV),o= .inl p->Fr Cz aC σ'->Q .normal σ' H) (q1: ∀(p:Int) (σ':Nat->PV),o= .inr (p)->Fr Cz aC σ'->(σ' 4=(.int .i64 p))->Q .ret σ' H),W Tryz.prog RI Q σ H:=by
  intro cZ DT bB bP bH bS cu LP LQ LU LV LW GV GX FH aC σ H f0 sl dn Kr zC o h Q q0 q1;obtain⟨s5,s13,MN,yH,ap8⟩:=sl;have yI:=ne_next dn;have yJ:=aS dn;have ap9:=ne_next Kr;have aqa:=aS Kr;have ahR:=eq_false zC;have ahS:=eq_false (Ne.symm zC);unfold uZ at h;refine aD ?_;unfold RI;rcases av h with⟨ash,h⟩|⟨ash,h⟩
  ·obtain⟨aml,asi,h⟩:=aj h;try refine ah ?_
   refine aA (zi asi) ?_;rcases av h with⟨asj,h⟩|⟨asj,h⟩
   ·obtain rfl:=ak h;try refine ah ?_
    exact q0 _ _ rfl aN
   ·obtain⟨amm,asl,h⟩:=aj h;try refine ah ?_
    refine aA (Gc asl) ?_;rcases av h with⟨e185,h⟩|⟨e185,h⟩
    ·obtain rfl:=ak h;try refine ah ?_
     exact q0 _ _ rfl aN
    ·obtain rfl:=ak h;try refine ah ?_
     exact q1 _ _ rfl aN au
  ·rcases av h with⟨asn,h⟩|⟨asn,h⟩
   ·obtain⟨amn,e187,h⟩:=aj h;try refine ah ?_
    refine aA (rV e187) ?_;rcases av h with⟨e189,h⟩|⟨e189,h⟩
    ·obtain rfl:=ak h;try refine ah ?_
     exact q0 _ _ rfl aN
    ·obtain rfl:=ak h;try refine ah ?_
     exact q1 _ _ rfl aN au
   ·rcases av h with⟨e190,h⟩|⟨e190,h⟩
    ·try refine ah ?_
     obtain⟨awO,aso,h⟩:=aj h;refine Ti k (cZ) bB bP bH bS cu (!FH) _ _ _ (Fr.refl _ _) au bO _ aso _ ?_
     ·rintro amo σ' eo IE awP;rw [eo]at h;have awQ:σ' 5=(.ref (cZ) 0):=(IE 5 (by decide)).trans au;have awR:σ' 13=(.ref (DT) 0):=(IE 13 (by decide)).trans au;have awS:σ' 14=(.bool FH):=(IE 14 (by decide)).trans au;rcases av h with⟨e204,h⟩|⟨e204,h⟩
      ·obtain rfl:=ak h;try refine ah ?_
       exact q1 _ _ rfl (by repeat (first|exact f0|refine Fr.upd (by decide) ?_|refine Fr.via IE (by decide) ?_)) au
      ·rcases av h with⟨asq,h⟩|⟨asq,h⟩
       ·obtain⟨amq,e206,h⟩:=aj h;try refine ah ?_
        refine aA (gM e206) ?_;rcases av h with⟨e208,h⟩|⟨e208,h⟩
        ·obtain rfl:=ak h;try refine ah ?_
         exact q0 _ _ rfl (by repeat (first|exact f0|refine Fr.upd (by decide) ?_|refine Fr.via IE (by decide) ?_))
        ·obtain rfl:=ak h;try refine ah ?_
         exact q1 _ _ rfl (by repeat (first|exact f0|refine Fr.upd (by decide) ?_|refine Fr.via IE (by decide) ?_)) au
       ·obtain rfl:=ak h;try refine ah ?_
        exact q0 _ _ rfl (by repeat (first|exact f0|refine Fr.upd (by decide) ?_|refine Fr.via IE (by decide) ?_))
    ·obtain rfl:=ak h;try refine ah ?_
     exact q0 _ _ rfl aN
def jQ:Nat->Int->Int->Str->(List Str)->(List Int)->Int->Option (Unit⊕Int)
  |0,_,_,_,_,_,_=>none
  |k+1,bB,bP,bH,bS,cu,A8=>
    cond (decide (A8<(bS.length:Int))) (if 0<=A8/\A8.toNat<=bS.length then if 0<=A8 then Option.bind (bS[A8.toNat]?) fun amr=>Option.bind (pO k (bS.take A8.toNat) amr) fun ams=>cond ams (some (.inr (12))) (jQ k bB bP bH bS cu (IntKind.wrap .i64 (A8+1)))else none else none) (some (.inl ()))
def CB:List Nat:=[4,15]++List.range' 214 17
theorem Tk: ∀(k:Nat) (cZ:Nat) (bB:Int) (bP:Int) (bH:Str) (bS:List Str) (cu:List Int) (A8:Int) (aC σ:Nat->PV) (H:AH) (f0:Fr CB aC σ) (sl:σ 5=(.ref (cZ) 0)/\σ 15=(.int .i64 A8)/\H.obj cZ=some [(.int .i64 bB),(.int .i64 bP),(.str bH),(.aB (bS.map aX) .unk),(.aB (cu.map aY) .unk)]) (dn:cZ<H.next) (o:Unit⊕Int) (h:jQ k bB bP bH bS cu A8=some o) (Q:Post) (q0: ∀(p:Unit) (σ':Nat->PV),o= .inl p->Fr CB aC σ'->Q (.exit 3) σ' H) (q1: ∀(p:Int) (σ':Nat->PV),o= .inr (p)->Fr CB aC σ'->(σ' 4=(.int .i64 p))->Q .ret σ' H),W Tryz.prog (.loop RJ) Q σ H:=by
  intro k
  induction k with
  |zero=>intro cZ bB bP bH bS cu A8 aC σ H f0 sl dn o h Q q0 q1;simp only [jQ,reduceCtorEq]at h
  |succ k ih=>
    intro cZ bB bP bH bS cu A8 aC σ H f0 sl dn o h Q q0 q1;obtain⟨s5,s15,yH⟩:=sl;have yI:=ne_next dn;have yJ:=aS dn;unfold jQ at h;refine aV (fun K hK=>aD ?_);unfold RJ;rcases av h with⟨e216,h⟩|⟨e216,h⟩
    ·try refine ah ?_
     refine eF ?_;obtain⟨e217,h⟩:=aO h;obtain⟨awT,h⟩:=aO h;obtain⟨amr,e220,h⟩:=aj h;obtain⟨ams,e221,h⟩:=aj h;try refine ah ?_
     refine aA (y8 e221) ?_;rcases av h with⟨e223,h⟩|⟨e223,h⟩
     ·obtain rfl:=ak h;try refine ah ?_
      exact q1 _ _ rfl aN au
     ·try refine ah ?_
      refine hK _ _ ?_;exact ih cZ bB bP bH bS cu (IntKind.wrap .i64 (A8+1)) _ _ _ aN au bO _ h _ q0 q1
    ·obtain rfl:=ak h;try refine ah ?_
     exact q0 _ _ rfl aN
def BR (k:Nat) (aG:List Nd) (dz:Int):Option Int:=
  if 0<=dz then Option.bind (aG[dz.toNat]?) fun x2=>Option.bind (gH x2.kind 0 28) fun p5=>cond p5 (Option.bind (qP x2.kind) fun p8=>Option.bind (uT k x2.kind x2.n x2.text x2.names x2.args p8.1.1 p8.1.2.1 p8.1.2.2.1 p8.1.2.2.2) (fun xq=>Option.bind (Pb p8.2) fun p41=>Option.bind (gH (x2.names.length:Int) xq.1 xq.2.1) fun p43=>Option.bind (uU xq.1 xq.2.1 xq.2.2.1 xq.2.2.2 (IntKind.wrap .i64 ((x2.args.length:Int) -(IntKind.wrap .i64 ((x2.names.length:Int)*p41)))) (!p43)) (fun p49=>cond p49 (some 6) (Option.bind (uW x2.kind x2.n x2.text x2.names x2.args (x2.kind==1)) (fun p63=>Option.bind (AY k aG dz) fun p72=>Option.bind (uX k x2.kind x2.n x2.text x2.names x2.args p63 (!p72)) (fun Tn=>cond Tn (some 5) (Option.bind (uY x2.kind x2.n x2.text x2.names x2.args (x2.kind==0)) (fun Oc=>cond Oc (some 3) (Option.bind (kT k x2.kind x2.n x2.text x2.names x2.args 0) (fun o=>Sum.elim (fun abW=>Option.bind (qO k x2.text) fun u6=>Option.bind (uZ k x2.kind x2.n x2.text x2.names x2.args u6.1.text u6.1.fix u6.1.low u6.1.high u6.1.left u6.1.least u6.1.most u6.2) (fun o=>Sum.elim (fun asr=>Option.bind (jQ k x2.kind x2.n x2.text x2.names x2.args 1) (fun o=>Sum.elim (fun asu=>some 0) (fun amt=>some amt) o)) (fun amu=>some amu) o)) (fun amv=>some amv) o)))))))))) (some 4)else none
theorem Z5 {k:Nat} {aG:List Nd} {dz:Int} {c0:Ck} {r:Int} (h:BR k aG dz=some r):aF Tryz.prog 54 [(.aB (aG.map Nd.cells) c0),(.int .i64 dz)] (.int .i64 r):=by
  refine aF.lw (.aB (.same .nil)) (aF.aP (bg.mem (.cons (aU Nd.pu _) (.cons (.int _ _) .nil))) (aH arC (by simp) (aD ?_)) (.int _ _));unfold BR at h;unfold ale;obtain⟨e1,h⟩:=aO h;obtain⟨x2,e3,h⟩:=aj h;obtain⟨p5,e4,h⟩:=aj h;try refine ah ?_
  refine aA (gM e4) ?_;rcases av h with⟨e6,h⟩|⟨e6,h⟩
  ·obtain⟨p8,e7,h⟩:=aj h;try refine ah ?_
   refine aA (adF e7) ?_;try refine ah ?_
   obtain⟨o22,h23,h⟩:=aj h;refine S9 k (AH.empty.next) (AH.empty.next+1) x2.kind x2.n x2.text x2.names x2.args p8.1.1 p8.1.2.1 p8.1.2.2.1 p8.1.2.2.2 _ _ _ _ (Fr.refl _ _) (HF.refl _ _) au bO bO bO _ h23 _ ?_
   ·rintro xq σ' MO eo XR abX g28;rw [eo]at h;have s29:σ' 0=(.aB (aG.map Nd.cells) .unk):=(XR 0 (by decide)).trans au;have s30:σ' 1=(.int .i64 dz):=(XR 1 (by decide)).trans au;have s31:σ' 5=(.ref (AH.empty.next) 0):=(XR 5 (by decide)).trans au;have s32:σ' 6=(.ref (AH.empty.next+1) 0):=(XR 6 (by decide)).trans au;have s33:σ' 7=(.bool p8.2):=(XR 7 (by decide)).trans au;have le:=abX.1;try simp only [AH.aI,AH.aJ,AH.aL,AH.aM]at le
    have g34:MO.obj (AH.empty.next)=some [(.int .i64 x2.kind),(.int .i64 x2.n),(.str x2.text),(.aB (x2.names.map aX) .unk),(.aB (x2.args.map aY) .unk)]:=(abX.2 _ bO (by first|exact List.not_mem_nil|(simp only [List.mem_cons,List.not_mem_nil,or_false,not_or];omega))).trans au;have n35:=ne_next (show AH.empty.next<MO.next by first|omega|(simp only [AH.aI,AH.aJ,AH.aL,AH.aM];omega));have m36:=aS (show AH.empty.next<MO.next by first|omega|(simp only [AH.aI,AH.aJ,AH.aL,AH.aM];omega));have n38:=ne_next (show AH.empty.next+1<MO.next by first|omega|(simp only [AH.aI,AH.aJ,AH.aL,AH.aM];omega));have m39:=aS (show AH.empty.next+1<MO.next by first|omega|(simp only [AH.aI,AH.aJ,AH.aL,AH.aM];omega));try refine ah ?_
    refine eF ?_;obtain⟨p41,e40,h⟩:=aj h;try refine ah ?_
    refine PC.mk (aaK e40) ?_;obtain⟨p43,e42,h⟩:=aj h;try refine ah ?_
    refine aA (gM e42) ?_;try refine ah ?_
    obtain⟨o47,h48,h⟩:=aj h;refine Ta (AH.empty.next+1) xq.1 xq.2.1 xq.2.2.1 xq.2.2.2 (IntKind.wrap .i64 ((x2.args.length:Int) -(IntKind.wrap .i64 ((x2.names.length:Int)*p41)))) (!p43) _ _ _ (Fr.refl _ _) au bO _ h48 _ ?_
    ·rintro p49 σ' eo Kt s53;rw [eo]at h;have s54:σ' 0=(.aB (aG.map Nd.cells) .unk):=(Kt 0 (by decide)).trans au;have s55:σ' 1=(.int .i64 dz):=(Kt 1 (by decide)).trans au;have s56:σ' 5=(.ref (AH.empty.next) 0):=(Kt 5 (by decide)).trans au;rcases av h with⟨e57,h⟩|⟨e57,h⟩
     ·obtain rfl:=ak h;try refine ah ?_
      exact(.pure _ (.int _ _))
     ·try refine ah ?_
      obtain⟨o61,h62,h⟩:=aj h;refine Tc (AH.empty.next) x2.kind x2.n x2.text x2.names x2.args (x2.kind==1) _ _ _ (Fr.refl _ _) au bO _ h62 _ ?_
      ·rintro p63 σ' eo Gl s67;rw [eo]at h;have s68:σ' 0=(.aB (aG.map Nd.cells) .unk):=(Gl 0 (by decide)).trans au;have s69:σ' 1=(.int .i64 dz):=(Gl 1 (by decide)).trans au;have s70:σ' 5=(.ref (AH.empty.next) 0):=(Gl 5 (by decide)).trans au;obtain⟨p72,e71,h⟩:=aj h;try refine ah ?_
       refine aA (abV e71) ?_;try refine ah ?_
       obtain⟨awU,asv,h⟩:=aj h;refine Te k (AH.empty.next) x2.kind x2.n x2.text x2.names x2.args p63 (!p72) _ _ _ (Fr.refl _ _) au bO _ asv _ ?_
       ·rintro Tn σ' eo aph awV;rw [eo]at h;have awW:σ' 5=(.ref (AH.empty.next) 0):=(aph 5 (by decide)).trans au;rcases av h with⟨afL,h⟩|⟨afL,h⟩
        ·obtain rfl:=ak h;try refine ah ?_
         exact(.pure _ (.int _ _))
        ·try refine ah ?_
         obtain⟨awX,asw,h⟩:=aj h;refine Tf (AH.empty.next) x2.kind x2.n x2.text x2.names x2.args (x2.kind==0) _ _ _ (Fr.refl _ _) au bO _ asw _ ?_
         ·rintro Oc σ' eo apj awY;rw [eo]at h;have awZ:σ' 5=(.ref (AH.empty.next) 0):=(apj 5 (by decide)).trans au;rcases av h with⟨afM,h⟩|⟨afM,h⟩
          ·obtain rfl:=ak h;try refine ah ?_
           exact(.pure _ (.int _ _))
          ·try refine ah ?_
           obtain⟨aw0,asx,h⟩:=aj h;refine Tg k (AH.empty.next) x2.kind x2.n x2.text x2.names x2.args 0 _ _ _ (Fr.refl _ _) au bO _ asx _ ?_ ?_
           ·rintro abW σ' eo apk;subst eo;rw [bT]at h;have aw1:σ' 5=(.ref (AH.empty.next) 0):=(apk 5 (by decide)).trans au;obtain⟨u6,asy,h⟩:=aj h;try refine ah ?_
            refine aA (GL asy) ?_;try refine ah ?_
            obtain⟨aw2,asz,h⟩:=aj h;refine Tj k (AH.empty.next) (MO.next) x2.kind x2.n x2.text x2.names x2.args u6.1.text u6.1.fix u6.1.low u6.1.high u6.1.left u6.1.least u6.1.most u6.2 _ _ _ (Fr.refl _ _) au bO bO bO _ asz _ ?_ ?_
            ·rintro asr σ' eo apl;subst eo;rw [bT]at h;have aw3:σ' 5=(.ref (AH.empty.next) 0):=(apl 5 (by decide)).trans au;try refine ah ?_
             obtain⟨aw4,asA,h⟩:=aj h;refine Tk k (AH.empty.next) x2.kind x2.n x2.text x2.names x2.args 1 _ _ _ (Fr.refl _ _) au bO _ asA _ ?_ ?_
             ·rintro asu σ' eo av3;subst eo;rw [bT]at h;obtain rfl:=ak h;try refine ah ?_
              exact(.pure _ (.int _ _))
             ·rintro amt σ' eo av4 aw5;subst eo;rw [bZ]at h;obtain rfl:=ak h;try refine ah ?_
              exact(.pure _ (.int _ _))
            ·rintro amu σ' eo av5 aw6;subst eo;rw [bZ]at h;obtain rfl:=ak h;try refine ah ?_
             exact(.pure _ (.int _ _))
           ·rintro amv σ' eo av6 aw7;subst eo;rw [bZ]at h;obtain rfl:=ak h;try refine ah ?_
            exact(.pure _ (.int _ _))
  ·obtain rfl:=ak h;try refine ah ?_
   exact(.pure _ (.int _ _))
def jR:Nat->(List Nd)->Int->Int->Int->Option (Unit⊕(Int×Int))
  |0,_,_,_,_=>none
  |k+1,aG,dz,mY,Ku=>
    if 0<=mY then Option.bind (aG[mY.toNat]?) fun x3=>cond (decide (Ku<(x3.args.length:Int))) (if 0<=Ku then Option.bind (x3.args[Ku.toNat]?) fun x7=>cond (x7==dz) (some (.inr ((mY,Ku)))) (jR k aG dz mY (IntKind.wrap .i64 (Ku+1)))else none) (some (.inl ()))else none
def Ej:List Nat:=[4,5,7]++List.range' 16 22
theorem Vu: ∀(k:Nat) (aG:List Nd) (dz:Int) (mY:Int) (Ku:Int) (aC σ:Nat->PV) (H:AH) (f0:Fr Ej aC σ) (sl:σ 0=(.aB (aG.map Nd.cells) .unk)/\σ 1=(.int .i64 dz)/\σ 6=(.int .i64 mY)/\σ 7=(.int .i64 Ku)) (o:Unit⊕(Int×Int)) (h:jR k aG dz mY Ku=some o) (Q:Post) (q0: ∀(p:Unit) (σ':Nat->PV),o= .inl p->Fr Ej aC σ'->Q (.exit 2) σ' H) (q1: ∀(p:Int×Int) (σ':Nat->PV),o= .inr (p)->Fr Ej aC σ'->(σ' 4=(.int .i64 p.1)/\σ' 5=(.int .i64 p.2))->Q .ret σ' H),W Tryz.prog (.loop RL) Q σ H:=by
  intro k
  induction k with
  |zero=>intro aG dz mY Ku aC σ H f0 sl o h Q q0 q1;simp only [jR,reduceCtorEq]at h
  |succ k ih=>
    intro aG dz mY Ku aC σ H f0 sl o h Q q0 q1;obtain⟨s0,s1,s6,s7⟩:=sl;unfold jR at h;refine aV (fun K hK=>aD ?_);unfold RL;obtain⟨e2,h⟩:=aO h;obtain⟨x3,e4,h⟩:=aj h;rcases av h with⟨e5,h⟩|⟨e5,h⟩
    ·obtain⟨e6,h⟩:=aO h;obtain⟨x7,e8,h⟩:=aj h;rcases av h with⟨e9,h⟩|⟨e9,h⟩
     ·obtain rfl:=ak h;try refine ah ?_
      exact q1 _ _ rfl aN au
     ·try refine ah ?_
      refine hK _ _ ?_;exact ih aG dz mY (IntKind.wrap .i64 (Ku+1)) _ _ _ aN au _ h _ q0 q1
    ·obtain rfl:=ak h;try refine ah ?_
     exact q0 _ _ rfl aN
def jS:Nat->(List Nd)->Int->Int->Option (Unit⊕(Int×Int))
  |0,_,_,_=>none
  |k+1,aG,dz,mY=>
    cond (decide (mY<(aG.length:Int))) (Option.bind (jR k aG dz mY 0) (fun o=>Sum.elim (fun mE=>jS k aG dz (IntKind.wrap .i64 (mY+1))) (fun uz=>some (.inr ((uz.1,uz.2)))) o)) (some (.inl ()))
def El:List Nat:=[4,5,6,7]++List.range' 10 28
theorem Vv: ∀(k:Nat) (aG:List Nd) (dz:Int) (mY:Int) (aC σ:Nat->PV) (H:AH) (f0:Fr El aC σ) (sl:σ 0=(.aB (aG.map Nd.cells) .unk)/\σ 1=(.int .i64 dz)/\σ 6=(.int .i64 mY)) (o:Unit⊕(Int×Int)) (h:jS k aG dz mY=some o) (Q:Post) (q0: ∀(p:Unit) (σ':Nat->PV),o= .inl p->Fr El aC σ'->Q (.exit 0) σ' H) (q1: ∀(p:Int×Int) (σ':Nat->PV),o= .inr (p)->Fr El aC σ'->(σ' 4=(.int .i64 p.1)/\σ' 5=(.int .i64 p.2))->Q .ret σ' H),W Tryz.prog (.loop RN) Q σ H:=by
  intro k
  induction k with
  |zero=>intro aG dz mY aC σ H f0 sl o h Q q0 q1;simp only [jS,reduceCtorEq]at h
  |succ k ih=>
    intro aG dz mY aC σ H f0 sl o h Q q0 q1;obtain⟨s0,s1,s6⟩:=sl;unfold jS at h;refine aV (fun K hK=>aD ?_);unfold RN;rcases av h with⟨e1,h⟩|⟨e1,h⟩
    ·try refine ah ?_
     obtain⟨o10,h11,h⟩:=aj h;refine Vu k aG dz mY 0 _ _ _ (Fr.refl _ _) au _ h11 _ ?_ ?_
     ·rintro mE σ' eo Kh;subst eo;rw [bT]at h;have s16:σ' 0=(.aB (aG.map Nd.cells) .unk):=(Kh 0 (by decide)).trans au;have s17:σ' 1=(.int .i64 dz):=(Kh 1 (by decide)).trans au;have pQ:σ' 6=(.int .i64 mY):=(Kh 6 (by decide)).trans au;try refine ah ?_
      refine hK _ _ ?_;exact ih aG dz (IntKind.wrap .i64 (mY+1)) _ _ _ (by repeat (first|exact f0|refine Fr.upd (by decide) ?_|refine Fr.via Kh (by decide) ?_)) au _ h _ q0 q1
     ·rintro uz σ' eo afE ⟨Ph,s24⟩;subst eo;rw [bZ]at h;obtain rfl:=ak h;try refine ah ?_
      exact q1 _ _ rfl (by repeat (first|exact f0|refine Fr.upd (by decide) ?_|refine Fr.via afE (by decide) ?_)) au
    ·obtain rfl:=ak h;try refine ah ?_
     exact q0 _ _ rfl aN
def mP (k:Nat) (aG:List Nd) (dz:Int):Option (Int×Int):=
  Option.bind (jS k aG dz (IntKind.wrap .i64 (dz+1))) (fun o=>Sum.elim (fun p27=>some ((-1),0)) (fun p31=>some (p31.1,p31.2)) o)
theorem Da {k:Nat} {aG:List Nd} {dz:Int} {c0:Ck} {r:Int×Int} (h:mP k aG dz=some r):aF Tryz.prog 55 [(.aB (aG.map Nd.cells) c0),(.int .i64 dz)] (.dw [(.int .i64 r.1),(.int .i64 r.2)]):=by
  refine aF.lw (.aB (.same .nil)) (aF.aP (bg.mem (.cons (aU Nd.pu _) (.cons (.int _ _) .nil))) (aH afy (by simp) (aD ?_)) (.dw _ (bg.mem (.cons (.int _ _) (.cons (.int _ _) .nil)))));unfold mP at h;unfold alf;try refine ah ?_
  obtain⟨o25,h26,h⟩:=aj h;refine Vv k aG dz (IntKind.wrap .i64 (dz+1)) _ _ _ (Fr.refl _ _) au _ h26 _ ?_ ?_
  ·rintro p27 σ' eo aw8;subst eo;rw [bT]at h;obtain rfl:=ak h;try refine ah ?_
   exact(bR (.cons (.pure _ (.int _ _)) (.cons (.pure _ (.int _ _)) .nil)))
  ·rintro p31 σ' eo N8 ⟨s35,s36⟩;subst eo;rw [bZ]at h;obtain rfl:=ak h;try refine ah ?_
   exact(bR (.cons (.pure _ (.int _ _)) (.cons (.pure _ (.int _ _)) .nil)))
def nk:Nat->(List Nd)->Int->Option (Unit⊕(Int×Int))
  |0,_,_=>none
  |k+1,aG,jH=>
    cond (decide (jH<(aG.length:Int))) (Option.bind (BR k aG jH) fun p5=>cond (p5 !=0) (some (.inr ((jH,p5)))) (nk k aG (IntKind.wrap .i64 (jH+1)))) (some (.inl ()))
def Gm:List Nat:=[2,3,4,5]++List.range' 17 13
theorem XT: ∀(k:Nat) (aG:List Nd) (jH:Int) (aC σ:Nat->PV) (H:AH) (f0:Fr Gm aC σ) (sl:σ 0=(.aB (aG.map Nd.cells) .unk)/\σ 4=(.int .i64 jH)) (o:Unit⊕(Int×Int)) (h:nk k aG jH=some o) (Q:Post) (q0: ∀(p:Unit) (σ':Nat->PV),o= .inl p->Fr Gm aC σ'->Q (.exit 0) σ' H) (q1: ∀(p:Int×Int) (σ':Nat->PV),o= .inr (p)->Fr Gm aC σ'->(σ' 2=(.int .i64 p.1)/\σ' 3=(.int .i64 p.2))->Q .ret σ' H),W Tryz.prog (.loop Q6) Q σ H:=by
  intro k
  induction k with
  |zero=>intro aG jH aC σ H f0 sl o h Q q0 q1;simp only [nk,reduceCtorEq]at h
  |succ k ih=>
    intro aG jH aC σ H f0 sl o h Q q0 q1;obtain⟨s0,s4⟩:=sl;unfold nk at h;refine aV (fun K hK=>aD ?_);unfold Q6;rcases av h with⟨e3,h⟩|⟨e3,h⟩
    ·obtain⟨p5,e4,h⟩:=aj h;try refine ah ?_
     refine aA (Z5 e4) ?_;rcases av h with⟨e6,h⟩|⟨e6,h⟩
     ·obtain rfl:=ak h;try refine ah ?_
      exact q1 _ _ rfl aN au
     ·try refine ah ?_
      refine hK _ _ ?_;exact ih aG (IntKind.wrap .i64 (jH+1)) _ _ _ aN au _ h _ q0 q1
    ·obtain rfl:=ak h;try refine ah ?_
     exact q0 _ _ rfl aN
def zD (k:Nat) (aG:List Nd) (nu:Int) (XU:Bool):Option Bool:=
  cond XU (if 0<=nu then Option.bind (aG[nu.toNat]?) fun x19=>cond (x19.kind==3) (Option.bind (rW k x19.text) fun MP=>some (MP)) (some (false))else none) (some (false))
def MQ:List Nat:=List.range' 45 15
theorem XV (k:Nat): ∀(aG:List Nd) (nu:Int) (XU:Bool) (aC σ:Nat->PV) (H:AH) (f0:Fr MQ aC σ) (sl:σ 0=(.aB (aG.map Nd.cells) .unk)/\σ 7=(.int .i64 nu)/\σ 44=(.bool XU)) (o:Bool) (h:zD k aG nu XU=some o) (Q:Post) (q0: ∀(p:Bool) (σ':Nat->PV),o=p->Fr MQ aC σ'->(σ' 59=(.bool p))->Q .normal σ' H),cO Tryz.prog Q7 (Q .normal) σ H:=by
  intro aG nu XU aC σ H f0 sl o h Q q0;obtain⟨s0,s7,s44⟩:=sl;unfold zD at h;refine dx ?_;unfold Q7;rcases av h with⟨e17,h⟩|⟨e17,h⟩
  ·obtain⟨e18,h⟩:=aO h;obtain⟨x19,e20,h⟩:=aj h;rcases av h with⟨e21,h⟩|⟨e21,h⟩
   ·obtain⟨MP,e22,h⟩:=aj h;try refine ah ?_
    refine aA (zi e22) ?_;obtain rfl:=ak h;try refine ah ?_
    exact q0 _ _ rfl aN au
   ·obtain rfl:=ak h;try refine ah ?_
    exact q0 _ _ rfl aN au
  ·obtain rfl:=ak h;try refine ah ?_
   exact q0 _ _ rfl aN au
def Db (Em:Bool) (uV:Bool):Option Bool:=
  cond uV (some ((!Em))) (some (false))
theorem XW: ∀(Em:Bool) (uV:Bool) (aC σ:Nat->PV) (H:AH) (f0:Fr [67,68,69] aC σ) (sl:σ 9=(.bool Em)/\σ 66=(.bool uV)) (o:Bool) (h:Db Em uV=some o) (Q:Post) (q0: ∀(p:Bool) (σ':Nat->PV),o=p->Fr [67,68,69] aC σ'->(σ' 69=(.bool p))->Q .normal σ' H),cO Tryz.prog Q8 (Q .normal) σ H:=by
  intro Em uV aC σ H f0 sl o h Q q0;obtain⟨s9,s66⟩:=sl;unfold Db at h;refine dx ?_;unfold Q8;rcases av h with⟨e38,h⟩|⟨e38,h⟩
  ·obtain rfl:=ak h;try refine ah ?_
   exact q0 _ _ rfl aN au
  ·obtain rfl:=ak h;try refine ah ?_
   exact q0 _ _ rfl aN au
def Dc (aG:List Nd) (nu:Int) (nQ:Int) (XY:Bool):Option Bool:=
  cond XY (some (true)) (if 0<=nu then Option.bind (aG[nu.toNat]?) fun x54=>cond (x54.kind==19) (some ((nQ==2))) (some (false))else none)
def MR:List Nat:=List.range' 75 11
theorem XZ: ∀(aG:List Nd) (nu:Int) (nQ:Int) (XY:Bool) (aC σ:Nat->PV) (H:AH) (f0:Fr MR aC σ) (sl:σ 0=(.aB (aG.map Nd.cells) .unk)/\σ 7=(.int .i64 nu)/\σ 8=(.int .i64 nQ)/\σ 74=(.bool XY)) (o:Bool) (h:Dc aG nu nQ XY=some o) (Q:Post) (q0: ∀(p:Bool) (σ':Nat->PV),o=p->Fr MR aC σ'->(σ' 85=(.bool p))->Q .normal σ' H),cO Tryz.prog Q9 (Q .normal) σ H:=by
  intro aG nu nQ XY aC σ H f0 sl o h Q q0;obtain⟨s0,s7,s8,s74⟩:=sl;unfold Dc at h;refine dx ?_;unfold Q9;rcases av h with⟨e52,h⟩|⟨e52,h⟩
  ·obtain rfl:=ak h;try refine ah ?_
   exact q0 _ _ rfl aN au
  ·obtain⟨e53,h⟩:=aO h;obtain⟨x54,e55,h⟩:=aj h;rcases av h with⟨e56,h⟩|⟨e56,h⟩
   ·obtain rfl:=ak h;try refine ah ?_
    exact q0 _ _ rfl aN au
   ·obtain rfl:=ak h;try refine ah ?_
    exact q0 _ _ rfl aN au
def pR:Nat->(List Nd)->Int->Int->Bool->Option Bool
  |0,_,_,_,_=>none
  |k+1,aG,nu,nQ,BS=>
    cond (decide (nu>=0)) (Option.bind (Dc aG nu nQ BS) (fun p59=>Option.bind (mP k aG nu) fun p67=>pR k aG p67.1 p67.2 p59)) (some (BS))
def MS:List Nat:=[7,8,10]++List.range' 71 21
theorem X0: ∀(k:Nat) (aG:List Nd) (nu:Int) (nQ:Int) (BS:Bool) (aC σ:Nat->PV) (H:AH) (f0:Fr MS aC σ) (sl:σ 0=(.aB (aG.map Nd.cells) .unk)/\σ 7=(.int .i64 nu)/\σ 8=(.int .i64 nQ)/\σ 10=(.bool BS)) (o:Bool) (h:pR k aG nu nQ BS=some o) (Q:Post) (q0: ∀(p:Bool) (σ':Nat->PV),o=p->Fr MS aC σ'->(σ' 10=(.bool p))->Q (.exit 4) σ' H),W Tryz.prog (.loop Ra) Q σ H:=by
  intro k
  induction k with
  |zero=>intro aG nu nQ BS aC σ H f0 sl o h Q q0;simp only [pR,reduceCtorEq]at h
  |succ k ih=>
    intro aG nu nQ BS aC σ H f0 sl o h Q q0;obtain⟨s0,s7,s8,s10⟩:=sl;unfold pR at h;refine aV (fun K hK=>aD ?_);unfold Ra;rcases av h with⟨e51,h⟩|⟨e51,h⟩
    ·try refine ah ?_
     obtain⟨o57,h58,h⟩:=aj h;refine XZ aG nu nQ BS _ _ _ (Fr.refl _ _) au _ h58 _ ?_
     ·rintro p59 σ' eo afN s63;rw [eo]at h;have s64:σ' 0=(.aB (aG.map Nd.cells) .unk):=(afN 0 (by decide)).trans au;have s65:σ' 7=(.int .i64 nu):=(afN 7 (by decide)).trans au;obtain⟨p67,e66,h⟩:=aj h;try refine ah ?_
      refine aA (Da e66) ?_;try refine ah ?_
      refine hK _ _ ?_;exact ih aG p67.1 p67.2 p59 _ _ _ (by repeat (first|exact f0|refine Fr.upd (by decide) ?_|refine Fr.via afN (by decide) ?_)) au _ h _ q0
    ·obtain rfl:=ak h;try refine ah ?_
     exact q0 _ _ rfl aN au
def lU:Nat->(List Nd)->Int->Option (Unit⊕(Int×Int))
  |0,_,_=>none
  |k+1,aG,kD=>
    cond (decide (kD<(aG.length:Int))) (Option.bind (mP k aG kD) fun p16=>Option.bind (zD k aG p16.1 (decide (p16.1>=0))) (fun p26=>if 0<=kD then Option.bind (aG[kD.toNat]?) fun x36=>Option.bind (Db p26 (x36.kind==24)) (fun p41=>cond p41 (some (.inr ((kD,30)))) (Option.bind (pR k aG p16.1 p16.2 false) (fun p70=>cond (x36.kind==20) (cond p70 (lU k aG (IntKind.wrap .i64 (kD+1))) (some (.inr ((kD,30))))) (lU k aG (IntKind.wrap .i64 (kD+1))))))else none)) (some (.inl ()))
def Gn:List Nat:=[2,3,6,7,8,9,10]++List.range' 30 73
theorem X3: ∀(k:Nat) (aG:List Nd) (kD:Int) (aC σ:Nat->PV) (H:AH) (f0:Fr Gn aC σ) (sl:σ 0=(.aB (aG.map Nd.cells) .unk)/\σ 6=(.int .i64 kD)) (o:Unit⊕(Int×Int)) (h:lU k aG kD=some o) (Q:Post) (q0: ∀(p:Unit) (σ':Nat->PV),o= .inl p->Fr Gn aC σ'->Q (.exit 2) σ' H) (q1: ∀(p:Int×Int) (σ':Nat->PV),o= .inr (p)->Fr Gn aC σ'->(σ' 2=(.int .i64 p.1)/\σ' 3=(.int .i64 p.2))->Q .ret σ' H),W Tryz.prog (.loop Rb) Q σ H:=by
  intro k
  induction k with
  |zero=>intro aG kD aC σ H f0 sl o h Q q0 q1;simp only [lU,reduceCtorEq]at h
  |succ k ih=>
    intro aG kD aC σ H f0 sl o h Q q0 q1;obtain⟨s0,s6⟩:=sl;unfold lU at h;refine aV (fun K hK=>aD ?_);unfold Rb;rcases av h with⟨e14,h⟩|⟨e14,h⟩
    ·obtain⟨p16,e15,h⟩:=aj h;try refine ah ?_
     refine aA (Da e15) ?_;try refine ah ?_
     obtain⟨o24,h25,h⟩:=aj h;refine XV k aG p16.1 (decide (p16.1>=0)) _ _ _ (Fr.refl _ _) au _ h25 _ ?_
     ·rintro p26 σ' eo Kv s30;rw [eo]at h;have s31:σ' 0=(.aB (aG.map Nd.cells) .unk):=(Kv 0 (by decide)).trans au;have s32:σ' 6=(.int .i64 kD):=(Kv 6 (by decide)).trans au;have s33:σ' 7=(.int .i64 p16.1):=(Kv 7 (by decide)).trans au;have s34:σ' 8=(.int .i64 p16.2):=(Kv 8 (by decide)).trans au;obtain⟨e35,h⟩:=aO h;obtain⟨x36,e37,h⟩:=aj h;try refine ah ?_
      obtain⟨o39,h40,h⟩:=aj h;refine XW p26 (x36.kind==24) _ _ _ (Fr.refl _ _) au _ h40 _ ?_
      ·rintro p41 σ' eo CF s45;rw [eo]at h;have s46:σ' 0=(.aB (aG.map Nd.cells) .unk):=(CF 0 (by decide)).trans au;have s47:σ' 6=(.int .i64 kD):=(CF 6 (by decide)).trans au;have s48:σ' 7=(.int .i64 p16.1):=(CF 7 (by decide)).trans au;have s49:σ' 8=(.int .i64 p16.2):=(CF 8 (by decide)).trans au;rcases av h with⟨e50,h⟩|⟨e50,h⟩
       ·obtain rfl:=ak h;try refine ah ?_
        exact q1 _ _ rfl (by repeat (first|exact f0|refine Fr.upd (by decide) ?_|refine Fr.via Kv (by decide) ?_|refine Fr.via CF (by decide) ?_)) au
       ·try refine ah ?_
        obtain⟨o68,h69,h⟩:=aj h;refine X0 k aG p16.1 p16.2 false _ _ _ (Fr.refl _ _) au _ h69 _ ?_
        ·rintro p70 σ' eo X4 s74;rw [eo]at h;have s75:σ' 0=(.aB (aG.map Nd.cells) .unk):=(X4 0 (by decide)).trans au;have s76:σ' 6=(.int .i64 kD):=(X4 6 (by decide)).trans au;rcases av h with⟨ML,h⟩|⟨ML,h⟩
         ·rcases av h with⟨XI,h⟩|⟨XI,h⟩
          ·try refine ah ?_
           refine hK _ _ ?_;exact ih aG (IntKind.wrap .i64 (kD+1)) _ _ _ (by repeat (first|exact f0|refine Fr.upd (by decide) ?_|refine Fr.via Kv (by decide) ?_|refine Fr.via CF (by decide) ?_|refine Fr.via X4 (by decide) ?_)) au _ h _ q0 q1
          ·obtain rfl:=ak h;try refine ah ?_
           exact q1 _ _ rfl (by repeat (first|exact f0|refine Fr.upd (by decide) ?_|refine Fr.via Kv (by decide) ?_|refine Fr.via CF (by decide) ?_|refine Fr.via X4 (by decide) ?_)) au
         ·try refine ah ?_
          refine hK _ _ ?_;exact ih aG (IntKind.wrap .i64 (kD+1)) _ _ _ (by repeat (first|exact f0|refine Fr.upd (by decide) ?_|refine Fr.via Kv (by decide) ?_|refine Fr.via CF (by decide) ?_|refine Fr.via X4 (by decide) ?_)) au _ h _ q0 q1
    ·obtain rfl:=ak h;try refine ah ?_
     exact q0 _ _ rfl aN
def yK (k:Nat) (aG:List Nd):Option (Int×Int):=
  cond ((aG.length:Int)==0) (some (0,1)) (cond (decide ((aG.length:Int)>160)) (some (0,2)) (Option.bind (nk k aG 0) (fun o=>Sum.elim (fun p9=>Option.bind (lU k aG 0) (fun o=>Sum.elim (fun UH=>Option.bind (qR k aG (IntKind.wrap .i64 ((aG.length:Int) -1))) fun Ji=>cond (Ji !=0) (some ((IntKind.wrap .i64 ((aG.length:Int) -1)),15)) (some (0,0))) (fun Pw=>some (Pw.1,Pw.2)) o)) (fun Px=>some (Px.1,Px.2)) o)))
theorem adS {k:Nat} {aG:List Nd} {c0:Ck} {r:Int×Int} (h:yK k aG=some r):aF Tryz.prog 16 [(.aB (aG.map Nd.cells) c0)] (.dw [(.int .i64 r.1),(.int .i64 r.2)]):=by
  refine aF.lw (.aB .nil) (aF.aP (bg.mem (.cons (aU Nd.pu _) .nil)) (aH ok16 (by simp) (aD ?_)) (.dw _ (bg.mem (.cons (.int _ _) (.cons (.int _ _) .nil)))));unfold yK at h;unfold akF;rcases av h with⟨e1,h⟩|⟨e1,h⟩
  ·obtain rfl:=ak h;try refine ah ?_
   exact(bR (.cons (.pure _ (.int _ _)) (.cons (.pure _ (.int _ _)) .nil)))
  ·rcases av h with⟨e2,h⟩|⟨e2,h⟩
   ·obtain rfl:=ak h;try refine ah ?_
    exact(bR (.cons (.pure _ (.int _ _)) (.cons (.pure _ (.int _ _)) .nil)))
   ·try refine ah ?_
    obtain⟨o7,h8,h⟩:=aj h;refine XT k aG 0 _ _ _ (Fr.refl _ _) au _ h8 _ ?_ ?_
    ·rintro p9 σ' eo X5;subst eo;rw [bT]at h;have s13:σ' 0=(.aB (aG.map Nd.cells) .unk):=(X5 0 (by decide)).trans au;try refine ah ?_
     obtain⟨o79,h80,h⟩:=aj h;refine X3 k aG 0 _ _ _ (Fr.refl _ _) au _ h80 _ ?_ ?_
     ·rintro UH σ' eo Tp;subst eo;rw [bT]at h;have s85:σ' 0=(.aB (aG.map Nd.cells) .unk):=(Tp 0 (by decide)).trans au;obtain⟨Ji,Pj,h⟩:=aj h;try refine ah ?_
      refine aA (FE Pj) ?_;rcases av h with⟨Pk,h⟩|⟨Pk,h⟩
      ·obtain rfl:=ak h;try refine ah ?_
       exact(bR (.cons (.pure _ (.int _ _)) (.cons (.pure _ (.int _ _)) .nil)))
      ·obtain rfl:=ak h;try refine ah ?_
       exact(bR (.cons (.pure _ (.int _ _)) (.cons (.pure _ (.int _ _)) .nil)))
     ·rintro Pw σ' eo aw9 ⟨s93,s94⟩;subst eo;rw [bZ]at h;obtain rfl:=ak h;try refine ah ?_
      exact(bR (.cons (.pure _ (.int _ _)) (.cons (.pure _ (.int _ _)) .nil)))
    ·rintro Px σ' eo axa ⟨s99,afO⟩;subst eo;rw [bZ]at h;obtain rfl:=ak h;try refine ah ?_
     exact(bR (.cons (.pure _ (.int _ _)) (.cons (.pure _ (.int _ _)) .nil)))
def qG (k:Nat) (aG:List Nd):Option Int:=
  Option.bind (yK k aG) fun p2=>some p2.2
theorem Tq {k:Nat} {aG:List Nd} {c0:Ck} {r:Int} (h:qG k aG=some r):aF Tryz.prog 18 [(.aB (aG.map Nd.cells) c0)] (.int .i64 r):=by
  refine aF.lw (.aB .nil) (aF.aP (bg.mem (.cons (aU Nd.pu _) .nil)) (aH akJ (by simp) (aD ?_)) (.int _ _));unfold qG at h;unfold akI;obtain⟨p2,e1,h⟩:=aj h;try refine ah ?_
  refine aA (adS e1) ?_;obtain rfl:=ak h;try refine ah ?_
  exact(.pure _ (.int _ _))
def En (dD:Int) (u7:Bool):Option Bool:=
  cond u7 (some ((decide (dD<172)))) (some (false))
theorem abY: ∀(dD:Int) (u7:Bool) (aC σ:Nat->PV) (H:AH) (f0:Fr [10,11,12] aC σ) (sl:σ 3=(.int .i64 dD)/\σ 9=(.bool u7)) (o:Bool) (h:En dD u7=some o) (Q:Post) (q0: ∀(p:Bool) (σ':Nat->PV),o=p->Fr [10,11,12] aC σ'->(σ' 12=(.bool p))->Q .normal σ' H),cO Tryz.prog QW (Q .normal) σ H:=by
  intro dD u7 aC σ H f0 sl o h Q q0;obtain⟨s3,s9⟩:=sl;unfold En at h;refine dx ?_;unfold QW;rcases av h with⟨e1,h⟩|⟨e1,h⟩
  ·obtain rfl:=ak h;try refine ah ?_
   exact q0 _ _ rfl aN au
  ·obtain rfl:=ak h;try refine ah ?_
   exact q0 _ _ rfl aN au
def Eo (aG:List Nd) (dD:Int) (X6:Bool):Option Bool:=
  cond X6 (some (true)) (if 0<=dD then Option.bind (aG[dD.toNat]?) fun FI=>cond (decide ((FI.names.length:Int)>34)) (some (true)) (some ((decide ((FI.text.length:Int)>80))))else none)
def UJ:List Nat:=List.range' 23 17
theorem abZ: ∀(aG:List Nd) (dD:Int) (X6:Bool) (aC σ:Nat->PV) (H:AH) (f0:Fr UJ aC σ) (sl:σ 0=(.aB (aG.map Nd.cells) .unk)/\σ 3=(.int .i64 dD)/\σ 22=(.bool X6)) (o:Bool) (h:Eo aG dD X6=some o) (Q:Post) (q0: ∀(p:Bool) (σ':Nat->PV),o=p->Fr UJ aC σ'->(σ' 39=(.bool p))->Q .normal σ' H),cO Tryz.prog QX (Q .normal) σ H:=by
  intro aG dD X6 aC σ H f0 sl o h Q q0;obtain⟨s0,s3,Xw⟩:=sl;unfold Eo at h;refine dx ?_;unfold QX;rcases av h with⟨e15,h⟩|⟨e15,h⟩
  ·obtain rfl:=ak h;try refine ah ?_
   exact q0 _ _ rfl aN au
  ·obtain⟨e16,h⟩:=aO h;obtain⟨FI,e18,h⟩:=aj h;rcases av h with⟨e19,h⟩|⟨e19,h⟩
   ·obtain rfl:=ak h;try refine ah ?_
    exact q0 _ _ rfl aN au
   ·obtain rfl:=ak h;try refine ah ?_
    exact q0 _ _ rfl aN au
def rZ:Nat->(List Nd)->Int->Int->Option (Unit⊕Bool)
  |0,_,_,_=>none
  |k+1,aG,dD,MU=>
    if 0<=dD then Option.bind (aG[dD.toNat]?) fun x31=>cond (decide (MU<(x31.names.length:Int))) (if 0<=MU then Option.bind (x31.names[MU.toNat]?) fun x35=>cond (decide ((x35.length:Int)>80)) (some (.inr (false))) (rZ k aG dD (IntKind.wrap .i64 (MU+1)))else none) (some (.inl ()))else none
def Kw:List Nat:=[2,4]++List.range' 40 20
theorem ab0: ∀(k:Nat) (aG:List Nd) (dD:Int) (MU:Int) (aC σ:Nat->PV) (H:AH) (f0:Fr Kw aC σ) (sl:σ 0=(.aB (aG.map Nd.cells) .unk)/\σ 3=(.int .i64 dD)/\σ 4=(.int .i64 MU)) (o:Unit⊕Bool) (h:rZ k aG dD MU=some o) (Q:Post) (q0: ∀(p:Unit) (σ':Nat->PV),o= .inl p->Fr Kw aC σ'->Q (.exit 2) σ' H) (q1: ∀(p:Bool) (σ':Nat->PV),o= .inr (p)->Fr Kw aC σ'->(σ' 2=(.bool p))->Q .ret σ' H),W Tryz.prog (.loop QY) Q σ H:=by
  intro k
  induction k with
  |zero=>intro aG dD MU aC σ H f0 sl o h Q q0 q1;simp only [rZ,reduceCtorEq]at h
  |succ k ih=>
    intro aG dD MU aC σ H f0 sl o h Q q0 q1;obtain⟨s0,s3,s4⟩:=sl;unfold rZ at h;refine aV (fun K hK=>aD ?_);unfold QY;obtain⟨e30,h⟩:=aO h;obtain⟨x31,e32,h⟩:=aj h;rcases av h with⟨e33,h⟩|⟨e33,h⟩
    ·obtain⟨e34,h⟩:=aO h;obtain⟨x35,e36,h⟩:=aj h;rcases av h with⟨e37,h⟩|⟨e37,h⟩
     ·obtain rfl:=ak h;try refine ah ?_
      exact q1 _ _ rfl aN au
     ·try refine ah ?_
      refine hK _ _ ?_;exact ih aG dD (IntKind.wrap .i64 (MU+1)) _ _ _ aN au _ h _ q0 q1
    ·obtain rfl:=ak h;try refine ah ?_
     exact q0 _ _ rfl aN
def r9:Nat->(List Nd)->Int->Option (Unit⊕Bool)
  |0,_,_=>none
  |k+1,aG,dD=>
    Option.bind (En dD (decide (dD<(aG.length:Int)))) (fun p4=>cond p4 (if 0<=dD then Option.bind (aG[dD.toNat]?) fun X7=>Option.bind (Eo aG dD (decide ((X7.args.length:Int)>34))) (fun Je=>cond Je (some (.inr (false))) (Option.bind (rZ k aG dD 0) (fun o=>Sum.elim (fun p40=>r9 k aG (IntKind.wrap .i64 (dD+1))) (fun p46=>some (.inr (p46))) o)))else none) (some (.inl ())))
def Ky:List Nat:=List.range' 2 58
theorem ab1: ∀(k:Nat) (aG:List Nd) (dD:Int) (aC σ:Nat->PV) (H:AH) (f0:Fr Ky aC σ) (sl:σ 0=(.aB (aG.map Nd.cells) .unk)/\σ 3=(.int .i64 dD)) (o:Unit⊕Bool) (h:r9 k aG dD=some o) (Q:Post) (q0: ∀(p:Unit) (σ':Nat->PV),o= .inl p->Fr Ky aC σ'->Q (.exit 0) σ' H) (q1: ∀(p:Bool) (σ':Nat->PV),o= .inr (p)->Fr Ky aC σ'->(σ' 2=(.bool p))->Q .ret σ' H),W Tryz.prog (.loop QZ) Q σ H:=by
  intro k
  induction k with
  |zero=>intro aG dD aC σ H f0 sl o h Q q0 q1;simp only [r9,reduceCtorEq]at h
  |succ k ih=>
    intro aG dD aC σ H f0 sl o h Q q0 q1;obtain⟨s0,s3⟩:=sl;unfold r9 at h;refine aV (fun K hK=>aD ?_);unfold QZ;try refine ah ?_
    obtain⟨o2,h3,h⟩:=aj h;refine abY dD (decide (dD<(aG.length:Int))) _ _ _ (Fr.refl _ _) au _ h3 _ ?_
    ·rintro p4 σ' eo fr5 s8;rw [eo]at h;have s9:σ' 0=(.aB (aG.map Nd.cells) .unk):=(fr5 0 (by decide)).trans au;have s10:σ' 3=(.int .i64 dD):=(fr5 3 (by decide)).trans au;rcases av h with⟨e11,h⟩|⟨e11,h⟩
     ·obtain⟨e12,h⟩:=aO h;obtain⟨X7,e14,h⟩:=aj h;try refine ah ?_
      obtain⟨o20,h21,h⟩:=aj h;refine abZ aG dD (decide ((X7.args.length:Int)>34)) _ _ _ (Fr.refl _ _) au _ h21 _ ?_
      ·rintro Je σ' eo SV uS;rw [eo]at h;have wT:σ' 0=(.aB (aG.map Nd.cells) .unk):=(SV 0 (by decide)).trans au;have s28:σ' 3=(.int .i64 dD):=(SV 3 (by decide)).trans au;rcases av h with⟨e29,h⟩|⟨e29,h⟩
       ·obtain rfl:=ak h;try refine ah ?_
        exact q1 _ _ rfl (by repeat (first|exact f0|refine Fr.upd (by decide) ?_|refine Fr.via fr5 (by decide) ?_|refine Fr.via SV (by decide) ?_)) au
       ·try refine ah ?_
        obtain⟨o38,h39,h⟩:=aj h;refine ab0 k aG dD 0 _ _ _ (Fr.refl _ _) au _ h39 _ ?_ ?_
        ·rintro p40 σ' eo X8;subst eo;rw [bT]at h;have s44:σ' 0=(.aB (aG.map Nd.cells) .unk):=(X8 0 (by decide)).trans au;have s45:σ' 3=(.int .i64 dD):=(X8 3 (by decide)).trans au;try refine ah ?_
         refine hK _ _ ?_;exact ih aG (IntKind.wrap .i64 (dD+1)) _ _ _ (by repeat (first|exact f0|refine Fr.upd (by decide) ?_|refine Fr.via fr5 (by decide) ?_|refine Fr.via SV (by decide) ?_|refine Fr.via X8 (by decide) ?_)) au _ h _ q0 q1
        ·rintro p46 σ' eo asB s50;subst eo;rw [bZ]at h;obtain rfl:=ak h;try refine ah ?_
         exact q1 _ _ rfl (by repeat (first|exact f0|refine Fr.upd (by decide) ?_|refine Fr.via fr5 (by decide) ?_|refine Fr.via SV (by decide) ?_|refine Fr.via asB (by decide) ?_)) au
     ·obtain rfl:=ak h;try refine ah ?_
      exact q0 _ _ rfl (by repeat (first|exact f0|refine Fr.upd (by decide) ?_|refine Fr.via fr5 (by decide) ?_))
def LX (k:Nat) (aG:List Nd):Option Bool:=
  Option.bind (r9 k aG 0) (fun o=>Sum.elim (fun p53=>some (decide ((aG.length:Int)<=170))) (fun p58=>some p58) o)
theorem aaS {k:Nat} {aG:List Nd} {c0:Ck} {r:Bool} (h:LX k aG=some r):aF Tryz.prog 13 [(.aB (aG.map Nd.cells) c0)] (.bool r):=by
  refine aF.lw (.aB .nil) (aF.aP (bg.mem (.cons (aU Nd.pu _) .nil)) (aH arh (by simp) (aD ?_)) (.bool _));unfold LX at h;unfold akD;try refine ah ?_
  obtain⟨o51,h52,h⟩:=aj h;refine ab1 k aG 0 _ _ _ (Fr.refl _ _) au _ h52 _ ?_ ?_
  ·rintro p53 σ' eo IB;subst eo;rw [bT]at h;have s57:σ' 0=(.aB (aG.map Nd.cells) .unk):=(IB 0 (by decide)).trans au;obtain rfl:=ak h;try refine ah ?_
   exact(.pure _ (.bool _))
  ·rintro p58 σ' eo afP s62;subst eo;rw [bZ]at h;obtain rfl:=ak h;try refine ah ?_
   exact(.pure _ (.bool _))
def vg (pK:List Int):Option (List Int):=
  if(([]:List Int).length+pK.length)*8<=1099511627776 then some (([]:List Int)++pK)else none
theorem MW {pK:List Int} {c0:Ck} {r:List Int} (h:vg pK=some r):aF Tryz.prog 53 [(.aB (pK.map aY) c0)] (.aB (r.map aY) .unk):=by
  refine aF.lw (.aB .nil) (aF.aP (bg.mem (.cons (aU gG _) .nil)) (aH arB (by simp) (aD ?_)) (aU gG _));unfold vg at h;unfold ald;obtain⟨e5,h⟩:=aO h;try refine ah ?_
  refine ku (f:=aY) DN ([]:List Int) (pK:List Int) .exact .unk au au fE (by first|exact e5|(simp only [List.length_cons,List.length_nil];exact e5)) (fun c1 H2 ok3 le ob6 rl4=> ?_);have hf7:HF [] _ H2:=⟨le,fun i _ _=>ob6 i⟩;try simp only [AH.aI,AH.aJ,AH.aL,AH.aM]at le
  obtain rfl:=ak h;try refine ah ?_
  exact(dN gG _ _)
def iZ (pK:List Str):Option (List Str):=
  if(([]:List Str).length+pK.length)*16<=1099511627776 then some (([]:List Str)++pK)else none
theorem vk {pK:List Str} {c0:Ck} {r:List Str} (h:iZ pK=some r):aF Tryz.prog 52 [(.aB (pK.map aX) c0)] (.aB (r.map aX) .unk):=by
  refine aF.lw (.aB .nil) (aF.aP (bg.mem (.cons (aU bN _) .nil)) (aH afx (by simp) (aD ?_)) (aU bN _));unfold iZ at h;unfold afw;obtain⟨e5,h⟩:=aO h;try refine ah ?_
  refine ku (f:=aX) AU ([]:List Str) (pK:List Str) .exact .unk au au fE (by first|exact e5|(simp only [List.length_cons,List.length_nil];exact e5)) (fun c1 H2 ok3 le ob6 rl4=> ?_);have hf7:HF [] _ H2:=⟨le,fun i _ _=>ob6 i⟩;try simp only [AH.aI,AH.aJ,AH.aL,AH.aM]at le
  obtain rfl:=ak h;try refine ah ?_
  exact(dN bN _ _)
def l8:Nat->(List Nd)->(List Nd)->Int->Option (List Nd)
  |0,_,_,_=>none
  |k+1,aG,lG,jH=>
    cond (decide (jH<(aG.length:Int))) (if 0<=jH then Option.bind (aG[jH.toNat]?) fun x3=>Option.bind (iZ x3.names) fun p6=>Option.bind (vg x3.args) fun p8=>if(lG.length+1)*80<=1099511627776 then l8 k aG (lG++[(Nd.mk x3.kind x3.n x3.text p6 p8)]) (IntKind.wrap .i64 (jH+1))else none else none) (some (lG))
def Jm:List Nat:=List.range' 3 25
theorem Tt: ∀(k:Nat) (aG:List Nd) (lG:List Nd) (jH:Int) (wm:Ck) (aC σ:Nat->PV) (H0 H:AH) (f0:Fr Jm aC σ) (hf0:HF [] H0 H) (sl:σ 0=(.aB (aG.map Nd.cells) .unk)/\σ 3=(.aB (lG.map Nd.cells) wm)/\σ 4=(.int .i64 jH)) (X9:cB H wm) (o:List Nd) (h:l8 k aG lG jH=some o) (Q:Post) (q0: ∀(p:List Nd) (c0:Ck) (σ':Nat->PV) (H':AH),o=p->Fr Jm aC σ'->HF [] H0 H'->(σ' 3=(.aB (p.map Nd.cells) c0))->Q (.exit 0) σ' H'),W Tryz.prog (.loop yG) Q σ H:=by
  intro k
  induction k with
  |zero=>intro aG lG jH wm aC σ H0 H f0 hf0 sl X9 o h Q q0;simp only [l8,reduceCtorEq]at h
  |succ k ih=>
    intro aG lG jH wm aC σ H0 H f0 hf0 sl X9 o h Q q0;obtain⟨s0,s3,s4⟩:=sl;have hle0:=hf0.1;unfold l8 at h;refine aV (fun K hK=>aD ?_);unfold yG;rcases av h with⟨e1,h⟩|⟨e1,h⟩
    ·obtain⟨e2,h⟩:=aO h;obtain⟨x3,e4,h⟩:=aj h;try refine ah ?_
     refine eF ?_;obtain⟨p6,e5,h⟩:=aj h;try refine ah ?_
     refine PC.mk (vk e5) ?_;obtain⟨p8,e7,h⟩:=aj h;try refine ah ?_
     refine PC.mk (MW e7) ?_;obtain⟨e13,h⟩:=aO h;try refine ah ?_
     refine ku (f:=Nd.cells) Nd.row lG ([(Nd.mk x3.kind x3.n x3.text p6 p8)]:List Nd) wm .exact au au fE (by first|exact e13|(simp only [List.length_cons,List.length_nil];exact e13)) (fun c9 H10 axb le asC axc=> ?_);have asD:HF [] _ H10:=⟨le,fun i _ _=>asC i⟩;try simp only [AH.aI,AH.aJ,AH.aL,AH.aM]at le
     have n16:=ne_next (show H.next<H10.next by first|omega|(simp only [AH.aI,AH.aJ,AH.aL,AH.aM];omega));have m17:=aS (show H.next<H10.next by first|omega|(simp only [AH.aI,AH.aJ,AH.aL,AH.aM];omega));try refine ah ?_
     refine hK _ _ ?_;exact ih aG (lG++[(Nd.mk x3.kind x3.n x3.text p6 p8)]) (IntKind.wrap .i64 (jH+1)) c9 _ _ _ _ aN (by repeat (first|exact hf0|refine HF.new ?_|refine HF.eG ?_|refine HF.used ?_|refine HF.put (by first|(right;omega)|(left;simp only [List.mem_cons,true_or,or_true])) ?_|refine HF.via asD (by first|exact fun i hi=>absurd hi List.not_mem_nil|(intro i hi;simp only [List.mem_cons,List.not_mem_nil,or_false]at hi⊢;first|exact .inl hi|omega)) ?_)) au fE _ h _ q0
    ·obtain rfl:=ak h;try refine ah ?_
     exact q0 _ wm _ _ rfl aN (by repeat (first|exact hf0|refine HF.new ?_|refine HF.eG ?_|refine HF.used ?_|refine HF.put (by first|(right;omega)|(left;simp only [List.mem_cons,true_or,or_true])) ?_)) au
def vo (k:Nat) (aG:List Nd):Option (List Nd):=
  Option.bind (l8 k aG ([]:List Nd) 0) (fun lI=>some lI)
theorem Bv {k:Nat} {aG:List Nd} {c0:Ck} {r:List Nd} (h:vo k aG=some r):aF Tryz.prog 15 [(.aB (aG.map Nd.cells) c0)] (.aB (r.map Nd.cells) .unk):=by
  refine aF.lw (.aB .nil) (aF.aP (bg.mem (.cons (aU Nd.pu _) .nil)) (aH aft (by simp) (aD ?_)) (aU Nd.pu _));unfold vo at h;unfold Xk;try refine ah ?_
  obtain⟨o18,h19,h⟩:=aj h;refine Tt k aG ([]:List Nd) 0 .nil _ _ _ _ (Fr.refl _ _) (HF.refl _ _) au fE _ h19 _ ?_
  ·rintro lI c24 σ' H23 eo ab2 asE uD;rw [eo]at h;have le:=asE.1;try simp only [AH.aI,AH.aJ,AH.aL,AH.aM]at le
   obtain rfl:=ak h;try refine ah ?_
   exact(dN Nd.pu _ _)
def fP (bA:Int) (Py:Int) (ab3:Int):Option Bool:=
  cond (decide (Py<=bA)) (some (decide (bA<=ab3))) (some false)
theorem fQ {bA:Int} {Py:Int} {ab3:Int} {r:Bool} (h:fP bA Py ab3=some r):aF Tryz.prog 69 [(.int .i64 bA),(.int .i64 Py),(.int .i64 ab3)] (.bool r):=by
  refine aF.aP (bg.mem (.cons (.int _ _) (.cons (.int _ _) (.cons (.int _ _) .nil)))) (aH alu (by simp) (aD ?_)) (.bool _);unfold fP at h;unfold als;rcases av h with⟨e1,h⟩|⟨e1,h⟩
  ·obtain rfl:=ak h;try refine ah ?_
   exact(.pure _ (.bool _))
  ·obtain rfl:=ak h;try refine ah ?_
   exact(.pure _ (.bool _))
def kE (Iy:Bool) (Pz:Int):Option Int:=
  cond Iy (some Pz) (some 0)
theorem jI {Iy:Bool} {Pz:Int} {r:Int} (h:kE Iy Pz=some r):aF Tryz.prog 47 [(.bool Iy),(.int .i64 Pz)] (.int .i64 r):=by
  refine aF.aP (bg.mem (.cons (.bool _) (.cons (.int _ _) .nil))) (aH ak8 (by simp) (aD ?_)) (.int _ _);unfold kE at h;unfold ak7;rcases av h with⟨e1,h⟩|⟨e1,h⟩
  ·obtain rfl:=ak h;try refine ah ?_
   exact(.pure _ (.int _ _))
  ·obtain rfl:=ak h;try refine ah ?_
   exact(.pure _ (.int _ _))
def gX:Nat->(List Int)->Int->Int->Option (Unit⊕Int)
  |0,_,_,_=>none
  |k+1,oK,jJ,gL=>
    cond (decide (gL<jJ)) (if 0<=gL then Option.bind (oK[gL.toNat]?) fun x3=>cond (x3 !=0) (some (.inr (x3))) (gX k oK jJ (IntKind.wrap .i64 (gL+1)))else none) (some (.inl ()))
def vv:List Nat:=[2,5]++List.range' 8 9
theorem JL: ∀(k:Nat) (oK:List Int) (jJ:Int) (gL:Int) (aC σ:Nat->PV) (H:AH) (f0:Fr vv aC σ) (sl:σ 3=(.int .i64 0)/\σ 6=(.aB (oK.map aY) .unk)/\σ 7=(.int .i64 jJ)/\σ 8=(.int .i64 gL)) (o:Unit⊕Int) (h:gX k oK jJ gL=some o) (Q:Post) (q0: ∀(p:Unit) (σ':Nat->PV),o= .inl p->Fr vv aC σ'->Q (.exit 0) σ' H) (q1: ∀(p:Int) (σ':Nat->PV),o= .inr (p)->Fr vv aC σ'->(σ' 2=(.int .i64 p))->Q .ret σ' H),W Tryz.prog (.loop Rp) Q σ H:=by
  intro k
  induction k with
  |zero=>intro oK jJ gL aC σ H f0 sl o h Q q0 q1;simp only [gX,reduceCtorEq]at h
  |succ k ih=>
    intro oK jJ gL aC σ H f0 sl o h Q q0 q1;obtain⟨s3,s6,s7,s8⟩:=sl;unfold gX at h;refine aV (fun K hK=>aD ?_);unfold Rp;rcases av h with⟨e1,h⟩|⟨e1,h⟩
    ·obtain⟨e2,h⟩:=aO h;obtain⟨x3,e4,h⟩:=aj h;rcases av h with⟨e5,h⟩|⟨e5,h⟩
     ·obtain rfl:=ak h;try refine ah ?_
      exact q1 _ _ rfl aN au
     ·try refine ah ?_
      refine hK _ _ ?_;exact ih oK jJ (IntKind.wrap .i64 (gL+1)) _ _ _ aN au _ h _ q0 q1
    ·obtain rfl:=ak h;try refine ah ?_
     exact q0 _ _ rfl aN
def fG (k:Nat) (Ep:List Int):Option Int:=
  Option.bind (gX k Ep (Ep.length:Int) 0) (fun o=>Sum.elim (fun p8=>some 0) (fun qF=>some qF) o)
theorem jk {k:Nat} {Ep:List Int} {c0:Ck} {r:Int} (h:fG k Ep=some r):aF Tryz.prog 46 [(.aB (Ep.map aY) c0)] (.int .i64 r):=by
  refine aF.lw (.aB .nil) (aF.aP (bg.mem (.cons (aU gG _) .nil)) (aH arv (by simp) (aD ?_)) (.int _ _));unfold fG at h;unfold ak6;try refine ah ?_
  obtain⟨o6,h7,h⟩:=aj h;refine JL k Ep (Ep.length:Int) 0 _ _ _ (Fr.refl _ _) au _ h7 _ ?_ ?_
  ·rintro p8 σ' eo fr9;subst eo;rw [bT]at h;have s12:σ' 3=(.int .i64 0):=(fr9 3 (by decide)).trans au;obtain rfl:=ak h;try refine ah ?_
   exact(.pure _ (.int _ _))
  ·rintro qF σ' eo al7 s17;subst eo;rw [bZ]at h;obtain rfl:=ak h;try refine ah ?_
   exact(.pure _ (.int _ _))
def qU (o_0:Operator) (t_1:Str):Option Bool:=
  some (o_0.text==t_1)
theorem Od {o_0:Operator} {t_1:Str} {r:Bool} (h:qU o_0 t_1=some r):aF Tryz.prog 112 [(.agg (Operator.cells o_0)),(.d9 [(.str t_1)] 0)] (.bool r):=by
  refine aF.aP (bg.mem (.cons (.agg _ (Operator.pu _)) (.cons (.d9 _ _ (bg.mem (.cons (.str _) .nil))) .nil))) (aH aoO (by simp) (aD ?_)) (.bool _);unfold qU at h;unfold ahh;obtain rfl:=ak h;try refine ah ?_
  exact(.pure _ (.bool _))
def aW:Nat->(List Operator)->Str->Int->Int->Option (Unit⊕Int)
  |0,_,_,_,_=>none
  |k+1,s_0,uE,jJ,gL=>
    cond (decide (gL<jJ)) (if 0<=gL then Option.bind (s_0[gL.toNat]?) fun x3=>Option.bind (qU x3 uE) fun p6=>cond p6 (some (.inr (gL))) (aW k s_0 uE jJ (IntKind.wrap .i64 (gL+1)))else none) (some (.inl ()))
def fZ:List Nat:=[4,5]++List.range' 8 11
theorem oh: ∀(k:Nat) (s_0:List Operator) (uE:Str) (jJ:Int) (gL:Int) (aC σ:Nat->PV) (H:AH) (f0:Fr fZ aC σ) (sl:σ 0=(.aB (s_0.map Operator.cells) .unk)/\σ 1=(.fn (.func 112) [] [(.d9 [(.str uE)] 0)])/\σ 7=(.int .i64 jJ)/\σ 8=(.int .i64 gL)) (o:Unit⊕Int) (h:aW k s_0 uE jJ gL=some o) (Q:Post) (q0: ∀(p:Unit) (σ':Nat->PV),o= .inl p->Fr fZ aC σ'->Q (.exit 0) σ' H) (q1: ∀(p:Int) (σ':Nat->PV),o= .inr (p)->Fr fZ aC σ'->(σ' 4=(.int .i64 p))->Q .ret σ' H),W Tryz.prog (.loop NH) Q σ H:=by
  intro k
  induction k with
  |zero=>intro s_0 uE jJ gL aC σ H f0 sl o h Q q0 q1;simp only [aW,reduceCtorEq]at h
  |succ k ih=>
    intro s_0 uE jJ gL aC σ H f0 sl o h Q q0 q1;obtain⟨s0,s1,s7,s8⟩:=sl;unfold aW at h;refine aV (fun K hK=>aD ?_);unfold NH;rcases av h with⟨e1,h⟩|⟨e1,h⟩
    ·obtain⟨e2,h⟩:=aO h;obtain⟨x3,e4,h⟩:=aj h;obtain⟨p6,e5,h⟩:=aj h;try refine ah ?_
     refine aA (Od e5) ?_;rcases av h with⟨e7,h⟩|⟨e7,h⟩
     ·obtain rfl:=ak h;try refine ah ?_
      exact q1 _ _ rfl aN au
     ·try refine ah ?_
      refine hK _ _ ?_;exact ih s_0 uE jJ (IntKind.wrap .i64 (gL+1)) _ _ _ aN au _ h _ q0 q1
    ·obtain rfl:=ak h;try refine ah ?_
     exact q0 _ _ rfl aN
def eO (k:Nat) (s_0:List Operator) (uE:Str):Option Int:=
  Option.bind (aW k s_0 uE (s_0.length:Int) 0) (fun o=>Sum.elim (fun gT=>some (-1)) (fun kZ=>some kZ) o)
theorem pU {k:Nat} {s_0:List Operator} {uE:Str} {c0:Ck} {r:Int} (h:eO k s_0 uE=some r):aF Tryz.prog 111 [(.aB (s_0.map Operator.cells) c0),(.fn (.func 112) [] [(.d9 [(.str uE)] 0)])] (.int .i64 r):=by
  refine aF.lw (.aB (.same .nil)) (aF.aP (bg.mem (.cons (aU Operator.pu _) (.cons (.fn _ _ _ (bg.mem .nil) (bg.mem (.cons (.d9 _ _ (bg.mem (.cons (.str _) .nil))) .nil))) .nil))) (aH aoN (by simp) (aD ?_)) (.int _ _));unfold eO at h;unfold ahg;try refine ah ?_
  obtain⟨o8,h9,h⟩:=aj h;refine oh k s_0 uE (s_0.length:Int) 0 _ _ _ (Fr.refl _ _) au _ h9 _ ?_ ?_
  ·rintro gT σ' eo Iz;subst eo;rw [bT]at h;obtain rfl:=ak h;try refine ah ?_
   exact(.pure _ (.int _ _))
  ·rintro kZ σ' eo yh pQ;subst eo;rw [bZ]at h;obtain rfl:=ak h;try refine ah ?_
   exact(.pure _ (.int _ _))
def Df (wR:Int):Option Bool:=
  Option.bind (fP (IntKind.wrap .i64 wR) 32 126) fun p2=>cond p2 (cond (wR==34) (some true) (some (wR==92))) (some true)
theorem Ya {wR:Int} {r:Bool} (h:Df wR=some r):aF Tryz.prog 142 [(.int .i32 wR)] (.bool r):=by
  refine aF.aP (bg.mem (.cons (.int _ _) .nil)) (aH ao2 (by simp) (aD ?_)) (.bool _);unfold Df at h;unfold ahz;obtain⟨p2,e1,h⟩:=aj h;try refine ah ?_
  refine aA (fQ e1) ?_;rcases av h with⟨e3,h⟩|⟨e3,h⟩
  ·rcases av h with⟨e4,h⟩|⟨e4,h⟩
   ·obtain rfl:=ak h;try refine ah ?_
    exact(.pure _ (.bool _))
   ·obtain rfl:=ak h;try refine ah ?_
    exact(.pure _ (.bool _))
  ·obtain rfl:=ak h;try refine ah ?_
   exact(.pure _ (.bool _))
def dA:Nat->(List Str)->Str->Int->Int->Option (Unit⊕Int)
  |0,_,_,_,_=>none
  |k+1,s_0,v_1,jJ,gL=>
    cond (decide (gL<jJ)) (if 0<=gL then Option.bind (s_0[gL.toNat]?) fun x3=>cond (v_1==x3) (some (.inr (gL))) (dA k s_0 v_1 jJ (IntKind.wrap .i64 (gL+1)))else none) (some (.inl ()))
def ny:List Nat:=[4,5]++List.range' 8 11
theorem CG: ∀(k:Nat) (s_0:List Str) (v_1:Str) (jJ:Int) (gL:Int) (aC σ:Nat->PV) (H:AH) (f0:Fr ny aC σ) (sl:σ 0=(.aB (s_0.map aX) .unk)/\σ 1=(.str v_1)/\σ 7=(.int .i64 jJ)/\σ 8=(.int .i64 gL)) (o:Unit⊕Int) (h:dA k s_0 v_1 jJ gL=some o) (Q:Post) (q0: ∀(p:Unit) (σ':Nat->PV),o= .inl p->Fr ny aC σ'->Q (.exit 0) σ' H) (q1: ∀(p:Int) (σ':Nat->PV),o= .inr (p)->Fr ny aC σ'->(σ' 4=(.int .i64 p))->Q .ret σ' H),W Tryz.prog (.loop NR) Q σ H:=by
  intro k
  induction k with
  |zero=>intro s_0 v_1 jJ gL aC σ H f0 sl o h Q q0 q1;simp only [dA,reduceCtorEq]at h
  |succ k ih=>
    intro s_0 v_1 jJ gL aC σ H f0 sl o h Q q0 q1;obtain⟨s0,s1,s7,s8⟩:=sl;unfold dA at h;refine aV (fun K hK=>aD ?_);unfold NR;rcases av h with⟨e1,h⟩|⟨e1,h⟩
    ·obtain⟨e2,h⟩:=aO h;obtain⟨x3,e4,h⟩:=aj h;rcases av h with⟨e5,h⟩|⟨e5,h⟩
     ·obtain rfl:=ak h;try refine ah ?_
      exact q1 _ _ rfl aN au
     ·try refine ah ?_
      refine hK _ _ ?_;exact ih s_0 v_1 jJ (IntKind.wrap .i64 (gL+1)) _ _ _ aN au _ h _ q0 q1
    ·obtain rfl:=ak h;try refine ah ?_
     exact q0 _ _ rfl aN
def kF (k:Nat) (s_0:List Str) (v_1:Str):Option Int:=
  Option.bind (dA k s_0 v_1 (s_0.length:Int) 0) (fun o=>Sum.elim (fun p8=>some (-1)) (fun mE=>some mE) o)
theorem E8 {k:Nat} {s_0:List Str} {v_1:Str} {c0:Ck} {r:Int} (h:kF k s_0 v_1=some r):aF Tryz.prog 130 [(.aB (s_0.map aX) c0),(.str v_1)] (.int .i64 r):=by
  refine aF.lw (.aB (.same .nil)) (aF.aP (bg.mem (.cons (aU bN _) (.cons (.str _) .nil))) (aH ao0 (by simp) (aD ?_)) (.int _ _));unfold kF at h;unfold ahx;try refine ah ?_
  obtain⟨o6,h7,h⟩:=aj h;refine CG k s_0 v_1 (s_0.length:Int) 0 _ _ _ (Fr.refl _ _) au _ h7 _ ?_ ?_
  ·rintro p8 σ' eo fr9;subst eo;rw [bT]at h;obtain rfl:=ak h;try refine ah ?_
   exact(.pure _ (.int _ _))
  ·rintro mE σ' eo Kh s16;subst eo;rw [bZ]at h;obtain rfl:=ak h;try refine ah ?_
   exact(.pure _ (.int _ _))
def dB (k:Nat) (s_0:List Str) (v_1:Str):Option Bool:=
  Option.bind (kF k s_0 v_1) fun p2=>some (decide (p2>=0))
theorem iP {k:Nat} {s_0:List Str} {v_1:Str} {c0:Ck} {r:Bool} (h:dB k s_0 v_1=some r):aF Tryz.prog 81 [(.aB (s_0.map aX) c0),(.str v_1)] (.bool r):=by
  refine aF.lw (.aB (.same .nil)) (aF.aP (bg.mem (.cons (aU bN _) (.cons (.str _) .nil))) (aH arR (by simp) (aD ?_)) (.bool _));unfold dB at h;unfold alE;obtain⟨p2,e1,h⟩:=aj h;try refine ah ?_
  refine aA (E8 e1) ?_;obtain rfl:=ak h;try refine ah ?_
  exact(.pure _ (.bool _))
def uF (s_0:Str) (mQ:Str):Option Bool:=
  cond (decide ((s_0.length:Int)>=(mQ.length:Int))) (if mQ.length<=s_0.length then some ((s_0.take mQ.length)==mQ)else none) (some false)
theorem Mi {s_0:Str} {mQ:Str} {r:Bool} (h:uF s_0 mQ=some r):aF Tryz.prog 179 [(.str s_0),(.str mQ)] (.bool r):=by
  refine aF.aP (bg.mem (.cons (.str _) (.cons (.str _) .nil))) (aH apa (by simp) (aD ?_)) (.bool _);unfold uF at h;unfold ahH;rcases av h with⟨e1,h⟩|⟨e1,h⟩
  ·obtain⟨e2,h⟩:=aO h;obtain rfl:=ak h;try refine ah ?_
   exact(.pure _ (.bool _))
  ·obtain rfl:=ak h;try refine ah ?_
   exact(.pure _ (.bool _))
def kU (s_0:Str) (mQ:Str):Option Bool:=
  Option.bind (uF s_0 mQ) fun p2=>some p2
theorem CS {s_0:Str} {mQ:Str} {r:Bool} (h:kU s_0 mQ=some r):aF Tryz.prog 125 [(.str s_0),(.str mQ)] (.bool r):=by
  refine aF.aP (bg.mem (.cons (.str _) (.cons (.str _) .nil))) (aH aoW (by simp) (aD ?_)) (.bool _);unfold kU at h;unfold aht;obtain⟨p2,e1,h⟩:=aj h;try refine ah ?_
  refine aA (Mi e1) ?_;obtain rfl:=ak h;try refine ah ?_
  exact(.pure _ (.bool _))
def BU (s_0:Str):Option Bool:=
  cond (s_0==([84,82,85,69]:Str)) (some true) (cond (s_0==([70,65,76,83,69]:Str)) (some true) (cond (s_0==([66,79,79,76,69,65,78]:Str)) (some true) (some (s_0==([83,84,82,73,78,71]:Str)))))
theorem MX {s_0:Str} {r:Bool} (h:BU s_0=some r):aF Tryz.prog 129 [(.str s_0)] (.bool r):=by
  refine aF.aP (bg.mem (.cons (.str _) .nil)) (aH aoZ (by simp) (aD ?_)) (.bool _);unfold BU at h;unfold ahw;rcases av h with⟨e1,h⟩|⟨e1,h⟩
  ·obtain rfl:=ak h;try refine ah ?_
   exact(.pure _ (.bool _))
  ·rcases av h with⟨e2,h⟩|⟨e2,h⟩
   ·obtain rfl:=ak h;try refine ah ?_
    exact(.pure _ (.bool _))
   ·rcases av h with⟨e3,h⟩|⟨e3,h⟩
    ·obtain rfl:=ak h;try refine ah ?_
     exact(.pure _ (.bool _))
    ·obtain rfl:=ak h;try refine ah ?_
     exact(.pure _ (.bool _))
def LY (aG:List Nd) (dz:Int) (qA:List Int):Option Int:=
  if 0<=dz then Option.bind (aG[dz.toNat]?) fun x2=>cond ((x2.args.length:Int)==0) (some dz) (Option.bind (x2.args[0]?) fun x5=>if 0<=x5 then Option.bind (qA[x5.toNat]?) fun x8=>some x8 else none)else none
theorem adT {aG:List Nd} {dz:Int} {qA:List Int} {c0 c2:Ck} {r:Int} (h:LY aG dz qA=some r):aF Tryz.prog 49 [(.aB (aG.map Nd.cells) c0),(.int .i64 dz),(.aB (qA.map aY) c2)] (.int .i64 r):=by
  refine aF.lw (.aB (.same (.aB .nil))) (aF.aP (bg.mem (.cons (aU Nd.pu _) (.cons (.int _ _) (.cons (aU gG _) .nil)))) (aH arx (by simp) (aD ?_)) (.int _ _));unfold LY at h;unfold ala;obtain⟨e1,h⟩:=aO h;obtain⟨x2,e3,h⟩:=aj h;rcases av h with⟨e4,h⟩|⟨e4,h⟩
  ·obtain rfl:=ak h;try refine ah ?_
   exact(.pure _ (.int _ _))
  ·obtain⟨x5,e6,h⟩:=aj h;obtain⟨e7,h⟩:=aO h;obtain⟨x8,e9,h⟩:=aj h;obtain rfl:=ak h;try refine ah ?_
   exact(.pure _ (.int _ _))
def tO (GY:Int) (bE:Int):Option Shape:=
  some (Shape.mk (GY,GY) (bE,bE) false false)
theorem CJ {GY:Int} {bE:Int} {r:Shape} (h:tO GY bE=some r):aF Tryz.prog 140 [(.int .i64 GY),(.int .i64 bE)] (.agg (Shape.cells r)):=by
  refine aF.aP (bg.mem (.cons (.int _ _) (.cons (.int _ _) .nil))) (aH ao1 (by simp) (aD ?_)) (.agg _ (Shape.pu _));unfold tO at h;unfold ahy;obtain rfl:=ak h;try refine ah ?_
  exact(dG (.cons (.pure _ (.int _ _)) (.cons (.pure _ (.int _ _)) (.cons (.pure _ (.int _ _)) (.cons (.pure _ (.int _ _)) (.cons (.pure _ (.bool _)) (.cons (.pure _ (.bool _)) .nil)))))))
def l9:Nat->(List Int)->Int->Int->Int->Option (Unit⊕Int)
  |0,_,_,_,_=>none
  |k+1,s_0,v_1,jJ,gL=>
    cond (decide (gL<jJ)) (if 0<=gL then Option.bind (s_0[gL.toNat]?) fun x3=>cond (v_1==x3) (some (.inr (gL))) (l9 k s_0 v_1 jJ (IntKind.wrap .i64 (gL+1)))else none) (some (.inl ()))
def ug:List Nat:=[4,5]++List.range' 8 11
theorem IG: ∀(k:Nat) (s_0:List Int) (v_1:Int) (jJ:Int) (gL:Int) (aC σ:Nat->PV) (H:AH) (f0:Fr ug aC σ) (sl:σ 0=(.aB (s_0.map aY) .unk)/\σ 1=(.int .i64 v_1)/\σ 7=(.int .i64 jJ)/\σ 8=(.int .i64 gL)) (o:Unit⊕Int) (h:l9 k s_0 v_1 jJ gL=some o) (Q:Post) (q0: ∀(p:Unit) (σ':Nat->PV),o= .inl p->Fr ug aC σ'->Q (.exit 0) σ' H) (q1: ∀(p:Int) (σ':Nat->PV),o= .inr (p)->Fr ug aC σ'->(σ' 4=(.int .i64 p))->Q .ret σ' H),W Tryz.prog (.loop NZ) Q σ H:=by
  intro k
  induction k with
  |zero=>intro s_0 v_1 jJ gL aC σ H f0 sl o h Q q0 q1;simp only [l9,reduceCtorEq]at h
  |succ k ih=>
    intro s_0 v_1 jJ gL aC σ H f0 sl o h Q q0 q1;obtain⟨s0,s1,s7,s8⟩:=sl;unfold l9 at h;refine aV (fun K hK=>aD ?_);unfold NZ;rcases av h with⟨e1,h⟩|⟨e1,h⟩
    ·obtain⟨e2,h⟩:=aO h;obtain⟨x3,e4,h⟩:=aj h;rcases av h with⟨e5,h⟩|⟨e5,h⟩
     ·obtain rfl:=ak h;try refine ah ?_
      exact q1 _ _ rfl aN au
     ·try refine ah ?_
      refine hK _ _ ?_;exact ih s_0 v_1 jJ (IntKind.wrap .i64 (gL+1)) _ _ _ aN au _ h _ q0 q1
    ·obtain rfl:=ak h;try refine ah ?_
     exact q0 _ _ rfl aN
def zF (k:Nat) (s_0:List Int) (v_1:Int):Option Int:=
  Option.bind (l9 k s_0 v_1 (s_0.length:Int) 0) (fun o=>Sum.elim (fun p8=>some (-1)) (fun mE=>some mE) o)
theorem Mj {k:Nat} {s_0:List Int} {v_1:Int} {c0:Ck} {r:Int} (h:zF k s_0 v_1=some r):aF Tryz.prog 190 [(.aB (s_0.map aY) c0),(.int .i64 v_1)] (.int .i64 r):=by
  refine aF.lw (.aB (.same .nil)) (aF.aP (bg.mem (.cons (aU gG _) (.cons (.int _ _) .nil))) (aH apf (by simp) (aD ?_)) (.int _ _));unfold zF at h;unfold ahL;try refine ah ?_
  obtain⟨o6,h7,h⟩:=aj h;refine IG k s_0 v_1 (s_0.length:Int) 0 _ _ _ (Fr.refl _ _) au _ h7 _ ?_ ?_
  ·rintro p8 σ' eo fr9;subst eo;rw [bT]at h;obtain rfl:=ak h;try refine ah ?_
   exact(.pure _ (.int _ _))
  ·rintro mE σ' eo Kh s16;subst eo;rw [bZ]at h;obtain rfl:=ak h;try refine ah ?_
   exact(.pure _ (.int _ _))
def vw (k:Nat) (s_0:List Int) (v_1:Int):Option Bool:=
  Option.bind (zF k s_0 v_1) fun p2=>some (decide (p2>=0))
theorem II {k:Nat} {s_0:List Int} {v_1:Int} {c0:Ck} {r:Bool} (h:vw k s_0 v_1=some r):aF Tryz.prog 149 [(.aB (s_0.map aY) c0),(.int .i64 v_1)] (.bool r):=by
  refine aF.lw (.aB (.same .nil)) (aF.aP (bg.mem (.cons (aU gG _) (.cons (.int _ _) .nil))) (aH ao8 (by simp) (aD ?_)) (.bool _));unfold vw at h;unfold ahF;obtain⟨p2,e1,h⟩:=aj h;try refine ah ?_
  refine aA (Mj e1) ?_;obtain rfl:=ak h;try refine ah ?_
  exact(.pure _ (.bool _))
def Oe (k:Nat) (dY:Int):Option Bool:=
  Option.bind (vw k [8,9,10,11,12,21,22,23,24] dY) fun p2=>some p2
theorem ab4 {k:Nat} {dY:Int} {r:Bool} (h:Oe k dY=some r):aF Tryz.prog 98 [(.int .i64 dY)] (.bool r):=by
  refine aF.aP (bg.mem (.cons (.int _ _) .nil)) (aH ar3 (by simp) (aD ?_)) (.bool _);unfold Oe at h;unfold alT;obtain⟨p2,e1,h⟩:=aj h;try refine ah ?_
  refine aA (II e1) ?_;obtain rfl:=ak h;try refine ah ?_
  exact(.pure _ (.bool _))
def jc:Nat->(List Str)->(List Str)->Int->Option (Unit⊕Bool)
  |0,_,_,_=>none
  |k+1,a_0,b_1,fq=>
    cond (decide (fq<(a_0.length:Int))) (if 0<=fq then Option.bind (a_0[fq.toNat]?) fun x4=>Option.bind (b_1[fq.toNat]?) fun x6=>cond (x4==x6) (jc k a_0 b_1 (IntKind.wrap .i64 (fq+1))) (some (.inr (false)))else none) (some (.inl ()))
def yj:List Nat:=[4,5]++List.range' 11 15
theorem Ml: ∀(k:Nat) (a_0:List Str) (b_1:List Str) (fq:Int) (aC σ:Nat->PV) (H:AH) (f0:Fr yj aC σ) (sl:σ 0=(.aB (a_0.map aX) .unk)/\σ 1=(.aB (b_1.map aX) .unk)/\σ 5=(.int .i64 fq)) (o:Unit⊕Bool) (h:jc k a_0 b_1 fq=some o) (Q:Post) (q0: ∀(p:Unit) (σ':Nat->PV),o= .inl p->Fr yj aC σ'->Q (.exit 0) σ' H) (q1: ∀(p:Bool) (σ':Nat->PV),o= .inr (p)->Fr yj aC σ'->(σ' 4=(.bool p))->Q .ret σ' H),W Tryz.prog (.loop Ri) Q σ H:=by
  intro k
  induction k with
  |zero=>intro a_0 b_1 fq aC σ H f0 sl o h Q q0 q1;simp only [jc,reduceCtorEq]at h
  |succ k ih=>
    intro a_0 b_1 fq aC σ H f0 sl o h Q q0 q1;obtain⟨s0,s1,s5⟩:=sl;unfold jc at h;refine aV (fun K hK=>aD ?_);unfold Ri;rcases av h with⟨e2,h⟩|⟨e2,h⟩
    ·try refine ah ?_
     refine eF ?_;obtain⟨e3,h⟩:=aO h;obtain⟨x4,e5,h⟩:=aj h;obtain⟨x6,e7,h⟩:=aj h;rcases av h with⟨e8,h⟩|⟨e8,h⟩
     ·try refine ah ?_
      refine hK _ _ ?_;exact ih a_0 b_1 (IntKind.wrap .i64 (fq+1)) _ _ _ aN au _ h _ q0 q1
     ·obtain rfl:=ak h;try refine ah ?_
      exact q1 _ _ rfl aN au
    ·obtain rfl:=ak h;try refine ah ?_
     exact q0 _ _ rfl aN
def qV (k:Nat) (a_0:List Str) (b_1:List Str):Option Bool:=
  cond ((a_0.length:Int) !=(b_1.length:Int)) (some false) (Option.bind (jc k a_0 b_1 0) (fun o=>Sum.elim (fun rC=>some true) (fun GN=>some GN) o))
theorem GZ {k:Nat} {a_0:List Str} {b_1:List Str} {c0 c1:Ck} {r:Bool} (h:qV k a_0 b_1=some r):aF Tryz.prog 29 [(.aB (a_0.map aX) c0),(.aB (b_1.map aX) c1)] (.bool r):=by
  refine aF.lw (.aB (.aB .nil)) (aF.aP (bg.mem (.cons (aU bN _) (.cons (aU bN _) .nil))) (aH arn (by simp) (aD ?_)) (.bool _));unfold qV at h;unfold akS;rcases av h with⟨e1,h⟩|⟨e1,h⟩
  ·obtain rfl:=ak h;try refine ah ?_
   exact(.pure _ (.bool _))
  ·try refine ah ?_
   obtain⟨o9,h10,h⟩:=aj h;refine Ml k a_0 b_1 0 _ _ _ (Fr.refl _ _) au _ h10 _ ?_ ?_
   ·rintro rC σ' eo Ef;subst eo;rw [bT]at h;obtain rfl:=ak h;try refine ah ?_
    exact(.pure _ (.bool _))
   ·rintro GN σ' eo afF qE;subst eo;rw [bZ]at h;obtain rfl:=ak h;try refine ah ?_
    exact(.pure _ (.bool _))
def jv:Nat->(List Int)->(List Int)->Int->Option (Unit⊕Bool)
  |0,_,_,_=>none
  |k+1,a_0,b_1,fq=>
    cond (decide (fq<(a_0.length:Int))) (if 0<=fq then Option.bind (a_0[fq.toNat]?) fun x4=>Option.bind (b_1[fq.toNat]?) fun x6=>cond (x4 !=x6) (some (.inr (false))) (jv k a_0 b_1 (IntKind.wrap .i64 (fq+1)))else none) (some (.inl ()))
def zG:List Nat:=[4,5]++List.range' 11 15
theorem Og: ∀(k:Nat) (a_0:List Int) (b_1:List Int) (fq:Int) (aC σ:Nat->PV) (H:AH) (f0:Fr zG aC σ) (sl:σ 0=(.aB (a_0.map aY) .unk)/\σ 1=(.aB (b_1.map aY) .unk)/\σ 5=(.int .i64 fq)) (o:Unit⊕Bool) (h:jv k a_0 b_1 fq=some o) (Q:Post) (q0: ∀(p:Unit) (σ':Nat->PV),o= .inl p->Fr zG aC σ'->Q (.exit 0) σ' H) (q1: ∀(p:Bool) (σ':Nat->PV),o= .inr (p)->Fr zG aC σ'->(σ' 4=(.bool p))->Q .ret σ' H),W Tryz.prog (.loop NG) Q σ H:=by
  intro k
  induction k with
  |zero=>intro a_0 b_1 fq aC σ H f0 sl o h Q q0 q1;simp only [jv,reduceCtorEq]at h
  |succ k ih=>
    intro a_0 b_1 fq aC σ H f0 sl o h Q q0 q1;obtain⟨s0,s1,s5⟩:=sl;unfold jv at h;refine aV (fun K hK=>aD ?_);unfold NG;rcases av h with⟨e2,h⟩|⟨e2,h⟩
    ·try refine ah ?_
     refine eF ?_;obtain⟨e3,h⟩:=aO h;obtain⟨x4,e5,h⟩:=aj h;obtain⟨x6,e7,h⟩:=aj h;rcases av h with⟨e8,h⟩|⟨e8,h⟩
     ·obtain rfl:=ak h;try refine ah ?_
      exact q1 _ _ rfl aN au
     ·try refine ah ?_
      refine hK _ _ ?_;exact ih a_0 b_1 (IntKind.wrap .i64 (fq+1)) _ _ _ aN au _ h _ q0 q1
    ·obtain rfl:=ak h;try refine ah ?_
     exact q0 _ _ rfl aN
def xu (k:Nat) (a_0:List Int) (b_1:List Int):Option Bool:=
  cond ((a_0.length:Int) !=(b_1.length:Int)) (some false) (Option.bind (jv k a_0 b_1 0) (fun o=>Sum.elim (fun rC=>some true) (fun GN=>some GN) o))
theorem Vw {k:Nat} {a_0:List Int} {b_1:List Int} {c0 c1:Ck} {r:Bool} (h:xu k a_0 b_1=some r):aF Tryz.prog 110 [(.aB (a_0.map aY) c0),(.aB (b_1.map aY) c1)] (.bool r):=by
  refine aF.lw (.aB (.aB .nil)) (aF.aP (bg.mem (.cons (aU gG _) (.cons (aU gG _) .nil))) (aH ahf (by simp) (aD ?_)) (.bool _));unfold xu at h;unfold ahe;rcases av h with⟨e1,h⟩|⟨e1,h⟩
  ·obtain rfl:=ak h;try refine ah ?_
   exact(.pure _ (.bool _))
  ·try refine ah ?_
   obtain⟨o9,h10,h⟩:=aj h;refine Og k a_0 b_1 0 _ _ _ (Fr.refl _ _) au _ h10 _ ?_ ?_
   ·rintro rC σ' eo Ef;subst eo;rw [bT]at h;obtain rfl:=ak h;try refine ah ?_
    exact(.pure _ (.bool _))
   ·rintro GN σ' eo afF qE;subst eo;rw [bZ]at h;obtain rfl:=ak h;try refine ah ?_
    exact(.pure _ (.bool _))
def zH (k:Nat) (a_0:Nd) (b_1:Nd):Option Bool:=
  cond (a_0.kind==b_1.kind) (cond (a_0.n==b_1.n) (cond (a_0.text==b_1.text) (Option.bind (qV k a_0.names b_1.names) fun p5=>cond p5 (Option.bind (xu k a_0.args b_1.args) fun p8=>some p8) (some false)) (some false)) (some false)) (some false)
theorem Yb {k:Nat} {a_0:Nd} {b_1:Nd} {r:Bool} (h:zH k a_0 b_1=some r):aF Tryz.prog 61 [(.agg (Nd.cells a_0)),(.agg (Nd.cells b_1))] (.bool r):=by
  refine aF.aP (bg.mem (.cons (.agg _ (Nd.pu _)) (.cons (.agg _ (Nd.pu _)) .nil))) (aH arG (by simp) (aD ?_)) (.bool _);unfold zH at h;unfold alm;rcases av h with⟨e1,h⟩|⟨e1,h⟩
  ·rcases av h with⟨e2,h⟩|⟨e2,h⟩
   ·rcases av h with⟨e3,h⟩|⟨e3,h⟩
    ·obtain⟨p5,e4,h⟩:=aj h;try refine ah ?_
     refine aA (GZ e4) ?_;rcases av h with⟨e6,h⟩|⟨e6,h⟩
     ·obtain⟨p8,e7,h⟩:=aj h;try refine ah ?_
      refine aA (Vw e7) ?_;obtain rfl:=ak h;try refine ah ?_
      exact(.pure _ (.bool _))
     ·obtain rfl:=ak h;try refine ah ?_
      exact(.pure _ (.bool _))
    ·obtain rfl:=ak h;try refine ah ?_
     exact(.pure _ (.bool _))
   ·obtain rfl:=ak h;try refine ah ?_
    exact(.pure _ (.bool _))
  ·obtain rfl:=ak h;try refine ah ?_
   exact(.pure _ (.bool _))
def j5:Nat->(List Nd)->(List Nd)->Int->Option (Unit⊕Bool)
  |0,_,_,_=>none
  |k+1,a_0,b_1,fq=>
    cond (decide (fq<(a_0.length:Int))) (if 0<=fq then Option.bind (a_0[fq.toNat]?) fun x4=>Option.bind (b_1[fq.toNat]?) fun x6=>Option.bind (zH k x4 x6) fun p9=>cond p9 (j5 k a_0 b_1 (IntKind.wrap .i64 (fq+1))) (some (.inr (false)))else none) (some (.inl ()))
def A9:List Nat:=[4,5]++List.range' 11 16
theorem PD: ∀(k:Nat) (a_0:List Nd) (b_1:List Nd) (fq:Int) (aC σ:Nat->PV) (H:AH) (f0:Fr A9 aC σ) (sl:σ 0=(.aB (a_0.map Nd.cells) .unk)/\σ 1=(.aB (b_1.map Nd.cells) .unk)/\σ 5=(.int .i64 fq)) (o:Unit⊕Bool) (h:j5 k a_0 b_1 fq=some o) (Q:Post) (q0: ∀(p:Unit) (σ':Nat->PV),o= .inl p->Fr A9 aC σ'->Q (.exit 0) σ' H) (q1: ∀(p:Bool) (σ':Nat->PV),o= .inr (p)->Fr A9 aC σ'->(σ' 4=(.bool p))->Q .ret σ' H),W Tryz.prog (.loop Rf) Q σ H:=by
  intro k
  induction k with
  |zero=>intro a_0 b_1 fq aC σ H f0 sl o h Q q0 q1;simp only [j5,reduceCtorEq]at h
  |succ k ih=>
    intro a_0 b_1 fq aC σ H f0 sl o h Q q0 q1;obtain⟨s0,s1,s5⟩:=sl;unfold j5 at h;refine aV (fun K hK=>aD ?_);unfold Rf;rcases av h with⟨e2,h⟩|⟨e2,h⟩
    ·try refine ah ?_
     refine eF ?_;obtain⟨e3,h⟩:=aO h;obtain⟨x4,e5,h⟩:=aj h;obtain⟨x6,e7,h⟩:=aj h;obtain⟨p9,e8,h⟩:=aj h;try refine ah ?_
     refine aA (Yb e8) ?_;rcases av h with⟨e10,h⟩|⟨e10,h⟩
     ·try refine ah ?_
      refine hK _ _ ?_;exact ih a_0 b_1 (IntKind.wrap .i64 (fq+1)) _ _ _ aN au _ h _ q0 q1
     ·obtain rfl:=ak h;try refine ah ?_
      exact q1 _ _ rfl aN au
    ·obtain rfl:=ak h;try refine ah ?_
     exact q0 _ _ rfl aN
def wo (k:Nat) (a_0:List Nd) (b_1:List Nd):Option Bool:=
  cond ((a_0.length:Int) !=(b_1.length:Int)) (some false) (Option.bind (j5 k a_0 b_1 0) (fun o=>Sum.elim (fun qF=>some true) (fun Xz=>some Xz) o))
theorem Kz {k:Nat} {a_0:List Nd} {b_1:List Nd} {c0 c1:Ck} {r:Bool} (h:wo k a_0 b_1=some r):aF Tryz.prog 20 [(.aB (a_0.map Nd.cells) c0),(.aB (b_1.map Nd.cells) c1)] (.bool r):=by
  refine aF.lw (.aB (.aB .nil)) (aF.aP (bg.mem (.cons (aU Nd.pu _) (.cons (aU Nd.pu _) .nil))) (aH arj (by simp) (aD ?_)) (.bool _));unfold wo at h;unfold akK;rcases av h with⟨e1,h⟩|⟨e1,h⟩
  ·obtain rfl:=ak h;try refine ah ?_
   exact(.pure _ (.bool _))
  ·try refine ah ?_
   obtain⟨o11,h12,h⟩:=aj h;refine PD k a_0 b_1 0 _ _ _ (Fr.refl _ _) au _ h12 _ ?_ ?_
   ·rintro qF σ' eo al7;subst eo;rw [bT]at h;obtain rfl:=ak h;try refine ah ?_
    exact(.pure _ (.bool _))
   ·rintro Xz σ' eo ar9 s21;subst eo;rw [bZ]at h;obtain rfl:=ak h;try refine ah ?_
    exact(.pure _ (.bool _))
def G5 (aG:List Nd):Option Nd:=
  if 0<=(IntKind.wrap .i64 ((aG.length:Int) -1))then Option.bind (aG[(IntKind.wrap .i64 ((aG.length:Int) -1)).toNat]?) fun x2=>some x2 else none
theorem Yc {aG:List Nd} {c0:Ck} {r:Nd} (h:G5 aG=some r):aF Tryz.prog 21 [(.aB (aG.map Nd.cells) c0)] (.agg (Nd.cells r)):=by
  refine aF.lw (.aB .nil) (aF.aP (bg.mem (.cons (aU Nd.pu _) .nil)) (aH afu (by simp) (aD ?_)) (.agg _ (Nd.pu _)));unfold G5 at h;unfold akL;obtain⟨e1,h⟩:=aO h;obtain⟨x2,e3,h⟩:=aj h;obtain rfl:=ak h;try refine ah ?_
  exact(dG (.cons (.pure _ (.int _ _)) (.cons (.pure _ (.int _ _)) (.cons (.pure _ (.str _)) (.cons (dN bN _ _) (.cons (dN gG _ _) .nil))))))
def G6 (k:Nat) (bA:Nd):Option Bool:=
  cond (bA.kind==2) (Option.bind (uR bA.text) fun p3=>cond p3 (cond (bA.kind==3) (Option.bind (rW k bA.text) fun p7=>some p7) (some false)) (some true)) (cond (bA.kind==3) (Option.bind (rW k bA.text) fun gT=>some gT) (some false))
theorem adU {k:Nat} {bA:Nd} {r:Bool} (h:G6 k bA=some r):aF Tryz.prog 73 [(.agg (Nd.cells bA))] (.bool r):=by
  refine aF.aP (bg.mem (.cons (.agg _ (Nd.pu _)) .nil)) (aH arL (by simp) (aD ?_)) (.bool _);unfold G6 at h;unfold alx;rcases av h with⟨e1,h⟩|⟨e1,h⟩
  ·obtain⟨p3,e2,h⟩:=aj h;try refine ah ?_
   refine aA (Gc e2) ?_;rcases av h with⟨e4,h⟩|⟨e4,h⟩
   ·rcases av h with⟨e5,h⟩|⟨e5,h⟩
    ·obtain⟨p7,e6,h⟩:=aj h;try refine ah ?_
     refine aA (zi e6) ?_;obtain rfl:=ak h;try refine ah ?_
     exact(.pure _ (.bool _))
    ·obtain rfl:=ak h;try refine ah ?_
     exact(.pure _ (.bool _))
   ·obtain rfl:=ak h;try refine ah ?_
    exact(.pure _ (.bool _))
  ·rcases av h with⟨e8,h⟩|⟨e8,h⟩
   ·obtain⟨gT,e9,h⟩:=aj h;try refine ah ?_
    refine aA (zi e9) ?_;obtain rfl:=ak h;try refine ah ?_
    exact(.pure _ (.bool _))
   ·obtain rfl:=ak h;try refine ah ?_
    exact(.pure _ (.bool _))
def IJ (oK:Int):Option Bool:=
  cond (oK==6) (some ((oK==6))) (cond (oK==12) (some ((oK==12))) (cond (oK==7) (some ((oK==7))) (cond (oK==8) (some ((oK==8))) (cond (oK==9) (some ((oK==9))) (cond (oK==13) (some ((oK==13))) (cond (oK==10) (some ((oK==10))) (cond (oK==11) (some ((oK==11))) (some ((oK==24))))))))))
def MZ:List Nat:=List.range' 7 10
theorem Yd: ∀(oK:Int) (aC σ:Nat->PV) (H:AH) (f0:Fr MZ aC σ) (sl:σ 6=(.int .i64 oK)) (o:Bool) (h:IJ oK=some o) (Q:Post) (q0: ∀(p:Bool) (σ':Nat->PV),o=p->Fr MZ aC σ'->(σ' 7=(.bool p))->Q .normal σ' H),W Tryz.prog RZ Q σ H:=by
  intro oK aC σ H f0 sl o h Q q0;have s6:=sl;unfold IJ at h;refine aD ?_;unfold RZ;rcases av h with⟨e1,h⟩|⟨e1,h⟩
  ·obtain rfl:=ak h;try refine ah ?_
   exact q0 _ _ rfl aN au
  ·rcases av h with⟨e2,h⟩|⟨e2,h⟩
   ·obtain rfl:=ak h;try refine ah ?_
    exact q0 _ _ rfl aN au
   ·rcases av h with⟨e3,h⟩|⟨e3,h⟩
    ·obtain rfl:=ak h;try refine ah ?_
     exact q0 _ _ rfl aN au
    ·rcases av h with⟨e4,h⟩|⟨e4,h⟩
     ·obtain rfl:=ak h;try refine ah ?_
      exact q0 _ _ rfl aN au
     ·rcases av h with⟨e5,h⟩|⟨e5,h⟩
      ·obtain rfl:=ak h;try refine ah ?_
       exact q0 _ _ rfl aN au
      ·rcases av h with⟨e6,h⟩|⟨e6,h⟩
       ·obtain rfl:=ak h;try refine ah ?_
        exact q0 _ _ rfl aN au
       ·rcases av h with⟨e7,h⟩|⟨e7,h⟩
        ·obtain rfl:=ak h;try refine ah ?_
         exact q0 _ _ rfl aN au
        ·rcases av h with⟨e8,h⟩|⟨e8,h⟩
         ·obtain rfl:=ak h;try refine ah ?_
          exact q0 _ _ rfl aN au
         ·obtain rfl:=ak h;try refine ah ?_
          exact q0 _ _ rfl aN au
def wu (bA:Nd) (nR:Int):Option (List Str):=
  Option.bind (IJ bA.kind) (fun rC=>cond rC (cond (nR==(IntKind.wrap .i64 ((bA.args.length:Int) -1))) (some bA.names) (some [])) (cond (bA.kind==23) (cond (nR==1) (if 1<=bA.names.length then some (bA.names.take 1)else none) (cond (bA.n==1) (some bA.names) (if 1<=bA.names.length then some (bA.names.drop 1)else none))) (some [])))
theorem adV {bA:Nd} {nR:Int} {r:List Str} (h:wu bA nR=some r):aF Tryz.prog 74 [(.agg (Nd.cells bA)),(.int .i64 nR)] (.aB (r.map aX) .unk):=by
  refine aF.aP (bg.mem (.cons (.agg _ (Nd.pu _)) (.cons (.int _ _) .nil))) (aH arM (by simp) (aD ?_)) (aU bN _);unfold wu at h;unfold aly;try refine ah ?_
  obtain⟨o9,h10,h⟩:=aj h;refine Yd bA.kind _ _ _ (Fr.refl _ _) au _ h10 _ ?_
  ·rintro rC σ' eo Ef s15;rw [eo]at h;have s16:σ' 1=(.int .i64 nR):=(Ef 1 (by decide)).trans au;have s17:σ' 2=(.ref (AH.empty.next) 0):=(Ef 2 (by decide)).trans au;have pQ:σ' 6=(.int .i64 bA.kind):=(Ef 6 (by decide)).trans au;rcases av h with⟨e19,h⟩|⟨e19,h⟩
   ·rcases av h with⟨e20,h⟩|⟨e20,h⟩
    ·obtain rfl:=ak h;try refine ah ?_
     exact(dN bN _ _)
    ·obtain rfl:=ak h;try refine ah ?_
     exact(dN bN [] _)
   ·rcases av h with⟨e21,h⟩|⟨e21,h⟩
    ·rcases av h with⟨e22,h⟩|⟨e22,h⟩
     ·obtain⟨e23,h⟩:=aO h;obtain rfl:=ak h;try refine ah ?_
      exact(dN bN _ _)
     ·rcases av h with⟨e24,h⟩|⟨e24,h⟩
      ·obtain rfl:=ak h;try refine ah ?_
       exact(dN bN _ _)
      ·obtain⟨e25,h⟩:=aO h;obtain rfl:=ak h;try refine ah ?_
       exact(dN bN _ _)
    ·obtain rfl:=ak h;try refine ah ?_
     exact(dN bN [] _)
def nA (kK:Int):Option Bool:=
  cond (kK==6) (some ((kK==6))) (cond (kK==12) (some ((kK==12))) (cond (kK==7) (some ((kK==7))) (cond (kK==8) (some ((kK==8))) (cond (kK==9) (some ((kK==9))) (cond (kK==13) (some ((kK==13))) (cond (kK==10) (some ((kK==10))) (cond (kK==11) (some ((kK==11))) (some ((kK==24))))))))))
def M0:List Nat:=List.range' 14 10
theorem Ye: ∀(kK:Int) (aC σ:Nat->PV) (H:AH) (f0:Fr M0 aC σ) (sl:σ 13=(.int .i64 kK)) (o:Bool) (h:nA kK=some o) (Q:Post) (q0: ∀(p:Bool) (σ':Nat->PV),o=p->Fr M0 aC σ'->(σ' 14=(.bool p))->Q .normal σ' H),W Tryz.prog NQ Q σ H:=by
  intro kK aC σ H f0 sl o h Q q0;have s13:=sl;unfold nA at h;refine aD ?_;unfold NQ;rcases av h with⟨e1,h⟩|⟨e1,h⟩
  ·obtain rfl:=ak h;try refine ah ?_
   exact q0 _ _ rfl aN au
  ·rcases av h with⟨e2,h⟩|⟨e2,h⟩
   ·obtain rfl:=ak h;try refine ah ?_
    exact q0 _ _ rfl aN au
   ·rcases av h with⟨e3,h⟩|⟨e3,h⟩
    ·obtain rfl:=ak h;try refine ah ?_
     exact q0 _ _ rfl aN au
    ·rcases av h with⟨e4,h⟩|⟨e4,h⟩
     ·obtain rfl:=ak h;try refine ah ?_
      exact q0 _ _ rfl aN au
     ·rcases av h with⟨e5,h⟩|⟨e5,h⟩
      ·obtain rfl:=ak h;try refine ah ?_
       exact q0 _ _ rfl aN au
      ·rcases av h with⟨e6,h⟩|⟨e6,h⟩
       ·obtain rfl:=ak h;try refine ah ?_
        exact q0 _ _ rfl aN au
       ·rcases av h with⟨e7,h⟩|⟨e7,h⟩
        ·obtain rfl:=ak h;try refine ah ?_
         exact q0 _ _ rfl aN au
        ·rcases av h with⟨e8,h⟩|⟨e8,h⟩
         ·obtain rfl:=ak h;try refine ah ?_
          exact q0 _ _ rfl aN au
         ·obtain rfl:=ak h;try refine ah ?_
          exact q0 _ _ rfl aN au
def mG (bA:Nd) (nR:Int):Option (List Str):=
  Option.bind (nA bA.kind) (fun rC=>cond rC (cond (nR==(IntKind.wrap .i64 ((bA.args.length:Int) -1))) (some bA.names) (some [])) (cond (bA.kind==23) (cond (nR==(IntKind.wrap .i64 ((bA.args.length:Int) -1))) (if 1<=bA.names.length then some (bA.names.take 1)else none) (cond (bA.n==1) (some bA.names) (if 1<=bA.names.length then some (bA.names.drop 1)else none))) (some [])))
theorem adW {bA:Nd} {nR:Int} {r:List Str} (h:mG bA nR=some r):aF Tryz.prog 121 [(.agg (Nd.cells bA)),(.int .i64 nR)] (.aB (r.map aX) .unk):=by
  refine aF.aP (bg.mem (.cons (.agg _ (Nd.pu _)) (.cons (.int _ _) .nil))) (aH aoS (by simp) (aD ?_)) (aU bN _);unfold mG at h;unfold ahp;try refine ah ?_
  obtain⟨o9,h10,h⟩:=aj h;refine Ye bA.kind _ _ _ (Fr.refl _ _) au _ h10 _ ?_
  ·rintro rC σ' eo Ef s15;rw [eo]at h;have s16:σ' 2=(.ref (AH.empty.next) 0):=(Ef 2 (by decide)).trans au;have s17:σ' 5=(.bool (nR==(IntKind.wrap .i64 ((bA.args.length:Int) -1)))):=(Ef 5 (by decide)).trans au;have pQ:σ' 13=(.int .i64 bA.kind):=(Ef 13 (by decide)).trans au;rcases av h with⟨e19,h⟩|⟨e19,h⟩
   ·rcases av h with⟨e20,h⟩|⟨e20,h⟩
    ·obtain rfl:=ak h;try refine ah ?_
     exact(dN bN _ _)
    ·obtain rfl:=ak h;try refine ah ?_
     exact(dN bN [] _)
   ·rcases av h with⟨e21,h⟩|⟨e21,h⟩
    ·rcases av h with⟨e22,h⟩|⟨e22,h⟩
     ·obtain⟨e23,h⟩:=aO h;obtain rfl:=ak h;try refine ah ?_
      exact(dN bN _ _)
     ·rcases av h with⟨e24,h⟩|⟨e24,h⟩
      ·obtain rfl:=ak h;try refine ah ?_
       exact(dN bN _ _)
      ·obtain⟨e25,h⟩:=aO h;obtain rfl:=ak h;try refine ah ?_
       exact(dN bN _ _)
    ·obtain rfl:=ak h;try refine ah ?_
     exact(dN bN [] _)
end Go.VL
end
section
namespace Go.VL
theorem down {p:Nat->Prop} {len:Nat} (h0:p len) (h1: ∀i,i<len->p (i+1)->p i): ∀i,i<=len->p i:=by
  intro i hi;obtain⟨n,rfl⟩: ∃n,len=i+n:=⟨len -i,by omega⟩
  induction n generalizing i with
  |zero=>exact h0
  |succ n ih=>exact h1 i (by omega) (ih (i+1) (by rw [Nat.add_right_comm];exact h0) (by rw [Nat.add_right_comm];exact h1) (by omega))
theorem mH {p:Nat->Prop} {len:Nat} (h0:p len) (h1: ∀i,i<len->p (i+1)->p i):p 0:=down h0 h1 0 (Nat.zero_le _)
theorem fK {i n:Nat} (hi:i<n) (hn:n<=1099511627776):IntKind.wrap .i64 ((i:Int)+1)=((i+1:Nat):Int):=by rw [wrap64 (by omega) (by omega)];omega
theorem mZ {i n:Nat} (h:i<n):decide ((i:Int)<(n:Int))=true:=decide_eq_true (by omega)
theorem kV (n:Nat):decide ((n:Int)<(n:Int))=false:=decide_eq_false (by omega)
theorem nn (i:Nat):(0:Int)<=(i:Int):=by omega
theorem Yf (b:Bool):Pb b=some (if b=true then 1 else 0):=by cases b<;>rfl
theorem jT (n lo hi:Int):gH n lo hi=some (decide (lo<=n/\n<=hi)):=by
  unfold gH;by_cases h:lo<=n
  · simp [h,ge_iff_le]
  · simp [h,ge_iff_le]
theorem lV (n lo hi:Int):fP n lo hi=some (decide (lo<=n/\n<=hi)):=by
  unfold fP;by_cases h:lo<=n
  · simp [h]
  · simp [h]
theorem nC (b:Bool) (c:Int):kE b c=some (if b=true then c else 0):=by cases b<;>rfl
theorem IK {α:Type} {l:List α} {i:Nat} (h:i<l.length) {s:α}:s∈l.drop i↔l[i]=s\/s∈l.drop (i+1):=by
  rw [List.drop_eq_getElem_cons h,List.mem_cons];exact or_congr_left eq_comm
theorem tu (l:List Str) (s:Str) (hl:l.length<=1099511627776):Ev (fun k=>pO k l s) (decide (s∈l)):=by
  have key:Ev (fun k=>j4 k l s ((0:Nat):Int)) (if s∈l.drop 0 then .inr true else .inl ()):=by
    refine mH (len:=l.length) (p:=fun i=>Ev (fun k=>j4 k l s (i:Int)) (if s∈l.drop i then .inr true else .inl ())) ?_ fun i hi ih=> ?_
    · refine Ev.succ ?_;simp only [j4];refine Ev.cF (kV _) (Ev.some' ?_);simp
    · refine Ev.succ ?_;simp only [j4,Int.toNat_natCast,bM hi,Option.bind_some,nn,if_true,mZ hi,cond_true,fK hi hl];by_cases h:l[i]=s
      · refine Ev.cT (by rw [beq_iff_eq];exact h) (Ev.some' ?_);rw [if_pos ((IK hi).2 (.inl h))]
      · refine Ev.cF (by rw [beq_eq_false_iff_ne];exact h) (ih.to ?_);simp only [IK hi,h,false_or]
  unfold pO;refine Ev.bind key ?_;rw [List.drop_zero];by_cases h:s∈l
  · simp only [h,if_true,bZ,decide_true];exact Ev.some
  · simp only [h,if_false,bT,decide_false];exact Ev.some
theorem xK (l:List Str) (s:Str) (hl:l.length<=1099511627776):Ev (fun k=>dB k l s) (decide (s∈l)):=by
  have key: ∃o:Unit⊕Int,Ev (fun k=>dA k l s (l.length:Int) ((0:Nat):Int)) o/\((o= .inl ()/\ ¬s∈l.drop 0)\/(∃j:Nat,o= .inr (j:Int))/\s∈l.drop 0):=by
    refine mH (len:=l.length) (p:=fun i=> ∃o:Unit⊕Int,Ev (fun k=>dA k l s (l.length:Int) (i:Int)) o/\((o= .inl ()/\ ¬s∈l.drop i)\/(∃j:Nat,o= .inr (j:Int))/\s∈l.drop i)) ?_ fun i hi ⟨o,ih,ho⟩=> ?_
    · refine⟨.inl (),Ev.succ ?_,.inl ⟨rfl,by simp⟩⟩;simp only [dA];exact Ev.cF (kV _) Ev.some
    · by_cases h:l[i]=s
      · refine⟨.inr (i:Int),Ev.succ ?_,.inr ⟨⟨i,rfl⟩,(IK hi).2 (.inl h)⟩⟩;simp only [dA,Int.toNat_natCast,bM hi,Option.bind_some,nn,if_true,mZ hi,cond_true,fK hi hl];exact Ev.cT (by rw [beq_iff_eq];exact h.symm) Ev.some
      · refine⟨o,Ev.succ ?_,by simp only [IK hi,h,false_or];exact ho⟩;simp only [dA,Int.toNat_natCast,bM hi,Option.bind_some,nn,if_true,mZ hi,cond_true,fK hi hl];exact Ev.cF (by rw [beq_eq_false_iff_ne];exact fun e=>h e.symm) ih
  obtain⟨o,h1,h2⟩:=key;rw [List.drop_zero]at h2;unfold dB;rcases h2 with⟨rfl,h2⟩|⟨⟨j,rfl⟩,h2⟩
  · refine Ev.bind (x:= -1) (by unfold kF;exact Ev.bind h1 Ev.some) (Ev.some' ?_);simp [h2]
  · refine Ev.bind (x:=(j:Int)) (by unfold kF;exact Ev.bind h1 Ev.some) (Ev.some' ?_);simp [h2]
theorem PE (a b:List Str) (hl:a.length<=1099511627776):Ev (fun k=>qV k a b) (decide (a=b)):=by
  unfold qV;by_cases hab:a.length=b.length
  · refine Ev.cF (by simp [hab]) ?_;have key:Ev (fun k=>jc k a b ((0:Nat):Int)) (if a.drop 0=b.drop 0 then .inl ()else .inr false):=by
      refine mH (len:=a.length) (p:=fun i=>Ev (fun k=>jc k a b (i:Int)) (if a.drop i=b.drop i then .inl ()else .inr false)) ?_ fun i hi ih=> ?_
      · refine Ev.succ ?_;simp only [jc];refine Ev.cF (kV _) (Ev.some' ?_);simp [hab]
      · have hi':i<b.length:=hab▸hi;refine Ev.succ ?_;simp only [jc,Int.toNat_natCast,bM hi,bM hi',Option.bind_some,nn,if_true,mZ hi,cond_true,fK hi hl];by_cases h:a[i]=b[i]
        · refine Ev.cT (by rw [beq_iff_eq];exact h) (ih.to ?_);have:List.drop i a=a[i]::List.drop (i+1) a:=List.drop_eq_getElem_cons hi;have:List.drop i b=b[i]::List.drop (i+1) b:=List.drop_eq_getElem_cons hi';simp only [*,List.cons.injEq,true_and]
        · refine Ev.cF (by rw [beq_eq_false_iff_ne];exact h) (Ev.some' ?_);have e1:List.drop i a=a[i]::List.drop (i+1) a:=List.drop_eq_getElem_cons hi;have e2:List.drop i b=b[i]::List.drop (i+1) b:=List.drop_eq_getElem_cons hi';rw [if_neg];intro e;rw [e1,e2,List.cons.injEq]at e;exact h e.1
    refine Ev.bind key ?_;by_cases h:a=b
    · subst h;simp only [if_true,bT,decide_true];exact Ev.some
    · simp only [List.drop_zero,h,if_false,bZ,decide_false];exact Ev.some
  · refine Ev.cT (by simp;omega) (Ev.some' ?_);exact(decide_eq_false fun e=>hab (by rw [e])).symm
def G7:Operator:=Operator.mk [] 0 0 0 false 0 0
def dK (l:List Operator) (t:Str):Operator×Bool:=match l with
  |[]=>(G7,false)
  |o::l=>if o.text=t then(o,true)else dK l t
def ab5 (x:Operator):Operator:=Operator.mk x.text x.fix x.low x.high x.left (if x.fix=1 then 2 else 1) (if x.text=[92,88]then 4 else if x.fix=1 then 2 else 1)
theorem Vx (add:List Operator) (hl:add.length<=1000): ∀i,i<=add.length-> ∀out:List Operator,out.length=i->Ev (fun k=>lS k out add (i:Int)) (out++(add.drop i).map ab5):=by
  refine down (p:=fun i=> ∀out:List Operator,out.length=i->Ev (fun k=>lS k out add (i:Int)) (out++(add.drop i).map ab5)) ?_ fun i hi ih out ho=> ?_
  · intro out ho;refine Ev.succ ?_;simp only [lS];refine Ev.cF (kV _) (Ev.some' ?_);simp
  · refine Ev.succ ?_;simp only [lS,Int.toNat_natCast,bM hi,Option.bind_some,nn,if_true,mZ hi,cond_true,fK hi (by omega),Yf];have e1:(out.length+1)*64<=1099511627776:=by omega
    have e2:IntKind.wrap .i64 (1+if(add[i].fix==1)=true then 1 else 0)=if add[i].fix=1 then 2 else 1:=by
      by_cases h:add[i].fix=1
      · simp [h];rfl
      · simp [h];rfl
    simp only [if_pos e1,e2];by_cases h:add[i].text=[92,88]
    · refine Ev.cT (by rw [beq_iff_eq];exact h) ((ih _ (by simp [ho])).to ?_);rw [List.drop_eq_getElem_cons hi,List.map_cons,List.append_assoc];simp [ab5,h]
    · refine Ev.cF (by rw [beq_eq_false_iff_ne];exact h) ((ih _ (by simp [ho])).to ?_);rw [List.drop_eq_getElem_cons hi,List.map_cons,List.append_assoc];simp [ab5,h]
def fH:List Operator:=(DR 60).getD []
theorem ab6:Ev (fun k=>DR k) fH:=by
  unfold DR;exact Ev.bind (Vx _ (by simp) 0 (Nat.zero_le _) [] rfl) (Ev.some' (by kernel_rfl))
theorem FJ (t:Str):Ev (fun k=>qO k t) (dK fH t):=by
  have hlen:fH.length≤1099511627776:=by
    have:fH.length=42:=by kernel_rfl
    omega
  have key: ∀(l:List Operator),l.length<=1099511627776->Ev (fun k=>iX k t ([]:Str) 0 0 0 false 0 0 l ((0:Nat):Int)) (match dK (l.drop 0) t with|(o,true)=> .inr (true,o.text,o.fix,o.low,o.high,o.left,o.least,o.most)|(_,false)=> .inl (([]:Str),0,0,0,false,0,0)):=by
    intro l hl;refine mH (len:=l.length) (p:=fun i=>Ev (fun k=>iX k t ([]:Str) 0 0 0 false 0 0 l (i:Int)) (match dK (l.drop i) t with|(o,true)=> .inr (true,o.text,o.fix,o.low,o.high,o.left,o.least,o.most)|(_,false)=> .inl (([]:Str),0,0,0,false,0,0))) ?_ fun i hi ih=> ?_
    · refine Ev.succ ?_;simp only [iX];refine Ev.cF (kV _) (Ev.some' ?_);simp [dK]
    · refine Ev.succ ?_;simp only [iX,Int.toNat_natCast,bM hi,Option.bind_some,nn,if_true,mZ hi,cond_true,fK hi hl];have e1:List.drop i l=l[i]::List.drop (i+1) l:=List.drop_eq_getElem_cons hi;by_cases h:l[i].text=t
      · refine Ev.cT (by rw [beq_iff_eq];exact h) (Ev.some' ?_);rw [e1,dK,if_pos h]
      · refine Ev.cF (by rw [beq_eq_false_iff_ne];exact h) (ih.to ?_);rw [e1,dK,if_neg h]
  have hk:=key fH hlen;rw [List.drop_zero]at hk;unfold qO;refine Ev.bind ab6 (Ev.bind hk ?_);have hno: ∀l:List Operator,(dK l t).2=false->(dK l t).1=G7:=by
    intro l
    induction l with
    |nil=>intro _;rfl
    |cons o l ih=>
      intro h;rw [dK]at h⊢;by_cases e:o.text=t
      · rw [if_pos e]at h;cases h
      · rw [if_neg e]at h⊢;exact ih h
  have:=hno fH;generalize dK fH t=r at this;obtain⟨o,b⟩:=r;cases b with
  |true=>simp only [bZ];exact Ev.some
  |false=>simp only [bT];exact Ev.some' (by rw [show o=G7 from this rfl];rfl)
def isLet (c:UInt8):Bool:=decide (97<=c.toNat/\c.toNat<=122)||decide (65<=c.toNat/\c.toNat<=90)
def Dh (c:UInt8):Bool:=decide (48<=c.toNat/\c.toNat<=57)
def om (c:UInt8):Bool:=isLet c||Dh c||decide (c.toNat=95)
def M4:List Str:=zf.getD []
theorem Vy:zf=some M4:=rfl
theorem aaT:M4.length=50:=by kernel_rfl
def bName (s:Str):Bool:=decide (1<=s.length/\s.length<=24)&& !decide (s∈M4)&&s.all om&&s.any isLet
def qW (s:Str):Bool:=decide (s=[84,82,85,69])||decide (s=[70,65,76,83,69])||decide (s=[66,79,79,76,69,65,78])||decide (s=[83,84,82,73,78,71])
def UK (s:Str):Bool:=decide (s.take 3=[87,70,95])||decide (s.take 3=[83,70,95])
def rName (s:Str):Bool:=bName s&& !qW s&& !UK s
def bang:Str->Option (Str×Str)
  |[]=>none
  |c::s=>if c=33 then some ([],s)else(bang s).map fun p=>(c::p.1,p.2)
def ji (s:Str):Bool:=match bang s with
  |some (a,b)=>rName a&&rName b
  |none=>rName s
theorem Vz (c:UInt8):zh (c.toNat:Int)=some (isLet c):=by
  unfold zh isLet;generalize c.toNat=n;by_cases h1:97<=n<;>by_cases h2:n<=122<;>by_cases h3:65<=n<;>by_cases h4:n<=90<;>simp [h1,h2,h3,h4,ge_iff_le,show((97:Int)<=n)=(97<=n) by rw [eq_iff_iff];omega,show((n:Int)<=122)=(n<=122) by rw [eq_iff_iff];omega,show((65:Int)<=n)=(65<=n) by rw [eq_iff_iff];omega,show((n:Int)<=90)=(n<=90) by rw [eq_iff_iff];omega]
theorem Yg (c:UInt8):BO (c.toNat:Int)=some (Dh c):=by
  unfold BO Dh;generalize c.toNat=n;by_cases h1:48<=n<;>by_cases h2:n<=57<;>simp [h1,h2,ge_iff_le,show((48:Int)<=n)=(48<=n) by rw [eq_iff_iff];omega,show((n:Int)<=57)=(n<=57) by rw [eq_iff_iff];omega]
theorem drop_cons {α:Type} {l:List α} {i:Nat} (h:i<l.length):List.drop i l=l[i]::List.drop (i+1) l:=List.drop_eq_getElem_cons h
theorem Tv (s:Str) (i:Nat) (h:i<s.length) (t:Bool):xk s (i:Int) t=some (t&& !Dh s[i]&& !decide (s[i].toNat=95)):=by
  unfold xk;simp only [Int.toNat_natCast,bM h,Option.bind_some,nn,if_true,Yg];cases t
  · rfl
  · cases Dh s[i]
    · simp only [cond_true,cond_false,Bool.true_and,Bool.not_false];congr 1
      by_cases e:s[i].toNat=95
      · simp [e]
      · simp only [e,decide_false,Bool.not_false,bne_iff_ne,ne_eq];omega
    · rfl
theorem Z6 (s:Str):Ev (fun k=>Ee k s) (bName s):=by
  unfold Ee Bu;simp only [jT,Vy,Option.bind_some];by_cases h1:1<=s.length/\s.length<=24
  · have e1:(decide ((1:Int)<=(s.length:Int)/\(s.length:Int)<=24))=true:=decide_eq_true (by omega);simp only [e1,cond_true];by_cases h2:s∈M4
    · refine Ev.bind (x:= .inr false) (Ev.bind (tu _ _ (by rw [aaT];omega)) (Ev.cT (decide_eq_true h2) Ev.some)) ?_;simp only [bZ];exact Ev.some' (by simp [bName,h2])
    · refine Ev.bind (x:= .inl ()) (Ev.bind (tu _ _ (by rw [aaT];omega)) (Ev.cF (decide_eq_false h2) Ev.some)) ?_;simp only [bT];have hb:s.length<=1099511627776:=by omega
      have key: ∀l:Bool,Ev (fun k=>kP k s l ((0:Nat):Int)) (if(s.drop 0).all om=true then .inl (l||(s.drop 0).any isLet)else .inr false):=by
        refine mH (len:=s.length) (p:=fun i=> ∀l:Bool,Ev (fun k=>kP k s l (i:Int)) (if(s.drop i).all om=true then .inl (l||(s.drop i).any isLet)else .inr false)) ?_ fun i hi ih l=> ?_
        · intro l;refine Ev.succ ?_;simp only [kP];refine Ev.cF (kV _) (Ev.some' ?_);simp
        · refine Ev.succ ?_;simp only [kP,Int.toNat_natCast,bM hi,Option.bind_some,nn,if_true,mZ hi,cond_true,fK hi hb,Vz,Tv s i hi];rw [drop_cons hi];simp only [List.all_cons,List.any_cons];by_cases hc:om s[i]=true
          · refine Ev.cF ?_ ?_
            · unfold om at hc;revert hc;cases isLet s[i]<;>cases Dh s[i]<;>cases decide (s[i].toNat=95)<;>simp
            · simp only [hc,Bool.true_and];cases l
              · simp only [cond_false,Bool.false_or];exact ih _
              · simp only [cond_true,Bool.true_or];exact(ih true).to (by simp)
          · refine Ev.cT ?_ (Ev.some' ?_)
            · unfold om at hc;revert hc;cases isLet s[i]<;>cases Dh s[i]<;>cases decide (s[i].toNat=95)<;>simp
            · simp [hc]
      refine Ev.bind (key false) ?_;rw [List.drop_zero];by_cases h3:s.all om=true
      · simp only [h3,if_true,bT];exact Ev.some' (by simp [bName,h1,h2,h3])
      · simp only [h3,bZ];exact Ev.some' (by simp [bName,h3])
  · have e1:(decide ((1:Int)<=(s.length:Int)/\(s.length:Int)<=24))=false:=decide_eq_false (by omega);simp only [e1,cond_false,Option.bind_some,bZ];exact Ev.some' (by simp [bName,h1])
theorem G8 (a b:Str):(a==b)=decide (a=b):=by
  by_cases h:a=b
  · simp [h]
  · simp [h]
theorem zI (s:Str):uR s=some (qW s):=by
  unfold uR qW;simp only [G8];cases decide (s=[84,82,85,69])<;>cases decide (s=[70,65,76,83,69])<;>cases decide (s=[66,79,79,76,69,65,78])<;>rfl
theorem KA (s:Str):BU s=some (qW s):=zI s
theorem lW (s:Str):Ev (fun k=>og k s) (rName s):=by
  unfold og;refine Ev.bind (Z6 s) ?_;simp only [zI,Option.bind_some,G8];unfold rName;cases bName s
  · exact Ev.some
  · simp only [cond_true,Bool.true_and];cases qW s
    · simp only [cond_false,Bool.not_false,Bool.true_and];by_cases h:3<=s.length
      · refine Ev.cT (decide_eq_true (by omega)) (Ev.kg h ?_);unfold UK;cases decide (s.take 3=[87,70,95])<;>exact Ev.some
      · refine Ev.cF (decide_eq_false (by omega)) (Ev.some' ?_);unfold UK;have e1: ¬s.take 3=[87,70,95]:=fun e=>h (by have:=congrArg List.length e;rw [List.length_take]at this;simp at this;omega);have e2: ¬s.take 3=[83,70,95]:=fun e=>h (by have:=congrArg List.length e;rw [List.length_take]at this;simp at this;omega);simp [e1,e2]
    · exact Ev.some
theorem adX (s:Str) (i:Nat) (h:i<s.length):bang (s.drop i)=if s[i]=33 then some ([],s.drop (i+1))else(bang (s.drop (i+1))).map fun p=>(s[i]::p.1,p.2):=by
  rw [drop_cons h,bang]
theorem Bw (s:Str) (hb:s.length<=1099511627776):Ev (fun k=>rW k s) (ji s):=by
  have key: ∃o:Unit⊕Bool,Ev (fun k=>kQ k s ((0:Nat):Int)) o/\(match bang (s.drop 0)with|some (a,b)=>o= .inr (rName (s.take 0++a)&&rName b)|none=>o= .inl ()):=by
    refine mH (len:=s.length) (p:=fun i=> ∃o:Unit⊕Bool,Ev (fun k=>kQ k s (i:Int)) o/\(match bang (s.drop i)with|some (a,b)=>o= .inr (rName (s.take i++a)&&rName b)|none=>o= .inl ())) ?_ fun i hi ⟨o,ih,ho⟩=> ?_
    · refine⟨.inl (),Ev.succ ?_,by simp [bang]⟩;simp only [kQ];exact Ev.cF (kV _) Ev.some
    · rw [adX s i hi];by_cases h:s[i]=33
      · refine⟨.inr (rName (s.take i)&&rName (s.drop (i+1))),Ev.succ ?_,by simp [h]⟩;simp only [kQ,Int.toNat_natCast,bM hi,Option.bind_some,nn,if_true,mZ hi,cond_true,fK hi hb,true_and];refine Ev.cT (by rw [h];rfl) (Ev.kg (by omega) (Ev.bind (lW _) ?_));cases rName (s.take i)
        · exact Ev.some
        · simp only [cond_true,Bool.true_and];exact Ev.kg (by omega) (Ev.bind (lW _) Ev.some)
      · refine⟨o,Ev.succ ?_,?_⟩
        · simp only [kQ,Int.toNat_natCast,bM hi,Option.bind_some,nn,if_true,mZ hi,cond_true,fK hi hb,true_and];refine Ev.cF ?_ ih;rw [beq_eq_false_iff_ne];intro e;refine h (UInt8.toNat_inj.1 ?_);show s[i].toNat=33
          omega
        · rw [if_neg h];revert ho;cases bang (s.drop (i+1))with
          |none=>exact id
          |some p=>
            obtain⟨a,b⟩:=p;simp only [Option.map_some];rw [List.take_succ_eq_append_getElem hi,List.append_assoc];exact id
  obtain⟨o,h1,h2⟩:=key;unfold rW;refine Ev.bind h1 ?_;unfold ji;rw [List.drop_zero]at h2;revert h2;cases bang s with
  |none=>intro h2;subst h2;simp only [bT];exact Ev.bind (lW s) Ev.some
  |some p=>
    obtain⟨a,b⟩:=p;intro h2;simp only [List.take_zero,List.nil_append]at h2;subst h2;simp only [bZ];exact Ev.some
def gU (n lo hi:Int):Bool:=decide (lo<=n/\n<=hi)
def KC (c:UInt8):Bool:=decide (32<=c.toNat/\c.toNat<=126)&& !decide (c.toNat=34)&& !decide (c.toNat=92)
def vB (s:Str):Bool:=decide (s.length<=40)&&s.all KC
theorem Yh (s:Str) (m:Int) (hm:m<=1099511627776):Ev (fun k=>BQ k s m) (decide ((s.length:Int)<=m)&&s.all fun c=>decide (32<=c.toNat/\c.toNat<=126)):=by
  unfold BQ;by_cases h:(s.length:Int)<=m
  · refine Ev.cF (decide_eq_false (by omega)) ?_;have hb:s.length<=1099511627776:=by omega
    have key:Ev (fun k=>kS k s ((0:Nat):Int)) (if(s.drop 0).all (fun c=>decide (32<=c.toNat/\c.toNat<=126))=true then .inl ()else .inr false):=by
      refine mH (len:=s.length) (p:=fun i=>Ev (fun k=>kS k s (i:Int)) (if(s.drop i).all (fun c=>decide (32<=c.toNat/\c.toNat<=126))=true then .inl ()else .inr false)) ?_ fun i hi ih=> ?_
      · refine Ev.succ ?_;simp only [kS];exact Ev.cF (kV _) (Ev.some' (by simp))
      · refine Ev.succ ?_;simp only [kS,Int.toNat_natCast,bM hi,Option.bind_some,nn,if_true,mZ hi,cond_true,fK hi hb];rw [drop_cons hi];simp only [List.all_cons,Bool.and_eq_true,decide_eq_true_eq];by_cases h1:32<=s[i].toNat
        · refine Ev.cF (decide_eq_false (by omega)) ?_;by_cases h2:s[i].toNat<=126
          · refine Ev.cF (decide_eq_false (by omega)) (ih.to ?_);simp only [h1,h2,true_and]
          · refine Ev.cT (decide_eq_true (by omega)) (Ev.some' ?_);simp only [h1,h2,and_false,false_and,if_false]
        · refine Ev.cT (decide_eq_true (by omega)) (Ev.some' ?_);simp only [h1,false_and,if_false]
    refine Ev.bind key ?_;rw [List.drop_zero];by_cases h3:(s.all fun c=>decide (32<=c.toNat/\c.toNat<=126))=true
    · simp only [h3,if_true,bT];exact Ev.some' (by simp [h])
    · simp only [h3,if_false,bZ];exact Ev.some' (by simp)
  · refine Ev.cT (decide_eq_true (by omega)) (Ev.some' ?_);simp [h]
theorem ab7 (s:Str):Ev (fun k=>iB k s) (vB s):=by
  unfold iB;refine Ev.bind (Yh s 40 (by omega)) ?_;by_cases h0:s.length<=40
  · have h0':(s.length:Int)<=40:=by omega
    have hb:s.length<=1099511627776:=by omega
    have key:Ev (fun k=>ni k s ((0:Nat):Int)) (if(s.drop 0).all (fun c=> !decide (c.toNat=34)&& !decide (c.toNat=92))=true then .inl ()else .inr false):=by
      refine mH (len:=s.length) (p:=fun i=>Ev (fun k=>ni k s (i:Int)) (if(s.drop i).all (fun c=> !decide (c.toNat=34)&& !decide (c.toNat=92))=true then .inl ()else .inr false)) ?_ fun i hi ih=> ?_
      · refine Ev.succ ?_;simp only [ni];exact Ev.cF (kV _) (Ev.some' (by simp))
      · refine Ev.succ ?_;simp only [ni,Int.toNat_natCast,bM hi,Option.bind_some,nn,if_true,mZ hi,cond_true,fK hi hb];rw [drop_cons hi];simp only [List.all_cons,Bool.and_eq_true,Bool.not_eq_true',decide_eq_false_iff_not];by_cases h1:s[i].toNat=34
        · refine Ev.cT (by rw [h1];rfl) (Ev.some' ?_);simp [h1]
        · refine Ev.cF (by rw [beq_eq_false_iff_ne];omega) ?_;by_cases h2:s[i].toNat=92
          · refine Ev.cT (by rw [h2];rfl) (Ev.some' ?_);simp [h2]
          · refine Ev.cF (by rw [beq_eq_false_iff_ne];omega) (ih.to ?_);simp [h1,h2]
    have hsplit:vB s=((s.all fun c=>decide (32<=c.toNat/\c.toNat<=126))&&s.all fun c=> !decide (c.toNat=34)&& !decide (c.toNat=92)):=by
      unfold vB;rw [decide_eq_true h0,Bool.true_and]
      induction s with
      |nil=>rfl
      |cons c l ih=>
        have: ∀a b c d:Bool,(a&&b&&(c&&d))=(a&&c&&(b&&d)):=by decide
        have e1: ∀l:Str,l.all KC=((l.all fun c=>decide (32<=c.toNat/\c.toNat<=126))&&l.all fun c=> !decide (c.toNat=34)&& !decide (c.toNat=92)):=by
          intro l
          induction l with
          |nil=>rfl
          |cons c l ih=>simp only [List.all_cons,ih,KC,Bool.and_assoc];cases decide (32<=c.toNat/\c.toNat<=126)<;>cases decide (c.toNat=34)<;>cases decide (c.toNat=92)<;>simp
        exact e1 _
    rw [hsplit];simp only [decide_eq_true h0',Bool.true_and];cases(s.all fun c=>decide (32<=c.toNat/\c.toNat<=126))
    · exact Ev.some
    · simp only [cond_true,Bool.true_and];refine Ev.bind key ?_;rw [List.drop_zero];cases h3:(s.all fun c=> !decide (c.toNat=34)&& !decide (c.toNat=92))
      · simp only [Bool.false_eq_true,if_false,bZ];exact Ev.some
      · simp only [if_true,bT];exact Ev.some
  · have h0': ¬(s.length:Int)<=40:=by omega
    simp only [decide_eq_false h0',Bool.false_and,cond_false];exact Ev.some' (by simp [vB,h0])
def gV (kind:Int):(Int×Int×Int×Int)×Bool:=(qP kind).getD ((0,0,0,0),false)
theorem ab8 (kind:Int):qP kind=some (gV kind):=by
  have:(qP kind).isSome=true:=by
    unfold qP rX zk zl zm zn zo zq
    repeat' first
      |rfl
      |(generalize(kind==_)=b;cases b<;>simp only [cond_true,cond_false,Option.bind_some])
  unfold gV;cases h:qP kind with
  |none=>rw [h]at this;cases this
  |some v=>rfl
def qX (n:Nd):Bool:=
  let s:=gV n.kind
  let o:=(dK fH n.text).2&&decide (n.kind=3)
  let lo:=if o=true then 0 else s.1.2.2.1
  let hi:=if o=true then(n.args.length:Int)else s.1.2.2.2
  gU (n.names.length:Int) s.1.1 s.1.2.1&&gU ((n.args.length:Int) -(n.names.length:Int)*(if s.2=true then 1 else 0)) lo hi
def oo (n:Nd):Bool:=
  (decide (n.kind=1)||decide (n.kind=2)||decide (n.kind=3)||decide (n.kind=18)||decide (n.text=[]))&&
  (decide (n.kind=0)||decide (n.kind=23)||decide (n.n=0))&&(!decide (n.kind=23)||gU n.n 0 1)&&(!decide (n.kind=1)||vB n.text)
def vC:List Str->List Str->Bool
  |_,[]=>false
  |acc,s::l=>decide (s∈acc)||vC (acc++[s]) l
def tQ (n:Nd):Int:=
  if(n.names.all rName)=false then 7 else
  if n.kind=2 then(if(ji n.text||qW n.text)=true then 0 else 7)else
  if n.kind=18 then(if rName n.text=true then 0 else 7)else
  if n.kind=3 then(if((dK fH n.text).2||ji n.text)=true then(if((dK fH n.text).2&& !gU (n.args.length:Int) (dK fH n.text).1.least (dK fH n.text).1.most)=true then 17 else 0)else 7)else 0
def eH (pl:Bool) (n:Nd):Int:=
  if gU n.kind 0 28=false then 4 else
  if qX n=false then 6 else
  if(pl&&oo n)=false then 5 else
  if(decide (n.kind=0)&& !gU n.n 0 10000)=true then 3 else
  if tQ n≠0 then tQ n else
  if vC [] n.names=true then 12 else 0
theorem ab9 (a b:Int) (c:Str) (l:List Str) (d:List Int) (hl:l.length<=1099511627776):Ev (fun k=>kT k a b c l d ((0:Nat):Int)) (if(l.drop 0).all rName=true then .inl ()else .inr 7):=by
  refine mH (len:=l.length) (p:=fun i=>Ev (fun k=>kT k a b c l d (i:Int)) (if(l.drop i).all rName=true then .inl ()else .inr 7)) ?_ fun i hi ih=> ?_
  · refine Ev.succ ?_;simp only [kT];exact Ev.cF (kV _) (Ev.some' (by simp))
  · refine Ev.succ ?_;simp only [kT,Int.toNat_natCast,bM hi,Option.bind_some,nn,if_true,mZ hi,cond_true,fK hi hl];refine Ev.bind (lW _) ?_;rw [drop_cons hi];simp only [List.all_cons];by_cases hb:rName l[i]=true
    · exact Ev.cT hb (ih.to (by simp only [hb,Bool.true_and]))
    · have hb:rName l[i]=false:=by simpa using hb
      exact Ev.cF hb (Ev.some' (by simp only [hb,Bool.false_and];rfl))
theorem afQ (a b:Int) (c:Str) (l:List Str) (d:List Int) (hl:l.length<=1099511627776):Ev (fun k=>jQ k a b c l d 1) (if vC [] l=true then .inr 12 else .inl ()):=by
  have key: ∀i,i<=l.length->Ev (fun k=>jQ k a b c l d (i:Int)) (if vC (l.take i) (l.drop i)=true then .inr 12 else .inl ()):=by
    refine down ?_ fun i hi ih=> ?_
    · refine Ev.succ ?_;simp only [jQ];exact Ev.cF (kV _) (Ev.some' (by simp [vC]))
    · refine Ev.succ ?_;have h2:i<=l.length:=by omega
      simp only [jQ,Int.toNat_natCast,bM hi,Option.bind_some,nn,if_true,mZ hi,cond_true,fK hi hl,true_and,h2];refine Ev.bind (tu _ _ (by rw [List.length_take];omega)) ?_;rw [drop_cons hi,vC,<-List.take_succ_eq_append_getElem hi];cases decide (l[i]∈l.take i)
      · simp only [cond_false,Bool.false_or];exact ih
      · exact Ev.some
  cases l with
  |nil=>
    refine Ev.succ ?_;simp only [jQ];exact Ev.cF (by rfl) Ev.some
  |cons x l=>
    have:=key 1 (by simp);exact this.to (by simp [vC])
theorem Yi (e:List Nd) (i:Nat) (n:Nd) (pl:Bool) (hn:e[i]? =some n) (hpl:Ev (fun k=>AY k e (i:Int)) pl) (h1:n.text.length<=1000000) (h2:n.names.length<=1000000) (h3:n.args.length<=1000000):
    Ev (fun k=>BR k e (i:Int)) (eH pl n):=by
  unfold BR;simp only [Int.toNat_natCast,hn,Option.bind_some,nn,if_true,jT,ab8,Yf];unfold eH;by_cases hk:gU n.kind 0 28=true
  case neg=>
    refine Ev.to (Ev.cF (by simpa [gU]using hk) Ev.some) (if_pos (by simpa using hk)).symm
  refine Ev.to ?_ (if_neg (by simp [hk])).symm;refine Ev.cT hk ?_
  have hj:Ev (fun k=>uT k n.kind n.n n.text n.names n.args (gV n.kind).1.1 (gV n.kind).1.2.1 (gV n.kind).1.2.2.1 (gV n.kind).1.2.2.2)
      ((gV n.kind).1.1,(gV n.kind).1.2.1,if((dK fH n.text).2&&decide (n.kind=3))=true then 0 else(gV n.kind).1.2.2.1,if((dK fH n.text).2&&decide (n.kind=3))=true then(n.args.length:Int)else(gV n.kind).1.2.2.2):=by
    unfold uT zu;refine Ev.bind (FJ _) ?_;cases(dK fH n.text).2
    · exact Ev.some
    · simp only [cond_true,Option.bind_some,Bool.true_and];by_cases h:n.kind=3
      · simp only [h,beq_self_eq_true,cond_true,decide_true,if_true];exact Ev.some
      · rw [show(n.kind==3)=false from beq_eq_false_iff_ne.2 h];simp only [cond_false,h,decide_false,Bool.false_eq_true,if_false];exact Ev.some
  refine Ev.bind hj ?_;have hm:IntKind.wrap .i64 ((n.names.length:Int)*if(gV n.kind).2=true then 1 else 0)=(n.names.length:Int)*if(gV n.kind).2=true then 1 else 0:=by
    split
    · exact wrap64 (by omega) (by omega)
    · exact wrap64 (by omega) (by omega)
  have hm2:IntKind.wrap .i64 ((n.args.length:Int) -((n.names.length:Int)*if(gV n.kind).2=true then 1 else 0))=(n.args.length:Int) -((n.names.length:Int)*if(gV n.kind).2=true then 1 else 0):=by
    split
    · exact wrap64 (by omega) (by omega)
    · exact wrap64 (by omega) (by omega)
  simp only [hm,hm2]
  have hsh: ∀(t:Bool),uU (gV n.kind).1.1 (gV n.kind).1.2.1 (if((dK fH n.text).2&&decide (n.kind=3))=true then 0 else(gV n.kind).1.2.2.1) (if((dK fH n.text).2&&decide (n.kind=3))=true then(n.args.length:Int)else(gV n.kind).1.2.2.2)
      ((n.args.length:Int) -((n.names.length:Int)*if(gV n.kind).2=true then 1 else 0)) (!gU (n.names.length:Int) (gV n.kind).1.1 (gV n.kind).1.2.1)=some (!qX n):=by
    intro t;unfold uU qX;simp only [jT,Option.bind_some];cases gU (n.names.length:Int) (gV n.kind).1.1 (gV n.kind).1.2.1
    · rfl
    · simp only [Bool.not_true,cond_false,Bool.true_and];rfl
  have amH:=hsh true;unfold gU at amH;refine Ev.jh amH ?_;cases hs:qX n
  · exact Ev.some
  simp only [Bool.not_true,cond_false,Bool.true_eq_false,if_false];have h3p:uW n.kind n.n n.text n.names n.args (n.kind==1)=some (decide (n.kind=1)||decide (n.kind=2)||decide (n.kind=3)||decide (n.kind=18)):=by
    unfold uW;by_cases a:n.kind=1
    · simp [a]
    by_cases b:n.kind=2
    · simp [b]
    by_cases c:n.kind=3
    · simp [c]
    by_cases d:n.kind=18
    · simp [d]
    simp [a,b,c,d,beq_eq_false_iff_ne.2 a,beq_eq_false_iff_ne.2 b,beq_eq_false_iff_ne.2 c,beq_eq_false_iff_ne.2 d]
  refine Ev.jh h3p (Ev.bind hpl ?_);have h4:Ev (fun k=>uX k n.kind n.n n.text n.names n.args (decide (n.kind=1)||decide (n.kind=2)||decide (n.kind=3)||decide (n.kind=18)) (!pl)) (!(pl&&oo n)):=by
    cases pl
    · exact Ev.some
    unfold uX oo;simp only [Bool.not_true,cond_false,Bool.true_and,jT,Option.bind_some];have hp:Ev (fun k=>Option.bind (iB k n.text) fun p=>some (!p)) (!vB n.text):=Ev.bind (ab7 _) Ev.some
    have key: ∀T0 T3 T2:Bool,T0=decide (n.n=0)->T2=gU n.n 0 1->
        Ev (fun k=>cond (n.kind !=0) (cond (n.kind !=23) (cond (n.n !=0) (some true) (cond (n.kind==23) (cond (decide (0<=n.n/\n.n<=1)) (cond (n.kind==1) (Option.bind (iB k n.text) fun p=>some (!p)) (some false)) (some true)) (cond (n.kind==1) (Option.bind (iB k n.text) fun p=>some (!p)) (some false))))
          (cond (n.kind==23) (cond (decide (0<=n.n/\n.n<=1)) (cond (n.kind==1) (Option.bind (iB k n.text) fun p=>some (!p)) (some false)) (some true)) (cond (n.kind==1) (Option.bind (iB k n.text) fun p=>some (!p)) (some false))))
          (cond (n.kind==23) (cond (decide (0<=n.n/\n.n<=1)) (cond (n.kind==1) (Option.bind (iB k n.text) fun p=>some (!p)) (some false)) (some true)) (cond (n.kind==1) (Option.bind (iB k n.text) fun p=>some (!p)) (some false))))
        (!((decide (n.kind=0)||decide (n.kind=23)||decide (n.n=0))&&(!decide (n.kind=23)||gU n.n 0 1)&&(!decide (n.kind=1)||vB n.text))):=by
      intro T0 T3 T2 _ _;unfold gU;by_cases a:n.kind=0
      · simp only [a];exact Ev.some
      by_cases b:n.kind=23
      · simp only [b];by_cases c:0<=n.n/\n.n<=1
        · simp only [c,and_self,decide_true];exact Ev.some
        · simp only [c,decide_false];exact Ev.some
      by_cases c:n.n=0
      · by_cases d:n.kind=1
        · simp only [c,d];exact hp
        · simp only [a,b,c,d,bne_iff_ne,beq_eq_false_iff_ne.2 a,beq_eq_false_iff_ne.2 b,beq_eq_false_iff_ne.2 d,bne,Bool.not_false,cond_true,cond_false,decide_false,decide_true];exact Ev.some
      · simp only [a,b,c,beq_eq_false_iff_ne.2 a,beq_eq_false_iff_ne.2 b,beq_eq_false_iff_ne.2 c,bne,Bool.not_false,cond_true,decide_false];exact Ev.some
    have key':=key _ false _ rfl rfl;cases(decide (n.kind=1)||decide (n.kind=2)||decide (n.kind=3)||decide (n.kind=18))
    · simp only [cond_false,Bool.false_or,G8];cases decide (n.text=[])
      · exact Ev.some
      · simp only [cond_true,Bool.true_and];exact key'
    · simp only [cond_true,Bool.true_or,Bool.true_and];exact key'
  refine Ev.bind h4 ?_;cases hc:(pl&&oo n)
  · exact Ev.some
  simp only [Bool.not_true,cond_false,Bool.true_eq_false,if_false];have h5:uY n.kind n.n n.text n.names n.args (n.kind==0)=some (decide (n.kind=0)&& !gU n.n 0 10000):=by
    unfold uY gU;simp only [jT,Option.bind_some];by_cases a:n.kind=0
    · simp only [a,beq_self_eq_true,cond_true,decide_true,Bool.true_and]
    · simp only [a,beq_eq_false_iff_ne.2 a,cond_false,decide_false,Bool.false_and]
  refine Ev.jh h5 ?_;cases h6:(decide (n.kind=0)&& !gU n.n 0 10000)
  case true=>exact Ev.some
  simp only [cond_false,Bool.false_eq_true,if_false];refine Ev.bind (ab9 _ _ _ n.names _ (by omega)) ?_;rw [List.drop_zero];unfold tQ;cases h7:n.names.all rName
  · simp only [Bool.false_eq_true,if_false,bZ,if_true];exact Ev.some
  simp only [if_true,bT,Bool.true_eq_false,if_false];refine Ev.bind (FJ _) ?_
  have h8: ∀op:Operator,∀is:Bool,Ev (fun k=>uZ k n.kind n.n n.text n.names n.args op.text op.fix op.low op.high op.left op.least op.most is)
      (if(if n.kind=2 then(if(ji n.text||qW n.text)=true then(0:Int)else 7)else if n.kind=18 then(if rName n.text=true then 0 else 7)else if n.kind=3 then(if(is||ji n.text)=true then(if(is&& !gU (n.args.length:Int) op.least op.most)=true then 17 else 0)else 7)else 0)=0 then .inl ()else
        .inr (if n.kind=2 then(if(ji n.text||qW n.text)=true then(0:Int)else 7)else if n.kind=18 then(if rName n.text=true then 0 else 7)else if n.kind=3 then(if(is||ji n.text)=true then(if(is&& !gU (n.args.length:Int) op.least op.most)=true then 17 else 0)else 7)else 0)):=by
    intro op is;unfold uZ;by_cases a:n.kind=2
    · simp only [a,beq_self_eq_true,cond_true,if_true];refine Ev.bind (Bw _ (by omega)) ?_;cases ji n.text
      · simp only [cond_false,zI,Option.bind_some,Bool.false_or];cases qW n.text<;>exact Ev.some
      · exact Ev.some
    by_cases b:n.kind=18
    · simp only [b];refine Ev.cF rfl (Ev.cT rfl ?_);refine Ev.bind (lW _) ?_;cases rName n.text<;>exact Ev.some
    by_cases c:n.kind=3
    · simp only [c];refine Ev.cF rfl (Ev.cF rfl (Ev.cT rfl ?_));unfold zB;cases is
      · simp only [Bool.not_false,cond_true,Bool.false_or];refine Ev.bind (Ev.bind (Bw _ (by omega)) Ev.some) ?_;cases ji n.text<;>exact Ev.some
      · simp only [Bool.not_true,cond_false,Option.bind_some,cond_true,jT,Bool.true_or,if_true,Bool.true_and];unfold gU;cases decide (op.least<=(n.args.length:Int)/\(n.args.length:Int)<=op.most)<;>exact Ev.some
    · simp only [a,b,c,beq_eq_false_iff_ne.2 a,beq_eq_false_iff_ne.2 b,beq_eq_false_iff_ne.2 c,cond_false,if_false,if_true];exact Ev.some
  refine Ev.bind (h8 (dK fH n.text).1 (dK fH n.text).2) ?_;generalize hx:(if n.kind=2 then(if(ji n.text||qW n.text)=true then(0:Int)else 7)else if n.kind=18 then(if rName n.text=true then 0 else 7)else if n.kind=3 then(if((dK fH n.text).2||ji n.text)=true then(if((dK fH n.text).2&& !gU (n.args.length:Int) (dK fH n.text).1.least (dK fH n.text).1.most)=true then 17 else 0)else 7)else 0)=x;by_cases hx0:x=0
  · subst hx0;simp only [if_true,bT,ne_eq,not_true_eq_false,if_false];refine Ev.bind (afQ _ _ _ n.names _ (by omega)) ?_;cases vC [] n.names<;>exact Ev.some
  · simp only [hx0,if_false,bZ,ne_eq,not_false_eq_true,if_true];exact Ev.some
def yu (acc:List Int) (n:Nd):Int:=match n.args with
  |[]=>acc.length
  |a::_=>acc[a.toNat]?.getD 0
def rD (acc:List Int):Int->List Int->Bool
  |_,[]=>true
  |next,a::l=>decide (a=next -1)&&decide (1<=next)&&rD acc (acc[(next -1).toNat]?.getD 0) l
structure oP (e:List Nd) (i:Nat) (acc:List Int):Prop where
  len:acc.length=i
  le:i<=e.length
  at_: ∀j,j<i-> ∃n b,e[j]? =some n/\acc[j]? =some b/\0<=b/\b<=(j:Int)/\(n.args=[]->b=(j:Int))/\ ∀a l,n.args=a::l->0<=a/\a<(j:Int)/\acc[a.toNat]? =some b
structure jd (e:List Nd):Prop where
  len:e.length<=1000000
  nd: ∀(i:Nat) n,e[i]? =some n->n.text.length<=1000000/\n.names.length<=1000000/\n.args.length<=1000000
theorem oP.rng {e:List Nd} {i:Nat} {acc:List Int} (h:oP e i acc) {j:Nat} {b:Int} (hb:acc[j]? =some b):j<i/\0<=b/\b<=(j:Int):=by
  have hj:j<i:=by have:=(List.getElem?_eq_some_iff.1 hb).1;have:=h.len;omega
  obtain⟨n,b',h1,h2,h3,h4,_⟩:=h.at_ j hj;rw [hb]at h2;cases h2;exact⟨hj,h3,h4⟩
theorem VA {e:List Nd} {i:Nat} {acc:List Int} (h:oP e i acc) (hi:i<=1000000): ∀(j:Nat) (b:Int),acc[j]? =some b->Ev (fun k=>lT k e (j:Int)) (.inl b):=by
  intro j
  induction j using Nat.strongRecOn with
  |_ j ih=>
    intro b hb;obtain⟨hj,hb0,hb1⟩:=h.rng hb;obtain⟨n,b',h1,h2,_,_,h5,h6⟩:=h.at_ j hj;rw [hb]at h2;cases h2;refine Ev.succ ?_;simp only [lT,Int.toNat_natCast,nn,if_true,h1,Option.bind_some,jT];cases hargs:n.args with
    |nil=>
      refine Ev.cF (by simp) (Ev.some' ?_);rw [h5 hargs]
    |cons a l=>
      obtain⟨h7,h8,h9⟩:=h6 a l hargs;refine Ev.cT (by simp) ?_;simp only [List.getElem?_cons_zero,Option.bind_some];rw [wrap64 (by omega) (by omega)];refine Ev.cT (decide_eq_true (by omega)) ?_;have:=ih a.toNat (by omega) b h9
      rwa [Int.toNat_of_nonneg h7]at this
theorem PG {e:List Nd} {i:Nat} {acc:List Int} (h:oP e i acc) (hi:i<=1000000) {j:Nat} {b:Int} (hb:acc[j]? =some b):Ev (fun k=>qR k e (j:Int)) b:=by
  unfold qR;refine Ev.cF (decide_eq_false (by omega)) (Ev.bind (VA h hi j b hb) ?_);simp only [bT];exact Ev.some
theorem Yj {α:Type} {l:List α} {m:Nat} (h:m<l.length):(l.take (m+1)).reverse=l[m]::(l.take m).reverse:=by
  rw [List.take_succ_eq_append_getElem h,List.reverse_append];rfl
theorem Tw {e:List Nd} {i:Nat} {acc:List Int} (h:oP e i acc) (hi:i<=1000000) {n:Nd} (hn:e[i]? =some n) (hl:n.args.length<=1000000): ∀(m:Nat),m<=n.args.length-> ∀nx:Nat,nx<=i->
    Ev (fun k=>nI k e (i:Int) (nx:Int) ((m:Int) -1)) (if rD acc nx (n.args.take m).reverse=true then .inl ()else .inr false):=by
  intro m
  induction m with
  |zero=>
    intro _ nx hnx;refine Ev.succ ?_;simp only [nI];exact Ev.cF (by rfl) (Ev.some' (by simp [rD]))
  |succ m ih=>
    intro hm nx hnx;have hm':m<n.args.length:=by omega
    refine Ev.succ ?_;have e1:(((m+1:Nat):Int) -1)=(m:Int):=by omega
    simp only [e1,nI,Int.toNat_natCast,nn,if_true,hn,Option.bind_some,bM hm'];rw [Yj hm',rD];refine Ev.cT (by simp) ?_;rw [wrap64 (x:=(nx:Int) -1) (by omega) (by omega),wrap64 (x:=(m:Int) -1) (by omega) (by omega)];by_cases h1:n.args[m]=(nx:Int) -1
    · refine Ev.cF (by rw [h1];simp) ?_;by_cases h2:nx<1
      · refine Ev.cT (decide_eq_true (by omega)) (Ev.some' ?_);have: ¬(1:Int)<=nx:=by omega
        simp [this]
      · refine Ev.cF (decide_eq_false (by omega)) ?_;obtain⟨j,rfl⟩: ∃j,nx=j+1:=⟨nx -1,by omega⟩;have e2:(((j+1:Nat):Int) -1)=(j:Int):=by omega
        rw [e2]at h1⊢;obtain⟨n',b,h3,h4,h5,h6,_⟩:=h.at_ j (by omega);refine Ev.bind (PG h hi h4) ?_;obtain⟨b,rfl⟩: ∃b':Nat,b=b':=⟨b.toNat,by omega⟩;refine(ih (by omega) b (by omega)).to ?_;have e3:(1:Int)<=((j+1:Nat):Int):=by omega
        simp only [h1,e3,decide_true,Bool.true_and,Int.toNat_natCast,h4,Option.getD_some]
    · refine Ev.cT (by rw [bne_iff_ne];exact h1) (Ev.some' ?_);simp [h1]
theorem Z7 {e:List Nd} {i:Nat} {acc:List Int} (h:oP e i acc) (hi:i<=1000000) {n:Nd} (hn:e[i]? =some n) (hl:n.args.length<=1000000):Ev (fun k=>AY k e (i:Int)) (rD acc i n.args.reverse):=by
  unfold AY;simp only [Int.toNat_natCast,nn,if_true,hn,Option.bind_some];rw [wrap64 (by omega) (by omega)];have:=Tw h hi hn hl n.args.length (Nat.le_refl _) i (Nat.le_refl _);rw [List.take_length]at this;refine Ev.bind this ?_;cases rD acc i n.args.reverse
  · simp only [Bool.false_eq_true,if_false,bZ];exact Ev.some
  · simp only [if_true,bT];exact Ev.some
theorem Tx {e:List Nd} {i:Nat} {acc:List Int} (h:oP e i acc): ∀(l:List Int) (nx:Nat),nx<=i->rD acc nx l=true-> ∀a∈l,0<=a/\a<(nx:Int)
  |[],_,_,_,a,ha=>by cases ha
  |a::l,nx,hnx,hp,x,hx=>by
    rw [rD,Bool.and_eq_true,Bool.and_eq_true,decide_eq_true_eq,decide_eq_true_eq]at hp;obtain⟨⟨h1,h2⟩,h3⟩:=hp;rcases List.mem_cons.1 hx with rfl|hx
    · omega
    · obtain⟨j,rfl⟩: ∃j,nx=j+1:=⟨nx -1,by omega⟩;have e2:(((j+1:Nat):Int) -1)=(j:Int):=by omega
      obtain⟨n',b,h4,h5,h6,h7,_⟩:=h.at_ j (by omega);rw [e2,Int.toNat_natCast,h5,Option.getD_some]at h3;obtain⟨b,rfl⟩: ∃b':Nat,b=b':=⟨b.toNat,by omega⟩;have:=Tx h l b (by omega) h3 x hx;omega
theorem oP.zero (e:List Nd):oP e 0 []:=⟨rfl,Nat.zero_le _,fun j hj=>absurd hj (Nat.not_lt_zero _)⟩
theorem oP.succ {e:List Nd} {i:Nat} {acc:List Int} (h:oP e i acc) {n:Nd} (hn:e[i]? =some n) (hp:rD acc i n.args.reverse=true):oP e (i+1) (acc++[yu acc n]):=by
  have hmem:=Tx h _ i (Nat.le_refl _) hp;have hlen:=h.len;refine⟨by simp [hlen],(List.getElem?_eq_some_iff.1 hn).1,fun j hj=> ?_⟩;have old: ∀(m:Nat) (b:Int),acc[m]? =some b->(acc++[yu acc n])[m]? =some b:=fun m b e=>by
    rw [List.getElem?_append_left (List.getElem?_eq_some_iff.1 e).1];exact e
  by_cases hj':j<i
  · obtain⟨n',b,h1,h2,h3,h4,h5,h6⟩:=h.at_ j hj';exact⟨n',b,h1,old _ _ h2,h3,h4,h5,fun a l ha=>⟨(h6 a l ha).1,(h6 a l ha).2.1,old _ _ (h6 a l ha).2.2⟩⟩
  · obtain rfl:j=i:=by omega
    have hnew:(acc++[yu acc n])[j]? =some (yu acc n):=by rw [List.getElem?_append_right (by omega),hlen,Nat.sub_self];rfl
    cases hargs:n.args with
    |nil=>
      have e1:yu acc n=(j:Int):=by unfold yu;rw [hargs];simp [hlen]
      exact⟨n,_,hn,hnew,by omega,by omega,fun _=>e1,fun a l ha=>by rw [hargs]at ha;cases ha⟩
    |cons a l=>
      have ha:=hmem a (by rw [hargs];simp);obtain⟨n',b,h1,h2,h3,h4,h5,h6⟩:=h.at_ a.toNat (by omega);have e1:yu acc n=b:=by unfold yu;rw [hargs];simp only [h2,Option.getD_some]
      rw [e1]at hnew old⊢;refine⟨n,b,hn,hnew,h3,by omega,(fun h=>by rw [hargs]at h;cases h),fun a' l' ha'=> ?_⟩;rw [hargs]at ha';cases ha';exact⟨ha.1,ha.2,old _ _ h2⟩
def mI:List Int->List Nd->List Int⊕(Int×Int)
  |acc,[]=> .inl acc
  |acc,n::l=>if eH (rD acc acc.length n.args.reverse) n≠0 then .inr ((acc.length:Int),eH (rD acc acc.length n.args.reverse) n)else mI (acc++[yu acc n]) l
theorem xw {n:Nd} {pl:Bool} (h:eH pl n=0):pl=true:=by
  cases pl with
  |true=>rfl
  |false=>
    exfalso;unfold eH at h;simp only [Bool.false_and,if_true]at h;split at h
    · cases h
    · split at h<;>cases h
theorem VB {e:List Nd} (hL:jd e): ∀i,i<=e.length-> ∀acc,oP e i acc->Ev (fun k=>nk k e (i:Int)) (match mI acc (e.drop i)with| .inl _=> .inl ()| .inr r=> .inr r):=by
  have hlen:=hL.len;refine down (fun acc h=> ?_) (fun i hi ih acc h=> ?_)
  · refine Ev.succ ?_;simp only [nk];exact Ev.cF (kV _) (Ev.some' (by simp [mI]))
  · refine Ev.succ ?_;obtain⟨h1,h2,h3⟩:=hL.nd i _ (bM hi);simp only [nk];refine Ev.cT (mZ hi) (Ev.bind (Yi e i e[i] _ (bM hi) (Z7 h (by omega) (bM hi) h3) h1 h2 h3) ?_);rw [drop_cons hi,mI,h.len];by_cases hc:eH (rD acc i e[i].args.reverse) e[i]=0
    · refine Ev.cF (by rw [hc];rfl) ?_;rw [fK hi (by omega)];refine(ih _ (h.succ (bM hi) (xw hc))).to ?_;simp only [hc,ne_eq,not_true_eq_false,if_false]
    · refine Ev.cT (by rw [bne_iff_ne];exact hc) (Ev.some' ?_);simp only [ne_eq,hc,not_false_eq_true,if_true]
theorem zJ {sz:Nat}: ∀(es:List (List PV)) (rest:List PV),(∀cs∈es,cs.length=sz)->chunks sz es.length (es.flatten++rest)=es
  |[],rest,_=>by simp [chunks]
  |c::es,rest,h=>by
    have hc:=h c (List.mem_cons_self ..);have ih:=zJ es rest fun cs hcs=>h cs (List.mem_cons_of_mem _ hcs);unfold chunks at ih⊢;rw [List.length_cons,List.range_succ_eq_map,List.map_cons,List.map_map,List.flatten_cons,List.append_assoc];congr 1
    · rw [Nat.zero_mul,List.drop_zero,<-hc,List.take_left]
    · conv=>rhs;rw [<-ih]
      refine List.map_congr_left fun i _=> ?_;simp only [Function.comp];rw [show(i+1)*sz=sz+i*sz by rw [Nat.add_mul,Nat.one_mul,Nat.add_comm],<-List.drop_drop];congr 2
      rw [<-hc,List.drop_left]
theorem nJ {α:Type} {sz:Nat} {f:α->List PV} (hf: ∀x,(f x).length=sz): ∀l:List α,((l.map f).flatten).length=l.length*sz
  |[]=>by simp
  |x::l=>by rw [List.map_cons,List.flatten_cons,List.length_append,hf,nJ hf l,List.length_cons,Nat.succ_mul,Nat.add_comm]
theorem UL {α:Type} {sz:Nat} {f:α->List PV} (hf: ∀x,(f x).length=sz): ∀(l:List α) (i:Nat),((l.map f).flatten).drop (i*sz)=((l.drop i).map f).flatten
  |l,0=>by simp
  |[],i+1=>by simp
  |x::l,i+1=>by
    rw [List.map_cons,List.flatten_cons,Nat.succ_mul,Nat.add_comm,<-List.drop_drop];have:List.drop sz (f x++(l.map f).flatten)=(l.map f).flatten:=by rw [<-hf x,List.drop_left]
    rw [this,UL hf l i,List.drop_succ_cons]
theorem Yk (A fa B vs:List PV) {j:Nat} (h:j+vs.length<=fa.length):putCells (A++(fa++B)) (A.length+j) vs=A++(putCells fa j vs++B):=by
  have h1:j -fa.length=0:=by omega
  have h2:A.length+j+vs.length -A.length=j+vs.length:=by omega
  have h3:j+vs.length -fa.length=0:=by omega
  have h4:A.take (A.length+j)=A:=List.take_of_length_le (by omega);have h5:A.drop (A.length+j+vs.length)=[]:=List.drop_eq_nil_of_le (by omega);have h6:A.length+j -A.length=j:=by omega
  simp only [putCells,List.take_append,List.drop_append,h1,h2,h3,h4,h5,h6,List.take_zero,List.drop_zero,List.append_nil,List.nil_append,List.append_assoc]
theorem UM (z:List PV): ∀n,((List.replicate n z).flatten).length=n*z.length
  |0=>by simp
  |n+1=>by rw [List.replicate_succ,List.flatten_cons,List.length_append,UM z n,Nat.add_mul,Nat.one_mul,Nat.add_comm]
theorem Yl {α:Type} {l:List α} {i:Nat} {x:α} (h:l[i]? =some x):l.drop i=x::l.drop (i+1):=by
  have hlt:=(List.getElem?_eq_some_iff.1 h).1;rw [List.drop_eq_getElem_cons hlt];congr 1
  exact(List.getElem?_eq_some_iff.1 h).2
def aK {α:Type} (H:AH) (f:α->List PV) (sz:Nat) (l:List α) (v:PV) (ids:List Nat):Prop:=
  (v= .aB [] .nil/\l=[]/\ids=[])\/ ∃id cap junk,ids=[id]/\v= .dh id 0 l.length cap sz/\l.length<=cap/\id<H.next/\H.obj id=some ((l.map f).flatten++junk)/\junk.length=(cap -l.length)*sz
def Nw (H:AH) (ids jD:List Nat):Prop:= ∀i∈jD,i∈ids\/H.next<=i
theorem Nw.refl {H:AH} {ids:List Nat}:Nw H ids ids:=fun _ h=> .inl h
theorem Nw.trans {H H':AH} {a b c:List Nat} (h:Nw H a b) (hn:H.next<=H'.next) (k:Nw H' b c):Nw H a c:=fun i hi=>by
  rcases k i hi with q|q
  · exact h i q
  · exact .inr (Nat.le_trans hn q)
theorem Nw.via {H H':AH} {M N c:List Nat} (h: ∀i∈N,i∈M\/H.next<=i) (hn:H.next<=H'.next) (k:Nw H' N c):Nw H M c:=fun i hi=>by
  rcases k i hi with q|q
  · exact h i q
  · exact .inr (Nat.le_trans hn q)
def Dj (a b:List Nat):Prop:= ∀i∈a,i∉b
theorem Dj.nil {b:List Nat}:Dj [] b:=fun _ h=>by cases h
theorem Dj.symm {a b:List Nat} (h:Dj a b):Dj b a:=fun i hi hj=>h i hj hi
section
variable {α:Type} {H H':AH} {f:α->List PV} {sz:Nat} {l:List α} {v:PV} {ids:List Nat}
theorem aK.nil:aK H f sz ([]:List α) (.aB [] .nil) []:= .inl ⟨rfl,rfl,rfl⟩
theorem aK.lt (h:aK H f sz l v ids): ∀i∈ids,i<H.next:=by
  rcases h with⟨_,_,rfl⟩|⟨id,cap,junk,rfl,_,_,h,_⟩
  · intro i hi;cases hi
  · intro i hi;rw [List.mem_singleton.1 hi];exact h
theorem aK.hf {M:List Nat} (h:aK H f sz l v ids) (hf:HF M H H') (hd:Dj ids M):aK H' f sz l v ids:=by
  rcases h with⟨h1,h2,h3⟩|⟨id,cap,junk,rfl,h1,h2,h3,h4,h5⟩
  · exact .inl ⟨h1,h2,h3⟩
  · exact .inr ⟨id,cap,junk,rfl,h1,h2,Nat.lt_of_lt_of_le h3 hf.1,(hf.2 id h3 (hd id (List.mem_singleton.2 rfl))).trans h4,h5⟩
theorem aK.new {cs:List PV} (h:aK H f sz l v ids):aK (H.new cs) f sz l v ids:=h.hf (M:=[]) (HF.new (HF.refl _ _)) (fun _ _ h=>by cases h)
theorem aK.put {id:Nat} {cs:List PV} (h:aK H f sz l v ids) (hn:id∉ids):aK (H.put id cs) f sz l v ids:=
  h.hf (M:=[id]) (HF.put (.inl (List.mem_singleton.2 rfl)) (HF.refl _ _)) (fun i hi hj=>hn (List.mem_singleton.1 hj▸hi))
theorem aK.Ym (h:aK H f sz l v ids):CZ v=some (.int .i64 l.length):=by
  rcases h with⟨rfl,rfl,_⟩|⟨id,cap,junk,rfl,rfl,_⟩
  · rfl
  · rfl
theorem aK.at (h:aK H f sz l v ids) {i:Nat} {x:α} (hx:l[i]? =some x): ∃id cap junk,ids=[id]/\v= .dh id 0 l.length cap sz/\l.length<=cap/\id<H.next/\H.obj id=some ((l.map f).flatten++junk)/\junk.length=(cap -l.length)*sz:=by
  rcases h with⟨_,rfl,_⟩|h
  · simp at hx
  · exact h
theorem aK.content [hr:rR f sz] (h:aK H f sz l v ids) {i:Nat} {x:α} (hx:l[i]? =some x):
    ∃id C,ids=[id]/\id<H.next/\H.obj id=some C/\(∀j c,(f x)[j]? =some c->C[i*sz+j]? =some c)/\(∀j,j<=sz->i*sz+j<=C.length)/\(C.drop (i*sz)).take sz=f x/\
      ∀k n,0<=n->n.toNat=i->jG sz v (.int k n)=some (.ref id (i*sz)):=by
  obtain⟨id,cap,junk,rfl,rfl,h2,h3,h4,h5⟩:=h.at hx;have hlt:=(List.getElem?_eq_some_iff.1 hx).1;have hd:((l.map f).flatten++junk).drop (i*sz)=f x++(((l.drop (i+1)).map f).flatten++junk):=by
    rw [List.drop_append_of_le_length (by rw [nJ hr.len];exact Nat.mul_le_mul_right _ (by omega)),UL hr.len,Yl hx];simp
  have hlen:i*sz+sz<=((l.map f).flatten++junk).length:=by
    rw [List.length_append,nJ hr.len];have:(i+1)*sz<=l.length*sz:=Nat.mul_le_mul_right _ hlt;rw [Nat.succ_mul]at this;omega
  refine⟨id,_,rfl,h3,h4,fun j c hc=> ?_,fun j hj=>by omega,?_,fun k n hn he=> ?_⟩
  · rw [<-List.getElem?_drop,hd];have hj:j<(f x).length:=(List.getElem?_eq_some_iff.1 hc).1;rw [List.getElem?_append_left hj];exact hc
  · rw [hd,List.take_append_of_le_length (by rw [hr.len];exact Nat.le_refl _),List.take_of_length_le (by rw [hr.len];exact Nat.le_refl _)]
  · subst he;have h6:n<(l.length:Int):=by omega
    simp [jG,hn,h6]
theorem aK.fz (hp: ∀x,∀c∈f x,Pu c) [hr:rR f sz] (h:aK H f sz l v ids):Fz H v (.aB (l.map f) .unk):=by
  rcases h with⟨rfl,rfl,_⟩|⟨id,cap,junk,rfl,rfl,h2,h3,h4,h5⟩
  · exact dN hp [] .nil
  · refine .dh id 0 l.length cap sz _ _ (fun i j=>((l.map f)[i]?.bind (·[j]?)).getD .any) h4 (by simp) h2 (fun i cs e=> ?_) (fun i cs e j c ec=> ?_) (fun i cs e j c ec=> ?_)
    · simp only [List.getElem?_map,Option.map_eq_some_iff]at e;obtain⟨x,_,rfl⟩:=e;exact hr.len x
    · have e':=e;simp only [List.getElem?_map,Option.map_eq_some_iff]at e;obtain⟨x,hx,rfl⟩:=e;have hrow:aK H f sz l (.dh id 0 l.length cap sz) [id]:= .inr ⟨id,cap,junk,rfl,rfl,h2,h3,h4,h5⟩;obtain⟨id',C,e1,_,e2,e3,_⟩:=hrow.content hx;cases e1;rw [h4]at e2;cases e2;rw [e',Option.bind_some,ec,Option.getD_some,Nat.zero_add];exact e3 j c ec
    · rw [e,Option.bind_some,ec,Option.getD_some];simp only [List.getElem?_map,Option.map_eq_some_iff]at e;obtain⟨x,_,rfl⟩:=e;exact .pure _ (hp x c (List.mem_of_getElem? ec))
end
variable [Glob]
section
variable {P:Program} {Q:Post} {σ:Nat->PV} {s:List Fm} {α:Type} {H:AH} {f:α->List PV} {sz:Nat} {v:PV} {ids:List Nat}
theorem BX {d:Option Nat} {b:Nat} {x y:AE} {l:List aQ} [hr:rR f sz] (hf: ∀x,nP sz (f x)) (xs ys:List α) (c2:Ck)
    (hx:x.ev σ=v) (hrow:aK H f sz xs v ids) (hy:y.ev σ= .aB (ys.map f) c2) (hs:0<ys.length) (hb:(xs.length+ys.length)*b<=1099511627776)
    (h: ∀(v':PV) (jD:List Nat) (H':AH),aK H' f sz (xs++ys) v' jD->Nw H ids jD->HF ids H H'->(∀c3,cB H c3->cB H' c3)->WO P l s Q (upd σ d v') H'):
    WO P (⟨d,.n (.app sz b x y),none⟩::l) s Q σ H:=by
  show cO P _ _ σ H
  rw [GJ];simp only [nop,hx,hy];have h0: ¬((ys.map f).length=0):=by rw [List.length_map];omega
  have fresh: ∀(es:List (List PV)),es=xs.map f->xY sz b H es (ys.map f) (fun p H'=>cO P l (Eb P s Q .normal) (upd σ d p) H'):=by
    intro es he cap hcap;subst he;simp only [List.length_map]at hcap⊢;refine h _ [H.next] _ (.inr ⟨H.next,cap,List.replicate ((cap -(xs.length+ys.length))*sz) .any,rfl,by rw [List.length_append],by rw [List.length_append];exact hcap,Nat.lt_succ_self _,?_,by rw [List.length_replicate,List.length_append]⟩) (fun i hi=> .inr (by rw [List.mem_singleton.1 hi];exact Nat.le_refl _)) (HF.new (HF.refl _ _)) (fun c3 k=>k.new);show(if H.next=H.next then some _ else _)=_
    rw [if_pos rfl,List.map_append]
  rcases hrow with⟨rfl,rfl,rfl⟩|⟨id,cap,junk,rfl,rfl,h2,h3,h4,h5⟩
  · simp only [uJ,rowOf];rw [if_neg h0];split
    · exact fresh [] rfl
    · rename_i hno;exact(hno ⟨uP hf ([]:List α),uP hf ys,by simpa using hb⟩).elim
  · have hfl:=nJ (f:=f) hr.len xs;have hrow:rowOf sz H (.dh id 0 xs.length cap sz)=some (xs.map f):=by
      simp only [rowOf,h4];rw [if_pos ⟨trivial,by rw [List.length_append,hfl];omega⟩,List.drop_zero];have:=zJ (sz:=sz) (xs.map f) junk (fun cs hcs=>by obtain⟨x,_,rfl⟩:=List.mem_map.1 hcs;exact hr.len x);rw [List.length_map]at this;rw [this]
    simp only [uJ,hrow];have:rowOf sz H (.aB (ys.map f) c2)=some (ys.map f):=rfl;simp only [this];rw [if_neg h0,if_pos ⟨uP hf xs,uP hf ys,by simpa using hb⟩];simp only [List.length_map];by_cases hc:xs.length+ys.length<=cap
    · rw [if_pos hc,h4];have hsz:cap -xs.length=(cap -(xs.length+ys.length))+ys.length:=by omega
      have h6:0+(xs.length+ys.length)*sz<=((xs.map f).flatten++junk).length:=by
        rw [List.length_append,hfl,h5,Nat.add_mul,hsz,Nat.add_mul];omega
      simp only;rw [if_pos h6];have hyl:=nJ (f:=f) hr.len ys;have hput:putCells ((xs.map f).flatten++junk) (0+xs.length*sz) (ys.map f).flatten=((xs++ys).map f).flatten++junk.drop (ys.length*sz):=by
        rw [Nat.zero_add,putCells,<-hfl,List.take_left,hyl,<-List.drop_drop,List.drop_left,List.map_append,List.flatten_append]
      rw [hput];refine h _ [id] _ (.inr ⟨id,cap,junk.drop (ys.length*sz),rfl,by rw [List.length_append],by rw [List.length_append];exact hc,h3,?_,?_⟩) Nw.refl (HF.put (.inl (List.mem_singleton.2 rfl)) (HF.refl _ _)) (fun c3 k=>k.put)
      · show(if id=id then some _ else _)=_
        rw [if_pos rfl]
      · rw [List.length_drop,h5,List.length_append,hsz,Nat.add_mul];omega
    · rw [if_neg hc,if_pos h2];have hfr:=fresh _ rfl;intro cap' apm;exact hfr cap' apm
theorem Yn {d:Option Nat} {bytes:Nat} {zero:List PV} {x y:AE} {l:List aQ} [hr:rR f sz] (z:α) (hz:f z=zero) {k k':IntKind} {n c:Int} (hx:x.ev σ= .int k n) (hy:y.ev σ= .int k' c)
    (hb:0<=n/\n<=c/\c<=1099511627776/\bytes*c<=1099511627776) (hs:0<sz)
    (h: ∀(v':PV) (jD:List Nat) (H':AH),aK H' f sz (List.replicate n.toNat z) v' jD->Nw H [] jD->HF [] H H'->(∀c3,cB H c3->cB H' c3)->WO P l s Q (upd σ d v') H'):
    WO P (⟨d,.d (.wW sz bytes zero x y),none⟩::l) s Q σ H:=by
  show WD P (kM (.wW sz bytes zero x y) σ H) d l s Q σ
  simp only [kM,hx,hy];rw [if_pos ⟨hb.1,hb.2.1,hb.2.2.1,hb.2.2.2,by rw [<-hz,hr.len],hs⟩];show WO P l s Q (upd σ d _) _
  have hn:(List.replicate n.toNat z).length=n.toNat:=List.length_replicate;refine h _ [H.next] _ (.inr ⟨H.next,c.toNat,(List.replicate (c.toNat -n.toNat) zero).flatten,rfl,by rw [hn],by rw [hn];omega,Nat.lt_succ_self _,?_,?_⟩) (fun i hi=> .inr (by rw [List.mem_singleton.1 hi];exact Nat.le_refl _)) (HF.new (HF.refl _ _)) (fun c3 k=>k.new)
  · show(if H.next=H.next then some _ else _)=_
    rw [if_pos rfl,List.map_replicate,hz,<-List.flatten_append,List.replicate_append_replicate];congr 3
    omega
  · rw [hn,UM,<-hz,hr.len]
theorem nK {d:Option Nat} {n:Nat} {x w:AE} {l:List aQ} [hr:rR f sz] {xs:List α} {id o i j:Nat} {a y:α} {vs:List PV}
    (hx:x.ev σ= .ref id o) (hid:ids=[id]) (ho:o=i*sz+j) (hrow:aK H f sz xs v ids) (ha:xs[i]? =some a) (hv:cellsOf (w.ev σ)=some vs) (hl:vs.length=n) (hone:vs.all PV.one=true) (hj:j+n<=sz) (hy:putCells (f a) j vs=f y)
    (h: ∀H':AH,aK H' f sz (xs.set i y) v ids->HF ids H H'->(∀c3,cB H c3->cB H' c3)->WO P l s Q (upd σ d .any) H'):
    WO P (⟨d,.d (.store n x w),none⟩::l) s Q σ H:=by
  obtain⟨id',cap,junk,e1,rfl,h2,h3,h4,h5⟩:=hrow.at ha;subst hid;cases e1;have hlt:=(List.getElem?_eq_some_iff.1 ha).1;have hfl:=nJ (f:=f) hr.len xs;have hle:o+n<=((xs.map f).flatten++junk).length:=by
    rw [List.length_append,hfl,ho];have:(i+1)*sz<=xs.length*sz:=Nat.mul_le_mul_right _ hlt;rw [Nat.succ_mul]at this;omega
  show WD P (kM (.store n x w) σ H) d l s Q σ
  simp only [kM,hx,hv,h4];rw [if_pos ⟨hl,hle,hone⟩];show WO P l s Q (upd σ d .any) _
  have hxs:xs=xs.take i++a::xs.drop (i+1):=by rw [<-Yl ha,List.take_append_drop]
  have hA:((xs.take i).map f).flatten.length=i*sz:=by rw [nJ hr.len,List.length_take];congr 1;omega
  have hput:putCells ((xs.map f).flatten++junk) o vs=((xs.set i y).map f).flatten++junk:=by
    have e2:(xs.map f).flatten++junk=((xs.take i).map f).flatten++(f a++(((xs.drop (i+1)).map f).flatten++junk)):=by
      conv=>lhs;rw [hxs]
      simp
    have e3:xs.set i y=xs.take i++y::xs.drop (i+1):=by rw [List.set_eq_take_append_cons_drop,if_pos hlt]
    rw [e2,e3,ho,<-hA,Yk _ _ _ _ (by rw [hr.len,hl];exact hj),hy];simp
  rw [hput];refine h _ (.inr ⟨id,cap,junk,rfl,by rw [List.length_set],by rw [List.length_set];exact h2,h3,?_,by rw [List.length_set];exact h5⟩) (HF.put (.inl (List.mem_singleton.2 rfl)) (HF.refl _ _)) (fun c3 k=>k.put);show(if id=id then some _ else _)=_
  rw [if_pos rfl]
end
end Go.VL
end
section
namespace Go.VL
open Go.RowKit
variable [Glob]
section
variable {P:Program} {B:Nat->Prop} {G:Gh} {H:AH} {w w':World}
theorem HM.below (hM:HM B H G w) (h:Below w.heap.size w w'):HM B H G w':=by
  have hlt: ∀b arr t fr,w.heap[b]? =some (.cells arr t fr)->b<w.heap.size:=fun b arr t fr e=>(Array.getElem?_eq_some_iff.1 e).1
  exact{
    glob:=hM.glob
    nT:=fun a x e=>by
      have hc:=hM.nT a x e;exact(World.cell?_of_block (h.block _ (World.block_lt_of_cell? w a hc))).trans hc
    obj:=fun id cs e=>by
      obtain⟨k0,b,arr,t,k1,k2,k3,k4,k5⟩:=hM.obj id cs e;exact⟨k0,b,arr,t,k1,k2,(h.block b (hlt _ _ _ _ k3)).trans k3,k4,k5⟩
    inj:=hM.inj
    tok:=fun k e=>by
      obtain⟨k0,b,o,arr,t,k1,k2,k3,k5⟩:=hM.tok k e;exact⟨k0,b,o,arr,t,k1,k2,(h.block b (hlt _ _ _ _ k3)).trans k3,k5⟩
    oO:=hM.oO
    tobj:=hM.tobj
    wh:=hM.wh.keep fun b _ hb=>h.block b hb}
theorem Tr.below (h:Below w.heap.size w w'):Tr B w w':=
  ⟨h.size,fun b hb _=>h.block b hb,h.os,h.tape,h.output,fun b o e _=>(h.block b (Array.getElem?_eq_some_iff.1 e).1).trans e⟩
theorem UN {f:FuncId} {args:List PV} {r:PV} (he:Enters P f)
    (h: ∀(w:World) (G:Gh) (vs:Array Value),(∀a x,Glob.gc a=some x->w.cell? a=some x)->(∀a x,G.F a=some x->w.cell? a=some x)->WH (fun b=>w.heap.size<=b) w->Vs G 0 args vs->Calls P f vs w fun e w'=> ∃v,e= .returned v/\Below w.heap.size w w'/\ ∀G n,V G n r v)
    (hp: ∀a∈args,Pu a):aF P f args r:=by
  intro H;refine⟨he,fun B G w vs hU hM hv=> ?_⟩;have hv':Vs ⟨G.F,fun _=>none,fun _=>none⟩ 0 args vs:=⟨hv.1,fun j c x hc hx=>V.pure (G:=G) (G':=⟨G.F,fun _=>none,fun _=>none⟩) (n':=0) (fun(_:Addr) (_:Value) e=>e) (hv.2 j c x hc hx) (hp c (List.mem_of_getElem? hc))⟩;refine(h w ⟨G.F,fun _=>none,fun _=>none⟩ vs (fun a x e=>hM.nT a x (hM.glob a x e)) hM.nT hM.wh.old hv').mono ?_;rintro e w' ⟨v,h1,h2,h3⟩;exact⟨r,v,H,G,h1,Tr.below h2,Ext.refl B _ G,Nat.le_refl _,hM.below h2,h3 G _,rfl,rfl⟩
theorem IL {f:FuncId} {args:List PV} {r:PV} (he:Enters P f)
    (h: ∀(w:World) (G:Gh) (vs:Array Value),(∀a x,Glob.gc a=some x->w.cell? a=some x)->(∀a x,G.F a=some x->w.cell? a=some x)->Vs G 0 args vs->Calls P f vs w fun e w'=> ∃v,e= .returned v/\Below w.heap.size w w'/\ ∀G n,V G n r v)
    (hp: ∀a∈args,Pu a):aF P f args r:=UN he (fun w G vs h1 h2 _=>h w G vs h1 h2) hp
theorem Gp {f:FuncId} {args:List PV} {r:PV} (he:Enters P f)
    (h: ∀(w:World) (G:Gh) (vs:Array Value),(∀a x,Glob.gc a=some x->w.cell? a=some x)->(∀a x,G.F a=some x->w.cell? a=some x)->Vs G 0 args vs->Calls P f vs w fun e w'=> ∃v,e= .returned v/\Below w.heap.size w w'/\
      ∀(G':Gh) (n:Nat),(∀a x,w.heap.size<=a.block->w'.cell? a=some x->G'.F a=some x)->V G' n r v)
    (hp: ∀a∈args,Pu a):aF P f args r:=by
  intro H;refine⟨he,fun B G w vs hU hM hv=> ?_⟩;have hv':Vs ⟨G.F,fun _=>none,fun _=>none⟩ 0 args vs:=⟨hv.1,fun j c x hc hx=>V.pure (G:=G) (G':=⟨G.F,fun _=>none,fun _=>none⟩) (n':=0) (fun(_:Addr) (_:Value) e=>e) (hv.2 j c x hc hx) (hp c (List.mem_of_getElem? hc))⟩;refine(h w ⟨G.F,fun _=>none,fun _=>none⟩ vs (fun a x e=>hM.nT a x (hM.glob a x e)) hM.nT hv').mono ?_;rintro e w' ⟨v,h1,h2,h3⟩;have hM1:=hM.below h2
  let G2:Gh:=⟨fun a=>match G.F a with|some x=>some x|none=>if w.heap.size<=a.block then w'.cell? a else none,G.m,G.τ⟩
  have hF: ∀a x,G.F a=some x->G2.F a=some x:=fun a x e=>by simp only [G2,e]
  have hnone: ∀a,a.block<w.heap.size->G.F a=none->G2.F a=none:=fun a ha e=>by
    simp only [G2,e];rw [if_neg (by omega)]
  have hE:Ext B H.next G G2:=⟨hF,fun _ _=>rfl,fun _ _=>rfl,fun a e1 e2=>hU _ (by
    rcases Nat.lt_or_ge a.block w.heap.size with q|q
    · exact absurd (hnone a q e1) e2
    · exact q)⟩
  have apn: ∀a x,G2.F a=some x->w'.cell? a=some x:=fun a x e=>by
    simp only [G2]at e;split at e
    · rename_i y hy;cases e;exact hM1.nT a x hy
    · split at e
      · exact e
      · cases e
  have hlt: ∀b arr t fr,w.heap[b]? =some (.cells arr t fr)->b<w.heap.size:=fun b arr t fr e=>(Array.getElem?_eq_some_iff.1 e).1
  have hM2:HM B H G2 w':={
    glob:=fun a x e=>hF a x (hM.glob a x e)
    nT:=apn
    obj:=fun id cs e=>by
      obtain⟨k0,b,arr,t,k1,k2,k3,k4,k5⟩:=hM.obj id cs e;have hb:=hlt _ _ _ _ k3;exact⟨k0,b,arr,t,k1,k2,(h2.block b hb).trans k3,k4.mono hE (Nat.le_refl _),fun off=>hnone _ hb (k5 off)⟩
    inj:=hM.inj
    tok:=fun k e=>by
      obtain⟨k0,b,o,arr,t,k1,k2,k3,k5⟩:=hM.tok k e;have hb:=hlt _ _ _ _ k3;exact⟨k0,b,o,arr,t,k1,k2,(h2.block b hb).trans k3,fun off ho=>hnone _ hb (k5 off ho)⟩
    oO:=hM.oO
    tobj:=hM.tobj
    wh:=hM.wh.keep fun b _ hb=>h2.block b hb}
  refine⟨r,v,H,G2,h1,Tr.below h2,hE,Nat.le_refl _,hM2,h3 G2 _ (fun a x ha e=> ?_),rfl,rfl⟩;cases hg:G.F a with
  |some y=>
    have:=hM1.nT a y hg;rw [e]at this;cases this;simp only [G2,hg]
  |none=>simp only [G2,hg];rw [if_pos ha];exact e
theorem Vs.str2 {n:Nat} {s t:List UInt8} {vs:Array Value} (h:Vs G n [.str s,.str t] vs):vs=#[.string ⟨s.toArray⟩,.string ⟨t.toArray⟩]:=by
  obtain⟨h1,h2⟩:=h
  match vs,h1,h2 with
  |⟨[v,u]⟩,_,h2=>
    have a:=h2 0 (.str s) v rfl rfl;have b:=h2 1 (.str t) u rfl rfl;cases a;cases b;rfl
theorem Vs.asF {n:Nat} {k:IntKind} {x:Int} {vs:Array Value} (h:Vs G n [.int k x] vs):vs=#[.int k x]:=by
  obtain⟨h1,h2⟩:=h
  match vs,h1,h2 with
  |⟨[v]⟩,_,h2=>
    have:=h2 0 (.int k x) v rfl rfl;cases this;rfl
theorem Vs.aji {n:Nat} {l:List (List UInt8)} {t:List UInt8} {vs:Array Value} (hi: ∀a x,G.F a=some x->w.cell? a=some x) (h:Vs G n [.aB (l.map aX) .unk,.str t] vs):
    (∃ad cap,l.length<=cap/\vs=#[.slice ad l.length cap,.string ⟨t.toArray⟩]/\(l≠[]-> ∃b o,ad=some ⟨b,o,none⟩/\b<w.heap.size/\ ∀(j:Nat) (x:ByteArray),(l.map fun s=>(⟨s.toArray⟩:ByteArray))[j]? =some x->w.cell? ⟨b,o+j,none⟩=some (.string x))):=by
  obtain⟨h1,h2⟩:=h
  match vs,h1,h2 with
  |⟨[v,u]⟩,_,h2=>
    have a:=h2 0 _ v rfl rfl;have b:=h2 1 (.str t) u rfl rfl;cases b;generalize hes:l.map aX=es at a;have hl:l.length=es.length:=by rw [<-hes];simp
    cases a with
    |aB _ _ sz ad cap f k1 k2 k3 k4 k5=>
      refine⟨ad,cap,by omega,by rw [hl],fun hne=> ?_⟩;have hne':es≠[]:=fun e=>hne (List.eq_nil_of_length_eq_zero (by rw [hl,e];rfl));obtain⟨bk,o,rfl,k6⟩:=k3 hne';have get: ∀j s,l[j]? =some s->es[j]? =some (aX s):=fun j s e=>by rw [<-hes,List.getElem?_map,e];rfl
      have hsz:sz=1:=by
        obtain⟨s,l',rfl⟩:=List.exists_cons_of_ne_nil hne;have:=k1 0 _ (get 0 s rfl);exact this.symm
      subst hsz;have cell: ∀j s,l[j]? =some s->w.cell? ⟨bk,o+j,none⟩=some (.string ⟨s.toArray⟩):=fun j s e=>by
        have e1:=get j s e;have e2:=k6 j _ e1 0 (.str s) rfl;have e3:=k4 j _ 0 (.str s) e1 rfl;generalize f j 0=v at e2 e3;cases e3;have:=hi _ _ e2;simpa using this
      refine⟨bk,o,rfl,?_,fun j x e=> ?_⟩
      · obtain⟨s,l',rfl⟩:=List.exists_cons_of_ne_nil hne;exact World.block_lt_of_cell? w _ (cell 0 s rfl)
      · simp only [List.getElem?_map,Option.map_eq_some_iff]at e;obtain⟨s,e1,rfl⟩:=e;exact cell j s e1
end
end Go.VL
end
