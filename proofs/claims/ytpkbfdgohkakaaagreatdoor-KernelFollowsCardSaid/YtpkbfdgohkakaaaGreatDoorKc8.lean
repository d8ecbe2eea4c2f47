/- Part 8. -/
import Derived.Test.YtpkbfdgohkakaaaGreatDoorKc7
import Derived.IntWalk
import Derived.KernelRfl
import Derived.Laws.RangeAny
set_option maxRecDepth 8000
set_option linter.unusedVariables false
set_option linter.unusedSectionVars false
set_option linter.unusedSimpArgs false
section
set_option maxHeartbeats 4000000
namespace Go.VL
open Go.Proofs
def QG (Bq:Bool):Option Int:=
 cond Bq (some 1) (some 0)
instance asG (Bq:Bool):dN Tryz.prog 87 [(.bool Bq)] (QG Bq) (fun r=>(.int .i64 r)):=bZ aEU (by unfold QG avH;exact bJ)
theorem agC {Bq:Bool} {r:Int} (h:QG Bq=some r):aD Tryz.prog 87 [(.bool Bq)] (.int .i64 r):=(asG _).c _ h
def dP (aY:Int) (MZ:Int) (IX:Int):Option Bool:=
 cond (decide (aY>=MZ)) (some (decide (aY<=IX))) (some false)
instance afj (aY:Int) (MZ:Int) (IX:Int):dN Tryz.prog 29 [(.int .i64 aY),(.int .i64 MZ),(.int .i64 IX)] (dP aY MZ IX) (fun r=>(.bool r)):=bZ aEE (by unfold dP avl;exact bJ)
theorem iE {aY:Int} {MZ:Int} {IX:Int} {r:Bool} (h:dP aY MZ IX=some r):aD Tryz.prog 29 [(.int .i64 aY),(.int .i64 MZ),(.int .i64 IX)] (.bool r):=(afj _ _ _).c _ h
def nM:Nat->(List Str)->Str->Int->Option (Unit⊕Bool)
 |0,_,_,_=>none
 |k+1,aX,s_1,gG=>
  cond (decide (gG<(aX.length:Int))) (if 0<=gG then (aX[gG.toNat]?).bind fun x3=>cond (x3==s_1) (some (.inr (true))) (nM k aX s_1 (IntKind.wrap .i64 (gG+1)))else none) (some (.inl ()))
instance aqF (k:Nat): ∀(aX:List Str) (s_1:Str) (gG:Int),Lp Tryz.prog (.loop Yg) (nM k aX s_1 gG) [(4,18)] [(0,(.ah (aX.map aF) .unk)),(1,(.str s_1)),(5,(.int .i64 gG))] (Sum.elim (fun p=>(.exit 0,[])) (fun p=>(.ret,[(4,(.bool p))]))):=by
 induction k with
 |zero=>exact fun _ _ _=>qL rfl
 |succ k ih=>exact fun _ _ _=>qM Yg.eq_1 (by unfold nM;exact bW)
def nG (k:Nat) (aX:List Str) (s_1:Str):Option Bool:=
 Option.bind (nM k aX s_1 0) (fun o=>Sum.elim (fun p8=>some false) (fun pK=>some pK) o)
instance acp (k:Nat) (aX:List Str) (s_1:Str):dN Tryz.prog 85 [(.ah (aX.map aF) .unk),(.str s_1)] (nG k aX s_1) (fun r=>(.bool r)):=bZ aET (by unfold nG avG;exact bJ)
theorem CG {k:Nat} {aX:List Str} {s_1:Str} {c0:Ck} {r:Bool} (h:nG k aX s_1=some r):aD Tryz.prog 85 [(.ah (aX.map aF) c0),(.str s_1)] (.bool r):=((acp _ _ _).c _ h).wk (.ah (.same .nil))
def oK:Nat->(List Operator)->(List Operator)->Int->Option (List Operator)
 |0,_,_,_=>none
 |k+1,xV,CJ,dV=>
  cond (decide (dV<(CJ.length:Int))) (if 0<=dV then (CJ[dV.toNat]?).bind fun x3=>(QG (x3.fix==1)).bind fun p6=>cond (x3.text==([92,88]:Str)) (if(xV.length+1)*64<=1099511627776 then oK k (xV++[(Operator.mk x3.text x3.fix x3.low x3.high x3.left (IntKind.wrap .i64 (1+p6)) 4)]) CJ (IntKind.wrap .i64 (dV+1))else none) (if(xV.length+1)*64<=1099511627776 then oK k (xV++[(Operator.mk x3.text x3.fix x3.low x3.high x3.left (IntKind.wrap .i64 (1+p6)) (IntKind.wrap .i64 (1+p6)))]) CJ (IntKind.wrap .i64 (dV+1))else none)else none) (some (xV))
def Ri:List Nat:=[1,3,4]++List.range' 48 27
theorem acr: ∀(k:Nat) (xV:List Operator) (CJ:List Operator) (dV:Int) (wu:Ck) (CK:Ck) (aC σ:Nat->PV) (H0 H:AH) (f0:Fr Ri aC σ) (hf0:HF [] H0 H) (sl:σ 1=(.ah (xV.map Operator.cells) wu)/\σ 2=(.ah (CJ.map Operator.cells) CK)/\σ 3=(.int .i64 dV)) (acs:bf H wu) (o:List Operator) (h:oK k xV CJ dV=some o) (Q:Post) (q0: ∀(p:List Operator) (c0:Ck) (σ':Nat->PV) (H':AH),o=p->Fr Ri aC σ'->HF [] H0 H'->(σ' 1=(.ah (p.map Operator.cells) c0))->Q (.exit 0) σ' H'),W Tryz.prog (.loop Td) Q σ H:=by
 intro k
 induction k with
 |zero=>intro xV CJ dV wu CK aC σ H0 H f0 hf0 sl acs o h Q q0;simp only [oK,reduceCtorEq]at h
 |succ k ih=>
  intro xV CJ dV wu CK aC σ H0 H f0 hf0 sl acs o h Q q0;obtain⟨s1,s2,s3⟩:=sl;have hle0:=hf0.1;unfold oK at h;refine bA (fun K hK=>aJ ?_);unfold Td;obtain⟨e1,h⟩|⟨e1,h⟩:=aA h
  ·obtain⟨e2,h⟩:=aZ h;obtain⟨x3,e4,h⟩:=ak h;obtain⟨p6,e5,h⟩:=ak h;refine aj ?_;refine au (agC e5) ?_;obtain⟨e7,h⟩|⟨e7,h⟩:=aA h
   ·obtain⟨e12,h⟩:=aZ h;refine aj ?_;refine gW (f:=Operator.cells) Operator.row xV ([(Operator.mk x3.text x3.fix x3.low x3.high x3.left (IntKind.wrap .i64 (1+p6)) 4)]:List Operator) wu .exact av av eY (by first|exact e12|(simp only [List.length_cons,List.length_nil];exact e12)) (fun c8 H9 aKr le aE0 aKs=> ?_);have awz:HF [] _ H9:=⟨le,fun i _ _=>aE0 i⟩;try simp only [AH.aS,AH.aT,AH.aU,AH.aV]at le
    have n22:=ne_next (show H.next<H9.next from aQ);have m23:=aO (show H.next<H9.next from aQ);refine aj ?_;refine hK _ _ ?_;exact ih (xV++[(Operator.mk x3.text x3.fix x3.low x3.high x3.left (IntKind.wrap .i64 (1+p6)) 4)]) CJ (IntKind.wrap .i64 (dV+1)) c8 CK _ _ _ _ aN GH av eY _ h _ q0
   ·obtain⟨e19,h⟩:=aZ h;refine aj ?_;refine gW (f:=Operator.cells) Operator.row xV ([(Operator.mk x3.text x3.fix x3.low x3.high x3.left (IntKind.wrap .i64 (1+p6)) (IntKind.wrap .i64 (1+p6)))]:List Operator) wu .exact av av eY (by first|exact e19|(simp only [List.length_cons,List.length_nil];exact e19)) (fun c15 H16 aKt le aE1 aKu=> ?_);have awD:HF [] _ H16:=⟨le,fun i _ _=>aE1 i⟩;try simp only [AH.aS,AH.aT,AH.aU,AH.aV]at le
    have n24:=ne_next (show H.next<H16.next from aQ);have m25:=aO (show H.next<H16.next from aQ);refine aj ?_;refine hK _ _ ?_;exact ih (xV++[(Operator.mk x3.text x3.fix x3.low x3.high x3.left (IntKind.wrap .i64 (1+p6)) (IntKind.wrap .i64 (1+p6)))]) CJ (IntKind.wrap .i64 (dV+1)) c15 CK _ _ _ _ aN GH av eY _ h _ q0
  ·cases h;refine aj ?_;exact q0 _ wu _ _ rfl aN nL av
def Ij (k:Nat):Option (List Operator):=
 Option.bind (oK k ([]:List Operator) [(Operator.mk ([126]:Str) 0 4 4 false 0 0),(Operator.mk ([69,78,65,66,76,69,68]:Str) 0 4 15 false 0 0),(Operator.mk ([85,78,67,72,65,78,71,69,68]:Str) 0 4 15 false 0 0),(Operator.mk ([91,93]:Str) 0 4 15 false 0 0),(Operator.mk ([60,62]:Str) 0 4 15 false 0 0),(Operator.mk ([83,85,66,83,69,84]:Str) 0 8 8 false 0 0),(Operator.mk ([85,78,73,79,78]:Str) 0 8 8 false 0 0),(Operator.mk ([68,79,77,65,73,78]:Str) 0 9 9 false 0 0),(Operator.mk ([45,46]:Str) 0 12 12 false 0 0),(Operator.mk ([61,62]:Str) 1 1 1 false 0 0),(Operator.mk ([60,61,62]:Str) 1 2 2 false 0 0),(Operator.mk ([126,62]:Str) 1 2 2 false 0 0),(Operator.mk ([47,92]:Str) 1 3 3 true 0 0),(Operator.mk ([92,47]:Str) 1 3 3 true 0 0),(Operator.mk ([61]:Str) 1 5 5 false 0 0),(Operator.mk ([35]:Str) 1 5 5 false 0 0),(Operator.mk ([60]:Str) 1 5 5 false 0 0),(Operator.mk ([60,61]:Str) 1 5 5 false 0 0),(Operator.mk ([62]:Str) 1 5 5 false 0 0),(Operator.mk ([62,61]:Str) 1 5 5 false 0 0),(Operator.mk ([92,105,110]:Str) 1 5 5 false 0 0),(Operator.mk ([92,110,111,116,105,110]:Str) 1 5 5 false 0 0),(Operator.mk ([92,115,117,98,115,101,116,101,113]:Str) 1 5 5 false 0 0),(Operator.mk ([92,115,113,115,117,98,115,101,116,101,113]:Str) 1 5 5 false 0 0),(Operator.mk ([64,64]:Str) 1 6 6 true 0 0),(Operator.mk ([58,62]:Str) 1 7 7 false 0 0),(Operator.mk ([92,99,100,111,116]:Str) 1 5 14 true 0 0),(Operator.mk ([92,99,117,112]:Str) 1 8 8 true 0 0),(Operator.mk ([92,99,97,112]:Str) 1 8 8 true 0 0),(Operator.mk ([92]:Str) 1 8 8 false 0 0),(Operator.mk ([46,46]:Str) 1 9 9 false 0 0),(Operator.mk ([43]:Str) 1 10 10 true 0 0),(Operator.mk ([40,43,41]:Str) 1 10 10 true 0 0),(Operator.mk ([37]:Str) 1 10 11 false 0 0),(Operator.mk ([92,88]:Str) 1 10 13 false 0 0),(Operator.mk ([45]:Str) 1 11 11 true 0 0),(Operator.mk ([40,45,41]:Str) 1 11 11 true 0 0),(Operator.mk ([42]:Str) 1 13 13 true 0 0),(Operator.mk ([92,100,105,118]:Str) 1 13 13 false 0 0),(Operator.mk ([92,111]:Str) 1 13 13 true 0 0),(Operator.mk ([94]:Str) 1 14 14 false 0 0),(Operator.mk ([39]:Str) 2 15 15 false 0 0)] 0) (fun p28=>some p28)
theorem akm {k:Nat} {r:List Operator} (h:Ij k=some r):aD Tryz.prog 173 [] (.ah (r.map Operator.cells) .unk):=by
 refine aD.bH (dA.mem .nil) (aM aAM (by simp) (aJ ?_)) (bE Operator.pu _);unfold Ij at h;unfold apf;refine aj ?_;obtain⟨o26,h27,h⟩:=ak h;refine acr k ([]:List Operator) [(Operator.mk ([126]:Str) 0 4 4 false 0 0),(Operator.mk ([69,78,65,66,76,69,68]:Str) 0 4 15 false 0 0),(Operator.mk ([85,78,67,72,65,78,71,69,68]:Str) 0 4 15 false 0 0),(Operator.mk ([91,93]:Str) 0 4 15 false 0 0),(Operator.mk ([60,62]:Str) 0 4 15 false 0 0),(Operator.mk ([83,85,66,83,69,84]:Str) 0 8 8 false 0 0),(Operator.mk ([85,78,73,79,78]:Str) 0 8 8 false 0 0),(Operator.mk ([68,79,77,65,73,78]:Str) 0 9 9 false 0 0),(Operator.mk ([45,46]:Str) 0 12 12 false 0 0),(Operator.mk ([61,62]:Str) 1 1 1 false 0 0),(Operator.mk ([60,61,62]:Str) 1 2 2 false 0 0),(Operator.mk ([126,62]:Str) 1 2 2 false 0 0),(Operator.mk ([47,92]:Str) 1 3 3 true 0 0),(Operator.mk ([92,47]:Str) 1 3 3 true 0 0),(Operator.mk ([61]:Str) 1 5 5 false 0 0),(Operator.mk ([35]:Str) 1 5 5 false 0 0),(Operator.mk ([60]:Str) 1 5 5 false 0 0),(Operator.mk ([60,61]:Str) 1 5 5 false 0 0),(Operator.mk ([62]:Str) 1 5 5 false 0 0),(Operator.mk ([62,61]:Str) 1 5 5 false 0 0),(Operator.mk ([92,105,110]:Str) 1 5 5 false 0 0),(Operator.mk ([92,110,111,116,105,110]:Str) 1 5 5 false 0 0),(Operator.mk ([92,115,117,98,115,101,116,101,113]:Str) 1 5 5 false 0 0),(Operator.mk ([92,115,113,115,117,98,115,101,116,101,113]:Str) 1 5 5 false 0 0),(Operator.mk ([64,64]:Str) 1 6 6 true 0 0),(Operator.mk ([58,62]:Str) 1 7 7 false 0 0),(Operator.mk ([92,99,100,111,116]:Str) 1 5 14 true 0 0),(Operator.mk ([92,99,117,112]:Str) 1 8 8 true 0 0),(Operator.mk ([92,99,97,112]:Str) 1 8 8 true 0 0),(Operator.mk ([92]:Str) 1 8 8 false 0 0),(Operator.mk ([46,46]:Str) 1 9 9 false 0 0),(Operator.mk ([43]:Str) 1 10 10 true 0 0),(Operator.mk ([40,43,41]:Str) 1 10 10 true 0 0),(Operator.mk ([37]:Str) 1 10 11 false 0 0),(Operator.mk ([92,88]:Str) 1 10 13 false 0 0),(Operator.mk ([45]:Str) 1 11 11 true 0 0),(Operator.mk ([40,45,41]:Str) 1 11 11 true 0 0),(Operator.mk ([42]:Str) 1 13 13 true 0 0),(Operator.mk ([92,100,105,118]:Str) 1 13 13 false 0 0),(Operator.mk ([92,111]:Str) 1 13 13 true 0 0),(Operator.mk ([94]:Str) 1 14 14 false 0 0),(Operator.mk ([39]:Str) 2 15 15 false 0 0)] 0 .nil .exact _ _ _ _ (Fr.refl _ _) (HF.refl _ _) av eY _ h27 _ ?_
 ·rintro p28 c32 σ' H31 eo acu anf s33;rw [eo]at h;have le:=anf.1;try simp only [AH.aS,AH.aT,AH.aU,AH.aV]at le
  cases h;refine aj ?_;exact(cK Operator.pu _ _)
def jT:Nat->Str->Str->Int->Int->Int->Bool->Int->Int->(List Operator)->Int->Option ((Str×Int×Int×Int×Bool×Int×Int)⊕(Bool×Str×Int×Int×Int×Bool×Int×Int))
 |0,_,_,_,_,_,_,_,_,_,_=>none
 |k+1,kP,JZ,J2,J3,J4,J5,J6,J7,fF,gG=>
  cond (decide (gG<(fF.length:Int))) (if 0<=gG then (fF[gG.toNat]?).bind fun x5=>cond (x5.text==kP) (some (.inr ((true,x5.text,x5.fix,x5.low,x5.high,x5.left,x5.least,x5.most)))) (jT k kP JZ J2 J3 J4 J5 J6 J7 fF (IntKind.wrap .i64 (gG+1)))else none) (some (.inl (JZ,J2,J3,J4,J5,J6,J7)))
def Br:List Nat:=[3,5]++List.range' 7 17
theorem QZ: ∀(k:Nat) (CO:Nat) (kP:Str) (JZ:Str) (J2:Int) (J3:Int) (J4:Int) (J5:Bool) (J6:Int) (J7:Int) (fF:List Operator) (gG:Int) (aC σ:Nat->PV) (H0 H:AH) (f0:Fr Br aC σ) (hf0:HF [CO] H0 H) (sl:σ 0=(.str kP)/\σ 2=(.ref (CO) 0)/\σ 4=(.ah (fF.map Operator.cells) .unk)/\σ 5=(.int .i64 gG)/\H.obj CO=some [(.str JZ),(.int .i64 J2),(.int .i64 J3),(.int .i64 J4),(.bool J5),(.int .i64 J6),(.int .i64 J7)]) (QH:CO<H.next) (o:(Str×Int×Int×Int×Bool×Int×Int)⊕(Bool×Str×Int×Int×Int×Bool×Int×Int)) (h:jT k kP JZ J2 J3 J4 J5 J6 J7 fF gG=some o) (Q:Post) (q0: ∀(p:Str×Int×Int×Int×Bool×Int×Int) (σ':Nat->PV) (H':AH),o= .inl p->Fr Br aC σ'->HF [CO] H0 H'->(H'.obj CO=some [(.str p.1),(.int .i64 p.2.1),(.int .i64 p.2.2.1),(.int .i64 p.2.2.2.1),(.bool p.2.2.2.2.1),(.int .i64 p.2.2.2.2.2.1),(.int .i64 p.2.2.2.2.2.2)])->Q (.exit 0) σ' H') (q1: ∀(p:Bool×Str×Int×Int×Int×Bool×Int×Int) (σ':Nat->PV) (H':AH),o= .inr (p)->Fr Br aC σ'->HF [CO] H0 H'->(σ' 3=(.bool p.1)/\H'.obj CO=some [(.str p.2.1),(.int .i64 p.2.2.1),(.int .i64 p.2.2.2.1),(.int .i64 p.2.2.2.2.1),(.bool p.2.2.2.2.2.1),(.int .i64 p.2.2.2.2.2.2.1),(.int .i64 p.2.2.2.2.2.2.2)])->Q .ret σ' H'),W Tryz.prog (.loop R9) Q σ H:=by
 intro k
 induction k with
 |zero=>intro CO kP JZ J2 J3 J4 J5 J6 J7 fF gG aC σ H0 H f0 hf0 sl QH o h Q q0 q1;simp only [jT,reduceCtorEq]at h
 |succ k ih=>
  intro CO kP JZ J2 J3 J4 J5 J6 J7 fF gG aC σ H0 H f0 hf0 sl QH o h Q q0 q1;obtain⟨s0,s2,s4,s5,aG3⟩:=sl;have aG4:=ne_next QH;have aG5:=aO QH;have hle0:=hf0.1;unfold jT at h;refine bA (fun K hK=>aJ ?_);unfold R9;obtain⟨e3,h⟩|⟨e3,h⟩:=aA h
  ·obtain⟨e4,h⟩:=aZ h;obtain⟨x5,e6,h⟩:=ak h;obtain⟨e7,h⟩|⟨e7,h⟩:=aA h
   ·cases h;refine aj ?_;exact q1 _ _ _ rfl aN nL av
   ·refine aj ?_;refine hK _ _ ?_;exact ih CO kP JZ J2 J3 J4 J5 J6 J7 fF (IntKind.wrap .i64 (gG+1)) _ _ _ _ aN nL av aQ _ h _ q0 q1
  ·cases h;refine aj ?_;exact q0 _ _ _ rfl aN nL av
def uW (k:Nat) (kP:Str):Option (Operator×Bool):=
 (Ij k).bind fun p2=>Option.bind (jT k kP ([]:Str) 0 0 0 false 0 0 p2 0) (fun o=>Sum.elim (fun kQ=>some ((Operator.mk [] 0 0 0 false 0 0),false)) (fun Ew=>some ((Operator.mk Ew.2.1 Ew.2.2.1 Ew.2.2.2.1 Ew.2.2.2.2.1 Ew.2.2.2.2.2.1 Ew.2.2.2.2.2.2.1 Ew.2.2.2.2.2.2.2),Ew.1)) o)
theorem Lf {k:Nat} {kP:Str} {r:Operator×Bool} (h:uW k kP=some r):aD Tryz.prog 112 [(.str kP)] (.dn [(.agg (Operator.cells r.1)),(.bool r.2)]):=by
 refine aD.bH (dA.mem (.cons (.str _) .nil)) (aM aAp (by simp) (aJ ?_)) (.dn _ (dA.mem (.cons (.agg _ (Operator.pu _)) (.cons (.bool _) .nil))));unfold uW at h;unfold aoS;obtain⟨p2,e1,h⟩:=ak h;refine aj ?_;refine au (akm e1) ?_;refine aj ?_;obtain⟨o8,h9,h⟩:=ak h;refine QZ k (AH.empty.next) kP ([]:Str) 0 0 0 false 0 0 p2 0 _ _ _ _ (Fr.refl _ _) (HF.refl _ _) av aQ _ h9 _ ?_ ?_
 ·rintro kQ σ' H13 eo ang sD g14;subst eo;rw [dZ]at h;have s15:σ' 2=(.ref (AH.empty.next) 0):=(ang 2 (by decide)).trans av;have le:=sD.1;try simp only [AH.aS,AH.aT,AH.aU,AH.aV]at le
  have n17:=ne_next (show AH.empty.next<H13.next from aQ);have m18:=aO (show AH.empty.next<H13.next from aQ);cases h;refine aj ?_;exact(jr (.cons (dU (.cons (.pure _ (.str _)) (dz (dz (dz (.cons (.pure _ (.bool _)) (dz (dz .nil)))))))) (.cons (.pure _ (.bool _)) .nil)))
 ·rintro Ew σ' H22 eo aE2 awD ⟨s23,g24⟩;subst eo;rw [eT]at h;have s25:σ' 2=(.ref (AH.empty.next) 0):=(aE2 2 (by decide)).trans av;have le:=awD.1;try simp only [AH.aS,AH.aT,AH.aU,AH.aV]at le
  have n27:=ne_next (show AH.empty.next<H22.next from aQ);have m28:=aO (show AH.empty.next<H22.next from aQ);cases h;refine aj ?_;exact(jr (.cons (dU (.cons (.pure _ (.str _)) (dz (dz (dz (.cons (.pure _ (.bool _)) (dz (dz .nil)))))))) (.cons (.pure _ (.bool _)) .nil)))
def zD:Option (List Str):=
 some [([65,83,83,85,77,69]:Str),([65,83,83,85,77,80,84,73,79,78]:Str),([65,88,73,79,77]:Str),([66,89]:Str),([67,65,83,69]:Str),([67,72,79,79,83,69]:Str),([67,79,78,83,84,65,78,84]:Str),([67,79,78,83,84,65,78,84,83]:Str),([68,69,70]:Str),([68,69,70,73,78,69]:Str),([68,69,70,83]:Str),([68,79,77,65,73,78]:Str),([69,76,83,69]:Str),([69,78,65,66,76,69,68]:Str),([69,88,67,69,80,84]:Str),([69,88,84,69,78,68,83]:Str),([70,65,76,83,69]:Str),([72,65,86,69]:Str),([72,73,68,69]:Str),([73,70]:Str),([73,78]:Str),([73,78,83,84,65,78,67,69]:Str),([76,65,77,66,68,65]:Str),([76,69,77,77,65]:Str),([76,69,84]:Str),([76,79,67,65,76]:Str),([77,79,68,85,76,69]:Str),([78,69,87]:Str),([79,66,86,73,79,85,83]:Str),([79,77,73,84,84,69,68]:Str),([79,84,72,69,82]:Str),([80,73,67,75]:Str),([80,82,79,79,70]:Str),([80,82,79,80,79,83,73,84,73,79,78]:Str),([80,82,79,86,69]:Str),([81,69,68]:Str),([82,69,67,85,82,83,73,86,69]:Str),([83,85,66,83,69,84]:Str),([83,85,70,70,73,67,69,83]:Str),([84,65,75,69]:Str),([84,72,69,78]:Str),([84,72,69,79,82,69,77]:Str),([84,82,85,69]:Str),([85,78,67,72,65,78,71,69,68]:Str),([85,78,73,79,78]:Str),([85,83,69]:Str),([86,65,82,73,65,66,76,69]:Str),([86,65,82,73,65,66,76,69,83]:Str),([87,73,84,72]:Str),([87,73,84,78,69,83,83]:Str)]
instance acv:dN Tryz.prog 246 [] (zD) (fun r=>(.ah (r.map aF) .unk)):=bZ aBq (by unfold zD apV;exact bJ)
theorem acw {r:List Str} (h:zD=some r):aD Tryz.prog 246 [] (.ah (r.map aF) .unk):=(acv).c _ h
def zF (rO:Int):Option Bool:=
 cond (decide (rO>=97)) (cond (decide (rO<=122)) (some true) (cond (decide (rO>=65)) (some (decide (rO<=90))) (some false))) (cond (decide (rO>=65)) (some (decide (rO<=90))) (some false))
instance acy (rO:Int):dN Tryz.prog 247 [(.int .u8 rO)] (zF rO) (fun r=>(.bool r)):=bZ aBr (by unfold zF apW;exact bJ)
theorem Pm {rO:Int} {r:Bool} (h:zF rO=some r):aD Tryz.prog 247 [(.int .u8 rO)] (.bool r):=(acy _).c _ h
def BL (rO:Int):Option Bool:=
 cond (decide (rO>=48)) (some (decide (rO<=57))) (some false)
instance afk (rO:Int):dN Tryz.prog 248 [(.int .u8 rO)] (BL rO) (fun r=>(.bool r)):=bZ aBs (by unfold BL apX;exact bJ)
theorem afl {rO:Int} {r:Bool} (h:BL rO=some r):aD Tryz.prog 248 [(.int .u8 rO)] (.bool r):=(afk _).c _ h
def Fu (k:Nat) (s_0:Str):Option (Unit⊕Bool):=
 (dP (s_0.length:Int) 1 24).bind fun p2=>cond p2 ((zD).bind fun p5=>(nG k p5 s_0).bind fun p7=>cond p7 (some (.inr (false))) (some (.inl ()))) (some (.inr (false)))
def IY:List Nat:=[2]++List.range' 5 9
theorem aaE (k:Nat): ∀(s_0:Str) (aC σ:Nat->PV) (H:AH) (f0:Fr IY aC σ) (sl:σ 0=(.str s_0)) (o:Unit⊕Bool) (h:Fu k s_0=some o) (Q:Post) (q0: ∀(p:Unit) (σ':Nat->PV),o= .inl p->Fr IY aC σ'->Q .normal σ' H) (q1: ∀(p:Bool) (σ':Nat->PV),o= .inr (p)->Fr IY aC σ'->(σ' 2=(.bool p))->Q .ret σ' H),W Tryz.prog TI Q σ H:=by
 intro s_0 aC σ H f0 sl o h Q q0 q1;have s0:=sl;unfold Fu at h;refine aJ ?_;unfold TI;obtain⟨p2,e1,h⟩:=ak h;refine aj ?_;refine au (iE e1) ?_;obtain⟨e3,h⟩|⟨e3,h⟩:=aA h
 ·obtain⟨p5,e4,h⟩:=ak h;refine aj ?_;refine au (acw e4) ?_;obtain⟨p7,e6,h⟩:=ak h;refine aj ?_;refine au (CG e6) ?_;obtain⟨e8,h⟩|⟨e8,h⟩:=aA h
  ·cases h;refine aj ?_;exact q1 _ _ rfl aN av
  ·cases h;refine aj ?_;exact q0 _ _ rfl aN
 ·cases h;refine aj ?_;exact q1 _ _ rfl aN av
def Au (s_0:Str) (gB:Int) (jQ:Bool):Option Bool:=
 cond jQ (if 0<=gB then (s_0[gB.toNat]?).bind fun x24=>(BL (x24.toNat:Int)).bind fun p27=>cond p27 (some (false)) (some (((x24.toNat:Int) !=95)))else none) (some (false))
def Pn:List Nat:=List.range' 26 12
theorem aaF: ∀(s_0:Str) (gB:Int) (jQ:Bool) (aC σ:Nat->PV) (H:AH) (f0:Fr Pn aC σ) (sl:σ 0=(.str s_0)/\σ 4=(.int .i64 gB)/\σ 25=(.bool jQ)) (o:Bool) (h:Au s_0 gB jQ=some o) (Q:Post) (q0: ∀(p:Bool) (σ':Nat->PV),o=p->Fr Pn aC σ'->(σ' 37=(.bool p))->Q .normal σ' H),dM Tryz.prog TJ (Q .normal) σ H:=by
 intro s_0 gB jQ aC σ H f0 sl o h Q q0;obtain⟨s0,s4,s25⟩:=sl;unfold Au at h;refine eO ?_;unfold TJ;obtain⟨e22,h⟩|⟨e22,h⟩:=aA h
 ·obtain⟨e23,h⟩:=aZ h;obtain⟨x24,e25,h⟩:=ak h;obtain⟨p27,e26,h⟩:=ak h;refine aj ?_;refine au (afl e26) ?_;obtain⟨e28,h⟩|⟨e28,h⟩:=aA h
  ·cases h;refine aj ?_;exact q0 _ _ rfl aN av
  ·cases h;refine aj ?_;exact q0 _ _ rfl aN av
 ·cases h;refine aj ?_;exact q0 _ _ rfl aN av
def ny:Nat->Str->Bool->Int->Option (Bool⊕Bool)
 |0,_,_,_=>none
 |k+1,s_0,yB,gB=>
  cond (decide (gB<(s_0.length:Int))) (if 0<=gB then (s_0[gB.toNat]?).bind fun x18=>(zF (x18.toNat:Int)).bind fun wY=>Option.bind (Au s_0 gB (!wY)) (fun p31=>cond p31 (some (.inr (false))) (cond yB (ny k s_0 true (IntKind.wrap .i64 (gB+1))) (ny k s_0 wY (IntKind.wrap .i64 (gB+1)))))else none) (some (.inl yB))
def IZ:List Nat:=[2,3,4]++List.range' 14 31
theorem aaG: ∀(k:Nat) (s_0:Str) (yB:Bool) (gB:Int) (aC σ:Nat->PV) (H:AH) (f0:Fr IZ aC σ) (sl:σ 0=(.str s_0)/\σ 3=(.bool yB)/\σ 4=(.int .i64 gB)) (o:Bool⊕Bool) (h:ny k s_0 yB gB=some o) (Q:Post) (q0: ∀(p:Bool) (σ':Nat->PV),o= .inl p->Fr IZ aC σ'->(σ' 3=(.bool p))->Q (.exit 0) σ' H) (q1: ∀(p:Bool) (σ':Nat->PV),o= .inr (p)->Fr IZ aC σ'->(σ' 2=(.bool p))->Q .ret σ' H),W Tryz.prog (.loop TK) Q σ H:=by
 intro k
 induction k with
 |zero=>intro s_0 yB gB aC σ H f0 sl o h Q q0 q1;simp only [ny,reduceCtorEq]at h
 |succ k ih=>
  intro s_0 yB gB aC σ H f0 sl o h Q q0 q1;obtain⟨s0,s3,s4⟩:=sl;unfold ny at h;refine bA (fun K hK=>aJ ?_);unfold TK;obtain⟨e16,h⟩|⟨e16,h⟩:=aA h
  ·obtain⟨e17,h⟩:=aZ h;obtain⟨x18,e19,h⟩:=ak h;obtain⟨wY,e20,h⟩:=ak h;refine aj ?_;refine au (Pm e20) ?_;refine aj ?_;obtain⟨o29,h30,h⟩:=ak h;refine aaF s_0 gB (!wY) _ _ _ (Fr.refl _ _) av _ h30 _ ?_
   ·rintro p31 σ' eo anh s35;rw [eo]at h;have s36:σ' 0=(.str s_0):=(anh 0 (by decide)).trans av;have s37:σ' 3=(.bool yB):=(anh 3 (by decide)).trans av;have s38:σ' 4=(.int .i64 gB):=(anh 4 (by decide)).trans av;obtain⟨e39,h⟩|⟨e39,h⟩:=aA h
    ·cases h;refine aj ?_;exact q1 _ _ rfl rY av
    ·obtain⟨e40,h⟩|⟨e40,h⟩:=aA h
     ·refine aj ?_;refine hK _ _ ?_;exact ih s_0 true (IntKind.wrap .i64 (gB+1)) _ _ _ rY av _ h _ q0 q1
     ·refine aj ?_;refine au (Pm e20) ?_;refine aj ?_;refine hK _ _ ?_;exact ih s_0 wY (IntKind.wrap .i64 (gB+1)) _ _ _ rY av _ h _ q0 q1
  ·cases h;refine aj ?_;exact q0 _ _ rfl aN av
def EI (k:Nat) (s_0:Str):Option Bool:=
 Option.bind (Fu k s_0) (fun o=>Sum.elim (fun Ag=>Option.bind (ny k s_0 false 0) (fun o=>Sum.elim (fun p45=>some p45) (fun p50=>some p50) o)) (fun p55=>some p55) o)
theorem ah7 {k:Nat} {s_0:Str} {r:Bool} (h:EI k s_0=some r):aD Tryz.prog 197 [(.str s_0)] (.bool r):=by
 refine aD.bH (dA.mem (.cons (.str _) .nil)) (aM aA2 (by simp) (aJ ?_)) (.bool _);unfold EI at h;unfold apx;refine aj ?_;obtain⟨o9,h10,h⟩:=ak h;refine aaE k s_0 _ _ _ (Fr.refl _ _) av _ h10 _ ?_ ?_
 ·rintro Ag σ' eo I4;subst eo;rw [dZ]at h;have s15:σ' 0=(.str s_0):=(I4 0 (by decide)).trans av;refine aj ?_;obtain⟨o43,h44,h⟩:=ak h;refine aaG k s_0 false 0 _ _ _ (Fr.refl _ _) av _ h44 _ ?_ ?_
  ·rintro p45 σ' eo aKv s49;subst eo;rw [dZ]at h;cases h;refine aj ?_;exact(.pure _ (.bool _))
  ·rintro p50 σ' eo aKw s54;subst eo;rw [eT]at h;cases h;refine aj ?_;exact(.pure _ (.bool _))
 ·rintro p55 σ' eo awF s59;subst eo;rw [eT]at h;cases h;refine aj ?_;exact(.pure _ (.bool _))
instance aB1 (k:Nat) (s_0:Str):dN Tryz.prog 197 [(.str s_0)] (EI k s_0) (fun r=>(.bool r)):=⟨fun _ h=>ah7 h⟩
def vN (s_0:Str):Option Bool:=
 cond (s_0==([84,82,85,69]:Str)) (some true) (cond (s_0==([70,65,76,83,69]:Str)) (some true) (cond (s_0==([66,79,79,76,69,65,78]:Str)) (some true) (some (s_0==([83,84,82,73,78,71]:Str)))))
instance afm (s_0:Str):dN Tryz.prog 111 [(.str s_0)] (vN s_0) (fun r=>(.bool r)):=bZ aAo (by unfold vN aoR;exact bJ)
theorem afn {s_0:Str} {r:Bool} (h:vN s_0=some r):aD Tryz.prog 111 [(.str s_0)] (.bool r):=(afm _).c _ h
def uz (k:Nat) (s_0:Str):Option Bool:=
 (EI k s_0).bind fun p2=>cond p2 ((vN s_0).bind fun p5=>cond p5 (some false) (cond (decide ((s_0.length:Int)>2)) (if 3<=s_0.length then cond ((s_0.take 3)==([87,70,95]:Str)) (some false) (some (!((s_0.take 3)==([83,70,95]:Str))))else none) (some true))) (some false)
instance ah8 (k:Nat) (s_0:Str):dN Tryz.prog 137 [(.str s_0)] (uz k s_0) (fun r=>(.bool r)):=bZ aAz (by unfold uz ao2;exact bJ)
theorem VJ {k:Nat} {s_0:Str} {r:Bool} (h:uz k s_0=some r):aD Tryz.prog 137 [(.str s_0)] (.bool r):=(ah8 _ _).c _ h
def oO:Nat->Str->Int->Option (Unit⊕Bool)
 |0,_,_=>none
 |k+1,s_0,dV=>
  cond (decide (dV<(s_0.length:Int))) (if 0<=dV then (s_0[dV.toNat]?).bind fun x3=>cond ((x3.toNat:Int)==33) (if 0<=dV/\dV.toNat<=s_0.length then (uz k (s_0.take dV.toNat)).bind fun p8=>cond p8 (if 0<=(IntKind.wrap .i64 (dV+1))/\(IntKind.wrap .i64 (dV+1)).toNat<=s_0.length then (uz k (s_0.drop (IntKind.wrap .i64 (dV+1)).toNat)).bind fun pK=>some (.inr (pK))else none) (some (.inr (false)))else none) (oO k s_0 (IntKind.wrap .i64 (dV+1)))else none) (some (.inl ()))
instance atP (k:Nat): ∀(s_0:Str) (dV:Int),Lp Tryz.prog (.loop SL) (oO k s_0 dV) [(2,25)] [(0,(.str s_0)),(3,(.int .i64 dV))] (Sum.elim (fun p=>(.exit 0,[])) (fun p=>(.ret,[(2,(.bool p))]))):=by
 induction k with
 |zero=>exact fun _ _=>qL rfl
 |succ k ih=>exact fun _ _=>qM SL.eq_1 (by unfold oO;exact bW)
def uD (k:Nat) (s_0:Str):Option Bool:=
 Option.bind (oO k s_0 0) (fun o=>Sum.elim (fun Lg=>(uz k s_0).bind fun wY=>some wY) (fun rP=>some rP) o)
instance ah9 (k:Nat) (s_0:Str):dN Tryz.prog 135 [(.str s_0)] (uD k s_0) (fun r=>(.bool r)):=bZ aAx (by unfold uD ao0;exact bJ)
theorem VK {k:Nat} {s_0:Str} {r:Bool} (h:uD k s_0=some r):aD Tryz.prog 135 [(.str s_0)] (.bool r):=(ah9 _ _).c _ h
def wz (fF:Int):Option Bool:=
 cond (fF==0) (some ((fF==0))) (cond (fF==1) (some ((fF==1))) (cond (fF==2) (some ((fF==2))) (some ((fF==20)))))
instance awG (fF:Int):Lp Tryz.prog (Tw) (wz fF) [(5,10)] [(4,(.int .i64 fF))] (fun p=>(.normal,[(5,(.bool p))])):=GJ Tw.eq_1 (by unfold wz;exact bW)
def CP (fF:Int):Option Bool:=
 cond (fF==4) (some ((fF==4))) (some ((fF==5)))
instance awH (fF:Int):Lp Tryz.prog (Tx) (CP fF) [(14,17)] [(4,(.int .i64 fF))] (fun p=>(.normal,[(14,(.bool p))])):=GJ Tx.eq_1 (by unfold CP;exact bW)
def CQ (fF:Int):Option Bool:=
 cond (fF==6) (some ((fF==6))) (some ((fF==12)))
instance awI (fF:Int):Lp Tryz.prog (Tz) (CQ fF) [(18,21)] [(4,(.int .i64 fF))] (fun p=>(.normal,[(18,(.bool p))])):=GJ Tz.eq_1 (by unfold CQ;exact bW)
def CS (fF:Int):Option Bool:=
 cond (fF==7) (some ((fF==7))) (cond (fF==8) (some ((fF==8))) (cond (fF==9) (some ((fF==9))) (some ((fF==13)))))
instance awJ (fF:Int):Lp Tryz.prog (TA) (CS fF) [(22,27)] [(4,(.int .i64 fF))] (fun p=>(.normal,[(22,(.bool p))])):=GJ TA.eq_1 (by unfold CS;exact bW)
def CU (fF:Int):Option Bool:=
 cond (fF==10) (some ((fF==10))) (some ((fF==11)))
instance awK (fF:Int):Lp Tryz.prog (TB) (CU fF) [(28,31)] [(4,(.int .i64 fF))] (fun p=>(.normal,[(28,(.bool p))])):=GJ TB.eq_1 (by unfold CU;exact bW)
def CV (fF:Int):Option Bool:=
 cond (fF==15) (some ((fF==15))) (cond (fF==25) (some ((fF==25))) (cond (fF==26) (some ((fF==26))) (cond (fF==27) (some ((fF==27))) (some ((fF==28))))))
instance awL (fF:Int):Lp Tryz.prog (TD) (CV fF) [(35,41)] [(4,(.int .i64 fF))] (fun p=>(.normal,[(35,(.bool p))])):=GJ TD.eq_1 (by unfold CV;exact bW)
def CW (fF:Int):Option Bool:=
 cond (fF==16) (some ((fF==16))) (some ((fF==17)))
instance awM (fF:Int):Lp Tryz.prog (TF) (CW fF) [(42,45)] [(4,(.int .i64 fF))] (fun p=>(.normal,[(42,(.bool p))])):=GJ TF.eq_1 (by unfold CW;exact bW)
def sM (iT:Int):Option ((Int×Int×Int×Int)×Bool):=
 Option.bind (wz iT) (fun p6=>cond p6 (some ((0,0,0,0),false)) (cond (iT==3) (some ((0,0,1,4),false)) (Option.bind (CP iT) (fun uX=>cond uX (some ((0,0,0,30),false)) (Option.bind (CQ iT) (fun p29=>cond p29 (some ((1,1,2,2),false)) (Option.bind (CS iT) (fun p42=>cond p42 (some ((1,4,1,1),true)) (Option.bind (CU iT) (fun p53=>cond p53 (some ((1,4,1,1),false)) (cond (iT==14) (some ((0,0,2,5),false)) (Option.bind (CV iT) (fun p68=>cond p68 (some ((0,0,2,2),false)) (Option.bind (CW iT) (fun p79=>cond p79 (some ((1,30,0,0),true)) (cond (iT==18) (some ((0,0,1,1),false)) (cond (iT==19) (some ((0,0,3,3),false)) (cond (iT==21) (some ((0,0,3,3),false)) (cond (iT==22) (some ((0,0,2,30),false)) (cond (iT==23) (some ((1,5,2,2),false)) (some ((1,4,1,1),false))))))))))))))))))))))
instance akp (iT:Int):dN Tryz.prog 194 [(.int .i64 iT)] (sM iT) (fun r=>(.dn [(.agg [(.int .i64 r.1.1),(.int .i64 r.1.2.1),(.int .i64 r.1.2.2.1),(.int .i64 r.1.2.2.2)]),(.bool r.2)])):=bZ aAZ (by unfold sM apu;exact bJ)
theorem akq {iT:Int} {r:(Int×Int×Int×Int)×Bool} (h:sM iT=some r):aD Tryz.prog 194 [(.int .i64 iT)] (.dn [(.agg [(.int .i64 r.1.1),(.int .i64 r.1.2.1),(.int .i64 r.1.2.2.1),(.int .i64 r.1.2.2.2)]),(.bool r.2)]):=(akp _).c _ h
def qU:Nat->(List Nd)->Int->Option (Int⊕Int)
 |0,_,_=>none
 |k+1,aB,dB=>
  if 0<=dB then (aB[dB.toNat]?).bind fun x3=>cond (decide ((x3.args.length:Int)>0)) ((x3.args[0]?).bind fun x6=>(dP x6 0 (IntKind.wrap .i64 (dB -1))).bind fun p9=>cond p9 (qU k aB x6) (some (.inr ((-1))))) (some (.inl dB))else none
instance awN (k:Nat): ∀(aB:List Nd) (dB:Int),Lp Tryz.prog (.loop SN) (qU k aB dB) [(1,2),(4,6),(8,28)] [(0,(.ah (aB.map Nd.cells) .unk)),(1,(.int .i64 dB))] (Sum.elim (fun p=>(.exit 0,[(1,(.int .i64 p))])) (fun p=>(.ret,[(4,(.int .i64 p))]))):=by
 induction k with
 |zero=>exact fun _ _=>qL rfl
 |succ k ih=>exact fun _ _=>qM SN.eq_1 (by unfold qU;exact bW)
def uY (k:Nat) (aB:List Nd) (dB:Int):Option Int:=
 cond (decide (dB<0)) (some (-1)) (Option.bind (qU k aB dB) (fun o=>Sum.elim (fun xW=>some xW) (fun uX=>some uX) o))
instance akr (k:Nat) (aB:List Nd) (dB:Int):dN Tryz.prog 136 [(.ah (aB.map Nd.cells) .unk),(.int .i64 dB)] (uY k aB dB) (fun r=>(.int .i64 r)):=bZ aAy (by unfold uY ao1;exact bJ)
theorem aks {k:Nat} {aB:List Nd} {dB:Int} {c0:Ck} {r:Int} (h:uY k aB dB=some r):aD Tryz.prog 136 [(.ah (aB.map Nd.cells) c0),(.int .i64 dB)] (.int .i64 r):=((akr _ _ _).c _ h).wk (.ah (.same .nil))
def uE:Nat->(List Nd)->Int->Int->Int->Option (Unit⊕Bool)
 |0,_,_,_,_=>none
 |k+1,aB,dS,Lh,Ah=>
  cond (decide (Ah>=0)) (if 0<=dS then (aB[dS.toNat]?).bind fun x6=>if 0<=Ah then (x6.args[Ah.toNat]?).bind fun x9=>cond (x9 !=(IntKind.wrap .i64 (Lh -1))) (some (.inr (false))) (cond (decide (Lh<1)) (some (.inr (false))) ((uY k aB (IntKind.wrap .i64 (Lh -1))).bind fun mq=>uE k aB dS mq (IntKind.wrap .i64 (Ah -1))))else none else none) (some (.inl ()))
instance atQ (k:Nat): ∀(aB:List Nd) (dS:Int) (Lh:Int) (Ah:Int),Lp Tryz.prog (.loop TG) (uE k aB dS Lh Ah) [(4,7),(15,38)] [(0,(.ah (aB.map Nd.cells) .unk)),(1,(.int .i64 dS)),(5,(.int .i64 Lh)),(6,(.int .i64 Ah))] (Sum.elim (fun p=>(.exit 0,[])) (fun p=>(.ret,[(4,(.bool p))]))):=by
 induction k with
 |zero=>exact fun _ _ _ _=>qL rfl
 |succ k ih=>exact fun _ _ _ _=>qM TG.eq_1 (by unfold uE;exact bW)
def Bt (k:Nat) (aB:List Nd) (dS:Int):Option Bool:=
 if 0<=dS then (aB[dS.toNat]?).bind fun x2=>Option.bind (uE k aB dS dS (IntKind.wrap .i64 ((x2.args.length:Int) -1))) (fun o=>Sum.elim (fun I5=>some true) (fun wY=>some wY) o)else none
instance aia (k:Nat) (aB:List Nd) (dS:Int):dN Tryz.prog 195 [(.ah (aB.map Nd.cells) .unk),(.int .i64 dS)] (Bt k aB dS) (fun r=>(.bool r)):=bZ aA0 (by unfold Bt apv;exact bJ)
theorem aib {k:Nat} {aB:List Nd} {dS:Int} {c0:Ck} {r:Bool} (h:Bt k aB dS=some r):aD Tryz.prog 195 [(.ah (aB.map Nd.cells) c0),(.int .i64 dS)] (.bool r):=((aia _ _ _).c _ h).wk (.ah (.same .nil))
def pO:Nat->Str->Int->Option (Unit⊕Bool)
 |0,_,_=>none
 |k+1,s_0,gG=>
  cond (decide (gG<(s_0.length:Int))) (if 0<=gG then (s_0[gG.toNat]?).bind fun x4=>cond (decide ((x4.toNat:Int)<32)) (some (.inr (false))) (cond (decide ((x4.toNat:Int)>126)) (some (.inr (false))) (pO k s_0 (IntKind.wrap .i64 (gG+1))))else none) (some (.inl ()))
instance asH (k:Nat): ∀(s_0:Str) (gG:Int),Lp Tryz.prog (.loop Uj) (pO k s_0 gG) [(4,6),(10,26)] [(0,(.str s_0)),(5,(.int .i64 gG))] (Sum.elim (fun p=>(.exit 0,[])) (fun p=>(.ret,[(4,(.bool p))]))):=by
 induction k with
 |zero=>exact fun _ _=>qL rfl
 |succ k ih=>exact fun _ _=>qM Uj.eq_1 (by unfold pO;exact bW)
def FW (k:Nat) (s_0:Str) (VN:Int):Option Bool:=
 cond (decide ((s_0.length:Int)>VN)) (some false) (Option.bind (pO k s_0 0) (fun o=>Sum.elim (fun kQ=>some true) (fun mq=>some mq) o))
instance azU (k:Nat) (s_0:Str) (VN:Int):dN Tryz.prog 245 [(.str s_0),(.int .i64 VN)] (FW k s_0 VN) (fun r=>(.bool r)):=bZ aBp (by unfold FW apU;exact bJ)
def sU:Nat->Str->Int->Option (Unit⊕Bool)
 |0,_,_=>none
 |k+1,s_0,dV=>
  cond (decide (dV<(s_0.length:Int))) (if 0<=dV then (s_0[dV.toNat]?).bind fun x6=>cond ((x6.toNat:Int)==34) (some (.inr (false))) (cond ((x6.toNat:Int)==92) (some (.inr (false))) (sU k s_0 (IntKind.wrap .i64 (dV+1))))else none) (some (.inl ()))
instance awO (k:Nat): ∀(s_0:Str) (dV:Int),Lp Tryz.prog (.loop TH) (sU k s_0 dV) [(2,4),(7,23)] [(0,(.str s_0)),(3,(.int .i64 dV))] (Sum.elim (fun p=>(.exit 0,[])) (fun p=>(.ret,[(2,(.bool p))]))):=by
 induction k with
 |zero=>exact fun _ _=>qL rfl
 |succ k ih=>exact fun _ _=>qM TH.eq_1 (by unfold sU;exact bW)
def jd (k:Nat) (s_0:Str):Option Bool:=
 (FW k s_0 40).bind fun p2=>cond p2 (Option.bind (sU k s_0 0) (fun o=>Sum.elim (fun pK=>some true) (fun p16=>some p16) o)) (some false)
instance akt (k:Nat) (s_0:Str):dN Tryz.prog 196 [(.str s_0)] (jd k s_0) (fun r=>(.bool r)):=bZ aA1 (by unfold jd apw;exact bJ)
theorem nN {k:Nat} {s_0:Str} {r:Bool} (h:jd k s_0=some r):aD Tryz.prog 196 [(.str s_0)] (.bool r):=(akt _ _).c _ h
def CX (bD:Int) (bQ:Int) (bK:Str) (bX:List Str) (dh:List Int) (acA:Bool):Option Bool:=
 cond acA (some ((bD==3))) (some (false))
theorem Yl: ∀(dD:Nat) (bD:Int) (bQ:Int) (bK:Str) (bX:List Str) (dh:List Int) (acA:Bool) (aC σ:Nat->PV) (H:AH) (f0:Fr [38,39,40,41] aC σ) (sl:σ 5=(.ref (dD) 0)/\σ 37=(.bool acA)/\H.obj dD=some [(.int .i64 bD),(.int .i64 bQ),(.str bK),(.ah (bX.map aF) .unk),(.ah (dh.map aK) .unk)]) (dG:dD<H.next) (o:Bool) (h:CX bD bQ bK bX dh acA=some o) (Q:Post) (q0: ∀(p:Bool) (σ':Nat->PV),o=p->Fr [38,39,40,41] aC σ'->(σ' 41=(.bool p))->Q .normal σ' H),dM Tryz.prog Sw (Q .normal) σ H:=by
 intro dD bD bQ bK bX dh acA aC σ H f0 sl dG o h Q q0;obtain⟨s5,s37,zG⟩:=sl;have zH:=ne_next dG;have zI:=aO dG;unfold CX at h;refine eO ?_;unfold Sw;obtain⟨e11,h⟩|⟨e11,h⟩:=aA h
 ·cases h;refine aj ?_;exact q0 _ _ rfl aN av
 ·cases h;refine aj ?_;exact q0 _ _ rfl aN av
def yC (k:Nat) (bD:Int) (bQ:Int) (bK:Str) (bX:List Str) (dh:List Int) (CY:Int) (CZ:Int) (C8:Int) (C9:Int):Option ((Int×Int×Int×Int)):=
 (uW k bK).bind fun kQ=>Option.bind (CX bD bQ bK bX dh kQ.2) (fun mq=>cond mq (some ((CY,CZ,0,(dh.length:Int)))) (some ((CY,CZ,C8,C9))))
def NI:List Nat:=[8,9]++List.range' 30 17
theorem Ym (k:Nat): ∀(dD:Nat) (wC:Nat) (bD:Int) (bQ:Int) (bK:Str) (bX:List Str) (dh:List Int) (CY:Int) (CZ:Int) (C8:Int) (C9:Int) (aC σ:Nat->PV) (H0 H:AH) (f0:Fr NI aC σ) (hf0:HF [wC] H0 H) (sl:σ 5=(.ref (dD) 0)/\σ 6=(.ref (wC) 0)/\H.obj dD=some [(.int .i64 bD),(.int .i64 bQ),(.str bK),(.ah (bX.map aF) .unk),(.ah (dh.map aK) .unk)]/\H.obj wC=some [(.int .i64 CY),(.int .i64 CZ),(.int .i64 C8),(.int .i64 C9)]) (dG:dD<H.next) (EJ:wC<H.next) (Gp:dD≠wC) (o:(Int×Int×Int×Int)) (h:yC k bD bQ bK bX dh CY CZ C8 C9=some o) (Q:Post) (q0: ∀(p:Int×Int×Int×Int) (σ':Nat->PV) (H':AH),o=p->Fr NI aC σ'->HF [wC] H0 H'->(H'.obj wC=some [(.int .i64 p.1),(.int .i64 p.2.1),(.int .i64 p.2.2.1),(.int .i64 p.2.2.2)])->Q .normal σ' H'),W Tryz.prog Sy Q σ H:=by
 intro dD wC bD bQ bK bX dh CY CZ C8 C9 aC σ H0 H f0 hf0 sl dG EJ Gp o h Q q0;obtain⟨s5,s6,zG,asI⟩:=sl;have zH:=ne_next dG;have zI:=aO dG;have asJ:=ne_next EJ;have asK:=aO EJ;have atS:=eq_false Gp;have atT:=eq_false (Ne.symm Gp);have hle0:=hf0.1;unfold yC at h;refine aJ ?_;unfold Sy;obtain⟨kQ,e9,h⟩:=ak h;refine aj ?_;refine au (Lf e9) ?_;refine aj ?_;obtain⟨o12,VO,h⟩:=ak h;refine Yl (dD) bD bQ bK bX dh kQ.2 _ _ _ (Fr.refl _ _) av aQ _ VO _ ?_
 ·rintro mq σ' eo M0 nk;rw [eo]at h;have wZ:σ' 5=(.ref (dD) 0):=(M0 5 (by decide)).trans av;have s20:σ' 6=(.ref (wC) 0):=(M0 6 (by decide)).trans av;obtain⟨e21,h⟩|⟨e21,h⟩:=aA h
  ·refine aj ?_;refine agv (wC) ?_;cases h;refine aj ?_;exact q0 _ _ _ rfl rY nL av
  ·cases h;refine aj ?_;exact q0 _ _ _ rfl rY nL av
def yD (CY:Int) (CZ:Int) (C8:Int) (C9:Int) (Li:Int) (KI:Bool):Option Bool:=
 cond KI (some (true)) ((dP Li C8 C9).bind fun p46=>some ((!p46)))
def NJ:List Nat:=List.range' 67 8
theorem Yn: ∀(wC:Nat) (CY:Int) (CZ:Int) (C8:Int) (C9:Int) (Li:Int) (KI:Bool) (aC σ:Nat->PV) (H:AH) (f0:Fr NJ aC σ) (sl:σ 6=(.ref (wC) 0)/\σ 10=(.int .i64 Li)/\σ 66=(.bool KI)/\H.obj wC=some [(.int .i64 CY),(.int .i64 CZ),(.int .i64 C8),(.int .i64 C9)]) (EJ:wC<H.next) (o:Bool) (h:yD CY CZ C8 C9 Li KI=some o) (Q:Post) (q0: ∀(p:Bool) (σ':Nat->PV),o=p->Fr NJ aC σ'->(σ' 74=(.bool p))->Q .normal σ' H),dM Tryz.prog Sz (Q .normal) σ H:=by
 intro wC CY CZ C8 C9 Li KI aC σ H f0 sl EJ o h Q q0;obtain⟨s6,s10,s66,asI⟩:=sl;have asJ:=ne_next EJ;have asK:=aO EJ;unfold yD at h;refine eO ?_;unfold Sz;obtain⟨e44,h⟩|⟨e44,h⟩:=aA h
 ·cases h;refine aj ?_;exact q0 _ _ rfl aN av
 ·obtain⟨p46,e45,h⟩:=ak h;refine aj ?_;refine au (iE e45) ?_;cases h;refine aj ?_;exact q0 _ _ rfl aN av
def yE (bD:Int) (bQ:Int) (bK:Str) (bX:List Str) (dh:List Int) (acB:Bool):Option Bool:=
 cond acB (some (true)) (cond (bD==2) (some (true)) (cond (bD==3) (some (true)) (some ((bD==18)))))
def NM:List Nat:=List.range' 79 14
theorem Yo: ∀(dD:Nat) (bD:Int) (bQ:Int) (bK:Str) (bX:List Str) (dh:List Int) (acB:Bool) (aC σ:Nat->PV) (H:AH) (f0:Fr NM aC σ) (sl:σ 5=(.ref (dD) 0)/\σ 78=(.bool acB)/\H.obj dD=some [(.int .i64 bD),(.int .i64 bQ),(.str bK),(.ah (bX.map aF) .unk),(.ah (dh.map aK) .unk)]) (dG:dD<H.next) (o:Bool) (h:yE bD bQ bK bX dh acB=some o) (Q:Post) (q0: ∀(p:Bool) (σ':Nat->PV),o=p->Fr NM aC σ'->(σ' 92=(.bool p))->Q .normal σ' H),dM Tryz.prog SA (Q .normal) σ H:=by
 intro dD bD bQ bK bX dh acB aC σ H f0 sl dG o h Q q0;obtain⟨s5,s78,zG⟩:=sl;have zH:=ne_next dG;have zI:=aO dG;unfold yE at h;refine eO ?_;unfold SA;obtain⟨e58,h⟩|⟨e58,h⟩:=aA h
 ·cases h;refine aj ?_;exact q0 _ _ rfl aN av
 ·obtain⟨e59,h⟩|⟨e59,h⟩:=aA h
  ·cases h;refine aj ?_;exact q0 _ _ rfl aN av
  ·obtain⟨e60,h⟩|⟨e60,h⟩:=aA h
   ·cases h;refine aj ?_;exact q0 _ _ rfl aN av
   ·cases h;refine aj ?_;exact q0 _ _ rfl aN av
def yF (k:Nat) (bD:Int) (bQ:Int) (bK:Str) (bX:List Str) (dh:List Int) (Lj:Bool) (acC:Bool):Option Bool:=
 cond acC (some (true)) (cond Lj (cond (bD !=0) (cond (bD !=23) (cond (bQ !=0) (some (true)) (cond (bD==23) ((dP bQ 0 1).bind fun xX=>cond xX (cond (bD==1) ((jd k bK).bind fun Rj=>some ((!Rj))) (some (false))) (some (true))) (cond (bD==1) ((jd k bK).bind fun VP=>some ((!VP))) (some (false))))) (cond (bD==23) ((dP bQ 0 1).bind fun Rk=>cond Rk (cond (bD==1) ((jd k bK).bind fun NP=>some ((!NP))) (some (false))) (some (true))) (cond (bD==1) ((jd k bK).bind fun p97=>some ((!p97))) (some (false))))) (cond (bD==23) ((dP bQ 0 1).bind fun acD=>cond acD (cond (bD==1) ((jd k bK).bind fun aic=>some ((!aic))) (some (false))) (some (true))) (cond (bD==1) ((jd k bK).bind fun awP=>some ((!awP))) (some (false))))) (cond (bK==[]) (cond (bD !=0) (cond (bD !=23) (cond (bQ !=0) (some (true)) (cond (bD==23) ((dP bQ 0 1).bind fun acE=>cond acE (cond (bD==1) ((jd k bK).bind fun acF=>some ((!acF))) (some (false))) (some (true))) (cond (bD==1) ((jd k bK).bind fun awQ=>some ((!awQ))) (some (false))))) (cond (bD==23) ((dP bQ 0 1).bind fun awR=>cond awR (cond (bD==1) ((jd k bK).bind fun awS=>some ((!awS))) (some (false))) (some (true))) (cond (bD==1) ((jd k bK).bind fun awT=>some ((!awT))) (some (false))))) (cond (bD==23) ((dP bQ 0 1).bind fun awU=>cond awU (cond (bD==1) ((jd k bK).bind fun awV=>some ((!awV))) (some (false))) (some (true))) (cond (bD==1) ((jd k bK).bind fun awW=>some ((!awW))) (some (false))))) (some (true))))
def NQ:List Nat:=List.range' 98 45
theorem Yp (k:Nat): ∀(dD:Nat) (bD:Int) (bQ:Int) (bK:Str) (bX:List Str) (dh:List Int) (Lj:Bool) (acC:Bool) (aC σ:Nat->PV) (H:AH) (f0:Fr NQ aC σ) (sl:σ 5=(.ref (dD) 0)/\σ 11=(.bool Lj)/\σ 97=(.bool acC)/\H.obj dD=some [(.int .i64 bD),(.int .i64 bQ),(.str bK),(.ah (bX.map aF) .unk),(.ah (dh.map aK) .unk)]) (dG:dD<H.next) (o:Bool) (h:yF k bD bQ bK bX dh Lj acC=some o) (Q:Post) (q0: ∀(p:Bool) (σ':Nat->PV),o=p->Fr NQ aC σ'->(σ' 142=(.bool p))->Q .normal σ' H),dM Tryz.prog SB (Q .normal) σ H:=by
 intro dD bD bQ bK bX dh Lj acC aC σ H f0 sl dG o h Q q0;obtain⟨s5,s11,s97,zG⟩:=sl;have zH:=ne_next dG;have zI:=aO dG;unfold yF at h;refine eO ?_;unfold SB;obtain⟨VQ,h⟩|⟨VQ,h⟩:=aA h
 ·cases h;refine aj ?_;exact q0 _ _ rfl aN av
 ·obtain⟨e74,h⟩|⟨e74,h⟩:=aA h
  ·obtain⟨e75,h⟩|⟨e75,h⟩:=aA h
   ·obtain⟨e76,h⟩|⟨e76,h⟩:=aA h
    ·obtain⟨e77,h⟩|⟨e77,h⟩:=aA h
     ·cases h;refine aj ?_;exact q0 _ _ rfl aN av
     ·obtain⟨e78,h⟩|⟨e78,h⟩:=aA h
      ·obtain⟨xX,e79,h⟩:=ak h;refine aj ?_;refine au (iE e79) ?_;obtain⟨e81,h⟩|⟨e81,h⟩:=aA h
       ·obtain⟨e82,h⟩|⟨e82,h⟩:=aA h
        ·obtain⟨Rj,e83,h⟩:=ak h;refine aj ?_;refine au (nN e83) ?_;cases h;refine aj ?_;exact q0 _ _ rfl aN av
        ·cases h;refine aj ?_;exact q0 _ _ rfl aN av
       ·cases h;refine aj ?_;exact q0 _ _ rfl aN av
      ·obtain⟨e85,h⟩|⟨e85,h⟩:=aA h
       ·obtain⟨VP,e86,h⟩:=ak h;refine aj ?_;refine au (nN e86) ?_;cases h;refine aj ?_;exact q0 _ _ rfl aN av
       ·cases h;refine aj ?_;exact q0 _ _ rfl aN av
    ·obtain⟨e88,h⟩|⟨e88,h⟩:=aA h
     ·obtain⟨Rk,e89,h⟩:=ak h;refine aj ?_;refine au (iE e89) ?_;obtain⟨e91,h⟩|⟨e91,h⟩:=aA h
      ·obtain⟨e92,h⟩|⟨e92,h⟩:=aA h
       ·obtain⟨NP,VR,h⟩:=ak h;refine aj ?_;refine au (nN VR) ?_;cases h;refine aj ?_;exact q0 _ _ rfl aN av
       ·cases h;refine aj ?_;exact q0 _ _ rfl aN av
      ·cases h;refine aj ?_;exact q0 _ _ rfl aN av
     ·obtain⟨e95,h⟩|⟨e95,h⟩:=aA h
      ·obtain⟨p97,e96,h⟩:=ak h;refine aj ?_;refine au (nN e96) ?_;cases h;refine aj ?_;exact q0 _ _ rfl aN av
      ·cases h;refine aj ?_;exact q0 _ _ rfl aN av
   ·obtain⟨e98,h⟩|⟨e98,h⟩:=aA h
    ·obtain⟨acD,e99,h⟩:=ak h;refine aj ?_;refine au (iE e99) ?_;obtain⟨acI,h⟩|⟨acI,h⟩:=aA h
     ·obtain⟨ani,h⟩|⟨ani,h⟩:=aA h
      ·obtain⟨aic,UJ,h⟩:=ak h;refine aj ?_;refine au (nN UJ) ?_;cases h;refine aj ?_;exact q0 _ _ rfl aN av
      ·cases h;refine aj ?_;exact q0 _ _ rfl aN av
     ·cases h;refine aj ?_;exact q0 _ _ rfl aN av
    ·obtain⟨Yq,h⟩|⟨Yq,h⟩:=aA h
     ·obtain⟨awP,aE3,h⟩:=ak h;refine aj ?_;refine au (nN aE3) ?_;cases h;refine aj ?_;exact q0 _ _ rfl aN av
     ·cases h;refine aj ?_;exact q0 _ _ rfl aN av
  ·obtain⟨e108,h⟩|⟨e108,h⟩:=aA h
   ·obtain⟨e109,h⟩|⟨e109,h⟩:=aA h
    ·obtain⟨acJ,h⟩|⟨acJ,h⟩:=aA h
     ·obtain⟨anj,h⟩|⟨anj,h⟩:=aA h
      ·cases h;refine aj ?_;exact q0 _ _ rfl aN av
      ·obtain⟨aE4,h⟩|⟨aE4,h⟩:=aA h
       ·obtain⟨acE,ank,h⟩:=ak h;refine aj ?_;refine au (iE ank) ?_;obtain⟨e115,h⟩|⟨e115,h⟩:=aA h
        ·obtain⟨e116,h⟩|⟨e116,h⟩:=aA h
         ·obtain⟨acF,e117,h⟩:=ak h;refine aj ?_;refine au (nN e117) ?_;cases h;refine aj ?_;exact q0 _ _ rfl aN av
         ·cases h;refine aj ?_;exact q0 _ _ rfl aN av
        ·cases h;refine aj ?_;exact q0 _ _ rfl aN av
       ·obtain⟨e119,h⟩|⟨e119,h⟩:=aA h
        ·obtain⟨awQ,e120,h⟩:=ak h;refine aj ?_;refine au (nN e120) ?_;cases h;refine aj ?_;exact q0 _ _ rfl aN av
        ·cases h;refine aj ?_;exact q0 _ _ rfl aN av
     ·obtain⟨anl,h⟩|⟨anl,h⟩:=aA h
      ·obtain⟨awR,aE5,h⟩:=ak h;refine aj ?_;refine au (iE aE5) ?_;obtain⟨e125,h⟩|⟨e125,h⟩:=aA h
       ·obtain⟨e126,h⟩|⟨e126,h⟩:=aA h
        ·obtain⟨awS,e127,h⟩:=ak h;refine aj ?_;refine au (nN e127) ?_;cases h;refine aj ?_;exact q0 _ _ rfl aN av
        ·cases h;refine aj ?_;exact q0 _ _ rfl aN av
       ·cases h;refine aj ?_;exact q0 _ _ rfl aN av
      ·obtain⟨e129,h⟩|⟨e129,h⟩:=aA h
       ·obtain⟨awT,aE6,h⟩:=ak h;refine aj ?_;refine au (nN aE6) ?_;cases h;refine aj ?_;exact q0 _ _ rfl aN av
       ·cases h;refine aj ?_;exact q0 _ _ rfl aN av
    ·obtain⟨aE7,h⟩|⟨aE7,h⟩:=aA h
     ·obtain⟨awU,aE8,h⟩:=ak h;refine aj ?_;refine au (iE aE8) ?_;obtain⟨aE9,h⟩|⟨aE9,h⟩:=aA h
      ·obtain⟨aFa,h⟩|⟨aFa,h⟩:=aA h
       ·obtain⟨awV,e137,h⟩:=ak h;refine aj ?_;refine au (nN e137) ?_;cases h;refine aj ?_;exact q0 _ _ rfl aN av
       ·cases h;refine aj ?_;exact q0 _ _ rfl aN av
      ·cases h;refine aj ?_;exact q0 _ _ rfl aN av
     ·obtain⟨aFb,h⟩|⟨aFb,h⟩:=aA h
      ·obtain⟨awW,anm,h⟩:=ak h;refine aj ?_;refine au (nN anm) ?_;cases h;refine aj ?_;exact q0 _ _ rfl aN av
      ·cases h;refine aj ?_;exact q0 _ _ rfl aN av
   ·cases h;refine aj ?_;exact q0 _ _ rfl aN av
def yG (bD:Int) (bQ:Int) (bK:Str) (bX:List Str) (dh:List Int) (VT:Bool):Option Bool:=
 cond VT ((dP bQ 0 10000).bind fun acK=>some ((!acK))) (some (false))
def NR:List Nat:=[147,148,149,150,151]
theorem Yr: ∀(dD:Nat) (bD:Int) (bQ:Int) (bK:Str) (bX:List Str) (dh:List Int) (VT:Bool) (aC σ:Nat->PV) (H:AH) (f0:Fr NR aC σ) (sl:σ 5=(.ref (dD) 0)/\σ 146=(.bool VT)/\H.obj dD=some [(.int .i64 bD),(.int .i64 bQ),(.str bK),(.ah (bX.map aF) .unk),(.ah (dh.map aK) .unk)]) (dG:dD<H.next) (o:Bool) (h:yG bD bQ bK bX dh VT=some o) (Q:Post) (q0: ∀(p:Bool) (σ':Nat->PV),o=p->Fr NR aC σ'->(σ' 151=(.bool p))->Q .normal σ' H),dM Tryz.prog SC (Q .normal) σ H:=by
 intro dD bD bQ bK bX dh VT aC σ H f0 sl dG o h Q q0;obtain⟨s5,aKx,zG⟩:=sl;have zH:=ne_next dG;have zI:=aO dG;unfold yG at h;refine eO ?_;unfold SC;obtain⟨aFc,h⟩|⟨aFc,h⟩:=aA h
 ·obtain⟨acK,e152,h⟩:=ak h;refine aj ?_;refine au (iE e152) ?_;cases h;refine aj ?_;exact q0 _ _ rfl aN av
 ·cases h;refine aj ?_;exact q0 _ _ rfl aN av
def nH:Nat->Int->Int->Str->(List Str)->(List Int)->Int->Option (Unit⊕Int)
 |0,_,_,_,_,_,_=>none
 |k+1,bD,bQ,bK,bX,dh,KJ=>
  cond (decide (KJ<(bX.length:Int))) (if 0<=KJ then (bX[KJ.toNat]?).bind fun aw3=>(uz k aw3).bind fun acL=>cond acL (nH k bD bQ bK bX dh (IntKind.wrap .i64 (KJ+1))) (some (.inr (7)))else none) (some (.inl ()))
def Gq:List Nat:=[4,12]++List.range' 152 14
theorem Yt: ∀(k:Nat) (dD:Nat) (bD:Int) (bQ:Int) (bK:Str) (bX:List Str) (dh:List Int) (KJ:Int) (aC σ:Nat->PV) (H:AH) (f0:Fr Gq aC σ) (sl:σ 5=(.ref (dD) 0)/\σ 12=(.int .i64 KJ)/\H.obj dD=some [(.int .i64 bD),(.int .i64 bQ),(.str bK),(.ah (bX.map aF) .unk),(.ah (dh.map aK) .unk)]) (dG:dD<H.next) (o:Unit⊕Int) (h:nH k bD bQ bK bX dh KJ=some o) (Q:Post) (q0: ∀(p:Unit) (σ':Nat->PV),o= .inl p->Fr Gq aC σ'->Q (.exit 0) σ' H) (q1: ∀(p:Int) (σ':Nat->PV),o= .inr (p)->Fr Gq aC σ'->(σ' 4=(.int .i64 p))->Q .ret σ' H),W Tryz.prog (.loop SE) Q σ H:=by
 intro k
 induction k with
 |zero=>intro dD bD bQ bK bX dh KJ aC σ H f0 sl dG o h Q q0 q1;simp only [nH,reduceCtorEq]at h
 |succ k ih=>
  intro dD bD bQ bK bX dh KJ aC σ H f0 sl dG o h Q q0 q1;obtain⟨s5,s12,zG⟩:=sl;have zH:=ne_next dG;have zI:=aO dG;unfold nH at h;refine bA (fun K hK=>aJ ?_);unfold SE;obtain⟨ano,h⟩|⟨ano,h⟩:=aA h
  ·obtain⟨aKy,h⟩:=aZ h;obtain⟨aw3,e166,h⟩:=ak h;obtain⟨acL,e167,h⟩:=ak h;refine aj ?_;refine au (VJ e167) ?_;obtain⟨e169,h⟩|⟨e169,h⟩:=aA h
   ·refine aj ?_;refine hK _ _ ?_;exact ih dD bD bQ bK bX dh (IntKind.wrap .i64 (KJ+1)) _ _ _ aN av aQ _ h _ q0 q1
   ·cases h;refine aj ?_;exact q1 _ _ rfl aN av
  ·cases h;refine aj ?_;exact q0 _ _ rfl aN
def Da (k:Nat) (bD:Int) (bQ:Int) (bK:Str) (bX:List Str) (dh:List Int) (VU:Bool):Option Bool:=
 cond VU ((uD k bK).bind fun aw4=>some ((!aw4))) (some (false))
def NS:List Nat:=[197,198,199,200,201]
theorem Yu (k:Nat): ∀(dD:Nat) (bD:Int) (bQ:Int) (bK:Str) (bX:List Str) (dh:List Int) (VU:Bool) (aC σ:Nat->PV) (H:AH) (f0:Fr NS aC σ) (sl:σ 5=(.ref (dD) 0)/\σ 196=(.bool VU)/\H.obj dD=some [(.int .i64 bD),(.int .i64 bQ),(.str bK),(.ah (bX.map aF) .unk),(.ah (dh.map aK) .unk)]) (dG:dD<H.next) (o:Bool) (h:Da k bD bQ bK bX dh VU=some o) (Q:Post) (q0: ∀(p:Bool) (σ':Nat->PV),o=p->Fr NS aC σ'->(σ' 201=(.bool p))->Q .normal σ' H),dM Tryz.prog SF (Q .normal) σ H:=by
 intro dD bD bQ bK bX dh VU aC σ H f0 sl dG o h Q q0;obtain⟨s5,aKz,zG⟩:=sl;have zH:=ne_next dG;have zI:=aO dG;unfold Da at h;refine eO ?_;unfold SF;obtain⟨aFd,h⟩|⟨aFd,h⟩:=aA h
 ·obtain⟨aw4,aFe,h⟩:=ak h;refine aj ?_;refine au (VK aFe) ?_;cases h;refine aj ?_;exact q0 _ _ rfl aN av
 ·cases h;refine aj ?_;exact q0 _ _ rfl aN av
def yH (k:Nat) (bD:Int) (bQ:Int) (bK:Str) (bX:List Str) (dh:List Int) (QI:Str) (QJ:Int) (QK:Int) (QL:Int) (QM:Bool) (Ll:Int) (Lm:Int) (J8:Bool):Option (Unit⊕Int):=
 cond (bD==2) ((uD k bK).bind fun aw5=>cond aw5 (some (.inl ())) ((vN bK).bind fun aw6=>cond aw6 (some (.inl ())) (some (.inr (7))))) (cond (bD==18) ((uz k bK).bind fun aw7=>cond aw7 (some (.inl ())) (some (.inr (7)))) (cond (bD==3) (Option.bind (Da k bD bQ bK bX dh (!J8)) (fun aw8=>cond aw8 (some (.inr (7))) (cond J8 ((dP (dh.length:Int) Ll Lm).bind fun aw9=>cond aw9 (some (.inl ())) (some (.inr (17)))) (some (.inl ()))))) (some (.inl ()))))
def Gs:List Nat:=[4]++List.range' 172 42
theorem Yv (k:Nat): ∀(dD:Nat) (Ik:Nat) (bD:Int) (bQ:Int) (bK:Str) (bX:List Str) (dh:List Int) (QI:Str) (QJ:Int) (QK:Int) (QL:Int) (QM:Bool) (Ll:Int) (Lm:Int) (J8:Bool) (aC σ:Nat->PV) (H:AH) (f0:Fr Gs aC σ) (sl:σ 5=(.ref (dD) 0)/\σ 13=(.ref (Ik) 0)/\σ 14=(.bool J8)/\H.obj dD=some [(.int .i64 bD),(.int .i64 bQ),(.str bK),(.ah (bX.map aF) .unk),(.ah (dh.map aK) .unk)]/\H.obj Ik=some [(.str QI),(.int .i64 QJ),(.int .i64 QK),(.int .i64 QL),(.bool QM),(.int .i64 Ll),(.int .i64 Lm)]) (dG:dD<H.next) (Po:Ik<H.next) (Db:dD≠Ik) (o:Unit⊕Int) (h:yH k bD bQ bK bX dh QI QJ QK QL QM Ll Lm J8=some o) (Q:Post) (q0: ∀(p:Unit) (σ':Nat->PV),o= .inl p->Fr Gs aC σ'->Q .normal σ' H) (q1: ∀(p:Int) (σ':Nat->PV),o= .inr (p)->Fr Gs aC σ'->(σ' 4=(.int .i64 p))->Q .ret σ' H),W Tryz.prog SG Q σ H:=by
 intro dD Ik bD bQ bK bX dh QI QJ QK QL QM Ll Lm J8 aC σ H f0 sl dG Po Db o h Q q0 q1;obtain⟨s5,s13,Rm,zG,aC9⟩:=sl;have zH:=ne_next dG;have zI:=aO dG;have aDa:=ne_next Po;have aDb:=aO Po;have aqJ:=eq_false Db;have aqK:=eq_false (Ne.symm Db);unfold yH at h;refine aJ ?_;unfold SG;obtain⟨aFf,h⟩|⟨aFf,h⟩:=aA h
 ·obtain⟨aw5,aFg,h⟩:=ak h;refine aj ?_;refine au (VK aFg) ?_;obtain⟨aFh,h⟩|⟨aFh,h⟩:=aA h
  ·cases h;refine aj ?_;exact q0 _ _ rfl aN
  ·obtain⟨aw6,aFi,h⟩:=ak h;refine aj ?_;refine au (afn aFi) ?_;obtain⟨e185,h⟩|⟨e185,h⟩:=aA h
   ·cases h;refine aj ?_;exact q0 _ _ rfl aN
   ·cases h;refine aj ?_;exact q1 _ _ rfl aN av
 ·obtain⟨aFj,h⟩|⟨aFj,h⟩:=aA h
  ·obtain⟨aw7,e187,h⟩:=ak h;refine aj ?_;refine au (VJ e187) ?_;obtain⟨e189,h⟩|⟨e189,h⟩:=aA h
   ·cases h;refine aj ?_;exact q0 _ _ rfl aN
   ·cases h;refine aj ?_;exact q1 _ _ rfl aN av
  ·obtain⟨e190,h⟩|⟨e190,h⟩:=aA h
   ·refine aj ?_;obtain⟨aKA,aFk,h⟩:=ak h;refine Yu k (dD) bD bQ bK bX dh (!J8) _ _ _ (Fr.refl _ _) av aQ _ aFk _ ?_
    ·rintro aw8 σ' eo aie aKB;rw [eo]at h;have aKC:σ' 5=(.ref (dD) 0):=(aie 5 (by decide)).trans av;have aKD:σ' 13=(.ref (Ik) 0):=(aie 13 (by decide)).trans av;have aKE:σ' 14=(.bool J8):=(aie 14 (by decide)).trans av;obtain⟨e204,h⟩|⟨e204,h⟩:=aA h
     ·cases h;refine aj ?_;exact q1 _ _ rfl rY av
     ·obtain⟨aFl,h⟩|⟨aFl,h⟩:=aA h
      ·obtain⟨aw9,e206,h⟩:=ak h;refine aj ?_;refine au (iE e206) ?_;obtain⟨e208,h⟩|⟨e208,h⟩:=aA h
       ·cases h;refine aj ?_;exact q0 _ _ rfl rY
       ·cases h;refine aj ?_;exact q1 _ _ rfl rY av
      ·cases h;refine aj ?_;exact q0 _ _ rfl rY
   ·cases h;refine aj ?_;exact q0 _ _ rfl aN
def lK:Nat->Int->Int->Str->(List Str)->(List Int)->Int->Option (Unit⊕Int)
 |0,_,_,_,_,_,_=>none
 |k+1,bD,bQ,bK,bX,dh,EK=>
  cond (decide (EK<(bX.length:Int))) (if 0<=EK/\EK.toNat<=bX.length then if 0<=EK then (bX[EK.toNat]?).bind fun axa=>(nG k (bX.take EK.toNat) axa).bind fun axb=>cond axb (some (.inr (12))) (lK k bD bQ bK bX dh (IntKind.wrap .i64 (EK+1)))else none else none) (some (.inl ()))
def Gt:List Nat:=[4,15]++List.range' 214 17
theorem Yw: ∀(k:Nat) (dD:Nat) (bD:Int) (bQ:Int) (bK:Str) (bX:List Str) (dh:List Int) (EK:Int) (aC σ:Nat->PV) (H:AH) (f0:Fr Gt aC σ) (sl:σ 5=(.ref (dD) 0)/\σ 15=(.int .i64 EK)/\H.obj dD=some [(.int .i64 bD),(.int .i64 bQ),(.str bK),(.ah (bX.map aF) .unk),(.ah (dh.map aK) .unk)]) (dG:dD<H.next) (o:Unit⊕Int) (h:lK k bD bQ bK bX dh EK=some o) (Q:Post) (q0: ∀(p:Unit) (σ':Nat->PV),o= .inl p->Fr Gt aC σ'->Q (.exit 3) σ' H) (q1: ∀(p:Int) (σ':Nat->PV),o= .inr (p)->Fr Gt aC σ'->(σ' 4=(.int .i64 p))->Q .ret σ' H),W Tryz.prog (.loop SH) Q σ H:=by
 intro k
 induction k with
 |zero=>intro dD bD bQ bK bX dh EK aC σ H f0 sl dG o h Q q0 q1;simp only [lK,reduceCtorEq]at h
 |succ k ih=>
  intro dD bD bQ bK bX dh EK aC σ H f0 sl dG o h Q q0 q1;obtain⟨s5,s15,zG⟩:=sl;have zH:=ne_next dG;have zI:=aO dG;unfold lK at h;refine bA (fun K hK=>aJ ?_);unfold SH;obtain⟨e216,h⟩|⟨e216,h⟩:=aA h
  ·refine aj ?_;refine jI ?_;obtain⟨e217,h⟩:=aZ h;obtain⟨aKF,h⟩:=aZ h;obtain⟨axa,e220,h⟩:=ak h;obtain⟨axb,e221,h⟩:=ak h;refine aj ?_;refine au (CG e221) ?_;obtain⟨e223,h⟩|⟨e223,h⟩:=aA h
   ·cases h;refine aj ?_;exact q1 _ _ rfl aN av
   ·refine aj ?_;refine hK _ _ ?_;exact ih dD bD bQ bK bX dh (IntKind.wrap .i64 (EK+1)) _ _ _ aN av aQ _ h _ q0 q1
  ·cases h;refine aj ?_;exact q0 _ _ rfl aN
def BM (k:Nat) (aB:List Nd) (dS:Int):Option Int:=
 if 0<=dS then (aB[dS.toNat]?).bind fun x2=>(dP x2.kind 0 28).bind fun p5=>cond p5 ((sM x2.kind).bind fun p8=>Option.bind (yC k x2.kind x2.n x2.text x2.names x2.args p8.1.1 p8.1.2.1 p8.1.2.2.1 p8.1.2.2.2) (fun xg=>(QG p8.2).bind fun p41=>(dP (x2.names.length:Int) xg.1 xg.2.1).bind fun p43=>Option.bind (yD xg.1 xg.2.1 xg.2.2.1 xg.2.2.2 (IntKind.wrap .i64 ((x2.args.length:Int) -(IntKind.wrap .i64 ((x2.names.length:Int)*p41)))) (!p43)) (fun p49=>cond p49 (some 6) (Option.bind (yE x2.kind x2.n x2.text x2.names x2.args (x2.kind==1)) (fun p63=>(Bt k aB dS).bind fun p72=>Option.bind (yF k x2.kind x2.n x2.text x2.names x2.args p63 (!p72)) (fun axc=>cond axc (some 5) (Option.bind (yG x2.kind x2.n x2.text x2.names x2.args (x2.kind==0)) (fun axd=>cond axd (some 3) (Option.bind (nH k x2.kind x2.n x2.text x2.names x2.args 0) (fun o=>Sum.elim (fun aif=>(uW k x2.text).bind fun yI=>Option.bind (yH k x2.kind x2.n x2.text x2.names x2.args yI.1.text yI.1.fix yI.1.low yI.1.high yI.1.left yI.1.least yI.1.most yI.2) (fun o=>Sum.elim (fun aFm=>Option.bind (lK k x2.kind x2.n x2.text x2.names x2.args 1) (fun o=>Sum.elim (fun aFo=>some 0) (fun axe=>some axe) o)) (fun axf=>some axf) o)) (fun axg=>some axg) o)))))))))) (some 4)else none
theorem afo {k:Nat} {aB:List Nd} {dS:Int} {c0:Ck} {r:Int} (h:BM k aB dS=some r):aD Tryz.prog 133 [(.ah (aB.map Nd.cells) c0),(.int .i64 dS)] (.int .i64 r):=by
 refine aD.lw (.ah (.same .nil)) (aD.bH (dA.mem (.cons (bE Nd.pu _) (.cons (.int _ _) .nil))) (aM aAv (by simp) (aJ ?_)) (.int _ _));unfold BM at h;unfold aoY;obtain⟨e1,h⟩:=aZ h;obtain⟨x2,e3,h⟩:=ak h;obtain⟨p5,e4,h⟩:=ak h;refine aj ?_;refine au (iE e4) ?_;obtain⟨e6,h⟩|⟨e6,h⟩:=aA h
 ·obtain⟨p8,e7,h⟩:=ak h;refine aj ?_;refine au (akq e7) ?_;refine aj ?_;obtain⟨o22,h23,h⟩:=ak h;refine Ym k (AH.empty.next) (AH.empty.next+1) x2.kind x2.n x2.text x2.names x2.args p8.1.1 p8.1.2.1 p8.1.2.2.1 p8.1.2.2.2 _ _ _ _ (Fr.refl _ _) (HF.refl _ _) av aQ aQ aQ _ h23 _ ?_
  ·rintro xg σ' H27 eo acM aii g28;rw [eo]at h;have s29:σ' 0=(.ah (aB.map Nd.cells) .unk):=(acM 0 (by decide)).trans av;have s30:σ' 1=(.int .i64 dS):=(acM 1 (by decide)).trans av;have s31:σ' 5=(.ref (AH.empty.next) 0):=(acM 5 (by decide)).trans av;have s32:σ' 6=(.ref (AH.empty.next+1) 0):=(acM 6 (by decide)).trans av;have s33:σ' 7=(.bool p8.2):=(acM 7 (by decide)).trans av;have le:=aii.1;try simp only [AH.aS,AH.aT,AH.aU,AH.aV]at le
   have g34:H27.obj (AH.empty.next)=some [(.int .i64 x2.kind),(.int .i64 x2.n),(.str x2.text),(.ah (x2.names.map aF) .unk),(.ah (x2.args.map aK) .unk)]:=(aii.2 _ aQ (by first|exact List.not_mem_nil|(simp only [List.mem_cons,List.not_mem_nil,or_false,not_or];omega))).trans av;have n35:=ne_next (show AH.empty.next<H27.next from aQ);have m36:=aO (show AH.empty.next<H27.next from aQ);have n38:=ne_next (show AH.empty.next+1<H27.next from aQ);have m39:=aO (show AH.empty.next+1<H27.next from aQ);refine aj ?_;refine jI ?_;obtain⟨p41,e40,h⟩:=ak h;refine aj ?_;refine PC.mk (agC e40) ?_;obtain⟨p43,e42,h⟩:=ak h;refine aj ?_;refine au (iE e42) ?_;refine aj ?_;obtain⟨o47,h48,h⟩:=ak h;refine Yn (AH.empty.next+1) xg.1 xg.2.1 xg.2.2.1 xg.2.2.2 (IntKind.wrap .i64 ((x2.args.length:Int) -(IntKind.wrap .i64 ((x2.names.length:Int)*p41)))) (!p43) _ _ _ (Fr.refl _ _) av aQ _ h48 _ ?_
   ·rintro p49 σ' eo UK s53;rw [eo]at h;have s54:σ' 0=(.ah (aB.map Nd.cells) .unk):=(UK 0 (by decide)).trans av;have s55:σ' 1=(.int .i64 dS):=(UK 1 (by decide)).trans av;have s56:σ' 5=(.ref (AH.empty.next) 0):=(UK 5 (by decide)).trans av;obtain⟨e57,h⟩|⟨e57,h⟩:=aA h
    ·cases h;refine aj ?_;exact(.pure _ (.int _ _))
    ·refine aj ?_;obtain⟨o61,VW,h⟩:=ak h;refine Yo (AH.empty.next) x2.kind x2.n x2.text x2.names x2.args (x2.kind==1) _ _ _ (Fr.refl _ _) av aQ _ VW _ ?_
     ·rintro p63 σ' eo M4 s67;rw [eo]at h;have s68:σ' 0=(.ah (aB.map Nd.cells) .unk):=(M4 0 (by decide)).trans av;have s69:σ' 1=(.int .i64 dS):=(M4 1 (by decide)).trans av;have s70:σ' 5=(.ref (AH.empty.next) 0):=(M4 5 (by decide)).trans av;obtain⟨p72,e71,h⟩:=ak h;refine aj ?_;refine au (aib e71) ?_;refine aj ?_;obtain⟨aKG,aFp,h⟩:=ak h;refine Yp k (AH.empty.next) x2.kind x2.n x2.text x2.names x2.args p63 (!p72) _ _ _ (Fr.refl _ _) av aQ _ aFp _ ?_
      ·rintro axc σ' eo aB2 aKH;rw [eo]at h;have aKI:σ' 5=(.ref (AH.empty.next) 0):=(aB2 5 (by decide)).trans av;obtain⟨anp,h⟩|⟨anp,h⟩:=aA h
       ·cases h;refine aj ?_;exact(.pure _ (.int _ _))
       ·refine aj ?_;obtain⟨aKJ,aFq,h⟩:=ak h;refine Yr (AH.empty.next) x2.kind x2.n x2.text x2.names x2.args (x2.kind==0) _ _ _ (Fr.refl _ _) av aQ _ aFq _ ?_
        ·rintro axd σ' eo aB3 aKK;rw [eo]at h;have aKL:σ' 5=(.ref (AH.empty.next) 0):=(aB3 5 (by decide)).trans av;obtain⟨aFr,h⟩|⟨aFr,h⟩:=aA h
         ·cases h;refine aj ?_;exact(.pure _ (.int _ _))
         ·refine aj ?_;obtain⟨aKM,aFs,h⟩:=ak h;refine Yt k (AH.empty.next) x2.kind x2.n x2.text x2.names x2.args 0 _ _ _ (Fr.refl _ _) av aQ _ aFs _ ?_ ?_
          ·rintro aif σ' eo aB4;subst eo;rw [dZ]at h;have aKN:σ' 5=(.ref (AH.empty.next) 0):=(aB4 5 (by decide)).trans av;obtain⟨yI,aFt,h⟩:=ak h;refine aj ?_;refine au (Lf aFt) ?_;refine aj ?_;obtain⟨aKO,aFu,h⟩:=ak h;refine Yv k (AH.empty.next) (H27.next) x2.kind x2.n x2.text x2.names x2.args yI.1.text yI.1.fix yI.1.low yI.1.high yI.1.left yI.1.least yI.1.most yI.2 _ _ _ (Fr.refl _ _) av aQ aQ aQ _ aFu _ ?_ ?_
           ·rintro aFm σ' eo aB5;subst eo;rw [dZ]at h;have aKP:σ' 5=(.ref (AH.empty.next) 0):=(aB5 5 (by decide)).trans av;refine aj ?_;obtain⟨aKQ,aFv,h⟩:=ak h;refine Yw k (AH.empty.next) x2.kind x2.n x2.text x2.names x2.args 1 _ _ _ (Fr.refl _ _) av aQ _ aFv _ ?_ ?_
            ·rintro aFo σ' eo aJX;subst eo;rw [dZ]at h;cases h;refine aj ?_;exact(.pure _ (.int _ _))
            ·rintro axe σ' eo aJY aKR;subst eo;rw [eT]at h;cases h;refine aj ?_;exact(.pure _ (.int _ _))
           ·rintro axf σ' eo aJZ aKS;subst eo;rw [eT]at h;cases h;refine aj ?_;exact(.pure _ (.int _ _))
          ·rintro axg σ' eo aJ0 aKT;subst eo;rw [eT]at h;cases h;refine aj ?_;exact(.pure _ (.int _ _))
 ·cases h;refine aj ?_;exact(.pure _ (.int _ _))
instance azV (k:Nat) (aB:List Nd) (dS:Int):dN Tryz.prog 133 [(.ah (aB.map Nd.cells) .unk),(.int .i64 dS)] (BM k aB dS) (fun r=>(.int .i64 r)):=⟨fun _ h=>afo h⟩
def uF:Nat->(List Nd)->Int->Int->Int->Option (Unit⊕(Int×Int))
 |0,_,_,_,_=>none
 |k+1,aB,dS,Ah,ZE=>
  if 0<=Ah then (aB[Ah.toNat]?).bind fun x3=>cond (decide (ZE<(x3.args.length:Int))) (if 0<=ZE then (x3.args[ZE.toNat]?).bind fun x7=>cond (x7==dS) (some (.inr ((Ah,ZE)))) (uF k aB dS Ah (IntKind.wrap .i64 (ZE+1)))else none) (some (.inl ()))else none
instance atU (k:Nat): ∀(aB:List Nd) (dS:Int) (Ah:Int) (ZE:Int),Lp Tryz.prog (.loop SI) (uF k aB dS Ah ZE) [(4,6),(7,8),(16,38)] [(0,(.ah (aB.map Nd.cells) .unk)),(1,(.int .i64 dS)),(6,(.int .i64 Ah)),(7,(.int .i64 ZE))] (Sum.elim (fun p=>(.exit 2,[])) (fun p=>(.ret,[(4,(.int .i64 p.1)),(5,(.int .i64 p.2))]))):=by
 induction k with
 |zero=>exact fun _ _ _ _=>qL rfl
 |succ k ih=>exact fun _ _ _ _=>qM SI.eq_1 (by unfold uF;exact bW)
def uG:Nat->(List Nd)->Int->Int->Option (Unit⊕(Int×Int))
 |0,_,_,_=>none
 |k+1,aB,dS,Ah=>
  cond (decide (Ah<(aB.length:Int))) (Option.bind (uF k aB dS Ah 0) (fun o=>Sum.elim (fun pK=>uG k aB dS (IntKind.wrap .i64 (Ah+1))) (fun Ew=>some (.inr ((Ew.1,Ew.2)))) o)) (some (.inl ()))
instance atV (k:Nat): ∀(aB:List Nd) (dS:Int) (Ah:Int),Lp Tryz.prog (.loop SK) (uG k aB dS Ah) [(4,8),(10,38)] [(0,(.ah (aB.map Nd.cells) .unk)),(1,(.int .i64 dS)),(6,(.int .i64 Ah))] (Sum.elim (fun p=>(.exit 0,[])) (fun p=>(.ret,[(4,(.int .i64 p.1)),(5,(.int .i64 p.2))]))):=by
 induction k with
 |zero=>exact fun _ _ _=>qL rfl
 |succ k ih=>exact fun _ _ _=>qM SK.eq_1 (by unfold uG;exact bW)
def qD (k:Nat) (aB:List Nd) (dS:Int):Option (Int×Int):=
 Option.bind (uG k aB dS (IntKind.wrap .i64 (dS+1))) (fun o=>Sum.elim (fun p27=>some ((-1),0)) (fun p31=>some (p31.1,p31.2)) o)
instance aij (k:Nat) (aB:List Nd) (dS:Int):dN Tryz.prog 134 [(.ah (aB.map Nd.cells) .unk),(.int .i64 dS)] (qD k aB dS) (fun r=>(.dn [(.int .i64 r.1),(.int .i64 r.2)])):=bZ aAw (by unfold qD aoZ;exact bJ)
theorem VX {k:Nat} {aB:List Nd} {dS:Int} {c0:Ck} {r:Int×Int} (h:qD k aB dS=some r):aD Tryz.prog 134 [(.ah (aB.map Nd.cells) c0),(.int .i64 dS)] (.dn [(.int .i64 r.1),(.int .i64 r.2)]):=((aij _ _ _).c _ h).wk (.ah (.same .nil))
def sV:Nat->(List Nd)->Int->Option (Unit⊕(Int×Int))
 |0,_,_=>none
 |k+1,aB,gB=>
  cond (decide (gB<(aB.length:Int))) ((BM k aB gB).bind fun p5=>cond (p5 !=0) (some (.inr ((gB,p5)))) (sV k aB (IntKind.wrap .i64 (gB+1)))) (some (.inl ()))
instance axj (k:Nat): ∀(aB:List Nd) (gB:Int),Lp Tryz.prog (.loop X6) (sV k aB gB) [(2,6),(17,30)] [(0,(.ah (aB.map Nd.cells) .unk)),(4,(.int .i64 gB))] (Sum.elim (fun p=>(.exit 0,[])) (fun p=>(.ret,[(2,(.int .i64 p.1)),(3,(.int .i64 p.2))]))):=by
 induction k with
 |zero=>exact fun _ _=>qL rfl
 |succ k ih=>exact fun _ _=>qM X6.eq_1 (by unfold sV;exact bW)
def Dc (k:Nat) (aB:List Nd) (xM:Int) (aik:Bool):Option Bool:=
 cond aik (if 0<=xM then (aB[xM.toNat]?).bind fun uZ=>cond (uZ.kind==3) ((uD k uZ.text).bind fun J9=>some (J9)) (some (false))else none) (some (false))
instance axk (k:Nat) (aB:List Nd) (xM:Int) (aik:Bool):Lp Tryz.prog (.ops X7) (Dc k aB xM aik) [(45,60)] [(0,(.ah (aB.map Nd.cells) .unk)),(7,(.int .i64 xM)),(44,(.bool aik))] (fun p=>(.normal,[(59,(.bool p))])):=lpO X7.eq_1 (by unfold Dc;exact bW)
def GX (M5:Bool) (KI:Bool):Option Bool:=
 cond KI (some ((!M5))) (some (false))
instance axl (M5:Bool) (KI:Bool):Lp Tryz.prog (.ops X8) (GX M5 KI) [(67,70)] [(9,(.bool M5)),(66,(.bool KI))] (fun p=>(.normal,[(69,(.bool p))])):=lpO X8.eq_1 (by unfold GX;exact bW)
def GY (aB:List Nd) (xM:Int) (zJ:Int) (ail:Bool):Option Bool:=
 cond ail (some (true)) (if 0<=xM then (aB[xM.toNat]?).bind fun x54=>cond (x54.kind==19) (some ((zJ==2))) (some (false))else none)
instance axn (aB:List Nd) (xM:Int) (zJ:Int) (ail:Bool):Lp Tryz.prog (.ops X9) (GY aB xM zJ ail) [(75,86)] [(0,(.ah (aB.map Nd.cells) .unk)),(7,(.int .i64 xM)),(8,(.int .i64 zJ)),(74,(.bool ail))] (fun p=>(.normal,[(85,(.bool p))])):=lpO X9.eq_1 (by unfold GY;exact bW)
def wD:Nat->(List Nd)->Int->Int->Bool->Option Bool
 |0,_,_,_,_=>none
 |k+1,aB,xM,zJ,Pp=>
  cond (decide (xM>=0)) (Option.bind (GY aB xM zJ Pp) (fun p59=>(qD k aB xM).bind fun p67=>wD k aB p67.1 p67.2 p59)) (some (Pp))
instance axo (k:Nat): ∀(aB:List Nd) (xM:Int) (zJ:Int) (Pp:Bool),Lp Tryz.prog (.loop Ya) (wD k aB xM zJ Pp) [(7,9),(10,11),(71,92)] [(0,(.ah (aB.map Nd.cells) .unk)),(7,(.int .i64 xM)),(8,(.int .i64 zJ)),(10,(.bool Pp))] (fun p=>(.exit 4,[(10,(.bool p))])):=by
 induction k with
 |zero=>exact fun _ _ _ _=>qL rfl
 |succ k ih=>exact fun _ _ _ _=>qM Ya.eq_1 (by unfold wD;exact bW)
def qV:Nat->(List Nd)->Int->Option (Unit⊕(Int×Int))
 |0,_,_=>none
 |k+1,aB,qm=>
  cond (decide (qm<(aB.length:Int))) ((qD k aB qm).bind fun p16=>Option.bind (Dc k aB p16.1 (decide (p16.1>=0))) (fun p26=>if 0<=qm then (aB[qm.toNat]?).bind fun ZF=>Option.bind (GX p26 (ZF.kind==24)) (fun p41=>cond p41 (some (.inr ((qm,30)))) (Option.bind (wD k aB p16.1 p16.2 false) (fun p70=>cond (ZF.kind==20) (cond p70 (qV k aB (IntKind.wrap .i64 (qm+1))) (some (.inr ((qm,30))))) (qV k aB (IntKind.wrap .i64 (qm+1))))))else none)) (some (.inl ()))
instance axp (k:Nat): ∀(aB:List Nd) (qm:Int),Lp Tryz.prog (.loop Yb) (qV k aB qm) [(2,4),(6,11),(30,103)] [(0,(.ah (aB.map Nd.cells) .unk)),(6,(.int .i64 qm))] (Sum.elim (fun p=>(.exit 2,[])) (fun p=>(.ret,[(2,(.int .i64 p.1)),(3,(.int .i64 p.2))]))):=by
 induction k with
 |zero=>exact fun _ _=>qL rfl
 |succ k ih=>exact fun _ _=>qM Yb.eq_1 (by unfold qV;exact bW)
def BN (k:Nat) (aB:List Nd):Option (Int×Int):=
 cond ((aB.length:Int)==0) (some (0,1)) (cond (decide ((aB.length:Int)>160)) (some (0,2)) (Option.bind (sV k aB 0) (fun o=>Sum.elim (fun p9=>Option.bind (qV k aB 0) (fun o=>Sum.elim (fun p81=>(uY k aB (IntKind.wrap .i64 ((aB.length:Int) -1))).bind fun VP=>cond (VP !=0) (some ((IntKind.wrap .i64 ((aB.length:Int) -1)),15)) (some (0,0))) (fun ZG=>some (ZG.1,ZG.2)) o)) (fun ZH=>some (ZH.1,ZH.2)) o)))
instance aDg (k:Nat) (aB:List Nd):dN Tryz.prog 63 [(.ah (aB.map Nd.cells) .unk)] (BN k aB) (fun r=>(.dn [(.int .i64 r.1),(.int .i64 r.2)])):=bZ aEJ (by unfold BN avq;exact bJ)
def Fx (k:Nat) (aB:List Nd):Option Int:=
 (BN k aB).bind fun p2=>some p2.2
instance aG6 (k:Nat) (aB:List Nd):dN Tryz.prog 19 [(.ah (aB.map Nd.cells) .unk)] (Fx k aB) (fun r=>(.int .i64 r)):=bZ ahQ (by unfold Fx ava;exact bJ)
def I6 (dV:Int) (Lr:Bool):Option Bool:=
 cond Lr (some ((decide (dV<172)))) (some (false))
instance aB6 (dV:Int) (Lr:Bool):Lp Tryz.prog (.ops XY) (I6 dV Lr) [(10,13)] [(3,(.int .i64 dV)),(9,(.bool Lr))] (fun p=>(.normal,[(12,(.bool p))])):=lpO XY.eq_1 (by unfold I6;exact bW)
def I7 (aB:List Nd) (dV:Int) (ain:Bool):Option Bool:=
 cond ain (some (true)) (if 0<=dV then (aB[dV.toNat]?).bind fun Ka=>cond (decide ((Ka.names.length:Int)>34)) (some (true)) (some ((decide ((Ka.text.length:Int)>80))))else none)
instance aB7 (aB:List Nd) (dV:Int) (ain:Bool):Lp Tryz.prog (.ops XZ) (I7 aB dV ain) [(23,40)] [(0,(.ah (aB.map Nd.cells) .unk)),(3,(.int .i64 dV)),(22,(.bool ain))] (fun p=>(.normal,[(39,(.bool p))])):=lpO XZ.eq_1 (by unfold I7;exact bW)
def yJ:Nat->(List Nd)->Int->Int->Option (Unit⊕Bool)
 |0,_,_,_=>none
 |k+1,aB,dV,k_4=>
  if 0<=dV then (aB[dV.toNat]?).bind fun x31=>cond (decide (k_4<(x31.names.length:Int))) (if 0<=k_4 then (x31.names[k_4.toNat]?).bind fun x35=>cond (decide ((x35.length:Int)>80)) (some (.inr (false))) (yJ k aB dV (IntKind.wrap .i64 (k_4+1)))else none) (some (.inl ()))else none
instance aB8 (k:Nat): ∀(aB:List Nd) (dV:Int) (k_4:Int),Lp Tryz.prog (.loop X0) (yJ k aB dV k_4) [(2,3),(4,5),(40,60)] [(0,(.ah (aB.map Nd.cells) .unk)),(3,(.int .i64 dV)),(4,(.int .i64 k_4))] (Sum.elim (fun p=>(.exit 2,[])) (fun p=>(.ret,[(2,(.bool p))]))):=by
 induction k with
 |zero=>exact fun _ _ _=>qL rfl
 |succ k ih=>exact fun _ _ _=>qM X0.eq_1 (by unfold yJ;exact bW)
def yK:Nat->(List Nd)->Int->Option (Unit⊕Bool)
 |0,_,_=>none
 |k+1,aB,dV=>
  Option.bind (I6 dV (decide (dV<(aB.length:Int)))) (fun p4=>cond p4 (if 0<=dV then (aB[dV.toNat]?).bind fun x13=>Option.bind (I7 aB dV (decide ((x13.args.length:Int)>34))) (fun rP=>cond rP (some (.inr (false))) (Option.bind (yJ k aB dV 0) (fun o=>Sum.elim (fun p40=>yK k aB (IntKind.wrap .i64 (dV+1))) (fun p46=>some (.inr (p46))) o)))else none) (some (.inl ())))
instance aB9 (k:Nat): ∀(aB:List Nd) (dV:Int),Lp Tryz.prog (.loop X3) (yK k aB dV) [(2,60)] [(0,(.ah (aB.map Nd.cells) .unk)),(3,(.int .i64 dV))] (Sum.elim (fun p=>(.exit 0,[])) (fun p=>(.ret,[(2,(.bool p))]))):=by
 induction k with
 |zero=>exact fun _ _=>qL rfl
 |succ k ih=>exact fun _ _=>qM X3.eq_1 (by unfold yK;exact bW)
def VY (k:Nat) (aB:List Nd):Option Bool:=
 Option.bind (yK k aB 0) (fun o=>Sum.elim (fun p53=>some (decide ((aB.length:Int)<=170))) (fun p58=>some p58) o)
instance aG7 (k:Nat) (aB:List Nd):dN Tryz.prog 27 [(.ah (aB.map Nd.cells) .unk)] (VY k aB) (fun r=>(.bool r)):=bZ am2 (by unfold VY avk;exact bJ)
def vO (aX:List Int):Option (List Int):=
 if(([]:List Int).length+aX.length)*8<=1099511627776 then some (([]:List Int)++aX)else none
theorem Rn {aX:List Int} {c0:Ck} {r:List Int} (h:vO aX=some r):aD Tryz.prog 24 [(.ah (aX.map aK) c0)] (.ah (r.map aK) .unk):=by
 refine aD.lw (.ah .nil) (aD.bH (dA.mem (.cons (bE cZ _) .nil)) (aM am1 (by simp) (aJ ?_)) (bE cZ _));unfold vO at h;unfold avg;obtain⟨e5,h⟩:=aZ h;refine aj ?_;refine gW (f:=aK) sK ([]:List Int) (aX:List Int) .exact .unk av av eY (by first|exact e5|(simp only [List.length_cons,List.length_nil];exact e5)) (fun c1 H2 ok3 le ob6 rl4=> ?_);have hf7:HF [] _ H2:=⟨le,fun i _ _=>ob6 i⟩;try simp only [AH.aS,AH.aT,AH.aU,AH.aV]at le
 cases h;refine aj ?_;exact(cK cZ _ _)
def lY (aX:List Str):Option (List Str):=
 if(([]:List Str).length+aX.length)*16<=1099511627776 then some (([]:List Str)++aX)else none
theorem Df {aX:List Str} {c0:Ck} {r:List Str} (h:lY aX=some r):aD Tryz.prog 62 [(.ah (aX.map aF) c0)] (.ah (r.map aF) .unk):=by
 refine aD.lw (.ah .nil) (aD.bH (dA.mem (.cons (bE gJ _) .nil)) (aM ace (by simp) (aJ ?_)) (bE gJ _));unfold lY at h;unfold X5;obtain⟨e5,h⟩:=aZ h;refine aj ?_;refine gW (f:=aF) lC ([]:List Str) (aX:List Str) .exact .unk av av eY (by first|exact e5|(simp only [List.length_cons,List.length_nil];exact e5)) (fun c1 H2 ok3 le ob6 rl4=> ?_);have hf7:HF [] _ H2:=⟨le,fun i _ _=>ob6 i⟩;try simp only [AH.aS,AH.aT,AH.aU,AH.aV]at le
 cases h;refine aj ?_;exact(cK gJ _ _)
def pQ:Nat->(List Nd)->(List Nd)->Int->Option (List Nd)
 |0,_,_,_=>none
 |k+1,aB,eU,gB=>
  cond (decide (gB<(aB.length:Int))) (if 0<=gB then (aB[gB.toNat]?).bind fun x3=>(lY x3.names).bind fun p6=>(vO x3.args).bind fun p8=>if(eU.length+1)*80<=1099511627776 then pQ k aB (eU++[(Nd.mk x3.kind x3.n x3.text p6 p8)]) (IntKind.wrap .i64 (gB+1))else none else none) (some (eU))
def NT:List Nat:=List.range' 3 25
theorem Yx: ∀(k:Nat) (aB:List Nd) (eU:List Nd) (gB:Int) (fU:Ck) (aC σ:Nat->PV) (H0 H:AH) (f0:Fr NT aC σ) (hf0:HF [] H0 H) (sl:σ 0=(.ah (aB.map Nd.cells) .unk)/\σ 3=(.ah (eU.map Nd.cells) fU)/\σ 4=(.int .i64 gB)) (I8:bf H fU) (o:List Nd) (h:pQ k aB eU gB=some o) (Q:Post) (q0: ∀(p:List Nd) (c0:Ck) (σ':Nat->PV) (H':AH),o=p->Fr NT aC σ'->HF [] H0 H'->(σ' 3=(.ah (p.map Nd.cells) c0))->Q (.exit 0) σ' H'),W Tryz.prog (.loop XL) Q σ H:=by
 intro k
 induction k with
 |zero=>intro aB eU gB fU aC σ H0 H f0 hf0 sl I8 o h Q q0;simp only [pQ,reduceCtorEq]at h
 |succ k ih=>
  intro aB eU gB fU aC σ H0 H f0 hf0 sl I8 o h Q q0;obtain⟨s0,s3,s4⟩:=sl;have hle0:=hf0.1;unfold pQ at h;refine bA (fun K hK=>aJ ?_);unfold XL;obtain⟨e1,h⟩|⟨e1,h⟩:=aA h
  ·obtain⟨e2,h⟩:=aZ h;obtain⟨x3,e4,h⟩:=ak h;refine aj ?_;refine jI ?_;obtain⟨p6,e5,h⟩:=ak h;refine aj ?_;refine PC.mk (Df e5) ?_;obtain⟨p8,e7,h⟩:=ak h;refine aj ?_;refine PC.mk (Rn e7) ?_;obtain⟨e13,h⟩:=aZ h;refine aj ?_;refine gW (f:=Nd.cells) Nd.row eU ([(Nd.mk x3.kind x3.n x3.text p6 p8)]:List Nd) fU .exact av av eY (by first|exact e13|(simp only [List.length_cons,List.length_nil];exact e13)) (fun c9 H10 aKU le aFw aKV=> ?_);have UL:HF [] _ H10:=⟨le,fun i _ _=>aFw i⟩;try simp only [AH.aS,AH.aT,AH.aU,AH.aV]at le
   have n16:=ne_next (show H.next<H10.next from aQ);have m17:=aO (show H.next<H10.next from aQ);refine aj ?_;refine hK _ _ ?_;exact ih aB (eU++[(Nd.mk x3.kind x3.n x3.text p6 p8)]) (IntKind.wrap .i64 (gB+1)) c9 _ _ _ _ aN GH av eY _ h _ q0
  ·cases h;refine aj ?_;exact q0 _ fU _ _ rfl aN nL av
def BO (k:Nat) (aB:List Nd):Option (List Nd):=
 Option.bind (pQ k aB ([]:List Nd) 0) (fun Dh=>some Dh)
theorem Ro {k:Nat} {aB:List Nd} {c0:Ck} {r:List Nd} (h:BO k aB=some r):aD Tryz.prog 18 [(.ah (aB.map Nd.cells) c0)] (.ah (r.map Nd.cells) .unk):=by
 refine aD.lw (.ah .nil) (aD.bH (dA.mem (.cons (bE Nd.pu _) .nil)) (aM au9 (by simp) (aJ ?_)) (bE Nd.pu _));unfold BO at h;unfold au8;refine aj ?_;obtain⟨o18,h19,h⟩:=ak h;refine Yx k aB ([]:List Nd) 0 .nil _ _ _ _ (Fr.refl _ _) (HF.refl _ _) av eY _ h19 _ ?_
 ·rintro Dh c24 σ' H23 eo aKW aFx s25;rw [eo]at h;have le:=aFx.1;try simp only [AH.aS,AH.aT,AH.aU,AH.aV]at le
  cases h;refine aj ?_;exact(cK Nd.pu _ _)
def iy (aY:Int) (I9:Int) (UM:Int):Option Bool:=
 cond (decide (I9<=aY)) (some (decide (aY<=UM))) (some false)
instance akA (aY:Int) (I9:Int) (UM:Int):dN Tryz.prog 224 [(.int .i64 aY),(.int .i64 I9),(.int .i64 UM)] (iy aY I9 UM) (fun r=>(.bool r)):=bZ aBb (by unfold iy apG;exact bJ)
theorem jg {aY:Int} {I9:Int} {UM:Int} {r:Bool} (h:iy aY I9 UM=some r):aD Tryz.prog 224 [(.int .i64 aY),(.int .i64 I9),(.int .i64 UM)] (.bool r):=(akA _ _ _).c _ h
def ou (Bq:Bool) (Ja:Int):Option Int:=
 cond Bq (some Ja) (some 0)
instance akB (Bq:Bool) (Ja:Int):dN Tryz.prog 176 [(.bool Bq),(.int .i64 Ja)] (ou Bq Ja) (fun r=>(.int .i64 r)):=bZ aAP (by unfold ou apj;exact bJ)
theorem pR {Bq:Bool} {Ja:Int} {r:Int} (h:ou Bq Ja=some r):aD Tryz.prog 176 [(.bool Bq),(.int .i64 Ja)] (.int .i64 r):=(akB _ _).c _ h
def jM:Nat->(List Int)->Int->Int->Option (Unit⊕Int)
 |0,_,_,_=>none
 |k+1,rA,jV,iI=>
  cond (decide (iI<jV)) (if 0<=iI then (rA[iI.toNat]?).bind fun x3=>cond (x3 !=0) (some (.inr (x3))) (jM k rA jV (IntKind.wrap .i64 (iI+1)))else none) (some (.inl ()))
instance ajv (k:Nat): ∀(rA:List Int) (jV:Int) (iI:Int),Lp Tryz.prog (.loop Tf) (jM k rA jV iI) [(2,3),(5,6),(8,17)] [(3,(.int .i64 0)),(6,(.ah (rA.map aK) .unk)),(7,(.int .i64 jV)),(8,(.int .i64 iI))] (Sum.elim (fun p=>(.exit 0,[])) (fun p=>(.ret,[(2,(.int .i64 p))]))):=by
 induction k with
 |zero=>exact fun _ _ _=>qL rfl
 |succ k ih=>exact fun _ _ _=>qM Tf.eq_1 (by unfold jM;exact bW)
def gT (k:Nat) (FX:List Int):Option Int:=
 Option.bind (jM k FX (FX.length:Int) 0) (fun o=>Sum.elim (fun p8=>some 0) (fun xW=>some xW) o)
instance UN (k:Nat) (FX:List Int):dN Tryz.prog 175 [(.ah (FX.map aK) .unk)] (gT k FX) (fun r=>(.int .i64 r)):=bZ aAO (by unfold gT aph;exact bJ)
theorem mE {k:Nat} {FX:List Int} {c0:Ck} {r:Int} (h:gT k FX=some r):aD Tryz.prog 175 [(.ah (FX.map aK) c0)] (.int .i64 r):=((UN _ _).c _ h).wk (.ah .nil)
def vg (VZ:Operator) (t_1:Str):Option Bool:=
 some (VZ.text==t_1)
instance anq (VZ:Operator) (t_1:Str):dN Tryz.prog 266 [(.agg (Operator.cells VZ)),(.bY [(.str t_1)] 0)] (vg VZ t_1) (fun r=>(.bool r)):=bZ aBE (by unfold vg ap9;exact bJ)
def bB:Nat->(List Operator)->Str->Int->Int->Option (Unit⊕Int)
 |0,_,_,_,_=>none
 |k+1,s_0,iV,jV,iI=>
  cond (decide (iI<jV)) (if 0<=iI then (s_0[iI.toNat]?).bind fun x3=>(vg x3 iV).bind fun p6=>cond p6 (some (.inr (iI))) (bB k s_0 iV jV (IntKind.wrap .i64 (iI+1)))else none) (some (.inl ()))
instance Jb (k:Nat): ∀(s_0:List Operator) (iV:Str) (jV:Int) (iI:Int),Lp Tryz.prog (.loop Uu) (bB k s_0 iV jV iI) [(4,6),(8,19)] [(0,(.ah (s_0.map Operator.cells) .unk)),(1,(.fn (.func 266) [] [(.bY [(.str iV)] 0)])),(7,(.int .i64 jV)),(8,(.int .i64 iI))] (Sum.elim (fun p=>(.exit 0,[])) (fun p=>(.ret,[(4,(.int .i64 p))]))):=by
 induction k with
 |zero=>exact fun _ _ _ _=>qL rfl
 |succ k ih=>exact fun _ _ _ _=>qM Uu.eq_1 (by unfold bB;exact bW)
def dW (k:Nat) (s_0:List Operator) (iV:Str):Option Int:=
 Option.bind (bB k s_0 iV (s_0.length:Int) 0) (fun o=>Sum.elim (fun kQ=>some (-1)) (fun mq=>some mq) o)
instance sW (k:Nat) (s_0:List Operator) (iV:Str):dN Tryz.prog 265 [(.ah (s_0.map Operator.cells) .unk),(.fn (.func 266) [] [(.bY [(.str iV)] 0)])] (dW k s_0 iV) (fun r=>(.int .i64 r)):=bZ aBD (by unfold dW ap8;exact bJ)
theorem sZ {k:Nat} {s_0:List Operator} {iV:Str} {c0:Ck} {r:Int} (h:dW k s_0 iV=some r):aD Tryz.prog 265 [(.ah (s_0.map Operator.cells) c0),(.fn (.func 266) [] [(.bY [(.str iV)] 0)])] (.int .i64 r):=((sW _ _ _).c _ h).wk (.ah (.same .nil))
def Di (rO:Int):Option Bool:=
 (iy (IntKind.wrap .i64 rO) 32 126).bind fun p2=>cond p2 (cond (rO==34) (some true) (some (rO==92))) (some true)
instance acQ (rO:Int):dN Tryz.prog 269 [(.int .i32 rO)] (Di rO) (fun r=>(.bool r)):=bZ aBG (by unfold Di aqb;exact bJ)
theorem acR {rO:Int} {r:Bool} (h:Di rO=some r):aD Tryz.prog 269 [(.int .i32 rO)] (.bool r):=(acQ _).c _ h
def eD:Nat->(List Str)->Str->Int->Int->Option (Unit⊕Int)
 |0,_,_,_,_=>none
 |k+1,s_0,v_1,jV,iI=>
  cond (decide (iI<jV)) (if 0<=iI then (s_0[iI.toNat]?).bind fun x3=>cond (v_1==x3) (some (.inr (iI))) (eD k s_0 v_1 jV (IntKind.wrap .i64 (iI+1)))else none) (some (.inl ()))
instance aaH (k:Nat): ∀(s_0:List Str) (v_1:Str) (jV:Int) (iI:Int),Lp Tryz.prog (.loop Tc) (eD k s_0 v_1 jV iI) [(4,6),(8,19)] [(0,(.ah (s_0.map aF) .unk)),(1,(.str v_1)),(7,(.int .i64 jV)),(8,(.int .i64 iI))] (Sum.elim (fun p=>(.exit 0,[])) (fun p=>(.ret,[(4,(.int .i64 p))]))):=by
 induction k with
 |zero=>exact fun _ _ _ _=>qL rfl
 |succ k ih=>exact fun _ _ _ _=>qM Tc.eq_1 (by unfold eD;exact bW)
def mI (k:Nat) (s_0:List Str) (v_1:Str):Option Int:=
 Option.bind (eD k s_0 v_1 (s_0.length:Int) 0) (fun o=>Sum.elim (fun p8=>some (-1)) (fun pK=>some pK) o)
instance ae0 (k:Nat) (s_0:List Str) (v_1:Str):dN Tryz.prog 165 [(.ah (s_0.map aF) .unk),(.str v_1)] (mI k s_0 v_1) (fun r=>(.int .i64 r)):=bZ aAL (by unfold mI ape;exact bJ)
def bM (k:Nat) (s_0:List Str) (v_1:Str):Option Bool:=
 (mI k s_0 v_1).bind fun p2=>some (decide (p2>=0))
instance Gu (k:Nat) (s_0:List Str) (v_1:Str):dN Tryz.prog 100 [(.ah (s_0.map aF) .unk),(.str v_1)] (bM k s_0 v_1) (fun r=>(.bool r)):=bZ aAn (by unfold bM aoP;exact bJ)
theorem iL {k:Nat} {s_0:List Str} {v_1:Str} {c0:Ck} {r:Bool} (h:bM k s_0 v_1=some r):aD Tryz.prog 100 [(.ah (s_0.map aF) c0),(.str v_1)] (.bool r):=((Gu _ _ _).c _ h).wk (.ah (.same .nil))
def xY (s_0:Str) (mF:Str):Option Bool:=
 cond (decide ((s_0.length:Int)>=(mF.length:Int))) (if mF.length<=s_0.length then some ((s_0.take mF.length)==mF)else none) (some false)
instance amd (s_0:Str) (mF:Str):dN Tryz.prog 277 [(.str s_0),(.str mF)] (xY s_0 mF) (fun r=>(.bool r)):=bZ aBL (by unfold xY aqg;exact bJ)
def kY (s_0:Str) (mF:Str):Option Bool:=
 (xY s_0 mF).bind fun p2=>some p2
instance Q0 (s_0:Str) (mF:Str):dN Tryz.prog 236 [(.str s_0),(.str mF)] (kY s_0 mF) (fun r=>(.bool r)):=bZ aBj (by unfold kY apO;exact bJ)
theorem GK {s_0:Str} {mF:Str} {r:Bool} (h:kY s_0 mF=some r):aD Tryz.prog 236 [(.str s_0),(.str mF)] (.bool r):=(Q0 _ _).c _ h
def BP (s_0:Str):Option Bool:=
 cond (s_0==([84,82,85,69]:Str)) (some true) (cond (s_0==([70,65,76,83,69]:Str)) (some true) (cond (s_0==([66,79,79,76,69,65,78]:Str)) (some true) (some (s_0==([83,84,82,73,78,71]:Str)))))
instance afp (s_0:Str):dN Tryz.prog 241 [(.str s_0)] (BP s_0) (fun r=>(.bool r)):=bZ aBn (by unfold BP apS;exact bJ)
theorem afq {s_0:Str} {r:Bool} (h:BP s_0=some r):aD Tryz.prog 241 [(.str s_0)] (.bool r):=(afp _).c _ h
def Ls (aB:List Nd) (dS:Int) (ow:List Int):Option Int:=
 if 0<=dS then (aB[dS.toNat]?).bind fun x2=>cond ((x2.args.length:Int)==0) (some dS) ((x2.args[0]?).bind fun x5=>if 0<=x5 then (ow[x5.toNat]?).bind fun x8=>some x8 else none)else none
instance akC (aB:List Nd) (dS:Int) (ow:List Int):dN Tryz.prog 178 [(.ah (aB.map Nd.cells) .unk),(.int .i64 dS),(.ah (ow.map aK) .unk)] (Ls aB dS ow) (fun r=>(.int .i64 r)):=bZ aAR (by unfold Ls apl;exact bJ)
theorem akD {aB:List Nd} {dS:Int} {ow:List Int} {c0 c2:Ck} {r:Int} (h:Ls aB dS ow=some r):aD Tryz.prog 178 [(.ah (aB.map Nd.cells) c0),(.int .i64 dS),(.ah (ow.map aK) c2)] (.int .i64 r):=((akC _ _ _).c _ h).wk (.ah (.same (.ah .nil)))
def xH (Lu:Int) (bR:Int):Option Shape:=
 some (Shape.mk (Lu,Lu) (bR,bR) false false)
instance atW (Lu:Int) (bR:Int):dN Tryz.prog 267 [(.int .i64 Lu),(.int .i64 bR)] (xH Lu bR) (fun r=>(.agg (Shape.cells r))):=bZ aBF (by unfold xH aqa;exact bJ)
def kZ:Nat->(List Str)->(List Str)->Int->Option (Unit⊕Bool)
 |0,_,_,_=>none
 |k+1,a_0,b_1,gG=>
  cond (decide (gG<(a_0.length:Int))) (if 0<=gG then (a_0[gG.toNat]?).bind fun x4=>(b_1[gG.toNat]?).bind fun x6=>cond (x4==x6) (kZ k a_0 b_1 (IntKind.wrap .i64 (gG+1))) (some (.inr (false)))else none) (some (.inl ()))
instance ame (k:Nat): ∀(a_0:List Str) (b_1:List Str) (gG:Int),Lp Tryz.prog (.loop SV) (kZ k a_0 b_1 gG) [(4,6),(11,26)] [(0,(.ah (a_0.map aF) .unk)),(1,(.ah (b_1.map aF) .unk)),(5,(.int .i64 gG))] (Sum.elim (fun p=>(.exit 0,[])) (fun p=>(.ret,[(4,(.bool p))]))):=by
 induction k with
 |zero=>exact fun _ _ _=>qL rfl
 |succ k ih=>exact fun _ _ _=>qM SV.eq_1 (by unfold kZ;exact bW)
def yL (k:Nat) (a_0:List Str) (b_1:List Str):Option Bool:=
 cond ((a_0.length:Int) !=(b_1.length:Int)) (some false) (Option.bind (kZ k a_0 b_1 0) (fun o=>Sum.elim (fun Ag=>some true) (fun Lg=>some Lg) o))
instance asL (k:Nat) (a_0:List Str) (b_1:List Str):dN Tryz.prog 141 [(.ah (a_0.map aF) .unk),(.ah (b_1.map aF) .unk)] (yL k a_0 b_1) (fun r=>(.bool r)):=bZ aAB (by unfold yL ao4;exact bJ)
def V3 (aY:Int):Option Int:=
 cond (decide (aY<0)) (some (IntKind.wrap .i64 (0 -aY))) (some aY)
instance aG8 (aY:Int):dN Tryz.prog 318 [(.int .i64 aY)] (V3 aY) (fun r=>(.int .i64 r)):=bZ aBW (by unfold V3 aqs;exact bJ)
def BQ:Nat->Int->Str->Option Str
 |0,_,_=>none
 |k+1,aY,s_3=>
  (V3 (aY.tmod 10)).bind fun p2=>if 0<=p2/\p2<=(IntKind.wrap .i64 (p2+1))/\(IntKind.wrap .i64 (p2+1)).toNat<=10 then if((([48,49,50,51,52,53,54,55,56,57]:Str).take (IntKind.wrap .i64 (p2+1)).toNat).drop p2.toNat).length+s_3.length<=4611686018427387904 then cond ((IntKind.wrap .i64 (aY.tdiv 10))==0) (some ((((([48,49,50,51,52,53,54,55,56,57]:Str).take (IntKind.wrap .i64 (p2+1)).toNat).drop p2.toNat)++s_3))) (BQ k (IntKind.wrap .i64 (aY.tdiv 10)) (((([48,49,50,51,52,53,54,55,56,57]:Str).take (IntKind.wrap .i64 (p2+1)).toNat).drop p2.toNat)++s_3))else none else none
instance azW (k:Nat): ∀(aY:Int) (s_3:Str),Lp Tryz.prog (.loop UA) (BQ k aY s_3) [(0,1),(3,4),(5,6),(8,21)] [(0,(.int .i64 aY)),(3,(.str s_3))] (fun p=>(.exit 0,[(3,(.str p))])):=by
 induction k with
 |zero=>exact fun _ _=>qL rfl
 |succ k ih=>exact fun _ _=>qM UA.eq_1 (by unfold BQ;exact bW)
def FY (k:Nat) (aY:Int):Option Str:=
 Option.bind (BQ k aY ([]:Str)) (fun p8=>cond (decide (aY<0)) (if([45]:Str).length+p8.length<=4611686018427387904 then some (45::p8)else none) (some p8))
instance anr (k:Nat) (aY:Int):dN Tryz.prog 281 [(.int .i64 aY)] (FY k aY) (fun r=>(.str r)):=bZ aBN (by unfold FY aqi;exact bJ)
theorem ant {k:Nat} {aY:Int} {r:Str} (h:FY k aY=some r):aD Tryz.prog 281 [(.int .i64 aY)] (.str r):=(anr _ _).c _ h
def mJ:Nat->(List Int)->(List Int)->Int->Option (Unit⊕Bool)
 |0,_,_,_=>none
 |k+1,a_0,b_1,gG=>
  cond (decide (gG<(a_0.length:Int))) (if 0<=gG then (a_0[gG.toNat]?).bind fun x4=>(b_1[gG.toNat]?).bind fun x6=>cond (x4 !=x6) (some (.inr (false))) (mJ k a_0 b_1 (IntKind.wrap .i64 (gG+1)))else none) (some (.inl ()))
instance anu (k:Nat): ∀(a_0:List Int) (b_1:List Int) (gG:Int),Lp Tryz.prog (.loop SX) (mJ k a_0 b_1 gG) [(4,6),(11,26)] [(0,(.ah (a_0.map aK) .unk)),(1,(.ah (b_1.map aK) .unk)),(5,(.int .i64 gG))] (Sum.elim (fun p=>(.exit 0,[])) (fun p=>(.ret,[(4,(.bool p))]))):=by
 induction k with
 |zero=>exact fun _ _ _=>qL rfl
 |succ k ih=>exact fun _ _ _=>qM SX.eq_1 (by unfold mJ;exact bW)
def Av (k:Nat) (a_0:List Int) (b_1:List Int):Option Bool:=
 cond ((a_0.length:Int) !=(b_1.length:Int)) (some false) (Option.bind (mJ k a_0 b_1 0) (fun o=>Sum.elim (fun Ag=>some true) (fun Lg=>some Lg) o))
instance atX (k:Nat) (a_0:List Int) (b_1:List Int):dN Tryz.prog 142 [(.ah (a_0.map aK) .unk),(.ah (b_1.map aK) .unk)] (Av k a_0 b_1) (fun r=>(.bool r)):=bZ aAC (by unfold Av ao5;exact bJ)
def Dk (k:Nat) (a_0:Nd) (b_1:Nd):Option Bool:=
 cond (a_0.kind==b_1.kind) (cond (a_0.n==b_1.n) (cond (a_0.text==b_1.text) ((yL k a_0.names b_1.names).bind fun p5=>cond p5 ((Av k a_0.args b_1.args).bind fun p8=>some p8) (some false)) (some false)) (some false)) (some false)
instance axu (k:Nat) (a_0:Nd) (b_1:Nd):dN Tryz.prog 75 [(.agg (Nd.cells a_0)),(.agg (Nd.cells b_1))] (Dk k a_0 b_1) (fun r=>(.bool r)):=bZ aEO (by unfold Dk avw;exact bJ)
def nO:Nat->(List Nd)->(List Nd)->Int->Option (Unit⊕Bool)
 |0,_,_,_=>none
 |k+1,a_0,b_1,gG=>
  cond (decide (gG<(a_0.length:Int))) (if 0<=gG then (a_0[gG.toNat]?).bind fun x4=>(b_1[gG.toNat]?).bind fun x6=>(Dk k x4 x6).bind fun p9=>cond p9 (nO k a_0 b_1 (IntKind.wrap .i64 (gG+1))) (some (.inr (false)))else none) (some (.inl ()))
instance aqM (k:Nat): ∀(a_0:List Nd) (b_1:List Nd) (gG:Int),Lp Tryz.prog (.loop XM) (nO k a_0 b_1 gG) [(4,6),(11,27)] [(0,(.ah (a_0.map Nd.cells) .unk)),(1,(.ah (b_1.map Nd.cells) .unk)),(5,(.int .i64 gG))] (Sum.elim (fun p=>(.exit 0,[])) (fun p=>(.ret,[(4,(.bool p))]))):=by
 induction k with
 |zero=>exact fun _ _ _=>qL rfl
 |succ k ih=>exact fun _ _ _=>qM XM.eq_1 (by unfold nO;exact bW)
def zK (k:Nat) (a_0:List Nd) (b_1:List Nd):Option Bool:=
 cond ((a_0.length:Int) !=(b_1.length:Int)) (some false) (Option.bind (nO k a_0 b_1 0) (fun o=>Sum.elim (fun xW=>some true) (fun I5=>some I5) o))
instance acS (k:Nat) (a_0:List Nd) (b_1:List Nd):dN Tryz.prog 21 [(.ah (a_0.map Nd.cells) .unk),(.ah (b_1.map Nd.cells) .unk)] (zK k a_0 b_1) (fun r=>(.bool r)):=bZ avc (by unfold zK avb;exact bJ)
theorem acT {k:Nat} {a_0:List Nd} {b_1:List Nd} {c0 c1:Ck} {r:Bool} (h:zK k a_0 b_1=some r):aD Tryz.prog 21 [(.ah (a_0.map Nd.cells) c0),(.ah (b_1.map Nd.cells) c1)] (.bool r):=((acS _ _ _).c _ h).wk (.ah (.ah .nil))
def fG:Nat->(List Str)->(List Str)->Int->Int->Option (Unit⊕Bool)
 |0,_,_,_,_=>none
 |k+1,qE,rQ,mG,fH=>
  cond (decide (fH<mG)) (if 0<=fH then (qE[fH.toNat]?).bind fun x4=>(rQ[fH.toNat]?).bind fun x6=>cond (x4==x6) (fG k qE rQ mG (IntKind.wrap .i64 (fH+1))) (some (.inr (false)))else none) (some (.inl ()))
instance aaI (k:Nat): ∀(qE:List Str) (rQ:List Str) (mG:Int) (fH:Int),Lp Tryz.prog (.loop Um) (fG k qE rQ mG fH) [(4,6),(13,26)] [(0,(.ah (qE.map aF) .unk)),(1,(.ah (rQ.map aF) .unk)),(12,(.int .i64 mG)),(13,(.int .i64 fH))] (Sum.elim (fun p=>(.exit 0,[])) (fun p=>(.ret,[(4,(.bool p))]))):=by
 induction k with
 |zero=>exact fun _ _ _ _=>qL rfl
 |succ k ih=>exact fun _ _ _ _=>qM Um.eq_1 (by unfold fG;exact bW)
def mK (k:Nat) (qE:List Str) (rQ:List Str):Option Bool:=
 cond ((qE.length:Int) !=(rQ.length:Int)) (some false) (Option.bind (fG k qE rQ (qE.length:Int) 0) (fun o=>Sum.elim (fun Ag=>some true) (fun Lg=>some Lg) o))
instance ae1 (k:Nat) (qE:List Str) (rQ:List Str):dN Tryz.prog 256 [(.ah (qE.map aF) .unk),(.ah (rQ.map aF) .unk)] (mK k qE rQ) (fun r=>(.bool r)):=bZ aBx (by unfold mK ap2;exact bJ)
def jy:Nat->(List Int)->(List Int)->Int->Int->Option (Unit⊕Bool)
 |0,_,_,_,_=>none
 |k+1,qE,rQ,mG,fH=>
  cond (decide (fH<mG)) (if 0<=fH then (qE[fH.toNat]?).bind fun x4=>(rQ[fH.toNat]?).bind fun x6=>cond (x4 !=x6) (some (.inr (false))) (jy k qE rQ mG (IntKind.wrap .i64 (fH+1)))else none) (some (.inl ()))
instance aio (k:Nat): ∀(qE:List Int) (rQ:List Int) (mG:Int) (fH:Int),Lp Tryz.prog (.loop Un) (jy k qE rQ mG fH) [(4,6),(13,26)] [(0,(.ah (qE.map aK) .unk)),(1,(.ah (rQ.map aK) .unk)),(12,(.int .i64 mG)),(13,(.int .i64 fH))] (Sum.elim (fun p=>(.exit 0,[])) (fun p=>(.ret,[(4,(.bool p))]))):=by
 induction k with
 |zero=>exact fun _ _ _ _=>qL rfl
 |succ k ih=>exact fun _ _ _ _=>qM Un.eq_1 (by unfold jy;exact bW)
def tq (k:Nat) (qE:List Int) (rQ:List Int):Option Bool:=
 cond ((qE.length:Int) !=(rQ.length:Int)) (some false) (Option.bind (jy k qE rQ (qE.length:Int) 0) (fun o=>Sum.elim (fun Ag=>some true) (fun Lg=>some Lg) o))
instance amf (k:Nat) (qE:List Int) (rQ:List Int):dN Tryz.prog 257 [(.ah (qE.map aK) .unk),(.ah (rQ.map aK) .unk)] (tq k qE rQ) (fun r=>(.bool r)):=bZ aBy (by unfold tq ap3;exact bJ)
def EL (k:Nat) (x_0:Nd) (y_1:Nd):Option Bool:=
 cond (x_0.kind==y_1.kind) (cond (x_0.n==y_1.n) (cond (x_0.text==y_1.text) ((mK k x_0.names y_1.names).bind fun p5=>cond p5 ((tq k x_0.args y_1.args).bind fun p8=>some p8) (some false)) (some false)) (some false)) (some false)
instance aip (k:Nat) (x_0:Nd) (y_1:Nd):dN Tryz.prog 255 [(.agg (Nd.cells x_0)),(.agg (Nd.cells y_1))] (EL k x_0 y_1) (fun r=>(.bool r)):=bZ aBw (by unfold EL ap1;exact bJ)
theorem aiq {k:Nat} {x_0:Nd} {y_1:Nd} {r:Bool} (h:EL k x_0 y_1=some r):aD Tryz.prog 255 [(.agg (Nd.cells x_0)),(.agg (Nd.cells y_1))] (.bool r):=(aip _ _ _).c _ h
def yM (aB:List Nd):Option Nd:=
 if 0<=(IntKind.wrap .i64 ((aB.length:Int) -1))then (aB[(IntKind.wrap .i64 ((aB.length:Int) -1)).toNat]?).bind fun x2=>some x2 else none
instance anv (aB:List Nd):dN Tryz.prog 72 [(.ah (aB.map Nd.cells) .unk)] (yM aB) (fun r=>(.agg (Nd.cells r))):=bZ aEM (by unfold yM avu;exact bJ)
theorem UO {aB:List Nd} {c0:Ck} {r:Nd} (h:yM aB=some r):aD Tryz.prog 72 [(.ah (aB.map Nd.cells) c0)] (.agg (Nd.cells r)):=((anv _).c _ h).wk (.ah .nil)
def zL (k:Nat) (aY:Nd):Option Bool:=
 cond (aY.kind==2) ((vN aY.text).bind fun p3=>cond p3 (cond (aY.kind==3) ((uD k aY.text).bind fun p7=>some p7) (some false)) (some true)) (cond (aY.kind==3) ((uD k aY.text).bind fun kQ=>some kQ) (some false))
instance akE (k:Nat) (aY:Nd):dN Tryz.prog 249 [(.agg (Nd.cells aY))] (zL k aY) (fun r=>(.bool r)):=bZ aBt (by unfold zL apY;exact bJ)
theorem ZI {k:Nat} {aY:Nd} {r:Bool} (h:zL k aY=some r):aD Tryz.prog 249 [(.agg (Nd.cells aY))] (.bool r):=(akE _ _).c _ h
def M6 (rA:Int):Option Bool:=
 cond (rA==6) (some ((rA==6))) (cond (rA==12) (some ((rA==12))) (cond (rA==7) (some ((rA==7))) (cond (rA==8) (some ((rA==8))) (cond (rA==9) (some ((rA==9))) (cond (rA==13) (some ((rA==13))) (cond (rA==10) (some ((rA==10))) (cond (rA==11) (some ((rA==11))) (some ((rA==24))))))))))
instance axv (rA:Int):Lp Tryz.prog (Te) (M6 rA) [(7,17)] [(6,(.int .i64 rA))] (fun p=>(.normal,[(7,(.bool p))])):=GJ Te.eq_1 (by unfold M6;exact bW)
def vk (aY:Nd) (mM:Int):Option (List Str):=
 Option.bind (M6 aY.kind) (fun Ag=>cond Ag (cond (mM==(IntKind.wrap .i64 ((aY.args.length:Int) -1))) (some aY.names) (some [])) (cond (aY.kind==23) (cond (mM==1) (if 1<=aY.names.length then some (aY.names.take 1)else none) (cond (aY.n==1) (some aY.names) (if 1<=aY.names.length then some (aY.names.drop 1)else none))) (some [])))
instance akF (aY:Nd) (mM:Int):dN Tryz.prog 174 [(.agg (Nd.cells aY)),(.int .i64 mM)] (vk aY mM) (fun r=>(.ah (r.map aF) .unk)):=bZ aAN (by unfold vk apg;exact bJ)
theorem ZJ {aY:Nd} {mM:Int} {r:List Str} (h:vk aY mM=some r):aD Tryz.prog 174 [(.agg (Nd.cells aY)),(.int .i64 mM)] (.ah (r.map aF) .unk):=(akF _ _).c _ h
def kL (fH:Int):Option Bool:=
 cond (fH==6) (some ((fH==6))) (cond (fH==12) (some ((fH==12))) (cond (fH==7) (some ((fH==7))) (cond (fH==8) (some ((fH==8))) (cond (fH==9) (some ((fH==9))) (cond (fH==13) (some ((fH==13))) (cond (fH==10) (some ((fH==10))) (cond (fH==11) (some ((fH==11))) (some ((fH==24))))))))))
instance Pq (fH:Int):Lp Tryz.prog (Ui) (kL fH) [(14,24)] [(13,(.int .i64 fH))] (fun p=>(.normal,[(14,(.bool p))])):=GJ Ui.eq_1 (by unfold kL;exact bW)
def iM (aY:Nd) (mM:Int):Option (List Str):=
 Option.bind (kL aY.kind) (fun Ag=>cond Ag (cond (mM==(IntKind.wrap .i64 ((aY.args.length:Int) -1))) (some aY.names) (some [])) (cond (aY.kind==23) (cond (mM==(IntKind.wrap .i64 ((aY.args.length:Int) -1))) (if 1<=aY.names.length then some (aY.names.take 1)else none) (cond (aY.n==1) (some aY.names) (if 1<=aY.names.length then some (aY.names.drop 1)else none))) (some [])))
instance akG (aY:Nd) (mM:Int):dN Tryz.prog 240 [(.agg (Nd.cells aY)),(.int .i64 mM)] (iM aY mM) (fun r=>(.ah (r.map aF) .unk)):=bZ ahX (by unfold iM abk;exact bJ)
theorem akH {aY:Nd} {mM:Int} {r:List Str} (h:iM aY mM=some r):aD Tryz.prog 240 [(.agg (Nd.cells aY)),(.int .i64 mM)] (.ah (r.map aF) .unk):=(akG _ _).c _ h
end Go.VL
end
section
namespace Go.VL
open Go.Proofs Go.RowKit
theorem agM {H:AH} {id:Nat} {a b:List PV}:(H.put id a).put id b=H.put id b:=by
 unfold AH.put;simp only [AH.mk.injEq,true_and,and_true]
 funext i
 by_cases h:i=id<;>simp [h]
def Pt (n:Int):Str:=98::95::Lib.itoa n
def Dl (left:List Str):Nat->Int->Option (Str×Int)
 |0,_=>none
 |k+1,c=>if 0<=c/\c<=9000 then (bM k left (Pt (c+1))).bind fun b=>cond b (Dl left k (c+1)) (some (Pt (c+1),c+1))else none
theorem acU: ∀(m u:Nat),u<=m->(Lib.decDigits u).length<=u+1
 |0,u,h=>by rw [Lib.decDigits,dif_pos (by omega)];simp
 |m+1,u,h=>by
  rw [Lib.decDigits];split
  · simp
  · have:=acU m (u/10) (by omega);simp;omega
theorem akI {n:Int} (h:0<=n/\n<=10000):(Lib.itoa n).length<=10001:=by
 unfold Lib.itoa;rw [if_neg (by omega)];have:=acU n.toNat n.toNat (Nat.le_refl _);omega
theorem air (left:List Str) (o:Nat) (ev:PV): ∀(k:Nat) (c:Int) (s:Str) (c':Int) (σ:Nat->PV) (H:AH) (cl:Ck) (Q:Post),Dl left k c=some (s,c')->σ 0= .ref o 0->H.obj o=some [ev,.ah (left.map aF) cl,.int .i64 c]->
 (∀σ',σ' 2= .str s->Q .ret σ' (H.put o [ev,.ah (left.map aF) cl,.int .i64 c']))->W Tryz.prog (.loop UC) Q σ H:=by
 intro k
 induction k with
 |zero=>intro c s c' σ H cl Q h;cases h
 |succ k ih=>
  intro c s c' σ H cl Q h s0 ho q0;rw [Dl]at h;obtain⟨hc,h⟩:=aZ h;obtain⟨b,hb,h⟩:=ak h;have hlen:=akI (n:=c+1) (by omega);have hw:IntKind.wrap .i64 (c+1)=c+1:=by rw [IntKind.wrap_i64];omega
  have hg:([98,95]:Str).length+(Lib.itoa (c+1)).length<=4611686018427387904:=by simp;omega
  refine bA (fun K hK=>aJ ?_);unfold UC;simp -implicitDefEqProofs only [go_sem,dO,s0,ho,hw,Nat.le_refl];refine au (awo (c+1) (by omega)) ?_;simp -implicitDefEqProofs only [go_sem,dO,Nat.le_refl];refine ab4 hg ?_;have Dm:(H.put o [ev,.ah (left.map aF) cl,.int .i64 (c+1)]).obj o=some [ev,.ah (left.map aF) cl,.int .i64 (c+1)]:=by
   show(if o=o then _ else _)=_
   rw [if_pos rfl]
  simp -implicitDefEqProofs only [go_sem,dO,s0,Dm,Nat.le_refl];refine au (iL hb) ?_;obtain⟨e1,h⟩|⟨e1,h⟩:=aA h
  · subst e1;simp -implicitDefEqProofs only [go_sem,dO,Nat.le_refl];refine hK _ _ (ih (c+1) s c' _ _ cl Q h aH Dm fun σ' h2=> ?_);rw [agM];exact q0 σ' h2
  · subst e1;cases abl h;simp -implicitDefEqProofs only [go_sem,dO,Nat.le_refl];exact q0 _ (by simp -implicitDefEqProofs only [go_sem];rfl)
theorem ais {left:List Str} {o:Nat} {ev:PV} {k:Nat} {c:Int} {s:Str} {c':Int} {H:AH} {cl:Ck} (h:Dl left k c=some (s,c')) (ho:H.obj o=some [ev,.ah (left.map aF) cl,.int .i64 c]):
 bg Tryz.prog 284 [.ref o 0] H fun v H'=>v= .str s/\H'=H.put o [ev,.ah (left.map aF) cl,.int .i64 c']:=by
 refine aM aBQ (by simp) (aJ ?_);unfold aql;simp -implicitDefEqProofs only [go_sem];refine air left o ev k c s c' _ H cl _ h aH ho fun σ' h2=> ?_;simp -implicitDefEqProofs only [go_sem,h2,and_self]
end Go.VL
end
section
namespace Go.VL
def Ev {α:Type} (f:Nat->Option α) (v:α):Prop:= ∃K,∀k,K<=k->f k=some v
section
variable {α β:Type} {f:Nat->Option α} {v w:α}
theorem Ev.of_eq {o:Option α} (h:o=some v):Ev (fun _=>o) v:=⟨0,fun _ _=>h⟩
theorem Ev.all (h: ∀k,f k=some v):Ev f v:=⟨0,fun k _=>h k⟩
theorem Ev.some:Ev (fun _=>Option.some v) v:=⟨0,fun _ _=>rfl⟩
theorem Ev.some' (h:w=v):Ev (fun _=>Option.some w) v:=h▸Ev.some
theorem Ev.succ (h:Ev (fun k=>f (k+1)) v):Ev f v:=by
 obtain⟨K,h⟩:=h;refine⟨K+1,fun k hk=> ?_⟩;obtain⟨k,rfl⟩: ∃j,k=j+1:=⟨k -1,by omega⟩;exact h k (by omega)
theorem Ev.bind {f:Nat->Option β} {g:Nat->β->Option α} {x:β} (hf:Ev f x) (hg:Ev (fun k=>g k x) v):Ev (fun k=>Option.bind (f k) (g k)) v:=by
 obtain⟨K,hK⟩:=hf;obtain⟨L,hL⟩:=hg;refine⟨max K L,fun k hk=> ?_⟩;show Option.bind (f k) (g k)=_;rw [hK k (by omega)];exact hL k (by omega)
theorem Ev.iK {o:Option β} {g:Nat->β->Option α} {x:β} (hf:o=Option.some x) (hg:Ev (fun k=>g k x) v):Ev (fun k=>Option.bind o (g k)) v:=Ev.bind (Ev.of_eq hf) hg
theorem Ev.lg {p:Prop} [Decidable p] {g:Nat->Option α} (hp:p) (hg:Ev g v):Ev (fun k=>if p then g k else none) v:=by
 obtain⟨K,hK⟩:=hg;exact⟨K,fun k hk=>(if_pos hp).trans (hK k hk)⟩
theorem Ev.cT {b:Bool} {g g':Nat->Option α} (hb:b=true) (hg:Ev g v):Ev (fun k=>cond b (g k) (g' k)) v:=by subst hb;exact hg
theorem Ev.cF {b:Bool} {g g':Nat->Option α} (hb:b=false) (hg:Ev g' v):Ev (fun k=>cond b (g k) (g' k)) v:=by subst hb;exact hg
theorem Ev.to (h:Ev f v) (e:v=w):Ev f w:=e▸h
theorem Ev.cg {f g:Nat->Option α} (h:Ev f v) (e: ∀k,g k=f k):Ev g v:=by
 obtain⟨K,hK⟩:=h;exact⟨K,fun k hk=>(e k).trans (hK k hk)⟩
theorem Ev.uniq (h:Ev f v) (h':Ev f w):v=w:=by
 obtain⟨K,hK⟩:=h;obtain⟨L,hL⟩:=h';have a:=hK (max K L) (by omega);have b:=hL (max K L) (by omega);rw [a]at b;exact Option.some.inj b
theorem Ev.get (h:Ev f v): ∃k,f k=Option.some v:=by
 obtain⟨K,hK⟩:=h;exact⟨K,hK K (Nat.le_refl _)⟩
end
theorem wrap64 {x:Int} (h1: -9223372036854775808<=x) (h2:x<=9223372036854775807):IntKind.wrap .i64 x=x:=by rw [IntKind.wrap_i64];omega
theorem aW {α:Type} {l:List α} {i:Nat} (h:i<l.length):l[i]? =some l[i]:=List.getElem?_eq_getElem h
theorem down {p:Nat->Prop} {len:Nat} (h0:p len) (h1: ∀i,i<len->p (i+1)->p i): ∀i,i<=len->p i:=by
 intro i hi;obtain⟨n,rfl⟩: ∃n,len=i+n:=⟨len -i,by omega⟩
 induction n generalizing i with
 |zero=>exact h0
 |succ n ih=>exact h1 i (by omega) (ih (i+1) (by rw [Nat.add_right_comm];exact h0) (by rw [Nat.add_right_comm];exact h1) (by omega))
theorem gF {p:Nat->Prop} {len:Nat} (h0:p len) (h1: ∀i,i<len->p (i+1)->p i):p 0:=down h0 h1 0 (Nat.zero_le _)
theorem dw {i n:Nat} (hi:i<n) (hn:n<=1099511627776):IntKind.wrap .i64 ((i:Int)+1)=((i+1:Nat):Int):=by rw [wrap64 (by omega) (by omega)];omega
theorem gP {i n:Nat} (h:i<n):decide ((i:Int)<(n:Int))=true:=decide_eq_true (by omega)
theorem fT (n:Nat):decide ((n:Int)<(n:Int))=false:=decide_eq_false (by omega)
theorem nn (i:Nat):(0:Int)<=(i:Int):=by omega
theorem acV (b:Bool):QG b=some (if b=true then 1 else 0):=by cases b<;>rfl
theorem pU (n lo hi:Int):dP n lo hi=some (decide (lo<=n/\n<=hi)):=by
 unfold dP;by_cases h:lo<=n
 · simp [h,ge_iff_le]
 · simp [h,ge_iff_le]
theorem tu (n lo hi:Int):iy n lo hi=some (decide (lo<=n/\n<=hi)):=by
 unfold iy;by_cases h:lo<=n
 · simp [h]
 · simp [h]
theorem tC (b:Bool) (c:Int):ou b c=some (if b=true then c else 0):=by cases b<;>rfl
theorem M7 {α:Type} {l:List α} {i:Nat} (h:i<l.length) {s:α}:s∈l.drop i↔l[i]=s\/s∈l.drop (i+1):=by
 rw [List.drop_eq_getElem_cons h,List.mem_cons];exact or_congr_left eq_comm
theorem sN (l:List Str) (s:Str) (hl:l.length<=1099511627776):Ev (fun k=>nG k l s) (decide (s∈l)):=by
 have key:Ev (fun k=>nM k l s ((0:Nat):Int)) (if s∈l.drop 0 then .inr true else .inl ()):=by
  refine gF (len:=l.length) (p:=fun i=>Ev (fun k=>nM k l s (i:Int)) (if s∈l.drop i then .inr true else .inl ())) ?_ fun i hi ih=> ?_
  · refine Ev.succ ?_;simp only [nM];refine Ev.cF (fT _) (Ev.some' ?_);simp
  · refine Ev.succ ?_;simp only [nM,Int.toNat_natCast,aW hi,Option.bind_some,nn,if_true,gP hi,cond_true,dw hi hl];by_cases h:l[i]=s
    · refine Ev.cT (by rw [beq_iff_eq];exact h) (Ev.some' ?_);rw [if_pos ((M7 hi).2 (.inl h))]
    · refine Ev.cF (by rw [beq_eq_false_iff_ne];exact h) (ih.to ?_);simp only [M7 hi,h,false_or]
 unfold nG;refine Ev.bind key ?_;rw [List.drop_zero];by_cases h:s∈l
 · simp only [h,if_true,eT,decide_true];exact Ev.some
 · simp only [h,if_false,dZ,decide_false];exact Ev.some
theorem sP (l:List Str) (s:Str) (hl:l.length<=1099511627776):Ev (fun k=>bM k l s) (decide (s∈l)):=by
 have key: ∃o:Unit⊕Int,Ev (fun k=>eD k l s (l.length:Int) ((0:Nat):Int)) o/\((o= .inl ()/\ ¬s∈l.drop 0)\/(∃j:Nat,o= .inr (j:Int))/\s∈l.drop 0):=by
  refine gF (len:=l.length) (p:=fun i=> ∃o:Unit⊕Int,Ev (fun k=>eD k l s (l.length:Int) (i:Int)) o/\((o= .inl ()/\ ¬s∈l.drop i)\/(∃j:Nat,o= .inr (j:Int))/\s∈l.drop i)) ?_ fun i hi ⟨o,ih,ho⟩=> ?_
  · refine⟨.inl (),Ev.succ ?_,.inl ⟨rfl,by simp⟩⟩;simp only [eD];exact Ev.cF (fT _) Ev.some
  · by_cases h:l[i]=s
    · refine⟨.inr (i:Int),Ev.succ ?_,.inr ⟨⟨i,rfl⟩,(M7 hi).2 (.inl h)⟩⟩;simp only [eD,Int.toNat_natCast,aW hi,Option.bind_some,nn,if_true,gP hi,cond_true,dw hi hl];exact Ev.cT (by rw [beq_iff_eq];exact h.symm) Ev.some
    · refine⟨o,Ev.succ ?_,by simp only [M7 hi,h,false_or];exact ho⟩;simp only [eD,Int.toNat_natCast,aW hi,Option.bind_some,nn,if_true,gP hi,cond_true,dw hi hl];exact Ev.cF (by rw [beq_eq_false_iff_ne];exact fun e=>h e.symm) ih
 obtain⟨o,h1,h2⟩:=key;rw [List.drop_zero]at h2;unfold bM;rcases h2 with⟨rfl,h2⟩|⟨⟨j,rfl⟩,h2⟩
 · refine Ev.bind (x:= -1) (by unfold mI;exact Ev.bind h1 Ev.some) (Ev.some' ?_);simp [h2]
 · refine Ev.bind (x:=(j:Int)) (by unfold mI;exact Ev.bind h1 Ev.some) (Ev.some' ?_);simp [h2]
theorem V4 (a b:List Str) (hl:a.length<=1099511627776):Ev (fun k=>yL k a b) (decide (a=b)):=by
 unfold yL;by_cases hab:a.length=b.length
 · refine Ev.cF (by simp [hab]) ?_;have key:Ev (fun k=>kZ k a b ((0:Nat):Int)) (if a.drop 0=b.drop 0 then .inl ()else .inr false):=by
    refine gF (len:=a.length) (p:=fun i=>Ev (fun k=>kZ k a b (i:Int)) (if a.drop i=b.drop i then .inl ()else .inr false)) ?_ fun i hi ih=> ?_
    · refine Ev.succ ?_;simp only [kZ];refine Ev.cF (fT _) (Ev.some' ?_);simp [hab]
    · have hi':i<b.length:=hab▸hi;refine Ev.succ ?_;simp only [kZ,Int.toNat_natCast,aW hi,aW hi',Option.bind_some,nn,if_true,gP hi,cond_true,dw hi hl];by_cases h:a[i]=b[i]
      · refine Ev.cT (by rw [beq_iff_eq];exact h) (ih.to ?_);have:List.drop i a=a[i]::List.drop (i+1) a:=List.drop_eq_getElem_cons hi;have:List.drop i b=b[i]::List.drop (i+1) b:=List.drop_eq_getElem_cons hi';simp only [*,List.cons.injEq,true_and]
      · refine Ev.cF (by rw [beq_eq_false_iff_ne];exact h) (Ev.some' ?_);have e1:List.drop i a=a[i]::List.drop (i+1) a:=List.drop_eq_getElem_cons hi;have e2:List.drop i b=b[i]::List.drop (i+1) b:=List.drop_eq_getElem_cons hi';rw [if_neg];intro e;rw [e1,e2,List.cons.injEq]at e;exact h e.1
   refine Ev.bind key ?_;by_cases h:a=b
   · subst h;simp only [if_true,dZ,decide_true];exact Ev.some
   · simp only [List.drop_zero,h,if_false,eT,decide_false];exact Ev.some
 · refine Ev.cT (by simp;omega) (Ev.some' ?_);exact(decide_eq_false fun e=>hab (by rw [e])).symm
def Lv:Operator:=Operator.mk [] 0 0 0 false 0 0
def dL (l:List Operator) (t:Str):Operator×Bool:=match l with
 |[]=>(Lv,false)
 |o::l=>if o.text=t then(o,true)else dL l t
def ait (x:Operator):Operator:=Operator.mk x.text x.fix x.low x.high x.left (if x.fix=1 then 2 else 1) (if x.text=[92,88]then 4 else if x.fix=1 then 2 else 1)
theorem aaJ (add:List Operator) (hl:add.length<=1000): ∀i,i<=add.length-> ∀out:List Operator,out.length=i->Ev (fun k=>oK k out add (i:Int)) (out++(add.drop i).map ait):=by
 refine down (p:=fun i=> ∀out:List Operator,out.length=i->Ev (fun k=>oK k out add (i:Int)) (out++(add.drop i).map ait)) ?_ fun i hi ih out ho=> ?_
 · intro out ho;refine Ev.succ ?_;simp only [oK];refine Ev.cF (fT _) (Ev.some' ?_);simp
 · refine Ev.succ ?_;simp only [oK,Int.toNat_natCast,aW hi,Option.bind_some,nn,if_true,gP hi,cond_true,dw hi (by omega),acV];have e1:(out.length+1)*64<=1099511627776:=by omega
   have e2:IntKind.wrap .i64 (1+if(add[i].fix==1)=true then 1 else 0)=if add[i].fix=1 then 2 else 1:=by
    by_cases h:add[i].fix=1
    · simp [h];rfl
    · simp [h];rfl
   simp only [if_pos e1,e2];by_cases h:add[i].text=[92,88]
   · refine Ev.cT (by rw [beq_iff_eq];exact h) ((ih _ (by simp [ho])).to ?_);rw [List.drop_eq_getElem_cons hi,List.map_cons,List.append_assoc];simp [ait,h]
   · refine Ev.cF (by rw [beq_eq_false_iff_ne];exact h) ((ih _ (by simp [ho])).to ?_);rw [List.drop_eq_getElem_cons hi,List.map_cons,List.append_assoc];simp [ait,h]
def eG:List Operator:=(Ij 60).getD []
theorem aiu:Ev (fun k=>Ij k) eG:=by
 unfold Ij;exact Ev.bind (aaJ _ (by simp) 0 (Nat.zero_le _) [] rfl) (Ev.some' (by kernel_rfl))
theorem Kc (t:Str):Ev (fun k=>uW k t) (dL eG t):=by
 have hlen:eG.length≤1099511627776:=by
  have:eG.length=42:=by kernel_rfl
  omega
 have key: ∀(l:List Operator),l.length<=1099511627776->Ev (fun k=>jT k t ([]:Str) 0 0 0 false 0 0 l ((0:Nat):Int)) (match dL (l.drop 0) t with|(o,true)=> .inr (true,o.text,o.fix,o.low,o.high,o.left,o.least,o.most)|(_,false)=> .inl (([]:Str),0,0,0,false,0,0)):=by
  intro l hl;refine gF (len:=l.length) (p:=fun i=>Ev (fun k=>jT k t ([]:Str) 0 0 0 false 0 0 l (i:Int)) (match dL (l.drop i) t with|(o,true)=> .inr (true,o.text,o.fix,o.low,o.high,o.left,o.least,o.most)|(_,false)=> .inl (([]:Str),0,0,0,false,0,0))) ?_ fun i hi ih=> ?_
  · refine Ev.succ ?_;simp only [jT];refine Ev.cF (fT _) (Ev.some' ?_);simp [dL]
  · refine Ev.succ ?_;simp only [jT,Int.toNat_natCast,aW hi,Option.bind_some,nn,if_true,gP hi,cond_true,dw hi hl];have e1:List.drop i l=l[i]::List.drop (i+1) l:=List.drop_eq_getElem_cons hi;by_cases h:l[i].text=t
    · refine Ev.cT (by rw [beq_iff_eq];exact h) (Ev.some' ?_);rw [e1,dL,if_pos h]
    · refine Ev.cF (by rw [beq_eq_false_iff_ne];exact h) (ih.to ?_);rw [e1,dL,if_neg h]
 have hk:=key eG hlen;rw [List.drop_zero]at hk;unfold uW;refine Ev.bind aiu (Ev.bind hk ?_);have hno: ∀l:List Operator,(dL l t).2=false->(dL l t).1=Lv:=by
  intro l
  induction l with
  |nil=>intro _;rfl
  |cons o l ih=>
   intro h;rw [dL]at h⊢;by_cases e:o.text=t
   · rw [if_pos e]at h;cases h
   · rw [if_neg e]at h⊢;exact ih h
 have:=hno eG;generalize dL eG t=r at this;obtain⟨o,b⟩:=r;cases b with
 |true=>simp only [eT];exact Ev.some
 |false=>simp only [dZ];exact Ev.some' (by rw [show o=Lv from this rfl];rfl)
def isLet (c:UInt8):Bool:=decide (97<=c.toNat/\c.toNat<=122)||decide (65<=c.toNat/\c.toNat<=90)
def GZ (c:UInt8):Bool:=decide (48<=c.toNat/\c.toNat<=57)
def rR (c:UInt8):Bool:=isLet c||GZ c||decide (c.toNat=95)
def Rp:List Str:=zD.getD []
theorem aaK:zD=some Rp:=rfl
theorem agN:Rp.length=50:=by kernel_rfl
def bName (s:Str):Bool:=decide (1<=s.length/\s.length<=24)&& !decide (s∈Rp)&&s.all rR&&s.any isLet
def vo (s:Str):Bool:=decide (s=[84,82,85,69])||decide (s=[70,65,76,83,69])||decide (s=[66,79,79,76,69,65,78])||decide (s=[83,84,82,73,78,71])
def ZK (s:Str):Bool:=decide (s.take 3=[87,70,95])||decide (s.take 3=[83,70,95])
def rName (s:Str):Bool:=bName s&& !vo s&& !ZK s
def bang:Str->Option (Str×Str)
 |[]=>none
 |c::s=>if c=33 then some ([],s)else(bang s).map fun p=>(c::p.1,p.2)
def ku (s:Str):Bool:=match bang s with
 |some (a,b)=>rName a&&rName b
 |none=>rName s
theorem aaL (c:UInt8):zF (c.toNat:Int)=some (isLet c):=by
 unfold zF isLet;generalize c.toNat=n;by_cases h1:97<=n<;>by_cases h2:n<=122<;>by_cases h3:65<=n<;>by_cases h4:n<=90<;>simp [h1,h2,h3,h4,ge_iff_le,show((97:Int)<=n)=(97<=n) by rw [eq_iff_iff];omega,show((n:Int)<=122)=(n<=122) by rw [eq_iff_iff];omega,show((65:Int)<=n)=(65<=n) by rw [eq_iff_iff];omega,show((n:Int)<=90)=(n<=90) by rw [eq_iff_iff];omega]
theorem acW (c:UInt8):BL (c.toNat:Int)=some (GZ c):=by
 unfold BL GZ;generalize c.toNat=n;by_cases h1:48<=n<;>by_cases h2:n<=57<;>simp [h1,h2,ge_iff_le,show((48:Int)<=n)=(48<=n) by rw [eq_iff_iff];omega,show((n:Int)<=57)=(n<=57) by rw [eq_iff_iff];omega]
theorem drop_cons {α:Type} {l:List α} {i:Nat} (h:i<l.length):List.drop i l=l[i]::List.drop (i+1) l:=List.drop_eq_getElem_cons h
theorem Yy (s:Str) (i:Nat) (h:i<s.length) (t:Bool):Au s (i:Int) t=some (t&& !GZ s[i]&& !decide (s[i].toNat=95)):=by
 unfold Au;simp only [Int.toNat_natCast,aW h,Option.bind_some,nn,if_true,acW];cases t
 · rfl
 · cases GZ s[i]
   · simp only [cond_true,cond_false,Bool.true_and,Bool.not_false];congr 1;by_cases e:s[i].toNat=95
     · simp [e]
     · simp only [e,decide_false,Bool.not_false,bne_iff_ne,ne_eq];omega
   · rfl
theorem afr (s:Str):Ev (fun k=>EI k s) (bName s):=by
 unfold EI Fu;simp only [pU,aaK,Option.bind_some];by_cases h1:1<=s.length/\s.length<=24
 · have e1:(decide ((1:Int)<=(s.length:Int)/\(s.length:Int)<=24))=true:=decide_eq_true (by omega);simp only [e1,cond_true];by_cases h2:s∈Rp
   · refine Ev.bind (x:= .inr false) (Ev.bind (sN _ _ (by rw [agN];omega)) (Ev.cT (decide_eq_true h2) Ev.some)) ?_;simp only [eT];exact Ev.some' (by simp [bName,h2])
   · refine Ev.bind (x:= .inl ()) (Ev.bind (sN _ _ (by rw [agN];omega)) (Ev.cF (decide_eq_false h2) Ev.some)) ?_;simp only [dZ];have hb:s.length<=1099511627776:=by omega
     have key: ∀l:Bool,Ev (fun k=>ny k s l ((0:Nat):Int)) (if(s.drop 0).all rR=true then .inl (l||(s.drop 0).any isLet)else .inr false):=by
      refine gF (len:=s.length) (p:=fun i=> ∀l:Bool,Ev (fun k=>ny k s l (i:Int)) (if(s.drop i).all rR=true then .inl (l||(s.drop i).any isLet)else .inr false)) ?_ fun i hi ih l=> ?_
      · intro l;refine Ev.succ ?_;simp only [ny];refine Ev.cF (fT _) (Ev.some' ?_);simp
      · refine Ev.succ ?_;simp only [ny,Int.toNat_natCast,aW hi,Option.bind_some,nn,if_true,gP hi,cond_true,dw hi hb,aaL,Yy s i hi];rw [drop_cons hi];simp only [List.all_cons,List.any_cons];by_cases hc:rR s[i]=true
        · refine Ev.cF ?_ ?_
          · unfold rR at hc;revert hc;cases isLet s[i]<;>cases GZ s[i]<;>cases decide (s[i].toNat=95)<;>simp
          · simp only [hc,Bool.true_and];cases l
            · simp only [cond_false,Bool.false_or];exact ih _
            · simp only [cond_true,Bool.true_or];exact(ih true).to (by simp)
        · refine Ev.cT ?_ (Ev.some' ?_)
          · unfold rR at hc;revert hc;cases isLet s[i]<;>cases GZ s[i]<;>cases decide (s[i].toNat=95)<;>simp
          · simp [hc]
     refine Ev.bind (key false) ?_;rw [List.drop_zero];by_cases h3:s.all rR=true
     · simp only [h3,if_true,dZ];exact Ev.some' (by simp [bName,h1,h2,h3])
     · simp only [h3,eT];exact Ev.some' (by simp [bName,h3])
 · have e1:(decide ((1:Int)<=(s.length:Int)/\(s.length:Int)<=24))=false:=decide_eq_false (by omega);simp only [e1,cond_false,Option.bind_some,eT];exact Ev.some' (by simp [bName,h1])
theorem LB (a b:Str):(a==b)=decide (a=b):=by
 by_cases h:a=b
 · simp [h]
 · simp [h]
theorem Dn (s:Str):vN s=some (vo s):=by
 unfold vN vo;simp only [LB];cases decide (s=[84,82,85,69])<;>cases decide (s=[70,65,76,83,69])<;>cases decide (s=[66,79,79,76,69,65,78])<;>rfl
theorem Pv (s:Str):BP s=some (vo s):=Dn s
theorem Aw (s:Str):Ev (fun k=>uz k s) (rName s):=by
 unfold uz;refine Ev.bind (afr s) ?_;simp only [Dn,Option.bind_some,LB];unfold rName;cases bName s
 · exact Ev.some
 · simp only [cond_true,Bool.true_and];cases vo s
   · simp only [cond_false,Bool.not_false,Bool.true_and];by_cases h:3<=s.length
     · refine Ev.cT (decide_eq_true (by omega)) (Ev.lg h ?_);unfold ZK;cases decide (s.take 3=[87,70,95])<;>exact Ev.some
     · refine Ev.cF (decide_eq_false (by omega)) (Ev.some' ?_);unfold ZK;have e1: ¬s.take 3=[87,70,95]:=fun e=>h (by have:=congrArg List.length e;rw [List.length_take]at this;simp at this;omega);have e2: ¬s.take 3=[83,70,95]:=fun e=>h (by have:=congrArg List.length e;rw [List.length_take]at this;simp at this;omega);simp [e1,e2]
   · exact Ev.some
theorem akJ (s:Str) (i:Nat) (h:i<s.length):bang (s.drop i)=if s[i]=33 then some ([],s.drop (i+1))else(bang (s.drop (i+1))).map fun p=>(s[i]::p.1,p.2):=by
 rw [drop_cons h,bang]
theorem Fy (s:Str) (hb:s.length<=1099511627776):Ev (fun k=>uD k s) (ku s):=by
 have key: ∃o:Unit⊕Bool,Ev (fun k=>oO k s ((0:Nat):Int)) o/\(match bang (s.drop 0)with|some (a,b)=>o= .inr (rName (s.take 0++a)&&rName b)|none=>o= .inl ()):=by
  refine gF (len:=s.length) (p:=fun i=> ∃o:Unit⊕Bool,Ev (fun k=>oO k s (i:Int)) o/\(match bang (s.drop i)with|some (a,b)=>o= .inr (rName (s.take i++a)&&rName b)|none=>o= .inl ())) ?_ fun i hi ⟨o,ih,ho⟩=> ?_
  · refine⟨.inl (),Ev.succ ?_,by simp [bang]⟩;simp only [oO];exact Ev.cF (fT _) Ev.some
  · rw [akJ s i hi];by_cases h:s[i]=33
    · refine⟨.inr (rName (s.take i)&&rName (s.drop (i+1))),Ev.succ ?_,by simp [h]⟩;simp only [oO,Int.toNat_natCast,aW hi,Option.bind_some,nn,if_true,gP hi,cond_true,dw hi hb,true_and];refine Ev.cT (by rw [h];rfl) (Ev.lg (by omega) (Ev.bind (Aw _) ?_));cases rName (s.take i)
      · exact Ev.some
      · simp only [cond_true,Bool.true_and];exact Ev.lg (by omega) (Ev.bind (Aw _) Ev.some)
    · refine⟨o,Ev.succ ?_,?_⟩
      · simp only [oO,Int.toNat_natCast,aW hi,Option.bind_some,nn,if_true,gP hi,cond_true,dw hi hb,true_and];refine Ev.cF ?_ ih;rw [beq_eq_false_iff_ne];intro e;refine h (UInt8.toNat_inj.1 ?_);show s[i].toNat=33;omega
      · rw [if_neg h];revert ho;cases bang (s.drop (i+1))with
        |none=>exact id
        |some p=>
            obtain⟨a,b⟩:=p;simp only [Option.map_some];rw [List.take_succ_eq_append_getElem hi,List.append_assoc];exact id
 obtain⟨o,h1,h2⟩:=key;unfold uD;refine Ev.bind h1 ?_;unfold ku;rw [List.drop_zero]at h2;revert h2;cases bang s with
 |none=>intro h2;subst h2;simp only [dZ];exact Ev.bind (Aw s) Ev.some
 |some p=>
  obtain⟨a,b⟩:=p;intro h2;simp only [List.take_zero,List.nil_append]at h2;subst h2;simp only [eT];exact Ev.some
def gY (n lo hi:Int):Bool:=decide (lo<=n/\n<=hi)
def Pw (c:UInt8):Bool:=decide (32<=c.toNat/\c.toNat<=126)&& !decide (c.toNat=34)&& !decide (c.toNat=92)
def yN (s:Str):Bool:=decide (s.length<=40)&&s.all Pw
theorem acX (s:Str) (m:Int) (hm:m<=1099511627776):Ev (fun k=>FW k s m) (decide ((s.length:Int)<=m)&&s.all fun c=>decide (32<=c.toNat/\c.toNat<=126)):=by
 unfold FW;by_cases h:(s.length:Int)<=m
 · refine Ev.cF (decide_eq_false (by omega)) ?_;have hb:s.length<=1099511627776:=by omega
   have key:Ev (fun k=>pO k s ((0:Nat):Int)) (if(s.drop 0).all (fun c=>decide (32<=c.toNat/\c.toNat<=126))=true then .inl ()else .inr false):=by
    refine gF (len:=s.length) (p:=fun i=>Ev (fun k=>pO k s (i:Int)) (if(s.drop i).all (fun c=>decide (32<=c.toNat/\c.toNat<=126))=true then .inl ()else .inr false)) ?_ fun i hi ih=> ?_
    · refine Ev.succ ?_;simp only [pO];exact Ev.cF (fT _) (Ev.some' (by simp))
    · refine Ev.succ ?_;simp only [pO,Int.toNat_natCast,aW hi,Option.bind_some,nn,if_true,gP hi,cond_true,dw hi hb];rw [drop_cons hi];simp only [List.all_cons,Bool.and_eq_true,decide_eq_true_eq];by_cases h1:32<=s[i].toNat
      · refine Ev.cF (decide_eq_false (by omega)) ?_;by_cases h2:s[i].toNat<=126
        · refine Ev.cF (decide_eq_false (by omega)) (ih.to ?_);simp only [h1,h2,true_and]
        · refine Ev.cT (decide_eq_true (by omega)) (Ev.some' ?_);simp only [h1,h2,and_false,false_and,if_false]
      · refine Ev.cT (decide_eq_true (by omega)) (Ev.some' ?_);simp only [h1,false_and,if_false]
   refine Ev.bind key ?_;rw [List.drop_zero];by_cases h3:(s.all fun c=>decide (32<=c.toNat/\c.toNat<=126))=true
   · simp only [h3,if_true,dZ];exact Ev.some' (by simp [h])
   · simp only [h3,if_false,eT];exact Ev.some' (by simp)
 · refine Ev.cT (decide_eq_true (by omega)) (Ev.some' ?_);simp [h]
theorem aiv (s:Str):Ev (fun k=>jd k s) (yN s):=by
 unfold jd;refine Ev.bind (acX s 40 (by omega)) ?_;by_cases h0:s.length<=40
 · have h0':(s.length:Int)<=40:=by omega
   have hb:s.length<=1099511627776:=by omega
   have key:Ev (fun k=>sU k s ((0:Nat):Int)) (if(s.drop 0).all (fun c=> !decide (c.toNat=34)&& !decide (c.toNat=92))=true then .inl ()else .inr false):=by
    refine gF (len:=s.length) (p:=fun i=>Ev (fun k=>sU k s (i:Int)) (if(s.drop i).all (fun c=> !decide (c.toNat=34)&& !decide (c.toNat=92))=true then .inl ()else .inr false)) ?_ fun i hi ih=> ?_
    · refine Ev.succ ?_;simp only [sU];exact Ev.cF (fT _) (Ev.some' (by simp))
    · refine Ev.succ ?_;simp only [sU,Int.toNat_natCast,aW hi,Option.bind_some,nn,if_true,gP hi,cond_true,dw hi hb];rw [drop_cons hi];simp only [List.all_cons,Bool.and_eq_true,Bool.not_eq_true',decide_eq_false_iff_not];by_cases h1:s[i].toNat=34
      · refine Ev.cT (by rw [h1];rfl) (Ev.some' ?_);simp [h1]
      · refine Ev.cF (by rw [beq_eq_false_iff_ne];omega) ?_;by_cases h2:s[i].toNat=92
        · refine Ev.cT (by rw [h2];rfl) (Ev.some' ?_);simp [h2]
        · refine Ev.cF (by rw [beq_eq_false_iff_ne];omega) (ih.to ?_);simp [h1,h2]
   have hsplit:yN s=((s.all fun c=>decide (32<=c.toNat/\c.toNat<=126))&&s.all fun c=> !decide (c.toNat=34)&& !decide (c.toNat=92)):=by
    unfold yN;rw [decide_eq_true h0,Bool.true_and]
    induction s with
    |nil=>rfl
    |cons c l ih=>
     have: ∀a b c d:Bool,(a&&b&&(c&&d))=(a&&c&&(b&&d)):=by decide
     have e1: ∀l:Str,l.all Pw=((l.all fun c=>decide (32<=c.toNat/\c.toNat<=126))&&l.all fun c=> !decide (c.toNat=34)&& !decide (c.toNat=92)):=by
      intro l
      induction l with
      |nil=>rfl
      |cons c l ih=>simp only [List.all_cons,ih,Pw,Bool.and_assoc];cases decide (32<=c.toNat/\c.toNat<=126)<;>cases decide (c.toNat=34)<;>cases decide (c.toNat=92)<;>simp
     exact e1 _
   rw [hsplit];simp only [decide_eq_true h0',Bool.true_and];cases(s.all fun c=>decide (32<=c.toNat/\c.toNat<=126))
   · exact Ev.some
   · simp only [cond_true,Bool.true_and];refine Ev.bind key ?_;rw [List.drop_zero];cases h3:(s.all fun c=> !decide (c.toNat=34)&& !decide (c.toNat=92))
     · simp only [Bool.false_eq_true,if_false,eT];exact Ev.some
     · simp only [if_true,dZ];exact Ev.some
 · have h0': ¬(s.length:Int)<=40:=by omega
   simp only [decide_eq_false h0',Bool.false_and,cond_false];exact Ev.some' (by simp [yN,h0])
def iW (kind:Int):(Int×Int×Int×Int)×Bool:=(sM kind).getD ((0,0,0,0),false)
theorem aiw (kind:Int):sM kind=some (iW kind):=by
 have:(sM kind).isSome=true:=by
  unfold sM wz CP CQ CS CU CV CW
  repeat' first
   |rfl
   |(generalize(kind==_)=b;cases b<;>simp only [cond_true,cond_false,Option.bind_some])
 unfold iW;cases h:sM kind with
 |none=>rw [h]at this;cases this
 |some v=>rfl
def qo (n:Nd):Bool:=
 let s:=iW n.kind
 let o:=(dL eG n.text).2&&decide (n.kind=3)
 let lo:=if o=true then 0 else s.1.2.2.1
 let hi:=if o=true then(n.args.length:Int)else s.1.2.2.2
 gY (n.names.length:Int) s.1.1 s.1.2.1&&gY ((n.args.length:Int) -(n.names.length:Int)*(if s.2=true then 1 else 0)) lo hi
def pV (n:Nd):Bool:=
 (decide (n.kind=1)||decide (n.kind=2)||decide (n.kind=3)||decide (n.kind=18)||decide (n.text=[]))&&
 (decide (n.kind=0)||decide (n.kind=23)||decide (n.n=0))&&(!decide (n.kind=23)||gY n.n 0 1)&&(!decide (n.kind=1)||yN n.text)
def vv:List Str->List Str->Bool
 |_,[]=>false
 |acc,s::l=>decide (s∈acc)||vv (acc++[s]) l
def qp (n:Nd):Int:=
 if(n.names.all rName)=false then 7 else
 if n.kind=2 then(if(ku n.text||vo n.text)=true then 0 else 7)else
 if n.kind=18 then(if rName n.text=true then 0 else 7)else
 if n.kind=3 then(if((dL eG n.text).2||ku n.text)=true then(if((dL eG n.text).2&& !gY (n.args.length:Int) (dL eG n.text).1.least (dL eG n.text).1.most)=true then 17 else 0)else 7)else 0
def bV (pl:Bool) (n:Nd):Int:=
 if gY n.kind 0 28=false then 4 else
 if qo n=false then 6 else
 if(pl&&pV n)=false then 5 else
 if(decide (n.kind=0)&& !gY n.n 0 10000)=true then 3 else
 if qp n≠0 then qp n else
 if vv [] n.names=true then 12 else 0
theorem aix (a b:Int) (c:Str) (l:List Str) (d:List Int) (hl:l.length<=1099511627776):Ev (fun k=>nH k a b c l d ((0:Nat):Int)) (if(l.drop 0).all rName=true then .inl ()else .inr 7):=by
 refine gF (len:=l.length) (p:=fun i=>Ev (fun k=>nH k a b c l d (i:Int)) (if(l.drop i).all rName=true then .inl ()else .inr 7)) ?_ fun i hi ih=> ?_
 · refine Ev.succ ?_;simp only [nH];exact Ev.cF (fT _) (Ev.some' (by simp))
 · refine Ev.succ ?_;simp only [nH,Int.toNat_natCast,aW hi,Option.bind_some,nn,if_true,gP hi,cond_true,dw hi hl];refine Ev.bind (Aw _) ?_;rw [drop_cons hi];simp only [List.all_cons];by_cases hb:rName l[i]=true
   · exact Ev.cT hb (ih.to (by simp only [hb,Bool.true_and]))
   · have hb:rName l[i]=false:=by simpa using hb
     exact Ev.cF hb (Ev.some' (by simp only [hb,Bool.false_and];rfl))
theorem anw (a b:Int) (c:Str) (l:List Str) (d:List Int) (hl:l.length<=1099511627776):Ev (fun k=>lK k a b c l d 1) (if vv [] l=true then .inr 12 else .inl ()):=by
 have key: ∀i,i<=l.length->Ev (fun k=>lK k a b c l d (i:Int)) (if vv (l.take i) (l.drop i)=true then .inr 12 else .inl ()):=by
  refine down ?_ fun i hi ih=> ?_
  · refine Ev.succ ?_;simp only [lK];exact Ev.cF (fT _) (Ev.some' (by simp [vv]))
  · refine Ev.succ ?_;have h2:i<=l.length:=by omega
    simp only [lK,Int.toNat_natCast,aW hi,Option.bind_some,nn,if_true,gP hi,cond_true,dw hi hl,true_and,h2];refine Ev.bind (sN _ _ (by rw [List.length_take];omega)) ?_;rw [drop_cons hi,vv,<-List.take_succ_eq_append_getElem hi];cases decide (l[i]∈l.take i)
    · simp only [cond_false,Bool.false_or];exact ih
    · exact Ev.some
 cases l with
 |nil=>
  refine Ev.succ ?_;simp only [lK];exact Ev.cF (by rfl) Ev.some
 |cons x l=>
  have:=key 1 (by simp);exact this.to (by simp [vv])
theorem acY (e:List Nd) (i:Nat) (n:Nd) (pl:Bool) (hn:e[i]? =some n) (hpl:Ev (fun k=>Bt k e (i:Int)) pl) (h1:n.text.length<=1000000) (h2:n.names.length<=1000000) (h3:n.args.length<=1000000):
 Ev (fun k=>BM k e (i:Int)) (bV pl n):=by
 unfold BM;simp only [Int.toNat_natCast,hn,Option.bind_some,nn,if_true,pU,aiw,acV];unfold bV;by_cases hk:gY n.kind 0 28=true
 case neg=>
  refine Ev.to (Ev.cF (by simpa [gY]using hk) Ev.some) (if_pos (by simpa using hk)).symm
 refine Ev.to ?_ (if_neg (by simp [hk])).symm;refine Ev.cT hk ?_
 have hj:Ev (fun k=>yC k n.kind n.n n.text n.names n.args (iW n.kind).1.1 (iW n.kind).1.2.1 (iW n.kind).1.2.2.1 (iW n.kind).1.2.2.2)
  ((iW n.kind).1.1,(iW n.kind).1.2.1,if((dL eG n.text).2&&decide (n.kind=3))=true then 0 else(iW n.kind).1.2.2.1,if((dL eG n.text).2&&decide (n.kind=3))=true then(n.args.length:Int)else(iW n.kind).1.2.2.2):=by
  unfold yC CX;refine Ev.bind (Kc _) ?_;cases(dL eG n.text).2
  · exact Ev.some
  · simp only [cond_true,Option.bind_some,Bool.true_and];by_cases h:n.kind=3
    · simp only [h,beq_self_eq_true,cond_true,decide_true,if_true];exact Ev.some
    · rw [show(n.kind==3)=false from beq_eq_false_iff_ne.2 h];simp only [cond_false,h,decide_false,Bool.false_eq_true,if_false];exact Ev.some
 refine Ev.bind hj ?_;have hm:IntKind.wrap .i64 ((n.names.length:Int)*if(iW n.kind).2=true then 1 else 0)=(n.names.length:Int)*if(iW n.kind).2=true then 1 else 0:=by
  split
  · exact wrap64 (by omega) (by omega)
  · exact wrap64 (by omega) (by omega)
 have hm2:IntKind.wrap .i64 ((n.args.length:Int) -((n.names.length:Int)*if(iW n.kind).2=true then 1 else 0))=(n.args.length:Int) -((n.names.length:Int)*if(iW n.kind).2=true then 1 else 0):=by
  split
  · exact wrap64 (by omega) (by omega)
  · exact wrap64 (by omega) (by omega)
 simp only [hm,hm2]
 have hsh: ∀(t:Bool),yD (iW n.kind).1.1 (iW n.kind).1.2.1 (if((dL eG n.text).2&&decide (n.kind=3))=true then 0 else(iW n.kind).1.2.2.1) (if((dL eG n.text).2&&decide (n.kind=3))=true then(n.args.length:Int)else(iW n.kind).1.2.2.2)
  ((n.args.length:Int) -((n.names.length:Int)*if(iW n.kind).2=true then 1 else 0)) (!gY (n.names.length:Int) (iW n.kind).1.1 (iW n.kind).1.2.1)=some (!qo n):=by
  intro t;unfold yD qo;simp only [pU,Option.bind_some];cases gY (n.names.length:Int) (iW n.kind).1.1 (iW n.kind).1.2.1
  · rfl
  · simp only [Bool.not_true,cond_false,Bool.true_and];rfl
 have axw:=hsh true;unfold gY at axw;refine Ev.iK axw ?_;cases hs:qo n
 · exact Ev.some
 simp only [Bool.not_true,cond_false,Bool.true_eq_false,if_false];have h3p:yE n.kind n.n n.text n.names n.args (n.kind==1)=some (decide (n.kind=1)||decide (n.kind=2)||decide (n.kind=3)||decide (n.kind=18)):=by
  unfold yE;by_cases a:n.kind=1
  · simp [a]
  by_cases b:n.kind=2
  · simp [b]
  by_cases c:n.kind=3
  · simp [c]
  by_cases d:n.kind=18
  · simp [d]
  simp [a,b,c,d,beq_eq_false_iff_ne.2 a,beq_eq_false_iff_ne.2 b,beq_eq_false_iff_ne.2 c,beq_eq_false_iff_ne.2 d]
 refine Ev.iK h3p (Ev.bind hpl ?_);have h4:Ev (fun k=>yF k n.kind n.n n.text n.names n.args (decide (n.kind=1)||decide (n.kind=2)||decide (n.kind=3)||decide (n.kind=18)) (!pl)) (!(pl&&pV n)):=by
  cases pl
  · exact Ev.some
  unfold yF pV;simp only [Bool.not_true,cond_false,Bool.true_and,pU,Option.bind_some];have hp:Ev (fun k=>(jd k n.text).bind fun p=>some (!p)) (!yN n.text):=Ev.bind (aiv _) Ev.some
  have key: ∀T0 T3 T2:Bool,T0=decide (n.n=0)->T2=gY n.n 0 1->
   Ev (fun k=>cond (n.kind !=0) (cond (n.kind !=23) (cond (n.n !=0) (some true) (cond (n.kind==23) (cond (decide (0<=n.n/\n.n<=1)) (cond (n.kind==1) ((jd k n.text).bind fun p=>some (!p)) (some false)) (some true)) (cond (n.kind==1) ((jd k n.text).bind fun p=>some (!p)) (some false))))
    (cond (n.kind==23) (cond (decide (0<=n.n/\n.n<=1)) (cond (n.kind==1) ((jd k n.text).bind fun p=>some (!p)) (some false)) (some true)) (cond (n.kind==1) ((jd k n.text).bind fun p=>some (!p)) (some false))))
    (cond (n.kind==23) (cond (decide (0<=n.n/\n.n<=1)) (cond (n.kind==1) ((jd k n.text).bind fun p=>some (!p)) (some false)) (some true)) (cond (n.kind==1) ((jd k n.text).bind fun p=>some (!p)) (some false))))
   (!((decide (n.kind=0)||decide (n.kind=23)||decide (n.n=0))&&(!decide (n.kind=23)||gY n.n 0 1)&&(!decide (n.kind=1)||yN n.text))):=by
   intro T0 T3 T2 _ _;unfold gY;by_cases a:n.kind=0
   · simp only [a];exact Ev.some
   by_cases b:n.kind=23
   · simp only [b];by_cases c:0<=n.n/\n.n<=1
     · simp only [c,and_self,decide_true];exact Ev.some
     · simp only [c,decide_false];exact Ev.some
   by_cases c:n.n=0
   · by_cases d:n.kind=1
     · simp only [c,d];exact hp
     · simp only [a,b,c,d,bne_iff_ne,beq_eq_false_iff_ne.2 a,beq_eq_false_iff_ne.2 b,beq_eq_false_iff_ne.2 d,bne,Bool.not_false,cond_true,cond_false,decide_false,decide_true];exact Ev.some
   · simp only [a,b,c,beq_eq_false_iff_ne.2 a,beq_eq_false_iff_ne.2 b,beq_eq_false_iff_ne.2 c,bne,Bool.not_false,cond_true,decide_false];exact Ev.some
  have key':=key _ false _ rfl rfl;cases(decide (n.kind=1)||decide (n.kind=2)||decide (n.kind=3)||decide (n.kind=18))
  · simp only [cond_false,Bool.false_or,LB];cases decide (n.text=[])
    · exact Ev.some
    · simp only [cond_true,Bool.true_and];exact key'
  · simp only [cond_true,Bool.true_or,Bool.true_and];exact key'
 refine Ev.bind h4 ?_;cases hc:(pl&&pV n)
 · exact Ev.some
 simp only [Bool.not_true,cond_false,Bool.true_eq_false,if_false];have h5:yG n.kind n.n n.text n.names n.args (n.kind==0)=some (decide (n.kind=0)&& !gY n.n 0 10000):=by
  unfold yG gY;simp only [pU,Option.bind_some];by_cases a:n.kind=0
  · simp only [a,beq_self_eq_true,cond_true,decide_true,Bool.true_and]
  · simp only [a,beq_eq_false_iff_ne.2 a,cond_false,decide_false,Bool.false_and]
 refine Ev.iK h5 ?_;cases h6:(decide (n.kind=0)&& !gY n.n 0 10000)
 case true=>exact Ev.some
 simp only [cond_false,Bool.false_eq_true,if_false];refine Ev.bind (aix _ _ _ n.names _ (by omega)) ?_;rw [List.drop_zero];unfold qp;cases h7:n.names.all rName
 · simp only [Bool.false_eq_true,if_false,eT,if_true];exact Ev.some
 simp only [if_true,dZ,Bool.true_eq_false,if_false];refine Ev.bind (Kc _) ?_
 have h8: ∀op:Operator,∀is:Bool,Ev (fun k=>yH k n.kind n.n n.text n.names n.args op.text op.fix op.low op.high op.left op.least op.most is)
  (if(if n.kind=2 then(if(ku n.text||vo n.text)=true then(0:Int)else 7)else if n.kind=18 then(if rName n.text=true then 0 else 7)else if n.kind=3 then(if(is||ku n.text)=true then(if(is&& !gY (n.args.length:Int) op.least op.most)=true then 17 else 0)else 7)else 0)=0 then .inl ()else
   .inr (if n.kind=2 then(if(ku n.text||vo n.text)=true then(0:Int)else 7)else if n.kind=18 then(if rName n.text=true then 0 else 7)else if n.kind=3 then(if(is||ku n.text)=true then(if(is&& !gY (n.args.length:Int) op.least op.most)=true then 17 else 0)else 7)else 0)):=by
  intro op is;unfold yH;by_cases a:n.kind=2
  · simp only [a,beq_self_eq_true,cond_true,if_true];refine Ev.bind (Fy _ (by omega)) ?_;cases ku n.text
    · simp only [cond_false,Dn,Option.bind_some,Bool.false_or];cases vo n.text<;>exact Ev.some
    · exact Ev.some
  by_cases b:n.kind=18
  · simp only [b];refine Ev.cF rfl (Ev.cT rfl ?_);refine Ev.bind (Aw _) ?_;cases rName n.text<;>exact Ev.some
  by_cases c:n.kind=3
  · simp only [c];refine Ev.cF rfl (Ev.cF rfl (Ev.cT rfl ?_));unfold Da;cases is
    · simp only [Bool.not_false,cond_true,Bool.false_or];refine Ev.bind (Ev.bind (Fy _ (by omega)) Ev.some) ?_;cases ku n.text<;>exact Ev.some
    · simp only [Bool.not_true,cond_false,Option.bind_some,cond_true,pU,Bool.true_or,if_true,Bool.true_and];unfold gY;cases decide (op.least<=(n.args.length:Int)/\(n.args.length:Int)<=op.most)<;>exact Ev.some
  · simp only [a,b,c,beq_eq_false_iff_ne.2 a,beq_eq_false_iff_ne.2 b,beq_eq_false_iff_ne.2 c,cond_false,if_false,if_true];exact Ev.some
 refine Ev.bind (h8 (dL eG n.text).1 (dL eG n.text).2) ?_;generalize hx:(if n.kind=2 then(if(ku n.text||vo n.text)=true then(0:Int)else 7)else if n.kind=18 then(if rName n.text=true then 0 else 7)else if n.kind=3 then(if((dL eG n.text).2||ku n.text)=true then(if((dL eG n.text).2&& !gY (n.args.length:Int) (dL eG n.text).1.least (dL eG n.text).1.most)=true then 17 else 0)else 7)else 0)=x;by_cases hx0:x=0
 · subst hx0;simp only [if_true,dZ,ne_eq,not_true_eq_false,if_false];refine Ev.bind (anw _ _ _ n.names _ (by omega)) ?_;cases vv [] n.names<;>exact Ev.some
 · simp only [hx0,if_false,eT,ne_eq,not_false_eq_true,if_true];exact Ev.some
def xO (acc:List Int) (n:Nd):Int:=match n.args with
 |[]=>acc.length
 |a::_=>acc[a.toNat]?.getD 0
def tF (acc:List Int):Int->List Int->Bool
 |_,[]=>true
 |next,a::l=>decide (a=next -1)&&decide (1<=next)&&tF acc (acc[(next -1).toNat]?.getD 0) l
structure rT (e:List Nd) (i:Nat) (acc:List Int):Prop where
 len:acc.length=i
 le:i<=e.length
 at_: ∀j,j<i-> ∃n b,e[j]? =some n/\acc[j]? =some b/\0<=b/\b<=(j:Int)/\(n.args=[]->b=(j:Int))/\ ∀a l,n.args=a::l->0<=a/\a<(j:Int)/\acc[a.toNat]? =some b
structure oz (e:List Nd):Prop where
 len:e.length<=1000000
 nd: ∀(i:Nat) n,e[i]? =some n->n.text.length<=1000000/\n.names.length<=1000000/\n.args.length<=1000000
theorem rT.rng {e:List Nd} {i:Nat} {acc:List Int} (h:rT e i acc) {j:Nat} {b:Int} (hb:acc[j]? =some b):j<i/\0<=b/\b<=(j:Int):=by
 have hj:j<i:=by have:=(List.getElem?_eq_some_iff.1 hb).1;have:=h.len;omega
 obtain⟨n,b',h1,h2,h3,h4,_⟩:=h.at_ j hj;rw [hb]at h2;cases h2;exact⟨hj,h3,h4⟩
theorem aaM {e:List Nd} {i:Nat} {acc:List Int} (h:rT e i acc) (hi:i<=1000000): ∀(j:Nat) (b:Int),acc[j]? =some b->Ev (fun k=>qU k e (j:Int)) (.inl b):=by
 intro j
 induction j using Nat.strongRecOn with
 |_ j ih=>
  intro b hb;obtain⟨hj,hb0,hb1⟩:=h.rng hb;obtain⟨n,b',h1,h2,_,_,h5,h6⟩:=h.at_ j hj;rw [hb]at h2;cases h2;refine Ev.succ ?_;simp only [qU,Int.toNat_natCast,nn,if_true,h1,Option.bind_some,pU];cases hargs:n.args with
  |nil=>
   refine Ev.cF (by simp) (Ev.some' ?_);rw [h5 hargs]
  |cons a l=>
   obtain⟨h7,h8,h9⟩:=h6 a l hargs;refine Ev.cT (by simp) ?_;simp only [List.getElem?_cons_zero,Option.bind_some];rw [wrap64 (by omega) (by omega)];refine Ev.cT (decide_eq_true (by omega)) ?_;have:=ih a.toNat (by omega) b h9
   rwa [Int.toNat_of_nonneg h7]at this
theorem V5 {e:List Nd} {i:Nat} {acc:List Int} (h:rT e i acc) (hi:i<=1000000) {j:Nat} {b:Int} (hb:acc[j]? =some b):Ev (fun k=>uY k e (j:Int)) b:=by
 unfold uY;refine Ev.cF (decide_eq_false (by omega)) (Ev.bind (aaM h hi j b hb) ?_);simp only [dZ];exact Ev.some
theorem acZ {α:Type} {l:List α} {m:Nat} (h:m<l.length):(l.take (m+1)).reverse=l[m]::(l.take m).reverse:=by
 rw [List.take_succ_eq_append_getElem h,List.reverse_append];rfl
theorem Yz {e:List Nd} {i:Nat} {acc:List Int} (h:rT e i acc) (hi:i<=1000000) {n:Nd} (hn:e[i]? =some n) (hl:n.args.length<=1000000): ∀(m:Nat),m<=n.args.length-> ∀nx:Nat,nx<=i->
 Ev (fun k=>uE k e (i:Int) (nx:Int) ((m:Int) -1)) (if tF acc nx (n.args.take m).reverse=true then .inl ()else .inr false):=by
 intro m
 induction m with
 |zero=>
  intro _ nx hnx;refine Ev.succ ?_;simp only [uE];exact Ev.cF (by rfl) (Ev.some' (by simp [tF]))
 |succ m ih=>
  intro hm nx hnx;have hm':m<n.args.length:=by omega
  refine Ev.succ ?_;have e1:(((m+1:Nat):Int) -1)=(m:Int):=by omega
  simp only [e1,uE,Int.toNat_natCast,nn,if_true,hn,Option.bind_some,aW hm'];rw [acZ hm',tF];refine Ev.cT (by simp) ?_;rw [wrap64 (x:=(nx:Int) -1) (by omega) (by omega),wrap64 (x:=(m:Int) -1) (by omega) (by omega)];by_cases h1:n.args[m]=(nx:Int) -1
  · refine Ev.cF (by rw [h1];simp) ?_;by_cases h2:nx<1
    · refine Ev.cT (decide_eq_true (by omega)) (Ev.some' ?_);have: ¬(1:Int)<=nx:=by omega
      simp [this]
    · refine Ev.cF (decide_eq_false (by omega)) ?_;obtain⟨j,rfl⟩: ∃j,nx=j+1:=⟨nx -1,by omega⟩;have e2:(((j+1:Nat):Int) -1)=(j:Int):=by omega
      rw [e2]at h1⊢;obtain⟨n',b,h3,h4,h5,h6,_⟩:=h.at_ j (by omega);refine Ev.bind (V5 h hi h4) ?_;obtain⟨b,rfl⟩: ∃b':Nat,b=b':=⟨b.toNat,by omega⟩;refine(ih (by omega) b (by omega)).to ?_;have e3:(1:Int)<=((j+1:Nat):Int):=by omega
      simp only [h1,e3,decide_true,Bool.true_and,Int.toNat_natCast,h4,Option.getD_some]
  · refine Ev.cT (by rw [bne_iff_ne];exact h1) (Ev.some' ?_);simp [h1]
theorem afs {e:List Nd} {i:Nat} {acc:List Int} (h:rT e i acc) (hi:i<=1000000) {n:Nd} (hn:e[i]? =some n) (hl:n.args.length<=1000000):Ev (fun k=>Bt k e (i:Int)) (tF acc i n.args.reverse):=by
 unfold Bt;simp only [Int.toNat_natCast,nn,if_true,hn,Option.bind_some];rw [wrap64 (by omega) (by omega)];have:=Yz h hi hn hl n.args.length (Nat.le_refl _) i (Nat.le_refl _);rw [List.take_length]at this;refine Ev.bind this ?_;cases tF acc i n.args.reverse
 · simp only [Bool.false_eq_true,if_false,eT];exact Ev.some
 · simp only [if_true,dZ];exact Ev.some
theorem YA {e:List Nd} {i:Nat} {acc:List Int} (h:rT e i acc): ∀(l:List Int) (nx:Nat),nx<=i->tF acc nx l=true-> ∀a∈l,0<=a/\a<(nx:Int)
 |[],_,_,_,a,ha=>by cases ha
 |a::l,nx,hnx,hp,x,hx=>by
  rw [tF,Bool.and_eq_true,Bool.and_eq_true,decide_eq_true_eq,decide_eq_true_eq]at hp;obtain⟨⟨h1,h2⟩,h3⟩:=hp;rcases List.mem_cons.1 hx with rfl|hx
  · omega
  · obtain⟨j,rfl⟩: ∃j,nx=j+1:=⟨nx -1,by omega⟩;have e2:(((j+1:Nat):Int) -1)=(j:Int):=by omega
    obtain⟨n',b,h4,h5,h6,h7,_⟩:=h.at_ j (by omega);rw [e2,Int.toNat_natCast,h5,Option.getD_some]at h3;obtain⟨b,rfl⟩: ∃b':Nat,b=b':=⟨b.toNat,by omega⟩;have:=YA h l b (by omega) h3 x hx;omega
theorem rT.zero (e:List Nd):rT e 0 []:=⟨rfl,Nat.zero_le _,fun j hj=>absurd hj (Nat.not_lt_zero _)⟩
theorem rT.succ {e:List Nd} {i:Nat} {acc:List Int} (h:rT e i acc) {n:Nd} (hn:e[i]? =some n) (hp:tF acc i n.args.reverse=true):rT e (i+1) (acc++[xO acc n]):=by
 have hmem:=YA h _ i (Nat.le_refl _) hp;have hlen:=h.len;refine⟨by simp [hlen],(List.getElem?_eq_some_iff.1 hn).1,fun j hj=> ?_⟩;have old: ∀(m:Nat) (b:Int),acc[m]? =some b->(acc++[xO acc n])[m]? =some b:=fun m b e=>by
  rw [List.getElem?_append_left (List.getElem?_eq_some_iff.1 e).1];exact e
 by_cases hj':j<i
 · obtain⟨n',b,h1,h2,h3,h4,h5,h6⟩:=h.at_ j hj';exact⟨n',b,h1,old _ _ h2,h3,h4,h5,fun a l ha=>⟨(h6 a l ha).1,(h6 a l ha).2.1,old _ _ (h6 a l ha).2.2⟩⟩
 · obtain rfl:j=i:=by omega
   have hnew:(acc++[xO acc n])[j]? =some (xO acc n):=by rw [List.getElem?_append_right (by omega),hlen,Nat.sub_self];rfl
   cases hargs:n.args with
   |nil=>
    have e1:xO acc n=(j:Int):=by unfold xO;rw [hargs];simp [hlen]
    exact⟨n,_,hn,hnew,by omega,by omega,fun _=>e1,fun a l ha=>by rw [hargs]at ha;cases ha⟩
   |cons a l=>
    have ha:=hmem a (by rw [hargs];simp);obtain⟨n',b,h1,h2,h3,h4,h5,h6⟩:=h.at_ a.toNat (by omega);have e1:xO acc n=b:=by unfold xO;rw [hargs];simp only [h2,Option.getD_some]
    rw [e1]at hnew old⊢;refine⟨n,b,hn,hnew,h3,by omega,(fun h=>by rw [hargs]at h;cases h),fun a' l' ha'=> ?_⟩;rw [hargs]at ha';cases ha';exact⟨ha.1,ha.2,old _ _ h2⟩
def jA:List Int->List Nd->List Int⊕(Int×Int)
 |acc,[]=> .inl acc
 |acc,n::l=>if bV (tF acc acc.length n.args.reverse) n≠0 then .inr ((acc.length:Int),bV (tF acc acc.length n.args.reverse) n)else jA (acc++[xO acc n]) l
theorem Ay {n:Nd} {pl:Bool} (h:bV pl n=0):pl=true:=by
 cases pl with
 |true=>rfl
 |false=>
  exfalso;unfold bV at h;simp only [Bool.false_and,if_true]at h;split at h
  · cases h
  · split at h<;>cases h
theorem aaN {e:List Nd} (hL:oz e): ∀i,i<=e.length-> ∀acc,rT e i acc->Ev (fun k=>sV k e (i:Int)) (match jA acc (e.drop i)with| .inl _=> .inl ()| .inr r=> .inr r):=by
 have hlen:=hL.len;refine down (fun acc h=> ?_) (fun i hi ih acc h=> ?_)
 · refine Ev.succ ?_;simp only [sV];exact Ev.cF (fT _) (Ev.some' (by simp [jA]))
 · refine Ev.succ ?_;obtain⟨h1,h2,h3⟩:=hL.nd i _ (aW hi);simp only [sV];refine Ev.cT (gP hi) (Ev.bind (acY e i e[i] _ (aW hi) (afs h (by omega) (aW hi) h3) h1 h2 h3) ?_);rw [drop_cons hi,jA,h.len];by_cases hc:bV (tF acc i e[i].args.reverse) e[i]=0
   · refine Ev.cF (by rw [hc];rfl) ?_;rw [dw hi (by omega)];refine(ih _ (h.succ (aW hi) (Ay hc))).to ?_;simp only [hc,ne_eq,not_true_eq_false,if_false]
   · refine Ev.cT (by rw [bne_iff_ne];exact hc) (Ev.some' ?_);simp only [ne_eq,hc,not_false_eq_true,if_true]
end Go.VL
end
section
set_option maxHeartbeats 4000000
namespace Go.VL
open Go.Proofs
def Az:Nat->Str->Int->Int->Int->Int->Option ((Int×Int))
 |0,_,_,_,_,_=>none
 |k+1,s_0,ZL,wE,vP,qm=>
  cond (decide (qm<(s_0.length:Int))) (if 0<=qm then (s_0[qm.toNat]?).bind fun x3=>if 0<=(x3.toNat:Int)/\(x3.toNat:Int)<256 then (Cy[x3.toNat]?).bind fun x6=>Az k s_0 (IntKind.wrap .i64 (ZL+(IntKind.wrap .i64 ((BitVec.ofInt (IntKind.bits .i64) wE&&&BitVec.ofInt (IntKind.bits .i64) (IntKind.wrap .i64 ((BitVec.ofInt (IntKind.bits .i64) (if IntKind.signed .i64=true then -1 else IntKind.max .i64)^^^BitVec.ofInt (IntKind.bits .i64) (IntKind.wrap .i64 x6)).toNat))).toNat)))) (IntKind.wrap .i64 x6) (IntKind.wrap .u8 ((BitVec.ofInt (IntKind.bits .u8) vP|||BitVec.ofInt (IntKind.bits .u8) (x3.toNat:Int)).toNat)) (IntKind.wrap .i64 (qm+1))else none else none) (some ((ZL,vP)))
def Px:List Nat:=[3,4,5,6,7,8]++List.range' 13 23
theorem aaO: ∀(k:Nat) (s_0:Str) (ZL:Int) (wE:Int) (vP:Int) (qm:Int) (aC σ:Nat->PV) (H:AH) (f0:Fr Px aC σ) (sl:σ 0=(.str s_0)/\σ 3=(.int .i64 ZL)/\σ 4=(.int .i64 wE)/\σ 5=(.int .u8 vP)/\σ 6=(.int .i64 qm)) (o:(Int×Int)) (h:Az k s_0 ZL wE vP qm=some o) (Q:Post) (q0: ∀(p:Int×Int) (σ':Nat->PV),o=p->Fr Px aC σ'->(σ' 3=(.int .i64 p.1)/\σ' 5=(.int .u8 p.2))->Q (.exit 0) σ' H),W Tryz.prog (.loop Uw) Q σ H:=by
 intro k
 induction k with
 |zero=>intro s_0 ZL wE vP qm aC σ H f0 sl o h Q q0;simp only [Az,reduceCtorEq]at h
 |succ k ih=>
  intro s_0 ZL wE vP qm aC σ H f0 sl o h Q q0;obtain⟨s0,s3,s4,s5,s6⟩:=sl;unfold Az at h;refine bA (fun K hK=>aJ ?_);unfold Uw;obtain⟨e1,h⟩|⟨e1,h⟩:=aA h
  ·obtain⟨e2,h⟩:=aZ h;obtain⟨x3,e4,h⟩:=ak h;obtain⟨e5,h⟩:=aZ h;obtain⟨x6,e7,h⟩:=ak h;refine dI ?_;refine hK _ _ ?_;exact ih s_0 (IntKind.wrap .i64 (ZL+(IntKind.wrap .i64 ((BitVec.ofInt (IntKind.bits .i64) wE&&&BitVec.ofInt (IntKind.bits .i64) (IntKind.wrap .i64 ((BitVec.ofInt (IntKind.bits .i64) (if IntKind.signed .i64=true then -1 else IntKind.max .i64)^^^BitVec.ofInt (IntKind.bits .i64) (IntKind.wrap .i64 x6)).toNat))).toNat)))) (IntKind.wrap .i64 x6) (IntKind.wrap .u8 ((BitVec.ofInt (IntKind.bits .u8) vP|||BitVec.ofInt (IntKind.bits .u8) (x3.toNat:Int)).toNat)) (IntKind.wrap .i64 (qm+1)) _ _ _ aN aH _ h _ q0
  ·cases h;refine dI ?_;exact q0 _ _ rfl aN aH
def AA:Nat->Str->Int->Option Int
 |0,_,_=>none
 |k+1,s_0,iX=>
  cond (decide (iX<(s_0.length:Int))) (if 0<=iX then (s_0[iX.toNat]?).bind fun x30=>if 0<=(x30.toNat:Int)/\(x30.toNat:Int)<256 then (Cy[x30.toNat]?).bind fun x33=>cond (x33 !=0) (AA k s_0 (IntKind.wrap .i64 (iX+1))) (some (iX))else none else none) (some (iX))
def Py:List Nat:=[12]++List.range' 42 14
theorem aaP: ∀(k:Nat) (s_0:Str) (iX:Int) (aC σ:Nat->PV) (H:AH) (f0:Fr Py aC σ) (sl:σ 0=(.str s_0)/\σ 12=(.int .i64 iX)) (o:Int) (h:AA k s_0 iX=some o) (Q:Post) (q0: ∀(p:Int) (σ':Nat->PV),o=p->Fr Py aC σ'->(σ' 12=(.int .i64 p))->Q (.exit 2) σ' H),W Tryz.prog (.loop Ux) Q σ H:=by
 intro k
 induction k with
 |zero=>intro s_0 iX aC σ H f0 sl o h Q q0;simp only [AA,reduceCtorEq]at h
 |succ k ih=>
  intro s_0 iX aC σ H f0 sl o h Q q0;obtain⟨s0,s12⟩:=sl;unfold AA at h;refine bA (fun K hK=>aJ ?_);unfold Ux;obtain⟨e28,h⟩|⟨e28,h⟩:=aA h
  ·obtain⟨e29,h⟩:=aZ h;obtain⟨x30,e31,h⟩:=ak h;obtain⟨e32,h⟩:=aZ h;obtain⟨x33,e34,h⟩:=ak h;obtain⟨e35,h⟩|⟨e35,h⟩:=aA h
   ·refine dI ?_;refine hK _ _ ?_;exact ih s_0 (IntKind.wrap .i64 (iX+1)) _ _ _ aN aH _ h _ q0
   ·cases h;refine dI ?_;exact q0 _ _ rfl aN aH
  ·cases h;refine dI ?_;exact q0 _ _ rfl aN aH
def AB:Nat->Str->Int->Option Int
 |0,_,_=>none
 |k+1,s_0,iX=>
  cond (decide (iX<(s_0.length:Int))) (if 0<=iX then (s_0[iX.toNat]?).bind fun x73=>if 0<=(x73.toNat:Int)/\(x73.toNat:Int)<256 then (Cy[x73.toNat]?).bind fun x76=>cond (x76 !=0) (AB k s_0 (IntKind.wrap .i64 (iX+1))) (some (iX))else none else none) (some (iX))
def Pz:List Nat:=[12]++List.range' 80 14
theorem aaQ: ∀(k:Nat) (s_0:Str) (iX:Int) (aC σ:Nat->PV) (H:AH) (f0:Fr Pz aC σ) (sl:σ 0=(.str s_0)/\σ 12=(.int .i64 iX)) (o:Int) (h:AB k s_0 iX=some o) (Q:Post) (q0: ∀(p:Int) (σ':Nat->PV),o=p->Fr Pz aC σ'->(σ' 12=(.int .i64 p))->Q (.exit 6) σ' H),W Tryz.prog (.loop Uy) Q σ H:=by
 intro k
 induction k with
 |zero=>intro s_0 iX aC σ H f0 sl o h Q q0;simp only [AB,reduceCtorEq]at h
 |succ k ih=>
  intro s_0 iX aC σ H f0 sl o h Q q0;obtain⟨s0,s12⟩:=sl;unfold AB at h;refine bA (fun K hK=>aJ ?_);unfold Uy;obtain⟨e71,h⟩|⟨e71,h⟩:=aA h
  ·obtain⟨e72,h⟩:=aZ h;obtain⟨x73,e74,h⟩:=ak h;obtain⟨e75,h⟩:=aZ h;obtain⟨x76,e77,h⟩:=ak h;obtain⟨e78,h⟩|⟨e78,h⟩:=aA h
   ·refine dI ?_;refine hK _ _ ?_;exact ih s_0 (IntKind.wrap .i64 (iX+1)) _ _ _ aN aH _ h _ q0
   ·cases h;refine dI ?_;exact q0 _ _ rfl aN aH
  ·cases h;refine dI ?_;exact q0 _ _ rfl aN aH
def xI:Nat->Str->(List Str)->Int->Int->Int->Option (((List Str)×Int×Int))
 |0,_,_,_,_,_=>none
 |k+1,s_0,PD,oP,gV,iX=>
  cond (decide (iX<(s_0.length:Int))) (if 0<=iX then (s_0[iX.toNat]?).bind fun x48=>if 0<=(x48.toNat:Int)/\(x48.toNat:Int)<256 then (Cy[x48.toNat]?).bind fun x51=>cond (x51==0) (xI k s_0 PD oP gV (IntKind.wrap .i64 (iX+1))) (if 0<=gV/\gV<=iX/\iX.toNat<=s_0.length then if 0<=oP then (PD[oP.toNat]?).bind fun x56=>Option.bind (AB k s_0 (IntKind.wrap .i64 (iX+1))) (fun p81=>xI k s_0 (PD.set oP.toNat ((s_0.take iX.toNat).drop gV.toNat)) (IntKind.wrap .i64 (oP+1)) p81 p81)else none else none)else none else none) (some ((PD,oP,gV)))
def PE:List Nat:=[10,11,12]++List.range' 57 38
theorem aaR: ∀(k:Nat) (G5:PV) (EM:List Nat) (M:List Nat) (s_0:Str) (PD:List Str) (oP:Int) (gV:Int) (iX:Int) (aC σ:Nat->PV) (H0 H:AH) (f0:Fr PE aC σ) (hf0:HF M H0 H) (sl:σ 0=(.str s_0)/\σ 9=G5/\σ 10=(.int .i64 oP)/\σ 11=(.int .i64 gV)/\σ 12=(.int .i64 iX)) (G6:aG H aF 1 PD G5 EM) (LC:Nw H0 M EM) (o:((List Str)×Int×Int)) (h:xI k s_0 PD oP gV iX=some o) (Q:Post) (q0: ∀(p:(List Str)×Int×Int) (v0:PV) (wF:List Nat) (σ':Nat->PV) (H':AH),o=p->Fr PE aC σ'->HF M H0 H'->(σ' 9=v0/\σ' 10=(.int .i64 p.2.1)/\σ' 11=(.int .i64 p.2.2))->aG H' aF 1 p.1 v0 wF->Nw H0 M wF->Q (.exit 4) σ' H'),W Tryz.prog (.loop Uz) Q σ H:=by
 intro k
 induction k with
 |zero=>intro G5 EM M s_0 PD oP gV iX aC σ H0 H f0 hf0 sl G6 LC o h Q q0;simp only [xI,reduceCtorEq]at h
 |succ k ih=>
  intro G5 EM M s_0 PD oP gV iX aC σ H0 H f0 hf0 sl G6 LC o h Q q0;obtain⟨s0,s9,s10,s11,s12⟩:=sl;have hle0:=hf0.1;unfold xI at h;refine bA (fun K hK=>aJ ?_);unfold Uz;obtain⟨e46,h⟩|⟨e46,h⟩:=aA h
  ·obtain⟨e47,h⟩:=aZ h;obtain⟨x48,e49,h⟩:=ak h;obtain⟨e50,h⟩:=aZ h;obtain⟨x51,e52,h⟩:=ak h;obtain⟨e53,h⟩|⟨e53,h⟩:=aA h
   ·refine dI ?_;refine hK _ _ ?_;exact ih G5 EM M s_0 PD oP gV (IntKind.wrap .i64 (iX+1)) _ _ _ _ aN nL aH (by repeat (first|exact G6|apply aG.new|refine aG.put ?_ (fun hm=>by have:=aG.lt G6 _ hm;omega))) LC _ h _ q0
   ·obtain⟨e54,h⟩:=aZ h;obtain⟨e55,h⟩:=aZ h;obtain⟨x56,e57,h⟩:=ak h;obtain⟨w58,w59,axy,hil,w60,hC,hL,hD,hI⟩:=aG.content G6 e57;have w61:=ne_next hil;have w62:=aO hil;have w63:jR 1 G5 (.int .i64 oP)=some (.ref w58 (oP.toNat)):=by simpa using hI .i64 oP (by first|omega|decide) (by first|rfl|omega)
    have aJ1:w59[oP.toNat]? =some (.str x56):=by simpa using hC 0 _ rfl
    clear hC hL hD hI;refine dI ?_;refine pJ (f:=aF) (id:=w58) (o:=oP.toNat) (i:=oP.toNat) (j:=0) (a:=x56) (y:=((s_0.take iX.toNat).drop gV.toNat)) (vs:=[(.str ((s_0.take iX.toNat).drop gV.toNat))]) aH axy (by omega) (by repeat (first|exact G6|apply aG.new|refine aG.put ?_ (fun hm=>by have:=aG.lt G6 _ hm;omega))) e57 aH rfl rfl (by first|decide|(simp only [List.length_cons,List.length_nil];omega)) rfl (fun H66 r67 axz aFy=> ?_);have le:=axz.1;try simp only [AH.aS,AH.aT,AH.aU,AH.aV]at le
    refine dI ?_;obtain⟨o79,h80,h⟩:=ak h;refine aaQ k s_0 (IntKind.wrap .i64 (iX+1)) _ _ _ (Fr.refl _ _) aH _ h80 _ ?_
    ·rintro p81 σ' eo anx s85;rw [eo]at h;have s86:σ' 0=(.str s_0):=(anx 0 (by decide)).trans aH;have s87:σ' 9=G5:=(anx 9 (by decide)).trans aH;have s88:σ' 10=(.int .i64 (IntKind.wrap .i64 (oP+1))):=(anx 10 (by decide)).trans aH;refine dI ?_;refine hK _ _ ?_;exact ih G5 EM M s_0 (PD.set oP.toNat ((s_0.take iX.toNat).drop gV.toNat)) (IntKind.wrap .i64 (oP+1)) p81 p81 _ _ _ _ rY (by repeat (first|exact hf0|refine HF.new ?_|refine HF.UH ?_|refine HF.used ?_|refine HF.put (by first|(right;omega)|(left;simp only [List.mem_cons,true_or,or_true])) ?_|refine HF.via axz LC ?_)) aH (by repeat (first|exact r67|apply aG.new|refine aG.put ?_ (fun hm=>by have:=aG.lt r67 _ hm;omega))) LC _ h _ q0
  ·cases h;refine dI ?_;exact q0 _ G5 EM _ _ rfl aN nL aH (by repeat (first|exact G6|apply aG.new|refine aG.put ?_ (fun hm=>by have:=aG.lt G6 _ hm;omega))) LC
def M8 (k:Nat) (s_0:Str):Option (List Str):=
 Option.bind (Az k s_0 0 1 0 0) (fun kQ=>cond (decide (kQ.2>=128)) ((aci s_0).bind fun Ew=>some Ew) (if 0<=kQ.1/\kQ.1<=1099511627776/\16*kQ.1<=1099511627776 then Option.bind (AA k s_0 0) (fun p38=>Option.bind (xI k s_0 (List.replicate kQ.1.toNat []) 0 p38 p38) (fun oh=>cond (decide (oh.2.2<(s_0.length:Int))) (if 0<=oh.2.2/\oh.2.2.toNat<=s_0.length then if 0<=oh.2.1 then (oh.1[oh.2.1.toNat]?).bind fun anz=>some (oh.1.set oh.2.1.toNat (s_0.drop oh.2.2.toNat))else none else none) (some oh.1)))else none))
theorem aiy {k:Nat} {s_0:Str} {r:List Str} (h:M8 k s_0=some r):aD Tryz.prog 278 [(.str s_0)] (.ah (r.map aF) .unk):=by
 refine aD.bH (dA.mem (.cons (.str _) .nil)) (aM aBM (by simp) (aJ ?_)) (bE gJ _);unfold M8 at h;unfold aqh;refine dI ?_;obtain⟨o8,h9,h⟩:=ak h;refine aaO k s_0 0 1 0 0 _ _ _ (Fr.refl _ _) aH _ h9 _ ?_
 ·rintro kQ σ' eo ang ⟨Rm,s15⟩;rw [eo]at h;have s16:σ' 0=(.str s_0):=(ang 0 (by decide)).trans aH;obtain⟨e17,h⟩|⟨e17,h⟩:=aA h
  ·obtain⟨Ew,e18,h⟩:=ak h;refine dI ?_;refine au (ahY s_0 e18) ?_;cases h;refine dI ?_;exact(cK gJ _ _)
  ·obtain⟨e20,h⟩:=aZ h;refine dI ?_;refine ab8 (f:=aF) (k:= .i64) (n:=kQ.1) (k':= .i64) (c:=kQ.1) [] rfl aH aH (by omega) (by decide) (fun v21 aqR H23 r24 aKX aii am2=> ?_);have le:=aii.1;try simp only [AH.aS,AH.aT,AH.aU,AH.aV]at le
   refine dI ?_;obtain⟨o36,h37,h⟩:=ak h;refine aaP k s_0 0 _ _ _ (Fr.refl _ _) aH _ h37 _ ?_
   ·rintro p38 σ' eo anA s42;rw [eo]at h;have s43:σ' 0=(.str s_0):=(anA 0 (by decide)).trans aH;have s44:σ' 9=v21:=(anA 9 (by decide)).trans aH;have s45:σ' 10=(.int .i64 0):=(anA 10 (by decide)).trans aH;refine dI ?_;obtain⟨o89,h90,h⟩:=ak h;refine aaR k v21 aqR (aqR++[]) s_0 (List.replicate kQ.1.toNat []) 0 p38 p38 _ _ _ _ (Fr.refl _ _) (HF.refl _ _) aH (by repeat (first|exact r24|apply aG.new|refine aG.put ?_ (fun hm=>by have:=aG.lt r24 _ hm;omega))) (fun i hi=>Or.inl (by simp only [List.mem_append,List.mem_cons,hi,true_or,or_true])) _ h90 _ ?_
    ·rintro oh v95 aJ2 σ' H94 eo anB anC ⟨s99,anD,aKY⟩ r97 aKZ;rw [eo]at h;have aK0:σ' 0=(.str s_0):=(anB 0 (by decide)).trans aH;have le:=anC.1;try simp only [AH.aS,AH.aT,AH.aU,AH.aV]at le
     obtain⟨UJ,h⟩|⟨UJ,h⟩:=aA h
     ·obtain⟨aiz,h⟩:=aZ h;obtain⟨Yq,h⟩:=aZ h;obtain⟨anz,YB,h⟩:=ak h;obtain⟨axE,aFz,asM,hil,aK1,hC,hL,hD,hI⟩:=aG.content r97 YB;have aK2:=ne_next hil;have aK3:=aO hil;have aK4:jR 1 v95 (.int .i64 oh.2.1)=some (.ref axE (oh.2.1.toNat)):=by simpa using hI .i64 oh.2.1 (by first|omega|decide) (by first|rfl|omega)
      have aH2:aFz[oh.2.1.toNat]? =some (.str anz):=by simpa using hC 0 _ rfl
      clear hC hL hD hI;refine dI ?_;refine pJ (f:=aF) (id:=axE) (o:=oh.2.1.toNat) (i:=oh.2.1.toNat) (j:=0) (a:=anz) (y:=(s_0.drop oh.2.2.toNat)) (vs:=[(.str (s_0.drop oh.2.2.toNat))]) aH asM (by omega) (by repeat (first|exact r97|apply aG.new|refine aG.put ?_ (fun hm=>by have:=aG.lt r97 _ hm;omega))) YB aH rfl rfl (by first|decide|(simp only [List.length_cons,List.length_nil];omega)) rfl (fun aFA axF aCa aJ3=> ?_);have le:=aCa.1;try simp only [AH.aS,AH.aT,AH.aU,AH.aV]at le
      cases h;refine dI ?_;exact(aG.fz gJ (by repeat (first|exact axF|apply aG.new|refine aG.put ?_ (fun hm=>by have:=aG.lt axF _ hm;omega))))
     ·cases h;refine dI ?_;exact(aG.fz gJ (by repeat (first|exact r97|apply aG.new|refine aG.put ?_ (fun hm=>by have:=aG.lt r97 _ hm;omega))))
instance aCb (k:Nat) (s_0:Str):dN Tryz.prog 278 [(.str s_0)] (M8 k s_0) (fun r=>(.ah (r.map aF) .unk)):=⟨fun _ h=>aiy h⟩
def wG (k:Nat):Option (List Str):=
 (M8 k ([65,83,83,85,77,69,32,65,83,83,85,77,80,84,73,79,78,32,65,88,73,79,77,32,66,89,32,67,65,83,69,32,67,72,79,79,83,69,32,67,79,78,83,84,65,78,84,32,67,79,78,83,84,65,78,84,83,32,68,69,70,32,68,69,70,73,78,69,32,68,69,70,83,32,68,79,77,65,73,78,32,69,76,83,69,32,69,78,65,66,76,69,68,32,69,88,67,69,80,84,32,69,88,84,69,78,68,83,32,70,65,76,83,69,32,72,65,86,69,32,72,73,68,69,32,73,70,32,73,78,32,73,78,83,84,65,78,67,69,32,76,65,77,66,68,65,32,76,69,77,77,65,32,76,69,84,32,76,79,67,65,76,32,77,79,68,85,76,69,32,78,69,87,32,79,66,86,73,79,85,83,32,79,77,73,84,84,69,68,32,79,84,72,69,82,32,80,73,67,75,32,80,82,79,79,70,32,80,82,79,80,79,83,73,84,73,79,78,32,80,82,79,86,69,32,81,69,68,32,82,69,67,85,82,83,73,86,69,32,83,85,66,83,69,84,32,83,85,70,70,73,67,69,83,32,84,65,75,69,32,84,72,69,78,32,84,72,69,79,82,69,77,32,84,82,85,69,32,85,78,67,72,65,78,71,69,68,32,85,78,73,79,78,32,85,83,69,32,86,65,82,73,65,66,76,69,32,86,65,82,73,65,66,76,69,83,32,87,73,84,72,32,87,73,84,78,69,83,83,32,66,79,79,76,69,65,78,32,83,84,82,73,78,71]:Str)).bind fun p2=>some p2
instance ac2 (k:Nat):dN Tryz.prog 237 [] (wG k) (fun r=>(.ah (r.map aF) .unk)):=bZ aBk (by unfold wG apP;exact bJ)
theorem ac3 {k:Nat} {r:List Str} (h:wG k=some r):aD Tryz.prog 237 [] (.ah (r.map aF) .unk):=(ac2 _).c _ h
end Go.VL
end
section
namespace Go.VL
open Go.Proofs Go.RowKit
def KL:List Str:=(wG 800).getD []
theorem akL:wG 800=some KL:=by
 have h:(wG 800).isSome=true:=by kernel_rfl
 rw [KL];cases h1:wG 800 with
 |none=>rw [h1]at h;cases h
 |some r=>rfl
theorem axG:aD Tryz.prog 237 [] (.ah (KL.map aF) .unk):=ac3 akL
end Go.VL
end
section
set_option maxHeartbeats 4000000
namespace Go.VL
open Go.Proofs
def FB (k:Nat) (s_0:Str) (Dp:Bool):Option Bool:=
 cond Dp (some (true)) ((kY s_0 ([87,70,95]:Str)).bind fun p5=>cond p5 (some (true)) ((kY s_0 ([83,70,95]:Str)).bind fun p8=>cond p8 (some (true)) ((bM k KL s_0).bind fun Ag=>some (Ag))))
def PG:List Nat:=List.range' 11 12
theorem aaS (k:Nat): ∀(s_0:Str) (Dp:Bool) (aC σ:Nat->PV) (H:AH) (f0:Fr PG aC σ) (sl:σ 0=(.str s_0)/\σ 10=(.bool Dp)) (o:Bool) (h:FB k s_0 Dp=some o) (Q:Post) (q0: ∀(p:Bool) (σ':Nat->PV),o=p->Fr PG aC σ'->(σ' 22=(.bool p))->Q .normal σ' H),dM Tryz.prog Tq (Q .normal) σ H:=by
 intro s_0 Dp aC σ H f0 sl o h Q q0;obtain⟨s0,s10⟩:=sl;unfold FB at h;refine eO ?_;unfold Tq;obtain⟨e3,h⟩|⟨e3,h⟩:=aA h
 ·cases h;refine aj ?_;exact q0 _ _ rfl aN av
 ·obtain⟨p5,e4,h⟩:=ak h;refine aj ?_;refine au (GK e4) ?_;obtain⟨e6,h⟩|⟨e6,h⟩:=aA h
  ·cases h;refine aj ?_;exact q0 _ _ rfl aN av
  ·obtain⟨p8,e7,h⟩:=ak h;refine aj ?_;refine au (GK e7) ?_;obtain⟨e9,h⟩|⟨e9,h⟩:=aA h
   ·cases h;refine aj ?_;exact q0 _ _ rfl aN av
   ·refine aj ?_;refine au (axG) ?_;obtain⟨Ag,e10,h⟩:=ak h;refine aj ?_;refine au (iL e10) ?_;cases h;refine aj ?_;exact q0 _ _ rfl aN av
def AJ (c_5:Int) (ac4:Bool):Option Bool:=
 cond ac4 (some (true)) ((iy (IntKind.wrap .i64 c_5) 65 90).bind fun p29=>some (p29))
theorem aaT: ∀(c_5:Int) (ac4:Bool) (aC σ:Nat->PV) (H:AH) (f0:Fr [35,36,37,38] aC σ) (sl:σ 5=(.int .u8 c_5)/\σ 34=(.bool ac4)) (o:Bool) (h:AJ c_5 ac4=some o) (Q:Post) (q0: ∀(p:Bool) (σ':Nat->PV),o=p->Fr [35,36,37,38] aC σ'->(σ' 38=(.bool p))->Q .normal σ' H),dM Tryz.prog Tt (Q .normal) σ H:=by
 intro c_5 ac4 aC σ H f0 sl o h Q q0;obtain⟨s5,s34⟩:=sl;unfold AJ at h;refine eO ?_;unfold Tt;obtain⟨e27,h⟩|⟨e27,h⟩:=aA h
 ·cases h;refine aj ?_;exact q0 _ _ rfl aN av
 ·obtain⟨p29,e28,h⟩:=ak h;refine aj ?_;refine au (jg e28) ?_;cases h;refine aj ?_;exact q0 _ _ rfl aN av
def lM:Nat->Int->(List Int)->Int->Int->Option (Int⊕Bool)
 |0,_,_,_,_=>none
 |k+1,mO,wH,jQ,kU=>
  cond (decide (kU<jQ)) (if 0<=kU then (wH[kU.toNat]?).bind fun x23=>(iy (IntKind.wrap .i64 x23) 97 122).bind fun p26=>Option.bind (AJ x23 p26) (fun p32=>cond p32 (lM k (IntKind.wrap .i64 (mO+1)) wH jQ (IntKind.wrap .i64 (kU+1))) ((iy (IntKind.wrap .i64 x23) 48 57).bind fun p44=>cond p44 (lM k mO wH jQ (IntKind.wrap .i64 (kU+1))) (cond (x23 !=95) (some (.inr (false))) (lM k mO wH jQ (IntKind.wrap .i64 (kU+1))))))else none) (some (.inl mO))
def Jc:List Nat:=[2,3,5]++List.range' 26 25
theorem aaU: ∀(k:Nat) (mO:Int) (wH:List Int) (jQ:Int) (kU:Int) (aC σ:Nat->PV) (H:AH) (f0:Fr Jc aC σ) (sl:σ 3=(.int .i64 mO)/\σ 24=(.ah (wH.map u8L) .unk)/\σ 25=(.int .i64 jQ)/\σ 26=(.int .i64 kU)) (o:Int⊕Bool) (h:lM k mO wH jQ kU=some o) (Q:Post) (q0: ∀(p:Int) (σ':Nat->PV),o= .inl p->Fr Jc aC σ'->(σ' 3=(.int .i64 p))->Q (.exit 0) σ' H) (q1: ∀(p:Bool) (σ':Nat->PV),o= .inr (p)->Fr Jc aC σ'->(σ' 2=(.bool p))->Q .ret σ' H),W Tryz.prog (.loop Tv) Q σ H:=by
 intro k
 induction k with
 |zero=>intro mO wH jQ kU aC σ H f0 sl o h Q q0 q1;simp only [lM,reduceCtorEq]at h
 |succ k ih=>
  intro mO wH jQ kU aC σ H f0 sl o h Q q0 q1;obtain⟨s3,s24,s25,s26⟩:=sl;unfold lM at h;refine bA (fun K hK=>aJ ?_);unfold Tv;obtain⟨e21,h⟩|⟨e21,h⟩:=aA h
  ·obtain⟨e22,h⟩:=aZ h;obtain⟨x23,e24,h⟩:=ak h;obtain⟨p26,e25,h⟩:=ak h;refine aj ?_;refine au (jg e25) ?_;refine aj ?_;obtain⟨o30,h31,h⟩:=ak h;refine aaT x23 p26 _ _ _ (Fr.refl _ _) av _ h31 _ ?_
   ·rintro p32 σ' eo Gv s36;rw [eo]at h;have s37:σ' 3=(.int .i64 mO):=(Gv 3 (by decide)).trans av;have s38:σ' 5=(.int .u8 x23):=(Gv 5 (by decide)).trans av;have s39:σ' 24=(.ah (wH.map u8L) .unk):=(Gv 24 (by decide)).trans av;have s40:σ' 25=(.int .i64 jQ):=(Gv 25 (by decide)).trans av;have s41:σ' 26=(.int .i64 kU):=(Gv 26 (by decide)).trans av;obtain⟨e42,h⟩|⟨e42,h⟩:=aA h
    ·refine aj ?_;refine hK _ _ ?_;exact ih (IntKind.wrap .i64 (mO+1)) wH jQ (IntKind.wrap .i64 (kU+1)) _ _ _ rY av _ h _ q0 q1
    ·obtain⟨p44,e43,h⟩:=ak h;refine aj ?_;refine au (jg e43) ?_;obtain⟨e45,h⟩|⟨e45,h⟩:=aA h
     ·refine aj ?_;refine hK _ _ ?_;exact ih mO wH jQ (IntKind.wrap .i64 (kU+1)) _ _ _ rY av _ h _ q0 q1
     ·obtain⟨e46,h⟩|⟨e46,h⟩:=aA h
      ·cases h;refine aj ?_;exact q1 _ _ rfl rY av
      ·refine aj ?_;refine hK _ _ ?_;exact ih mO wH jQ (IntKind.wrap .i64 (kU+1)) _ _ _ rY av _ h _ q0 q1
  ·cases h;refine aj ?_;exact q0 _ _ rfl aN av
def uH (k:Nat) (s_0:Str):Option Bool:=
 (iy (s_0.length:Int) 1 24).bind fun p2=>Option.bind (FB k s_0 (!p2)) (fun mq=>cond mq (some false) (Option.bind (lM k 0 (uV s_0) ((uV s_0).length:Int) 0) (fun o=>Sum.elim (fun p49=>some (decide (p49>0))) (fun p54=>some p54) o)))
theorem Dq {k:Nat} {s_0:Str} {r:Bool} (h:uH k s_0=some r):aD Tryz.prog 187 [(.str s_0)] (.bool r):=by
 refine aD.bH (dA.mem (.cons (.str _) .nil)) (aM aAV (by simp) (aJ ?_)) (.bool _);unfold uH at h;unfold apq;obtain⟨p2,e1,h⟩:=ak h;refine aj ?_;refine au (jg e1) ?_;refine aj ?_;obtain⟨o12,VO,h⟩:=ak h;refine aaS k s_0 (!p2) _ _ _ (Fr.refl _ _) av _ VO _ ?_
 ·rintro mq σ' eo M0 nk;rw [eo]at h;have wZ:σ' 0=(.str s_0):=(M0 0 (by decide)).trans av;obtain⟨e20,h⟩|⟨e20,h⟩:=aA h
  ·cases h;refine aj ?_;exact(.pure _ (.bool _))
  ·refine aj ?_;obtain⟨o47,h48,h⟩:=ak h;refine aaU k 0 (uV s_0) ((uV s_0).length:Int) 0 _ _ _ (Fr.refl _ _) av _ h48 _ ?_ ?_
   ·rintro p49 σ' eo UK s53;subst eo;rw [dZ]at h;cases h;refine aj ?_;exact(.pure _ (.bool _))
   ·rintro p54 σ' eo anE s58;subst eo;rw [eT]at h;cases h;refine aj ?_;exact(.pure _ (.bool _))
instance aCc (k:Nat) (s_0:Str):dN Tryz.prog 187 [(.str s_0)] (uH k s_0) (fun r=>(.bool r)):=⟨fun _ h=>Dq h⟩
def zM (k:Nat) (s_0:Str):Option Bool:=
 cond (decide ((s_0.length:Int)>49)) (some false) ((am9 s_0 ([33]:Str)).bind fun p5=>cond (decide (p5>=0)) (if 0<=p5/\p5.toNat<=s_0.length then if 0<=(IntKind.wrap .i64 (p5+1))/\(IntKind.wrap .i64 (p5+1)).toNat<=s_0.length then (uH k (s_0.take p5.toNat)).bind fun kQ=>cond kQ ((uH k (s_0.drop (IntKind.wrap .i64 (p5+1)).toNat)).bind fun xW=>some xW) (some false)else none else none) ((uH k s_0).bind fun Lg=>cond Lg (some true) (some false)))
theorem PI {k:Nat} {s_0:Str} {r:Bool} (h:zM k s_0=some r):aD Tryz.prog 272 [(.str s_0)] (.bool r):=by
 refine aD.bH (dA.mem (.cons (.str _) .nil)) (aM aBI (by simp) (aJ ?_)) (.bool _);unfold zM at h;unfold aqd;obtain⟨e1,h⟩|⟨e1,h⟩:=aA h
 ·cases h;refine aj ?_;exact(.pure _ (.bool _))
 ·refine aj ?_;refine aM aBV (by simp) (aJ ?_);unfold aqr;refine aj ?_;refine aM aBX (by simp) (aJ ?_);unfold aqt;obtain⟨p5,e4,h⟩:=ak h;refine aj ?_;refine au (awl s_0 ([33]:Str) e4) ?_;obtain⟨e6,h⟩|⟨e6,h⟩:=aA h
  ·refine aj ?_;refine jI ?_;obtain⟨e7,h⟩:=aZ h;obtain⟨e8,h⟩:=aZ h;obtain⟨kQ,e9,h⟩:=ak h;refine aj ?_;refine au (Dq e9) ?_;obtain⟨e11,h⟩|⟨e11,h⟩:=aA h
   ·obtain⟨xW,e12,h⟩:=ak h;refine aj ?_;refine au (Dq e12) ?_;cases h;refine aj ?_;exact(.pure _ (.bool _))
   ·cases h;refine aj ?_;exact(.pure _ (.bool _))
  ·obtain⟨Lg,e14,h⟩:=ak h;refine aj ?_;refine au (Dq e14) ?_;obtain⟨e16,h⟩|⟨e16,h⟩:=aA h
   ·cases h;refine aj ?_;exact(.pure _ (.bool _))
   ·cases h;refine aj ?_;exact(.pure _ (.bool _))
end Go.VL
end
section
namespace Go.VL
open Go.Proofs Go.RowKit
theorem Vs.aCd {G:Gh} {n:Nat} {s:List UInt8} {g:FuncId} {vs:Array Value} (h:Vs G n [.str s,.fn (.func g) [] []] vs):vs=#[.string ⟨s.toArray⟩,.func (.func g) #[] #[]]:=by
 obtain⟨h1,h2⟩:=h
 match vs,h1,h2 with
 |⟨[v,u]⟩,_,h2=>
   have e1:=h2 0 (.str s) v rfl rfl;have e2:=h2 1 (.fn (.func g) [] []) u rfl rfl;cases e1;cases e2 with
   |fn g cs ds vs us h1 _ h3 _=>
    have a1:vs=#[]:=Array.size_eq_zero_iff.1 h1;have a2:us=#[]:=Array.size_eq_zero_iff.1 h3;rw [a1,a2]
theorem akP {g:FuncId} {p:Nat->Bool} (hp: ∀x:Nat,x<=1114111->aD Tryz.prog g [.int .i32 x] (.bool (p x))) {w:World} (hg: ∀a x,Glob.gc a=some x->w.cell? a=some x) (hw:WH (fun b=>w.heap.size<=b) w):PredGrows Tryz.prog g #[] p w:=by
 intro W x hx hb;have hM:bg Tryz.prog g [.int .i32 x] AH.empty fun v _=>v= .bool (p x):=bg.mono (hp x hx AH.empty) fun v H' q=>q.1;refine(bg.top hM (fun a y e=>(World.cell?_of_block (hb.block _ (World.block_lt_of_cell? w a (hg a y e)))).trans (hg a y e)) (hw.keep fun b _ hlt=>hb.block b hlt).old (vs:=#[encR x]++#[]) ?_);exact⟨rfl,fun j c y e e'=>by
  match j,e,e' with
  |0,e,e'=>cases e;cases e';exact .int _ _⟩
theorem YC {g:FuncId} (p:Nat->Bool) (he: ∀args w,(callFunc g args).run Tryz.prog w= .ok (.enter g args) w) (hp: ∀x:Nat,x<=1114111->aD Tryz.prog g [.int .i32 x] (.bool (p x))) (s:Str):
 aD Tryz.prog 270 [.str s,.fn (.func g) [] []] (.bool (decide (0<=Lib.idxFunc p true ⟨s.toArray⟩))):=by
 refine OY ⟨_,Tryz.func270,rfl,by kernel_rfl⟩ (fun w G vs hg hi hw hv=> ?_) (dA.mem (.cons (.str _) (.cons (.fn _ _ _ (dA.mem .nil) (dA.mem .nil)) .nil)));rw [Vs.aCd hv];refine(Tryz.strings_ContainsFunc_grows g #[] he p ⟨s.toArray⟩ w (akP hp hg hw)).mono ?_;rintro e w' ⟨rfl,hb⟩;exact⟨_,rfl,hb,fun G n=> .bool _⟩
def V6 (x y:Int):Int×Int:=(((x.toNat*y.toNat/18446744073709551616:Nat):Int),((x.toNat*y.toNat% 18446744073709551616:Nat):Int))
theorem Vs.aCe {G:Gh} {n:Nat} {x y:Int} {k k':IntKind} {vs:Array Value} (h:Vs G n [.int k x,.int k' y] vs):vs=#[.int k x,.int k' y]:=by
 obtain⟨h1,h2⟩:=h
 match vs,h1,h2 with
 |⟨[v,u]⟩,_,h2=>
   have e1:=h2 0 (.int k x) v rfl rfl;have e2:=h2 1 (.int k' y) u rfl rfl;cases e1;cases e2;rfl
theorem asN (x y:Int) (h:(0<=x/\x<18446744073709551616)/\(0<=y/\y<18446744073709551616)):aD Tryz.prog 295 [.int .u64 x,.int .u64 y] (.dn [.int .u64 (V6 x y).1,.int .u64 (V6 x y).2]):=by
 refine ab5 ⟨_,Tryz.func295,rfl,by kernel_rfl⟩ (fun w G vs hg hi hv=> ?_) (dA.mem (.cons (.int _ _) (.cons (.int _ _) .nil)));rw [Vs.aCe hv];obtain⟨a,rfl⟩: ∃a:Nat,x=a:=⟨x.toNat,by omega⟩;obtain⟨b,rfl⟩: ∃b:Nat,y=b:=⟨y.toNat,by omega⟩;refine(Tryz.bits_Mul64 a b (by omega) (by omega) w).mono ?_;rintro e w' ⟨rfl,rfl⟩;refine⟨_,rfl,Below.refl _ _,fun G n=> ?_⟩;refine .dn _ _ rfl fun j c y e e'=> ?_
 match j,e,e' with
 |0,e,e'=>cases e;cases e';exact .int _ _
 |1,e,e'=>cases e;cases e';exact .int _ _
theorem Rq (p:Nat->Bool) (hp: ∀x,128<=x->p x=true) (s:Str): ∀(f pos:Nat),s.length<=pos+f->
 decide (0<=Lib.idxFuncFrom p true ⟨s.toArray⟩ f pos)=(s.drop pos).any (fun c=>p c.toNat)
 |0,pos,h=>by rw [List.drop_eq_nil_of_le (by omega)];rfl
 |f+1,pos,h=>by
  have hsz:(⟨s.toArray⟩:ByteArray).size=s.length:=rfl;by_cases hlt:pos<s.length
  · have hlt':pos<(⟨s.toArray⟩:ByteArray).size:=hlt;have hget:(⟨s.toArray⟩:ByteArray)[pos]'hlt'=s[pos]:=rfl;rw [List.drop_eq_getElem_cons hlt,List.any_cons];simp only [Lib.idxFuncFrom,hsz,hlt,if_true];by_cases ha:(s[pos]).toNat<128
    · rw [decode_ascii ⟨s.toArray⟩ pos hlt' (by rw [hget];exact ha),hget];by_cases hq:p (s[pos]).toNat=true
      · simp only [hq,if_true,Bool.true_or];exact decide_eq_true (by omega)
      · simp only [hq,Bool.false_or];exact Rq p hp s f (pos+1) (by omega)
    · have hd:=decode_high ⟨s.toArray⟩ pos hlt' (by rw [hget];omega);rw [if_pos (hp _ hd.1),hp _ (by omega),Bool.true_or];exact decide_eq_true (by omega)
  · rw [List.drop_eq_nil_of_le (by omega),Lib.idxFuncFrom_end _ _ _ _ _ (by rw [hsz];exact hlt)];rfl
theorem asO (p:Nat->Bool) (hp: ∀x,128<=x->p x=true) (s:Str):decide (0<=Lib.idxFunc p true ⟨s.toArray⟩)=s.any (fun c=>p c.toNat):=by
 have h:=Rq p hp s s.length 0 (by omega);rw [List.drop_zero]at h;exact h
def UQ (x:Nat):Bool:=bif decide (32<=x)&&decide (x<=126)then x==34||x==92 else true
theorem akQ (x:Nat) (h:x<=1114111):Di (x:Int)=some (UQ x):=by
 have hw:IntKind.wrap .i64 (x:Int)=x:=IntWalk.i64_in _ (by omega);unfold Di iy UQ;rw [hw];by_cases h1:32<=x
 · have h1':(32:Int)<=x:=by omega
   by_cases h2:x<=126
   · have h2':(x:Int)<=126:=by omega
     have e1:((x:Int)==34)=(x==34):=by rw [Bool.eq_iff_iff];simp only [beq_iff_eq];omega
     have e2:((x:Int)==92)=(x==92):=by rw [Bool.eq_iff_iff];simp only [beq_iff_eq];omega
     simp only [h1,h1',h2,h2',decide_true,cond_true,Bool.and_true,Option.bind_some,e1,e2];cases x==34<;>rfl
   · have h2': ¬(x:Int)<=126:=by omega
     simp [h1,h1',h2,h2']
 · have h1': ¬(32:Int)<=x:=by omega
   simp [h1,h1']
def aiA (s:Str):Bool:=s.any (fun c=>UQ c.toNat)
theorem axJ (s:Str):aD Tryz.prog 270 [.str s,.fn (.func 269) [] []] (.bool (aiA s)):=by
 have h:=YC (g:=269) UQ (fun args w=>by kernel_rfl) (fun x hx=>acR (akQ x hx)) s;rw [asO UQ (fun x hx=>by
  have h2: ¬x<=126:=by omega
  simp [UQ,h2]) s]at h
 exact h
end Go.VL
end
section
set_option maxHeartbeats 4000000
namespace Go.VL
open Go.Proofs
def yO (s_0:Str):Option Bool:=
 cond (decide ((s_0.length:Int)<=40)) (some (!(aiA s_0))) (some false)
theorem G7 {s_0:Str} {r:Bool} (h:yO s_0=some r):aD Tryz.prog 228 [(.str s_0)] (.bool r):=by
 refine aD.bH (dA.mem (.cons (.str _) .nil)) (aM aBf (by simp) (aJ ?_)) (.bool _);unfold yO at h;unfold apK;obtain⟨e1,h⟩|⟨e1,h⟩:=aA h
 ·refine aj ?_;refine au (axJ s_0) ?_;cases h;refine aj ?_;exact(.pure _ (.bool _))
 ·cases h;refine aj ?_;exact(.pure _ (.bool _))
end Go.VL
end
section
namespace Go.VL
open Go.Proofs Go.RowKit
theorem abm {G:Gh} {m:Nat} {v:Value} (h:V G m (.ah [] .nil) v):v= .slice none 0 0:=by
 generalize hp:PV.ah [] .nil=p at h;cases h with
 |ah es c sz ad cap f h1 h2 h3 h4 h5=>
  cases hp;have q1:=h5.1;have q2:=h5.2.2;rw [q1,q2];rfl
 |_=>cases hp
theorem Vs.axK {G:Gh} {m:Nat} {n:Int} {vs:Array Value} (h:Vs G m [.ah [] .nil,.int .i64 n] vs):vs=#[.slice none 0 0,.int .i64 n]:=by
 obtain⟨h1,h2⟩:=h
 match vs,h1,h2 with
 |⟨[v,u]⟩,_,h2=>
   have e1:=h2 0 (.ah [] .nil) v rfl rfl;have e2:=h2 1 (.int .i64 n) u rfl rfl;cases e2;have e3:=abm e1;rw [e3]
theorem aqT (zs:Array Value) (k:Nat):(Builtin.zeroCells zs k).size=k*zs.size:=by simp [Builtin.zeroCells]
theorem akR (n:Int) (h:0<n/\n<=1000000):ML Tryz.prog 321 [.ah [] .nil,.int .i64 n] Operator.cells 7 []:=by
 intro H;refine⟨⟨_,Tryz.func321,rfl,by kernel_rfl⟩,fun B G w vs hU hM hv=> ?_⟩;obtain⟨n,rfl⟩: ∃k:Nat,n=k:=⟨n.toNat,by omega⟩;rw [Vs.axK hv];obtain⟨i0,hi0,hq⟩: ∃i0,Tryz.prog.info? (Tryz.growOp_ren.t 25)=some i0/\(i0.zero.map fun z=>z.cells.size)=some 7/\i0.size=7/\i0.bytes=64:=by
  have h:(Tryz.prog.info? (Tryz.growOp_ren.t 25)).map (fun i0=>((i0.zero.map fun z=>z.cells.size),i0.size,i0.bytes))=some (some 7,7,64):=by kernel_rfl
  cases hi:Tryz.prog.info? (Tryz.growOp_ren.t 25)with
  |none=>rw [hi]at h;cases h
  |some i0=>rw [hi]at h;simp only [Option.map_some,Option.some.injEq,Prod.mk.injEq]at h;exact⟨i0,rfl,h.1,h.2.1,h.2.2⟩
 obtain⟨hz,hs,hb⟩:=hq;obtain⟨z,hz0,hz1⟩:=Option.map_eq_some_iff.1 hz;have key:=Any8.slices_Grow_grow Tryz.growOp i0 z hi0 hz0 (by omega) none 0 0 n [] w (Nat.le_refl _) (by omega) (by rw [hb];omega) (by omega) (by simp) (fun _=>rfl) (fun a e=>by cases e);have hge:=grownCap_ge w (0+n) 0 (Tryz.growOp_ren.t 25);refine key.mono ?_;rintro e w' ⟨rfl,rfl⟩
 obtain⟨G',e1,e2,e3⟩:=HM.newObj (w:=w.drew) hU hM.drew (Tryz.growOp_ren.t 25) (Vs.XC (G:=G) H.next (grownCap w (0+n) 0 (Tryz.growOp_ren.t 25)*7) _ (by
  show((#[]:Array Value)++Builtin.zeroCells z.cells (0+n -0)++Builtin.zeroCells z.cells (grownCap w (0+n) 0 (Tryz.growOp_ren.t 25) -(0+n))).size=_
  rw [Array.size_append,Array.size_append,aqT,aqT,hz1];simp only [Array.size_empty];omega))
 refine⟨_,_,_,G',rfl,Tr.FP w _,e1,Nat.le_succ _,e2,.bO H.next 0 0 _ 7 _ (Nat.lt_succ_self _) e3,[H.next],.inr ⟨H.next,_,List.replicate (grownCap w (0+n) 0 (Tryz.growOp_ren.t 25)*7) .any,rfl,rfl,Nat.zero_le _,Nat.lt_succ_self _,?_,?_⟩,?_,(HF.refl _ _).new,fun c3 hc=>hc.new⟩
 · show(if H.next=H.next then some _ else _)=_
   rw [if_pos rfl];rfl
 · rw [List.length_replicate,List.length_nil,Nat.sub_zero]
 · intro i hi;rw [List.mem_singleton.1 hi];exact .inr (Nat.le_refl _)
end Go.VL
end
section
set_option maxHeartbeats 4000000
namespace Go.VL
open Go.Proofs
def yP:Nat->Int->Int->(List Operator)->(List Str)->Int->Int->Option (List Operator)
 |0,_,_,_,_,_,_=>none
 |k+1,jk,gH,FC,Dp,dH,mG=>
  cond (decide (mG<dH)) (if 0<=mG then (Dp[mG.toNat]?).bind fun x3=>if(FC.length+1)*64<=1099511627776 then yP k jk gH (FC++[(Operator.mk x3 0 jk gH false 1 1)]) Dp dH (IntKind.wrap .i64 (mG+1))else none else none) (some (FC))
def NU:List Nat:=[7,9]++List.range' 12 12
theorem YD: ∀(k:Nat) (jk:Int) (gH:Int) (FC:List Operator) (Dp:List Str) (dH:Int) (mG:Int) (zP:Ck) (aC σ:Nat->PV) (H0 H:AH) (f0:Fr NU aC σ) (hf0:HF [] H0 H) (sl:σ 0=(.int .i64 jk)/\σ 1=(.int .i64 gH)/\σ 7=(.ah (FC.map Operator.cells) zP)/\σ 10=(.ah (Dp.map aF) .unk)/\σ 11=(.int .i64 dH)/\σ 12=(.int .i64 mG)) (ac6:bf H zP) (o:List Operator) (h:yP k jk gH FC Dp dH mG=some o) (Q:Post) (q0: ∀(p:List Operator) (c0:Ck) (σ':Nat->PV) (H':AH),o=p->Fr NU aC σ'->HF [] H0 H'->(σ' 7=(.ah (p.map Operator.cells) c0))->Q (.exit 0) σ' H'),W Tryz.prog (.loop UD) Q σ H:=by
 intro k
 induction k with
 |zero=>intro jk gH FC Dp dH mG zP aC σ H0 H f0 hf0 sl ac6 o h Q q0;simp only [yP,reduceCtorEq]at h
 |succ k ih=>
  intro jk gH FC Dp dH mG zP aC σ H0 H f0 hf0 sl ac6 o h Q q0;obtain⟨s0,s1,s7,s10,s11,s12⟩:=sl;have hle0:=hf0.1;unfold yP at h;refine bA (fun K hK=>aJ ?_);unfold UD;obtain⟨e1,h⟩|⟨e1,h⟩:=aA h
  ·obtain⟨e2,h⟩:=aZ h;obtain⟨x3,e4,h⟩:=ak h;obtain⟨e9,h⟩:=aZ h;refine aj ?_;refine gW (f:=Operator.cells) Operator.row FC ([(Operator.mk x3 0 jk gH false 1 1)]:List Operator) zP .exact av av eY (by first|exact e9|(simp only [List.length_cons,List.length_nil];exact e9)) (fun c5 H6 ok7 le anF rl8=> ?_);have aFB:HF [] _ H6:=⟨le,fun i _ _=>anF i⟩;try simp only [AH.aS,AH.aT,AH.aU,AH.aV]at le
   refine aj ?_;refine hK _ _ ?_;exact ih jk gH (FC++[(Operator.mk x3 0 jk gH false 1 1)]) Dp dH (IntKind.wrap .i64 (mG+1)) c5 _ _ _ _ aN GH av eY _ h _ q0
  ·cases h;refine aj ?_;exact q0 _ zP _ _ rfl aN nL av
def yQ (k:Nat) (jk:Int) (gH:Int) (EN:List Str):Option (List Operator):=
 Option.bind (yP k jk gH ([]:List Operator) EN (EN.length:Int) 0) (fun mq=>some mq)
theorem AL {k:Nat} {jk:Int} {gH:Int} {EN:List Str} {c2:Ck} {r:List Operator} (h:yQ k jk gH EN=some r):aD Tryz.prog 289 [(.int .i64 jk),(.int .i64 gH),(.ah (EN.map aF) c2)] (.ah (r.map Operator.cells) .unk):=by
 refine aD.lw (.same (.same (.ah .nil))) (aD.bH (dA.mem (.cons (.int _ _) (.cons (.int _ _) (.cons (bE gJ _) .nil)))) (aM aBS (by simp) (aJ ?_)) (bE Operator.pu _));unfold yQ at h;unfold aqn;refine aj ?_;obtain⟨o12,VO,h⟩:=ak h;refine YD k jk gH ([]:List Operator) EN (EN.length:Int) 0 .nil _ _ _ _ (Fr.refl _ _) (HF.refl _ _) av eY _ VO _ ?_
 ·rintro mq c18 σ' H17 eo M0 aiB wZ;rw [eo]at h;have le:=aiB.1;try simp only [AH.aS,AH.aT,AH.aU,AH.aV]at le
  cases h;refine aj ?_;exact(cK Operator.pu _ _)
def yR:Nat->Int->Int->Bool->(List Operator)->(List Str)->Int->Int->Option (List Operator)
 |0,_,_,_,_,_,_,_=>none
 |k+1,jk,gH,qN,FD,mG,fH,KM=>
  cond (decide (KM<fH)) (if 0<=KM then (mG[KM.toNat]?).bind fun x3=>if(FD.length+1)*64<=1099511627776 then yR k jk gH qN (FD++[(Operator.mk x3 1 jk gH qN 2 2)]) mG fH (IntKind.wrap .i64 (KM+1))else none else none) (some (FD))
def NW:List Nat:=[9,11]++List.range' 14 13
theorem YE: ∀(k:Nat) (jk:Int) (gH:Int) (qN:Bool) (FD:List Operator) (mG:List Str) (fH:Int) (KM:Int) (zQ:Ck) (aC σ:Nat->PV) (H0 H:AH) (f0:Fr NW aC σ) (hf0:HF [] H0 H) (sl:σ 0=(.int .i64 jk)/\σ 1=(.int .i64 gH)/\σ 2=(.bool qN)/\σ 9=(.ah (FD.map Operator.cells) zQ)/\σ 12=(.ah (mG.map aF) .unk)/\σ 13=(.int .i64 fH)/\σ 14=(.int .i64 KM)) (ac7:bf H zQ) (o:List Operator) (h:yR k jk gH qN FD mG fH KM=some o) (Q:Post) (q0: ∀(p:List Operator) (c0:Ck) (σ':Nat->PV) (H':AH),o=p->Fr NW aC σ'->HF [] H0 H'->(σ' 9=(.ah (p.map Operator.cells) c0))->Q (.exit 0) σ' H'),W Tryz.prog (.loop UE) Q σ H:=by
 intro k
 induction k with
 |zero=>intro jk gH qN FD mG fH KM zQ aC σ H0 H f0 hf0 sl ac7 o h Q q0;simp only [yR,reduceCtorEq]at h
 |succ k ih=>
  intro jk gH qN FD mG fH KM zQ aC σ H0 H f0 hf0 sl ac7 o h Q q0;obtain⟨s0,s1,s2,s9,s12,s13,Rm⟩:=sl;have hle0:=hf0.1;unfold yR at h;refine bA (fun K hK=>aJ ?_);unfold UE;obtain⟨e1,h⟩|⟨e1,h⟩:=aA h
  ·obtain⟨e2,h⟩:=aZ h;obtain⟨x3,e4,h⟩:=ak h;obtain⟨e9,h⟩:=aZ h;refine aj ?_;refine gW (f:=Operator.cells) Operator.row FD ([(Operator.mk x3 1 jk gH qN 2 2)]:List Operator) zQ .exact av av eY (by first|exact e9|(simp only [List.length_cons,List.length_nil];exact e9)) (fun c5 H6 ok7 le anF rl8=> ?_);have aFB:HF [] _ H6:=⟨le,fun i _ _=>anF i⟩;try simp only [AH.aS,AH.aT,AH.aU,AH.aV]at le
   refine aj ?_;refine hK _ _ ?_;exact ih jk gH qN (FD++[(Operator.mk x3 1 jk gH qN 2 2)]) mG fH (IntKind.wrap .i64 (KM+1)) c5 _ _ _ _ aN GH av eY _ h _ q0
  ·cases h;refine aj ?_;exact q0 _ zQ _ _ rfl aN nL av
def iA (k:Nat) (jk:Int) (gH:Int) (qN:Bool) (EO:List Str):Option (List Operator):=
 Option.bind (yR k jk gH qN ([]:List Operator) EO (EO.length:Int) 0) (fun mq=>some mq)
theorem gq {k:Nat} {jk:Int} {gH:Int} {qN:Bool} {EO:List Str} {c3:Ck} {r:List Operator} (h:iA k jk gH qN EO=some r):aD Tryz.prog 290 [(.int .i64 jk),(.int .i64 gH),(.bool qN),(.ah (EO.map aF) c3)] (.ah (r.map Operator.cells) .unk):=by
 refine aD.lw (.same (.same (.same (.ah .nil)))) (aD.bH (dA.mem (.cons (.int _ _) (.cons (.int _ _) (.cons (.bool _) (.cons (bE gJ _) .nil))))) (aM aBT (by simp) (aJ ?_)) (bE Operator.pu _));unfold iA at h;unfold aqo;refine aj ?_;obtain⟨o12,VO,h⟩:=ak h;refine YE k jk gH qN ([]:List Operator) EO (EO.length:Int) 0 .nil _ _ _ _ (Fr.refl _ _) (HF.refl _ _) av eY _ VO _ ?_
 ·rintro mq c18 σ' H17 eo M0 aiB wZ;rw [eo]at h;have le:=aiB.1;try simp only [AH.aS,AH.aT,AH.aU,AH.aV]at le
  cases h;refine aj ?_;exact(cK Operator.pu _ _)
def qO:Nat->Int->(List (List Operator))->Int->Option Int
 |0,_,_,_=>none
 |k+1,Dr,Lr,dH=>
  cond (decide (dH<24)) (if 0<=dH then (Lr[dH.toNat]?).bind fun PK=>cond (decide ((IntKind.wrap .i64 (Dr+(PK.length:Int)))<0)) (none) (qO k (IntKind.wrap .i64 (Dr+(PK.length:Int))) Lr (IntKind.wrap .i64 (dH+1)))else none) (some (Dr))
def FZ:List Nat:=[3,5]++List.range' 11 12
theorem Ov: ∀(k:Nat) (Dr:Int) (Lr:List (List Operator)) (dH:Int) (M9:Ck) (aC σ:Nat->PV) (H:AH) (f0:Fr FZ aC σ) (sl:σ 3=(.int .i64 Dr)/\σ 9=(.ah (Lr.map (dx Operator.cells)) M9)/\σ 10=(.int .i64 24)/\σ 11=(.int .i64 dH)) (o:Int) (h:qO k Dr Lr dH=some o) (Q:Post) (q0: ∀(p:Int) (σ':Nat->PV),o=p->Fr FZ aC σ'->(σ' 3=(.int .i64 p))->Q (.exit 0) σ' H),W Tryz.prog (.loop UF) Q σ H:=by
 intro k
 induction k with
 |zero=>intro Dr Lr dH M9 aC σ H f0 sl o h Q q0;simp only [qO,reduceCtorEq]at h
 |succ k ih=>
  intro Dr Lr dH M9 aC σ H f0 sl o h Q q0;obtain⟨s3,s9,s10,s11⟩:=sl;unfold qO at h;refine bA (fun K hK=>aJ ?_);unfold UF;obtain⟨e48,h⟩|⟨e48,h⟩:=aA h
  ·obtain⟨e49,h⟩:=aZ h;obtain⟨PK,e51,h⟩:=ak h;obtain⟨e52,h⟩|⟨e52,h⟩:=aA h
   ·cases h
   ·refine dI ?_;refine hK _ _ ?_;exact ih (IntKind.wrap .i64 (Dr+(PK.length:Int))) Lr (IntKind.wrap .i64 (dH+1)) M9 _ _ _ aN aH _ h _ q0
  ·cases h;refine dI ?_;exact q0 _ _ rfl aN aH
def qP:Nat->(List Operator)->(List (List Operator))->Int->Option (List Operator)
 |0,_,_,_=>none
 |k+1,oQ,jQ,fI=>
  cond (decide (fI<24)) (if 0<=fI then (jQ[fI.toNat]?).bind fun Jd=>if 0<Jd.length/\(oQ.length+Jd.length)*64<=1099511627776 then qP k (oQ++Jd) jQ (IntKind.wrap .i64 (fI+1))else none else none) (some (oQ))
def F3:List Nat:=[6,8]++List.range' 27 8
theorem Ow: ∀(k:Nat) (vw:PV) (vC:List Nat) (M:List Nat) (oQ:List Operator) (jQ:List (List Operator)) (fI:Int) (Ke:Ck) (aC σ:Nat->PV) (H0 H:AH) (f0:Fr F3 aC σ) (hf0:HF M H0 H) (sl:σ 6=vw/\σ 25=(.ah (jQ.map (dx Operator.cells)) Ke)/\σ 26=(.int .i64 24)/\σ 27=(.int .i64 fI)) (vD:aG H Operator.cells 7 oQ vw vC) (xk:Nw H0 M vC) (o:List Operator) (h:qP k oQ jQ fI=some o) (Q:Post) (q0: ∀(p:List Operator) (v0:PV) (wF:List Nat) (σ':Nat->PV) (H':AH),o=p->Fr F3 aC σ'->HF M H0 H'->(σ' 6=v0)->aG H' Operator.cells 7 p v0 wF->Nw H0 M wF->Q (.exit 2) σ' H'),W Tryz.prog (.loop UG) Q σ H:=by
 intro k
 induction k with
 |zero=>intro vw vC M oQ jQ fI Ke aC σ H0 H f0 hf0 sl vD xk o h Q q0;simp only [qP,reduceCtorEq]at h
 |succ k ih=>
  intro vw vC M oQ jQ fI Ke aC σ H0 H f0 hf0 sl vD xk o h Q q0;obtain⟨s6,s25,s26,s27⟩:=sl;have hle0:=hf0.1;unfold qP at h;refine bA (fun K hK=>aJ ?_);unfold UG;obtain⟨e69,h⟩|⟨e69,h⟩:=aA h
  ·obtain⟨ZM,h⟩:=aZ h;obtain⟨Jd,e72,h⟩:=ak h;obtain⟨VQ,h⟩:=aZ h;refine dI ?_;refine JX (f:=Operator.cells) (v:=vw) Operator.row oQ (Jd:List Operator) .unk aH (by repeat (first|exact vD|apply aG.new|refine aG.put ?_ (fun hm=>by have:=aG.lt vD _ hm;omega))) aH VQ.1 VQ.2 (fun v74 aCf H76 r77 aFC axM am5=> ?_);have le:=axM.1;try simp only [AH.aS,AH.aT,AH.aU,AH.aV]at le
   refine dI ?_;refine hK _ _ ?_;exact ih v74 aCf M (oQ++Jd) jQ (IntKind.wrap .i64 (fI+1)) Ke _ _ _ _ aN (by repeat (first|exact hf0|refine HF.new ?_|refine HF.UH ?_|refine HF.used ?_|refine HF.put (by first|(right;omega)|(left;simp only [List.mem_cons,true_or,or_true])) ?_|refine HF.via axM xk ?_)) aH (by repeat (first|exact r77|apply aG.new|refine aG.put ?_ (fun hm=>by have:=aG.lt r77 _ hm;omega))) (Nw.trans xk aQ aFC) _ h _ q0
  ·cases h;refine dI ?_;exact q0 _ vw vC _ _ rfl aN nL aH (by repeat (first|exact vD|apply aG.new|refine aG.put ?_ (fun hm=>by have:=aG.lt vD _ hm;omega))) xk
def zR:Nat->(List Operator)->Int->Int->Option (List Operator)
 |0,_,_,_=>none
 |k+1,eU,KN,nS=>
  cond (decide (nS<KN)) (if 0<=nS then (eU[nS.toNat]?).bind fun x95=>cond (x95.text==([92,88]:Str)) (zR k (eU.set nS.toNat (Operator.mk x95.text x95.fix x95.low x95.high x95.left x95.least 4)) KN (IntKind.wrap .i64 (nS+1))) (zR k eU KN (IntKind.wrap .i64 (nS+1)))else none) (some (eU))
def Rt:List Nat:=[4]++List.range' 80 14
theorem ac8: ∀(k:Nat) (BR:PV) (yS:List Nat) (M:List Nat) (eU:List Operator) (KN:Int) (nS:Int) (aC σ:Nat->PV) (H0 H:AH) (f0:Fr Rt aC σ) (hf0:HF M H0 H) (sl:σ 3=BR/\σ 79=(.int .i64 KN)/\σ 80=(.int .i64 nS)) (zS:aG H Operator.cells 7 eU BR yS) (EP:Nw H0 M yS) (o:List Operator) (h:zR k eU KN nS=some o) (Q:Post) (q0: ∀(p:List Operator) (v0:PV) (wF:List Nat) (σ':Nat->PV) (H':AH),o=p->Fr Rt aC σ'->HF M H0 H'->(σ' 3=v0)->aG H' Operator.cells 7 p v0 wF->Nw H0 M wF->Q (.exit 0) σ' H'),W Tryz.prog (.loop Ut) Q σ H:=by
 intro k
 induction k with
 |zero=>intro BR yS M eU KN nS aC σ H0 H f0 hf0 sl zS EP o h Q q0;simp only [zR,reduceCtorEq]at h
 |succ k ih=>
  intro BR yS M eU KN nS aC σ H0 H f0 hf0 sl zS EP o h Q q0;obtain⟨s3,s79,s80⟩:=sl;have hle0:=hf0.1;unfold zR at h;refine bA (fun K hK=>aJ ?_);unfold Ut;obtain⟨VR,h⟩|⟨VR,h⟩:=aA h
  ·obtain⟨e94,h⟩:=aZ h;obtain⟨x95,e96,h⟩:=ak h;obtain⟨w97,V7,axN,hil,w99,hC,hL,hD,hI⟩:=aG.content zS e96;have aK5:=ne_next hil;have aK6:=aO hil;have aK7:jR 7 BR (.int .i64 nS)=some (.ref w97 (nS.toNat*7)):=by simpa using hI .i64 nS (by first|omega|decide) (by first|rfl|omega)
   have aJ4:V7[nS.toNat*7]? =some (.str x95.text):=by simpa using hC 0 _ rfl
   have aJ5:V7[nS.toNat*7+1]? =some (.int .i64 x95.fix):=by simpa using hC 1 _ rfl
   have aJ6:V7[nS.toNat*7+2]? =some (.int .i64 x95.low):=by simpa using hC 2 _ rfl
   have aJ7:V7[nS.toNat*7+3]? =some (.int .i64 x95.high):=by simpa using hC 3 _ rfl
   have aJ8:V7[nS.toNat*7+4]? =some (.bool x95.left):=by simpa using hC 4 _ rfl
   have aJ9:V7[nS.toNat*7+5]? =some (.int .i64 x95.least):=by simpa using hC 5 _ rfl
   have aKa:V7[nS.toNat*7+6]? =some (.int .i64 x95.most):=by simpa using hC 6 _ rfl
   have aK8:nS.toNat*7+7<=V7.length:=by simpa using hL 7 (Nat.le_refl _)
   have aK9:List.take 7 (List.drop (nS.toNat*7) V7)=Operator.cells x95:=hD;clear hC hL hD hI;obtain⟨UJ,h⟩|⟨UJ,h⟩:=aA h
   ·refine dI ?_;refine pJ (f:=Operator.cells) (id:=w97) (o:=nS.toNat*7+6) (i:=nS.toNat) (j:=6) (a:=x95) (y:=(Operator.mk x95.text x95.fix x95.low x95.high x95.left x95.least 4)) (vs:=[(.int .i64 4)]) aH axN (by omega) (by repeat (first|exact zS|apply aG.new|refine aG.put ?_ (fun hm=>by have:=aG.lt zS _ hm;omega))) e96 aH rfl rfl (by first|decide|(simp only [List.length_cons,List.length_nil];omega)) rfl (fun aLa axO aqV aKb=> ?_);have le:=aqV.1;try simp only [AH.aS,AH.aT,AH.aU,AH.aV]at le
    refine dI ?_;refine hK _ _ ?_;exact ih BR yS M (eU.set nS.toNat (Operator.mk x95.text x95.fix x95.low x95.high x95.left x95.least 4)) KN (IntKind.wrap .i64 (nS+1)) _ _ _ _ aN (by repeat (first|exact hf0|refine HF.new ?_|refine HF.UH ?_|refine HF.used ?_|refine HF.put (by first|(right;omega)|(left;simp only [List.mem_cons,true_or,or_true])) ?_|refine HF.via aqV EP ?_)) aH (by repeat (first|exact axO|apply aG.new|refine aG.put ?_ (fun hm=>by have:=aG.lt axO _ hm;omega))) EP _ h _ q0
   ·refine dI ?_;refine hK _ _ ?_;exact ih BR yS M eU KN (IntKind.wrap .i64 (nS+1)) _ _ _ _ aN nL aH (by repeat (first|exact zS|apply aG.new|refine aG.put ?_ (fun hm=>by have:=aG.lt zS _ hm;omega))) EP _ h _ q0
  ·cases h;refine dI ?_;exact q0 _ BR yS _ _ rfl aN nL aH (by repeat (first|exact zS|apply aG.new|refine aG.put ?_ (fun hm=>by have:=aG.lt zS _ hm;omega))) EP
def Il (k:Nat):Option (List Operator):=
 (yQ k 4 4 [([126]:Str)]).bind fun p2=>(yQ k 4 15 [([69,78,65,66,76,69,68]:Str),([85,78,67,72,65,78,71,69,68]:Str),([91,93]:Str),([60,62]:Str)]).bind fun p4=>(yQ k 8 8 [([83,85,66,83,69,84]:Str),([85,78,73,79,78]:Str)]).bind fun p6=>(yQ k 9 9 [([68,79,77,65,73,78]:Str)]).bind fun p8=>(yQ k 12 12 [([45,46]:Str)]).bind fun kQ=>(iA k 1 1 false [([61,62]:Str)]).bind fun pK=>(iA k 2 2 false [([60,61,62]:Str),([126,62]:Str)]).bind fun mq=>(iA k 3 3 true [([47,92]:Str),([92,47]:Str)]).bind fun p16=>(iA k 5 5 false [([61]:Str),([35]:Str),([60]:Str),([60,61]:Str),([62]:Str),([62,61]:Str),([92,105,110]:Str),([92,110,111,116,105,110]:Str),([92,115,117,98,115,101,116,101,113]:Str),([92,115,113,115,117,98,115,101,116,101,113]:Str)]).bind fun uX=>(iA k 6 6 true [([64,64]:Str)]).bind fun Dh=>(iA k 7 7 false [([58,62]:Str)]).bind fun rP=>(iA k 5 14 true [([92,99,100,111,116]:Str)]).bind fun xg=>(iA k 8 8 true [([92,99,117,112]:Str),([92,99,97,112]:Str)]).bind fun p26=>(iA k 8 8 false [([92]:Str)]).bind fun p28=>(iA k 9 9 false [([46,46]:Str)]).bind fun p30=>(iA k 10 10 true [([43]:Str),([40,43,41]:Str)]).bind fun p32=>(iA k 10 11 false [([37]:Str)]).bind fun p34=>(iA k 10 13 false [([92,88]:Str)]).bind fun p36=>(iA k 11 11 true [([45]:Str),([40,45,41]:Str)]).bind fun p38=>(iA k 13 13 true [([42]:Str)]).bind fun p40=>(iA k 13 13 false [([92,100,105,118]:Str)]).bind fun p42=>(iA k 13 13 true [([92,111]:Str)]).bind fun p44=>(iA k 14 14 false [([94]:Str)]).bind fun p46=>Option.bind (qO k 0 [p2,p4,p6,p8,kQ,pK,mq,p16,uX,Dh,rP,xg,p26,p28,p30,p32,p34,p36,p38,p40,p42,p44,p46,[(Operator.mk ([39]:Str) 2 15 15 false 1 1)]] 0) (fun p55=>if 0<p55/\p55<=1000000 then Option.bind (qP k ([]:List Operator) [p2,p4,p6,p8,kQ,pK,mq,p16,uX,Dh,rP,xg,p26,p28,p30,p32,p34,p36,p38,p40,p42,p44,p46,[(Operator.mk ([39]:Str) 2 15 15 false 1 1)]] 0) (fun p83=>Option.bind (zR k p83 (p83.length:Int) 0) (fun axP=>some axP))else none)
theorem akU {k:Nat} {r:List Operator} (h:Il k=some r):aD Tryz.prog 264 [] (.ah (r.map Operator.cells) .unk):=by
 refine aD.bH (dA.mem .nil) (aM aBC (by simp) (aJ ?_)) (bE Operator.pu _);unfold Il at h;unfold ap7;obtain⟨p2,e1,h⟩:=ak h;refine dI ?_;refine au (AL e1) ?_;obtain⟨p4,e3,h⟩:=ak h;refine dI ?_;refine au (AL e3) ?_;obtain⟨p6,e5,h⟩:=ak h;refine dI ?_;refine au (AL e5) ?_;obtain⟨p8,e7,h⟩:=ak h;refine dI ?_;refine au (AL e7) ?_;obtain⟨kQ,e9,h⟩:=ak h;refine dI ?_;refine au (AL e9) ?_;obtain⟨pK,e11,h⟩:=ak h;refine dI ?_;refine au (gq e11) ?_;obtain⟨mq,e13,h⟩:=ak h;refine dI ?_;refine au (gq e13) ?_;obtain⟨p16,e15,h⟩:=ak h;refine dI ?_;refine au (gq e15) ?_;obtain⟨uX,e17,h⟩:=ak h;refine dI ?_;refine au (gq e17) ?_;obtain⟨Dh,e19,h⟩:=ak h;refine dI ?_;refine au (gq e19) ?_;obtain⟨rP,e21,h⟩:=ak h;refine dI ?_;refine au (gq e21) ?_;obtain⟨xg,e23,h⟩:=ak h;refine dI ?_;refine au (gq e23) ?_;obtain⟨p26,e25,h⟩:=ak h;refine dI ?_;refine au (gq e25) ?_;obtain⟨p28,e27,h⟩:=ak h;refine dI ?_;refine au (gq e27) ?_;obtain⟨p30,e29,h⟩:=ak h;refine dI ?_;refine au (gq e29) ?_;obtain⟨p32,e31,h⟩:=ak h;refine dI ?_;refine au (gq e31) ?_;obtain⟨p34,e33,h⟩:=ak h;refine dI ?_;refine au (gq e33) ?_;obtain⟨p36,e35,h⟩:=ak h;refine dI ?_;refine au (gq e35) ?_;obtain⟨p38,e37,h⟩:=ak h;refine dI ?_;refine au (gq e37) ?_;obtain⟨p40,e39,h⟩:=ak h;refine dI ?_;refine au (gq e39) ?_;obtain⟨p42,e41,h⟩:=ak h;refine dI ?_;refine au (gq e41) ?_;obtain⟨p44,e43,h⟩:=ak h;refine dI ?_;refine au (gq e43) ?_;obtain⟨p46,e45,h⟩:=ak h;refine dI ?_;refine au (gq e45) ?_;refine dI ?_;refine aM aBU (by simp) (aJ ?_);unfold aqp;refine dI ?_;obtain⟨o53,h54,h⟩:=ak h;refine Ov k 0 [p2,p4,p6,p8,kQ,pK,mq,p16,uX,Dh,rP,xg,p26,p28,p30,p32,p34,p36,p38,p40,p42,p44,p46,[(Operator.mk ([39]:Str) 2 15 15 false 1 1)]] 0 .exact _ _ _ (Fr.refl _ _) aH _ h54 _ ?_
 ·rintro p55 σ' eo awF s59;rw [eo]at h;have s60:σ' 0=(.ah ([p2,p4,p6,p8,kQ,pK,mq,p16,uX,Dh,rP,xg,p26,p28,p30,p32,p34,p36,p38,p40,p42,p44,p46,[(Operator.mk ([39]:Str) 2 15 15 false 1 1)]].map (dx Operator.cells)) .exact):=(awF 0 (by decide)).trans aH;obtain⟨e61,h⟩:=aZ h;refine dI ?_;refine akb (f:=Operator.cells) (xs:=([]:List Operator)) (akR p55 e61) (fun v62 aqW H64 r65 aLb aFD am3=> ?_);have le:=aFD.1;try simp only [AH.aS,AH.aT,AH.aU,AH.aV]at le
  refine dI ?_;obtain⟨o81,h82,h⟩:=ak h;refine Ow k v62 aqW (aqW++[]) ([]:List Operator) [p2,p4,p6,p8,kQ,pK,mq,p16,uX,Dh,rP,xg,p26,p28,p30,p32,p34,p36,p38,p40,p42,p44,p46,[(Operator.mk ([39]:Str) 2 15 15 false 1 1)]] 0 .exact _ _ _ _ (Fr.refl _ _) (HF.refl _ _) aH (by repeat (first|exact r65|apply aG.new|refine aG.put ?_ (fun hm=>by have:=aG.lt r65 _ hm;omega))) (fun i hi=>Or.inl (by simp only [List.mem_append,List.mem_cons,hi,true_or,or_true])) _ h82 _ ?_
  ·rintro p83 v87 aqX σ' H86 eo aLc aFE s91 r89 aLd;rw [eo]at h;have le:=aFE.1;try simp only [AH.aS,AH.aT,AH.aU,AH.aV]at le
   have w92:=aG.O1 r89;refine dI ?_;obtain⟨o111,h112,h⟩:=ak h;refine ac8 k v87 aqX (aqX++[]) p83 (p83.length:Int) 0 _ _ _ _ (Fr.refl _ _) (HF.refl _ _) aH (by repeat (first|exact r89|apply aG.new|refine aG.put ?_ (fun hm=>by have:=aG.lt r89 _ hm;omega))) (fun i hi=>Or.inl (by simp only [List.mem_append,List.mem_cons,hi,true_or,or_true])) _ h112 _ ?_
   ·rintro axP v117 aH8 σ' aFA eo aKc aCg aLe Yh aKd;rw [eo]at h;have le:=aCg.1;try simp only [AH.aS,AH.aT,AH.aU,AH.aV]at le
    cases h;refine dI ?_;exact(aG.fz Operator.pu (by repeat (first|exact Yh|apply aG.new|refine aG.put ?_ (fun hm=>by have:=aG.lt Yh _ hm;omega))))
end Go.VL
end
section
namespace Go.VL
open Go.Proofs Go.RowKit
def qF:List Operator:=(Il 100).getD []
theorem akV:Il 100=some qF:=by
 have h:(Il 100).isSome=true:=by kernel_rfl
 rw [qF];cases h1:Il 100 with
 |none=>rw [h1]at h;cases h
 |some r=>rfl
theorem axR:aD Tryz.prog 264 [] (.ah (qF.map Operator.cells) .unk):=akU akV
end Go.VL
end
section
set_option maxHeartbeats 4000000
namespace Go.VL
open Go.Proofs
def nI (k:Nat) (kP:Str):Option (Operator×Bool):=
 (dW k qF kP).bind fun p2=>cond (decide (p2<0)) (some ((Operator.mk [] 0 0 0 false 0 0),false)) (if 0<=p2 then (qF[p2.toNat]?).bind fun x5=>some (x5,true)else none)
theorem LD {k:Nat} {kP:Str} {r:Operator×Bool} (h:nI k kP=some r):aD Tryz.prog 223 [(.str kP)] (.dn [(.agg (Operator.cells r.1)),(.bool r.2)]):=by
 refine aD.bH (dA.mem (.cons (.str _) .nil)) (aM aBa (by simp) (aJ ?_)) (.dn _ (dA.mem (.cons (.agg _ (Operator.pu _)) (.cons (.bool _) .nil))));unfold nI at h;unfold apF;refine aj ?_;refine au (axR) ?_;obtain⟨p2,e1,h⟩:=ak h;refine aj ?_;refine FV (sZ e1) (.cons (cK Operator.pu _ _) (.cons (aoF (.cons (aj0 (by simp -implicitDefEqProofs only [go_sem,dO,and_self]<;>rfl) (.cons (.pure _ (.str _)) .nil)) .nil)) .nil)) (.cons (bE Operator.pu _) (.cons (.fn _ _ _ (dA.mem .nil) (dA.mem (.cons (.bY _ _ (dA.mem (.cons (.str _) .nil))) .nil))) .nil)) (.int _ _) ?_;obtain⟨e3,h⟩|⟨e3,h⟩:=aA h
 ·cases h;refine aj ?_;exact(jr (.cons (dU (.cons (.pure _ (.str _)) (dz (dz (dz (.cons (.pure _ (.bool _)) (dz (dz .nil)))))))) (.cons (.pure _ (.bool _)) .nil)))
 ·obtain⟨e4,h⟩:=aZ h;obtain⟨x5,e6,h⟩:=ak h;cases h;refine aj ?_;exact(jr (.cons (dU (.cons (.pure _ (.str _)) (dz (dz (dz (.cons (.pure _ (.bool _)) (dz (dz .nil)))))))) (.cons (.pure _ (.bool _)) .nil)))
instance asP (k:Nat) (kP:Str):dN Tryz.prog 223 [(.str kP)] (nI k kP) (fun r=>(.dn [(.agg (Operator.cells r.1)),(.bool r.2)])):=⟨fun _ h=>LD h⟩
def abn (x_0:Int) (y_1:Int):Option (Int×Int):=
 if(0<=x_0/\x_0<18446744073709551616)/\(0<=y_1/\y_1<18446744073709551616)then some ((V6 x_0 y_1).1,(V6 x_0 y_1).2)else none
theorem asQ {x_0:Int} {y_1:Int} {r:Int×Int} (h:abn x_0 y_1=some r):aD Tryz.prog 273 [(.int .u64 x_0),(.int .u64 y_1)] (.dn [(.int .u64 r.1),(.int .u64 r.2)]):=by
 refine aD.bH (dA.mem (.cons (.int _ _) (.cons (.int _ _) .nil))) (aM aBJ (by simp) (aJ ?_)) (.dn _ (dA.mem (.cons (.int _ _) (.cons (.int _ _) .nil))));unfold abn at h;unfold aqe;obtain⟨e1,h⟩:=aZ h;refine aj ?_;refine au (asN x_0 y_1 (by assumption)) ?_;cases h;refine aj ?_;exact(jr (dz (dz .nil)))
end Go.VL
end
section
namespace Go.VL
open Go.Proofs Go.RowKit
theorem yT {P:Program} {K:(Nat->PV)->AH->Prop} {σ:Nat->PV} {H:AH} {d:Option Nat} {k:RK} {l:List (aI×Bool)} (p:PV) (h: ∀H',rop k σ H'=some p)
 (hn:jq P (fun _=>True) l K (upd σ d p) H):jq P (fun _=>True) ((⟨d,.r k,none⟩,false)::l) K σ H:=by
 unfold jq;refine .inr ⟨trivial,p,fun H' _=> ?_,hn⟩;show(match rop k σ H' with|some q=>(q=p/\H'=H')|none=>False);rw [h H'];exact⟨rfl,rfl⟩
theorem ac9: ∀l:List PV,(l.map fun c=>[c]).flatten=l
 |[]=>rfl
 |a::l=>by rw [List.map_cons,List.flatten_cons,ac9 l];rfl
theorem aiC (l rest:List PV):chunks 1 l.length (l++rest)=l.map fun c=>[c]:=by
 have h:=yA (sz:=1) (l.map fun c=>[c]) rest (by simp);rw [List.length_map,ac9]at h;exact h
theorem Kg (x:PV): ∀m,(List.replicate m [x]).flatten=List.replicate m x
 |0=>rfl
 |m+1=>by rw [List.replicate_succ,List.flatten_cons,Kg x m];rfl
theorem axS (x:Int) (id n:Nat) (H0:AH) (Q:Post) (hn:n<=1000000)
 (hx: ∀σ' H',σ' 7= .bO id 0 n n 1->H'.obj id=some (List.replicate n (.int .i64 x))->H'.next=H0.next->(∀i,i≠id->H'.obj i=H0.obj i)->(∀k,H'.live k=H0.live k)->Q (.exit 0) σ' H'):
 ∀(d m:Nat) (σ:Nat->PV) (H:AH) (rest:List PV),n -m<=d->m<=n->(m=0->n=0)->σ 7= .bO id 0 n n 1->σ 8= .int .i64 m->H.obj id=some (List.replicate m (.int .i64 x)++rest)->rest.length=n -m->
   H.next=H0.next->(∀i,i≠id->H.obj i=H0.obj i)->(∀k,H.live k=H0.live k)->W Tryz.prog (.loop MP) Q σ H:=by
 intro d
 induction d with
 |zero=>
  intro m σ H rest hd hm h0 h7 h8 ho hr h1 h2 h3;have e:m=n:=by omega
  subst e;have c1:decide ((m:Int)<(m:Int))=false:=decide_eq_false (by omega);refine bA (fun K hK=>aJ ?_);unfold MP;simp -implicitDefEqProofs only [go_sem,h7,h8,c1];have hr0:rest=[]:=List.eq_nil_of_length_eq_zero (by omega);subst hr0;refine hx _ _ ?_ (by rw [ho,List.append_nil]) h1 h2 h3;simp only [Bp,Nat.reduceEqDiff,↓reduceIte,h7]
 |succ d ih=>
  intro m σ H rest hd hm h0 h7 h8 ho hr h1 h2 h3;by_cases hmn:m=n
  · exact ih m σ H rest (by omega) hm h0 h7 h8 ho hr h1 h2 h3
  have c1:decide ((m:Int)<(n:Int))=true:=decide_eq_true (by omega);refine bA (fun K hK=>aJ ?_);unfold MP;simp -implicitDefEqProofs only [go_sem,h7,h8,c1];refine⟨fun _=>True,trivial,?_⟩;refine yT (.int .i64 m) (fun H'=>by simp [rop,AE.ev,upd,h7,h8]) ?_;refine yT (.bO id 0 n n 1) (fun H'=>by simp [rop,AE.ev,upd,h7,h8]) ?_;refine yT (.int .i64 m) (fun H'=>by simp [rop,AE.ev,upd,h7,h8]) ?_;refine yT (.bO id m (n -m) (n -m) 1) (fun H'=>by simp [rop,AE.ev,upd,ql,oJ,h7,h8];omega) ?_;refine yT (.bO id 0 n n 1) (fun H'=>by simp [rop,AE.ev,upd,h7,h8]) ?_;refine yT (.int .i64 m) (fun H'=>by simp [rop,AE.ev,upd,h7,h8]) ?_;refine yT (.bO id 0 m n 1) (fun H'=>by simp [rop,AE.ev,upd,ql,oJ,h7,h8];omega) ?_;have hch:chunks 1 m (List.replicate m (.int .i64 x)++rest)=List.replicate m [.int .i64 x]:=by
   have h:=aiC (List.replicate m (.int .i64 x)) rest;rw [List.length_replicate,List.map_replicate]at h;exact h
  unfold jq;refine .inr ⟨trivial,.int .i64 (min m (n -m):Nat),H.put id (List.replicate (m+min m (n -m)) (.int .i64 x)++rest.drop (min m (n -m))),?_,trivial,?_⟩
  · have hy:rowOf 1 H (PV.bO id 0 m n 1)=some (List.replicate m [.int .i64 x]):=by
     have hl:0+m*1<=(List.replicate m (PV.int .i64 x)++rest).length:=by rw [List.length_append,List.length_replicate];omega
     simp only [rowOf,ho];rw [if_pos ⟨trivial,hl⟩,List.drop_zero,hch]
    have hsz:qR 1 (List.replicate m [PV.int .i64 x]):=fun cs hcs=>by
     rw [(List.mem_replicate.1 hcs).2];exact⟨rfl,fun c hc=>by rw [List.mem_singleton.1 hc];rfl⟩
    have hle:m+(n -m)*1<=(List.replicate m (PV.int .i64 x)++rest).length:=by rw [List.length_append,List.length_replicate];omega
    have hput:putCells (List.replicate m (PV.int .i64 x)++rest) m ((List.replicate m [PV.int .i64 x]).take (n -m)).flatten=List.replicate (m+min m (n -m)) (.int .i64 x)++rest.drop (min m (n -m)):=by
     rw [List.take_replicate,Kg];unfold putCells;rw [List.length_replicate];have e1:(List.replicate m (PV.int .i64 x)++rest).take m=List.replicate m (PV.int .i64 x):=by
      rw [List.take_append_of_le_length (by rw [List.length_replicate];omega),List.take_of_length_le (by rw [List.length_replicate];omega)]
     have e2:(List.replicate m (PV.int .i64 x)++rest).drop (m+min (n -m) m)=rest.drop (min m (n -m)):=by
      rw [List.drop_append,List.length_replicate,List.drop_eq_nil_of_le (by rw [List.length_replicate];omega),List.nil_append];congr 1;omega
     rw [e1,e2,List.replicate_append_replicate,Nat.min_comm m]
    simp only [d9,nop,AE.ev,Bp,Nat.reduceEqDiff,↓reduceIte,hy];simp only [ho];rw [if_pos ⟨trivial,hsz,hle⟩];refine⟨?_,by rw [hput]⟩;rw [List.length_replicate]
  · have hm2:(m:Int)+((min m (n -m):Nat):Int)=((m+min m (n -m):Nat):Int):=by omega
    have hw:IntKind.wrap .i64 ((m:Int)+((min m (n -m):Nat):Int))=((m+min m (n -m):Nat):Int):=by
     rw [hm2];exact IntWalk.i64_in _ (by omega)
    unfold jq;refine eO ?_;simp -implicitDefEqProofs only [go_sem,h7,h8,hw];refine hK _ _ (ih (m+min m (n -m)) _ _ (rest.drop (min m (n -m))) (by omega) (by omega) (by omega) ?_ ?_ ?_ (by rw [List.length_drop];omega) h1 ?_ h3)
    · simp only [Bp,Nat.reduceEqDiff,↓reduceIte,h7]
    · simp only [Bp,Nat.reduceEqDiff,↓reduceIte]
    · show(if id=id then some _ else _)=_
      rw [if_pos rfl]
    · intro i hi;show(if i=id then some _ else _)=_;rw [if_neg hi];exact h2 i hi
section
variable {P:Program} {Q:Post} {σ:Nat->PV} {s:List Fm} {H:AH}
theorem axT {d:Option Nat} {x y:AE} {l:List aI} {k k':IntKind} {n:Nat} (hx:x.ev σ= .int k n) (hy:y.ev σ= .int k' n) (hb:n<=1000000)
 (h:WO P l s Q (upd σ d (.bO H.next 0 n n 1)) (H.new (List.replicate n (.int .i64 0)))):WO P (⟨d,.d (.yg 1 8 [.int .i64 0] x y),none⟩::l) s Q σ H:=by
 show WD P (jo (.yg 1 8 [.int .i64 0] x y) σ H) d l s Q σ
 simp only [jo,hx,hy];rw [if_pos ⟨by omega,by omega,by omega,by omega,rfl,by decide⟩];rw [Int.toNat_natCast,Kg];exact h
theorem asR {d:Option Nat} {x y:AE} {l:List aI} {id off len cap sz:Nat} {fs:List (List PV)} {cs:List PV} (hx:x.ev σ= .bO id off len cap sz) (hy:rowOf sz H (y.ev σ)=some fs) (ho:H.obj id=some cs)
 (hsz:qR sz fs) (hle:off+len*sz<=cs.length)
 (h:WO P l s Q (upd σ d (.int .i64 (min fs.length len:Nat))) (H.put id (putCells cs off (fs.take len).flatten))):WO P (⟨d,.n (.copy sz x y),none⟩::l) s Q σ H:=by
 show dM P _ _ σ H
 rw [II];simp only [nop,hx,hy,ho];rw [if_pos ⟨trivial,hsz,hle⟩];exact h
end
theorem aCh (x:Int) (n:Int) (hn:0<=n/\n<=1000000):ML Tryz.prog 230 [.ah [[.int .i64 x]] .exact,.int .i64 n] aK 1 (List.replicate n.toNat x):=by
 intro H;obtain⟨n,rfl⟩: ∃k:Nat,n=k:=⟨n.toNat,by omega⟩;refine aM aBh (by simp) (aJ ?_);unfold apM;have c1:decide ((n:Int)<0)=false:=decide_eq_false (by omega);have c2:IntKind.wrap .u64 1=1:=by decide
 have c3:IntKind.wrap .u64 (n:Int)=n:=IntWalk.u64_in _ (by omega);have c4:IntKind.wrap .i64 (n:Int)=n:=IntWalk.i64_in _ (by omega);have hm:abn 1 n=some ((0:Int),(n:Int)):=by
  unfold abn V6;rw [if_pos ⟨⟨by omega,by omega⟩,by omega,by omega⟩];have e1:((1:Int).toNat*((n:Nat):Int).toNat/18446744073709551616:Nat)=0:=by
   rw [Int.toNat_natCast];show(1*n)/_=0;omega
  have e2:((1:Int).toNat*((n:Nat):Int).toNat% 18446744073709551616:Nat)=n:=by
   rw [Int.toNat_natCast];show(1*n)% _=n;omega
  rw [e1,e2];rfl
 have hc:=asQ hm;have d1:decide ((n:Int)>9223372036854775807)=false:=decide_eq_false (by omega);unfold acg ach;simp -implicitDefEqProofs only [go_sem,c1,c2,c3,c4,d1];refine bg.mono (hc H) fun v H' hv=> ?_;obtain⟨rfl,rfl⟩:=hv;have d0:decide ((0:Int)>0)=false:=by decide
 simp -implicitDefEqProofs only [go_sem,c1,c2,c3,c4,d0,d1];refine axT (k:= .i64) (k':= .i64) (n:=n) (by simp only [go_sem]) (by simp only [go_sem]) (by omega) ?_;have Dm:(H'.new (List.replicate n (PV.int .i64 0))).obj H'.next=some (List.replicate n (PV.int .i64 0)):=by
  show(if H'.next=H'.next then some _ else _)=_
  rw [if_pos rfl]
 simp -implicitDefEqProofs only [go_sem]
 refine asR (id:=H'.next) (off:=0) (len:=n) (cap:=n) (fs:=[[.int .i64 x]]) (cs:=List.replicate n (.int .i64 0)) (by simp only [go_sem]) (by simp only [go_sem];rfl) Dm
  (by intro cs hcs;rw [List.mem_singleton.1 hcs];exact⟨rfl,fun c hc=>by rw [List.mem_singleton.1 hc];rfl⟩) (by rw [List.length_replicate];omega) ?_
 have hput:putCells (List.replicate n (PV.int .i64 0)) 0 (([[PV.int .i64 x]]:List (List PV)).take n).flatten=List.replicate (min 1 n) (.int .i64 x)++List.replicate (n -min 1 n) (.int .i64 0):=by
  cases n with
  |zero=>rfl
  |succ n=>
   have e:min 1 (n+1)=1:=by omega
   rw [e,List.take_of_length_le (by simp)];simp [putCells,List.replicate_succ]
 rw [hput];have e1:(min ([[PV.int .i64 x]]:List (List PV)).length n:Nat)=min 1 n:=rfl;rw [e1];simp -implicitDefEqProofs only [go_sem];have aCi: ∀cs:List PV,(((H'.new (List.replicate n (PV.int .i64 0))).put H'.next cs).obj H'.next)=some cs:=fun cs=>by
  show(if H'.next=H'.next then some _ else _)=_
  rw [if_pos rfl]
 refine axS x H'.next n ((H'.new (List.replicate n (PV.int .i64 0)))) _ (by omega) (fun σ' H2 k7 ko kn kob kl=> ?_) n (min 1 n) _ _ (List.replicate (n -min 1 n) (.int .i64 0)) (by omega) (by omega) (by omega) ?_ ?_ (aCi _) (by rw [List.length_replicate]) rfl
  (fun i hi=> ?_) (fun k=>rfl)
 · show WE Tryz.prog (.exit 0) _ _ σ' H2
   simp -implicitDefEqProofs only [go_sem,k7];refine⟨[H'.next],.inr ⟨H'.next,n,[],rfl,by rw [List.length_replicate],by rw [List.length_replicate];omega,by rw [kn];exact Nat.lt_succ_self _,?_,?_⟩,fun i hi=> .inr (by rw [List.mem_singleton.1 hi];exact Nat.le_refl _),⟨by rw [kn];exact Nat.le_succ _,fun i hi _=> ?_⟩,fun c3 hc=> ?_⟩
   · rw [ko,List.append_nil,List.map_replicate];exact congrArg some (Kg (PV.int .i64 x) n).symm
   · rw [List.length_replicate];simp
   · rw [kob i (by omega)];show(if i=H'.next then some _ else _)=_;rw [if_neg (by omega)]
   · cases c3 with
     |unk=>exact hc
     |tok t=>exact⟨by rw [kl];exact hc.1,by rw [kn];exact Nat.lt_succ_of_lt hc.2⟩
     |nil=>trivial
     |exact=>trivial
 · simp only [Bp,Nat.reduceEqDiff,↓reduceIte]
 · simp only [Bp,Nat.reduceEqDiff,↓reduceIte]
 · show(if i=H'.next then some _ else _)=_
   rw [if_neg hi]
def LG (l:List Int) (n:Int):List Int:=List.replicate n.toNat (l.headD 0)
theorem axU (l:List Int) (n:Int) (h:l.length=1/\0<=n/\n<=1000000):ML Tryz.prog 230 [.ah (l.map aK) .exact,.int .i64 n] aK 1 (LG l n):=by
 match l,h with
 |[x],h=>exact aCh x n h.2
end Go.VL
end
