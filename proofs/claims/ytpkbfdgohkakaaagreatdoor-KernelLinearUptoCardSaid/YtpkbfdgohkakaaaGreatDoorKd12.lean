/- KernelLinear -/
import Derived.Test.YtpkbfdgohkakaaaGreatDoorKd11
set_option linter.unusedVariables false
set_option linter.unusedSectionVars false
set_option linter.unusedSimpArgs false
section
set_option maxRecDepth 8000
set_option maxHeartbeats 4000000
namespace Go.VL
open Go.Proofs
def rz (Gb:List Int) (EZ:Bool):Option Bool:=
 cond EZ (some (true)) (some ((decide ((Gb.length:Int)>13))))
theorem NM: ∀(Gb:List Int) (EZ:Bool) (aH σ:Nat->PV) (H:AH) (f0:Fr [30,31,32,33] aH σ) (sl:σ 7=(.ah (Gb.map aK) .unk)/\σ 29=(.bool EZ)) (o:Bool) (h:rz Gb EZ=some o) (Q:Post) (q0: ∀(p:Bool) (σ':Nat->PV),o=p->Fr [30,31,32,33] aH σ'->(σ' 33=(.bool p))->Q .normal σ' H),eZ Tryz.prog ab5 (Q .normal) σ H:=by
 intro Gb EZ aH σ H f0 sl o h Q q0;obtain⟨s7,s29⟩:=sl;unfold rz at h;refine oG ?_;unfold ab5;obtain⟨e16,h⟩|⟨e16,h⟩:=aJ h
 ·cases h;refine ak ?_;exact q0 _ _ rfl bG aA
 ·cases h;refine ak ?_;exact q0 _ _ rfl bG aA
def rA (k:Nat) (sQ:List (List Nd)) (nZ:Int) (ae4:Bool):Option Bool:=
 cond ae4 (some (true)) (if 0<=nZ then (sQ[nZ.toNat]?).bind fun OP=>(JX k OP).bind fun p39=>cond p39 ((yL k OP).bind fun p42=>cond (p42 !=0) (some (true)) ((kM k OP).bind fun p45=>some ((!p45)))) (some (true))else none)
def Gc:List Nat:=List.range' 47 23
theorem NP (k:Nat): ∀(sQ:List (List Nd)) (nZ:Int) (ae4:Bool) (Xg:Ck) (aH σ:Nat->PV) (H:AH) (f0:Fr Gc aH σ) (sl:σ 9=(.ah (sQ.map (bR Nd.cells)) Xg)/\σ 10=(.int .i64 nZ)/\σ 46=(.bool ae4)) (o:Bool) (h:rA k sQ nZ ae4=some o) (Q:Post) (q0: ∀(p:Bool) (σ':Nat->PV),o=p->Fr Gc aH σ'->(σ' 69=(.bool p))->Q .normal σ' H),eZ Tryz.prog ab6 (Q .normal) σ H:=by
 intro sQ nZ ae4 Xg aH σ H f0 sl o h Q q0;obtain⟨s9,s10,s46⟩:=sl;unfold rA at h;refine oG ?_;unfold ab6;obtain⟨e34,h⟩|⟨e34,h⟩:=aJ h
 ·cases h;refine ak ?_;exact q0 _ _ rfl bG aA
 ·obtain⟨e35,h⟩:=aX h;obtain⟨OP,e37,h⟩:=aj h;obtain⟨p39,e38,h⟩:=aj h;refine ak ?_;refine av (at7 e38) ?_;obtain⟨e40,h⟩|⟨e40,h⟩:=aJ h
  ·obtain⟨p42,e41,h⟩:=aj h;refine ak ?_;refine av (at5 e41) ?_;obtain⟨e43,h⟩|⟨e43,h⟩:=aJ h
   ·cases h;refine ak ?_;exact q0 _ _ rfl bG aA
   ·obtain⟨p45,e44,h⟩:=aj h;refine ak ?_;refine av (YZ e44) ?_;cases h;refine ak ?_;exact q0 _ _ rfl bG aA
  ·cases h;refine ak ?_;exact q0 _ _ rfl bG aA
def fZ:Nat->(List (List Nd))->Int->Option (Unit⊕Bool)
 |0,_,_=>none
 |k+1,sQ,nZ=>
  cond (decide (nZ<(sQ.length:Int))) (if 0<=nZ then (sQ[nZ.toNat]?).bind fun x32=>Option.bind (rA k sQ nZ (decide ((x32.length:Int)>15))) (fun p48=>cond p48 (some (.inr (true))) (fZ k sQ (IntKind.wrap .i64 (nZ+1))))else none) (some (.inl ()))
def zV:List Nat:=[6,10]++List.range' 34 36
theorem NQ: ∀(k:Nat) (sQ:List (List Nd)) (nZ:Int) (AJ:Ck) (aH σ:Nat->PV) (H:AH) (f0:Fr zV aH σ) (sl:σ 9=(.ah (sQ.map (bR Nd.cells)) AJ)/\σ 10=(.int .i64 nZ)) (o:Unit⊕Bool) (h:fZ k sQ nZ=some o) (Q:Post) (q0: ∀(p:Unit) (σ':Nat->PV),o= .inl p->Fr zV aH σ'->Q (.exit 0) σ' H) (q1: ∀(p:Bool) (σ':Nat->PV),o= .inr (p)->Fr zV aH σ'->(σ' 6=(.bool p))->Q .ret σ' H),W Tryz.prog (.loop ab7) Q σ H:=by
 intro k
 induction k with
 |zero=>intro sQ nZ AJ aH σ H f0 sl o h Q q0 q1;simp only [fZ,reduceCtorEq]at h
 |succ k ih=>
  intro sQ nZ AJ aH σ H f0 sl o h Q q0 q1;obtain⟨s9,s10⟩:=sl;unfold fZ at h;refine bB (fun K hK=>aI ?_);unfold ab7;obtain⟨e30,h⟩|⟨e30,h⟩:=aJ h
  ·obtain⟨e31,h⟩:=aX h;obtain⟨x32,e33,h⟩:=aj h;refine ak ?_;obtain⟨o46,h47,h⟩:=aj h;refine NP k sQ nZ (decide ((x32.length:Int)>15)) AJ _ _ _ (Fr.refl _ _) aA _ h47 _ ?_
   ·rintro p48 σ' eo aAo s52;rw [eo]at h;have s53:σ' 9=(.ah (sQ.map (bR Nd.cells)) AJ):=(aAo 9 (by decide)).trans aA;have s54:σ' 10=(.int .i64 nZ):=(aAo 10 (by decide)).trans aA;obtain⟨e55,h⟩|⟨e55,h⟩:=aJ h
    ·cases h;refine ak ?_;exact q1 _ _ rfl FJ aA
    ·refine ak ?_;refine hK _ _ ?_;exact ih sQ (IntKind.wrap .i64 (nZ+1)) AJ _ _ _ FJ aA _ h _ q0 q1
  ·cases h;refine ak ?_;exact q0 _ _ rfl bG
def cu:Nat->Int->Int->Int->Int->Int->Option (Unit⊕Bool)
 |0,_,_,_,_,_=>none
 |k+1,dY,dZ,d9,eu,tC=>
  cond (decide (tC<4)) (cond (tC==0) (if tC=0 then (dw dY (-100) 100).bind fun p70=>cond p70 (cu k dY dZ d9 eu (IntKind.wrap .i64 (tC+1))) (some (.inr (true)))else none) (cond (tC==1) (if tC=1 then (dw dZ (-100) 100).bind fun p75=>cond p75 (cu k dY dZ d9 eu (IntKind.wrap .i64 (tC+1))) (some (.inr (true)))else none) (cond (tC==2) (if tC=2 then (dw d9 (-100) 100).bind fun yK=>cond yK (cu k dY dZ d9 eu (IntKind.wrap .i64 (tC+1))) (some (.inr (true)))else none) (cond (tC==3) (if tC=3 then (dw eu (-100) 100).bind fun p85=>cond p85 (cu k dY dZ d9 eu (IntKind.wrap .i64 (tC+1))) (some (.inr (true)))else none) (none))))) (some (.inl ()))
def zW:List Nat:=[6,11]++List.range' 70 9
theorem NR: ∀(k:Nat) (iZ:Nat) (dY:Int) (dZ:Int) (d9:Int) (eu:Int) (tC:Int) (aH σ:Nat->PV) (H:AH) (f0:Fr zW aH σ) (sl:σ 8=(.ref (iZ) 0)/\σ 11=(.int .i64 tC)/\H.obj iZ=some [(.int .i64 dY),(.int .i64 dZ),(.int .i64 d9),(.int .i64 eu)]) (nL:iZ<H.next) (o:Unit⊕Bool) (h:cu k dY dZ d9 eu tC=some o) (Q:Post) (q0: ∀(p:Unit) (σ':Nat->PV),o= .inl p->Fr zW aH σ'->Q (.exit 2) σ' H) (q1: ∀(p:Bool) (σ':Nat->PV),o= .inr (p)->Fr zW aH σ'->(σ' 6=(.bool p))->Q .ret σ' H),W Tryz.prog (.loop ab8) Q σ H:=by
 intro k
 induction k with
 |zero=>intro iZ dY dZ d9 eu tC aH σ H f0 sl nL o h Q q0 q1;simp only [cu,reduceCtorEq]at h
 |succ k ih=>
  intro iZ dY dZ d9 eu tC aH σ H f0 sl nL o h Q q0 q1;obtain⟨s8,s11,ae5⟩:=sl;have ae6:=ne_next nL;have ae7:=bA nL;unfold cu at h;refine bB (fun K hK=>aI ?_);unfold ab8;obtain⟨e66,h⟩|⟨e66,h⟩:=aJ h
  ·obtain⟨e67,h⟩|⟨e67,h⟩:=aJ h
   ·obtain⟨e68,h⟩:=aX h;obtain⟨p70,e69,h⟩:=aj h;refine ak ?_;refine av (uV e69) ?_;obtain⟨e71,h⟩|⟨e71,h⟩:=aJ h
    ·refine ak ?_;refine hK _ _ ?_;exact ih iZ dY dZ d9 eu (IntKind.wrap .i64 (tC+1)) _ _ _ bG aA aY _ h _ q0 q1
    ·cases h;refine ak ?_;exact q1 _ _ rfl bG aA
   ·obtain⟨e72,h⟩|⟨e72,h⟩:=aJ h
    ·obtain⟨e73,h⟩:=aX h;obtain⟨p75,e74,h⟩:=aj h;refine ak ?_;refine av (uV e74) ?_;obtain⟨e76,h⟩|⟨e76,h⟩:=aJ h
     ·refine ak ?_;refine hK _ _ ?_;exact ih iZ dY dZ d9 eu (IntKind.wrap .i64 (tC+1)) _ _ _ bG aA aY _ h _ q0 q1
     ·cases h;refine ak ?_;exact q1 _ _ rfl bG aA
    ·obtain⟨e77,h⟩|⟨e77,h⟩:=aJ h
     ·obtain⟨e78,h⟩:=aX h;obtain⟨yK,e79,h⟩:=aj h;refine ak ?_;refine av (uV e79) ?_;obtain⟨e81,h⟩|⟨e81,h⟩:=aJ h
      ·refine ak ?_;refine hK _ _ ?_;exact ih iZ dY dZ d9 eu (IntKind.wrap .i64 (tC+1)) _ _ _ bG aA aY _ h _ q0 q1
      ·cases h;refine ak ?_;exact q1 _ _ rfl bG aA
     ·obtain⟨e82,h⟩|⟨e82,h⟩:=aJ h
      ·obtain⟨e83,h⟩:=aX h;obtain⟨p85,e84,h⟩:=aj h;refine ak ?_;refine av (uV e84) ?_;obtain⟨e86,h⟩|⟨e86,h⟩:=aJ h
       ·refine ak ?_;refine hK _ _ ?_;exact ih iZ dY dZ d9 eu (IntKind.wrap .i64 (tC+1)) _ _ _ bG aA aY _ h _ q0 q1
       ·cases h;refine ak ?_;exact q1 _ _ rfl bG aA
      ·cases h
  ·cases h;refine ak ?_;exact q0 _ _ rfl bG
def nO (Xh:Bool) (ae8:Int):Option (Unit⊕Bool):=
 cond (ae8 !=0) (some (.inr (true))) (cond Xh (some (.inl ())) (some (.inr (true))))
def zX:List Nat:=[6,89,90,91,92,93,94]
theorem NS: ∀(Xh:Bool) (ae8:Int) (aH σ:Nat->PV) (H:AH) (f0:Fr zX aH σ) (sl:σ 12=(.bool Xh)/\σ 13=(.int .i64 ae8)) (o:Unit⊕Bool) (h:nO Xh ae8=some o) (Q:Post) (q0: ∀(p:Unit) (σ':Nat->PV),o= .inl p->Fr zX aH σ'->Q .normal σ' H) (q1: ∀(p:Bool) (σ':Nat->PV),o= .inr (p)->Fr zX aH σ'->(σ' 6=(.bool p))->Q .ret σ' H),W Tryz.prog ab9 Q σ H:=by
 intro Xh ae8 aH σ H f0 sl o h Q q0 q1;obtain⟨s12,s13⟩:=sl;unfold nO at h;refine aI ?_;unfold ab9;obtain⟨aoh,h⟩|⟨aoh,h⟩:=aJ h
 ·cases h;refine ak ?_;exact q1 _ _ rfl bG aA
 ·obtain⟨aHP,h⟩|⟨aHP,h⟩:=aJ h
  ·cases h;refine ak ?_;exact q0 _ _ rfl bG
  ·cases h;refine ak ?_;exact q1 _ _ rfl bG aA
def gq:Nat->(List (List Nd))->Int->Int->Int->Int->Int->Option (Unit⊕Bool)
 |0,_,_,_,_,_,_=>none
 |k+1,aZ,dY,dZ,d9,eu,KR=>
  cond (decide (KR<(aZ.length:Int))) (if 0<=KR then (aZ[KR.toNat]?).bind fun aAp=>(wL k aAp (dY,dZ,d9,eu)).bind fun ac2=>cond ac2 (gq k aZ dY dZ d9 eu (IntKind.wrap .i64 (KR+1))) (some (.inr (true)))else none) (some (.inl ()))
def zY:List Nat:=[6,14]++List.range' 95 13
theorem NT: ∀(k:Nat) (iZ:Nat) (aZ:List (List Nd)) (dY:Int) (dZ:Int) (d9:Int) (eu:Int) (KR:Int) (aH σ:Nat->PV) (H:AH) (f0:Fr zY aH σ) (sl:σ 0=(.ah (aZ.map (bR Nd.cells)) .unk)/\σ 8=(.ref (iZ) 0)/\σ 14=(.int .i64 KR)/\H.obj iZ=some [(.int .i64 dY),(.int .i64 dZ),(.int .i64 d9),(.int .i64 eu)]) (nL:iZ<H.next) (o:Unit⊕Bool) (h:gq k aZ dY dZ d9 eu KR=some o) (Q:Post) (q0: ∀(p:Unit) (σ':Nat->PV),o= .inl p->Fr zY aH σ'->Q (.exit 4) σ' H) (q1: ∀(p:Bool) (σ':Nat->PV),o= .inr (p)->Fr zY aH σ'->(σ' 6=(.bool p))->Q .ret σ' H),W Tryz.prog (.loop acd) Q σ H:=by
 intro k
 induction k with
 |zero=>intro iZ aZ dY dZ d9 eu KR aH σ H f0 sl nL o h Q q0 q1;simp only [gq,reduceCtorEq]at h
 |succ k ih=>
  intro iZ aZ dY dZ d9 eu KR aH σ H f0 sl nL o h Q q0 q1;obtain⟨s0,s8,QN,ae5⟩:=sl;have ae6:=ne_next nL;have ae7:=bA nL;unfold gq at h;refine bB (fun K hK=>aI ?_);unfold acd;obtain⟨aoi,h⟩|⟨aoi,h⟩:=aJ h
  ·refine ak ?_;refine oH ?_;obtain⟨e125,h⟩:=aX h;obtain⟨aAp,e127,h⟩:=aj h;obtain⟨ac2,e128,h⟩:=aj h;refine ak ?_;refine av (aag e128) ?_;obtain⟨aHQ,h⟩|⟨aHQ,h⟩:=aJ h
   ·refine ak ?_;refine hK _ _ ?_;exact ih iZ aZ dY dZ d9 eu (IntKind.wrap .i64 (KR+1)) _ _ _ bG aA aY _ h _ q0 q1
   ·cases h;refine ak ?_;exact q1 _ _ rfl bG aA
  ·cases h;refine ak ?_;exact q0 _ _ rfl bG
def AL (k:Nat) (aZ:List (List Nd)) (x_1:Case) (eU:List Nd):Option Bool:=
 (AA k aZ).bind fun p2=>if(p2.length+1)*24<=1099511627776 then Option.bind (rz x_1.numbers (decide (((p2++[eU]).length:Int)>13))) (fun Bc=>cond Bc (some true) (Option.bind (fZ k (p2++[eU]) 0) (fun o=>Sum.elim (fun p58=>Option.bind (cu k x_1.values.1 x_1.values.2.1 x_1.values.2.2.1 x_1.values.2.2.2 0) (fun o=>Sum.elim (fun QJ=>(AA k aZ).bind fun p98=>(rV x_1.numbers).bind fun UM=>(tX k eU).bind fun aiS=>(kQ k p98 UM aiS).bind fun Pm=>Option.bind (nO Pm.1 Pm.2) (fun o=>Sum.elim (fun aHR=>Option.bind (gq k aZ x_1.values.1 x_1.values.2.1 x_1.values.2.2.1 x_1.values.2.2.2 0) (fun o=>Sum.elim (fun aHS=>(wL k eU x_1.values).bind fun aAq=>some aAq) (fun aiv=>some aiv) o)) (fun aAr=>some aAr) o)) (fun ac3=>some ac3) o)) (fun aiy=>some aiy) o)))else none
theorem U0 {k:Nat} {aZ:List (List Nd)} {x_1:Case} {eU:List Nd} {c0 c2:Ck} {r:Bool} (h:AL k aZ x_1 eU=some r):aG Tryz.prog 6 [(.ah (aZ.map (bR Nd.cells)) c0),(.agg (Case.cells x_1)),(.ah (eU.map Nd.cells) c2)] (.bool r):=by
 refine aG.lw (.ah (.same (.ah .nil))) (aG.bX (dJ.mem (.cons (bK (tN Nd.pu) _) (.cons (.agg _ (Case.pu _)) (.cons (bK Nd.pu _) .nil)))) (aL ok6 (by simp) (aI ?_)) (.bool _));unfold AL at h;unfold ac6;refine ak ?_;refine av (au7) ?_;refine ak ?_;refine agD (AH.empty.next+1) ?_;obtain⟨p2,e1,h⟩:=aj h;refine ak ?_;refine amu (NC e1) (fun c3 H4 ok5 le ob6 rl8=> ?_);have hf7:HF [] _ H4:=⟨le,fun i hi _=>ob6 i hi⟩;try simp only [AH.aN,AH.aO,AH.aS,AH.aT]at le
 have aMK:=ob6 (AH.empty.next) aY;have n161:=ne_next (show AH.empty.next<H4.next from aY);have aML:=bA (show AH.empty.next<H4.next from aY);have aMM:=ob6 (AH.empty.next+1) aY;have n164:=ne_next (show AH.empty.next+1<H4.next from aY);have aMN:=bA (show AH.empty.next+1<H4.next from aY);obtain⟨e13,h⟩:=aX h;refine ak ?_;refine gI (f:=(bR Nd.cells)) IG p2 ([eU]:List (List Nd)) c3 .exact aA aA eG (by first|exact e13|(simp only [I0,j0];exact e13)) (fun c9 VG aGa le anU aGb=> ?_);have OQ:HF [] _ VG:=⟨le,fun i _ _=>anU i⟩;try simp only [AH.aN,AH.aO,AH.aS,AH.aT]at le
 have n167:=ne_next (show AH.empty.next<VG.next from aY);have aMO:=bA (show AH.empty.next<VG.next from aY);have n169:=ne_next (show AH.empty.next+1<VG.next from aY);have aMP:=bA (show AH.empty.next+1<VG.next from aY);refine ak ?_;obtain⟨o17,h18,h⟩:=aj h;refine NM x_1.numbers (decide (((p2++[eU]).length:Int)>13)) _ _ _ (Fr.refl _ _) aA _ h18 _ ?_
 ·rintro Bc σ' eo ae9 s23;rw [eo]at h;have s24:σ' 0=(.ah (aZ.map (bR Nd.cells)) .unk):=(ae9 0 (by decide)).trans aA;have s25:σ' 2=(.ah (eU.map Nd.cells) .unk):=(ae9 2 (by decide)).trans aA;have s26:σ' 7=(.ah (x_1.numbers.map aK) .unk):=(ae9 7 (by decide)).trans aA;have s27:σ' 8=(.ref (AH.empty.next+1) 0):=(ae9 8 (by decide)).trans aA;have s28:σ' 9=(.ah ((p2++[eU]).map (bR Nd.cells)) c9):=(ae9 9 (by decide)).trans aA;obtain⟨e29,h⟩|⟨e29,h⟩:=aJ h
  ·cases h;refine ak ?_;exact(.pure _ (.bool _))
  ·refine ak ?_;obtain⟨o56,h57,h⟩:=aj h;refine NQ k (p2++[eU]) 0 c9 _ _ _ (Fr.refl _ _) aA _ h57 _ ?_ ?_
   ·rintro p58 σ' eo Ut;subst eo;rw [eH]at h;have s62:σ' 0=(.ah (aZ.map (bR Nd.cells)) .unk):=(Ut 0 (by decide)).trans aA;have s63:σ' 2=(.ah (eU.map Nd.cells) .unk):=(Ut 2 (by decide)).trans aA;have s64:σ' 7=(.ah (x_1.numbers.map aK) .unk):=(Ut 7 (by decide)).trans aA;have s65:σ' 8=(.ref (AH.empty.next+1) 0):=(Ut 8 (by decide)).trans aA;refine ak ?_;obtain⟨o87,h88,h⟩:=aj h;refine NR k (AH.empty.next+1) x_1.values.1 x_1.values.2.1 x_1.values.2.2.1 x_1.values.2.2.2 0 _ _ _ (Fr.refl _ _) aA aY _ h88 _ ?_ ?_
    ·rintro QJ σ' eo ajM;subst eo;rw [eH]at h;have s93:σ' 0=(.ah (aZ.map (bR Nd.cells)) .unk):=(ajM 0 (by decide)).trans aA;have s94:σ' 2=(.ah (eU.map Nd.cells) .unk):=(ajM 2 (by decide)).trans aA;have s95:σ' 7=(.ah (x_1.numbers.map aK) .unk):=(ajM 7 (by decide)).trans aA;have s96:σ' 8=(.ref (AH.empty.next+1) 0):=(ajM 8 (by decide)).trans aA;obtain⟨p98,e97,h⟩:=aj h;refine ak ?_;refine amu (NC e97) (fun c99 afa aLf le ajN aDg=> ?_);have aLg:HF [] _ afa:=⟨le,fun i hi _=>ajN i hi⟩;try simp only [AH.aN,AH.aO,AH.aS,AH.aT]at le
     obtain⟨ah4,aLh⟩:=aDg c9 eG;have aMQ:=ajN (AH.empty.next) aY;have n171:=ne_next (show AH.empty.next<afa.next from aY);have aMR:=bA (show AH.empty.next<afa.next from aY);have aMS:=ajN (AH.empty.next+1) aY;have n174:=ne_next (show AH.empty.next+1<afa.next from aY);have aMT:=bA (show AH.empty.next+1<afa.next from aY);obtain⟨UM,O5,h⟩:=aj h;refine ak ?_;refine av (QK O5) ?_;obtain⟨aiS,e109,h⟩:=aj h;refine ak ?_;refine av (QL e109) ?_;obtain⟨Pm,aog,h⟩:=aj h;refine ak ?_;refine av (Nv aog) ?_;refine ak ?_;obtain⟨aMU,h116,h⟩:=aj h;refine NS Pm.1 Pm.2 _ _ _ (Fr.refl _ _) aA _ h116 _ ?_ ?_
     ·rintro aHR σ' eo ajO;subst eo;rw [eH]at h;have aGm:σ' 0=(.ah (aZ.map (bR Nd.cells)) .unk):=(ajO 0 (by decide)).trans aA;have aMV:σ' 2=(.ah (eU.map Nd.cells) .unk):=(ajO 2 (by decide)).trans aA;have aMW:σ' 8=(.ref (AH.empty.next+1) 0):=(ajO 8 (by decide)).trans aA;refine ak ?_;obtain⟨aMX,aoQ,h⟩:=aj h;refine NT k (AH.empty.next+1) aZ x_1.values.1 x_1.values.2.1 x_1.values.2.2.1 x_1.values.2.2.2 0 _ _ _ (Fr.refl _ _) aA aY _ aoQ _ ?_ ?_
      ·rintro aHS σ' eo asO;subst eo;rw [eH]at h;have aGv:σ' 2=(.ah (eU.map Nd.cells) .unk):=(asO 2 (by decide)).trans aA;have aGw:σ' 8=(.ref (AH.empty.next+1) 0):=(asO 8 (by decide)).trans aA;obtain⟨aAq,aHT,h⟩:=aj h;refine ak ?_;refine av (aag aHT) ?_;cases h;refine ak ?_;exact(.pure _ (.bool _))
      ·rintro aiv σ' eo aLi aMY;subst eo;rw [fP]at h;cases h;refine ak ?_;exact(.pure _ (.bool _))
     ·rintro aAr σ' eo aLj aMZ;subst eo;rw [fP]at h;cases h;refine ak ?_;exact(.pure _ (.bool _))
    ·rintro ac3 σ' eo aLk aM0;subst eo;rw [fP]at h;cases h;refine ak ?_;exact(.pure _ (.bool _))
   ·rintro aiy σ' eo aLl aM1;subst eo;rw [fP]at h;cases h;refine ak ?_;exact(.pure _ (.bool _))
end Go.VL
end
section
namespace Go.VL
open Tm
structure Upe (e:List Nd):Prop where
 len:e.length<=1048576
 nd: ∀(i:Nat) n,e[i]? =some n->n.names.length<=1048576/\n.args.length<=1048576
theorem afb {e:List Nd} (hL:Upe e):Ev (fun k=>tX k e) e:=by
 have hlen:=hL.len;have key: ∀i,i<=e.length->Ev (fun k=>kJ k e (e.take i) (i:Int)) e:=by
  refine down ?_ fun i hi ih=> ?_
  · refine Ev.succ ?_;simp only [kJ];exact Ev.cF (eD _) (Ev.some' (by simp))
  · refine Ev.succ ?_;obtain⟨h2,h3⟩:=hL.nd i _ (aP hi);have e1:jX e[i].names=some e[i].names:=by
     unfold jX;rw [if_pos (by simp;omega)];rfl
    have e2:rV e[i].args=some e[i].args:=by
     unfold rV;rw [if_pos (by simp;omega)];rfl
    have e3:((e.take i).length+1)*80<=1099511627776:=by rw [P3];omega
    simp only [kJ,V0,aP hi,W0,nn,A0,fC hi,S1,bW hi (show e.length<=1099511627776 by omega),e1,e2,if_pos e3];rw [<-M2 hi];exact ih
 unfold tX;exact Ev.bind (key 0 (N3 _)) Ev.some
theorem aaQ {l:List (List Nd)} (h: ∀x∈l,Ev (fun k=>tX k x) x) (hl:l.length<=1048576):Ev (fun k=>AA k l) l:=by
 have key: ∀acc:List (List Nd),acc.length+(l.drop 0).length<=1048576->Ev (fun k=>mg k l acc ((0:Nat):Int)) (acc++l.drop 0):=by
  refine eO (len:=l.length) (p:=fun i=> ∀acc:List (List Nd),acc.length+(l.drop i).length<=1048576->Ev (fun k=>mg k l acc (i:Int)) (acc++l.drop i)) ?_ fun i hi ih=> ?_
  · intro acc ha;refine Ev.succ ?_;simp only [mg];exact Ev.cF (eD _) (Ev.some' (by simp))
  · intro acc ha;rw [drop_cons hi]at ha⊢;simp only [I0]at ha;refine Ev.succ ?_;simp only [mg,V0,aP hi,W0,nn,A0,fC hi,S1,bW hi (show l.length<=1099511627776 by omega)];refine Ev.bind (h _ (L3 hi)) (Ev.jv (by omega) ((ih (acc++[l[i]]) ?_).to ?_))
    · simp only [X1,I0,j0];omega
    · simp
 unfold AA;exact Ev.bind (key [] (by simpa using hl)) (Ev.some' (by simp))
structure Ask (x:List Nd):Prop where
 few:yE x=true
 gd:Gd x
 ar: ∀t,x=flat 0 t->(t.root.kind=2/\t.root.text=[70,65,76,83,69])\/Ar t
theorem apk {l:List (List Nd)} {i:Nat} {x:List Nd} (hx:l[i]? =some x): ∃b,Ev (fun k=>rA k l (i:Int) (decide ((x.length:Int)>15))) b/\(b=false->Ask x):=by
 unfold rA;simp only [V0,hx,W0,nn,A0];by_cases h15:(x.length:Int)>15
 · exact⟨true,Ev.cT (g0 h15) Ev.some,fun h=>by cases h⟩
 have go: ∀b,Ev (fun k=>(JX k x).bind fun p39=>cond p39 ((yL k x).bind fun p42=>cond (p42 !=0) (some (true)) ((kM k x).bind fun p45=>some ((!p45)))) (some (true))) b->Ev (fun k=>cond (decide ((x.length:Int)>15)) (some true) ((JX k x).bind fun p39=>cond p39 ((yL k x).bind fun p42=>cond (p42 !=0) (some (true)) ((kM k x).bind fun p45=>some ((!p45)))) (some (true)))) b:=fun b hb=>Ev.cF (B0 h15) hb;cases hf:yE x with
 |false=>exact⟨true,go _ (Ev.bind (Uy x) (Ev.cF hf Ev.some)),fun h=>by cases h⟩
 |true=>
  obtain⟨c,_,e1,e2⟩:=aei hf;by_cases hc:c=0
  case neg=>exact⟨true,go _ (Ev.bind (Uy x) (Ev.cT hf (Ev.bind e1 (Ev.cT (by rw [S5];exact hc) Ev.some)))),fun h=>by cases h⟩
  have hg:=e2 hc;obtain⟨t,rfl⟩:=hg.val.tree;have hs: ∀t',flat 0 t=flat 0 t'->t'.size<=15:=by
   intro t' e;rw [e,bn]at h15;omega
  obtain⟨r,r1,r2⟩:=aeY hg (hs t rfl);refine⟨!r,go _ (Ev.bind (Uy _) (Ev.cT hf (Ev.bind e1 (Ev.cF (by rw [hc];rfl) (Ev.bind r1 Ev.some))))),fun h=>⟨hf,hg,fun t' e=> ?_⟩⟩;rw [e]at hg r1;obtain⟨r',s1,s2⟩:=aeY hg (hs t' e);have:=Ev.uniq r1 s1;subst this;exact s2 (by simpa using h)
theorem apl {l:List (List Nd)} (hl:l.length<=1000): ∃o,Ev (fun k=>fZ k l ((0:Nat):Int)) o/\((o= .inl ()/\ ∀x∈l.drop 0,Ask x)\/o= .inr true):=by
 refine eO (len:=l.length) (p:=fun i=> ∃o,Ev (fun k=>fZ k l (i:Int)) o/\((o= .inl ()/\ ∀x∈l.drop i,Ask x)\/o= .inr true)) ?_ fun i hi ih=> ?_
 · refine⟨.inl (),Ev.succ ?_,.inl ⟨rfl,fun x hx=>by simp at hx⟩⟩;simp only [fZ];exact Ev.cF (eD _) Ev.some
 · obtain⟨b,hb,hok⟩:=apk (aP hi);have go: ∀o,Ev (fun k=>cond b (some (.inr true)) (fZ k l (IntKind.wrap .i64 ((i:Int)+1)))) o->Ev (fun k=>fZ k l (i:Int)) o:=by
    intro o ho;refine Ev.succ ?_;simp only [fZ,V0,aP hi,W0,nn,A0,fC hi,S1];exact Ev.bind hb ho
   cases b with
   |true=>exact⟨.inr true,go _ (Ev.cT rfl Ev.some),.inr rfl⟩
   |false=>
    obtain⟨o,ho,hd⟩:=ih;refine⟨o,go o (Ev.cF rfl ?_),hd.imp (fun⟨h1,h2⟩=>⟨h1,fun x hx=> ?_⟩) id⟩
    · simp only [bW hi (show l.length<=1099511627776 by omega)];exact ho
    · rw [drop_cons hi]at hx;rcases M1.1 hx with rfl|hx
      · exact hok rfl
      · exact h2 x hx
theorem apm (v:V4): ∃o,Ev (fun k=>cu k v.1 v.2.1 v.2.2.1 v.2.2.2 0) o/\((o= .inl ()/\Sm4 v)\/o= .inr true):=by
 have st: ∀(i j x:Int) (p:Prop),(∀o,Ev (fun k=>cond (decide (-100<=x/\x<=100)) (cu k v.1 v.2.1 v.2.2.1 v.2.2.2 j) (some (.inr true))) o->Ev (fun k=>cu k v.1 v.2.1 v.2.2.1 v.2.2.2 i) o)->
  (∃o,Ev (fun k=>cu k v.1 v.2.1 v.2.2.1 v.2.2.2 j) o/\((o= .inl ()/\p)\/o= .inr true))-> ∃o,Ev (fun k=>cu k v.1 v.2.1 v.2.2.1 v.2.2.2 i) o/\((o= .inl ()/\x.natAbs<=100/\p)\/o= .inr true):=by
  intro i j x p go ⟨o,ho,hd⟩;by_cases h: -100<=x/\x<=100
  · exact⟨o,go _ (Ev.cT (g0 h) ho),hd.imp (fun⟨a,b⟩=>⟨a,by omega,b⟩) id⟩
  · exact⟨_,go _ (Ev.cF (B0 h) Ev.some),.inr rfl⟩
 have w1:IntKind.wrap .i64 ((0:Int)+1)=1:=by decide
 have w2:IntKind.wrap .i64 ((1:Int)+1)=2:=by decide
 have w3:IntKind.wrap .i64 ((2:Int)+1)=3:=by decide
 have w4:IntKind.wrap .i64 ((3:Int)+1)=4:=by decide
 have r0:=st 0 1 v.1 _ (fun o ho=>Ev.succ (by simp only [cu,jE,W0,w1];exact Ev.cT rfl (Ev.cT rfl (Ev.jv trivial ho))))
  (st 1 2 v.2.1 _ (fun o ho=>Ev.succ (by simp only [cu,jE,W0,w2];exact Ev.cT rfl (Ev.cF rfl (Ev.cT rfl (Ev.jv trivial ho)))))
   (st 2 3 v.2.2.1 _ (fun o ho=>Ev.succ (by simp only [cu,jE,W0,w3];exact Ev.cT rfl (Ev.cF rfl (Ev.cF rfl (Ev.cT rfl (Ev.jv trivial ho))))))
    (st 3 4 v.2.2.2 True (fun o ho=>Ev.succ (by simp only [cu,jE,W0,w4];exact Ev.cT rfl (Ev.cF rfl (Ev.cF rfl (Ev.cF rfl (Ev.cT rfl (Ev.jv trivial ho)))))))
     ⟨_,Ev.succ (by simp only [cu];exact Ev.cF rfl Ev.some),.inl ⟨rfl,trivial⟩⟩)))
 obtain⟨o,ho,hd⟩:=r0;exact⟨o,ho,hd.imp (fun⟨a,b,c,d,e,_⟩=>⟨a,b,c,d,e⟩) id⟩
theorem afc {v:V4} {t:Tm} (hg:Gd (flat 0 t)) (h:t.root.kind=2/\t.root.text=[70,65,76,83,69]):Ev (fun k=>wL k (flat 0 t) v) false:=by
 obtain⟨x,cs⟩:=t;have hs:=(wJ hg).1;have hz:sizes cs<=1000000:=by simp only [size]at hs;omega
 unfold wL;simp only [Er hz,W0];refine Ev.cT ?_ Ev.some;rw [show x.kind=2 from h.1,show x.text=[70,65,76,83,69]from h.2];rfl
theorem apn {v:V4} (hv:Sm4 v) {l:List (List Nd)} (hl:l.length<=1000) (ha: ∀x∈l,Ask x): ∃o,Ev (fun k=>gq k l v.1 v.2.1 v.2.2.1 v.2.2.2 ((0:Nat):Int)) o/\((o= .inl ()/\ ∀x∈l.drop 0,∀t,x=flat 0 t->Ar t/\Holds (qD v) t)\/o= .inr true):=by
 refine eO (len:=l.length) (p:=fun i=> ∃o,Ev (fun k=>gq k l v.1 v.2.1 v.2.2.1 v.2.2.2 (i:Int)) o/\((o= .inl ()/\ ∀x∈l.drop i,∀t,x=flat 0 t->Ar t/\Holds (qD v) t)\/o= .inr true)) ?_ fun i hi ih=> ?_
 · refine⟨.inl (),Ev.succ ?_,.inl ⟨rfl,fun x hx=>by simp at hx⟩⟩;simp only [gq];exact Ev.cF (eD _) Ev.some
 · have hA:=ha _ (L3 hi);have key: ∃b,Ev (fun k=>wL k l[i] v) b/\(b=true-> ∀t,l[i]=flat 0 t->Ar t/\Holds (qD v) t):=by
    have hg:=hA.gd;obtain⟨t,e⟩:=hg.val.tree;rw [e]at hg;rcases hA.ar t e with hf|hr
    · exact⟨false,by rw [e];exact afc hg hf,fun h=>by cases h⟩
    · obtain⟨b,b1,b2⟩:=UZ hv hr;refine⟨b,by rw [e];exact b1,fun hb t' e'=> ?_⟩;rw [e]at e';have hg':=hg;rw [e']at b1 hg';rcases hA.ar t' (e.trans e')with hf|hr'
      · have:=Ev.uniq b1 (afc hg' hf);rw [this]at hb;cases hb
      · obtain⟨b',c1,c2⟩:=UZ hv hr';have:=Ev.uniq b1 c1;subst this;exact⟨hr',c2.1 hb⟩
   obtain⟨b,hb,hok⟩:=key;have go: ∀o,Ev (fun k=>cond b (gq k l v.1 v.2.1 v.2.2.1 v.2.2.2 (IntKind.wrap .i64 ((i:Int)+1))) (some (.inr true))) o->Ev (fun k=>gq k l v.1 v.2.1 v.2.2.1 v.2.2.2 (i:Int)) o:=by
    intro o ho;refine Ev.succ ?_;simp only [gq,V0,aP hi,W0,nn,A0,fC hi,S1];exact Ev.bind hb ho
   cases b with
   |false=>exact⟨.inr true,go _ (Ev.cF rfl Ev.some),.inr rfl⟩
   |true=>
    obtain⟨o,ho,hd⟩:=ih;refine⟨o,go o (Ev.cT rfl ?_),hd.imp (fun⟨h1,h2⟩=>⟨h1,fun x hx=> ?_⟩) id⟩
    · simp only [bW hi (show l.length<=1099511627776 by omega)];exact ho
    · rw [drop_cons hi]at hx;rcases M1.1 hx with rfl|hx
      · exact hok rfl
      · exact h2 x hx
theorem Qy {l:List (List Nd)} {x:Case} {g:List Nd} (hl:l.length<=1048576) (hu: ∀e∈l,Upe e):Ev (fun k=>AL k l x g) true:=by
 have o1:=aaQ (fun e he=>afb (hu e he)) hl;unfold AL;refine Ev.bind o1 (Ev.jv (by omega) ?_);have hp:rz x.numbers (decide (((l++[g]).length:Int)>13))=some (decide (((l++[g]).length:Int)>13)||decide ((x.numbers.length:Int)>13)):=by
  unfold rz;cases decide (((l++[g]).length:Int)>13)<;>rfl
 simp only [hp,W0];cases hb:(decide (((l++[g]).length:Int)>13)||decide ((x.numbers.length:Int)>13))with
 |true=>exact Ev.cT rfl Ev.some
 |false=>
 rw [A6,E6,E6]at hb;obtain⟨hb1,hb2⟩:=hb;have hlen:(l++[g]).length=l.length+1:=by simp
 refine Ev.cF rfl ?_;obtain⟨o,ho,hd⟩:=apl (l:=l++[g]) (by omega);refine Ev.bind ho ?_;rcases hd with⟨rfl,hA⟩|rfl
 case inr=>exact Ev.some
 rw [P1]at hA;have hAl: ∀e∈l,Ask e:=fun e he=>hA e (N4 _ he);have hAg:Ask g:=hA g (T5 _ (P0.2 rfl));obtain⟨o,ho,hd⟩:=apm x.values;refine Ev.bind ho ?_;rcases hd with⟨rfl,hv⟩|rfl
 case inr=>exact Ev.some
 have oi:rV x.numbers=some x.numbers:=by
  unfold rV;rw [if_pos (by simp only [j0];omega)];rfl
 refine Ev.bind o1 ?_;simp only [oi,W0];refine Ev.bind (adC (ET hAg.few)) ?_;have hj: ∀b:Bool,nO b 0=some (if b=true then .inl ()else .inr true):=fun b=>by cases b<;>rfl
 rcases fby (l:=l) (ns:=x.numbers) (g:=g) (fun e he=>(hAl e he).few) hAg.few (by omega) (by omega)with⟨d,d0,f1,_⟩|⟨r,f1,_,_,ts,t,e1,e2,g1,g2,f4⟩
 · refine Ev.bind f1 ?_;have:nO false d=some (.inr true):=by
    unfold nO;rw [show(d !=0)=true by rw [S5];exact d0];rfl
   simp only [this,W0];exact Ev.some
 · refine Ev.bind f1 ?_;simp only [hj,W0];cases r with
   |false=>exact Ev.some
   |true=>
    obtain⟨o,ho,hd⟩:=apn hv (l:=l) (by omega) hAl;refine Ev.bind ho ?_;rcases hd with⟨rfl,hH⟩|rfl
    case inr=>exact Ev.some
    rw [P1]at hH;subst e1;subst e2;rw [J1]at hlen;have hT: ∀s∈ts,Ar s/\Holds (qD x.values) s:=fun s hs=>hH _ (List.mem_map_of_mem hs) s rfl;have hfin:=lin (qD x.values) (f4 rfl) (by omega) (fun s hs=>amq hv (hT s hs).1) (fun s hs=>(hT s hs).2) fun hk=>by
     rcases hAg.ar t rfl with hf|hr
     · exact absurd hf.1 hk
     · exact amq hv hr
    rcases hAg.ar t rfl with hf|hr
    · exfalso;obtain⟨y,a,b,e,_⟩:=hfin;subst e;have:=YW g2 (.inr hf.1);cases this
    · obtain⟨b,b1,b2⟩:=UZ hv hr;refine Ev.bind b1 (Ev.some' (b2.2 hfin))
end Go.VL
end
section
namespace Go.VL
theorem U1 {α:Type} {f:α->List PV}: ∀{l:List α} {x:α},x∈l->mG (f x)<=Gj (l.map f)
 |y::l,x,h=>by
  rw [M3,Gj];rcases M1.1 h with rfl|h
  · omega
  · have:=U1 (f:=f) h;omega
theorem JF {α:Type} {f:α->List PV} (hf: ∀x,1<=mG (f x)): ∀l:List α,l.length<=Gj (l.map f)
 |[]=>R0 _
 |y::l=>by
  rw [M3,Gj,I0];have:=JF hf l;have:=hf y;omega
theorem afd {α:Type} (f:α->List PV) (l:List α):mG (bR f l)=Gj (l.map f)+1:=by simp [bR,mG,bk]
theorem amx (x:Nd):mG x.cells=Gj (x.names.map aF)+Gj (x.args.map aK)+5:=by simp [Nd.je,mG,bk];omega
theorem aDh {l:List (List Nd)} (h:mG (bR (bR Nd.cells) l)<=1048576):l.length<=1048576/\ ∀e∈l,Upe e:=by
 rw [afd]at h;have h1:=JF (f:=bR Nd.cells) (fun x=>by rw [afd];omega) l;refine⟨by omega,fun e he=> ?_⟩;have h2:=U1 (f:=bR Nd.cells) he;rw [afd]at h2;have h3:=JF (f:=Nd.cells) (fun x=>by rw [amx];omega) e;refine⟨by omega,fun i n hn=> ?_⟩;have h4:=U1 (f:=Nd.cells) (B1 hn);rw [amx]at h4;have h5:=JF (f:=aF) (fun x=>by simp [aF,mG,bk]) n.names;have h6:=JF (f:=aK) (fun x=>by simp [aK,mG,bk]) n.args;exact⟨by omega,by omega⟩
end Go.VL
namespace Go.Proofs.YtpkbfdgohkakaaaGreatDoor.kernelLinear
open Go.VL
theorem Mi (l:List (List Nd)) (x:Case) (g:List Nd) (h0:mG (bR (bR Nd.cells) l)<=1048576) (h1:mG (Case.cells x)<=1048576) (h2:mG (bR Nd.cells g)<=1048576):aW Tryz.prog 6 [.ah (l.map (bR Nd.cells)) .unk,.agg (Case.cells x),.ah (g.map Nd.cells) .unk] AH.empty fun v _=>v= .bool true:=by
 obtain⟨hl,hu⟩:=aDh h0;obtain⟨k,hk⟩:=(Qy (x:=x) (g:=g) hl hu).get;exact aW.mono (U0 hk AH.empty) fun _ _ h=>h.1
theorem proved:Rows.KernelLinearUptoCardSaid:=card Mi
end Go.Proofs.YtpkbfdgohkakaaaGreatDoor.kernelLinear
end
