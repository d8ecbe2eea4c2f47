/- Part 11. -/
import Derived.Test.YtpkbfdgohkakaaaGreatDoorKd10
import Derived.Test.YtpkbfdgohkakaaaGreatDoorProg
import Derived.KernelRfl
set_option maxRecDepth 8000
set_option linter.unusedVariables false
set_option linter.unusedSectionVars false
set_option linter.unusedSimpArgs false
section
set_option maxHeartbeats 4000000
namespace Go.VL
open Go.Proofs
def zQ (aU:Int):Option Bool:=
 some (aU !=0)
instance auV (aU:Int):bY Tryz.prog 204 [(.int .i64 aU)] (zQ aU) (fun r=>(.bool r)):=bM aBJ (by unfold zQ aqt;exact bE)
def gG:Nat->(List Int)->Int->Int->Option (Unit⊕Int)
 |0,_,_,_=>none
 |k+1,s_0,jY,iD=>
  cond (decide (iD<jY)) (if 0<=iD then (s_0[iD.toNat]?).bind fun x3=>(zQ x3).bind fun p6=>cond p6 (some (.inr (iD))) (gG k s_0 jY (IntKind.wrap .i64 (iD+1)))else none) (some (.inl ()))
instance af8 (k:Nat): ∀(s_0:List Int) (jY:Int) (iD:Int),Lp Tryz.prog (.loop IJ) (gG k s_0 jY iD) [(4,6),(8,19)] [(0,(.ah (s_0.map aK) .unk)),(1,(.fn (.func 204) [] [])),(7,(.int .i64 jY)),(8,(.int .i64 iD))] (Sum.elim (fun p=>(.exit 0,[])) (fun p=>(.ret,[(4,(.int .i64 p))]))):=by
 induction k with
 |zero=>exact fun _ _ _=>rP rfl
 |succ k ih=>exact fun _ _ _=>rQ IJ.eq_1 (by unfold gG;exact bZ)
def vI (k:Nat) (s_0:List Int):Option Int:=
 Option.bind (gG k s_0 (s_0.length:Int) 0) (fun o=>Sum.elim (fun mH=>some (-1)) (fun nG=>some nG) o)
instance ajQ (k:Nat) (s_0:List Int):bY Tryz.prog 102 [(.ah (s_0.map aK) .unk),(.fn (.func 204) [] [])] (vI k s_0) (fun r=>(.int .i64 r)):=bM ah4 (by unfold vI ah3;exact bE)
def rM (k:Nat) (s_0:List Int):Option Bool:=
 (vI k s_0).bind fun p2=>some (decide (p2>=0))
instance af9 (k:Nat) (s_0:List Int):bY Tryz.prog 76 [(.ah (s_0.map aK) .unk),(.fn (.func 204) [] [])] (rM k s_0) (fun r=>(.bool r)):=bM awJ (by unfold rM anz;exact bE)
def mh (k:Nat) (zR:Fo):Option Bool:=
 cond zR.bad (some false) ((rM k zR.cs).bind fun p3=>some (!p3))
instance aeB (k:Nat) (zR:Fo):bY Tryz.prog 147 [(.agg (Fo.cells zR))] (mh k zR) (fun r=>(.bool r)):=bM aBj (by unfold mh ap2;exact bE)
theorem P8 {k:Nat} {zR:Fo} {r:Bool} (h:mh k zR=some r):aG Tryz.prog 147 [(.agg (Fo.cells zR))] (.bool r):=(aeB _ _).c _ h
def Cz (k:Nat) (zR:Fo):Option Bool:=
 (mh k zR).bind fun p2=>cond p2 (some (decide (zR.num<0))) (some false)
instance aEM (k:Nat) (zR:Fo):bY Tryz.prog 146 [(.agg (Fo.cells zR))] (Cz k zR) (fun r=>(.bool r)):=bM aBi (by unfold Cz ap1;exact bE)
def wV:Nat->(List Nd)->Int->Option Int
 |0,_,_=>none
 |k+1,au,cZ=>
  if 0<=cZ then (au[cZ.toNat]?).bind fun x2=>cond (decide ((x2.args.length:Int)>0)) ((x2.args[0]?).bind fun x5=>wV k au x5) (some (cZ))else none
def WL:List Nat:=[5]++List.range' 13 14
theorem aga: ∀(k:Nat) (au:List Nd) (cZ:Int) (aH σ:Nat->PV) (H:AH) (f0:Fr WL aH σ) (sl:σ 0=(.ah (au.map Nd.cells) .unk)/\σ 5=(.int .i64 cZ)) (o:Int) (h:wV k au cZ=some o) (Q:Post) (q0: ∀(p:Int) (σ':Nat->PV),o=p->Fr WL aH σ'->(σ' 5=(.int .i64 p))->Q (.exit 0) σ' H),W Tryz.prog (.loop RO) Q σ H:=by
 intro k
 induction k with
 |zero=>intro au cZ aH σ H f0 sl o h Q q0;simp only [wV,reduceCtorEq]at h
 |succ k ih=>
  intro au cZ aH σ H f0 sl o h Q q0;obtain⟨s0,s5⟩:=sl;unfold wV at h;refine bB (fun K hK=>aI ?_);unfold RO;obtain⟨e1,h⟩:=aX h;obtain⟨x2,e3,h⟩:=aj h;obtain⟨e4,h⟩|⟨e4,h⟩:=aJ h
  ·obtain⟨x5,e6,h⟩:=aj h;refine ak ?_;refine hK _ _ ?_;exact ih au x5 _ _ _ bG aA _ h _ q0
  ·cases h;refine ak ?_;exact q0 _ _ rfl bG aA
def uK:Nat->Int->(List Int)->(List Int)->Int->Int->Option (List Int)
 |0,_,_,_,_,_=>none
 |k+1,cZ,Bw,El,EO,KP=>
  cond (decide (KP<EO)) (if 0<=KP then (El[KP.toNat]?).bind fun x23=>if(Bw.length+1)*8<=1099511627776 then uK k cZ (Bw++[(IntKind.wrap .i64 (x23 -cZ))]) El EO (IntKind.wrap .i64 (KP+1))else none else none) (some (Bw))
def WM:List Nat:=[9,11]++List.range' 40 11
theorem agb: ∀(k:Nat) (cZ:Int) (Bw:List Int) (El:List Int) (EO:Int) (KP:Int) (vE:Ck) (mV:Ck) (aH σ:Nat->PV) (H0 H:AH) (f0:Fr WM aH σ) (hf0:HF [] H0 H) (sl:σ 5=(.int .i64 cZ)/\σ 9=(.ah (Bw.map aK) vE)/\σ 38=(.ah (El.map aK) .unk)/\σ 39=(.int .i64 EO)/\σ 40=(.int .i64 KP)) (Z8:aR H vE) (Ed:aR H mV) (vF:ku vE mV) (o:List Int) (h:uK k cZ Bw El EO KP=some o) (Q:Post) (q0: ∀(p:List Int) (c0:Ck) (σ':Nat->PV) (H':AH),o=p->Fr WM aH σ'->HF [] H0 H'->(σ' 9=(.ah (p.map aK) c0))->aR H' mV->Q (.exit 4) σ' H'),W Tryz.prog (.loop RP) Q σ H:=by
 intro k
 induction k with
 |zero=>intro cZ Bw El EO KP vE mV aH σ H0 H f0 hf0 sl Z8 Ed vF o h Q q0;simp only [uK,reduceCtorEq]at h
 |succ k ih=>
  intro cZ Bw El EO KP vE mV aH σ H0 H f0 hf0 sl Z8 Ed vF o h Q q0;obtain⟨s5,s9,s38,s39,s40⟩:=sl;have hle0:=hf0.1;unfold uK at h;refine bB (fun K hK=>aI ?_);unfold RP;obtain⟨e21,h⟩|⟨e21,h⟩:=aJ h
  ·obtain⟨e22,h⟩:=aX h;obtain⟨x23,e24,h⟩:=aj h;obtain⟨e29,h⟩:=aX h;refine ak ?_;refine gI (f:=aK) tJ Bw ([(IntKind.wrap .i64 (x23 -cZ))]:List Int) vE .exact aA aA eG (by first|exact e29|(simp only [I0,j0];exact e29)) (fun c25 H26 anw le aHv aHw=> ?_);have aMC:HF [] _ H26:=⟨le,fun i _ _=>aHv i⟩;try simp only [AH.aN,AH.aO,AH.aS,AH.aT]at le
   obtain⟨awv,aHx⟩:=aHw mV eG vF;refine ak ?_;refine hK _ _ ?_;exact ih cZ (Bw++[(IntKind.wrap .i64 (x23 -cZ))]) El EO (IntKind.wrap .i64 (KP+1)) c25 mV _ _ _ _ bG II aA eG eG aHx _ h _ q0
  ·cases h;refine ak ?_;exact q0 _ vE _ _ rfl bG yH aA eG
def wW:Nat->Int->(List Nd)->(List Nd)->Int->Int->Option (List Nd)
 |0,_,_,_,_,_=>none
 |k+1,cZ,nJ,M6,M7,Jy=>
  cond (decide (Jy<M7)) (if 0<=Jy then (M6[Jy.toNat]?).bind fun vR=>Option.bind (uK k cZ ([]:List Int) vR.args (vR.args.length:Int) 0) (fun p36=>if vR.names.length<=1000000 then if(nJ.length+1)*80<=1099511627776 then wW k cZ (nJ++[(Nd.mk vR.kind vR.n vR.text (vR.names) p36)]) M6 M7 (IntKind.wrap .i64 (Jy+1))else none else none)else none) (some (nJ))
def WQ:List Nat:=[6,8,9,11]++List.range' 33 29
theorem agc: ∀(k:Nat) (cZ:Int) (nJ:List Nd) (M6:List Nd) (M7:Int) (Jy:Int) (uL:Ck) (aH σ:Nat->PV) (H0 H:AH) (f0:Fr WQ aH σ) (hf0:HF [] H0 H) (sl:σ 5=(.int .i64 cZ)/\σ 6=(.ah (nJ.map Nd.cells) uL)/\σ 31=(.ah (M6.map Nd.cells) .unk)/\σ 32=(.int .i64 M7)/\σ 33=(.int .i64 Jy)) (Jo:aR H uL) (o:List Nd) (h:wW k cZ nJ M6 M7 Jy=some o) (Q:Post) (q0: ∀(p:List Nd) (c0:Ck) (σ':Nat->PV) (H':AH),o=p->Fr WQ aH σ'->HF [] H0 H'->(σ' 6=(.ah (p.map Nd.cells) c0))->Q (.exit 2) σ' H'),W Tryz.prog (.loop RQ) Q σ H:=by
 intro k
 induction k with
 |zero=>intro cZ nJ M6 M7 Jy uL aH σ H0 H f0 hf0 sl Jo o h Q q0;simp only [wW,reduceCtorEq]at h
 |succ k ih=>
  intro cZ nJ M6 M7 Jy uL aH σ H0 H f0 hf0 sl Jo o h Q q0;obtain⟨s5,s6,s31,s32,s33⟩:=sl;have hle0:=hf0.1;unfold wW at h;refine bB (fun K hK=>aI ?_);unfold RQ;obtain⟨e17,h⟩|⟨e17,h⟩:=aJ h
  ·obtain⟨e18,h⟩:=aX h;obtain⟨vR,e20,h⟩:=aj h;refine ak ?_;obtain⟨o34,h35,h⟩:=aj h;refine agb k cZ ([]:List Int) vR.args (vR.args.length:Int) 0 .nil uL _ _ _ _ (Fr.refl _ _) (HF.refl _ _) aA eG eG ku.nil _ h35 _ ?_
   ·rintro p36 c40 σ' H39 eo YI az3 s41 aMD;rw [eo]at h;have s43:σ' 5=(.int .i64 cZ):=(YI 5 (by decide)).trans aA;have s44:σ' 6=(.ah (nJ.map Nd.cells) uL):=(YI 6 (by decide)).trans aA;have s45:σ' 8=(.ref (H.next) 0):=(YI 8 (by decide)).trans aA;have s46:σ' 31=(.ah (M6.map Nd.cells) .unk):=(YI 31 (by decide)).trans aA;have s47:σ' 32=(.int .i64 M7):=(YI 32 (by decide)).trans aA;have s48:σ' 33=(.int .i64 Jy):=(YI 33 (by decide)).trans aA;have le:=az3.1;try simp only [AH.aN,AH.aO,AH.aS,AH.aT]at le
    have g49:H39.obj (H.next)=some [(.int .i64 vR.kind),(.int .i64 vR.n),(.str vR.text),(.ah (vR.names.map aF) .unk),(.ah (vR.args.map aK) .unk)]:=(az3.2 _ aY (by first|exact D0|(simp only [M1,D0,B7,not_or];omega))).trans aA;have n50:=ne_next (show H.next<H39.next from aY);have m51:=bA (show H.next<H39.next from aY);obtain⟨e52,h⟩:=aX h;refine ak ?_;refine av (Ov vR.names (by assumption)) ?_;obtain⟨e57,h⟩:=aX h;refine ak ?_;refine gI (f:=Nd.cells) Nd.row nJ ([(Nd.mk vR.kind vR.n vR.text (vR.names) p36)]:List Nd) uL .exact aA aA eG (by first|exact e57|(simp only [I0,j0];exact e57)) (fun c53 H54 ayw le aHy aME=> ?_);have aMF:HF [] _ H54:=⟨le,fun i _ _=>aHy i⟩;try simp only [AH.aN,AH.aO,AH.aS,AH.aT]at le
    have n60:=ne_next (show H.next<H54.next from aY);have m61:=bA (show H.next<H54.next from aY);refine ak ?_;refine hK _ _ ?_;exact ih cZ (nJ++[(Nd.mk vR.kind vR.n vR.text (vR.names) p36)]) M6 M7 (IntKind.wrap .i64 (Jy+1)) c53 _ _ _ _ FJ II aA eG _ h _ q0
  ·cases h;refine ak ?_;exact q0 _ uL _ _ rfl bG yH aA
def wG (k:Nat) (au:List Nd) (dx:Int):Option (List Nd):=
 Option.bind (wV k au dx) (fun p9=>if 0<=p9/\p9<=(IntKind.wrap .i64 (dx+1))/\(IntKind.wrap .i64 (dx+1)).toNat<=au.length then Option.bind (wW k p9 ([]:List Nd) ((au.take (IntKind.wrap .i64 (dx+1)).toNat).drop p9.toNat) (((au.take (IntKind.wrap .i64 (dx+1)).toNat).drop p9.toNat).length:Int) 0) (fun p64=>some p64)else none)
theorem Jz {k:Nat} {au:List Nd} {dx:Int} {c0:Ck} {r:List Nd} (h:wG k au dx=some r):aG Tryz.prog 122 [(.ah (au.map Nd.cells) c0),(.int .i64 dx)] (.ah (r.map Nd.cells) .unk):=by
 refine aG.lw (.ah (.same .nil)) (aG.bX (dJ.mem (.cons (bK Nd.pu _) (.cons (.int _ _) .nil))) (aL aA6 (by simp) (aI ?_)) (bK Nd.pu _));unfold wG at h;unfold apQ;refine ak ?_;obtain⟨o7,h8,h⟩:=aj h;refine aga k au dx _ _ _ (Fr.refl _ _) aA _ h8 _ ?_
 ·rintro p9 σ' eo YJ s13;rw [eo]at h;have QN:σ' 0=(.ah (au.map Nd.cells) .unk):=(YJ 0 (by decide)).trans aA;have s15:σ' 1=(.int .i64 dx):=(YJ 1 (by decide)).trans aA;obtain⟨e16,h⟩:=aX h;refine ak ?_;obtain⟨o62,h63,h⟩:=aj h;refine agc k p9 ([]:List Nd) ((au.take (IntKind.wrap .i64 (dx+1)).toNat).drop p9.toNat) (((au.take (IntKind.wrap .i64 (dx+1)).toNat).drop p9.toNat).length:Int) 0 .nil _ _ _ _ (Fr.refl _ _) (HF.refl _ _) aA eG _ h63 _ ?_
  ·rintro p64 c68 σ' H67 eo aMG aHz s69;rw [eo]at h;have le:=aHz.1;try simp only [AH.aN,AH.aO,AH.aS,AH.aT]at le
   cases h;refine ak ?_;exact(jV Nd.pu _ _)
def P9 (au:List Nd):Option Nd:=
 if 0<=(IntKind.wrap .i64 ((au.length:Int) -1))then (au[(IntKind.wrap .i64 ((au.length:Int) -1)).toNat]?).bind fun x2=>some x2 else none
instance aoZ (au:List Nd):bY Tryz.prog 56 [(.ah (au.map Nd.cells) .unk)] (P9 au) (fun r=>(.agg (Nd.cells r))):=bM aFq (by unfold P9 awx;exact bE)
theorem aeC {au:List Nd} {c0:Ck} {r:Nd} (h:P9 au=some r):aG Tryz.prog 56 [(.ah (au.map Nd.cells) c0)] (.agg (Nd.cells r)):=((aoZ _).c _ h).wk (.ah .nil)
def EX (au:List Nd) (JA:Str):Option Bool:=
 (P9 au).bind fun p2=>cond (p2.kind==2) (some (p2.text==JA)) (some false)
theorem ajw {au:List Nd} {JA:Str} {c0:Ck} {r:Bool} (h:EX au JA=some r):aG Tryz.prog 145 [(.ah (au.map Nd.cells) c0),(.str JA)] (.bool r):=by
 refine aG.lw (.ah (.same .nil)) (aG.bX (dJ.mem (.cons (bK Nd.pu _) (.cons (.str _) .nil))) (aL aBh (by simp) (aI ?_)) (.bool _));unfold EX at h;unfold ap0;obtain⟨p2,e1,h⟩:=aj h;refine ak ?_;refine av (aeC e1) ?_;obtain⟨e3,h⟩|⟨e3,h⟩:=aJ h
 ·refine ak ?_;refine av (aeC e1) ?_;cases h;refine ak ?_;exact(.pure _ (.bool _))
 ·cases h;refine ak ?_;exact(.pure _ (.bool _))
instance aC6 (au:List Nd) (JA:Str):bY Tryz.prog 145 [(.ah (au.map Nd.cells) .unk),(.str JA)] (EX au JA) (fun r=>(.bool r)):=⟨fun _ h=>ajw h⟩
def pV (Hu:Int) (Hw:Int) (Em:Str) (Hy:List Str) (Hz:List Int) (aeD:Bool):Option Bool:=
 cond aeD (some ((Em==([45,46]:Str)))) (some (false))
theorem aaM: ∀(HV:Nat) (Hu:Int) (Hw:Int) (Em:Str) (Hy:List Str) (Hz:List Int) (aeD:Bool) (aH σ:Nat->PV) (H:AH) (f0:Fr [22,23,24,25] aH σ) (sl:σ 3=(.ref (HV) 0)/\σ 21=(.bool aeD)/\H.obj HV=some [(.int .i64 Hu),(.int .i64 Hw),(.str Em),(.ah (Hy.map aF) .unk),(.ah (Hz.map aK) .unk)]) (EY:HV<H.next) (o:Bool) (h:pV Hu Hw Em Hy Hz aeD=some o) (Q:Post) (q0: ∀(p:Bool) (σ':Nat->PV),o=p->Fr [22,23,24,25] aH σ'->(σ' 25=(.bool p))->Q .normal σ' H),eZ Tryz.prog Tf (Q .normal) σ H:=by
 intro HV Hu Hw Em Hy Hz aeD aH σ H f0 sl EY o h Q q0;obtain⟨s3,s21,auW⟩:=sl;have auX:=ne_next EY;have auY:=bA EY;unfold pV at h;refine oG ?_;unfold Tf;obtain⟨e5,h⟩|⟨e5,h⟩:=aJ h
 ·cases h;refine ak ?_;exact q0 _ _ rfl bG aA
 ·cases h;refine ak ?_;exact q0 _ _ rfl bG aA
def yx (k:Nat) (Hu:Int) (Hw:Int) (Em:Str) (Hy:List Str) (Hz:List Int) (El:Bool):Option Bool:=
 cond El ((bO k [([43]:Str),([45]:Str),([42]:Str)] Em).bind fun p27=>some (p27)) (some (false))
def Qa:List Nat:=[39,40,41,42,43]
theorem aaN (k:Nat): ∀(HV:Nat) (Hu:Int) (Hw:Int) (Em:Str) (Hy:List Str) (Hz:List Int) (El:Bool) (aH σ:Nat->PV) (H:AH) (f0:Fr Qa aH σ) (sl:σ 3=(.ref (HV) 0)/\σ 38=(.bool El)/\H.obj HV=some [(.int .i64 Hu),(.int .i64 Hw),(.str Em),(.ah (Hy.map aF) .unk),(.ah (Hz.map aK) .unk)]) (EY:HV<H.next) (o:Bool) (h:yx k Hu Hw Em Hy Hz El=some o) (Q:Post) (q0: ∀(p:Bool) (σ':Nat->PV),o=p->Fr Qa aH σ'->(σ' 43=(.bool p))->Q .normal σ' H),eZ Tryz.prog Tg (Q .normal) σ H:=by
 intro HV Hu Hw Em Hy Hz El aH σ H f0 sl EY o h Q q0;obtain⟨s3,s38,auW⟩:=sl;have auX:=ne_next EY;have auY:=bA EY;unfold yx at h;refine oG ?_;unfold Tg;obtain⟨e25,h⟩|⟨e25,h⟩:=aJ h
 ·obtain⟨p27,e26,h⟩:=aj h;refine ak ?_;refine av (jD e26) ?_;cases h;refine ak ?_;exact q0 _ _ rfl bG aA
 ·cases h;refine ak ?_;exact q0 _ _ rfl bG aA
def Bz (HY:List (List Nd)) (HZ:List Int) (Kt:Int) (Fx:Bool) (aeE:Bool):Option Bool:=
 cond aeE (some (true)) (some (Fx))
theorem aaO: ∀(abe:Nat) (HY:List (List Nd)) (HZ:List Int) (Kt:Int) (Fx:Bool) (aeE:Bool) (aH σ:Nat->PV) (H:AH) (f0:Fr [76,77,78] aH σ) (sl:σ 5=(.ref (abe) 0)/\σ 75=(.bool aeE)/\H.obj abe=some [(.ah (HY.map (bR Nd.cells)) (nz HY)),(.ah (HZ.map aK) (nz HZ)),(.int .i64 Kt),(.bool Fx)]) (YK:abe<H.next) (o:Bool) (h:Bz HY HZ Kt Fx aeE=some o) (Q:Post) (q0: ∀(p:Bool) (σ':Nat->PV),o=p->Fr [76,77,78] aH σ'->(σ' 78=(.bool p))->Q .normal σ' H),eZ Tryz.prog Ti (Q .normal) σ H:=by
 intro abe HY HZ Kt Fx aeE aH σ H f0 sl YK o h Q q0;obtain⟨s5,s75,aH1⟩:=sl;have aH2:=ne_next YK;have aH3:=bA YK;unfold Bz at h;refine oG ?_;unfold Ti;obtain⟨e89,h⟩|⟨e89,h⟩:=aJ h
 ·cases h;refine ak ?_;exact q0 _ _ rfl bG aA
 ·cases h;refine ak ?_;exact q0 _ _ rfl bG aA
mutual
def kL:Nat->(List Nd)->Option Fo
 |0,_=>none
 |k+1,au=>
  if 0<=(IntKind.wrap .i64 ((au.length:Int) -1))then (au[(IntKind.wrap .i64 ((au.length:Int) -1)).toNat]?).bind fun x2=>cond (x2.kind==0) (some (Fo.mk [] [] x2.n false)) (Option.bind (pV x2.kind x2.n x2.text x2.names x2.args (x2.kind==3)) (fun p8=>cond p8 ((x2.args[0]?).bind fun JW=>(wG k au JW).bind fun I6=>(kL k I6).bind fun y5=>(eT k (Fo.mk [] [] 0 false) y5 (-1)).bind fun Gv=>some Gv) (Option.bind (yx k x2.kind x2.n x2.text x2.names x2.args (x2.kind==3)) (fun p30=>cond p30 ((x2.args[0]?).bind fun x39=>(wG k au x39).bind fun p42=>(kL k p42).bind fun p44=>(x2.args[1]?).bind fun x45=>(wG k au x45).bind fun p48=>(kL k p48).bind fun p50=>cond (x2.text==([43]:Str)) ((eT k p44 p50 1).bind fun Zj=>some Zj) (cond (x2.text==([45]:Str)) ((eT k p44 p50 (-1)).bind fun Zk=>some Zk) (cond (x2.text==([42]:Str)) (Option.bind (Bz p50.us p50.cs p50.num p50.bad p44.bad) (fun QU=>cond QU (some (Fo.mk [] [] 0 true)) ((mh k p44).bind fun ajx=>cond ajx ((eT k (Fo.mk [] [] 0 false) p50 p44.num).bind fun Uq=>some Uq) ((mh k p50).bind fun UM=>cond UM ((eT k (Fo.mk [] [] 0 false) p44 p50.num).bind fun ajy=>some ajy) (some (Fo.mk [au] [1] 0 false)))))) (some (Fo.mk [au] [1] 0 false))))) (some (Fo.mk [au] [1] 0 false))))))else none
end
mutual
theorem H7 (k:Nat): ∀(au:List Nd) (r:Fo) (h:kL k au=some r),aG Tryz.prog 201 [(.ah (au.map Nd.cells) .unk)] (.agg (Fo.cells r)):=by
 match k with
 |0=>intro au r h;rw [kL]at h;cases h
 |k+1=>
  intro au r h;refine aG.bX (dJ.mem (.cons (bK Nd.pu _) .nil)) (aL aBH (by simp) (aI ?_)) (.agg _ (Fo.pu _));rw [kL]at h;unfold aqr;obtain⟨e1,h⟩:=aX h;obtain⟨x2,e3,h⟩:=aj h;obtain⟨e4,h⟩|⟨e4,h⟩:=aJ h
  ·cases h;refine ak ?_;exact(jT (.cons lV (.cons lV (gB (.cons (.pure _ (.bool _)) .nil)))))
  ·refine ak ?_;obtain⟨o6,h7,h⟩:=aj h;refine aaM (AH.empty.next+1) x2.kind x2.n x2.text x2.names x2.args (x2.kind==3) _ _ _ (Fr.refl _ _) aA aY _ h7 _ ?_
   ·rintro p8 σ' eo fr9 s12;rw [eo]at h;have s13:σ' 0=(.ah (au.map Nd.cells) .unk):=(fr9 0 (by decide)).trans aA;have QN:σ' 2=(.ref (AH.empty.next) 0):=(fr9 2 (by decide)).trans aA;have s15:σ' 3=(.ref (AH.empty.next+1) 0):=(fr9 3 (by decide)).trans aA;obtain⟨e16,h⟩|⟨e16,h⟩:=aJ h
    ·obtain⟨JW,e18,h⟩:=aj h;obtain⟨I6,e19,h⟩:=aj h;refine ak ?_;refine av (Jz e19) ?_;obtain⟨y5,e21,h⟩:=aj h;refine ak ?_;refine av ((H7 k I6 _ e21).wk (.ah .nil)) ?_;obtain⟨Gv,e23,h⟩:=aj h;refine ak ?_;refine av (oZ e23) ?_;cases h;refine ak ?_;exact(jT (.cons lV (.cons lV (gB (.cons (.pure _ (.bool _)) .nil)))))
    ·refine ak ?_;obtain⟨o28,h29,h⟩:=aj h;refine aaN k (AH.empty.next+1) x2.kind x2.n x2.text x2.names x2.args (x2.kind==3) _ _ _ (Fr.refl _ _) aA aY _ h29 _ ?_
     ·rintro p30 σ' eo ao0 s34;rw [eo]at h;have s35:σ' 0=(.ah (au.map Nd.cells) .unk):=(ao0 0 (by decide)).trans aA;have s36:σ' 2=(.ref (AH.empty.next) 0):=(ao0 2 (by decide)).trans aA;have s37:σ' 3=(.ref (AH.empty.next+1) 0):=(ao0 3 (by decide)).trans aA;obtain⟨e38,h⟩|⟨e38,h⟩:=aJ h
      ·obtain⟨x39,e40,h⟩:=aj h;obtain⟨p42,e41,h⟩:=aj h;obtain⟨p44,e43,h⟩:=aj h;obtain⟨x45,e46,h⟩:=aj h;obtain⟨p48,e47,h⟩:=aj h;obtain⟨p50,e49,h⟩:=aj h;refine ak ?_;refine aej 14 15 [(.ah [] .nil),(.ah [] .nil),(.int .i64 0),(.bool false)] [(.ah (au.map Nd.cells) .unk),(.ref (AH.empty.next+1) 4),(.ah (x2.args.map aK) .unk),(.cK [(.int .i64 x39)] 0),(.int .i64 x39),(.ah (p42.map Nd.cells) .unk),(.agg (Fo.cells p44)),(.ah (au.map Nd.cells) .unk),(.ref (AH.empty.next+1) 4),(.ah (x2.args.map aK) .unk),(.cK [(.int .i64 x45)] 0),(.int .i64 x45),(.ah (p48.map Nd.cells) .unk),(.agg (Fo.cells p50)),ud,ud] (by kernel_rfl) (by decide) rfl rfl (fun x y H' hz=> ?_) (fun x70 Jb ZC ao1 aHA az5 aHB az6 n72 n73 n74 aMH=> ?_)
       · rcases hz with rfl|rfl|rfl<;>exact⟨.inr (.inr ⟨rfl,mX⟩),.inr (.inr ⟨rfl,mX⟩),.inr (.inr ⟨rfl,mX⟩),.inr (.inr ⟨rfl,mX⟩),.inr (.inr ⟨rfl,mX⟩),.inr (.inr ⟨rfl,PZ (Jz e41)⟩),.inr (.inr ⟨rfl,PZ ((H7 k p42 _ e43).wk (.ah .nil))⟩),.inr (.inr ⟨rfl,mX⟩),.inr (.inr ⟨rfl,mX⟩),.inr (.inr ⟨rfl,mX⟩),.inr (.inr ⟨rfl,mX⟩),.inr (.inr ⟨rfl,mX⟩),.inr (.inr ⟨rfl,PZ (Jz e47)⟩),.inr (.inr ⟨rfl,PZ ((H7 k p48 _ e49).wk (.ah .nil))⟩),.inl rfl,.inl rfl,trivial⟩
       have le:=ao1.1;try simp only [AH.aN,AH.aO,AH.aS,AH.aT]at le aHA aHB
       have n75:(x70=Jb)=False:=S2 n72;have n76:(Jb=x70)=False:=S2 (B3 n72);have n77:=ne_next az5;have n78:=bA az5;have n79:=ne_next az6;have n80:=bA az6;have g58:ZC.obj (AH.empty.next)=some [(.ah [] .nil),(.ah [] .nil),(.int .i64 0),(.bool false)]:=(ao1.2 _ aY D0).trans aA;have n59:=ne_next (show AH.empty.next<ZC.next from aY);have m60:=bA (show AH.empty.next<ZC.next from aY);have aKr:(AH.empty.next=x70)=False:=S2 aY;have aH4:(x70=AH.empty.next)=False:=S2 aY;have aKs:(AH.empty.next=Jb)=False:=S2 aY;have aH5:(Jb=AH.empty.next)=False:=S2 aY;have g61:ZC.obj (AH.empty.next+1)=some [(.int .i64 x2.kind),(.int .i64 x2.n),(.str x2.text),(.ah (x2.names.map aF) .unk),(.ah (x2.args.map aK) .unk)]:=(ao1.2 _ aY D0).trans aA;have n62:=ne_next (show AH.empty.next+1<ZC.next from aY);have m63:=bA (show AH.empty.next+1<ZC.next from aY);have aKt:(AH.empty.next+1=x70)=False:=S2 aY;have aH6:(x70=AH.empty.next+1)=False:=S2 aY;have aKu:(AH.empty.next+1=Jb)=False:=S2 aY;have aH7:(Jb=AH.empty.next+1)=False:=S2 aY;simp only [bV,I0,j0,Nat.reduceAdd,Cx,Nat.reduceEqDiff,reduceIte,d5,N2,E2];obtain⟨e82,h⟩|⟨e82,h⟩:=aJ h
       ·obtain⟨Zj,e83,h⟩:=aj h;refine ak ?_;refine av (oZ e83) ?_;cases h;refine ak ?_;exact(jT (.cons lV (.cons lV (gB (.cons (.pure _ (.bool _)) .nil)))))
       ·obtain⟨e85,h⟩|⟨e85,h⟩:=aJ h
        ·obtain⟨Zk,e86,h⟩:=aj h;refine ak ?_;refine av (oZ e86) ?_;cases h;refine ak ?_;exact(jT (.cons lV (.cons lV (gB (.cons (.pure _ (.bool _)) .nil)))))
        ·obtain⟨e88,h⟩|⟨e88,h⟩:=aJ h
         ·refine ak ?_;obtain⟨o90,h91,h⟩:=aj h;refine aaO (Jb) p50.us p50.cs p50.num p50.bad p44.bad _ _ _ (Fr.refl _ _) aA aY _ h91 _ ?_
          ·rintro QU σ' eo ajz s96;rw [eo]at h;have s97:σ' 0=(.ah (au.map Nd.cells) .unk):=(ajz 0 (by decide)).trans aA;have s98:σ' 2=(.ref (AH.empty.next) 0):=(ajz 2 (by decide)).trans aA;have s99:σ' 4=(.ref (x70) 0):=(ajz 4 (by decide)).trans aA;have aya:σ' 5=(.ref (Jb) 0):=(ajz 5 (by decide)).trans aA;obtain⟨aoe,h⟩|⟨aoe,h⟩:=aJ h
           ·cases h;refine ak ?_;exact(jT (.cons lV (.cons lV (gB (.cons (.pure _ (.bool _)) .nil)))))
           ·obtain⟨ajx,aHC,h⟩:=aj h;refine ak ?_;refine av (P8 aHC) ?_;obtain⟨aiN,h⟩|⟨aiN,h⟩:=aJ h
            ·obtain⟨Uq,aiO,h⟩:=aj h;refine ak ?_;refine av (oZ aiO) ?_;cases h;refine ak ?_;exact(jT (.cons lV (.cons lV (gB (.cons (.pure _ (.bool _)) .nil)))))
            ·obtain⟨UM,O5,h⟩:=aj h;refine ak ?_;refine av (P8 O5) ?_;obtain⟨e109,h⟩|⟨e109,h⟩:=aJ h
             ·obtain⟨ajy,aof,h⟩:=aj h;refine ak ?_;refine av (oZ aof) ?_;cases h;refine ak ?_;exact(jT (.cons lV (.cons lV (gB (.cons (.pure _ (.bool _)) .nil)))))
             ·cases h;refine ak ?_;exact(jT (.cons lV (.cons lV (gB (.cons (.pure _ (.bool _)) .nil)))))
         ·cases h;refine ak ?_;exact(jT (.cons lV (.cons lV (gB (.cons (.pure _ (.bool _)) .nil)))))
      ·cases h;refine ak ?_;exact(jT (.cons lV (.cons lV (gB (.cons (.pure _ (.bool _)) .nil)))))
end
theorem WT {k:Nat} {au:List Nd} {c0:Ck} {r:Fo} (h:kL k au=some r):aG Tryz.prog 201 [(.ah (au.map Nd.cells) c0)] (.agg (Fo.cells r)):=(H7 k au r h).wk (.ah .nil)
def ru (k:Nat) (abf:Int) (abg:Int) (WU:Str) (abh:List Str) (abj:List Int) (sW:Bool):Option Bool:=
 cond sW (some (true)) ((bO k [([61]:Str),([60]:Str),([60,61]:Str),([62]:Str),([62,61]:Str)] WU).bind fun p6=>some ((!p6)))
def F8:List Nat:=[18,19,20,21,22,23]
theorem NJ (k:Nat): ∀(abk:Nat) (abf:Int) (abg:Int) (WU:Str) (abh:List Str) (abj:List Int) (sW:Bool) (aH σ:Nat->PV) (H:AH) (f0:Fr F8 aH σ) (sl:σ 4=(.ref (abk) 0)/\σ 17=(.bool sW)/\H.obj abk=some [(.int .i64 abf),(.int .i64 abg),(.str WU),(.ah (abh.map aF) .unk),(.ah (abj.map aK) .unk)]) (YL:abk<H.next) (o:Bool) (h:ru k abf abg WU abh abj sW=some o) (Q:Post) (q0: ∀(p:Bool) (σ':Nat->PV),o=p->Fr F8 aH σ'->(σ' 23=(.bool p))->Q .normal σ' H),eZ Tryz.prog Sm (Q .normal) σ H:=by
 intro abk abf abg WU abh abj sW aH σ H f0 sl YL o h Q q0;obtain⟨s4,Cu,aH8⟩:=sl;have aH9:=ne_next YL;have aIa:=bA YL;unfold ru at h;refine oG ?_;unfold Sm;obtain⟨e4,h⟩|⟨e4,h⟩:=aJ h
 ·cases h;refine ak ?_;exact q0 _ _ rfl bG aA
 ·obtain⟨p6,e5,h⟩:=aj h;refine ak ?_;refine av (jD e5) ?_;cases h;refine ak ?_;exact q0 _ _ rfl bG aA
def gK (k:Nat) (au:List Nd):Option (Co×Bool):=
 if 0<=(IntKind.wrap .i64 ((au.length:Int) -1))then (au[(IntKind.wrap .i64 ((au.length:Int) -1)).toNat]?).bind fun x2=>Option.bind (ru k x2.kind x2.n x2.text x2.names x2.args (x2.kind !=3)) (fun p9=>cond p9 (some ((Co.mk (Fo.mk [] [] 0 false) false),false)) ((x2.args[0]?).bind fun x18=>(wG k au x18).bind fun yY=>(kL k yY).bind fun FN=>(x2.args[1]?).bind fun x24=>(wG k au x24).bind fun p27=>(kL k p27).bind fun p29=>cond (x2.text==([60,61]:Str)) ((eT k p29 FN (-1)).bind fun p63=>some ((Co.mk p63 false),true)) (cond (x2.text==([60]:Str)) ((eT k p29 FN (-1)).bind fun p66=>(eT k p66 (Fo.mk [] [] (-1) false) 1).bind fun p68=>some ((Co.mk p68 false),true)) (cond (x2.text==([62,61]:Str)) ((eT k FN p29 (-1)).bind fun p71=>some ((Co.mk p71 false),true)) (cond (x2.text==([62]:Str)) ((eT k FN p29 (-1)).bind fun p74=>(eT k p74 (Fo.mk [] [] (-1) false) 1).bind fun p76=>some ((Co.mk p76 false),true)) ((eT k FN p29 (-1)).bind fun p78=>some ((Co.mk p78 true),true)))))))else none
theorem UN {k:Nat} {au:List Nd} {c0:Ck} {r:Co×Bool} (h:gK k au=some r):aG Tryz.prog 143 [(.ah (au.map Nd.cells) c0)] (.dn [(.agg (Co.cells r.1)),(.bool r.2)]):=by
 refine aG.lw (.ah .nil) (aG.bX (dJ.mem (.cons (bK Nd.pu _) .nil)) (aL aBg (by simp) (aI ?_)) (.dn _ (dJ.mem (.cons (.agg _ (Co.pu _)) (.cons (.bool _) .nil)))));unfold gK at h;unfold apZ;obtain⟨e1,h⟩:=aX h;obtain⟨x2,e3,h⟩:=aj h;refine ak ?_;obtain⟨o7,h8,h⟩:=aj h;refine NJ k (AH.empty.next+1) x2.kind x2.n x2.text x2.names x2.args (x2.kind !=3) _ _ _ (Fr.refl _ _) aA aY _ h8 _ ?_
 ·rintro p9 σ' eo YJ s13;rw [eo]at h;have QN:σ' 0=(.ah (au.map Nd.cells) .unk):=(YJ 0 (by decide)).trans aA;have s15:σ' 2=(.ref (AH.empty.next) 0):=(YJ 2 (by decide)).trans aA;have s16:σ' 4=(.ref (AH.empty.next+1) 0):=(YJ 4 (by decide)).trans aA;obtain⟨e17,h⟩|⟨e17,h⟩:=aJ h
  ·cases h;refine ak ?_;exact(oh (.cons (jT (.cons lV (.cons lV (gB (.cons (.pure _ (.bool _)) (.cons (.pure _ (.bool _)) .nil)))))) (.cons (.pure _ (.bool _)) .nil)))
  ·obtain⟨x18,e19,h⟩:=aj h;obtain⟨yY,e20,h⟩:=aj h;obtain⟨FN,e22,h⟩:=aj h;obtain⟨x24,e25,h⟩:=aj h;obtain⟨p27,e26,h⟩:=aj h;obtain⟨p29,e28,h⟩:=aj h;refine ak ?_;refine aej 14 15 [(.ah [] .nil),(.ah [] .nil),(.int .i64 0),(.bool false)] [(.ah (au.map Nd.cells) .unk),(.ref (AH.empty.next+1) 4),(.ah (x2.args.map aK) .unk),(.cK [(.int .i64 x18)] 0),(.int .i64 x18),(.ah (yY.map Nd.cells) .unk),(.agg (Fo.cells FN)),(.ah (au.map Nd.cells) .unk),(.ref (AH.empty.next+1) 4),(.ah (x2.args.map aK) .unk),(.cK [(.int .i64 x24)] 0),(.int .i64 x24),(.ah (p27.map Nd.cells) .unk),(.agg (Fo.cells p29)),ud,ud] (by kernel_rfl) (by decide) rfl rfl (fun x y H' hz=> ?_) (fun x49 O7 Wo ai7 aHD az7 aHE az8 n51 n52 n53 aMI=> ?_)
   · rcases hz with rfl|rfl|rfl<;>exact⟨.inr (.inr ⟨rfl,mX⟩),.inr (.inr ⟨rfl,mX⟩),.inr (.inr ⟨rfl,mX⟩),.inr (.inr ⟨rfl,mX⟩),.inr (.inr ⟨rfl,mX⟩),.inr (.inr ⟨rfl,PZ (Jz e20)⟩),.inr (.inr ⟨rfl,PZ (WT e22)⟩),.inr (.inr ⟨rfl,mX⟩),.inr (.inr ⟨rfl,mX⟩),.inr (.inr ⟨rfl,mX⟩),.inr (.inr ⟨rfl,mX⟩),.inr (.inr ⟨rfl,mX⟩),.inr (.inr ⟨rfl,PZ (Jz e26)⟩),.inr (.inr ⟨rfl,PZ (WT e28)⟩),.inl rfl,.inl rfl,trivial⟩
   have le:=ai7.1;try simp only [AH.aN,AH.aO,AH.aS,AH.aT]at le aHD aHE
   have n54:(x49=O7)=False:=S2 n51;have n55:(O7=x49)=False:=S2 (B3 n51);have n56:=ne_next az7;have n57:=bA az7;have n58:=ne_next az8;have n59:=bA az8;have g37:Wo.obj (AH.empty.next)=some [(.ah [] .nil),(.ah [] .nil),(.int .i64 0),(.bool false),(.bool false)]:=(ai7.2 _ aY D0).trans aA;have n38:=ne_next (show AH.empty.next<Wo.next from aY);have m39:=bA (show AH.empty.next<Wo.next from aY);have aKw:(AH.empty.next=x49)=False:=S2 aY;have aIb:(x49=AH.empty.next)=False:=S2 aY;have aKx:(AH.empty.next=O7)=False:=S2 aY;have aIc:(O7=AH.empty.next)=False:=S2 aY;have g40:Wo.obj (AH.empty.next+1)=some [(.int .i64 x2.kind),(.int .i64 x2.n),(.str x2.text),(.ah (x2.names.map aF) .unk),(.ah (x2.args.map aK) .unk)]:=(ai7.2 _ aY D0).trans aA;have n41:=ne_next (show AH.empty.next+1<Wo.next from aY);have m42:=bA (show AH.empty.next+1<Wo.next from aY);have aKy:(AH.empty.next+1=x49)=False:=S2 aY;have aId:(x49=AH.empty.next+1)=False:=S2 aY;have aKz:(AH.empty.next+1=O7)=False:=S2 aY;have aIe:(O7=AH.empty.next+1)=False:=S2 aY;simp only [bV,I0,j0,Nat.reduceAdd,Cx,Nat.reduceEqDiff,reduceIte,d5,N2,E2];obtain⟨e61,h⟩|⟨e61,h⟩:=aJ h
   ·obtain⟨p63,e62,h⟩:=aj h;refine ak ?_;refine av (oZ e62) ?_;cases h;refine ak ?_;exact(oh (.cons (jT (.cons lV (.cons lV (gB (.cons (.pure _ (.bool _)) (.cons (.pure _ (.bool _)) .nil)))))) (.cons (.pure _ (.bool _)) .nil)))
   ·obtain⟨e64,h⟩|⟨e64,h⟩:=aJ h
    ·refine ak ?_;refine oH ?_;obtain⟨p66,e65,h⟩:=aj h;refine ak ?_;refine PC.mk (oZ e65) ?_;obtain⟨p68,e67,h⟩:=aj h;refine ak ?_;refine av (oZ e67) ?_;cases h;refine ak ?_;exact(oh (.cons (jT (.cons lV (.cons lV (gB (.cons (.pure _ (.bool _)) (.cons (.pure _ (.bool _)) .nil)))))) (.cons (.pure _ (.bool _)) .nil)))
    ·obtain⟨e69,h⟩|⟨e69,h⟩:=aJ h
     ·obtain⟨p71,e70,h⟩:=aj h;refine ak ?_;refine av (oZ e70) ?_;cases h;refine ak ?_;exact(oh (.cons (jT (.cons lV (.cons lV (gB (.cons (.pure _ (.bool _)) (.cons (.pure _ (.bool _)) .nil)))))) (.cons (.pure _ (.bool _)) .nil)))
     ·obtain⟨e72,h⟩|⟨e72,h⟩:=aJ h
      ·refine ak ?_;refine oH ?_;obtain⟨p74,e73,h⟩:=aj h;refine ak ?_;refine PC.mk (oZ e73) ?_;obtain⟨p76,e75,h⟩:=aj h;refine ak ?_;refine av (oZ e75) ?_;cases h;refine ak ?_;exact(oh (.cons (jT (.cons lV (.cons lV (gB (.cons (.pure _ (.bool _)) (.cons (.pure _ (.bool _)) .nil)))))) (.cons (.pure _ (.bool _)) .nil)))
      ·obtain⟨p78,e77,h⟩:=aj h;refine ak ?_;refine av (oZ e77) ?_;cases h;refine ak ?_;exact(oh (.cons (jT (.cons lV (.cons lV (gB (.cons (.pure _ (.bool _)) (.cons (.pure _ (.bool _)) .nil)))))) (.cons (.pure _ (.bool _)) .nil)))
instance ao2 (k:Nat) (au:List Nd):bY Tryz.prog 143 [(.ah (au.map Nd.cells) .unk)] (gK k au) (fun r=>(.dn [(.agg (Co.cells r.1)),(.bool r.2)])):=⟨fun _ h=>UN h⟩
def wH (bD:List Int) (yO:Int) (WV:List (List Nd)) (WW:List Int) (aeG:Int) (aeH:Bool) (WX:Bool) (ajA:Bool):Option Bool:=
 cond ajA (some (true)) (if 0<=yO then (bD[yO.toNat]?).bind fun x9=>(k_in x9 (-10000) 10000).bind fun rT=>cond rT (cond WX (some (false)) (some ((decide (x9<0))))) (some (true))else none)
instance auZ (bD:List Int) (yO:Int) (WV:List (List Nd)) (WW:List Int) (aeG:Int) (aeH:Bool) (WX:Bool) (ajA:Bool):Lo Tryz.prog (.ops XQ) (wH bD yO WV WW aeG aeH WX ajA) [(31,50)] [(1,(.ah (bD.map aK) .unk)),(9,(.int .i64 yO)),(30,(.bool ajA))] [(11,[(.ah (WV.map (bR Nd.cells)) (nz WV)),(.ah (WW.map aK) (nz WW)),(.int .i64 aeG),(.bool aeH),(.bool WX)])] (fun p=>(.normal,[(49,(.bool p))],none)):=IU XQ.eq_1 (by unfold wH;exact iI)
def fV:Nat->(List Int)->(List (List Nd))->(List Int)->Int->Bool->Bool->(List (List Nd))->Int->Int->Option ((Bool×(List (List Nd))×(List Int)×Int×Bool)⊕(Bool×(List (List Nd))×(List Int)×Int×Bool))
 |0,_,_,_,_,_,_,_,_,_=>none
 |k+1,bD,qK,qL,qM,sj,rZ,YM,sW,vg=>
  cond (decide (vg<sW)) (if 0<=vg then (YM[vg.toNat]?).bind fun x3=>(gK k x3).bind fun p6=>Option.bind (wH bD vg p6.1.form.us p6.1.form.cs p6.1.form.num p6.1.form.bad p6.1.eq (!p6.2)) (fun K9=>cond K9 (some (.inr ((false,qK,qL,qM,sj)))) (cond rZ ((bD[vg.toNat]?).bind fun x32=>(eT k (Fo.mk qK qL qM sj) p6.1.form x32).bind fun p35=>fV k bD p35.us p35.cs p35.num p35.bad p6.1.eq YM sW (IntKind.wrap .i64 (vg+1))) ((bD[vg.toNat]?).bind fun OP=>(eT k (Fo.mk qK qL qM sj) p6.1.form OP).bind fun p39=>fV k bD p39.us p39.cs p39.num p39.bad false YM sW (IntKind.wrap .i64 (vg+1)))))else none) (some (.inl (rZ,qK,qL,qM,sj)))
instance au0 (k:Nat): ∀(bD:List Int) (qK:List (List Nd)) (qL:List Int) (qM:Int) (sj:Bool) (rZ:Bool) (YM:List (List Nd)) (sW:Int) (vg:Int),Lo Tryz.prog (.loop XR) (fV k bD qK qL qM sj rZ YM sW vg) [(6,7),(8,13),(18,64)] [(1,(.ah (bD.map aK) .unk)),(8,(.bool rZ)),(16,(.ah (YM.map (bR Nd.cells)) .unk)),(17,(.int .i64 sW)),(18,(.int .i64 vg))] [(7,[(.ah (qK.map (bR Nd.cells)) (nz qK)),(.ah (qL.map aK) (nz qL)),(.int .i64 qM),(.bool sj)])] (Sum.elim (fun p=>(.exit 0,[(8,(.bool p.1))],some [[(.ah (p.2.1.map (bR Nd.cells)) (nz p.2.1)),(.ah (p.2.2.1.map aK) (nz p.2.2.1)),(.int .i64 p.2.2.2.1),(.bool p.2.2.2.2)]])) (fun p=>(.ret,[(6,(.bool p.1))],some [[(.ah (p.2.1.map (bR Nd.cells)) (nz p.2.1)),(.ah (p.2.2.1.map aK) (nz p.2.2.1)),(.int .i64 p.2.2.2.1),(.bool p.2.2.2.2)]]))):=by
 induction k with
 |zero=>exact fun _ _ _ _ _ _ _ _ _=>lo0 rfl
 |succ k ih=>exact fun _ _ _ _ _ _ _ _ _=>loS XR.eq_1 (by unfold fV;exact iI)
def uM (k:Nat) (aZ:List (List Nd)) (bD:List Int) (eU:List Nd):Option Bool:=
 Option.bind (fV k bD ([]:List (List Nd)) ([]:List Int) 0 false true aZ (aZ.length:Int) 0) (fun o=>Sum.elim (fun p42=>(EX eU ([70,65,76,83,69]:Str)).bind fun p54=>cond p54 ((Cz k (Fo.mk p42.2.1 p42.2.2.1 p42.2.2.2.1 p42.2.2.2.2)).bind fun p57=>some p57) ((gK k eU).bind fun p59=>cond p59.2 (cond p59.1.eq ((eT k (Fo.mk p42.2.1 p42.2.2.1 p42.2.2.2.1 p42.2.2.2.2) p59.1.form (-1)).bind fun p63=>cond p42.1 ((mh k p63).bind fun p66=>cond p66 (some (p63.num==0)) (some false)) (some false)) ((eT k (Fo.mk [] [] (-1) false) p59.1.form (-1)).bind fun p69=>(eT k (Fo.mk p42.2.1 p42.2.2.1 p42.2.2.2.1 p42.2.2.2.2) p69 1).bind fun p71=>(Cz k p71).bind fun p73=>some p73)) (some false))) (fun p74=>some p74.1) o)
instance aAz (k:Nat) (aZ:List (List Nd)) (bD:List Int) (eU:List Nd):bY Tryz.prog 79 [(.ah (aZ.map (bR Nd.cells)) .unk),(.ah (bD.map aK) .unk),(.ah (eU.map Nd.cells) .unk)] (uM k aZ bD eU) (fun r=>(.bool r)):=bM aFB (by unfold uM awN;exact FK)
def r9:Nat->(List Int)->Int->Int->Option (Unit⊕Int)
 |0,_,_,_=>none
 |k+1,t_5,rW,jY=>
  cond (decide (jY<rW)) (if 0<=jY then (t_5[jY.toNat]?).bind fun x3=>cond (x3 !=0) (some (.inr (x3))) (r9 k t_5 rW (IntKind.wrap .i64 (jY+1)))else none) (some (.inl ()))
instance avh (k:Nat): ∀(t_5:List Int) (rW:Int) (jY:Int),Lp Tryz.prog (.loop XH) (r9 k t_5 rW jY) [(2,3),(4,5),(7,15)] [(5,(.ah (t_5.map aK) .unk)),(6,(.int .i64 rW)),(7,(.int .i64 jY))] (Sum.elim (fun p=>(.exit 0,[])) (fun p=>(.ret,[(2,(.int .i64 p))]))):=by
 induction k with
 |zero=>exact fun _ _ _=>rP rfl
 |succ k ih=>exact fun _ _ _=>rQ XH.eq_1 (by unfold r9;exact bZ)
def BX (k:Nat) (aZ:List Int):Option Int:=
 Option.bind (r9 k aZ (aZ.length:Int) 0) (fun o=>Sum.elim (fun p8=>some 0) (fun rT=>some rT) o)
instance aC7 (k:Nat) (aZ:List Int):bY Tryz.prog 58 [(.ah (aZ.map aK) .unk)] (BX k aZ) (fun r=>(.int .i64 r)):=bM aFr (by unfold BX awy;exact bE)
def vG (Qu:Bool) (e_1:Int):Option Int:=
 cond Qu (some 0) (some e_1)
instance aC8 (Qu:Bool) (e_1:Int):bY Tryz.prog 59 [(.bool Qu),(.int .i64 e_1)] (vG Qu e_1) (fun r=>(.int .i64 r)):=bM aFs (by unfold vG awz;exact bE)
def xY (aU:Int):Option Bool:=
 (k_in aU (-10000) 10000).bind fun p2=>some (!p2)
instance asE (aU:Int):bY Tryz.prog 77 [(.int .i64 aU)] (xY aU) (fun r=>(.bool r)):=bM aFz (by unfold xY awK;exact bE)
def iR:Nat->(List Int)->Int->Int->Option (Unit⊕Int)
 |0,_,_,_=>none
 |k+1,s_0,jY,iD=>
  cond (decide (iD<jY)) (if 0<=iD then (s_0[iD.toNat]?).bind fun x3=>(xY x3).bind fun p6=>cond p6 (some (.inr (iD))) (iR k s_0 jY (IntKind.wrap .i64 (iD+1)))else none) (some (.inl ()))
instance ahl (k:Nat): ∀(s_0:List Int) (jY:Int) (iD:Int),Lp Tryz.prog (.loop IJ) (iR k s_0 jY iD) [(4,6),(8,19)] [(0,(.ah (s_0.map aK) .unk)),(1,(.fn (.func 77) [] [])),(7,(.int .i64 jY)),(8,(.int .i64 iD))] (Sum.elim (fun p=>(.exit 0,[])) (fun p=>(.ret,[(4,(.int .i64 p))]))):=by
 induction k with
 |zero=>exact fun _ _ _=>rP rfl
 |succ k ih=>exact fun _ _ _=>rQ IJ.eq_1 (by unfold iR;exact bZ)
def xO (k:Nat) (s_0:List Int):Option Int:=
 Option.bind (iR k s_0 (s_0.length:Int) 0) (fun o=>Sum.elim (fun mH=>some (-1)) (fun nG=>some nG) o)
instance amg (k:Nat) (s_0:List Int):bY Tryz.prog 102 [(.ah (s_0.map aK) .unk),(.fn (.func 77) [] [])] (xO k s_0) (fun r=>(.int .i64 r)):=bM ah4 (by unfold xO ah3;exact bE)
def lI (k:Nat) (s_0:List Int):Option Bool:=
 (xO k s_0).bind fun p2=>some (decide (p2>=0))
instance ahm (k:Nat) (s_0:List Int):bY Tryz.prog 76 [(.ah (s_0.map aK) .unk),(.fn (.func 77) [] [])] (lI k s_0) (fun r=>(.bool r)):=bM awJ (by unfold lI anz;exact bE)
def fJ:Nat->(List (List Nd))->Int->Int->Option (Unit⊕(Bool×Int))
 |0,_,_,_=>none
 |k+1,fD,aeI,EZ=>
  cond (decide (EZ<aeI)) (if 0<=EZ then (fD[EZ.toNat]?).bind fun x10=>(Cw k x10).bind fun tQ=>cond (tQ !=0) (some (.inr ((false,tQ)))) (fJ k fD aeI (IntKind.wrap .i64 (EZ+1)))else none) (some (.inl ()))
instance ao3 (k:Nat): ∀(fD:List (List Nd)) (aeI:Int) (EZ:Int),Lp Tryz.prog (.loop Xx) (fJ k fD aeI EZ) [(6,8),(10,12),(29,39)] [(27,(.ah (fD.map (bR Nd.cells)) .unk)),(28,(.int .i64 aeI)),(29,(.int .i64 EZ))] (Sum.elim (fun p=>(.exit 0,[])) (fun p=>(.ret,[(6,(.bool p.1)),(7,(.int .i64 p.2))]))):=by
 induction k with
 |zero=>exact fun _ _ _=>rP rfl
 |succ k ih=>exact fun _ _ _=>rQ Xx.eq_1 (by unfold fJ;exact bZ)
def kQ (k:Nat) (aZ:List (List Nd)) (bD:List Int) (eU:List Nd):Option (Bool×Int):=
 (vG (decide ((aZ.length:Int)>0)) 1).bind fun p2=>(vG (decide ((aZ.length:Int)<=12)) 2).bind fun p4=>(BX k [p2,p4]).bind fun p6=>cond (p6 !=0) (some (false,p6)) (Option.bind (fJ k aZ (aZ.length:Int) 0) (fun o=>Sum.elim (fun K9=>(lI k bD).bind fun p25=>(vG ((bD.length:Int)==(aZ.length:Int)) 6).bind fun p27=>(vG (!p25) 3).bind fun p29=>(Cw k eU).bind fun p31=>(BX k [p27,p29,p31]).bind fun p33=>cond (p33 !=0) (some (false,p33)) ((uM k aZ bD eU).bind fun p36=>some (p36,0))) (fun p37=>some (p37.1,p37.2)) o))
instance aaP (k:Nat) (aZ:List (List Nd)) (bD:List Int) (eU:List Nd):bY Tryz.prog 22 [(.ah (aZ.map (bR Nd.cells)) .unk),(.ah (bD.map aK) .unk),(.ah (eU.map Nd.cells) .unk)] (kQ k aZ bD eU) (fun r=>(.dn [(.bool r.1),(.int .i64 r.2)])):=bM awn (by unfold kQ awm;exact bE)
theorem Nv {k:Nat} {aZ:List (List Nd)} {bD:List Int} {eU:List Nd} {c0 c1 c2:Ck} {r:Bool×Int} (h:kQ k aZ bD eU=some r):aG Tryz.prog 22 [(.ah (aZ.map (bR Nd.cells)) c0),(.ah (bD.map aK) c1),(.ah (eU.map Nd.cells) c2)] (.dn [(.bool r.1),(.int .i64 r.2)]):=((aaP _ _ _ _).c _ h).wk (.ah (.ah (.ah .nil)))
end Go.VL
end
section
set_option maxRecDepth 100000
namespace Go.VL
open Go.Proofs
section
variable {P:Program} {Q:Post} {σ:Nat->PV} {s:List Fm} {α:Type} {H:AH} {f:α->List PV} {sz:Nat} {v:PV} {ids:List Nat}
theorem WY {b:Nat} {x y:AE} [hr:nk f sz] (hf: ∀x,kC sz (f x)) (xs ys:List α) (c2:Ck)
 (hx:x.ev σ=v) (hrow:aB H f sz xs v ids) (hy:y.ev σ= .ah (ys.map f) c2) (hb:(xs.length+ys.length)*b<=1099511627776):
 dQ P (.n (.app sz b x y)) (fun v' H'=> ∃gD,aB H' f sz (xs++ys) v' gD/\Nw H ids gD/\HF ids H H'/\ ∀c3,aR H c3->aR H' c3) σ H:=by
 by_cases h0:0<ys.length
 · exact Ko hf xs ys c2 hx hrow hy h0 hb
 obtain rfl:ys=[]:=u5.1 (by omega);rw [W3];have fin: ∃gD,aB H f sz xs v gD/\Nw H ids gD/\HF ids H H/\ ∀c3,aR H c3->aR H c3:=⟨ids,hrow,Nw.refl,HF.refl _ _,fun _ k=>k⟩;simp only [dQ,nop,hx,hy];rcases hrow with⟨rfl,rfl,rfl⟩|⟨id,cap,junk,rfl,rfl,h2,h3,h4,h5⟩
 · simp only [vJ,rowOf,MA,j0,A0];exact fin
 · have hrow:VL.rowOf sz H (.bP id 0 xs.length cap sz)=some (xs.map f):=aB.rowOf (ids:=[id]) (.inr ⟨id,cap,junk,rfl,rfl,h2,h3,h4,h5⟩);simp only [vJ,hrow];have:VL.rowOf sz H (.ah (([]:List α).map f) c2)=some []:=rfl;simp only [this,j0,A0];rw [if_pos h2];exact fin
theorem au1 {ms:List Nat} {pr:List (aD×Bool)} {post:List aD} (a b:Nat) (vals:List PV) {da db:Option Nat} {ka kb:AK} (hrs:wZ pr=[a,b]) (hab:a≠b) (hbef:dS ms a b=true)
 (Ox:pr[a]? =some (⟨da,ka,none⟩,true)) (Oy:pr[b]? =some (⟨db,kb,none⟩,true)) (F1:PV->AH->Prop) (F2:PV->PV->AH->Prop)
 (pure: ∀x y H',(H'=H\/F1 x H'\/F2 x y H')->Ac P H' (fun _=>false) 0 pr (qX a b vals x y) σ)
 (step1: ∀x y,dQ P ka F1 (bV pr (qX a b vals x y) σ a) H)
 (step2: ∀x y H',F1 x H'->dQ P kb (fun p fu=>F2 x p fu) (bV pr (qX a b vals x y) σ b) H')
 (fin: ∀x y H',F2 x y H'->WO P post s Q (bV pr (qX a b vals x y) σ pr.length) H'):WS P (.sV ms pr post) s Q σ H:=by
 have fa:[a,b].filter (·!=a)=[b]:=by simp [B3 hab]
 refine LQ [a,b] hrs (fun r=>qX a b vals (r a) (r b)) (fun rem r H'=>(rem=[a,b]/\H'=H)\/(rem=[b]/\F1 (r a) H')\/(rem=[]/\F2 (r a) (r b) H')) (fun r j hj=> ?_) (fun r r' i h=> ?_) ⟨fun _=>ud,.inl ⟨rfl,rfl⟩⟩ ?_ ?_ ?_
 · rcases(show j=a\/j=b by simpa using hj)with rfl|rfl
   · simp [qX]
   · simp [qX,B3 hab]
 · simp only [qX];by_cases h1:i=a
   · rw [if_pos h1,if_pos h1];exact h a (by simp) (.inr h1.symm)
   · rw [if_neg h1,if_neg h1];by_cases h2:i=b
     · rw [if_pos h2,if_pos h2];exact h b (by simp) (.inr h2.symm)
     · rw [if_neg h2,if_neg h2]
 · rintro rem r H' (⟨rfl,rfl⟩|⟨rfl,h1⟩|⟨rfl,h1⟩)
   · exact(pure _ _ _ (.inl rfl)).G (fun _ h=>by cases h)
   · exact(pure _ _ _ (.inr (.inl h1))).G (fun _ h=>by cases h)
   · exact(pure _ _ _ (.inr (.inr h1))).G (fun _ h=>by cases h)
 · rintro rem r H' j o (⟨rfl,rfl⟩|⟨rfl,h1⟩|⟨rfl,h1⟩) hj ho hb
   · obtain rfl:j=a:=by
      rcases(show j=a\/j=b by simpa using hj)with rfl|rfl
      · rfl
      · rcases hb a (by simp)with h|h
        · rw [hbef]at h;cases h
        · exact h.symm
     rw [Ox]at ho;cases ho;exact⟨trivial,kI (fun p H2 hp=>⟨fun s=>if s=j then p else r s,if_pos rfl,fun s hs=>if_neg hs,.inr (.inl ⟨fa,(show F1 (if j=j then p else r j) H2 by rw [if_pos rfl];exact hp)⟩)⟩) (step1 _ _)⟩
   · obtain rfl:j=b:=by simpa using hj
     rw [Oy]at ho;cases ho;exact⟨trivial,kI (fun p H2 hp=>⟨fun s=>if s=j then p else r s,if_pos rfl,fun s hs=>if_neg hs,.inr (.inr ⟨by simp,(show F2 (if a=j then p else r a) (if j=j then p else r j) H2 by rw [if_neg hab,if_pos rfl];exact hp)⟩)⟩) (step2 _ _ _ h1)⟩
   · cases hj
 · rintro r H' (⟨h,_⟩|⟨h,_⟩|⟨_,h1⟩)
   · cases h
   · cases h
   · exact fin _ _ _ h1
end
section
variable {P:Program} {Q:Post} {σ:Nat->PV} {s:List Fm} {H:AH} {α β:Type} {f:α->List PV} {g:β->List PV}
theorem aeJ [nk f 1] [nk g 1] (hf: ∀x,kC 1 (f x)) (hg: ∀x,kC 1 (g x)) {xs ys:List α} {us ws:List β} {v w:PV} {i1 i2:List Nat} {ms:List Nat} {pr:List (aD×Bool)} {post:List aD} (a b:Nat) (vals:List PV) {da db:Option Nat} {ba bb:Nat} {xa ya xb yb:AE} {c1 c2:Ck}
 (hrs:wZ pr=[a,b]) (hab:a≠b) (hbef:dS ms a b=true) (Ox:pr[a]? =some (⟨da,.n (.app 1 ba xa ya),none⟩,true)) (Oy:pr[b]? =some (⟨db,.n (.app 1 bb xb yb),none⟩,true))
 (r1:aB H f 1 xs v i1) (r2:aB H g 1 us w i2) (dj:Dj i1 i2)
 (hxa: ∀x y,xa.ev (bV pr (qX a b vals x y) σ a)=v) (hya: ∀x y,ya.ev (bV pr (qX a b vals x y) σ a)= .ah (ys.map f) c1)
 (hxb: ∀x y,xb.ev (bV pr (qX a b vals x y) σ b)=w) (hyb: ∀x y,yb.ev (bV pr (qX a b vals x y) σ b)= .ah (ws.map g) c2)
 (hba:(xs.length+ys.length)*ba<=1099511627776) (hbb:(us.length+ws.length)*bb<=1099511627776)
 (pure: ∀x y H',HF (i1++i2) H H'->Ac P H' (fun _=>false) 0 pr (qX a b vals x y) σ)
 (fin: ∀x y H' j1 j2,aB H' f 1 (xs++ys) x j1->aB H' g 1 (us++ws) y j2->Nw H i1 j1->Nw H i2 j2->Dj j1 j2->HF (i1++i2) H H'->WO P post s Q (bV pr (qX a b vals x y) σ pr.length) H'):WS P (.sV ms pr post) s Q σ H:=by
 have wid: ∀{H'},HF i1 H H'->HF (i1++i2) H H':=fun h=>⟨h.1,fun i hi hm=>h.2 i hi fun k=>hm (N4 _ k)⟩
 refine au1 a b vals hrs hab hbef Ox Oy (fun x H'=> ∃j1,aB H' f 1 (xs++ys) x j1/\Nw H i1 j1/\HF i1 H H') (fun x y H'=> ∃j1 j2,aB H' f 1 (xs++ys) x j1/\aB H' g 1 (us++ws) y j2/\Nw H i1 j1/\Nw H i2 j2/\Dj j1 j2/\HF (i1++i2) H H') (fun x y H' h=> ?_) (fun x y=> ?_) (fun x y H' h=> ?_) (fun x y H' h=> ?_)
 · rcases h with rfl|⟨j1,_,_,h⟩|⟨j1,j2,_,_,_,_,_,h⟩
   · exact pure _ _ _ (HF.refl _ _)
   · exact pure _ _ _ (wid h)
   · exact pure _ _ _ h
 · exact kI (fun p H2 ⟨j,a1,a2,a3,a4⟩=>⟨j,a1,a2,a3⟩) (WY (f:=f) hf xs ys c1 (hxa x y) r1 (hya x y) hba)
 · obtain⟨jU,g1,g2,g3⟩:=h;have rB':aB H' g 1 us w i2:=r2.hf g3 dj.symm;refine kI (fun p H2 ⟨j,a1,a2,a3,a4⟩=>⟨jU,j,g1.hf a3 ?_,a1,g2,?_,?_,?_⟩) (WY (f:=g) hg us ws c2 (hxb x y) rB' (hyb x y) hbb)
   · intro i hi hb';rcases g2 i hi with q|q
     · exact dj i q hb'
     · have:=r2.lt i hb';omega
   · exact Nw.trans (fun i h=> .inl h) g3.1 a2
   · intro i hi hb';rcases a2 i hb' with q|q
     · rcases g2 i hi with q'|q'
       · exact dj i q' q
       · have:=r2.lt i q;omega
     · have:=g1.lt i hi;omega
   · exact⟨E1 g3.1 a3.1,fun i hi hm=>(a3.2 i (K0 hi g3.1) (fun h=>hm (T5 _ h))).trans (g3.2 i hi (fun h=>hm (N4 _ h)))⟩
 · obtain⟨j1,j2,h1,h2,h3,h4,h5,h6⟩:=h;exact fin x y H' j1 j2 h1 h2 h3 h4 h5 h6
end
end Go.VL
end
section
namespace Go.VL
structure Fq where
 us:List (List Nd)
 cs:List Int
 num:Int
 wide:Bool
deriving DecidableEq
def Fq.cells (x:Fq):List PV:=[(.ah (x.us.map (bR Nd.cells)) .unk),(.ah (x.cs.map aK) .unk),(.int .i64 x.num),(.bool x.wide)]
theorem Fq.je (x:Fq):x.cells=[(.ah (x.us.map (bR Nd.cells)) .unk),(.ah (x.cs.map aK) .unk),(.int .i64 x.num),(.bool x.wide)]:=rfl
theorem Fq.pu (x:Fq): ∀c∈x.cells,Pu c:=dJ.mem (.cons (bK (tN Nd.pu) _) (.cons (bK gV _) (.cons (.int _ _) (.cons (.bool _) .nil))))
instance:K6 Fq.cells:=⟨Fq.pu⟩
attribute [go_sem] Fq.je
end Go.VL
end
section
set_option maxRecDepth 100000
namespace Go.VL.Kq
open Go.Proofs Go.VL
def dc (n:Nat):Bool:=([1000000]:List Nat).contains n
def YN:List aD:=[oFg 22 3 4 21 false,Zb 23 1 22 21 false,oR 24 (.pick (.t 21) (.c (.bool true)) (.t 23))]
def YO:AC:=(.seq (sO [oM 45 10,oF 46 0 7,oL 47 1 46,oN 48 47,oB 49 .lss (.t 45) (.t 48)] (.cond (.t 49) .skip (.exit 2))) (.seq (.block 3 (.seq (.par [(oF 52 0 7,false),(oL 53 1 52,false),(oM 54 10,false),(oX 55 1 53 54,false),(oL 56 1 55,false),(oF 57 0 4,false),(oL 58 1 57,false),(oM 59 8,false),(oX 60 1 58 59,false),(oL 61 1 60,false)] [oC 62 98 [(.t 56),(.t 61)]]) (.cond (.t 62) (.ops [oM 63 10,oM 9 63]) .skip))) (.ops [oM 50 10,oB 51 .add (.t 50) (.c (.int .i64 1)),oM 10 51])))
def ahn:AC:=(sO [oM 64 9,oB 65 .lss (.t 64) (.c (.int .i64 0))] (.cond (.t 65) (sO [oF 66 1 7,oL 67 1 66,oN 68 67,oM 9 68] (.sV [0,1,0,4,0,28,60,124,255,0,512,0,4095,2047,16383,32767,65535] [(oF 69 0 7,false),(oL 70 1 69,false),(oF 71 0 4,false),(oL 72 1 71,false),(oM 73 8,false),(oX 74 1 72 73,false),(oL 75 1 74,false),(oR 76 (.CO 1 [(.t 75)]),false),(⟨(some 77),(.n (.app 1 24 (.t 70) (.t 76))),none⟩,true),(oF 78 1 7,false),(oL 79 1 78,false),(oR 80 (.CO 1 [(.c (.int .i64 0))]),false),(⟨(some 81),(.n (.app 1 8 (.t 79) (.t 80))),none⟩,true),(oF 82 0 7,false)] [oS 1 82 77,oF 83 1 7,oS 1 83 81])) .skip))
def YP:AC:=(.seq (sO [oM 38 8,oF 39 0 4,oL 40 1 39,oN 41 40,oB 42 .lss (.t 38) (.t 41)] (.cond (.t 42) .skip (.exit 0))) (.seq (.block 1 (sO [oI 9 (-1)] (.seq (sO [oI 10 0] (.block 2 (.loop YO))) (.seq ahn (.par [(oF 84 1 7,false),(oL 85 1 84,false),(oM 86 9,false),(oF 87 1 7,false),(oL 88 1 87,false),(oM 89 9,false),(oX 90 1 88 89,false),(oL 91 1 90,false),(oM 92 2,false),(oF 93 1 4,false),(oL 94 1 93,false),(oM 95 8,false),(oX 96 1 94 95,false),(oL 97 1 96,false),(oB 98 .mul (.t 92) (.t 97),false),(oB 99 .add (.t 91) (.t 98),false)] [oX 100 1 85 86,oS 1 100 99]))))) (.ops [oM 43 8,oB 44 .add (.t 43) (.c (.int .i64 1)),oM 8 44])))
def YQ:AC:=(.ops [oF 101 3 7,oL 102 1 101,oM 103 102,oFg 104 2 7 103 false,Zb 105 1 104 103 false,oCg 106 29 [(.t 105),(.c (.int .i64 (-1000000000))),(.c (.int .i64 1000000000))] 103 false,Zc 107 (.not (.t 106)) 103 false,oR 108 (.pick (.t 103) (.c (.bool true)) (.t 107)),oF 109 3 7,oS 1 109 108])
def YR:AC:=(.seq (sO [oM 110 11,oF 111 1 7,oL 112 1 111,oN 113 112,oB 114 .lss (.t 110) (.t 113)] (.cond (.t 114) .skip (.exit 4))) (.seq (.block 5 (.ops [oF 117 3 7,oL 118 1 117,oM 119 118,oFg 120 1 7 119 false,Zb 121 1 120 119 false,oMg 122 11 119 false,Zc 123 (.idx 1 (.t 121) (.t 122)) 119 false,Zb 124 1 123 119 false,oCg 125 29 [(.t 124),(.c (.int .i64 (-1000000000))),(.c (.int .i64 1000000000))] 119 false,Zc 126 (.not (.t 125)) 119 false,oR 127 (.pick (.t 119) (.c (.bool true)) (.t 126)),oF 128 3 7,oS 1 128 127])) (.ops [oM 115 11,oB 116 .add (.t 115) (.c (.int .i64 1)),oM 11 116])))
def aAa:AC:=(sO [⟨(some 3),(.d (.box 4 (.t 0))),none⟩,⟨(some 4),(.d (.box 4 (.t 1))),none⟩,⟨(some 6),(.d (.alloc [(.ah [] .nil),(.ah [] .nil),(.int .i64 0),(.bool false)])),none⟩] (.seq (.ops ([oF 12 2 3,oL 13 1 12,oM 14 2,oF 15 2 4,oL 16 1 15,oB 17 .mul (.t 14) (.t 16),oB 18 .add (.t 13) (.t 17),oF 19 3 3,oL 20 1 19,oM 21 20]++YN++[oR 25 (.build [(.ah [] .nil),(.ah [] .nil),(.int .i64 0),(.bool false)] [(2,(1,(.t 18))),(3,(1,(.t 24)))]),⟨(some 7),(.d (.alloc [(.ah [] .nil),(.ah [] .nil),(.int .i64 0),(.bool false)])),none⟩,oS 4 7 25])) (.seq (.sV [0,1,0,4,15,0,32,0,128,511,127,2047,4095,8191] [(oF 26 0 7,false),(oL 27 1 26,false),(oF 28 0 3,false),(oL 29 1 28,false),(⟨(some 30),(.n (.app 1 24 (.t 27) (.t 29))),none⟩,true),(oF 31 1 7,false),(oL 32 1 31,false),(oF 33 1 3,false),(oL 34 1 33,false),(⟨(some 35),(.n (.app 1 8 (.t 32) (.t 34))),none⟩,true),(oF 36 0 7,false)] [oS 1 36 30,oF 37 1 7,oS 1 37 35]) (.seq (sO [oI 8 0] (.block 0 (.loop YP))) (.seq YQ (.seq (sO [oI 11 0] (.block 4 (.loop YR))) (.seq (sO [oF 129 3 7,oL 130 1 129] (.cond (.t 130) (sO [oR 131 (.build [(.ah [] .nil),(.ah [] .nil),(.int .i64 0),(.bool false)] [(3,(1,(.c (.bool true))))]),oS 4 6 131] .ret) .skip)) (sO [oA 132 4 7,oS 4 6 132] .ret))))))))
theorem aHF:aM Tryz.prog dc true 81 133 [(.cell 6 4 true)] aAa:=aQ Tryz.func81
end Go.VL.Kq
end
section
set_option maxRecDepth 100000
set_option maxHeartbeats 4000000
namespace Go.VL
open Go.Proofs
def uN:Nat->List (List Nd)->List Nd->Int->Int->Option Int
 |0,_,_,_,_=>none
 |k+1,us,u,at_,i=>cond (decide (i<(us.length:Int))) (if 0<=i then (us[i.toNat]?).bind fun o=>(PY k o u).bind fun p=>uN k us u (cond p i at_) (IntKind.wrap .i64 (i+1))else none) (some at_)
theorem agd {g:Fq} {us:List (List Nd)} {u:List Nd} {ib:Int} {vU vB num bad:PV} {iU:List Nat} {o4 o7:Nat} (hi:0<=ib) (hu:g.us[ib.toNat]? =some u): ∀(k:Nat) (at_ i:Int) (σ:Nat->PV) (H:AH) (Q:Post) (r:Int),σ 4= .ref o4 0->σ 7= .ref o7 0->σ 8= .int .i64 ib->σ 9= .int .i64 at_->σ 10= .int .i64 i->H.obj o4=some g.cells->H.obj o7=some [vU,vB,num,bad]->aB H (bR Nd.cells) 1 us vU iU->
 uN k us u at_ i=some r->(∀σ',Fv [(9,11),(45,64)] σ σ'->σ' 9= .int .i64 r->Q (.exit 2) σ' H)->W Tryz.prog (.loop Kq.YO) Q σ H:=by
 intro k
 induction k with
 |zero=>intro at_ i σ H Q r s4 s7 s8 s9 s10 h4 h7 rU h hQ;simp only [uN,reduceCtorEq]at h
 |succ k ih=>
  intro at_ i σ H Q r s4 s7 s8 s9 s10 h4 h7 rU h hQ
  unfold uN at h;refine bB (fun K hK=>aI ?_);unfold Kq.YO;have lU:=rU.Ow;obtain⟨e1,h⟩|⟨e1,h⟩:=aJ h
  · obtain⟨e2,h⟩:=aX h;obtain⟨o,e3,h⟩:=aj h;obtain⟨p,e4,h⟩:=aj h;obtain⟨id,C,hid,hlt,hC,hcell,hL,hD,hI⟩:=aB.content rU e3;have hx:jS 1 vU (.int .i64 i)=some (.ref id i.toNat):=by simpa using hI .i64 i e2 rfl
    have hcc:C[i.toNat]? =some (.ah (o.map Nd.cells) .unk):=by simpa using hcell 0 _ rfl
    refine ak ?_;refine oH ?_;refine ak ?_;refine av (aoT e4) ?_;rcases p with _|_
    · rw [O2]at h;refine ak ?_;refine hK _ _ ?_;exact ih _ _ _ H Q r aC aC aC aC aC h4 h7 rU h fun σ' f s=>hQ σ' (Fv.trans Db f) s
    · rw [S1]at h;refine ak ?_;refine hK _ _ ?_;exact ih _ _ _ H Q r aC aC aC aC aC h4 h7 rU h fun σ' f s=>hQ σ' (Fv.trans Db f) s
  · cases h;refine ak ?_;exact hQ _ Db aC
def zS (us:List (List Nd)) (cs:List Int) (a v:Int):Option (List (List Nd)×List Int):=
 if 0<=a then (cs[a.toNat]?).bind fun c=>some (us,cs.set a.toNat (IntKind.wrap .i64 (c+v)))else none
def uO:Nat->Fq->Int->List (List Nd)->List Int->Int->Option (List (List Nd)×List Int)
 |0,_,_,_,_,_=>none
 |k+1,g,t,us,cs,i=>
  cond (decide (i<(g.us.length:Int))) (if 0<=i then (g.us[i.toNat]?).bind fun u=>if us.length<=1000000/\cs.length<=1000000 then (uN k us u (-1) 0).bind fun a=>(g.cs[i.toNat]?).bind fun n=>
   (cond (decide (a<0)) (zS (us++[u]) (cs++[0]) (cs.length:Int) (IntKind.wrap .i64 (t*n))) (zS us cs a (IntKind.wrap .i64 (t*n)))).bind fun p=>uO k g t p.1 p.2 (IntKind.wrap .i64 (i+1))else none else none) (some (us,cs))
structure QlS (g:Fq) (t num:Int) (w:Bool) (o4 o6 o7:Nat) (us:List (List Nd)) (cs:List Int) (vU vB:PV) (iU iB:List Nat) (σ:Nat->PV) (H:AH):Prop where
 s2:σ 2= .int .i64 t
 s4:σ 4= .ref o4 0
 s6:σ 6= .ref o6 0
 s7:σ 7= .ref o7 0
 h4:H.obj o4=some g.cells
 h6:H.obj o6=some uH
 h7:H.obj o7=some [vU,vB,.int .i64 num,.bool w]
 l4:o4<H.next
 l6:o6<H.next
 l7:o7<H.next
 n47:o4≠o7
 n67:o6≠o7
 rU:aB H (bR Nd.cells) 1 us vU iU
 rB:aB H aK 1 cs vB iB
 dj:Dj iU iB
 LU:o4∉iU
 Ju:o6∉iU
 AZ:o7∉iU
 F6:o4∉iB
 Ej:o6∉iB
 wD:o7∉iB
abbrev asF:List (aD×Bool):=[(oF 84 1 7,false),(oL 85 1 84,false),(oM 86 9,false),(oF 87 1 7,false),(oL 88 1 87,false),(oM 89 9,false),(oX 90 1 88 89,false),(oL 91 1 90,false),(oM 92 2,false),(oF 93 1 4,false),(oL 94 1 93,false),(oM 95 8,false),(oX 96 1 94 95,false),(oL 97 1 96,false),(oB 98 .mul (.t 92) (.t 97),false),(oB 99 .add (.t 91) (.t 98),false)]
theorem aho {g:Fq} {t num a i c n:Int} {w:Bool} {o4 o7:Nat} {cs:List Int} {vU vB:PV} {iB:List Nat} {σ:Nat->PV} {H:AH} {s:List Fm} {Q:Post} (s2:σ 2= .int .i64 t) (s4:σ 4= .ref o4 0) (s7:σ 7= .ref o7 0) (s8:σ 8= .int .i64 i) (s9:σ 9= .int .i64 a)
 (h4:H.obj o4=some g.cells) (h7:H.obj o7=some [vU,vB,.int .i64 num,.bool w]) (rB:aB H aK 1 cs vB iB) (ha:0<=a) (hc:cs[a.toNat]? =some c) (hi:0<=i) (hn:g.cs[i.toNat]? =some n)
 (hK: ∀(H':AH) (σ':Nat->PV),aB H' aK 1 (cs.set a.toNat (IntKind.wrap .i64 (c+IntKind.wrap .i64 (t*n)))) vB iB->HF iB H H'->Fv [(84,101)] σ σ'->WE Tryz.prog .normal s Q σ' H'):
 WS Tryz.prog (.par asF [oX 100 1 85 86,oS 1 100 99]) s Q σ H:=by
 obtain⟨id,C,hid,hlt,hC,hcell,hL,hD,hI⟩:=aB.content rB hc;have hx:jS 1 vB (.int .i64 a)=some (.ref id a.toNat):=by simpa using hI .i64 a ha rfl
 have hcc:C[a.toNat]? =some (.int .i64 c):=by simpa using hcell 0 _ rfl
 unfold asF;refine oH ?_;refine dD ?_;refine qd (f:=aK) (id:=id) (o:=a.toNat) (i:=a.toNat) (j:=0) (a:=c) (y:=IntKind.wrap .i64 (c+IntKind.wrap .i64 (t*n))) (vs:=[(.int .i64 (IntKind.wrap .i64 (c+IntKind.wrap .i64 (t*n))))]) aC hid (by omega) rB hc aC rfl rfl (by decide) rfl (fun H' g1 g2 g3=> ?_);refine ak ?_;exact hK H' _ g1 g2 Db
theorem agf (g:Fq) (t num:Int) (w:Bool) (o4 o6 o7:Nat): ∀(k:Nat) (us:List (List Nd)) (cs:List Int) (i:Int) (vU vB:PV) (iU iB:List Nat) (σ:Nat->PV) (H:AH) (Q:Post) (us':List (List Nd)) (cs':List Int),QlS g t num w o4 o6 o7 us cs vU vB iU iB σ H->σ 8= .int .i64 i->
 uO k g t us cs i=some (us',cs')->(∀(wU wB:PV) (jU jB:List Nat) (σ':Nat->PV) (H':AH),QlS g t num w o4 o6 o7 us' cs' wU wB jU jB σ' H'->Q (.exit 0) σ' H')->W Tryz.prog (.loop Kq.YP) Q σ H:=by
 intro k
 induction k with
 |zero=>intro us cs i vU vB iU iB σ H Q us' cs' hS s8 h hQ;simp only [uO,reduceCtorEq]at h
 |succ k ih=>
  intro us cs i vU vB iU iB σ H Q us' cs' hS s8 h hQ;have s2:=hS.s2;have s4:=hS.s4;have s6:=hS.s6;have s7:=hS.s7;have h4:=hS.h4;have h7:=hS.h7;unfold uO at h;refine bB (fun K hK=>aI ?_);unfold Kq.YP Kq.ahn;obtain⟨e1,h⟩|⟨e1,h⟩:=aJ h
  · obtain⟨e2,h⟩:=aX h;obtain⟨u,e3,h⟩:=aj h;obtain⟨⟨e4,e4'⟩,h⟩:=aX h;obtain⟨a,e5,h⟩:=aj h;obtain⟨n,e6,h⟩:=aj h;obtain⟨⟨us2,cs2⟩,e7,h⟩:=aj h;refine ak ?_;refine agd (g:=g) (us:=us) (u:=u) (ib:=i) (vU:=vU) (vB:=vB) (o4:=o4) (o7:=o7) e2 e3 k (-1) 0 _ H _ a aC aC aC aC aC h4 h7 hS.rU e5 (fun σ1 f1 s9=> ?_);have f1':=f1.on;have l7:=hS.l7;have l4:=hS.l4;rcases hb:decide (a<0)with _|_
    · rw [hb,O2]at e7;unfold zS at e7;obtain⟨e8,e7⟩:=aX e7;obtain⟨c,e9,e7⟩:=aj e7;cases e7;refine ak ?_;refine aho (g:=g) (t:=t) (num:=num) (w:=w) (o4:=o4) (o7:=o7) (i:=i) (n:=n) (vU:=vU) aC aC aC aC aC h4 h7 hS.rB e8 e9 e2 e6 (fun H' σ' g1 g2 fv=> ?_);have f2':=fv.on;refine ak ?_;refine hK _ _ ?_;have nm: ∀x,x<H.next->x∉iB->H'.obj x=H.obj x:=fun x hx hm=>g2.2 x hx hm;refine ih us _ _ vU vB iU iB _ H' Q us' cs' ⟨aC,aC,aC,aC,(nm o4 l4 hS.F6).trans h4,(nm o6 hS.l6 hS.Ej).trans hS.h6,(nm o7 l7 hS.wD).trans h7,K0 l4 g2.1,K0 hS.l6 g2.1,K0 l7 g2.1,hS.n47,hS.n67,hS.rU.hf g2 hS.dj,g1,hS.dj,hS.LU,hS.Ju,hS.AZ,hS.F6,hS.Ej,hS.wD⟩ aC h hQ
    · rw [hb,S1]at e7;have lB:=hS.rB.Ow;have n7:o7∉iU++iB:=fun h=>(P2.1 h).elim hS.AZ hS.wD;have n4:o4∉iU++iB:=fun h=>(P2.1 h).elim hS.LU hS.F6;have n6:o6∉iU++iB:=fun h=>(P2.1 h).elim hS.Ju hS.Ej;unfold zS at e7;obtain⟨e8,e7⟩:=aX e7;obtain⟨c,e9,e7⟩:=aj e7;cases e7;refine ak ?_
      refine aeJ (f:=bR Nd.cells) (g:=aK) (fun x=>IG x) tJ (xs:=us) (ys:=[u]) (us:=cs) (ws:=[0]) (v:=vU) (w:=vB) (i1:=iU) (i2:=iB) (c1:= .exact) (c2:= .exact) 8 12 [.ref o7 0,vU,.ref o4 0,.ah (g.us.map (bR Nd.cells)) .unk,.int .i64 i,.cK [.ah (u.map Nd.cells) .unk] 0,.ah (u.map Nd.cells) .unk,.ah [[.ah (u.map Nd.cells) .unk]] .exact,ud,.ref o7 1,vB,.ah [[.int .i64 0]] .exact,ud,.ref o7 0]
       (by kernel_rfl) (by decide) (by decide+kernel) rfl rfl hS.rU hS.rB hS.dj (fun _ _=>rfl) (fun _ _=>rfl) (fun _ _=>rfl) (fun _ _=>rfl) (by simp only [I0,j0];omega) (by simp only [I0,j0];omega) (fun x y H' hf=> ?_) (fun wU wB H2 jU jB f2 f3 f4 f5 f6 fh=> ?_)
      · have h7':=(hf.2 o7 l7 n7).trans h7;have h4':=(hf.2 o4 l4 n4).trans h4;exact⟨.inr (.inr ⟨rfl,mX⟩),.inr (.inr ⟨rfl,mX⟩),.inr (.inr ⟨rfl,mX⟩),.inr (.inr ⟨rfl,mX⟩),.inr (.inr ⟨rfl,mX⟩),.inr (.inr ⟨rfl,mX⟩),.inr (.inr ⟨rfl,mX⟩),.inr (.inr ⟨rfl,mX⟩),.inl rfl,.inr (.inr ⟨rfl,mX⟩),.inr (.inr ⟨rfl,mX⟩),.inr (.inr ⟨rfl,mX⟩),.inl rfl,.inr (.inr ⟨rfl,mX⟩),trivial⟩
      simp only [bV,I0,j0,Nat.reduceAdd,Cx,Nat.reduceEqDiff,reduceIte,d5,N2,E2];have h72:=(fh.2 o7 l7 n7).trans h7;have h42:=(fh.2 o4 l4 n4).trans h4;have h62:=(fh.2 o6 hS.l6 n6).trans hS.h6;have nw: ∀x,x<H.next->x∉iU->x∉iB->x∉jU/\x∉jB:=fun x hx h1 h2=>⟨fun h=>by rcases f4 x h with q|q;exact h1 q;omega,fun h=>by rcases f5 x h with q|q;exact h2 q;omega⟩
      obtain⟨AZ,wD⟩:=nw o7 l7 hS.AZ hS.wD;obtain⟨LU,F6⟩:=nw o4 l4 hS.LU hS.F6;obtain⟨Ju,Ej⟩:=nw o6 hS.l6 hS.Ju hS.Ej;have cU:=f2.co;have cB:=f3.co;have oU:=f2.one;have oB:=f3.one;refine YG fun fr hfr=> ?_;refine ak ?_;subst hfr;have q0:(cs++[0])[((cs.length:Nat):Int).toNat]? =some c:=e9;have pf:HF [o7] H2 ((H2.put o7 [wU,vB,PV.int IntKind.i64 num,PV.bool w]).put o7 [wU,wB,PV.int IntKind.i64 num,PV.bool w]):=HF.put (.inl (by simp)) (HF.put (.inl (by simp)) (HF.refl _ _));have p7:((H2.put o7 [wU,vB,PV.int IntKind.i64 num,PV.bool w]).put o7 [wU,wB,PV.int IntKind.i64 num,PV.bool w]).obj o7=some [wU,wB,PV.int IntKind.i64 num,PV.bool w]:=if_pos rfl;generalize((H2.put o7 [wU,vB,PV.int IntKind.i64 num,PV.bool w]).put o7 [wU,wB,PV.int IntKind.i64 num,PV.bool w])=H3 at pf p7⊢;have LV: ∀(j:List Nat),o7∉j->Dj j [o7]:=fun j h x hx hm=>h (P0.1 hm▸hx);have h43:=(pf.2 o4 (K0 l4 fh.1) (by simpa using hS.n47)).trans h42;have h63:=(pf.2 o6 (K0 hS.l6 fh.1) (by simpa using hS.n67)).trans h62;have rU3:=f2.hf pf (LV _ AZ);have rB3:=f3.hf pf (LV _ wD);refine aho (g:=g) (t:=t) (num:=num) (w:=w) (o4:=o4) (o7:=o7) (i:=i) (n:=n) (a:=cs.length) (vU:=wU) aC aC aC aC aC h43 p7 rB3 e8 q0 e2 e6 (fun H' σ' g1 g2 fv=> ?_);have f2':=fv.on;refine ak ?_;refine hK _ _ ?_;have WC: ∀x,x<H.next->x<H3.next:=fun x hx=>K0 hx (E1 fh.1 pf.1);have nm: ∀x,x<H.next->x∉jB->H'.obj x=H3.obj x:=fun x hx hm=>g2.2 x (WC x hx) hm;refine ih (us++[u]) _ _ wU wB jU jB _ H' Q us' cs' ⟨aC,aC,aC,aC,(nm o4 l4 F6).trans h43,(nm o6 hS.l6 Ej).trans h63,(nm o7 l7 wD).trans p7,K0 (WC _ l4) g2.1,K0 (WC _ hS.l6) g2.1,K0 (WC _ l7) g2.1,hS.n47,hS.n67,rU3.hf g2 f6,g1,f6,LU,Ju,AZ,F6,Ej,wD⟩ aC h hQ
  · cases h;refine ak ?_;exact hQ vU vB iU iB _ _ ⟨aC,aC,aC,aC,hS.h4,hS.h6,hS.h7,hS.l4,hS.l6,hS.l7,hS.n47,hS.n67,hS.rU,hS.rB,hS.dj,hS.LU,hS.Ju,hS.AZ,hS.F6,hS.Ej,hS.wD⟩
theorem aC9 {g:Fq} {fw:Bool} {o4:Nat} {σ:Nat->PV} {H:AH} {s:List Fm} {Q:Post} (s4:σ 4= .ref o4 0) (s21:σ 21= .bool fw) (h4:H.obj o4=some g.cells)
 (hK: ∀σ',Fv [(22,25)] σ σ'->σ' 24= .bool (fw||g.wide)->WE Tryz.prog .normal s Q σ' H):WO Tryz.prog Kq.YN s Q σ H:=by
 unfold Kq.YN;rcases fw with _|_
 · refine ak ?_;exact hK _ Db (by simp -implicitDefEqProofs only [go_sem,Q4])
 · refine ak ?_;exact hK _ Db (by simp -implicitDefEqProofs only [go_sem,S8])
theorem aDa {num:Int} {w w':Bool} {vU vB:PV} {o7:Nat} {σ:Nat->PV} {H:AH} {s:List Fm} {Q:Post} (s7:σ 7= .ref o7 0) (h7:H.obj o7=some [vU,vB,.int .i64 num,.bool w]) (h:cond w (some true) ((dw num (-1000000000) 1000000000).bind fun q=>some (!q))=some w')
 (hK: ∀σ',Fv [(101,110)] σ σ'->WE Tryz.prog .normal s Q σ' (H.put o7 [vU,vB,.int .i64 num,.bool w'])):WS Tryz.prog Kq.YQ s Q σ H:=by
 unfold Kq.YQ;obtain⟨rfl,h⟩|⟨rfl,h⟩:=aJ h
 · cases h;refine ak ?_;exact hK _ Db
 · obtain⟨q,e1,h⟩:=aj h;cases h;refine ak ?_;refine av (uV e1) ?_;refine ak ?_;exact hK _ Db
def qC:Nat->List Int->Bool->Int->Option Bool
 |0,_,_,_=>none
 |k+1,l,b,i=>cond (decide (i<(l.length:Int))) (cond b (qC k l true (IntKind.wrap .i64 (i+1))) (if 0<=i then (l[i.toNat]?).bind fun n=>(dw n (-1000000000) 1000000000).bind fun p=>qC k l (!p) (IntKind.wrap .i64 (i+1))else none)) (some b)
theorem agh (l:List Int) (vU vB:PV) (j:List Nat) (num:Int) (o6 o7:Nat): ∀(k:Nat) (b:Bool) (i:Int) (σ:Nat->PV) (H:AH) (Q:Post) (b':Bool),σ 11= .int .i64 i->σ 7= .ref o7 0->σ 6= .ref o6 0->H.obj o7=some [vU,vB,.int .i64 num,.bool b]->aB H aK 1 l vB j->o7∉j->o7<H.next->
 qC k l b i=some b'->(∀(σ':Nat->PV) (H':AH),HF [o7] H H'->H'.obj o7=some [vU,vB,.int .i64 num,.bool b']->σ' 7= .ref o7 0->σ' 6= .ref o6 0->Q (.exit 4) σ' H')->W Tryz.prog (.loop Kq.YR) Q σ H:=by
 intro k
 induction k with
 |zero=>intro b i σ H Q b' s11 s7 s6 h7 hr n7 l7 h hQ;simp only [qC,reduceCtorEq]at h
 |succ k ih=>
  intro b i σ H Q b' s11 s7 s6 h7 hr n7 l7 h hQ;unfold qC at h;refine bB (fun K hK=>aI ?_);unfold Kq.YR;have lB:=hr.Ow;obtain⟨e1,h⟩|⟨e1,h⟩:=aJ h
  · have step: ∀(p:Bool) (σ':Nat->PV),(σ' 11= .int .i64 (IntKind.wrap .i64 (i+1))/\σ' 7= .ref o7 0/\σ' 6= .ref o6 0)->qC k l p (IntKind.wrap .i64 (i+1))=some b'->K σ' (H.put o7 [vU,vB,.int .i64 num,.bool p]):=by
     intro p σ' ⟨t11,t7,t6⟩ h;refine hK _ _ ?_;have pf:HF [o7] H (H.put o7 [vU,vB,.int .i64 num,.bool p]):=HF.put (.inl (by simp)) (HF.refl _ _);exact ih p _ σ' _ Q b' t11 t7 t6 (if_pos rfl) (hr.hf pf (fun x hx hm=>n7 (P0.1 hm▸hx))) n7 l7 h (fun σ2 H2 g1 g2 g3 g4=>hQ σ2 H2 (pf.tr g1) g2 g3 g4)
    obtain⟨rfl,h⟩|⟨rfl,h⟩:=aJ h
    · refine ak ?_;first|trivial|exact step true _ ⟨aC,aC,aC⟩ h
    · obtain⟨e2,h⟩:=aX h;obtain⟨n,e3,h⟩:=aj h;obtain⟨p,e5,h⟩:=aj h;obtain⟨id,C,hid,hlt,hC,hcell,hL,hD,hI⟩:=aB.content hr e3;have hx:jS 1 vB (.int .i64 i)=some (.ref id i.toNat):=by simpa using hI .i64 i e2 rfl
      have hcc:C[i.toNat]? =some (.int .i64 n):=by simpa using hcell 0 _ rfl
      have n7':o7≠id:=fun e=>n7 (by rw [hid,e];simp);refine ak ?_;refine av (uV e5) ?_;refine ak ?_;first|trivial|exact step (!p) _ ⟨aC,aC,aC⟩ h
  · cases h;refine ak ?_;exact hQ _ _ (HF.refl _ _) h7 aC aC
def eX (k:Nat) (f g:Fq) (t:Int):Option Fq:=
 if f.us.length<=1000000/\f.cs.length<=1000000 then
  (uO k g t f.us f.cs 0).bind fun p=>(cond (f.wide||g.wide) (some true) ((dw (IntKind.wrap .i64 (f.num+IntKind.wrap .i64 (t*g.num))) (-1000000000) 1000000000).bind fun q=>some (!q))).bind fun w=>
   (qC k p.2 w 0).bind fun w2=>cond w2 (some ⟨[],[],0,true⟩) (some ⟨p.1,p.2,IntKind.wrap .i64 (f.num+IntKind.wrap .i64 (t*g.num)),false⟩)else none
theorem ao4 {k:Nat} {f g:Fq} {t:Int} {r:Fq} (h:eX k f g t=some r):aG Tryz.prog 81 [(.agg f.cells),(.agg g.cells),(.int .i64 t)] (.agg r.cells):=by
 refine aG.bX (dJ.mem (.cons (.agg _ (Fq.pu _)) (.cons (.agg _ (Fq.pu _)) (.cons (.int _ _) .nil)))) (aL Kq.aHF (by simp) (aI ?_)) (.agg _ (Fq.pu _));unfold eX at h;unfold Kq.aAa;obtain⟨⟨hu,hc⟩,h⟩:=aX h;obtain⟨p,e7,h⟩:=aj h;obtain⟨w,e8,h⟩:=aj h;obtain⟨w2,e9,hz⟩:=aj h;refine ak ?_;have e4:(((AH.empty.new f.cells).new g.cells).new uH).obj (AH.empty.next+1)=some g.cells:=rfl;refine aC9 (g:=g) (fw:=f.wide) (o4:=AH.empty.next+1) aC aC e4 (fun σ1 f1 s24=> ?_);have f1':=f1.on;refine ak ?_;generalize aHG:IntKind.wrap .i64 (f.num+IntKind.wrap .i64 (t*g.num))=num at*;generalize hw0:(f.wide||g.wide)=w0 at*;show WS Tryz.prog _ _ _ _ (((((AH.empty.new f.cells).new g.cells).new uH).new uH).put (AH.empty.next+3) [.ah [] .nil,.ah [] .nil,.int .i64 num,.bool w0]);have a3:(((((AH.empty.new f.cells).new g.cells).new uH).new uH).put (AH.empty.next+3) [.ah [] .nil,.ah [] .nil,.int .i64 num,.bool w0]).obj AH.empty.next=some f.cells:=rfl;have a4:(((((AH.empty.new f.cells).new g.cells).new uH).new uH).put (AH.empty.next+3) [.ah [] .nil,.ah [] .nil,.int .i64 num,.bool w0]).obj (AH.empty.next+1)=some g.cells:=rfl;have a6:(((((AH.empty.new f.cells).new g.cells).new uH).new uH).put (AH.empty.next+3) [.ah [] .nil,.ah [] .nil,.int .i64 num,.bool w0]).obj (AH.empty.next+2)=some uH:=rfl;have a7:(((((AH.empty.new f.cells).new g.cells).new uH).new uH).put (AH.empty.next+3) [.ah [] .nil,.ah [] .nil,.int .i64 num,.bool w0]).obj (AH.empty.next+3)=some [.ah [] .nil,.ah [] .nil,.int .i64 num,.bool w0]:=rfl;have an:(((((AH.empty.new f.cells).new g.cells).new uH).new uH).put (AH.empty.next+3) [.ah [] .nil,.ah [] .nil,.int .i64 num,.bool w0]).next=AH.empty.next+4:=rfl;clear e4;generalize(((((AH.empty.new f.cells).new g.cells).new uH).new uH).put (AH.empty.next+3) [.ah [] .nil,.ah [] .nil,.int .i64 num,.bool w0])=H1 at a3 a4 a6 a7 an⊢;generalize AH.empty.next=o3 at*
 refine aeJ (f:=bR Nd.cells) (g:=aK) (fun x=>IG x) tJ (xs:=[]) (ys:=f.us) (us:=[]) (ws:=f.cs) (v:= .ah [] .nil) (w:= .ah [] .nil) (i1:=[]) (i2:=[]) (c1:= .unk) (c2:= .unk) 4 9 [.ref (o3+3) 0,.ah [] .nil,.ref o3 0,.ah (f.us.map (bR Nd.cells)) .unk,ud,.ref (o3+3) 1,.ah [] .nil,.ref o3 1,.ah (f.cs.map aK) .unk,ud,.ref (o3+3) 0]
  (by kernel_rfl) (by decide) (by decide+kernel) rfl rfl aB.nil aB.nil Dj.nil (fun _ _=>rfl) (fun _ _=>rfl) (fun _ _=>rfl) (fun _ _=>rfl) (by simp only [j0];omega) (by simp only [j0];omega) (fun x y H' hf=> ?_) (fun wU wB H2 jU jB f2 f3 f4 f5 f6 fh=> ?_)
 · have h3':=(hf.2 o3 (by omega) D0).trans a3;have h7':=(hf.2 (o3+3) (by omega) D0).trans a7;exact⟨.inr (.inr ⟨rfl,mX⟩),.inr (.inr ⟨rfl,mX⟩),.inr (.inr ⟨rfl,mX⟩),.inr (.inr ⟨rfl,mX⟩),.inl rfl,.inr (.inr ⟨rfl,mX⟩),.inr (.inr ⟨rfl,mX⟩),.inr (.inr ⟨rfl,mX⟩),.inr (.inr ⟨rfl,mX⟩),.inl rfl,.inr (.inr ⟨rfl,mX⟩),trivial⟩
 simp only [bV,I0,j0,Nat.reduceAdd,Cx,Nat.reduceEqDiff,reduceIte,d5,N2,E2];rw [R2]at f2 f3;have b4:=(fh.2 (o3+1) (by omega) D0).trans a4;have b6:=(fh.2 (o3+2) (by omega) D0).trans a6;have b7:=(fh.2 (o3+3) (by omega) D0).trans a7;have nU: ∀x,x<H1.next->x∉jU/\x∉jB:=fun x hx=>⟨fun h=>by rcases f4 x h with q|q;cases q;omega,fun h=>by rcases f5 x h with q|q;cases q;omega⟩
 have lt2:=fh.1;have cU:=f2.co;have cB:=f3.co;have oU:=f2.one;have oB:=f3.one;refine YG fun fr hfr=> ?_;refine ak ?_;subst hfr;generalize ho7:o3+3=o7 at*;have pf:HF [o7] H2 ((H2.put o7 [wU,.ah [] .nil,.int .i64 num,.bool w0]).put o7 [wU,wB,.int .i64 num,.bool w0]):=HF.put (.inl (by simp)) (HF.put (.inl (by simp)) (HF.refl _ _));have p7:((H2.put o7 [wU,.ah [] .nil,.int .i64 num,.bool w0]).put o7 [wU,wB,.int .i64 num,.bool w0]).obj o7=some [wU,wB,.int .i64 num,.bool w0]:=if_pos rfl;have pn:((H2.put o7 [wU,.ah [] .nil,.int .i64 num,.bool w0]).put o7 [wU,wB,.int .i64 num,.bool w0]).next=H2.next:=rfl;show WS Tryz.prog _ _ _ _ ((H2.put o7 [wU,.ah [] .nil,.int .i64 num,.bool w0]).put o7 [wU,wB,.int .i64 num,.bool w0]);generalize((H2.put o7 [wU,.ah [] .nil,.int .i64 num,.bool w0]).put o7 [wU,wB,.int .i64 num,.bool w0])=H3 at pf p7 pn⊢;have LV: ∀(j:List Nat),o7∉j->Dj j [o7]:=fun j h x hx hm=>h (P0.1 hm▸hx);have n47:o3+1≠o7:=by omega
 have n67:o3+2≠o7:=by omega
 have c4:=(pf.2 (o3+1) (by omega) (by simpa using n47)).trans b4;have c6:=(pf.2 (o3+2) (by omega) (by simpa using n67)).trans b6;refine agf g t num w0 (o3+1) (o3+2) o7 k f.us f.cs 0 wU wB jU jB _ H3 _ p.1 p.2 ⟨aC,aC,aC,aC,c4,c6,p7,by omega,by omega,by omega,n47,n67,f2.hf pf (LV _ (nU _ (by omega)).1),f3.hf pf (LV _ (nU _ (by omega)).2),f6,(nU _ (by omega)).1,(nU _ (by omega)).1,(nU _ (by omega)).1,(nU _ (by omega)).2,(nU _ (by omega)).2,(nU _ (by omega)).2⟩ aC e7 (fun vU vB iU iB σ3 H4 S=> ?_);have t7:=S.s7;have t6:=S.s6;refine ak ?_;refine aDa t7 S.h7 e8 (fun PO f4'=> ?_);have aMJ:=f4'.on;have pf4:HF [o7] H4 (H4.put o7 [vU,vB,.int .i64 num,.bool w]):=HF.put (.inl (by simp)) (HF.refl _ _);have p74:(H4.put o7 [vU,vB,.int .i64 num,.bool w]).obj o7=some [vU,vB,.int .i64 num,.bool w]:=if_pos rfl;generalize(H4.put o7 [vU,vB,.int .i64 num,.bool w])=H5 at pf4 p74⊢;refine ak ?_;refine agh p.2 vU vB iB num (o3+2) o7 k w 0 _ H5 _ w2 aC aC aC p74 (S.rB.hf pf4 (LV _ S.wD)) S.wD (K0 S.l7 pf4.1) e9 (fun Wt H6 m1 m2 m3 m4=> ?_);have d6:=(m1.2 (o3+2) (K0 S.l6 pf4.1) (by simpa using n67)).trans ((pf4.2 (o3+2) S.l6 (by simpa using n67)).trans S.h6);have oU':=S.rU.one;have oB':=S.rB.one;have rU6:=(S.rU.hf pf4 (LV _ S.AZ)).hf m1 (LV _ S.AZ);have rB6:=(S.rB.hf pf4 (LV _ S.wD)).hf m1 (LV _ S.wD);obtain⟨rfl,hz⟩|⟨rfl,hz⟩:=aJ hz
 · cases hz;refine ak ?_;exact jT (.cons (jV (tN Nd.pu) [] _) (.cons (jV gV [] _) (gB (.cons (.pure _ (.bool _)) .nil))))
 · cases hz;refine ak ?_;have pf5: ∀a,HF [o3+2] H6 (H6.put (o3+2) a):=fun a=>HF.put (.inl (by simp)) (HF.refl _ _);have d6': ∀j,(o3+2∉j)->Dj j [o3+2]:=fun j h1 x hx hm=>h1 (P0.1 hm▸hx);exact jT (.cons ((rU6.hf (pf5 _) (d6' _ S.Ju)).fz (tN Nd.pu)) (.cons ((rB6.hf (pf5 _) (d6' _ S.Ej)).fz gV) (gB (.cons (.pure _ (.bool _)) .nil))))
instance aHH (k:Nat) (f g:Fq) (t:Int):bY Tryz.prog 81 [(.agg f.cells),(.agg g.cells),(.int .i64 t)] (eX k f g t) (fun r=>(.agg r.cells)):=⟨fun _ h=>ao4 h⟩
end Go.VL
end
section
set_option maxHeartbeats 4000000
namespace Go.VL
open Go.Proofs
def Qb (au:List Nd) (Ia:Str):Option Bool:=
 (uj au).bind fun p2=>cond (p2.kind==3) (some (p2.text==Ia)) (some false)
instance aKE (au:List Nd) (Ia:Str):bY Tryz.prog 64 [(.ah (au.map Nd.cells) .unk),(.str Ia)] (Qb au Ia) (fun r=>(.bool r)):=bM aFu (by unfold Qb awD;exact bE)
def zT (k:Nat) (au:List Nd):Option (List Nd):=
 (qy k au 0).bind fun p2=>some p2
instance aHI (k:Nat) (au:List Nd):bY Tryz.prog 68 [(.ah (au.map Nd.cells) .unk)] (zT k au) (fun r=>(.ah (r.map Nd.cells) .unk)):=bM anx (by unfold zT awE;exact bE)
def CB (k:Nat) (au:List Nd):Option (List Nd):=
 (qy k au 1).bind fun p2=>some p2
instance aEP (k:Nat) (au:List Nd):bY Tryz.prog 69 [(.ah (au.map Nd.cells) .unk)] (CB k au) (fun r=>(.ah (r.map Nd.cells) .unk)):=bM aFv (by unfold CB awF;exact bE)
def Qc (au:List Nd):Option Bool:=
 cond ((au.length:Int)==1) ((au[0]?).bind fun x2=>cond (x2.kind==2) (some (x2.text==([70,65,76,83,69]:Str))) (some false)) (some false)
def nT:Nat->(List (List Nd))->(List Int)->Int->Bool->Int->Option (Unit⊕Bool)
 |0,_,_,_,_,_=>none
 |k+1,ji,Qv,abl,abm,fA=>
  cond (decide (fA<(Qv.length:Int))) (if 0<=fA then (Qv[fA.toNat]?).bind fun x3=>cond (x3 !=0) (some (.inr (false))) (nT k ji Qv abl abm (IntKind.wrap .i64 (fA+1)))else none) (some (.inl ()))
instance asG (k:Nat): ∀(ji:List (List Nd)) (Qv:List Int) (abl:Int) (abm:Bool) (fA:Int),Lo Tryz.prog (.loop XU) (nT k ji Qv abl abm fA) [(2,17)] [(3,(.int .i64 fA))] [(1,[(.ah (ji.map (bR Nd.cells)) .unk),(.ah (Qv.map aK) .unk),(.int .i64 abl),(.bool abm)])] (Sum.elim (fun p=>(.exit 0,[],none)) (fun p=>(.ret,[(2,(.bool p))],none))):=by
 induction k with
 |zero=>exact fun _ _ _ _ _=>lo0 rfl
 |succ k ih=>exact fun _ _ _ _ _=>loS XU.eq_1 (by unfold nT;exact iI)
def j6 (k:Nat) (zR:Fq):Option Bool:=
 Option.bind (nT k zR.us zR.cs zR.num zR.wide 0) (fun o=>Sum.elim (fun p8=>some (!zR.wide)) (fun tQ=>some tQ) o)
instance aAb (k:Nat) (zR:Fq):bY Tryz.prog 83 [(.agg (Fq.cells zR))] (j6 k zR) (fun r=>(.bool r)):=bM awQ (by unfold j6 awP;exact FK)
def BA (HY:List (List Nd)) (HZ:List Int) (Kt:Int) (Fx:Bool) (ajB:Bool):Option Bool:=
 cond ajB (some (true)) (some (Fx))
instance avi (HY:List (List Nd)) (HZ:List Int) (Kt:Int) (Fx:Bool) (ajB:Bool):Lo Tryz.prog (.ops Sn) (BA HY HZ Kt Fx ajB) [(55,58)] [(54,(.bool ajB))] [(5,[(.ah (HY.map (bR Nd.cells)) .unk),(.ah (HZ.map aK) .unk),(.int .i64 Kt),(.bool Fx)])] (fun p=>(.normal,[(57,(.bool p))],none)):=IU Sn.eq_1 (by unfold BA;exact iI)
def iP:Nat->(List Nd)->Option Fq
 |0,_=>none
 |k+1,au=>
  (uj au).bind fun p2=>cond (p2.kind==0) (some (Fq.mk [] [] p2.n false)) ((Qb au ([43]:Str)).bind fun p5=>cond p5 ((zT k au).bind fun p8=>(iP k p8).bind fun mH=>(CB k au).bind fun rT=>(iP k rT).bind fun nG=>(eX k mH nG 1).bind fun p16=>some p16) ((Qb au ([45]:Str)).bind fun AQ=>cond AQ ((zT k au).bind fun yY=>(iP k yY).bind fun FN=>(CB k au).bind fun p25=>(iP k p25).bind fun p27=>(eX k FN p27 (-1)).bind fun p29=>some p29) ((Qb au ([45,46]:Str)).bind fun p31=>cond p31 ((zT k au).bind fun p34=>(iP k p34).bind fun p36=>(eX k (Fq.mk [] [] 0 false) p36 (-1)).bind fun p38=>some p38) ((Qb au ([42]:Str)).bind fun p40=>cond p40 ((zT k au).bind fun p43=>(iP k p43).bind fun p45=>(CB k au).bind fun p47=>(iP k p47).bind fun p49=>Option.bind (BA p49.us p49.cs p49.num p49.wide p45.wide) (fun p53=>cond p53 (some (Fq.mk [] [] 0 true)) ((j6 k p45).bind fun p64=>cond p64 ((eX k (Fq.mk [] [] 0 false) p49 p45.num).bind fun p67=>some p67) ((j6 k p49).bind fun p69=>cond p69 ((eX k (Fq.mk [] [] 0 false) p45 p49.num).bind fun p72=>some p72) (some (Fq.mk [au] [1] 0 false)))))) (some (Fq.mk [au] [1] 0 false))))))
instance aDb (k:Nat): ∀(au:List Nd),bY Tryz.prog 148 [(.ah (au.map Nd.cells) .unk)] (iP k au) (fun r=>(.agg (Fq.cells r))):=by
 induction k with
 |zero=>exact fun _=>avZ rfl
 |succ k ih=>exact fun _=>bM aBk (by unfold iP ap3;exact FK)
def uP (bJ:Int) (dI:Int) (dh:Str) (dN:List Str) (dU:List Int) (fE:Bool):Option Bool:=
 cond fE (some (true)) (some (((dU.length:Int) !=2)))
instance amD (bJ:Int) (dI:Int) (dh:Str) (dN:List Str) (dU:List Int) (fE:Bool):Lo Tryz.prog (.ops XT) (uP bJ dI dh dN dU fE) [(14,19)] [(13,(.bool fE))] [(5,Nd.cells ⟨bJ,dI,dh,dN,dU⟩)] (fun p=>(.normal,[(18,(.bool p))],none)):=IU XT.eq_1 (by unfold uP;exact iI)
def jh (k:Nat) (au:List Nd):Option (Fq×Bool×Bool):=
 (uj au).bind fun p2=>Option.bind (uP p2.kind p2.n p2.text p2.names p2.args (p2.kind !=3)) (fun p6=>cond p6 (some ((Fq.mk [] [] 0 false),false,false)) ((zT k au).bind fun p16=>(iP k p16).bind fun AQ=>(CB k au).bind fun I6=>(iP k I6).bind fun y5=>cond (p2.text==([60,61]:Str)) ((eX k y5 AQ (-1)).bind fun p25=>some (p25,false,true)) (cond (p2.text==([60]:Str)) ((eX k y5 AQ (-1)).bind fun p28=>(eX k p28 (Fq.mk [] [] (-1) false) 1).bind fun p30=>some (p30,false,true)) (cond (p2.text==([62,61]:Str)) ((eX k AQ y5 (-1)).bind fun p33=>some (p33,false,true)) (cond (p2.text==([62]:Str)) ((eX k AQ y5 (-1)).bind fun p36=>(eX k p36 (Fq.mk [] [] (-1) false) 1).bind fun p38=>some (p38,false,true)) (cond (p2.text==([61]:Str)) ((eX k AQ y5 (-1)).bind fun p41=>some (p41,true,true)) (some ((Fq.mk [] [] 0 false),false,false))))))))
instance au2 (k:Nat) (au:List Nd):bY Tryz.prog 80 [(.ah (au.map Nd.cells) .unk)] (jh k au) (fun r=>(.dn [(.agg (Fq.cells r.1)),(.bool r.2.1),(.bool r.2.2)])):=bM anA (by unfold jh awO;exact FK)
def En (bD:List Int) (yO:Int) (agi:Bool) (Uo:Bool):Option Bool:=
 cond Uo (some (true)) (cond agi (if 0<=yO then (bD[yO.toNat]?).bind fun x10=>(dw x10 (-10000) 10000).bind fun tQ=>some ((!tQ))else none) (if 0<=yO then (bD[yO.toNat]?).bind fun x15=>cond (decide (x15<0)) (some (true)) ((dw x15 (-10000) 10000).bind fun Bc=>some ((!Bc)))else none))
def iN:Nat->(List (List Nd))->(List Int)->(List (List Nd))->(List Int)->Int->Bool->Bool->Int->Option ((Bool×(List (List Nd))×(List Int)×Int×Bool)⊕(Bool×(List (List Nd))×(List Int)×Int×Bool))
 |0,_,_,_,_,_,_,_,_=>none
 |k+1,aZ,bD,qK,qL,qM,sj,rZ,yO=>
  cond (decide (yO<(aZ.length:Int))) (if 0<=yO then (aZ[yO.toNat]?).bind fun x3=>(jh k x3).bind fun p6=>Option.bind (En bD yO p6.2.1 (!p6.2.2)) (fun y5=>cond y5 (some (.inr ((false,qK,qL,qM,sj)))) (cond rZ ((bD[yO.toNat]?).bind fun OP=>(eX k (Fq.mk qK qL qM sj) p6.1 OP).bind fun p39=>iN k aZ bD p39.us p39.cs p39.num p39.wide p6.2.1 (IntKind.wrap .i64 (yO+1))) ((bD[yO.toNat]?).bind fun x40=>(eX k (Fq.mk qK qL qM sj) p6.1 x40).bind fun p43=>iN k aZ bD p43.us p43.cs p43.num p43.wide false (IntKind.wrap .i64 (yO+1)))))else none) (some (.inl (rZ,qK,qL,qM,sj)))
def JB (qK:List (List Nd)) (qL:List Int) (qM:Int) (sj:Bool) (aHJ:Bool):Option Bool:=
 cond aHJ (some ((decide (qM<0)))) (some (false))
def JC (k:Nat) (amh:List (List Nd)) (ami:List Int) (Z9:Int) (amj:Bool) (aHK:Bool):Option Bool:=
 cond aHK ((j6 k (Fq.mk amh ami Z9 amj)).bind fun yK=>cond yK (some ((Z9==0))) (some (false))) (some (false))
def F9 (k:Nat) (aZ:List (List Nd)) (bD:List Int) (eU:List Nd):Option Bool:=
 Option.bind (iN k aZ bD ([]:List (List Nd)) ([]:List Int) 0 false true 0) (fun o=>Sum.elim (fun p46=>(Qc eU).bind fun p60=>cond p60 ((j6 k (Fq.mk p46.2.1 p46.2.2.1 p46.2.2.2.1 p46.2.2.2.2)).bind fun p63=>Option.bind (JB p46.2.1 p46.2.2.1 p46.2.2.2.1 p46.2.2.2.2 p63) (fun p67=>some p67)) ((jh k eU).bind fun p73=>cond p73.2.2 (cond p73.2.1 ((eX k (Fq.mk p46.2.1 p46.2.2.1 p46.2.2.2.1 p46.2.2.2.2) p73.1 (-1)).bind fun Pb=>Option.bind (JC k Pb.us Pb.cs Pb.num Pb.wide p46.1) (fun Zj=>some Zj)) ((eX k (Fq.mk [] [] (-1) false) p73.1 (-1)).bind fun p90=>(eX k (Fq.mk p46.2.1 p46.2.2.1 p46.2.2.2.1 p46.2.2.2.2) p90 1).bind fun QU=>(j6 k QU).bind fun VD=>cond VD (some (decide (QU.num<0))) (some false))) (some false))) (fun p96=>some p96.1) o)
def gP:Nat->(List (List Nd))->Int->Option (Unit⊕Int)
 |0,_,_=>none
 |k+1,aZ,iH=>
  cond (decide (iH<(aZ.length:Int))) (if 0<=iH then (aZ[iH.toNat]?).bind fun x5=>(yL k x5).bind fun p8=>cond (p8 !=0) (some (.inr (p8))) (gP k aZ (IntKind.wrap .i64 (iH+1)))else none) (some (.inl ()))
def nK:Nat->(List Int)->Int->Option (Unit⊕Int)
 |0,_,_=>none
 |k+1,bD,yO=>
  cond (decide (yO<(bD.length:Int))) (if 0<=yO then (bD[yO.toNat]?).bind fun x22=>(dw x22 (-10000) 10000).bind fun p25=>cond p25 (nK k bD (IntKind.wrap .i64 (yO+1))) (some (.inr (3)))else none) (some (.inl ()))
def wI (k:Nat) (aZ:List (List Nd)) (bD:List Int) (eU:List Nd):Option Int:=
 cond ((aZ.length:Int)==0) (some 1) (cond (decide ((aZ.length:Int)>12)) (some 2) (Option.bind (gP k aZ 0) (fun o=>Sum.elim (fun rT=>cond ((bD.length:Int) !=(aZ.length:Int)) (some 6) (Option.bind (nK k bD 0) (fun o=>Sum.elim (fun p29=>(yL k eU).bind fun p35=>some p35) (fun p36=>some p36) o))) (fun p41=>some p41) o)))
end Go.VL
end
section
namespace Go.VL
open Tm
section
variable {e:List Nd} (hlen:e.length<=1000000)
include hlen
theorem LY: ∀(t:Tm) (b:Nat),Seg e b t->Ev (fun k=>wV k e ((b+t.size -1:Nat):Int)) (b:Int)
 | .mk x [],b,h=>by
  have hn:=h.node;have e1:b+(Tm.mk x []).size -1=b:=by simp [size,sizes]
  simp only [sizes,S4]at hn;rw [e1];refine Ev.succ ?_;simp only [wV,nn,A0,V0,hn,W0];exact Ev.cF (by simp [nd,roots]) Ev.some
 | .mk x (c::cs),b,h=>by
  have hn:=h.node;have hp:=size_pos c;have hk:Seg e (b+sizes []) c:=h.kid (l:=[]);simp only [sizes,S4]at hk;have ih:=LY c b hk;have e1:b+(Tm.mk x (c::cs)).size -1=b+sizes (c::cs):=by simp only [size];omega
  have e2:(nd x b (c::cs)).args=((b+c.size -1:Nat):Int)::roots (b+c.size) cs:=by unfold nd;simp only [roots]
  rw [e1];refine Ev.succ ?_;simp only [wV,nn,A0,V0,hn,W0,e2,N2];exact Ev.cT (g0 (by simp only [I0];omega)) ih
theorem aeL {oz:Int} (hf:0<=oz/\oz<=1000000) {l:List Int} (ha:l.length<=1000) (hr: ∀a∈l,-1000000<=a/\a<=1000000):Ev (fun k=>uK k oz [] l (l.length:Int) 0) (l.map (·-oz)):=by
 have key:=eO (len:=l.length) (p:=fun j=>Ev (fun k=>uK k oz ((l.take j).map (·-oz)) l (l.length:Int) (j:Int)) (l.map (·-oz))) (by
  refine Ev.succ ?_;simp only [uK];exact Ev.cF (eD _) (Ev.some' (by rw [z6]))) fun j hj ih=>by
  have h1:=hr _ (L3 hj);refine Ev.succ ?_;simp only [uK,nn,A0,V0,aP hj,W0,fC hj,S1,bW hj (show l.length<=1099511627776 by omega)];rw [wrap64 (x:=l[j] -oz) (by omega) (by omega)];refine Ev.jv (by simp;omega) ?_
  have e1:(l.take (j+1)).map (·-oz)=(l.take j).map (·-oz)++[l[j] -oz]:=by rw [M2 hj,A5];rfl
  rw [<-e1];exact ih
 exact key
theorem agj (hnd: ∀(i:Nat) n,e[i]? =some n->n.names.length<=1000/\n.args.length<=1000/\ ∀a∈n.args,-1000000<=a/\a<=1000000) {t:Tm} {b:Nat} (h:Seg e b t):Ev (fun k=>wG k e ((b+t.size -1:Nat):Int)) (flat 0 t):=by
 have hlt:=h.lt;have hp:=size_pos t;have h':=h;obtain⟨pre,post,he,hpre⟩:=h;have hfl:=yw b t 0;rw [V1]at hfl;have hseg:(e.take (b+t.size)).drop b=flat b t:=by
  rw [he,<-hpre,<-bn pre.length t];simp [List.take_append,List.drop_append]
 have hl0:(flat 0 t).length=(flat b t).length:=by rw [bn,bn]
 have hlb:(flat b t).length=t.size:=bn b t
 have key:=eO (len:=(flat b t).length) (p:=fun j=>Ev (fun k=>wW k (b:Int) ((flat 0 t).take j) (flat b t) ((flat b t).length:Int) (j:Int)) (flat 0 t)) (by
  refine Ev.succ ?_;simp only [wW];exact Ev.cF (eD _) (Ev.some' (by rw [<-hl0,z6]))) fun j hj1 ih=>by
  have hj0:j<(flat 0 t).length:=by omega
  have e0:(flat 0 t)[j]=LD b (flat b t)[j]:=by
   have:=congrArg (·[j]?) hfl
   simp only [J0,aP hj1,aP hj0,X2,L1]at this;exact this.symm
  have hn:e[b+j]? =some (flat b t)[j]:=by rw [he,N0 (by omega),hpre,show b+j -b=j by omega,C0 hj1,aP hj1]
  obtain⟨g1,g2,g3⟩:=hnd _ _ hn;refine Ev.succ ?_;simp only [wW,nn,A0,V0,aP hj1,W0,fC hj1,S1,bW hj1 (show(flat b t).length<=1099511627776 by omega)];refine Ev.bind (aeL hlen ⟨by omega,by omega⟩ g2 g3) (Ev.jv (by omega) (Ev.jv (by rw [P3];omega) ?_));rw [M2 hj0,e0]at ih;exact ih
 have hw:IntKind.wrap .i64 (((b+t.size -1:Nat):Int)+1)=((b+t.size:Nat):Int):=by rw [wrap64 (by omega) (by omega)];omega
 unfold wG;refine Ev.bind (LY hlen t b h') ?_;simp only [hw,V0,hseg];exact Ev.jv ⟨by omega,by omega,by omega⟩ (Ev.bind key Ev.some)
end
theorem Qd {x:Nd} {cs l m:List Tm} {c:Tm} (hcs:cs=l++c::m) (hs:sizes cs<=1000) (hnd: ∀(i:Nat) n,(flat 0 (.mk x cs))[i]? =some n->n.names.length<=1000/\n.args.length<=1000/\ ∀a∈n.args,-1000000<=a/\a<=1000000):
 (nd x 0 cs).args[l.length]? =some ((sizes l+c.size -1:Nat):Int)/\Ev (fun k=>wG k (flat 0 (.mk x cs)) ((sizes l+c.size -1:Nat):Int)) (flat 0 c):=by
 subst hcs;have hk:Seg (flat 0 (.mk x (l++c::m))) (0+sizes l) c:=(Seg.whole _).kid;rw [V1]at hk;have ha:(nd x 0 (l++c::m)).args[l.length]? =some ((sizes l+c.size -1:Nat):Int):=by
  unfold nd;have:=FX (b:=0) (l:=l) (m:=m) (c:=c);rw [V1]at this;exact this
 exact⟨ha,agj (by rw [bn];simp only [size];omega) hnd hk⟩
theorem BM {f:Fo} (hn:f.cs.length<=1099511627776):Ev (fun k=>mh k f) (isNum f):=by
 have key2: ∃o:Unit⊕Int,Ev (fun k=>gG k f.cs (f.cs.length:Int) ((0:Nat):Int)) o/\((∃u,o= .inl u)/\(f.cs.drop 0).all (fun c=>c==0)=true\/ ∃j:Int,0<=j/\o= .inr j/\(f.cs.drop 0).all (fun c=>c==0)=false):=by
  refine eO (len:=f.cs.length) (p:=fun i=> ∃o:Unit⊕Int,Ev (fun k=>gG k f.cs (f.cs.length:Int) (i:Int)) o/\((∃u,o= .inl u)/\(f.cs.drop i).all (fun c=>c==0)=true\/ ∃j:Int,0<=j/\o= .inr j/\(f.cs.drop i).all (fun c=>c==0)=false)) ?_ fun i hi ih=> ?_
  · refine⟨.inl (),Ev.succ ?_,.inl ⟨⟨_,rfl⟩,by simp⟩⟩;simp only [gG];exact Ev.cF (eD _) Ev.some
  · cases hc:(f.cs[i]==0)with
    |false=>
     refine⟨.inr (i:Int),Ev.succ ?_,.inr ⟨i,by omega,rfl,by rw [drop_cons hi,N5,hc,O3]⟩⟩;simp only [gG,zQ,V0,aP hi,W0,nn,A0,fC hi,S1];exact Ev.cT (by rw [bne,hc];rfl) Ev.some
    |true=>
     obtain⟨o,ho,hd⟩:=ih;refine⟨o,Ev.succ ?_,by rw [drop_cons hi,N5,hc,C1];exact hd⟩;simp only [gG,zQ,V0,aP hi,W0,nn,A0,fC hi,S1,bW hi hn];exact Ev.cF (by rw [bne,hc];rfl) ho
 obtain⟨o,ho,h⟩:=key2;rw [P1]at h;unfold mh isNum;cases hb:f.bad with
 |true=>exact Ev.cT rfl Ev.some
 |false=>
  refine Ev.cF rfl ?_;unfold rM vI;rcases h with⟨⟨u,rfl⟩,h⟩|⟨i,h0,rfl,h⟩
  · rw [h];exact Ev.bind (Ev.bind (Ev.bind ho Ev.some) Ev.some) Ev.some
  · rw [h];exact Ev.bind (Ev.bind (Ev.bind ho Ev.some) Ev.some) (Ev.some' (by simp [h0]))
def nf (f:Fo):Fq:=if f.bad=true then⟨[],[],0,true⟩else⟨f.us,f.cs,f.num,false⟩
theorem Ny {F:Fq} (hn:F.cs.length<=1099511627776):Ev (fun k=>j6 k F) (F.cs.all (fun c=>c==0)&& !F.wide):=by
 have key2:Ev (fun k=>nT k F.us F.cs F.num F.wide ((0:Nat):Int)) (if(F.cs.drop 0).all (fun c=>c==0)=true then .inl ()else .inr false):=by
  refine eO (len:=F.cs.length) (p:=fun i=>Ev (fun k=>nT k F.us F.cs F.num F.wide (i:Int)) (if(F.cs.drop i).all (fun c=>c==0)=true then .inl ()else .inr false)) ?_ fun i hi ih=> ?_
  · refine Ev.succ ?_;simp only [nT];exact Ev.cF (eD _) (Ev.some' (by simp))
  · refine Ev.succ ?_;simp only [nT,V0,aP hi,W0,nn,A0,fC hi,S1,bW hi hn];rw [drop_cons hi,N5];cases hc:(F.cs[i]==0)with
    |false=>exact Ev.cT (by rw [bne,hc];rfl) (Ev.some' (by simp))
    |true=>exact Ev.cF (by rw [bne,hc];rfl) (ih.to (by rw [C1]))
 rw [P1]at key2;unfold j6;refine Ev.bind key2 ?_;cases(F.cs.all fun c=>c==0)with
 |true=>exact Ev.some' (by simp)
 |false=>exact Ev.some' (by simp)
theorem xZ {f:Fo} (hn:f.cs.length<=1099511627776):Ev (fun k=>j6 k (nf f)) (isNum f):=by
 unfold nf isNum;cases hb:f.bad with
 |true=>exact(Ny (F:=⟨[],[],0,true⟩) (by simp)).to (by simp)
 |false=>exact(Ny (F:=⟨f.us,f.cs,f.num,false⟩) hn).to (by simp)
theorem aAc {a b c:List Nd} (h:pF a c=true) (h':pF b c=true):pF a b=true:=g0 ((W5 h).trans (W5 h').symm)
theorem aeM {us:List (List Nd)} {u:List Nd} {n:Nat} {cs:List Int} (h:Uk us cs n) (hu:Gd u) (hn:us.length<=1099511627776):Ev (fun k=>uN k us u (-1) 0) (pG (fun x=>pF x u) us 0):=by
 have key:=eO (len:=us.length) (p:=fun i=> ∀a:Int,Ev (fun k=>uN k us u a (i:Int)) (if pG (fun x=>pF x u) (us.drop i) (i:Int)<0 then a else pG (fun x=>pF x u) (us.drop i) (i:Int))) (fun a=>by
  refine Ev.succ ?_;simp only [uN];exact Ev.cF (eD _) (Ev.some' (by rw [wA];rfl))) fun i hi ih a=>by
  refine Ev.succ ?_;simp only [uN,nn,A0,V0,aP hi,W0,fC hi,S1,bW hi hn];refine Ev.bind (al3 (h.gd _ (L3 hi)) hu) ?_;rw [drop_cons hi];cases hc:pF us[i] u with
  |false=>
   rw [O2];refine(ih a).to ?_;simp only [pG,hc,I2,L2];rfl
  |true=>
   rw [S1];refine(ih i).to ?_;simp only [pG,hc,A0];have hno:pG (fun x=>pF x u) (us.drop (i+1)) ((i+1:Nat):Int)= -1:=by
    rcases F7 (p:=fun x=>pF x u) (l:=us.drop (i+1)) (i:=((i+1:Nat):Int))with⟨h1,_⟩|⟨j,y,h1,h2,_⟩
    · exact h1
    · exfalso;rw [Q3]at h1;have hj:=(S0.1 h1);obtain⟨hj1,hj2⟩:=hj;have:=kA.1 h.un i (i+1+j) hi hj1 (by omega);rw [hj2,aAc hc h2]at this;cases this
   rw [hno,if_pos (by decide),if_neg (by omega)]
 have:=key (-1);rw [P1]at this;refine this.to ?_;rcases F7 (p:=fun x=>pF x u) (l:=us) (i:=0)with⟨h1,_⟩|⟨j,y,_,_,h3⟩
 · rw [show((0:Nat):Int)=0 from rfl,h1,if_pos (by decide)]
 · rw [show((0:Nat):Int)=0 from rfl,h3,if_neg (by omega)]
theorem aeN {g:Fq} {t:Int} {b:Nat} (hg:Uk g.us g.cs b) (hb:b<=1000): ∀(us:List (List Nd)) (cs:List Int) (a:Nat),Uk us cs a->a+b<=100000->Ev (fun k=>uO k g t us cs ((0:Nat):Int)) ((g.us.zip g.cs).foldl (qB t) (us,cs)):=by
 have hn:g.us.length<=1099511627776:=by have:=hg.le;omega
 have key:=eO (len:=g.us.length) (p:=fun i=> ∀(us:List (List Nd)) (cs:List Int) (a:Nat),Uk us cs a->a+(g.us.length -i)<=100000->Ev (fun k=>uO k g t us cs (i:Int)) (((g.us.zip g.cs).drop i).foldl (qB t) (us,cs))) (fun us cs a h ha=>by
  refine Ev.succ ?_;simp only [uO];refine Ev.cF (eD _) (Ev.some' ?_);rw [P4 (by rw [j8];omega)];rfl) fun i hi ih us cs a h ha=>by
  have hi2:i<g.cs.length:=by rw [hg.len];exact hi
  have hz:i<(g.us.zip g.cs).length:=by rw [j8];omega
  refine Ev.succ ?_;have hl:=h.le;have hlen:=h.len;simp only [uO,V0,aP hi,aP hi2,W0,nn,A0,fC hi,S1,bW hi hn];refine Ev.jv ⟨by omega,by omega⟩ (Ev.bind (aeM h (hg.gd _ (L3 hi)) (by omega)) ?_);have hst:Ev (fun k=>cond (decide (pG (fun x=>pF x g.us[i]) us 0<0)) (zS (us++[g.us[i]]) (cs++[0]) (cs.length:Int) (IntKind.wrap .i64 (t*g.cs[i]))) (zS us cs (pG (fun x=>pF x g.us[i]) us 0) (IntKind.wrap .i64 (t*g.cs[i])))) (qB t (us,cs) (g.us[i],g.cs[i])):=by
   unfold qB
   dsimp only
   rcases F7 (p:=fun o=>pF o g.us[i]) (l:=us) (i:=0)with⟨h1,h2⟩|⟨j,y,h1,h2,h3⟩
   · rw [h1,if_pos (by decide)];refine Ev.cT (by decide) (Ev.of_eq ?_);unfold zS;simp
   · have hj:j<cs.length:=by rw [hlen];exact(S0.1 h1).1
     rw [h3,if_neg (by omega),Int.zero_add];refine Ev.cF (B0 (by omega)) (Ev.of_eq ?_);unfold zS;simp [aP hj]
  refine Ev.bind hst ?_;rw [drop_cons hz,m6,List.getElem_zip];have hu:=Qt (t:=t) (x:=(g.us[i],g.cs[i])) h (hg.gd _ (L3 hi));exact ih _ _ _ hu (by omega)
 intro us cs a h ha;have:=key us cs a h (by have:=hg.le;omega)
 rwa [P1]at this
theorem Nz (n:Int):dw n (-1000000000) 1000000000=some (decide (-1000000000<=n)&&decide (n<=1000000000)):=by
 unfold dw;by_cases h:n>= -1000000000
 · rw [g0 h,S1,C1]
 · rw [B0 h,O2,O3]
theorem aeO (l:List Int) (hn:l.length<=1099511627776) (w:Bool):Ev (fun k=>qC k l w 0) (w||wide l):=by
 have key:=eO (len:=l.length) (p:=fun i=> ∀b,Ev (fun k=>qC k l b (i:Int)) (b||wide (l.drop i))) (fun b=>by
  refine Ev.succ ?_;simp only [qC];exact Ev.cF (eD _) (Ev.some' (by simp [wide]))) fun i hi ih b=>by
  refine Ev.succ ?_;simp only [qC,V0,aP hi,W0,nn,A0,fC hi,S1,bW hi hn,Nz];cases b with
  |true=>exact Ev.cT rfl ((ih true).to (by simp))
  |false=>
   refine Ev.cF rfl ((ih _).to ?_);rw [drop_cons hi,Q4];unfold wide;rw [b8]
 have:=key w
 rwa [P1]at this
theorem asH {f:Fo} {n:Nat} (h:wE f n):Uk (nf f).us (nf f).cs n:=by
 unfold nf;split
 · exact sN
 · exact h
theorem jP {f g:Fo} {t:Int} {a b:Nat} (hf:wE f a) (hg:wE g b) (ha:a<=20000) (hb:b<=1000):Ev (fun k=>eX k (nf f) (nf g) t) (nf (bL f g t)):=by
 have uf:=asH hf;have ug:=asH hg;have h1:=uf.le;have h2:=uf.len;unfold eX;refine Ev.jv ⟨by omega,by omega⟩ (Ev.bind (aeN ug hb _ _ a uf (by omega)) ?_);have hu:=M4 (t:=t) (l:=(nf g).us.zip (nf g).cs) uf fun x hx=>ug.gd _ (List.of_mem_zip hx).1;have hl:(((nf g).us.zip (nf g).cs).foldl (qB t) ((nf f).us,(nf f).cs)).2.length<=30000:=by
  have e1:=hu.len;have e2:=hu.le;have e3:((nf g).us.zip (nf g).cs).length<=b:=by rw [j8];have:=ug.le;omega
  omega
 have hw:Ev (fun k=>cond ((nf f).wide||(nf g).wide) (some true) ((dw (IntKind.wrap .i64 ((nf f).num+IntKind.wrap .i64 (t*(nf g).num))) (-1000000000) 1000000000).bind fun q=>some (!q))) ((f.bad||g.bad)||wide [IntKind.wrap .i64 ((nf f).num+IntKind.wrap .i64 (t*(nf g).num))]):=by
  have e1:((nf f).wide||(nf g).wide)=(f.bad||g.bad):=by
   unfold nf;cases f.bad<;>cases g.bad<;>rfl
  rw [e1];cases(f.bad||g.bad)with
  |true=>exact Ev.cT rfl (Ev.some' (by simp))
  |false=>
   refine Ev.cF rfl (Ev.of_eq ?_);rw [Nz];simp [wide]
 refine Ev.bind hw (Ev.bind (aeO _ (by omega) _) ?_);cases hb':(f.bad||g.bad)with
 |true=>
  refine Ev.cT (by simp) (Ev.some' ?_);unfold nf bL;rw [if_pos hb',if_pos rfl]
 |false=>
  rw [A6]at hb';have ef:nf f=⟨f.us,f.cs,f.num,false⟩:=by unfold nf;rw [hb'.1,if_neg (by simp)]
  have eg:nf g=⟨g.us,g.cs,g.num,false⟩:=by unfold nf;rw [hb'.2,if_neg (by simp)]
  rw [ef,eg]
  dsimp only
  have ep:bL f g t=⟨(BL f g t).1,(BL f g t).2,IntKind.wrap .i64 (f.num+IntKind.wrap .i64 (t*g.num)),wide ((BL f g t).2++[IntKind.wrap .i64 (f.num+IntKind.wrap .i64 (t*g.num))])⟩:=by
   unfold bL;rw [hb'.1,hb'.2,if_neg (by simp)]
  have ew:(false||wide [IntKind.wrap .i64 (f.num+IntKind.wrap .i64 (t*g.num))]||wide (BL f g t).2)=(bL f g t).bad:=by
   rw [ep];unfold wide
   dsimp only
   rw [List.any_append,Q4,Bool.or_comm]
  show Ev (fun k=>cond (false||wide [IntKind.wrap .i64 (f.num+IntKind.wrap .i64 (t*g.num))]||wide (BL f g t).2) _ _) _
  rw [ew];cases hp:(bL f g t).bad with
  |true=>exact Ev.cT rfl (Ev.some' (by unfold nf;rw [if_pos hp]))
  |false=>
   refine Ev.cF rfl (Ev.some' ?_);unfold nf;rw [if_neg (by rw [hp];simp),ep];rfl
theorem dP (x:Nd) (b:Nat) (cs:List Tm):(nd x b cs).kind=x.kind:=rfl
theorem jw (x:Nd) (b:Nat) (cs:List Tm):(nd x b cs).text=x.text:=rfl
theorem xP (x:Nd) (b:Nat) (cs:List Tm):(nd x b cs).n=x.n:=rfl
theorem wJ {t:Tm} (h:Gd (flat 0 t)):t.size<=160/\ ∀(i:Nat) n,(flat 0 t)[i]? =some n->n.names.length<=1000/\n.args.length<=1000/\ ∀a∈n.args,-1000000<=a/\a<=1000000:=by
 have hl:=h.val.len;rw [bn]at hl;refine⟨hl,fun i n hn=> ?_⟩;have h2:=(LB h.few).2 i n hn;refine⟨by omega,by omega,fun a ha=> ?_⟩;have:=PW t 0 n (B1 hn) a ha;omega
theorem arity {x:Nd} {cs:List Tm} (h:Gd (flat 0 (.mk x cs))) (hk:x.kind=3) (ho:(dF dW x.text).2=true):gy (cs.length:Int) (dF dW x.text).1.least (dF dW x.text).1.most=true:=by
 have hn:=(Seg.whole (.mk x cs)).node;rw [V1]at hn;have h0:=h.val.ok _ _ hn;have hne:qF (nd x 0 cs)=0:=by
  unfold bI at h0;split at h0
  · exact absurd h0 (by decide)
  split at h0
  · exact absurd h0 (by decide)
  split at h0
  · exact absurd h0 (by decide)
  split at h0
  · exact absurd h0 (by decide)
  split at h0
  · rename_i hx;exact absurd h0 hx
  · rename_i hx;exact Decidable.not_not.1 hx
 unfold qF at hne;split at hne
 · exact absurd hne (by decide)
 rw [if_neg (by rw [dP,hk];decide),if_neg (by rw [dP,hk];decide),if_pos (by rw [dP,hk]),jw,ho,S8,if_pos rfl,C1]at hne;have hal:(nd x 0 cs).args.length=cs.length:=iq 0 cs;rw [hal]at hne;split at hne
 · exact absurd hne (by decide)
 · rename_i hx;simpa using hx
theorem aeP {cs:List Tm} {l m:Int} (h:gy (cs.length:Int) l m=true) (hl:l=2) (hm:m=2): ∃a b,cs=[a,b]:=by
 subst hl;subst hm;unfold gy at h
 match cs,h with
 |[a,b],_=>exact⟨a,b,rfl⟩
 |[],h=>simp at h
 |[a],h=>simp at h
 |a::b::c::l,h=>simp at h;omega
theorem amk {cs:List Tm} {l m:Int} (h:gy (cs.length:Int) l m=true) (hl:l=1) (hm:m=1): ∃a,cs=[a]:=by
 subst hl;subst hm;unfold gy at h
 match cs,h with
 |[a],_=>exact⟨a,rfl⟩
 |[],h=>simp at h
 |a::b::l,h=>simp at h;omega
theorem aeQ {x:Nd} {a b:Tm} (h:Gd (flat 0 (.mk x [a,b]))): ∃i j:Int,(nd x 0 [a,b]).args[0]? =some i/\(nd x 0 [a,b]).args[1]? =some j/\Ev (fun k=>wG k (flat 0 (.mk x [a,b])) i) (flat 0 a)/\Ev (fun k=>wG k (flat 0 (.mk x [a,b])) j) (flat 0 b)/\
 Ev (fun k=>zT k (flat 0 (.mk x [a,b]))) (flat 0 a)/\Ev (fun k=>CB k (flat 0 (.mk x [a,b]))) (flat 0 b):=by
 obtain⟨hs,hnd⟩:=wJ h;have hz:sizes [a,b]<=1000:=by simp only [size]at hs;omega
 have k1:=Qd (x:=x) (cs:=[a,b]) (l:=[]) (m:=[b]) (c:=a) rfl hz hnd;have k2:=Qd (x:=x) (cs:=[a,b]) (l:=[a]) (m:=[]) (c:=b) rfl hz hnd;have q1:=Az (x:=x) (cs:=[a,b]) (l:=[]) (m:=[b]) (c:=a) rfl hz hnd;have q2:=Az (x:=x) (cs:=[a,b]) (l:=[a]) (m:=[]) (c:=b) rfl hz hnd;refine⟨_,_,k1.1,k2.1,k1.2,k2.2,?_,?_⟩
 · unfold zT;exact Ev.bind q1 Ev.some
 · unfold CB;exact Ev.bind q2 Ev.some
theorem aAd {x:Nd} {a:Tm} (h:Gd (flat 0 (.mk x [a]))): ∃i:Int,(nd x 0 [a]).args[0]? =some i/\Ev (fun k=>wG k (flat 0 (.mk x [a])) i) (flat 0 a)/\Ev (fun k=>zT k (flat 0 (.mk x [a]))) (flat 0 a):=by
 obtain⟨hs,hnd⟩:=wJ h;have hz:sizes [a]<=1000:=by simp only [size]at hs;omega
 have k1:=Qd (x:=x) (cs:=[a]) (l:=[]) (m:=[]) (c:=a) rfl hz hnd;have q1:=Az (x:=x) (cs:=[a]) (l:=[]) (m:=[]) (c:=a) rfl hz hnd;refine⟨_,k1.1,k1.2,?_⟩;unfold zT;exact Ev.bind q1 Ev.some
theorem aeR {x:Nd} {cs:List Tm} (h:sizes cs<=1000):IntKind.wrap .i64 (((flat 0 (.mk x cs)).length:Int) -1)=((sizes cs:Nat):Int)/\(flat 0 (.mk x cs))[sizes cs]? =some (nd x 0 cs):=by
 have hl:(flat 0 (.mk x cs)).length=sizes cs+1:=by rw [bn];simp only [size]
 have hn:=(Seg.whole (.mk x cs)).node;rw [V1]at hn;exact⟨by rw [hl,wrap64 (by omega) (by omega)];omega,hn⟩
theorem Ik {x:Nd} {cs:List Tm} (h:sizes cs<=1000) (s:Str):Qb (flat 0 (.mk x cs)) s=some (x.kind==3&&x.text==s):=by
 unfold Qb;rw [nS x cs (by omega),W0,dP,jw];cases(x.kind==3)<;>rfl
theorem ahp (a b:Int) (s:Str) (l:List Str) (m:List Int) (t:Bool):Ev (fun k=>yx k a b s l m t) (t&&decide (s∈([[43],[45],[42]]:List Str))):=by
 unfold yx;cases t with
 |false=>exact Ev.cF rfl (Ev.some' (by simp))
 |true=>exact Ev.cT rfl (Ev.bind (tK _ _ (by simp)) (Ev.some' (by simp)))
theorem YS {f:Fo} (h:f.bad=false):nf f=⟨f.us,f.cs,f.num,false⟩:=by unfold nf;rw [h,if_neg (by simp)]
theorem CG: ∀(n:Nat) (t:Tm),t.size<=n->Gd (flat 0 t)-> ∃r,dX t r/\Ev (fun k=>kL k (flat 0 t)) r/\Ev (fun k=>iP k (flat 0 t)) (nf r)
 |0,t,h,_=>by have:=t.size_pos;omega
 |n+1,.mk x cs,h,hg=>by
  obtain⟨hs,hnd⟩:=wJ hg;have hz:sizes cs<=1000:=by simp only [size]at hs;omega
  obtain⟨hw,hlast⟩:=aeR (x:=x) hz;have hroot:=nS x cs (by omega);have hsz:sizes cs<=n:=by simp only [size]at h;omega
  by_cases h0:x.kind=0
  · refine⟨_,.num h0,?_,?_⟩
    · refine Ev.succ ?_;simp only [kL,hw,V0,nn,A0,hlast,W0,dP,xP];exact Ev.cT (by rw [h0];rfl) Ev.some
    · refine Ev.succ ?_;simp only [iP,hroot,W0,dP,xP];exact Ev.cT (by rw [h0];rfl) Ev.some
  have b0:(x.kind==0)=false:=O0.2 h0;by_cases hx:x.kind=3/\x.text∈sums
  case neg=>
   have hno: ∀s∈sums,(x.kind==3&&x.text==s)=false:=by
    intro s hs;cases hb:(x.kind==3&&x.text==s)with
    |false=>rfl
    |true=>
     rw [z1,E3,E3]at hb;exact absurd ⟨hb.1,hb.2▸hs⟩ hx
   refine⟨_,.unk h0 fun h3 h4=>hx ⟨h3,h4⟩,?_,?_⟩
   · refine Ev.succ ?_;simp only [kL,hw,V0,nn,A0,hlast,W0,dP,xP,jw];refine Ev.cF b0 ?_;have hp0:pV x.kind x.n x.text (nd x 0 cs).names (nd x 0 cs).args (x.kind==3)=some false:=by
      unfold pV;have:=hno [45,46] (by decide);cases hb:(x.kind==3)with
      |false=>rfl
      |true=>rw [hb,C1]at this;rw [S1,this]
     simp only [hp0,W0];refine Ev.cF rfl (Ev.bind ((ahp _ _ _ _ _ _).to (w:=false) ?_) (Ev.cF rfl Ev.some));cases hb:(x.kind==3)with
     |false=>rfl
     |true=>
      rw [C1];refine B0 fun hm=>hx ⟨by simpa using hb,?_⟩;simp only [sums,M1]at hm⊢;exact .inr hm
   · refine Ev.succ ?_;simp only [iP,hroot,W0,dP,xP,Ik hz,hno [43] (by decide),hno [45] (by decide),hno [45,46] (by decide),hno [42] (by decide)];exact Ev.cF b0 Ev.some
  case pos=>
  obtain⟨h3,hm⟩:=hx;have b3:(x.kind==3)=true:=by rw [h3];rfl
  have har:=arity hg h3 (pz hm);have hop:=pz hm;simp only [sums,M1,D0,B7]at hm;rcases hm with ht|ht|ht|ht
  · rw [ht]at har;obtain⟨c,rfl⟩:=amk har (by kernel_rfl) (by kernel_rfl);have gc:=aeA hg h3 hop;obtain⟨i,a1,a2,a3⟩:=aAd hg;obtain⟨r,f1,f2,f3⟩:=CG n c (by simp only [sizes]at hsz;omega) gc;have kr:=jR f1 gc;have hc:=(wJ gc).1;refine⟨_,.neg h3 ht f1,?_,?_⟩
    · refine Ev.succ ?_;simp only [kL,hw,V0,nn,A0,hlast,W0,dP,xP,jw];refine Ev.cF b0 ?_;have hp0:pV x.kind x.n x.text (nd x 0 [c]).names (nd x 0 [c]).args (x.kind==3)=some true:=by unfold pV;rw [b3,S1,ht];rfl
      simp only [hp0,W0];exact Ev.cT rfl (Ev.iG a1 (Ev.bind a2 (Ev.bind f2 (Ev.bind (jO (f:=wF) (a:=0) sN kr (by omega) (by omega)) Ev.some))))
    · refine Ev.succ ?_;simp only [iP,hroot,W0,dP,xP,Ik hz,b3,ht,C1];have hq:=jP (f:=wF) (g:=r) (t:= -1) (a:=0) sN kr (by omega) (by omega);exact Ev.cF b0 (Ev.cF (by decide) (Ev.cF (by decide) (Ev.cT (by decide) (Ev.bind a3 (Ev.bind f3 (Ev.bind hq Ev.some))))))
  all_goals
   rw [ht]at har;obtain⟨a,b,rfl⟩:=aeP har (by kernel_rfl) (by kernel_rfl);obtain⟨ga,gb⟩:=A9 hg h3 hop;obtain⟨i,j,a1,a2,a3,a4,a5,a6⟩:=aeQ hg;have hsa:=a.size_pos;have hsb:=b.size_pos;simp only [sizes]at hsz;obtain⟨r,f1,f2,f3⟩:=CG n a (by omega) ga;obtain⟨s,g1,g2,g3⟩:=CG n b (by omega) gb;have kr:=jR f1 ga;have ks:=jR g1 gb;have ha:=(wJ ga).1;have hb:=(wJ gb).1;have hp0:pV x.kind x.n x.text (nd x 0 [a,b]).names (nd x 0 [a,b]).args (x.kind==3)=some false:=by unfold pV;rw [b3,S1,ht];rfl
   have hp1:Ev (fun k=>yx k x.kind x.n x.text (nd x 0 [a,b]).names (nd x 0 [a,b]).args (x.kind==3)) true:=(ahp _ _ _ _ _ _).to (by rw [b3,ht];decide)
  · refine⟨_,.add h3 ht f1 g1,?_,?_⟩
    · refine Ev.succ ?_;simp only [kL,hw,V0,nn,A0,hlast,W0,dP,xP,jw,hp0];refine Ev.cF b0 (Ev.cF rfl (Ev.bind hp1 (Ev.cT rfl (Ev.iG a1 (Ev.bind a3 (Ev.bind f2 (Ev.iG a2 (Ev.bind a4 (Ev.bind g2 ?_)))))))));exact Ev.cT (by rw [ht];rfl) (Ev.bind (jO kr ks (by omega) (by omega)) Ev.some)
    · refine Ev.succ ?_;simp only [iP,hroot,W0,dP,xP,Ik hz,b3,ht,C1];exact Ev.cF b0 (Ev.cT (by decide) (Ev.bind a5 (Ev.bind f3 (Ev.bind a6 (Ev.bind g3 (Ev.bind (jP kr ks (by omega) (by omega)) Ev.some))))))
  · refine⟨_,.sub h3 ht f1 g1,?_,?_⟩
    · refine Ev.succ ?_;simp only [kL,hw,V0,nn,A0,hlast,W0,dP,xP,jw,hp0];refine Ev.cF b0 (Ev.cF rfl (Ev.bind hp1 (Ev.cT rfl (Ev.iG a1 (Ev.bind a3 (Ev.bind f2 (Ev.iG a2 (Ev.bind a4 (Ev.bind g2 ?_)))))))));exact Ev.cF (by rw [ht];decide) (Ev.cT (by rw [ht];rfl) (Ev.bind (jO kr ks (by omega) (by omega)) Ev.some))
    · refine Ev.succ ?_;simp only [iP,hroot,W0,dP,xP,Ik hz,b3,ht,C1];exact Ev.cF b0 (Ev.cF (by decide) (Ev.cT (by decide) (Ev.bind a5 (Ev.bind f3 (Ev.bind a6 (Ev.bind g3 (Ev.bind (jP kr ks (by omega) (by omega)) Ev.some)))))))
  · have hp2:Bz s.us s.cs s.num s.bad r.bad=some (r.bad||s.bad):=by unfold Bz;cases r.bad<;>rfl
    have hq2:BA (nf s).us (nf s).cs (nf s).num (nf s).wide (nf r).wide=some (r.bad||s.bad):=by
     unfold BA nf;cases r.bad<;>cases s.bad<;>rfl
    have lr:=kr.len;have lr2:=kr.le;have ls:=ks.len;have ls2:=ks.le;have kn:=BM (f:=r) (by omega);have kn':=BM (f:=s) (by omega);have qn:=xZ (f:=r) (by omega);have qn':=xZ (f:=s) (by omega);have kS: ∀R,Ev (fun k=>cond (r.bad||s.bad) (some (Fo.mk [] [] 0 true)) ((mh k r).bind fun ajx=>cond ajx ((eT k (Fo.mk [] [] 0 false) s r.num).bind fun Uq=>some Uq) ((mh k s).bind fun UM=>cond UM ((eT k (Fo.mk [] [] 0 false) r s.num).bind fun ajy=>some ajy) (some (Fo.mk [flat 0 (.mk x [a,b])] [1] 0 false))))) R->Ev (fun k=>kL k (flat 0 (.mk x [a,b]))) R:=by
     intro R hR;refine Ev.succ ?_;simp only [kL,hw,V0,nn,A0,hlast,W0,dP,xP,jw,hp0];refine Ev.cF b0 (Ev.cF rfl (Ev.bind hp1 (Ev.cT rfl (Ev.iG a1 (Ev.bind a3 (Ev.bind f2 (Ev.iG a2 (Ev.bind a4 (Ev.bind g2 ?_)))))))));refine Ev.cF (by rw [ht];decide) (Ev.cF (by rw [ht];decide) (Ev.cT (by rw [ht];rfl) ?_));simp only [hp2,W0];exact hR
    have qS: ∀R,Ev (fun k=>cond (r.bad||s.bad) (some (Fq.mk [] [] 0 true)) ((j6 k (nf r)).bind fun p64=>cond p64 ((eX k (Fq.mk [] [] 0 false) (nf s) (nf r).num).bind fun p67=>some p67) ((j6 k (nf s)).bind fun p69=>cond p69 ((eX k (Fq.mk [] [] 0 false) (nf r) (nf s).num).bind fun p72=>some p72) (some (Fq.mk [flat 0 (.mk x [a,b])] [1] 0 false))))) R->Ev (fun k=>iP k (flat 0 (.mk x [a,b]))) R:=by
     intro R hR;refine Ev.succ ?_;simp only [iP,hroot,W0,dP,xP,Ik hz,b3,ht,C1];refine Ev.cF b0 (Ev.cF (by decide) (Ev.cF (by decide) (Ev.cF (by decide) (Ev.cT (by decide) (Ev.bind a5 (Ev.bind f3 (Ev.bind a6 (Ev.bind g3 ?_))))))));simp only [hq2,W0];exact hR
    cases hbb:(r.bad||s.bad)with
    |true=>
     rw [hbb]at kS qS;exact⟨_,.aoX h3 ht f1 g1 hbb,kS _ (Ev.cT rfl Ev.some),qS _ (Ev.cT rfl Ev.some)⟩
    |false=>
     rw [hbb]at kS qS;have hbs:=A6.1 hbb;have er:(nf r).num=r.num:=by rw [YS hbs.1]
     have es:(nf s).num=s.num:=by rw [YS hbs.2]
     rw [er,es]at qS;cases hnr:isNum r with
     |true=>
      rw [hnr]at kn qn
      exact⟨_,.mulL h3 ht f1 g1 hbb hnr,kS _ (Ev.cF rfl (Ev.bind kn (Ev.cT rfl (Ev.bind (jO (f:=wF) (a:=0) sN ks (by omega) (by omega)) Ev.some)))),
       qS _ (Ev.cF rfl (Ev.bind qn (Ev.cT rfl (Ev.bind (jP (f:=wF) (a:=0) sN ks (by omega) (by omega)) Ev.some))))⟩
     |false=>
      rw [hnr]at kn qn;cases hns:isNum s with
      |true=>
       rw [hns]at kn' qn'
       exact⟨_,.mulR h3 ht f1 g1 hbb hnr hns,kS _ (Ev.cF rfl (Ev.bind kn (Ev.cF rfl (Ev.bind kn' (Ev.cT rfl (Ev.bind (jO (f:=wF) (a:=0) sN kr (by omega) (by omega)) Ev.some)))))),
              qS _ (Ev.cF rfl (Ev.bind qn (Ev.cF rfl (Ev.bind qn' (Ev.cT rfl (Ev.bind (jP (f:=wF) (a:=0) sN kr (by omega) (by omega)) Ev.some))))))⟩
      |false=>
       rw [hns]at kn' qn';exact⟨_,.aoY h3 ht f1 g1 hbb hnr hns,kS _ (Ev.cF rfl (Ev.bind kn (Ev.cF rfl (Ev.bind kn' (Ev.cF rfl Ev.some))))),qS _ (Ev.cF rfl (Ev.bind qn (Ev.cF rfl (Ev.bind qn' (Ev.cF rfl Ev.some)))))⟩
abbrev wX:Fo:=⟨[],[],-1,false⟩
def comps:List Str:=[[61],[60],[60,61],[62],[62,61]]
inductive wK:Tm->Fo->Bool->Prop
 |le {x:Nd} {a b:Tm} {r s:Fo} (hk:x.kind=3) (ht:x.text=[60,61]) (h:dX a r) (h':dX b s):wK (.mk x [a,b]) (bL s r (-1)) false
 |lt {x:Nd} {a b:Tm} {r s:Fo} (hk:x.kind=3) (ht:x.text=[60]) (h:dX a r) (h':dX b s):wK (.mk x [a,b]) (bL (bL s r (-1)) wX 1) false
 |ge {x:Nd} {a b:Tm} {r s:Fo} (hk:x.kind=3) (ht:x.text=[62,61]) (h:dX a r) (h':dX b s):wK (.mk x [a,b]) (bL r s (-1)) false
 |gt {x:Nd} {a b:Tm} {r s:Fo} (hk:x.kind=3) (ht:x.text=[62]) (h:dX a r) (h':dX b s):wK (.mk x [a,b]) (bL (bL r s (-1)) wX 1) false
 |eq {x:Nd} {a b:Tm} {r s:Fo} (hk:x.kind=3) (ht:x.text=[61]) (h:dX a r) (h':dX b s):wK (.mk x [a,b]) (bL r s (-1)) true
theorem JD {s:Str} (h:s∈comps):(dF dW s).2=true:=by
 have key:comps.all (fun s=>(dF dW s).2)=true:=by kernel_rfl
 exact S3.1 key s h
theorem JE {t:Tm} {f:Fo} {e:Bool} (h:wK t f e) (hg:Gd (flat 0 t)):wE f 160:=by
 have key: ∀{x:Nd} {a b:Tm} {r s:Fo},Gd (flat 0 (.mk x [a,b]))->x.kind=3->x.text∈comps->dX a r->dX b s->wE r a.size/\wE s b.size/\a.size+b.size<=160:=by
  intro x a b r s hg hk ht h h';obtain⟨ga,gb⟩:=A9 hg hk (JD ht);have:=(wJ hg).1;simp only [size,sizes]at this;exact⟨jR h ga,jR h' gb,by omega⟩
 cases h with
 |le hk ht h h'=>obtain⟨k1,k2,k3⟩:=key hg hk (by rw [ht];decide) h h';exact AB (jM k2 k1) (by omega)
 |lt hk ht h h'=>obtain⟨k1,k2,k3⟩:=key hg hk (by rw [ht];decide) h h';exact AB (jM (jM k2 k1) (g:=wX) (b:=0) sN) (by omega)
 |ge hk ht h h'=>obtain⟨k1,k2,k3⟩:=key hg hk (by rw [ht];decide) h h';exact AB (jM k1 k2) (by omega)
 |gt hk ht h h'=>obtain⟨k1,k2,k3⟩:=key hg hk (by rw [ht];decide) h h';exact AB (jM (jM k1 k2) (g:=wX) (b:=0) sN) (by omega)
 |eq hk ht h h'=>obtain⟨k1,k2,k3⟩:=key hg hk (by rw [ht];decide) h h';exact AB (jM k1 k2) (by omega)
theorem aeS {x:Nd} {l m:List Tm} {c:Tm} (h:Gd (flat 0 (.mk x (l++c::m)))) (hk:x.kind=3): ∃R,Ev (fun k=>iP k (flat 0 c)) R:=by
 by_cases Ra:c.root.kind=24
 · obtain⟨y,ds⟩:=c;have hs:=(wJ h).1;simp only [size,dG,sizes]at hs;have hz:sizes ds<=1000:=by omega
   have hy:y.kind=24:=Ra;have b3:(y.kind==3)=false:=by rw [hy];rfl
   refine⟨⟨[flat 0 (.mk y ds)],[1],0,false⟩,Ev.succ ?_⟩;simp only [iP,nS y ds (by omega),W0,dP,xP,Ik hz,b3,O3];exact Ev.cF (by rw [hy];rfl) Ev.some
 · obtain⟨r,_,_,h3⟩:=CG _ c (R0 _) (WJ h hk (.inr Ra));exact⟨_,h3⟩
theorem aeT (a b:Int) (s:Str) (l:List Str) (m:List Int) (t:Bool):Ev (fun k=>ru k a b s l m t) (t|| !decide (s∈comps)):=by
 unfold ru;cases t with
 |true=>exact Ev.cT rfl (Ev.some' (by simp))
 |false=>exact Ev.cF rfl (Ev.bind (tK _ _ (by simp)) (Ev.some' (by simp [comps])))
theorem UO (a b:Int) (s:Str) (l:List Str) (m:List Int) (t:Bool):uP a b s l m t=some (t||((m.length:Int) !=2)):=by
 unfold uP;cases t<;>rfl
theorem Qe {t:Tm} (hg:Gd (flat 0 t)):(∃f e,wK t f e/\Ev (fun k=>gK k (flat 0 t)) (⟨f,e⟩,true)/\Ev (fun k=>jh k (flat 0 t)) (nf f,e,true))\/
 (Ev (fun k=>gK k (flat 0 t)) (⟨wF,false⟩,false)/\Ev (fun k=>jh k (flat 0 t)) (⟨[],[],0,false⟩,false,false)):=by
 obtain⟨x,cs⟩:=t;obtain⟨hs,hnd⟩:=wJ hg;have hz:sizes cs<=1000:=by simp only [size]at hs;omega
 obtain⟨hw,hlast⟩:=aeR (x:=x) hz;have hroot:=nS x cs (by omega);have kN:(x.kind !=3|| !decide (x.text∈comps))=true->Ev (fun k=>gK k (flat 0 (.mk x cs))) (⟨wF,false⟩,false):=by
  intro hb;unfold gK;simp only [hw,V0,nn,A0,hlast,W0,dP,xP,jw];exact Ev.bind ((aeT _ _ _ _ _ _).to hb) (Ev.cT rfl Ev.some)
 by_cases hk:x.kind=3
 case neg=>
  have b3:(x.kind !=3)=true:=by rw [S5];exact hk
  refine .inr ⟨kN (by rw [b3];rfl),?_⟩;unfold jh;simp only [hroot,W0,dP,xP,jw,UO,b3,S8];exact Ev.cT rfl Ev.some
 have b3:(x.kind !=3)=false:=by rw [hk];rfl
 have hal:(nd x 0 cs).args.length=cs.length:=iq 0 cs;by_cases hm:x.text∈comps
 case neg=>
  refine .inr ⟨kN (by rw [b3,B0 hm];rfl),?_⟩;have hne: ∀s∈comps,(x.text==s)=false:=fun s h=>O0.2 fun e=>hm (e▸h);unfold jh;simp only [hroot,W0,dP,xP,jw,UO,b3,Q4,hal];by_cases h2:cs.length=2
  case neg=>exact Ev.cT (by rw [S5];omega) Ev.some
  obtain⟨a,b,rfl⟩: ∃a b,cs=[a,b]:=by
   match cs,h2 with
   |[a,b],_=>exact⟨a,b,rfl⟩
  obtain⟨i,j,a1,a2,a3,a4,a5,a6⟩:=aeQ hg;obtain⟨R,hR⟩:=aeS (l:=[]) (m:=[b]) hg hk;obtain⟨S,hS⟩:=aeS (l:=[a]) (m:=[]) hg hk;refine Ev.cF (by rfl) (Ev.bind a5 (Ev.bind hR (Ev.bind a6 (Ev.bind hS ?_))));exact Ev.cF (hne _ (by decide)) (Ev.cF (hne _ (by decide)) (Ev.cF (hne _ (by decide)) (Ev.cF (hne _ (by decide)) (Ev.cF (hne _ (by decide)) Ev.some))))
 have hop:=JD hm;have har:=arity hg hk hop;have hm':=hm;simp only [comps,M1,D0,B7]at hm;have h2: ∃a b,cs=[a,b]:=by
  rcases hm with ht|ht|ht|ht|ht<;>(rw [ht]at har;exact aeP har (by kernel_rfl) (by kernel_rfl))
 obtain⟨a,b,rfl⟩:=h2;obtain⟨ga,gb⟩:=A9 hg hk hop;obtain⟨i,j,a1,a2,a3,a4,a5,a6⟩:=aeQ hg;obtain⟨r,f1,f2,f3⟩:=CG _ a (R0 _) ga;obtain⟨s,g1,g2,g3⟩:=CG _ b (R0 _) gb;have kr:=jR f1 ga;have ks:=jR g1 gb;have ha:=(wJ ga).1;have hb:=(wJ gb).1;have k1:=jM (t:= -1) ks kr;have k2:=jM (t:= -1) kr ks;have kS: ∀R,Ev (fun k=>cond (x.text==([60,61]:Str)) ((eT k s r (-1)).bind fun p63=>some ((Co.mk p63 false),true)) (cond (x.text==([60]:Str)) ((eT k s r (-1)).bind fun p66=>(eT k p66 (Fo.mk [] [] (-1) false) 1).bind fun p68=>some ((Co.mk p68 false),true)) (cond (x.text==([62,61]:Str)) ((eT k r s (-1)).bind fun p71=>some ((Co.mk p71 false),true)) (cond (x.text==([62]:Str)) ((eT k r s (-1)).bind fun p74=>(eT k p74 (Fo.mk [] [] (-1) false) 1).bind fun p76=>some ((Co.mk p76 false),true)) ((eT k r s (-1)).bind fun p78=>some ((Co.mk p78 true),true)))))) R->Ev (fun k=>gK k (flat 0 (.mk x [a,b]))) R:=by
  intro R hR;unfold gK;simp only [hw,V0,nn,A0,hlast,W0,dP,xP,jw];exact Ev.bind ((aeT _ _ _ _ _ _).to (by rw [b3,g0 hm'];rfl)) (Ev.cF rfl (Ev.iG a1 (Ev.bind a3 (Ev.bind f2 (Ev.iG a2 (Ev.bind a4 (Ev.bind g2 hR)))))))
 have qS: ∀R,Ev (fun k=>cond (x.text==([60,61]:Str)) ((eX k (nf s) (nf r) (-1)).bind fun p25=>some (p25,false,true)) (cond (x.text==([60]:Str)) ((eX k (nf s) (nf r) (-1)).bind fun p28=>(eX k p28 (Fq.mk [] [] (-1) false) 1).bind fun p30=>some (p30,false,true)) (cond (x.text==([62,61]:Str)) ((eX k (nf r) (nf s) (-1)).bind fun p33=>some (p33,false,true)) (cond (x.text==([62]:Str)) ((eX k (nf r) (nf s) (-1)).bind fun p36=>(eX k p36 (Fq.mk [] [] (-1) false) 1).bind fun p38=>some (p38,false,true)) (cond (x.text==([61]:Str)) ((eX k (nf r) (nf s) (-1)).bind fun p41=>some (p41,true,true)) (some ((Fq.mk [] [] 0 false),false,false))))))) R->Ev (fun k=>jh k (flat 0 (.mk x [a,b]))) R:=by
  intro R hR;unfold jh;simp only [hroot,W0,dP,xP,jw,UO,b3,Q4,hal];exact Ev.cF (by rfl) (Ev.bind a5 (Ev.bind f3 (Ev.bind a6 (Ev.bind g3 hR))))
 rcases hm with ht|ht|ht|ht|ht
 · rw [ht]at kS qS
   exact .inl ⟨_,_,.eq hk ht f1 g1,kS _ (Ev.cF (by decide) (Ev.cF (by decide) (Ev.cF (by decide) (Ev.cF (by decide) (Ev.bind (jO kr ks (by omega) (by omega)) Ev.some))))),
    qS _ (Ev.cF (by decide) (Ev.cF (by decide) (Ev.cF (by decide) (Ev.cF (by decide) (Ev.cT (by decide) (Ev.bind (jP kr ks (by omega) (by omega)) Ev.some))))))⟩
 · rw [ht]at kS qS
   exact .inl ⟨_,_,.lt hk ht f1 g1,kS _ (Ev.cF (by decide) (Ev.cT (by decide) (Ev.bind (jO ks kr (by omega) (by omega)) (Ev.bind (jO k1 (g:=wX) (b:=0) sN (by omega) (by omega)) Ev.some)))),
    qS _ (Ev.cF (by decide) (Ev.cT (by decide) (Ev.bind (jP ks kr (by omega) (by omega)) (Ev.bind (jP k1 (g:=wX) (b:=0) sN (by omega) (by omega)) Ev.some))))⟩
 · rw [ht]at kS qS;exact .inl ⟨_,_,.le hk ht f1 g1,kS _ (Ev.cT (by decide) (Ev.bind (jO ks kr (by omega) (by omega)) Ev.some)),qS _ (Ev.cT (by decide) (Ev.bind (jP ks kr (by omega) (by omega)) Ev.some))⟩
 · rw [ht]at kS qS
   exact .inl ⟨_,_,.gt hk ht f1 g1,kS _ (Ev.cF (by decide) (Ev.cF (by decide) (Ev.cF (by decide) (Ev.cT (by decide) (Ev.bind (jO kr ks (by omega) (by omega)) (Ev.bind (jO k2 (g:=wX) (b:=0) sN (by omega) (by omega)) Ev.some)))))),
    qS _ (Ev.cF (by decide) (Ev.cF (by decide) (Ev.cF (by decide) (Ev.cT (by decide) (Ev.bind (jP kr ks (by omega) (by omega)) (Ev.bind (jP k2 (g:=wX) (b:=0) sN (by omega) (by omega)) Ev.some))))))⟩
 · rw [ht]at kS qS;exact .inl ⟨_,_,.ge hk ht f1 g1,kS _ (Ev.cF (by decide) (Ev.cF (by decide) (Ev.cT (by decide) (Ev.bind (jO kr ks (by omega) (by omega)) Ev.some)))),qS _ (Ev.cF (by decide) (Ev.cF (by decide) (Ev.cT (by decide) (Ev.bind (jP kr ks (by omega) (by omega)) Ev.some))))⟩
inductive Eo:List Tm->List Int->Fo->Bool->Fo->Bool->Prop
 |nil {S:Fo} {e:Bool}:Eo [] [] S e S e
 |cons {t:Tm} {ts:List Tm} {n:Int} {ns:List Int} {f S S':Fo} {q e e':Bool} (hc:wK t f q) (hp:q=true\/0<=n) (h1: -10000<=n) (h2:n<=10000) (h:Eo ts ns (bL S f n) (e&&q) S' e'):Eo (t::ts) (n::ns) S e S' e'
inductive ao5 (ts:List Tm) (ns:List Int) (g:Tm):Prop
 |fls {S:Fo} {e:Bool} (hs:Eo ts ns wF true S e) (hg:g.root.kind=2/\g.root.text=[70,65,76,83,69]) (hn:isNum S=true) (hl:S.num<0)
 |eqn {S f:Fo} {e:Bool} (hs:Eo ts ns wF true S e) (hc:wK g f true) (he:e=true) (hn:isNum (bL S f (-1))=true) (hl:(bL S f (-1)).num=0)
 |cmp {S f:Fo} {e:Bool} (hs:Eo ts ns wF true S e) (hc:wK g f false) (hn:isNum (bL S (bL wX f (-1)) 1)=true) (hl:(bL S (bL wX f (-1)) 1).num<0)
theorem aeU (n:Int):k_in n (-10000) 10000=some (decide (-10000<=n)&&decide (n<=10000)):=by
 unfold k_in;by_cases h:n>= -10000
 · rw [g0 h,S1,C1]
 · rw [B0 h,O2,O3]
theorem NA (n:Int):dw n (-10000) 10000=some (decide (-10000<=n)&&decide (n<=10000)):=by
 unfold dw;by_cases h:n>= -10000
 · rw [g0 h,S1,C1]
 · rw [B0 h,O2,O3]
def Qw (n:Int) (e is:Bool):Bool:= !is||(!e&&decide (n<0))|| !(decide (-10000<=n)&&decide (n<=10000))
theorem UQ {ns:List Int} {i:Nat} {n:Int} (hn:ns[i]? =some n) (a:List (List Nd)) (b:List Int) (c:Int) (d e is:Bool):wH ns (i:Int) a b c d e (!is)=some (Qw n e is):=by
 unfold wH Qw;cases is with
 |false=>rfl
 |true=>
  simp only [y6,O2,nn,A0,V0,hn,W0,aeU];cases(decide (-10000<=n)&&decide (n<=10000))with
  |false=>simp
  |true=>cases e<;>simp
theorem UR {ns:List Int} {i:Nat} {n:Int} (hn:ns[i]? =some n) (e is:Bool):En ns (i:Int) e (!is)=some (Qw n e is):=by
 unfold En Qw;cases is with
 |false=>rfl
 |true=>
  simp only [y6,O2,nn,A0,V0,hn,W0,NA];cases e with
  |true=>simp
  |false=>
   cases hd:decide (n<0)with
   |true=>simp
   |false=>simp
theorem aml {ns:List Int} {ts:List Tm} (hg: ∀t∈ts,Gd (flat 0 t)) (hl:ts.length<=14) (hn:ns.length=ts.length):
 (∃S e,Eo ts ns wF true S e/\wE S 2240/\Ev (fun k=>fV k ns [] [] 0 false true (ts.map (flat 0)) ((ts.map (flat 0)).length:Int) 0) (.inl (e,S.us,S.cs,S.num,S.bad))/\Ev (fun k=>iN k (ts.map (flat 0)) ns [] [] 0 false true 0) (.inl (e,(nf S).us,(nf S).cs,(nf S).num,(nf S).wide)))\/
 (∃z z',Ev (fun k=>fV k ns [] [] 0 false true (ts.map (flat 0)) ((ts.map (flat 0)).length:Int) 0) (.inr (false,z))/\Ev (fun k=>iN k (ts.map (flat 0)) ns [] [] 0 false true 0) (.inr (false,z'))):=by
 have hlen:(ts.map (flat 0)).length=ts.length:=J1 ..
 have key:=eO (len:=ts.length) (p:=fun i=> ∀(S:Fo) (e:Bool),wE S (160*i)->
  (∃S' e',Eo (ts.drop i) (ns.drop i) S e S' e'/\wE S' 2240/\Ev (fun k=>fV k ns S.us S.cs S.num S.bad e (ts.map (flat 0)) ((ts.map (flat 0)).length:Int) (i:Int)) (.inl (e',S'.us,S'.cs,S'.num,S'.bad))/\Ev (fun k=>iN k (ts.map (flat 0)) ns (nf S).us (nf S).cs (nf S).num (nf S).wide e (i:Int)) (.inl (e',(nf S').us,(nf S').cs,(nf S').num,(nf S').wide)))\/
  (∃z z',Ev (fun k=>fV k ns S.us S.cs S.num S.bad e (ts.map (flat 0)) ((ts.map (flat 0)).length:Int) (i:Int)) (.inr (false,z))/\Ev (fun k=>iN k (ts.map (flat 0)) ns (nf S).us (nf S).cs (nf S).num (nf S).wide e (i:Int)) (.inr (false,z'))))
  (fun S e hS=> .inl ⟨S,e,by rw [wA,P4 (by omega)];exact .nil,AB hS (by omega),Ev.succ (by
   simp only [fV,hlen];exact Ev.cF (eD _) Ev.some),Ev.succ (by simp only [iN,hlen];exact Ev.cF (eD _) Ev.some)⟩) fun i hi ih S e hS=>by
  have hni:i<ns.length:=by omega
  have hti:(ts.map (flat 0))[i]? =some (flat 0 ts[i]):=by rw [J0,aP hi];rfl
  have hgi:=hg _ (L3 hi);have hw:=bW hi (show ts.length<=1099511627776 by omega)
  have ks: ∀R,Ev (fun k=>(gK k (flat 0 ts[i])).bind fun p6=>Option.bind (wH ns (i:Int) p6.1.form.us p6.1.form.cs p6.1.form.num p6.1.form.bad p6.1.eq (!p6.2)) (fun K9=>cond K9 (some (.inr ((false,S.us,S.cs,S.num,S.bad)))) (cond e ((eT k (Fo.mk S.us S.cs S.num S.bad) p6.1.form ns[i]).bind fun p35=>fV k ns p35.us p35.cs p35.num p35.bad p6.1.eq (ts.map (flat 0)) (ts.length:Int) ((i+1:Nat):Int)) ((eT k (Fo.mk S.us S.cs S.num S.bad) p6.1.form ns[i]).bind fun p39=>fV k ns p39.us p39.cs p39.num p39.bad false (ts.map (flat 0)) (ts.length:Int) ((i+1:Nat):Int))))) R->
   Ev (fun k=>fV k ns S.us S.cs S.num S.bad e (ts.map (flat 0)) ((ts.map (flat 0)).length:Int) (i:Int)) R:=by
   intro R hR;refine Ev.succ ?_;simp only [fV,hlen,nn,A0,V0,hti,aP hni,W0,fC hi,S1,hw];exact hR
  have qs: ∀R,Ev (fun k=>(jh k (flat 0 ts[i])).bind fun p6=>Option.bind (En ns (i:Int) p6.2.1 (!p6.2.2)) (fun y5=>cond y5 (some (.inr ((false,(nf S).us,(nf S).cs,(nf S).num,(nf S).wide)))) (cond e ((eX k (Fq.mk (nf S).us (nf S).cs (nf S).num (nf S).wide) p6.1 ns[i]).bind fun p39=>iN k (ts.map (flat 0)) ns p39.us p39.cs p39.num p39.wide p6.2.1 ((i+1:Nat):Int)) ((eX k (Fq.mk (nf S).us (nf S).cs (nf S).num (nf S).wide) p6.1 ns[i]).bind fun p43=>iN k (ts.map (flat 0)) ns p43.us p43.cs p43.num p43.wide false ((i+1:Nat):Int))))) R->
   Ev (fun k=>iN k (ts.map (flat 0)) ns (nf S).us (nf S).cs (nf S).num (nf S).wide e (i:Int)) R:=by
   intro R hR;refine Ev.succ ?_;simp only [iN,hlen,nn,A0,V0,hti,aP hni,W0,fC hi,S1,hw];exact hR
  rcases Qe hgi with⟨f,q,c1,c2,c3⟩|⟨c2,c3⟩
  case inr=>
   refine .inr ⟨_,_,ks _ (Ev.bind c2 (Ev.iG (UQ (aP hni) _ _ _ _ _ _) (Ev.cT rfl Ev.some))),qs _ (Ev.bind c3 (Ev.iG (UR (aP hni) _ _) (Ev.cT rfl Ev.some)))⟩
  have kf:=JE c1 hgi;cases hr:Qw ns[i] q true with
  |true=>
   exact .inr ⟨_,_,ks _ (Ev.bind c2 (Ev.iG (UQ (aP hni) _ _ _ _ _ _) (Ev.cT hr Ev.some))),qs _ (Ev.bind c3 (Ev.iG (UR (aP hni) _ _) (Ev.cT hr Ev.some)))⟩
  |false=>
   have hr':=hr;unfold Qw at hr';simp only [y6,Q4,A6,kB,k8,z1,B2,E6]at hr';have pk:=jO (t:=ns[i]) hS kf (by omega) (by omega);have pq:=jP (t:=ns[i]) hS kf (by omega) (by omega);have hS':wE (bL S f ns[i]) (160*(i+1)):=AB (jM hS kf) (by omega);have hdr: ∀S' e',Eo (ts.drop (i+1)) (ns.drop (i+1)) (bL S f ns[i]) (e&&q) S' e'->Eo (ts.drop i) (ns.drop i) S e S' e':=by
    intro S' e' h;rw [drop_cons hi,drop_cons hni];exact .cons c1 (hr'.1.elim (fun h=> .inl h) fun h=> .inr (by omega)) hr'.2.1 hr'.2.2 h
   have kk: ∀R,Ev (fun k=>fV k ns (bL S f ns[i]).us (bL S f ns[i]).cs (bL S f ns[i]).num (bL S f ns[i]).bad (e&&q) (ts.map (flat 0)) ((ts.map (flat 0)).length:Int) ((i+1:Nat):Int)) R->Ev (fun k=>fV k ns S.us S.cs S.num S.bad e (ts.map (flat 0)) ((ts.map (flat 0)).length:Int) (i:Int)) R:=by
    intro R hR;rw [hlen]at hR;refine ks _ (Ev.bind c2 (Ev.iG (UQ (aP hni) _ _ _ _ _ _) (Ev.cF hr ?_)));cases e with
    |true=>rw [C1]at hR;exact Ev.cT rfl (Ev.bind pk hR)
    |false=>rw [O3]at hR;exact Ev.cF rfl (Ev.bind pk hR)
   have qq: ∀R,Ev (fun k=>iN k (ts.map (flat 0)) ns (nf (bL S f ns[i])).us (nf (bL S f ns[i])).cs (nf (bL S f ns[i])).num (nf (bL S f ns[i])).wide (e&&q) ((i+1:Nat):Int)) R->Ev (fun k=>iN k (ts.map (flat 0)) ns (nf S).us (nf S).cs (nf S).num (nf S).wide e (i:Int)) R:=by
    intro R hR;refine qs _ (Ev.bind c3 (Ev.iG (UR (aP hni) _ _) (Ev.cF hr ?_)));cases e with
    |true=>rw [C1]at hR;exact Ev.cT rfl (Ev.bind pq hR)
    |false=>rw [O3]at hR;exact Ev.cF rfl (Ev.bind pq hR)
   rcases ih (bL S f ns[i]) (e&&q) hS' with⟨S',e',h1,h2,h3,h4⟩|⟨z,z',h3,h4⟩
   · exact .inl ⟨S',e',hdr _ _ h1,h2,kk _ h3,qq _ h4⟩
   · exact .inr ⟨z,z',kk _ h3,qq _ h4⟩
 have:=key wF true sN;rw [P1,P1]at this;exact this
theorem WZ {f:Fo} (hn:f.cs.length<=1099511627776):Ev (fun k=>Cz k f) (isNum f&&decide (f.num<0)):=by
 unfold Cz;refine Ev.bind (BM hn) ?_;cases isNum f with
 |true=>exact Ev.cT rfl (Ev.some' (by simp))
 |false=>exact Ev.cF rfl (Ev.some' (by simp))
theorem aeV {f:Fo} (h:isNum f=true):(nf f).num=f.num:=by
 unfold isNum at h;rw [z1,z7]at h;rw [YS h.1]
theorem aeW {ns:List Int} {ts:List Tm} {g:Tm} (hg: ∀t∈ts,Gd (flat 0 t)) (hl:ts.length<=14) (hn:ns.length=ts.length) (hgg:Gd (flat 0 g)):
 ∃b,Ev (fun k=>uM k (ts.map (flat 0)) ns (flat 0 g)) b/\Ev (fun k=>F9 k (ts.map (flat 0)) ns (flat 0 g)) b/\(b=true->ao5 ts ns g):=by
 rcases aml hg hl hn with⟨S,e,s1,s2,s3,s4⟩|⟨z,z',s3,s4⟩
 case inr=>
  refine⟨false,?_,?_,fun h=>by cases h⟩
  · unfold uM;exact Ev.bind s3 Ev.some
  · unfold F9;exact Ev.bind s4 Ev.some
 have sl:=s2.len;have sl2:=s2.le;obtain⟨x,cs⟩:=g;obtain⟨hs,hnd⟩:=wJ hgg;have hz:sizes cs<=1000:=by simp only [size]at hs;omega
 obtain⟨hw,hlast⟩:=aeR (x:=x) hz;have aDc:EX (flat 0 (.mk x cs)) [70,65,76,83,69]=some (x.kind==2&&x.text==[70,65,76,83,69]):=by
  unfold EX P9;simp only [hw,nn,A0,V0,hlast,W0,dP,jw];cases(x.kind==2)<;>rfl
 have aDd: ∃b,Qc (flat 0 (.mk x cs))=some b/\b=(x.kind==2&&x.text==[70,65,76,83,69]):=by
  have hl:(flat 0 (.mk x cs)).length=sizes cs+1:=by rw [bn];simp only [size]
  unfold Qc;cases cs with
  |nil=>
   rw [xR (by rw [hl];rfl)];have:(flat 0 (.mk x []))[0]? =some (nd x 0 []):=hlast;rw [this,W0,dP,jw];cases(x.kind==2)
   · exact⟨_,rfl,rfl⟩
   · exact⟨_,rfl,rfl⟩
  |cons c cs=>
   have hp:=c.size_pos;rw [qc (by rw [hl,O0];simp only [sizes];omega)];refine⟨_,rfl,?_⟩;cases hb:(x.kind==2)with
   |false=>rfl
   |true=>
    exfalso;have hk:x.kind=2:=by simpa using hb
    have h0:=hgg.val.ok _ _ hlast;unfold bI at h0;split at h0
    · exact absurd h0 (by decide)
    split at h0
    · exact absurd h0 (by decide)
    rename_i hsh;apply hsh;unfold nM;have hal:(nd x 0 (c::cs)).args.length=(c::cs).length:=iq 0 _;rw [hal,dP,jw,hk];have e1:decide ((2:Int)=3)=false:=by decide
    simp only [e1,Bool.and_false,I2,L2];have e2:iE 2=((0,0,0,0),false):=by kernel_rfl
    rw [e2,kB];right;unfold gy;simp only [I2,L2,Int.mul_zero,Int.sub_zero,I0];exact B0 (fun h=>by omega)
 obtain⟨bq,qn,rfl⟩:=aDd;have kS: ∀R,Ev (fun k=>cond (x.kind==2&&x.text==[70,65,76,83,69]) ((Cz k S).bind fun p57=>some p57) ((gK k (flat 0 (.mk x cs))).bind fun p59=>cond p59.2 (cond p59.1.eq ((eT k S p59.1.form (-1)).bind fun p63=>cond e ((mh k p63).bind fun p66=>cond p66 (some (p63.num==0)) (some false)) (some false)) ((eT k (Fo.mk [] [] (-1) false) p59.1.form (-1)).bind fun p69=>(eT k S p69 1).bind fun p71=>(Cz k p71).bind fun p73=>some p73)) (some false))) R->Ev (fun k=>uM k (ts.map (flat 0)) ns (flat 0 (.mk x cs))) R:=by
  intro R hR;unfold uM;refine Ev.bind s3 ?_;simp only [Sum.elim_inl,aDc,W0];exact hR
 have qS: ∀R,Ev (fun k=>cond (x.kind==2&&x.text==[70,65,76,83,69]) ((j6 k (nf S)).bind fun p63=>Option.bind (JB (nf S).us (nf S).cs (nf S).num (nf S).wide p63) (fun p67=>some p67)) ((jh k (flat 0 (.mk x cs))).bind fun p73=>cond p73.2.2 (cond p73.2.1 ((eX k (nf S) p73.1 (-1)).bind fun Pb=>Option.bind (JC k Pb.us Pb.cs Pb.num Pb.wide e) (fun Zj=>some Zj)) ((eX k (Fq.mk [] [] (-1) false) p73.1 (-1)).bind fun p90=>(eX k (nf S) p90 1).bind fun QU=>(j6 k QU).bind fun VD=>cond VD (some (decide (QU.num<0))) (some false))) (some false))) R->Ev (fun k=>F9 k (ts.map (flat 0)) ns (flat 0 (.mk x cs))) R:=by
  intro R hR;unfold F9;refine Ev.bind s4 ?_;simp only [Sum.elim_inl,qn,W0];exact hR
 cases hf:(x.kind==2&&x.text==[70,65,76,83,69])with
 |true=>
  rw [hf]at kS qS;refine⟨isNum S&&decide (S.num<0),kS _ (Ev.cT rfl (Ev.bind (WZ (by omega)) Ev.some)),qS _ (Ev.cT rfl (Ev.bind (xZ (by omega)) ?_)),fun hb=> ?_⟩
  · unfold JB;cases hN:isNum S with
    |true=>exact Ev.some' (by rw [aeV hN];simp)
    |false=>exact Ev.some' (by simp)
  · rw [z1,B2]at hb;rw [z1,E3,E3]at hf;exact .fls s1 hf hb.1 hb.2
 |false=>
  rw [hf]at kS qS;rcases Qe hgg with⟨f,q,c1,c2,c3⟩|⟨c2,c3⟩
  case inr=>exact⟨false,kS _ (Ev.cF rfl (Ev.bind c2 (Ev.cF rfl Ev.some))),qS _ (Ev.cF rfl (Ev.bind c3 (Ev.cF rfl Ev.some))),fun h=>by cases h⟩
  have kf:=JE c1 hgg;cases q with
  |true=>
   have pk:=jO (t:= -1) s2 kf (by omega) (by omega);have pq:=jP (t:= -1) s2 kf (by omega) (by omega);have kp:=jM (t:= -1) s2 kf;have kl:=kp.len;have kl2:=kp.le;refine⟨e&&(isNum (bL S f (-1))&&((bL S f (-1)).num==0)),kS _ (Ev.cF rfl (Ev.bind c2 (Ev.cT rfl (Ev.cT rfl (Ev.bind pk ?_))))),qS _ (Ev.cF rfl (Ev.bind c3 (Ev.cT rfl (Ev.cT rfl (Ev.bind pq ?_))))),fun hb=> ?_⟩
   · cases e with
     |false=>exact Ev.cF rfl (Ev.some' (by simp))
     |true=>
      refine Ev.cT rfl (Ev.bind (BM (by omega)) ?_);cases isNum (bL S f (-1))with
      |true=>exact Ev.cT rfl (Ev.some' (by simp))
      |false=>exact Ev.cF rfl (Ev.some' (by simp))
   · unfold JC;cases e with
     |false=>exact Ev.bind (Ev.cF rfl Ev.some) (Ev.some' (by simp))
     |true=>
      refine Ev.bind (Ev.cT rfl (Ev.bind (xZ (f:=bL S f (-1)) (by omega)) ?_)) Ev.some;cases hN:isNum (bL S f (-1))with
      |true=>exact Ev.cT rfl (Ev.some' (by rw [aeV hN];simp))
      |false=>exact Ev.cF rfl (Ev.some' (by simp))
   · rw [z1,z1,E3]at hb;exact .eqn s1 c1 hb.1 hb.2.1 hb.2.2
  |false=>
   have pk1:=jO (f:=wX) (t:= -1) (a:=0) sN kf (by omega) (by omega);have pq1:=jP (f:=wX) (t:= -1) (a:=0) sN kf (by omega) (by omega);have kp1:wE (bL wX f (-1)) 160:=AB (jM (f:=wX) (t:= -1) (a:=0) sN kf) (by omega);have pk:=jO (t:=1) s2 kp1 (by omega) (by omega);have pq:=jP (t:=1) s2 kp1 (by omega) (by omega);have kp:=jM (t:=1) s2 kp1;have kl:=kp.len;have kl2:=kp.le;refine⟨isNum (bL S (bL wX f (-1)) 1)&&decide ((bL S (bL wX f (-1)) 1).num<0),kS _ (Ev.cF rfl (Ev.bind c2 (Ev.cT rfl (Ev.cF rfl (Ev.bind pk1 (Ev.bind pk (Ev.bind (WZ (by omega)) Ev.some))))))),qS _ (Ev.cF rfl (Ev.bind c3 (Ev.cT rfl (Ev.cF rfl (Ev.bind pq1 (Ev.bind pq (Ev.bind (xZ (by omega)) ?_))))))),fun hb=> ?_⟩
   · cases hN:isNum (bL S (bL wX f (-1)) 1)with
     |true=>exact Ev.cT rfl (Ev.some' (by rw [aeV hN];simp))
     |false=>exact Ev.cF rfl (Ev.some' (by simp))
   · rw [z1,B2]at hb;exact .cmp s1 c1 hb.1 hb.2
section
variable (v:Str->Int)
def trN (s:Str) (a b:Int):Prop:=
 if s=[60,61]then a<=b else if s=[60]then a<b else if s=[62,61]then b<=a else if s=[62]then b<a else a=b
def Holds (t:Tm):Prop:= ∃x a b,t= .mk x [a,b]/\trN x.text (dM v a) (dM v b)
theorem E5 {x:Nd} {a b:Tm}:Holds v (.mk x [a,b])↔trN x.text (dM v a) (dM v b):=
 ⟨fun⟨_,_,_,e,h⟩=>by cases e;exact h,fun h=>⟨_,_,_,rfl,h⟩⟩
structure Sml (t:Tm):Prop where
 gd:Gd (flat 0 t)
 nm: ∀n∈flat 0 t,n.names=[]
 am: ∀x a b,t= .mk x [a,b]->(dM v a).natAbs<=3375000000/\(dM v b).natAbs<=3375000000
theorem W9 {a b:Tm} {r s:Fo} {t:Int} (ga:Gd (flat 0 a)) (gb:Gd (flat 0 b)) (na: ∀n∈flat 0 a,n.names=[]) (nb: ∀n∈flat 0 b,n.names=[]) (h:dX a r) (h':dX b s):
 Kr (bL r s t).us/\wE (bL r s t) (a.size+b.size)/\((bL r s t).bad=false->Md (vC (Jv v) (bL r s t)) (dM v a+t*dM v b)):=by
 obtain⟨n1,v1⟩:=WK v h ga na;obtain⟨n2,v2⟩:=WK v h' gb nb;refine⟨uJ n1 n2,jM (jR h ga) (jR h' gb),fun hb=> ?_⟩;obtain⟨b1,b2,m⟩:=sP v (jR h ga) (jR h' gb) n1 n2 hb;exact m.trans ((v1 b1).add ((v2 b2).mulL t))
theorem ajC:Kr wX.us:=fun u hu=>by cases hu
theorem aAf:vC (Jv v) wX= -1:=rfl
theorem asK {f:Fo} {n:Nat} {D:Int} (k:wE f n) (nb:Kr f.us) (m:f.bad=false->Md (vC (Jv v) f) D):
 Kr (bL f wX 1).us/\((bL f wX 1).bad=false->Md (vC (Jv v) (bL f wX 1)) (D -1)):=by
 refine⟨uJ nb ajC,fun hb=> ?_⟩;obtain⟨b1,_,h⟩:=sP v k (g:=wX) (b:=0) sN nb ajC hb;rw [aAf]at h;exact h.trans (((m b1).add (Md.rfl' _)).trans (Md.of (by omega)))
theorem UU {t:Tm} {f:Fo} {q:Bool} (h:wK t f q) (hs:Sml v t):
 Kr f.us/\ ∃D:Int,(f.bad=false->Md (vC (Jv v) f) D)/\D.natAbs<=7000000000/\(q=true->(D=0↔Holds v t))/\(q=false->(0<=D↔Holds v t)):=by
 have key: ∀{x:Nd} {a b:Tm},Sml v (.mk x [a,b])->x.kind=3->x.text∈comps->Gd (flat 0 a)/\Gd (flat 0 b)/\(∀n∈flat 0 a,n.names=[])/\(∀n∈flat 0 b,n.names=[])/\(dM v a).natAbs<=3375000000/\(dM v b).natAbs<=3375000000:=by
  intro x a b hs hk ht;obtain⟨ga,gb⟩:=A9 hs.gd hk (JD ht);obtain⟨na,nb⟩:=LW hs.nm;exact⟨ga,gb,na,nb,hs.am x a b rfl⟩
 cases h with
 | @le x a b r s hk ht h h'=>
  obtain⟨ga,gb,na,nb,sa,sb⟩:=key hs hk (by rw [ht];decide);obtain⟨u1,u2,u3⟩:=W9 v (t:= -1) gb ga nb na h' h;refine⟨u1,_,u3,by omega,(fun e=>by cases e),fun _=> ?_⟩;rw [E5,ht];show _↔dM v a<=dM v b;omega
 | @lt x a b r s hk ht h h'=>
  obtain⟨ga,gb,na,nb,sa,sb⟩:=key hs hk (by rw [ht];decide);obtain⟨u1,u2,u3⟩:=W9 v (t:= -1) gb ga nb na h' h;obtain⟨w1,w2⟩:=asK v u2 u1 u3;refine⟨w1,_,w2,by omega,(fun e=>by cases e),fun _=> ?_⟩;rw [E5,ht];show _↔dM v a<dM v b;omega
 | @ge x a b r s hk ht h h'=>
  obtain⟨ga,gb,na,nb,sa,sb⟩:=key hs hk (by rw [ht];decide);obtain⟨u1,u2,u3⟩:=W9 v (t:= -1) ga gb na nb h h';refine⟨u1,_,u3,by omega,(fun e=>by cases e),fun _=> ?_⟩;rw [E5,ht];show _↔dM v b<=dM v a;omega
 | @gt x a b r s hk ht h h'=>
  obtain⟨ga,gb,na,nb,sa,sb⟩:=key hs hk (by rw [ht];decide);obtain⟨u1,u2,u3⟩:=W9 v (t:= -1) ga gb na nb h h';obtain⟨w1,w2⟩:=asK v u2 u1 u3;refine⟨w1,_,w2,by omega,(fun e=>by cases e),fun _=> ?_⟩;rw [E5,ht];show _↔dM v b<dM v a;omega
 | @eq x a b r s hk ht h h'=>
  obtain⟨ga,gb,na,nb,sa,sb⟩:=key hs hk (by rw [ht];decide);obtain⟨u1,u2,u3⟩:=W9 v (t:= -1) ga gb na nb h h';refine⟨u1,_,u3,by omega,fun _=> ?_,fun e=>by cases e⟩;rw [E5,ht];show _↔dM v a=dM v b;omega
theorem aad {t:Tm} {f:Fo} {q:Bool} (h:wK t f q):t.root.kind=3:=by
 cases h with
 |le hk=>exact hk
 |lt hk=>exact hk
 |ge hk=>exact hk
 |gt hk=>exact hk
 |eq hk=>exact hk
theorem aae {f g:Fo} {t:Int} (h:(bL f g t).bad=false):(bL f g t).num.natAbs<=1000000000:=by
 unfold bL at h⊢;split at h
 · cases h
 · rename_i hc;rw [if_neg hc];simp only [wide,List.any_append,b8,List.any_nil,Bool.or_false,A6,k8,z1,B2]at h;have:=h.2
   dsimp only
   omega
theorem aAg {n D:Int} (h:0<=n) (h':n<=10000) (d:0<=D) (d':D<=7000000000):0<=n*D/\n*D<=70000000000000:=by
 refine⟨Int.mul_nonneg h d,Int.le_trans (Int.mul_le_mul_of_nonneg_right h' d) ?_⟩;omega
theorem YT {ts:List Tm} {ns:List Int} {S S':Fo} {e e':Bool} (h:Eo ts ns S e S' e'):
 (∀t∈ts,Sml v t)->(∀t∈ts,Holds v t)-> ∀k,wE S k->Kr S.us->(S.bad=false->S.num.natAbs<=1000000000)->
 Kr S'.us/\(∃k',wE S' k')/\(S'.bad=false->S.bad=false/\S'.num.natAbs<=1000000000/\ ∃D:Int,Md (vC (Jv v) S') (vC (Jv v) S+D)/\0<=D/\D<=ts.length*70000000000000/\(e'=true->e=true/\D=0)):=by
 induction h with
 |nil=>exact fun _ _ k hk nb hn=>⟨nb,⟨k,hk⟩,fun hb=>⟨hb,hn hb,0,Md.of (by omega),Int.le_refl _,by simp,fun he=>⟨he,rfl⟩⟩⟩
 | @cons t ts n ns f S S' q e e' hc hp h1 h2 h ih=>
  intro hs hh k hk nb hn;have st:=hs t (A1 ..);have ht:=hh t (A1 ..);have kf:=JE hc st.gd;obtain⟨nf,D,d1,d2,d3,d4⟩:=UU v hc st;obtain⟨r1,r2,r3⟩:=ih (fun t h=>hs t (I1 _ h)) (fun t h=>hh t (I1 _ h)) _ (jM hk kf) (uJ nb nf) aae;refine⟨r1,r2,fun hb=> ?_⟩;obtain⟨b0,b1,E,e1,e2,e3,e4⟩:=r3 hb;obtain⟨c1,c2,c3⟩:=sP v hk kf nb nf b0;have key:0<=n*D/\n*D<=70000000000000/\(q=true->n*D=0):=by
   cases q with
   |true=>
    have d0:=(d3 rfl).2 ht;subst d0;simp
   |false=>
    have d0:=(d4 rfl).2 ht;have n0:0<=n:=hp.elim (fun h=>by cases h) id;have:=aAg n0 h2 d0 (by omega);exact⟨this.1,this.2,fun h=>by cases h⟩
  refine⟨c1,b1,n*D+E,(e1.trans ((c3.trans ((Md.rfl' _).add ((d1 c2).mulL n))).add (Md.rfl' E))).trans (Md.of (by omega)),by omega,?_,fun he=> ?_⟩
  · rw [I0];have:(((ts.length+1:Nat):Int))*70000000000000=(ts.length:Int)*70000000000000+70000000000000:=by omega
    omega
  · obtain⟨e5,e6⟩:=e4 he;rw [z1]at e5;refine⟨e5.1,?_⟩;have:=key.2.2 e5.2;omega
theorem lin {ts:List Tm} {ns:List Int} {g:Tm} (h:ao5 ts ns g) (hl:ts.length<=13) (hs: ∀t∈ts,Sml v t) (hh: ∀t∈ts,Holds v t) (hg:g.root.kind≠2->Sml v g):Holds v g:=by
 have nb0:Kr wF.us:=fun u hu=>by cases hu
 have bOo: ∀D:Int,D<=ts.length*70000000000000->D<=910000000000000:=fun D h=>by omega
 cases h with
 | @fls S e h0 hx hn hm=>
  obtain⟨r1,⟨k',rk⟩,r3⟩:=YT v h0 hs hh 0 sN nb0 fun _=>by decide
  have hb:S.bad=false:=by
   unfold isNum at hn;rw [z1,z7]at hn;exact hn.1
  obtain⟨_,b1,D,m,d0,d1,_⟩:=r3 hb;rw [LX v hn,YH]at m;have:=bOo D d1;have:=m.eq (by omega) (by omega);omega
 | @eqn S f e h0 hc he hn hm=>
  obtain⟨r1,⟨k',rk⟩,r3⟩:=YT v h0 hs hh 0 sN nb0 fun _=>by decide
  have sg:Sml v g:=hg (by rw [aad hc];decide);obtain⟨nf,D,d1,d2,d3,_⟩:=UU v hc sg;have hb:(bL S f (-1)).bad=false:=by
   unfold isNum at hn;rw [z1,z7]at hn;exact hn.1
  obtain⟨c1,c2,c3⟩:=sP v rk (JE hc sg.gd) r1 nf hb;obtain⟨_,b1,E,m,e0,e1,e2⟩:=r3 c1;have E0:=(e2 he).2;rw [LX v hn,hm]at c3;rw [YH]at m;have:=(c3.trans (m.add ((d1 c2).mulL (-1)))).eq (by omega) (by omega);exact(d3 rfl).1 (by omega)
 | @cmp S f e h0 hc hn hm=>
  obtain⟨r1,⟨k',rk⟩,r3⟩:=YT v h0 hs hh 0 sN nb0 fun _=>by decide
  have sg:Sml v g:=hg (by rw [aad hc];decide);obtain⟨nf,D,d1,d2,_,d4⟩:=UU v hc sg;have hb:(bL S (bL wX f (-1)) 1).bad=false:=by
   unfold isNum at hn;rw [z1,z7]at hn;exact hn.1
  have kf:=JE hc sg.gd;have k1:=jM (t:= -1) (f:=wX) (a:=0) sN kf;obtain⟨c1,c2,c3⟩:=sP v rk k1 r1 (uJ ajC nf) hb;obtain⟨g1,g2,g3⟩:=sP v (f:=wX) (a:=0) sN kf ajC nf c2;obtain⟨_,b1,E,m,e0,e1,_⟩:=r3 c1;have aHG:=aae hb;have:=bOo E e1;rw [LX v hn]at c3;rw [YH]at m;rw [aAf]at g3;have:=(c3.trans (m.add ((g3.trans ((Md.rfl' _).add ((d1 g2).mulL (-1)))).mulL 1))).eq (by omega) (by omega);exact(d4 rfl).1 (by omega)
end
theorem YU {p:Nd->Prop} (hp: ∀d n,p n->p (LD d n)) {x:Nd} {l m:List Tm} {c:Tm} (h: ∀n∈flat 0 (.mk x (l++c::m)),p n): ∀n∈flat 0 c,p n:=by
 intro n hn;obtain⟨pre,post,he,hq⟩:Seg (flat 0 (.mk x (l++c::m))) (0+sizes l) c:=(Seg.whole _).kid;have hfl:=yw (0+sizes l) c 0;rw [V1]at hfl;rw [<-hfl]at hn;obtain⟨n',h1,rfl⟩:=G3.1 hn;exact hp _ _ (h n' (by rw [he];exact T5 _ (N4 _ h1)))
theorem Xa {n:Nd} (h:bI true n=0):nM n=true/\(n.kind=0->0<=n.n):=by
 unfold bI at h
 split at h;·cases h
 split at h;·cases h
 rename_i c2
 split at h;·cases h
 split at h;·cases h
 rename_i c4;refine⟨by simpa using c2,fun hk=> ?_⟩;simp [hk,gy]at c4;omega
theorem Ku {n:Nd} {lo hi:Int} (h:bI true n=0) (hs:iE n.kind=((0,0,lo,hi),false)):n.names=[]/\(n.kind≠3->(n.args.length:Int)<=hi):=by
 have h2:=(Xa h).1;unfold nM at h2;refine⟨?_,fun hk=> ?_⟩
 · simp only [hs,gy,z1,B2]at h2;exact u5.1 (by omega)
 · simp [hs,gy,hk]at h2;omega
def okN (n:Nd):Prop:=(n.kind=0/\n.n<=100)\/(n.kind=2/\n.text∈([[120,95,49],[120,95,50],[120,95,51],[120,95,52]]:List Str))\/(n.kind=3/\n.text∈sums)
theorem Xb (d:Int) (n:Nd) (h:okN n):okN (LD d n):=h
theorem ao6 {n:Nd} (h:bI true n=0) (hk:n.kind=0\/n.kind=2\/n.kind=3):n.names=[]:=by
 rcases hk with hk|hk|hk
 · exact(Ku (lo:=0) (hi:=0) h (by rw [hk];kernel_rfl)).1
 · exact(Ku (lo:=0) (hi:=0) h (by rw [hk];kernel_rfl)).1
 · exact(Ku (lo:=1) (hi:=4) h (by rw [hk];kernel_rfl)).1
theorem YV {t:Tm} (h:Gd (flat 0 t)): ∀n∈flat 0 t,bI true n=0:=fun n hn=>by
 obtain⟨i,hi⟩:=a8 hn;exact h.val.ok i n hi
theorem UW (x:Nd) (cs:List Tm):nd x 0 cs∈flat 0 (.mk x cs):=by rw [ig];exact T5 _ (P0.2 rfl)
theorem YW {x:Nd} {cs:List Tm} (h:Gd (flat 0 (.mk x cs))) (hk:x.kind=0\/x.kind=2):cs=[]:=by
 have h0:=YV h _ (UW x cs);have hal:(nd x 0 cs).args.length=cs.length:=iq 0 cs;have h2:=(Ku (lo:=0) (hi:=0) h0 (by rw [dP];rcases hk with hk|hk<;>(rw [hk];kernel_rfl))).2 (by rw [dP];omega);exact u5.1 (by omega)
inductive zU:Tm->Prop
 |num {x:Nd} (hk:x.kind=0) (h0:0<=x.n) (h1:x.n<=100):zU (.mk x [])
 |Cj {x:Nd} (hk:x.kind=2) (h:x.text∈([[120,95,49],[120,95,50],[120,95,51],[120,95,52]]:List Str)):zU (.mk x [])
 |neg {x:Nd} {a:Tm} (hk:x.kind=3) (ht:x.text=[45,46]) (g:Gd (flat 0 (.mk x [a]))) (h:zU a):zU (.mk x [a])
 |two {x:Nd} {a b:Tm} (hk:x.kind=3) (ht:x.text=[43]\/x.text=[45]\/x.text=[42]) (g:Gd (flat 0 (.mk x [a,b]))) (h:zU a) (h':zU b):zU (.mk x [a,b])
theorem LZ: ∀(k:Nat) (t:Tm),t.size<=k->Gd (flat 0 t)->(∀n∈flat 0 t,okN n)->zU t
 |0,t,h,_,_=>by have:=t.size_pos;omega
 |k+1,.mk x cs,h,hg,ho=>by
  have hr:=ho _ (UW x cs);have hs:(Tm.mk x cs).size=sizes cs+1:=by simp only [size]
  rcases hr with⟨h0,h1⟩|⟨h0,h1⟩|⟨h0,h1⟩
  · rw [dP]at h0;have h2:=(Xa (YV hg _ (UW x cs))).2 h0;obtain rfl:=YW hg (.inl h0);exact .num h0 h2 h1
  · rw [dP]at h0;obtain rfl:=YW hg (.inr h0);exact .Cj h0 h1
  · rw [dP]at h0;rw [jw]at h1;have hop:=pz h1;have har:=arity hg h0 hop;have h1':=h1;simp only [sums,M1,D0,B7]at h1;by_cases hm:x.text=[45,46]
    · rw [hm]at har;obtain⟨a,rfl⟩:=amk har (by kernel_rfl) (by kernel_rfl);have ga:=aeA hg h0 hop;rw [hs,mR]at h;exact .neg h0 hm hg (LZ k a (by omega) ga (YU (l:=[]) (m:=[]) Xb ho))
    · have ht:x.text=[43]\/x.text=[45]\/x.text=[42]:=by
       rcases h1 with h|h|h|h
       · exact absurd h hm
       · exact .inl h
       · exact .inr (.inl h)
       · exact .inr (.inr h)
      obtain⟨a,b,rfl⟩: ∃a b,cs=[a,b]:=by
       rcases ht with ht|ht|ht<;>(rw [ht]at har;exact aeP har (by kernel_rfl) (by kernel_rfl))
      obtain⟨ga,gb⟩:=A9 hg h0 hop;have e2:sizes [a,b]=a.size+b.size:=by simp only [sizes];omega
      rw [hs,e2]at h;exact .two h0 ht hg (LZ k a (by omega) ga (YU (l:=[]) (m:=[b]) Xb ho)) (LZ k b (by omega) gb (YU (l:=[a]) (m:=[]) Xb ho))
theorem UY {t:Tm} (h:zU t):Z7 t:=by
 induction h with
 |num hk h0 h1=>exact⟨.inl ⟨hk,h0,h1⟩,trivial⟩
 |Cj hk h=>exact⟨.inr (.inl hk),trivial⟩
 |neg hk ht g h ih=>exact⟨.inr (.inr (.inl ⟨hk,ht,rfl⟩)),ih,trivial⟩
 |two hk ht g h h' ih ih'=>exact⟨.inr (.inr (.inr ⟨hk,ht,rfl⟩)),ih,ih',trivial⟩
theorem amm: ∀(k:Nat),(∀(t:Tm) (b:Nat),t.size<=k->(flat b t).countP (fun n=>n.text==[42])=qJ t)/\(∀(cs:List Tm) (b:Nat),sizes cs<=k->(aV b cs).countP (fun n=>n.text==[42])=Jw cs):=by
 intro k
 induction k with
 |zero=>exact⟨fun t b h=>by have:=t.size_pos;omega,fun cs b h=>by
  cases cs with
  |nil=>rfl
  |cons c cs=>have:=c.size_pos;simp only [sizes]at h;omega⟩
 |succ k ih=>
  have h1: ∀(t:Tm) (b:Nat),t.size<=k+1->(flat b t).countP (fun n=>n.text==[42])=qJ t:=by
   intro t b h;obtain⟨x,cs⟩:=t;simp only [size]at h;rw [ig,eA,ih.2 cs b (by omega),qJ];by_cases hx:x.text=[42]<;>simp [jw,hx]
  refine⟨h1,fun cs b h=> ?_⟩;cases cs with
  |nil=>rfl
  |cons c cs=>
   have:=c.size_pos;simp only [sizes]at h;rw [fH,eA,h1 c b (by omega),ih.2 cs _ (by omega),Jw]
end Go.VL
end
section
set_option maxHeartbeats 4000000
namespace Go.VL
open Go.Proofs
def CJ (au:List Nd):Option Bool:=
 (uj au).bind fun p2=>cond (p2.kind==2) (some (p2.text==([70,65,76,83,69]:Str))) (some false)
instance aAA (au:List Nd):bY Tryz.prog 84 [(.ah (au.map Nd.cells) .unk)] (CJ au) (fun r=>(.bool r)):=bM aFC (by unfold CJ awR;exact bE)
def CK (k:Nat) (s_0:Str):Option Int:=
 (Ay k [([120,95,49]:Str),([120,95,50]:Str),([120,95,51]:Str),([120,95,52]:Str)] s_0).bind fun p2=>some p2
instance aAB (k:Nat) (s_0:Str):bY Tryz.prog 86 [(.str s_0)] (CK k s_0) (fun r=>(.int .i64 r)):=bM aFE (by unfold CK awT;exact bE)
def Ga (k:Nat) (au:List Nd):Option (List Nd):=
 (qy k au 0).bind fun p2=>some p2
instance aHL (k:Nat) (au:List Nd):bY Tryz.prog 89 [(.ah (au.map Nd.cells) .unk)] (Ga k au) (fun r=>(.ah (r.map Nd.cells) .unk)):=bM aFH (by unfold Ga awW;exact bE)
def Il (k:Nat) (au:List Nd):Option (List Nd):=
 (qy k au 1).bind fun p2=>some p2
instance aES (k:Nat) (au:List Nd):bY Tryz.prog 90 [(.ah (au.map Nd.cells) .unk)] (Il k au) (fun r=>(.ah (r.map Nd.cells) .unk)):=bM aFI (by unfold Il awX;exact bE)
def uQ (k:Nat) (iW:Int) (gN:Int) (jC:Str) (mZ:List Str) (jH:List Int) (ajD:Bool):Option Bool:=
 cond ajD ((lW k [([43]:Str),([45]:Str),([45,46]:Str),([42]:Str)] jC).bind fun tQ=>some (tQ)) (some (false))
instance amF (k:Nat) (iW:Int) (gN:Int) (jC:Str) (mZ:List Str) (jH:List Int) (ajD:Bool):Lo Tryz.prog (.ops XD) (uQ k iW gN jC mZ jH ajD) [(36,41)] [(35,(.bool ajD))] [(7,Nd.cells ⟨iW,gN,jC,mZ,jH⟩)] (fun p=>(.normal,[(40,(.bool p))],none)):=IU XD.eq_1 (by unfold uQ;exact iI)
def uR (k:Nat) (iW:Int) (gN:Int) (jC:Str) (mZ:List Str) (jH:List Int) (Xc:Bool) (MH:Bool):Option Bool:=
 cond MH (cond (iW==2) ((CK k jC).bind fun p27=>cond (decide (p27>=0)) (cond (iW==0) (some ((decide (gN>100)))) (some (false))) (cond Xc (cond (iW==0) (some ((decide (gN>100)))) (some (false))) (some (true)))) (cond Xc (cond (iW==0) (some ((decide (gN>100)))) (some (false))) (some (true)))) (cond (iW==0) (some ((decide (gN>100)))) (some (false)))
instance amG (k:Nat) (iW:Int) (gN:Int) (jC:Str) (mZ:List Str) (jH:List Int) (Xc:Bool) (MH:Bool):Lo Tryz.prog (.ops XE) (uR k iW gN jC mZ jH Xc MH) [(45,70)] [(8,(.bool Xc)),(44,(.bool MH))] [(7,Nd.cells ⟨iW,gN,jC,mZ,jH⟩)] (fun p=>(.normal,[(69,(.bool p))],none)):=IU XE.eq_1 (by unfold uR;exact iI)
def iO:Nat->(List Nd)->Int->Option (Unit⊕Bool)
 |0,_,_=>none
 |k+1,au,mo=>
  cond (decide (mo<(IntKind.wrap .i64 ((au.length:Int) -1)))) (if 0<=mo then (au[mo.toNat]?).bind fun x9=>Option.bind (uQ k x9.kind x9.n x9.text x9.names x9.args (x9.kind==3)) (fun p16=>Option.bind (uR k x9.kind x9.n x9.text x9.names x9.args p16 (x9.kind !=0)) (fun p37=>cond p37 (some (.inr (false))) (iO k au (IntKind.wrap .i64 (mo+1)))))else none) (some (.inl ()))
instance amH (k:Nat): ∀(au:List Nd) (mo:Int),Lo Tryz.prog (.loop XF) (iO k au mo) [(2,3),(6,9),(21,70)] [(0,(.ah (au.map Nd.cells) .unk)),(6,(.int .i64 mo))] [] (Sum.elim (fun p=>(.exit 0,[],none)) (fun p=>(.ret,[(2,(.bool p))],none))):=by
 induction k with
 |zero=>exact fun _ _=>lo0 rfl
 |succ k ih=>exact fun _ _=>loS XF.eq_1 (by unfold iO;exact iI)
def kg:Nat->(List Nd)->Int->Int->Option Int
 |0,_,_,_=>none
 |k+1,au,Ep,nZ=>
  cond (decide (nZ<(au.length:Int))) (if 0<=nZ then (au[nZ.toNat]?).bind fun x54=>(ME (x54.text==([42]:Str))).bind fun p57=>kg k au (IntKind.wrap .i64 (Ep+p57)) (IntKind.wrap .i64 (nZ+1))else none) (some (Ep))
instance amI (k:Nat): ∀(au:List Nd) (Ep:Int) (nZ:Int),Lp Tryz.prog (.loop XG) (kg k au Ep nZ) [(9,11),(70,85)] [(0,(.ah (au.map Nd.cells) .unk)),(9,(.int .i64 Ep)),(10,(.int .i64 nZ))] (fun p=>(.exit 2,[(9,(.int .i64 p))])):=by
 induction k with
 |zero=>exact fun _ _ _=>rP rfl
 |succ k ih=>exact fun _ _ _=>rQ XG.eq_1 (by unfold kg;exact bZ)
def kM (k:Nat) (au:List Nd):Option Bool:=
 (CJ au).bind fun p2=>cond p2 (some true) ((jh k au).bind fun p5=>cond p5.2.2 (Option.bind (iO k au 0) (fun o=>Sum.elim (fun p47=>Option.bind (kg k au 0 0) (fun p60=>some (decide (p60<=2)))) (fun p65=>some p65) o)) (some false))
instance YX (k:Nat) (au:List Nd):bY Tryz.prog 28 [(.ah (au.map Nd.cells) .unk)] (kM k au) (fun r=>(.bool r)):=bM aFm (by unfold kM awr;exact FK)
theorem YZ {k:Nat} {au:List Nd} {c0:Ck} {r:Bool} (h:kM k au=some r):aG Tryz.prog 28 [(.ah (au.map Nd.cells) c0)] (.bool r):=((YX _ _).c _ h).wk (.ah .nil)
def qY:Nat->(List Nd)->(Int×Int×Int×Int)->Option Int
 |0,_,_=>none
 |k+1,au,eF=>
  (uj au).bind fun p2=>cond (p2.kind==0) (some p2.n) (cond (p2.kind==2) ((CK k p2.text).bind fun p6=>cond (p6==0) (if p6=0 then some eF.1 else none) (cond (p6==1) (if p6=1 then some eF.2.1 else none) (cond (p6==2) (if p6=2 then some eF.2.2.1 else none) (cond (p6==3) (if p6=3 then some eF.2.2.2 else none) (none))))) (cond (p2.text==([45,46]:Str)) ((Ga k au).bind fun K9=>(qY k K9 eF).bind fun Bc=>some (IntKind.wrap .i64 (0 -Bc))) ((Ga k au).bind fun yY=>(qY k yY eF).bind fun FN=>(Il k au).bind fun p25=>(qY k p25 eF).bind fun p27=>cond (p2.text==([43]:Str)) (some (IntKind.wrap .i64 (FN+p27))) (cond (p2.text==([45]:Str)) (some (IntKind.wrap .i64 (FN -p27))) (some (IntKind.wrap .i64 (FN*p27)))))))
instance aDe (k:Nat): ∀(au:List Nd) (eF:Int×Int×Int×Int),bY Tryz.prog 88 [(.ah (au.map Nd.cells) .unk),(.agg [(.int .i64 eF.1),(.int .i64 eF.2.1),(.int .i64 eF.2.2.1),(.int .i64 eF.2.2.2)])] (qY k au eF) (fun r=>(.int .i64 r)):=by
 induction k with
 |zero=>exact fun _ _=>avZ rfl
 |succ k ih=>exact fun _ _=>bM aFG (by unfold qY awV;exact bE)
def wL (k:Nat) (au:List Nd) (eF:Int×Int×Int×Int):Option Bool:=
 (CJ au).bind fun p2=>cond p2 (some false) ((Ga k au).bind fun p5=>(qY k p5 eF).bind fun p7=>(Il k au).bind fun p9=>(qY k p9 eF).bind fun vO=>(uj au).bind fun tQ=>cond (tQ.text==([60,61]:Str)) (some (decide (p7<=vO))) (cond (tQ.text==([60]:Str)) (some (decide (p7<vO))) (cond (tQ.text==([62,61]:Str)) (some (decide (p7>=vO))) (cond (tQ.text==([62]:Str)) (some (decide (p7>vO))) (some (p7==vO))))))
instance amn (k:Nat) (au:List Nd) (eF:Int×Int×Int×Int):bY Tryz.prog 30 [(.ah (au.map Nd.cells) .unk),(.agg [(.int .i64 eF.1),(.int .i64 eF.2.1),(.int .i64 eF.2.2.1),(.int .i64 eF.2.2.2)])] (wL k au eF) (fun r=>(.bool r)):=bM awv (by unfold wL awu;exact bE)
theorem aag {k:Nat} {au:List Nd} {eF:Int×Int×Int×Int} {c0:Ck} {r:Bool} (h:wL k au eF=some r):aG Tryz.prog 30 [(.ah (au.map Nd.cells) c0),(.agg [(.int .i64 eF.1),(.int .i64 eF.2.1),(.int .i64 eF.2.2.1),(.int .i64 eF.2.2.2)])] (.bool r):=((amn _ _ _).c _ h).wk (.ah (.same .nil))
end Go.VL
end
section
namespace Go.VL
open Tm
theorem ao7 {l:List Str} (s:Str) (hn:l.length<=1099511627776):Ev (fun k=>Ay k l s) (pG (fun x=>x==s) l 0):=by
 have key: ∃o:Unit⊕Int,Ev (fun k=>lZ k l s ((0:Nat):Int)) o/\(Sum.elim (fun _=>(-1:Int)) id o=pG (fun x=>x==s) (l.drop 0) ((0:Nat):Int)):=by
  refine eO (len:=l.length) (p:=fun i=> ∃o:Unit⊕Int,Ev (fun k=>lZ k l s (i:Int)) o/\(Sum.elim (fun _=>(-1:Int)) id o=pG (fun x=>x==s) (l.drop i) (i:Int))) ?_ fun i hi ih=> ?_
  · refine⟨.inl (),Ev.succ ?_,by simp [pG]⟩;simp only [lZ];exact Ev.cF (eD _) Ev.some
  · cases hc:(l[i]==s)with
    |true=>
     refine⟨.inr (i:Int),Ev.succ ?_,by rw [drop_cons hi];simp [pG,hc]⟩;simp only [lZ,V0,aP hi,W0,nn,A0,fC hi,S1];exact Ev.cT hc Ev.some
    |false=>
     obtain⟨o,ho,hd⟩:=ih;refine⟨o,Ev.succ ?_,by rw [drop_cons hi,hd];simp only [pG,hc,I2,L2];rfl⟩;simp only [lZ,V0,aP hi,W0,nn,A0,fC hi,S1,bW hi hn];exact Ev.cF hc ho
 obtain⟨o,ho,h⟩:=key;rw [P1]at h;unfold Ay;refine Ev.bind ho ?_;have h':pG (fun x=>x==s) l 0=Sum.elim (fun _=>(-1:Int)) id o:=h.symm;rw [h'];cases o<;>exact Ev.some
abbrev un4:List Str:=[[120,95,49],[120,95,50],[120,95,51],[120,95,52]]
theorem aeX (s:Str):Ev (fun k=>CK k s) (pG (fun x=>x==s) un4 0):=by
 unfold CK;exact Ev.bind (ao7 s (by decide)) Ev.some
theorem au3 {s:Str} (h:0<=pG (fun x=>x==s) un4 0):s∈un4:=by
 rcases F7 (p:=fun x=>x==s) (l:=un4) (i:=0)with⟨h1,_⟩|⟨j,x,h1,h2,_⟩
 · rw [h1]at h;exact absurd h (by decide)
 · rw [<-E3.1 h2];exact B1 h1
abbrev V4:=Int×Int×Int×Int
def qD (v:V4) (s:Str):Int:=if s=[120,95,49]then v.1 else if s=[120,95,50]then v.2.1 else if s=[120,95,51]then v.2.2.1 else if s=[120,95,52]then v.2.2.2 else 0
structure Sm4 (v:V4):Prop where
 a:v.1.natAbs<=100
 b:v.2.1.natAbs<=100
 c:v.2.2.1.natAbs<=100
 d:v.2.2.2.natAbs<=100
theorem Qf {v:V4} (h:Sm4 v) (s:Str):(qD v s).natAbs<=100:=by
 unfold qD;have:=h.a;have:=h.b;have:=h.c;have:=h.d;split
 · assumption
 split
 · assumption
 split
 · assumption
 split
 · assumption
 · decide
theorem L6 {x:Nd} {l m:List Tm} {c:Tm}:qJ c<=qJ (.mk x (l++c::m)):=by
 have: ∀l:List Tm,qJ c<=Jw (l++c::m):=by
  intro l
  induction l with
  |nil=>rw [R2,Jw];omega
  |cons a l ih=>rw [B4,Jw];omega
 rw [qJ];have:=this l;omega
section
variable {v:V4}
theorem aah (hv:Sm4 v) {t:Tm} (h:zU t):Gd (flat 0 t)->t.size<=15->qJ t<=2->Ev (fun k=>qY k (flat 0 t) v) (dM (qD v) t):=by
 have small: ∀{t:Tm},zU t->t.size<=15->qJ t<=2->IntKind.wrap .i64 (dM (qD v) t)=dM (qD v) t:=by
  intro t h hs hp;have:=UL (Qf hv) (UY h) hs hp;exact wrap64 (by omega) (by omega)
 induction h with
 | @num x hk h0 h1=>
  intro hg hs hp;refine Ev.succ ?_;simp only [qY,nS x [] (by decide),W0,dP,xP];exact Ev.cT (by rw [hk];rfl) (Ev.some' (by simp [dM,Cy,hk]))
 | @Cj x hk hm=>
  intro hg hs hp;refine Ev.succ ?_;simp only [qY,nS x [] (by decide),W0,dP,jw];refine Ev.cF (by rw [hk];rfl) (Ev.cT (by rw [hk];rfl) (Ev.bind (aeX _) ?_));have e:dM (qD v) (.mk x [])=qD v x.text:=by simp [dM,Cy,hk]
  rw [e];simp only [M1,D0,B7]at hm;rcases hm with ht|ht|ht|ht<;>rw [ht]
  · exact Ev.cT (by rfl) (Ev.jv (by rfl) (Ev.some' (by rfl)))
  · exact Ev.cF (by rfl) (Ev.cT (by rfl) (Ev.jv (by rfl) (Ev.some' (by rfl))))
  · exact Ev.cF (by rfl) (Ev.cF (by rfl) (Ev.cT (by rfl) (Ev.jv (by rfl) (Ev.some' (by rfl)))))
  · exact Ev.cF (by rfl) (Ev.cF (by rfl) (Ev.cF (by rfl) (Ev.cT (by rfl) (Ev.jv (by rfl) (Ev.some' (by rfl))))))
 | @neg x a hk ht g h ih=>
  intro hg hs hp;have hw:=small (.neg hk ht g h) hs hp;have e2:(Tm.mk x [a]).size=a.size+1:=by simp only [size,sizes]
  have hz:sizes [a]<=1000000:=by simp only [sizes];omega
  obtain⟨i,_,_,q1⟩:=aAd g;have q1':Ev (fun k=>Ga k (flat 0 (.mk x [a]))) (flat 0 a):=q1;refine Ev.succ ?_;simp only [qY,nS x [a] hz,W0,dP,jw];refine Ev.cF (by rw [hk];rfl) (Ev.cF (by rw [hk];rfl) (Ev.cT (by rw [ht];rfl) (Ev.bind q1' (Ev.bind (ih (aeA g hk (pz (by rw [ht];decide))) (by omega) (E1 (L6 (l:=[]) (m:=[]) (x:=x)) hp)) (Ev.some' ?_)))));have e:dM (qD v) (.mk x [a])= -(dM (qD v) a):=by simp [dM,vD,Cy,hk,ht]
  rw [e]at hw⊢;rw [Int.zero_sub,hw]
 | @two x a b hk ht g h h' ih ih'=>
  intro hg hs hp;have hw:=small (.two hk ht g h h') hs hp;have e2:(Tm.mk x [a,b]).size=a.size+b.size+1:=by simp only [size,sizes];omega
  have hz:sizes [a,b]<=1000000:=by simp only [sizes];omega
  obtain⟨i,j,_,_,_,_,q1,q2⟩:=aeQ g;have q1':Ev (fun k=>Ga k (flat 0 (.mk x [a,b]))) (flat 0 a):=q1;have q2':Ev (fun k=>Il k (flat 0 (.mk x [a,b]))) (flat 0 b):=q2;have hop:(dF dW x.text).2=true:=pz (by rcases ht with ht|ht|ht<;>(rw [ht];decide));obtain⟨ga,gb⟩:=A9 g hk hop;have i1:=ih ga (by omega) (E1 (L6 (l:=[]) (m:=[b]) (x:=x)) hp);have i2:=ih' gb (by omega) (E1 (L6 (l:=[a]) (m:=[]) (x:=x)) hp);refine Ev.succ ?_;simp only [qY,nS x [a,b] hz,W0,dP,jw];refine Ev.cF (by rw [hk];rfl) (Ev.cF (by rw [hk];rfl) (Ev.cF (by rcases ht with ht|ht|ht<;>(rw [ht];rfl)) (Ev.bind q1' (Ev.bind i1 (Ev.bind q2' (Ev.bind i2 ?_))))));rcases ht with ht|ht|ht
  · have e:dM (qD v) (.mk x [a,b])=dM (qD v) a+dM (qD v) b:=by simp [dM,vD,Cy,hk,ht]
    rw [e]at hw⊢;exact Ev.cT (by rw [ht];rfl) (Ev.some' hw)
  · have e:dM (qD v) (.mk x [a,b])=dM (qD v) a -dM (qD v) b:=by simp [dM,vD,Cy,hk,ht]
    rw [e]at hw⊢;exact Ev.cF (by rw [ht];rfl) (Ev.cT (by rw [ht];rfl) (Ev.some' hw))
  · have e:dM (qD v) (.mk x [a,b])=dM (qD v) a*dM (qD v) b:=by simp [dM,vD,Cy,hk,ht]
    rw [e]at hw⊢;exact Ev.cF (by rw [ht];rfl) (Ev.cF (by rw [ht];rfl) (Ev.some' hw))
theorem Er {x:Nd} {cs:List Tm} (hz:sizes cs<=1000000):CJ (flat 0 (.mk x cs))=some (x.kind==2&&x.text==([70,65,76,83,69]:Str)):=by
 unfold CJ;rw [nS x cs hz,W0,dP,jw];cases(x.kind==2)<;>rfl
structure Ar (t:Tm):Prop where
 gd:Gd (flat 0 t)
 sz:t.size<=15
 pr:qJ t<=2
 nm: ∀n∈flat 0 t,n.names=[]
 cm: ∃x a b,t= .mk x [a,b]/\x.kind=3/\x.text∈comps/\zU a/\zU b
theorem Ar.parts {x:Nd} {a b:Tm} (h:Ar (.mk x [a,b])):x.kind=3/\x.text∈comps/\zU a/\zU b/\Gd (flat 0 a)/\Gd (flat 0 b)/\a.size<=15/\b.size<=15/\qJ a<=2/\qJ b<=2:=by
 obtain⟨y,c,d,e,hk,ht,h1,h2⟩:=h.cm;cases e;obtain⟨ga,gb⟩:=A9 h.gd hk (JD ht);have e2:(Tm.mk x [a,b]).size=a.size+b.size+1:=by simp only [size,sizes];omega
 have:=h.sz;exact⟨hk,ht,h1,h2,ga,gb,by omega,by omega,E1 (L6 (l:=[]) (m:=[b]) (x:=x)) h.pr,E1 (L6 (l:=[a]) (m:=[]) (x:=x)) h.pr⟩
theorem UZ (hv:Sm4 v) {t:Tm} (h:Ar t): ∃b,Ev (fun k=>wL k (flat 0 t) v) b/\(b=true↔Holds (qD v) t):=by
 obtain⟨x,a,b,rfl,_⟩:=h.cm;obtain⟨hk,ht,h1,h2,ga,gb,sa,sb,pa,pb⟩:=h.parts;have hz:sizes [a,b]<=1000000:=by simp only [sizes];omega
 obtain⟨i,j,_,_,_,_,q1,q2⟩:=aeQ h.gd;have q1':Ev (fun k=>Ga k (flat 0 (.mk x [a,b]))) (flat 0 a):=q1;have q2':Ev (fun k=>Il k (flat 0 (.mk x [a,b]))) (flat 0 b):=q2;have go: ∀(r:Bool),Ev (fun _=>cond (x.text==([60,61]:Str)) (some (decide (dM (qD v) a<=dM (qD v) b))) (cond (x.text==([60]:Str)) (some (decide (dM (qD v) a<dM (qD v) b))) (cond (x.text==([62,61]:Str)) (some (decide (dM (qD v) a>=dM (qD v) b))) (cond (x.text==([62]:Str)) (some (decide (dM (qD v) a>dM (qD v) b))) (some (dM (qD v) a==dM (qD v) b)))))) r->Ev (fun k=>wL k (flat 0 (.mk x [a,b])) v) r:=by
  intro r hr;unfold wL;simp only [Er hz,W0,nS x [a,b] hz,jw];exact Ev.cF (by rw [hk];rfl) (Ev.bind q1' (Ev.bind (aah hv h1 ga sa pa) (Ev.bind q2' (Ev.bind (aah hv h2 gb sb pb) hr))))
 simp only [comps,M1,D0,B7]at ht;rw [E5];rcases ht with ht|ht|ht|ht|ht<;>rw [ht]at go⊢
 · exact⟨_,go _ (Ev.cF (by rfl) (Ev.cF (by rfl) (Ev.cF (by rfl) (Ev.cF (by rfl) Ev.some)))),E3⟩
 · exact⟨_,go _ (Ev.cF (by rfl) (Ev.cT (by rfl) Ev.some)),NB⟩
 · exact⟨_,go _ (Ev.cT (by rfl) Ev.some),NB⟩
 · exact⟨_,go _ (Ev.cF (by rfl) (Ev.cF (by rfl) (Ev.cF (by rfl) (Ev.cT (by rfl) Ev.some)))),NB⟩
 · exact⟨_,go _ (Ev.cF (by rfl) (Ev.cF (by rfl) (Ev.cT (by rfl) Ev.some))),NB⟩
theorem amq (hv:Sm4 v) {t:Tm} (h:Ar t):Sml (qD v) t:=⟨h.gd,h.nm,fun x a b e=>by
 subst e;obtain⟨_,_,h1,h2,_,_,sa,sb,pa,pb⟩:=h.parts;exact⟨UL (Qf hv) (UY h1) sa pa,UL (Qf hv) (UY h2) sb pb⟩⟩
end
abbrev abn:List Str:=[[43],[45],[45,46],[42]]
theorem ao8 (a b:Int) (s:Str) (l:List Str) (m:List Int) (t:Bool):Ev (fun k=>uQ k a b s l m t) (t&&decide (s∈abn)):=by
 unfold uQ;cases t with
 |false=>exact Ev.cF rfl Ev.some
 |true=>exact Ev.cT rfl (Ev.bind (qR _ _ (by decide)) (Ev.some' (by rw [C1])))
theorem ao9 (x:Nd): ∃b,Ev (fun k=>uR k x.kind x.n x.text x.names x.args ((x.kind==3)&&decide (x.text∈abn)) (x.kind !=0)) b/\(b=false->okN x):=by
 unfold uR;by_cases h0:x.kind=0
 · refine⟨_,Ev.cF (by rw [h0];rfl) (Ev.cT (by rw [h0];rfl) Ev.some),fun h=> .inl ⟨h0,?_⟩⟩;have:=of_decide_eq_false h;omega
 have b0:(x.kind==0)=false:=O0.2 h0;have b1:(x.kind !=0)=true:=by rw [bne,b0];rfl
 by_cases h2:x.kind=2
 · by_cases hu:0<=pG (fun y=>y==x.text) un4 0
   · exact⟨false,Ev.cT b1 (Ev.cT (by rw [h2];rfl) (Ev.bind (aeX _) (Ev.cT (g0 hu) (Ev.cF b0 Ev.some)))),fun _=> .inr (.inl ⟨h2,au3 hu⟩)⟩
   · exact⟨true,Ev.cT b1 (Ev.cT (by rw [h2];rfl) (Ev.bind (aeX _) (Ev.cF (B0 hu) (Ev.cF (by rw [h2];rfl) Ev.some)))),fun h=>by cases h⟩
 have b2:(x.kind==2)=false:=O0.2 h2;cases hs:((x.kind==3)&&decide (x.text∈abn))with
 |false=>exact⟨true,Ev.cT b1 (Ev.cF b2 (Ev.cF rfl Ev.some)),fun h=>by cases h⟩
 |true=>
  refine⟨false,Ev.cT b1 (Ev.cF b2 (Ev.cT rfl (Ev.cF b0 Ev.some))),fun _=> .inr (.inr ?_)⟩;rw [z1,E3,B2]at hs;refine⟨hs.1,?_⟩;have:=hs.2;simp only [abn,sums,M1,D0,B7]at this⊢;rcases this with h|h|h|h
  · exact .inr (.inl h)
  · exact .inr (.inr (.inl h))
  · exact .inl h
  · exact .inr (.inr (.inr h))
theorem apa {e:List Nd} (hl:e.length<=1000) (h0:0<e.length): ∃o,Ev (fun k=>iO k e ((0:Nat):Int)) o/\((o= .inl ()/\ ∀(j:Nat) x,0<=j->j<e.length -1->e[j]? =some x->okN x)\/o= .inr false):=by
 have hw:IntKind.wrap .i64 ((e.length:Int) -1)=((e.length -1:Nat):Int):=by rw [wrap64 (by omega) (by omega)];omega
 refine eO (len:=e.length -1) (p:=fun i=> ∃o,Ev (fun k=>iO k e (i:Int)) o/\((o= .inl ()/\ ∀(j:Nat) x,i<=j->j<e.length -1->e[j]? =some x->okN x)\/o= .inr false)) ?_ fun i hi ih=> ?_
 · refine⟨.inl (),Ev.succ ?_,.inl ⟨rfl,fun j x h1 h2=>by omega⟩⟩;simp only [iO,hw];exact Ev.cF (eD _) Ev.some
 · have hi':i<e.length:=by omega
   obtain⟨b,hb,hok⟩:=ao9 e[i];have go: ∀o,Ev (fun k=>cond b (some (.inr false)) (iO k e (IntKind.wrap .i64 ((i:Int)+1)))) o->Ev (fun k=>iO k e (i:Int)) o:=by
    intro o ho;refine Ev.succ ?_;simp only [iO,hw,V0,aP hi',W0,nn,A0,fC hi,S1];exact Ev.bind (ao8 _ _ _ _ _ _) (Ev.bind hb ho)
   cases b with
   |true=>exact⟨.inr false,go _ (Ev.cT rfl Ev.some),.inr rfl⟩
   |false=>
    obtain⟨o,ho,hd⟩:=ih;refine⟨o,go o (Ev.cF rfl ?_),hd.imp (fun⟨h1,h2⟩=>⟨h1,fun j x hj hj' hx=> ?_⟩) id⟩
    · simp only [bW hi' (show e.length<=1099511627776 by omega)];exact ho
    · by_cases hij:i=j
      · subst hij;rw [aP hi',L1]at hx;rw [<-hx];exact hok rfl
      · exact h2 j x (by omega) hj' hx
theorem apb {e:List Nd} (hl:e.length<=1000):Ev (fun k=>kg k e 0 ((0:Nat):Int)) ((e.countP (fun n=>n.text==[42]):Nat):Int):=by
 have key:=eO (len:=e.length) (p:=fun i=> ∀c:Nat,c<=i->Ev (fun k=>kg k e (c:Int) (i:Int)) ((c+(e.drop i).countP (fun n=>n.text==[42]):Nat):Int)) (fun c hc=>by
  refine Ev.succ ?_;simp only [kg];exact Ev.cF (eD _) (Ev.some' (by simp))) fun i hi ih c hc=>by
  refine Ev.succ ?_;simp only [kg,V0,aP hi,W0,nn,A0,fC hi,S1,bW hi (show e.length<=1099511627776 by omega),Ul];rw [drop_cons hi,List.countP_cons];cases hb:(e[i].text==([42]:Str))with
  |true=>
   have hw:IntKind.wrap .i64 ((c:Int)+1)=((c+1:Nat):Int):=by rw [wrap64 (by omega) (by omega)];omega
   simp only [A0,hw];exact(ih (c+1) (by omega)).to (by omega)
  |false=>
   have hw:IntKind.wrap .i64 ((c:Int)+0)=((c:Nat):Int):=by rw [wrap64 (by omega) (by omega)];omega
   simp only [I2,L2,hw];exact(ih c (by omega)).to (by omega)
 have:=key 0 (R0 _);rw [P1,V1]at this;exact this
theorem apc {x:Nd} {a b:Tm} (hg:Gd (flat 0 (.mk x [a,b]))) (ga:Gd (flat 0 a)) (gb:Gd (flat 0 b)) (ho: ∀n∈aV 0 [a,b],okN n):zU a/\zU b:=by
 simp only [aV,W3,P2,V1]at ho;refine⟨LZ _ a (R0 _) ga fun n hn=>ho n (.inl hn),LZ _ b (R0 _) gb fun n hn=> ?_⟩;have hfl:=yw a.size b 0;rw [V1]at hfl;rw [<-hfl]at hn;obtain⟨n',h1,rfl⟩:=G3.1 hn;exact Xb _ _ (ho n' (.inr h1))
theorem apd {t:Tm} {f:Fo} {q:Bool} (h:wK t f q): ∃x a b,t= .mk x [a,b]/\x.kind=3/\x.text∈comps:=by
 cases h with
 |le hk ht=>exact⟨_,_,_,rfl,hk,by rw [ht];decide⟩
 |lt hk ht=>exact⟨_,_,_,rfl,hk,by rw [ht];decide⟩
 |ge hk ht=>exact⟨_,_,_,rfl,hk,by rw [ht];decide⟩
 |gt hk ht=>exact⟨_,_,_,rfl,hk,by rw [ht];decide⟩
 |eq hk ht=>exact⟨_,_,_,rfl,hk,by rw [ht];decide⟩
theorem aeY {t:Tm} (hg:Gd (flat 0 t)) (hs:t.size<=15): ∃r,Ev (fun k=>kM k (flat 0 t)) r/\(r=true->(t.root.kind=2/\t.root.text=[70,65,76,83,69])\/Ar t):=by
 obtain⟨x,cs⟩:=t;have hsz:(Tm.mk x cs).size=sizes cs+1:=by simp only [size]
 have hz:sizes cs<=1000000:=by omega
 have hlen:(flat 0 (.mk x cs)).length=sizes cs+1:=by rw [bn];omega
 cases hf:(x.kind==2&&x.text==([70,65,76,83,69]:Str))with
 |true=>
  refine⟨true,?_,fun _=> .inl ?_⟩
  · unfold kM;simp only [Er hz,W0,hf];exact Ev.cT rfl Ev.some
  · rw [z1,E3,E3]at hf;exact hf
 |false=>
  rcases Qe hg with⟨f,e,hc,_,q⟩|⟨_,q⟩
  case inr=>
   refine⟨false,?_,fun h=>by cases h⟩;unfold kM;simp only [Er hz,W0,hf];exact Ev.cF rfl (Ev.bind q (Ev.cF rfl Ev.some))
  have go: ∀r,Ev (fun k=>Option.bind (iO k (flat 0 (.mk x cs)) 0) (fun o=>Sum.elim (fun p47=>Option.bind (kg k (flat 0 (.mk x cs)) 0 0) (fun p60=>some (decide (p60<=2)))) (fun p65=>some p65) o)) r->Ev (fun k=>kM k (flat 0 (.mk x cs))) r:=by
   intro r hr;unfold kM;simp only [Er hz,W0,hf];exact Ev.cF rfl (Ev.bind q (Ev.cT rfl hr))
  obtain⟨o,ho,hd⟩:=apa (e:=flat 0 (.mk x cs)) (by omega) (by omega);rcases hd with⟨rfl,hok⟩|rfl
  case inr=>exact⟨false,go _ (Ev.bind ho Ev.some),fun h=>by cases h⟩
  refine⟨_,go _ (Ev.bind ho (Ev.bind (apb (by omega)) Ev.some)),fun h=> .inr ?_⟩;have hp:=W5 h;rw [(amm _).1 _ 0 (R0 _)]at hp;obtain⟨y,a,b,e1,hk,ht⟩:=apd hc;cases e1;have hall: ∀n∈aV 0 [a,b],okN n:=by
   intro n hn;obtain⟨j,hj⟩:=a8 hn;have hjl:j<(aV 0 [a,b]).length:=(S0.1 hj).1;have e3:(flat 0 (.mk x [a,b])).length=(aV 0 [a,b]).length+1:=by rw [ig,X1];rfl
   refine hok j n (N3 _) (by omega) ?_;rw [ig,C0 hjl];exact hj
  obtain⟨ga,gb⟩:=A9 hg hk (JD ht);obtain⟨s1,s2⟩:=apc hg ga gb hall;refine⟨hg,hs,by omega,fun n hn=> ?_,x,a,b,rfl,hk,ht,s1,s2⟩;refine ao6 (YV hg n hn) ?_;rw [ig]at hn;rcases P2.1 hn with h|h
  · rcases hall n h with h|h|h
    · exact .inl h.1
    · exact .inr (.inl h.1)
    · exact .inr (.inr h.1)
  · rw [P0.1 h];exact .inr (.inr hk)
end Go.VL
end
section
namespace Go.VL
variable [Glob]
def ckz (b:Bool):Ck->Ck
 | .nil=>if b then .unk else .nil
 | .exact=>if b then .unk else .exact
 |_=> .unk
def qN (b:Bool):Nat->AH->PV->PV
 |0,_,_=> .any
 |n+1,H,p=>match p with
  | .ref id off=>match H.obj id with
   |some cs=> .cK (cs.map (qN b n H)) off
   |none=> .any
  | .cK cs off=> .cK (cs.map (qN b n H)) off
  | .ah es c=> .ah (es.map fun cs=>cs.map (qN b n H)) (ckz b c)
  | .bP id off len cap sz=>match H.obj id with
   |some cs=>if len<=cap/\off+len*sz<=cs.length then .ah ((chunks sz len (cs.drop off)).map fun l=>l.map (qN b n H)) .unk else .any
   |none=> .any
  | .agg cs=> .agg (cs.map (qN b n H))
  | .dn cs=> .dn (cs.map (qN b n H))
  | .fn g cs ds=> .fn g (cs.map (qN b n H)) (ds.map (qN b n H))
  | .iface t p=> .iface t (qN b n H p)
  | .any=> .any
  | .bool b=> .bool b
  | .int k x=> .int k x
  | .str s=> .str s
  | .nW=> .nW
  | .lq=> .lq
  | .nA=> .nA
theorem Xd {b:Bool} (n:Nat) (H:AH): ∀p,Pu (qN b n H p):=by
 induction n with
 |zero=>exact fun p=> .any
 |succ n ih=>
  intro p;have hl: ∀cs:List PV,∀c∈cs.map (qN b n H),Pu c:=fun cs c h=>by
   obtain⟨d,_,rfl⟩:=G3.1 h;exact ih d
  have hll: ∀es:List (List PV),∀cs∈es.map (fun cs=>cs.map (qN b n H)),∀c∈cs,Pu c:=fun es cs h=>by
   obtain⟨d,_,rfl⟩:=G3.1 h;exact hl d
  cases p with
  |ref id off=>simp only [qN];split<;>first|exact .cK _ _ (hl _)|exact .any
  |cK cs off=>exact .cK _ _ (hl _)
  |ah es c=>refine .ah _ _ (hll _) (fun k=> ?_);cases c<;>cases b<;>simp [ckz]
  |bP id off len cap sz=>
   simp only [qN];split
   · split
     · exact .ah _ _ (hll _) (fun k=>by simp)
     · exact .any
   · exact .any
  |agg cs=>exact .agg _ (hl _)
  |dn cs=>exact .dn _ (hl _)
  |fn g cs ds=>exact .fn _ _ _ (hl _) (hl _)
  |iface t p=>exact .iface _ _ (ih p)
  |any=>exact .any
  |bool b=>exact .bool b
  |int k x=>exact .int k x
  |str s=>exact .str s
  |nW=>exact .nW
  |lq=>exact .lq
  |nA=>exact .nA
theorem M8 {α β:Type} {f:α->β} {l:List α} {j:Nat} {c:α} {c':β} (h:l[j]? =some c) (h':(l.map f)[j]? =some c'):c'=f c:=by
 rw [J0,h]at h';exact(V2 h').symm
theorem aeZ {b:Bool} (n:Nat) (H:AH): ∀p,Fz H p (qN b n H p):=by
 induction n with
 |zero=>exact fun p=> .any p
 |succ n ih=>
  intro p;have hl: ∀(cs:List PV) (j:Nat) (c c':PV),cs[j]? =some c->(cs.map (qN b n H))[j]? =some c'->Fz H c c':=fun cs j c c' h h'=>by
   rw [M8 h h'];exact ih c
  cases p with
  |ref id off=>
   simp only [qN];split
   · rename_i cs ho;exact .ref _ _ cs _ ho (by simp) (hl cs)
   · exact .any _
  |cK cs off=>exact .cK _ _ _ (by simp) (hl cs)
  |ah es c=>
   refine .ah _ _ _ _ ?_ (by simp) (fun i cs cs' h h'=>by rw [M8 h h'];simp) (fun i cs cs' h h' j c c' e e'=> ?_)
   · cases b with
     |true=>cases c<;>exact .inl rfl
     |false=>
      cases c with
      |tok k=>exact .inl rfl
      |nil=>exact .inr ⟨rfl,fun k=>by simp⟩
      |exact=>exact .inr ⟨rfl,fun k=>by simp⟩
      |unk=>exact .inl rfl
   · rw [M8 h h']at e';exact hl cs j c c' e e'
  |bP id off len cap sz=>
   simp only [qN];split
   · rename_i cs ho;split
     · rename_i hc;have hch: ∀(i:Nat) (cs':List PV),((chunks sz len (cs.drop off)).map fun l=>l.map (qN b n H))[i]? =some cs'->i<len/\cs'=(((cs.drop off).drop (i*sz)).take sz).map (qN b n H):=by
        intro i cs' h;simp only [chunks,J0,Z1]at h;obtain⟨l,⟨i',h1,rfl⟩,rfl⟩:=h;obtain⟨h2,h3⟩:=S0.1 h1;simp at h2 h3;subst h3;exact⟨h2,rfl⟩
       have hin: ∀i,i<len->i*sz+sz<=len*sz:=fun i hi=>by
        calc i*sz+sz=(i+1)*sz:=by rw [C3,N6]
         _<=len*sz:=Z3 sz hi
       refine .bP id off len cap sz cs _ (fun i j=>(cs[off+i*sz+j]?).getD .any) ho (by simp [chunks]) hc.1 (fun i cs' h=> ?_) (fun i cs' h j c' e=> ?_) (fun i cs' h j c' e=> ?_)
       · obtain⟨h1,rfl⟩:=hch i cs' h;have:=hin i h1;simp only [J1,P3,E4];omega
       · obtain⟨h1,rfl⟩:=hch i cs' h;have:=hin i h1;have hj:=(S0.1 e).1;simp only [J1,P3,E4]at hj;have hlt:off+i*sz+j<cs.length:=by omega
         rw [W2 hlt];rfl
       · obtain⟨h1,rfl⟩:=hch i cs' h;have:=hin i h1;have hj:=(S0.1 e).1;simp only [J1,P3,E4]at hj;have hlt:off+i*sz+j<cs.length:=by omega
         have hg:(((cs.drop off).drop (i*sz)).take sz)[j]? =some cs[off+i*sz+j]:=by
          rw [D3 (by omega),Q3,Q3,<-G4];exact W2 hlt
         rw [J0,hg]at e;cases e;rw [W2 hlt];exact ih _
     · exact .any _
   · exact .any _
  |agg cs=>exact .agg _ _ (by simp) (hl cs)
  |dn cs=>exact .dn _ _ (by simp) (hl cs)
  |fn g cs ds=>exact .fn _ _ _ _ _ (by simp) (hl cs) (by simp) (hl ds)
  |iface t p=>exact .iface _ _ _ (ih p)
  |any=>exact .any _
  |bool b=>exact .pure _ (.bool b)
  |int k x=>exact .pure _ (.int k x)
  |str s=>exact .pure _ (.str s)
  |nW=>exact .pure _ .nW
  |lq=>exact .pure _ .lq
  |nA=>exact .pure _ .nA
theorem ae0 {b0:Bool} {G:Gh} {m:Nat}: ∀(n:Nat) {p:PV} {v:Value},V G m p v->V G m (qN b0 n AH.empty p) v:=by
 intro n
 induction n with
 |zero=>exact fun _=> .any _
 |succ n ih=>
  intro p v h;have hl: ∀(cs:List PV) (j:Nat) (c:PV),(cs.map (qN b0 n AH.empty))[j]? =some c-> ∃d,cs[j]? =some d/\c=qN b0 n AH.empty d:=fun cs j c e=>by
   simp only [J0,Z1]at e;obtain⟨d,e1,e2⟩:=e;exact⟨d,e1,e2.symm⟩
  cases h with
  |any v=>exact .any v
  |bool b=>exact .bool b
  |int k x=>exact .int k x
  |str s=>exact .str s
  |nW=>exact .nW
  |ref id off b h1 h2=>exact .any _
  |cK cs off b o f h1 h2=>
   exact .cK _ off b o f (fun j c e=>let ⟨d,e1,_⟩:=hl cs j c e;h1 j d e1) (fun j c e=>by obtain⟨d,e1,rfl⟩:=hl cs j c e;exact ih (h2 j d e1))
  |ah es c sz ad cap f h1 h2 h3 h4 h5=>
   have get: ∀(i:Nat) (cs:List PV),(es.map fun cs=>cs.map (qN b0 n AH.empty))[i]? =some cs-> ∃ds,es[i]? =some ds/\cs=ds.map (qN b0 n AH.empty):=fun i cs e=>by
    simp only [J0,Z1]at e;obtain⟨ds,e1,e2⟩:=e;exact⟨ds,e1,e2.symm⟩
   have hlen:(es.map fun cs=>cs.map (qN b0 n AH.empty)).length=es.length:=by simp
   show V G m (.ah (es.map fun cs=>cs.map (qN b0 n AH.empty)) _) (.slice ad es.length cap)
   rw [<-hlen];refine .ah _ _ sz ad cap f (fun i cs e=> ?_) (by rw [hlen];exact h2) (fun hne=> ?_) (fun i cs j d e ed=> ?_) ?_
   · obtain⟨ds,e1,rfl⟩:=get i cs e;rw [J1];exact h1 i ds e1
   · obtain⟨b,o,e1,e2⟩:=h3 (fun e=>hne (by rw [e];rfl));refine⟨b,o,e1,fun i cs e j d ed=> ?_⟩;obtain⟨ds,e3,rfl⟩:=get i cs e;obtain⟨d',e4,rfl⟩:=hl ds j d ed;exact e2 i ds e3 j d' e4
   · obtain⟨ds,e3,rfl⟩:=get i cs e;obtain⟨d',e4,rfl⟩:=hl ds j d ed;exact ih (h4 i ds j d' e3 e4)
   · rw [hlen];cases b0 with
     |true=>cases c<;>trivial
     |false=>
      cases c with
      |nil=>exact h5
      |exact=>exact h5
      |unk=>trivial
      |tok k=>trivial
  |bP id off len cap sz b h1 h2=>exact .any _
  |agg cs vs h1 h2=>exact .agg _ vs (by simpa using h1) (fun j c x e ex=>by obtain⟨d,e1,rfl⟩:=hl cs j c e;exact ih (h2 j d x e1 ex))
  |dn cs vs h1 h2=>exact .dn _ vs (by simpa using h1) (fun j c x e ex=>by obtain⟨d,e1,rfl⟩:=hl cs j c e;exact ih (h2 j d x e1 ex))
  |fn g cs ds vs us h1 h2 h3 h4=>
   exact .fn _ _ _ vs us (by simpa using h1) (fun j c x e ex=>by obtain⟨d,e1,rfl⟩:=hl cs j c e;exact ih (h2 j d x e1 ex)) (by simpa using h3) (fun j c x e ex=>by obtain⟨d,e1,rfl⟩:=hl ds j c e;exact ih (h4 j d x e1 ex))
  |lq=>exact .lq
  |iface t p v h=>exact .iface _ _ _ (ih h)
  |nA=>exact .nA
def Old (H H':AH):Prop:= ∀i cs,H.obj i=some cs->H'.obj i=some cs
theorem Old.refl (H:AH):Old H H:=fun _ _ h=>h
theorem Fz.old {H H':AH} (ho:Old H H') {p q:PV} (h:Fz H p q):Fz H' p q:=by
 induction h with
 |pure p h=>exact .pure p h
 |any p=>exact .any p
 |cK cs cs' off hl _ ih=>exact .cK cs cs' off hl ih
 |ref id off cs cs' h hl _ ih=>exact .ref id off cs cs' (ho _ _ h) hl ih
 |ah es es' c c' hc hl hl' _ ih=>exact .ah es es' c c' hc hl hl' ih
 |bP id off len cap sz cs es' g h hl hcap hl' hg _ ih=>exact .bP id off len cap sz cs es' g (ho _ _ h) hl hcap hl' hg ih
 |agg cs cs' hl _ ih=>exact .agg cs cs' hl ih
 |dn cs cs' hl _ ih=>exact .dn cs cs' hl ih
 |iface t p p' _ ih=>exact .iface t p p' ih
 |fn g cs cs' ds ds' hl _ hm _ ih1 ih2=>exact .fn g cs cs' ds ds' hl ih1 hm ih2
theorem au4 {H H':AH} (ho:Old H H') {k:RK} {σ:Nat->PV} {p:PV} (h:rop k σ H=some p):rop k σ H'=some p:=by
 cases k with
 |load sz agg x=>
  simp only [rop]at h⊢;generalize x.ev σ=q at h;cases q with
  |ref id o=>
   simp only [CQ]at h⊢;split at h
   · rename_i cs hc;rw [ho _ _ hc];exact h
   · cases h
  |_=>exact h
 |_=>exact h
def scB:PV->Bool
 | .bool _| .int .. | .str _| .any=>true
 | .dn cs=>cs.all fun c=>match c with| .bool _| .int .. | .str _| .any=>true|_=>false
 |_=>false
theorem aAh {p:PV} (h:scB p=true):Sc p:=by
 cases p with
 |bool b=>exact .bool b
 |int k x=>exact .int k x
 |str s=>exact .str s
 |any=>exact .any
 |dn cs=>
  refine .dn cs fun c hc=> ?_;have:=S3.1 h c hc;cases c<;>simp at this
  · exact .any
  · exact .bool _
  · exact .int _ _
  · exact .str _
 |_=>cases h
def Y0:Nat->PV->Bool
 |0,_=>false
 |n+1,p=>match p with
  | .ref .. | .bP .. =>true
  | .cK cs _| .agg cs| .dn cs=>cs.any (Y0 n)
  | .ah es _=>es.any fun cs=>cs.any (Y0 n)
  | .fn _ cs ds=>cs.any (Y0 n)||ds.any (Y0 n)
  | .iface _ p=>Y0 n p
  |_=>false
section
variable {P:Program} (call:FuncId->List PV->Option PV) (tu:FuncId->Option Nat->Option (Nat×List (List PV)))
def ajE (H:AH) (σ:Nat->PV) (f:AE) (args:List AE):Option PV:=match f.ev σ with
 | .fn (.func g) first caps=>
  if(first++evs σ args++caps).any (Y0 12)then(match call g ((first++evs σ args++caps).map (qN false 20 H))with
   |some r=>if scB r then some r else none
   |none=>none)
  else call g ((first++evs σ args++caps).map (qN false 20 AH.empty))
 |_=>none
def xrd (H:AH) (k:AK) (σ:Nat->PV):Option PV:=match k with
 | .r k=>rop k σ H
 | .call f args=>ajE call H σ f args
 | .n (.NY zero parts)=>(kU σ zero parts).map .agg
 | .n (.Y4 x)=>match x.ev σ with
  | .str s=>some (.ah (s.map fun b=>[.int .u8 b.toNat]) .unk)
  |_=>none
 |_=>none
def xwr (H0:AH) (k:AK) (σ:Nat->PV) (H:AH):Option (PV×AH):=match k with
 | .d k=>match k with
  | .app .. =>jc k σ H
  | .store sz x v=>match x.ev σ with
   | .ref id o=>if(H0.obj id).isNone then jc k σ H else none
   |_=>none
  | .alloc _| .box .. | .yP .. =>if(H0.obj H.next).isNone then jc k σ H else none
 | .n (.copy sz x y)=>match x.ev σ,rowOf sz H (y.ev σ)with
  | .bP id off len cap s,some fs=>(match H.obj id with
   |some cs=>if s=sz/\rC sz fs/\off+len*sz<=cs.length/\(H0.obj id).isNone=true then some (.int .i64 (min fs.length len:Nat),H.put id (putCells cs off (fs.take len).flatten))else none
   |none=>none)
  |_,_=>none
 | .n (.NZ sz parts)=>if(H0.obj H.next).isNone then(match Aa sz σ parts with
  |some es=>if rC sz es then some (.bP H.next 0 es.length es.length sz,H.new es.flatten)else none
  |none=>none)else none
 |_=>none
def aAi (d:Option Nat):AK->Option (Nat×List (List PV))
 | .call (.c (.fn (.func g) [] [])) []=>tu g d
 |_=>none
def xop (H0:AH) (d:Option Nat) (k:AK) (σ:Nat->PV) (H:AH):Option (PV×AH):=match aAi tu d k with
 |some (sz,es)=>some (.bP H.next 0 es.length es.length sz,H.new es.flatten)
 |none=>match xrd call H k σ with
  |some p=>some (p,H)
  |none=>xwr H0 k σ H
def M9:List aD->(Nat->PV)->AH->Option ((Nat->PV)×AH)
 |[],σ,H=>some (σ,H)
 |o::l,σ,H=>match o.g with
  |none=>match xop call tu AH.empty o.dst o.k σ H with
   |some (p,H')=>M9 l (upd σ o.dst p) H'
   |none=>none
  |some (s,want)=>match σ s with
   | .bool b=>if b=want then(match xop call tu AH.empty o.dst o.k σ H with
    |some (p,H')=>M9 l (upd σ o.dst p) H'
    |none=>none)else M9 l (upd σ o.dst ud) H
   | .dn []=>M9 l (upd σ o.dst ud) H
   |_=>none
def gate (o:aD) (σ:Nat->PV):Option Bool:=match o.g with
 |none=>some true
 |some (s,want)=>match σ s with
  | .bool b=>some (b==want)
  | .dn []=>some false
  |_=>none
def Y1 (H0:AH):List (aD×Bool)->(Nat->PV)->AH->Option ((Nat->PV)×AH)
 |[],σ,H=>some (σ,H)
 |(o,d)::l,σ,H=>match gate o σ with
   |some true=>if d then(match xwr H0 o.k σ H with
        |some (p,H')=>Y1 H0 l (upd σ o.dst p) H'
        |none=>none)
    else(match xrd call H0 o.k σ with
        |some p=>Y1 H0 l (upd σ o.dst p) H
        |none=>none)
   |some false=>Y1 H0 l (upd σ o.dst ud) H
   |none=>none
def abo (body:(Nat->PV)->AH->Option (Ex×(Nat->PV)×AH)):Nat->(Nat->PV)->AH->Option (Ex×(Nat->PV)×AH)
 |0,_,_=>none
 |n+1,σ,H=>match body σ H with
  |some (.normal,σ',H')=>abo body n σ' H'
  |r=>r
def exec (n:Nat):AC->(Nat->PV)->AH->Option (Ex×(Nat->PV)×AH)
 | .skip,σ,H=>some (.normal,σ,H)
 | .ops l,σ,H=>match M9 call tu l σ H with
  |some (σ',H')=>some (.normal,σ',H')
  |none=>none
 | .par pr post,σ,H=>match Y1 call H pr σ H with
  |some (σ',H')=>(match M9 call tu post σ' H' with
   |some (σ2,H2)=>some (.normal,σ2,H2)
   |none=>none)
  |none=>none
 | .sV ..,_,_=>none
 | .seq a b,σ,H=>match exec n a σ H with
  |some (.normal,σ',H')=>exec n b σ' H'
  |r=>r
 | .cond c a b,σ,H=>match c.ev σ with
  | .bool true=>exec n a σ H
  | .bool false=>exec n b σ H
  |_=>none
 | .block id a,σ,H=>match exec n a σ H with
  |some (.exit i,σ',H')=>if i=id then some (.normal,σ',H')else some (.exit i,σ',H')
  |r=>r
 | .loop a,σ,H=>abo (exec n a) n σ H
 | .rf ..,_,_=>none
 | .exit id,σ,H=>some (.exit id,σ,H)
 | .ret,σ,H=>some (.ret,σ,H)
variable {call tu} (hrow: ∀g d sz es,tu g d=some (sz,es)-> ∀H,aW P g [] H fun v H'=>v= .bP H.next 0 es.length es.length sz/\H'=H.new es.flatten) (hcall: ∀f args r,(∀a∈args,Pu a)->call f args=some r->aG P f args r)
include hcall
theorem agk {H0:AH} {σ:Nat->PV} {f:AE} {args:List AE} {r:PV} (h:ajE call H0 σ f args=some r) {H:AH} (ho:Old H0 H):dQ P (.call f args) (fun v H'=>v=r/\H'=H) σ H:=by
 unfold ajE at h;simp only [dQ];split at h
 · rename_i g first caps hf
   simp only [hf];generalize first++evs σ args++caps=az at h⊢
   split at h
   · split at h
     · rename_i r' hr;split at h
       · rename_i hs;cases h;refine aG.frozen (args:=az) (args':=az.map (qN false 20 H0)) ⟨J1 ..,fun j a a' e e'=> ?_⟩ (fun a ha=> ?_) (hcall _ _ _ (fun a ha=> ?_) hr) (aAh hs)
         · rw [M8 e e'];exact(aeZ 20 H0 a).old ho
         · obtain⟨d,_,rfl⟩:=G3.1 ha;exact Xd _ _ _
         · obtain⟨d,_,rfl⟩:=G3.1 ha;exact Xd _ _ _
       · cases h
     · cases h
   · have hp:=hcall _ _ _ (fun a ha=>by obtain⟨d,_,rfl⟩:=G3.1 ha;exact Xd _ _ _) h;refine⟨(hp H).enters,fun B G w vs hU hM hv=>(hp H).call B G w vs hU hM ⟨by simpa using hv.1,fun j c x hc hx=> ?_⟩⟩;simp only [J0,Z1]at hc;obtain⟨d,e1,rfl⟩:=hc;exact ae0 20 (hv.2 j d x e1 hx)
 · cases h
theorem aai {H0:AH} {k:AK} {σ:Nat->PV} {p:PV} (h:xrd call H0 k σ=some p) {H:AH} (ho:Old H0 H):dQ P k (fun v H'=>v=p/\H'=H) σ H:=by
 unfold xrd at h;split at h
 · simp [dQ,au4 ho h]
 · exact agk hcall h ho
 · simp only [Z1]at h;obtain⟨cs,h1,rfl⟩:=h;simp [dQ,nop,h1]
 · split at h
   · rename_i s hs;cases h;simp [dQ,nop,hs]
   · cases h
 · cases h
omit hcall
theorem aaj {H0:AH} {k:AK} {σ:Nat->PV} {H:AH} {p:PV} {H':AH} (h:xwr H0 k σ H=some (p,H')):dQ P k (fun v H2=>v=p/\H2=H') σ H/\(Old H0 H->Old H0 H'):=by
 have dd: ∀{k:DK},jc k σ H=some (p,H')->dQ P (.d k) (fun v H2=>v=p/\H2=H') σ H:=fun h=>by simp [dQ,h]
 have hnew: ∀{cs:List PV},(H0.obj H.next).isNone=true->Old H0 H->Old H0 (H.new cs):=fun{cs} hn ho i ds e=>by
  have:i≠H.next:=fun e'=>by rw [e',Option.isNone_iff_eq_none.1 hn]at e;cases e
  rw [AH.agx,if_neg this];exact ho i ds e
 have hput: ∀{id:Nat} {cs:List PV},(H0.obj id).isNone=true->Old H0 H->Old H0 (H.put id cs):=fun{id cs} hn ho i ds e=>by
  have:i≠id:=fun e'=>by rw [e',Option.isNone_iff_eq_none.1 hn]at e;cases e
  rw [AH.agy,if_neg this];exact ho i ds e
 unfold xwr at h;split at h
 · split at h
   · rename_i sz by' x y
     refine⟨dd h,fun ho=> ?_⟩;simp only [jc,Ma]at h;split at h
     · split at h
       · cases h;exact ho
       · split at h
         · split at h
           · cases h
           · split at h
             · cases h;exact ho
             · cases h
           · cases h;exact ho
         · cases h
     · cases h
   · rename_i sz x v;split at h
     · rename_i id o hx;split at h
       · rename_i hn;refine⟨dd h,fun ho=> ?_⟩;simp only [jc,hx]at h;split at h
         · rename_i id' o' vs e1 e2;cases e1;split at h
           · split at h
             · cases h;exact hput hn ho
             · cases h
           · cases h
         · cases h
       · cases h
     · cases h
   · split at h
     · rename_i z hn;refine⟨dd h,fun ho=> ?_⟩;simp only [jc]at h;cases h;exact hnew hn ho
     · cases h
   · split at h
     · rename_i sz x hn;refine⟨dd h,fun ho=> ?_⟩;simp only [jc]at h;split at h
       · cases h;exact hnew hn ho
       · cases h
     · cases h
   · split at h
     · rename_i sz b z n c hn;refine⟨dd h,fun ho=> ?_⟩;simp only [jc]at h;split at h
       · split at h
         · cases h;exact hnew hn ho
         · cases h
       · cases h
     · cases h
 · rename_i sz x y;split at h
   · rename_i id off len cap s fs hx hy;split at h
     · rename_i cs hc;split at h
       · rename_i hk;cases h;refine⟨?_,hput hk.2.2.2⟩;simp only [dQ,nop,hx,hy,hc];rw [if_pos ⟨hk.1,hk.2.1,hk.2.2.1⟩];simp
       · cases h
     · cases h
   · cases h
 · rename_i sz parts;split at h
   · rename_i hn;split at h
     · rename_i es he;split at h
       · rename_i hk;cases h;refine⟨?_,hnew hn⟩;simp only [dQ,nop,he];rw [if_pos hk];simp
       · cases h
     · cases h
   · cases h
 · cases h
include hrow hcall
theorem ams {H0:AH} {d:Option Nat} {k:AK} {σ:Nat->PV} {H:AH} {p:PV} {H':AH} (h:xop call tu H0 d k σ H=some (p,H')):dQ P k (fun v H2=>v=p/\H2=H') σ H:=by
 unfold xop at h;split at h
 · rename_i sz es hx;cases h;unfold aAi at hx;split at hx
   · exact hrow _ _ _ _ hx H
   · cases hx
 split at h
 · rename_i q hq;cases h;exact aai hcall hq (Old.refl H)
 · exact(aaj h).1
theorem Es {K:(Nat->PV)->AH->Prop}: ∀(l:List aD) (σ:Nat->PV) (H:AH) (σ':Nat->PV) (H':AH),M9 call tu l σ H=some (σ',H')->K σ' H'->eZ P l K σ H
 |[],σ,H,σ',H',h,hk=>by cases h;exact hk
 |o::l,σ,H,σ',H',h,hk=>by
  simp only [M9]at h;simp only [eZ];have one: ∀{x:Option ((Nat->PV)×AH)},(match xop call tu AH.empty o.dst o.k σ H with|some (p,H')=>M9 call tu l (upd σ o.dst p) H'|none=>none)=some (σ',H')->dQ P o.k (fun p H'=>eZ P l K (upd σ o.dst p) H') σ H:=by
   intro _ h;split at h
   · rename_i p H2 hp;refine kI ?_ (ams hrow hcall hp);rintro v H3 ⟨rfl,rfl⟩;exact Es l _ _ _ _ h hk
   · cases h
  split at h
  · rename_i hg;simp only [hg];exact one (x:=none) h
  · rename_i s want hg;simp only [hg];split at h
    · rename_i b hb;simp only [hb];split at h
      · rename_i hw;rw [if_pos hw];exact one (x:=none) h
      · rename_i hw;rw [if_neg hw];exact Es l _ _ _ _ h hk
    · rename_i hb;simp only [hb];exact Es l _ _ _ _ h hk
    · cases h
theorem Ib {H0:AH} {K:(Nat->PV)->AH->Prop}: ∀(l:List (aD×Bool)) (σ:Nat->PV) (H:AH) (σ':Nat->PV) (H':AH),Y1 call H0 l σ H=some (σ',H')->Old H0 H->K σ' H'->jd P (Old H0) l K σ H
 |[],σ,H,σ',H',h,ho,hk=>by cases h;exact hk
 |(o,d)::l,σ,H,σ',H',h,ho,hk=>by
   simp only [Y1]at h;simp only [jd];split at h
   · rename_i hg;refine .inr ⟨?_,?_⟩
     · unfold gate at hg;unfold pX;split at hg
       · rename_i e;simp only [e]
       · rename_i s want e;simp only [e];split at hg
         · rename_i b hb;rw [hb];simp only [L1,E3]at hg;rw [hg]
         · cases hg
         · cases hg
     · split at h
       · rename_i hd;subst hd;split at h
         · rename_i p H2 hp;obtain⟨h1,h2⟩:=aaj (P:=P) hp;exact⟨p,H2,h1,h2 ho,Ib l _ _ _ _ h (h2 ho) hk⟩
         · cases h
       · rename_i hd;have hd:d=false:=by simpa using hd
         subst hd;split at h
         · rename_i p hp;exact⟨p,fun H2 h2=>aai hcall hp h2,Ib l _ _ _ _ h ho hk⟩
         · cases h
   · rename_i hg;refine .inl ⟨?_,Ib l _ _ _ _ h ho hk⟩;unfold gate at hg;unfold sU;split at hg
     · cases hg
     · rename_i s want e;simp only [e];split at hg
       · rename_i b hb;rw [hb];simp only [L1]at hg;refine .inl ?_;cases b<;>cases want<;>simp_all
       · rename_i hb;exact .inr hb
       · cases hg
   · cases h
theorem Rb {a:AC} {Q:Post} {body:(Nat->PV)->AH->Option (Ex×(Nat->PV)×AH)} (hb: ∀(Q:Post) σ H e σ' H',body σ H=some (e,σ',H')->Q e σ' H'->W P a Q σ H):
 ∀(n:Nat) σ H e σ' H',abo body n σ H=some (e,σ',H')->Q e σ' H'->W P (.loop a) Q σ H
 |0,σ,H,e,σ',H',h,hq=>by cases h
 |n+1,σ,H,e,σ',H',h,hq=>by
  simp only [abo]at h;refine akf ?_;split at h
  · rename_i σ2 H2 h2;exact hb _ _ _ _ _ _ h2 (Rb hb n _ _ _ _ _ h hq)
  · rename_i hno;refine hb _ _ _ _ _ _ h ?_;cases e with
    |normal=>exact(hno _ _ h).elim
    |exit i=>exact hq
    |ret=>exact hq
theorem pW (n:Nat): ∀(c:AC) (Q:Post) σ H e σ' H',exec call tu n c σ H=some (e,σ',H')->Q e σ' H'->W P c Q σ H
 | .skip,Q,σ,H,e,σ',H',h,hq=>by cases h;exact hq
 | .ops l,Q,σ,H,e,σ',H',h,hq=>by
  simp only [exec]at h;split at h
  · rename_i σ2 H2 h2;cases h;exact Es hrow hcall l _ _ _ _ h2 hq
  · cases h
 | .par pr post,Q,σ,H,e,σ',H',h,hq=>by
  simp only [exec]at h;split at h
  · rename_i σ2 H2 h2;split at h
    · rename_i σ3 H3 h3;cases h;exact⟨Old H,Old.refl H,Ib hrow hcall pr _ _ _ _ h2 (Old.refl H) (Es hrow hcall post _ _ _ _ h3 hq)⟩
    · cases h
  · cases h
 | .sV ..,Q,σ,H,e,σ',H',h,hq=>by cases h
 | .seq a b,Q,σ,H,e,σ',H',h,hq=>by
  simp only [exec]at h;simp only [W];split at h
  · rename_i σ2 H2 h2;exact pW n a _ _ _ _ _ _ h2 (pW n b _ _ _ _ _ _ h hq)
  · rename_i hno;refine pW n a _ _ _ _ _ _ h ?_;cases e with
    |normal=>exact(hno _ _ h).elim
    |exit i=>exact hq
    |ret=>exact hq
 | .cond c a b,Q,σ,H,e,σ',H',h,hq=>by
  simp only [exec]at h;simp only [W];split at h
  · rename_i hc;simp only [hc];exact⟨fun _=>pW n a _ _ _ _ _ _ h hq,fun e=>by cases e⟩
  · rename_i hc;simp only [hc];exact⟨fun e=>(by cases e),fun _=>pW n b _ _ _ _ _ _ h hq⟩
  · cases h
 | .block id a,Q,σ,H,e,σ',H',h,hq=>by
  simp only [exec]at h;simp only [W];split at h
  · rename_i i σ2 H2 h2;refine pW n a _ _ _ _ _ _ h2 ?_;simp only [Ol];split at h
    · rename_i hi;rw [if_pos hi];cases h;exact hq
    · rename_i hi;rw [if_neg hi];cases h;exact hq
  · rename_i hno;refine pW n a _ _ _ _ _ _ h ?_;cases e with
    |normal=>exact hq
    |exit i=>exact(hno _ _ _ h).elim
    |ret=>exact hq
 | .loop a,Q,σ,H,e,σ',H',h,hq=>Rb hrow hcall (fun Q σ H e σ' H' h hq=>pW n a Q σ H e σ' H' h hq) n σ H e σ' H' h hq
 | .rf ..,Q,σ,H,e,σ',H',h,hq=>by cases h
 | .exit id,Q,σ,H,e,σ',H',h,hq=>by cases h;exact hq
 | .ret,Q,σ,H,e,σ',H',h,hq=>by cases h;exact hq
end
def codeOf (P:Program) (f:FuncId):Option (Nat×List RV×AC):=match P.funcs[f]? with
 |some fn=>match fn.body with
  |some c=>if fn.name== "runtime.NumGoroutine" then none else match comp P false fn.ntmps (fun _=>false) c,Iz P fn.results.toList with
   |some ac,some rs=>some (fn.ntmps,rs,ac)
   |_,_=>none
  |none=>none
 |none=>none
theorem amt {P:Program} (Ez:P.follows .mixedOrders=true) {f:FuncId} {k:Nat} {rs:List RV} {ac:AC} (h:codeOf P f=some (k,rs,ac)):aM P (fun _=>false) false f k rs ac:=by
 unfold codeOf at h;split at h
 · rename_i fn hfn;split at h
   · rename_i c hc;split at h
     · cases h
     · rename_i hn;split at h
       · rename_i ac' rs' h1 h2;cases h;exact⟨Ez,fn,c,hfn,hc,by simpa using hn,rfl,h1,h2⟩
       · cases h
   · cases h
 · cases h
def Xe (P:Program) (known:FuncId->List PV->Option PV) (tu:FuncId->Option Nat->Option (Nat×List (List PV))):Nat->FuncId->List PV->Option PV
 |0,_,_=>none
 |n+1,f,args=>match known f args with
  |some r=>some r
  |none=>match codeOf P f with
   |some (k,rs,ac)=>if args.length<=k then(match exec (Xe P known tu n) tu 4000 ac (KX args) AH.empty with
    |some (.exit _,_,_)=>none
    |some (_,σ,H)=>(match EA σ H rs with
     |some ps=>some (qN false 20 H (packed ps))
     |none=>none)
    |none=>none)else none
   |none=>none
theorem KQ {P:Program} {tu:FuncId->Option Nat->Option (Nat×List (List PV))} (hrow: ∀g d sz es,tu g d=some (sz,es)-> ∀H,aW P g [] H fun v H'=>v= .bP H.next 0 es.length es.length sz/\H'=H.new es.flatten) (Ez:P.follows .mixedOrders=true) {known:FuncId->List PV->Option PV} (hk: ∀f args r,(∀a∈args,Pu a)->known f args=some r->aG P f args r):
 ∀(n:Nat) (f:FuncId) (args:List PV) (r:PV),(∀a∈args,Pu a)->Xe P known tu n f args=some r->aG P f args r
 |0,f,args,r,ha,h=>by cases h
 |n+1,f,args,r,ha,h=>by
  simp only [Xe]at h;split at h
  · rename_i r' hr;cases h;exact hk f args _ ha hr
  · split at h
    · rename_i k rs ac hc;split at h
      · rename_i hl;have run: ∀e σ H,exec (Xe P known tu n) tu 4000 ac (KX args) AH.empty=some (e,σ,H)->(match EA σ H rs with|some ps=>some (qN false 20 H (packed ps))|none=>none)=some r->(∀i,e≠ .exit i)->aG P f args r:=by
         intro e σ H he hr hne;split at hr
         · rename_i ps hps;cases hr;refine aG.bX ha (aL (amt Ez hc) hl (pW hrow (KQ hrow Ez hk n) 4000 ac _ _ _ _ _ _ he ?_)) (Xd _ _ _);cases e with
           |exit i=>exact(hne i rfl).elim
           |normal=>simp only [Iy,hps];exact aeZ _ _ _
           |ret=>simp only [Iy,hps];exact aeZ _ _ _
         · cases hr
        split at h
        · cases h
        · rename_i e σ H hno he;refine run e σ H he h fun i hi=> ?_;subst hi;exact hno _ rfl
        · cases h
      · cases h
    · cases h
def ajF (P:Program) (f:FuncId):Option (Nat×List RV×AC):=match P.funcs[f]? with
 |some fn=>match fn.body with
  |some c=>if fn.name== "runtime.NumGoroutine" then none else match comp P true fn.ntmps (fun _=>false) c,Iz P fn.results.toList with
   |some ac,some rs=>some (fn.ntmps,rs,ac)
   |_,_=>none
  |none=>none
 |none=>none
theorem ape {P:Program} (Ez:P.follows .mixedOrders=true) {f:FuncId} {k:Nat} {rs:List RV} {ac:AC} (h:ajF P f=some (k,rs,ac)):aM P (fun _=>false) true f k rs ac:=by
 unfold ajF at h;split at h
 · rename_i fn hfn;split at h
   · rename_i c hc;split at h
     · cases h
     · rename_i hn;split at h
       · rename_i ac' rs' h1 h2;cases h;exact⟨Ez,fn,c,hfn,hc,by simpa using hn,rfl,h1,h2⟩
       · cases h
   · cases h
 · cases h
def ajG (P:Program) (call:FuncId->List PV->Option PV) (f:FuncId) (H:AH):Option (PV×AH):=match ajF P f with
 |some (_,rs,ac)=>match exec call (fun _ _=>none) 4000 ac (KX []) H with
  |some (.exit _,_,_)=>none
  |some (_,σ,H')=>(EA σ H' rs).map fun ps=>(packed ps,H')
  |none=>none
 |none=>none
theorem agl {P:Program} (Ez:P.follows .mixedOrders=true) {call:FuncId->List PV->Option PV} (hcall: ∀f args r,(∀a∈args,Pu a)->call f args=some r->aG P f args r) {f:FuncId} {H H2:AH} {v:PV} (h:ajG P call f H=some (v,H2)):aW P f [] H fun q H'=>q=v/\H'=H2:=by
 unfold ajG at h;split at h
 · rename_i k rs ac hc;have run: ∀e σ H',exec call (fun _ _=>none) 4000 ac (KX []) H=some (e,σ,H')->(EA σ H' rs).map (fun ps=>(packed ps,H'))=some (v,H2)->(∀i,e≠ .exit i)->aW P f [] H fun q H'=>q=v/\H'=H2:=by
    intro e σ H' he hr hne;rw [Z1]at hr;obtain⟨ps,hps,hq⟩:=hr;cases hq;refine aL (ape Ez hc) (by simp) (pW (fun g d sz es h=>by cases h) hcall 4000 ac _ _ _ _ _ _ he ?_);cases e with
    |exit i=>exact(hne i rfl).elim
    |normal=>simp [Iy,hps]
    |ret=>simp [Iy,hps]
   split at h
   · cases h
   · rename_i e σ H' hno he;exact run e σ H' he h fun i hi=>by subst hi;exact hno _ rfl
   · cases h
 · cases h
theorem aG.weak {P:Program} {f:FuncId} {args:List PV} {r:PV} (h:aG P f (args.map (qN true 20 AH.empty)) r):aG P f args r:=fun H=>
 ⟨(h H).enters,fun B G w vs hU hM hv=>(h H).call B G w vs hU hM ⟨by simpa using hv.1,fun j c x hc hx=>by
   simp only [J0,Z1]at hc;obtain⟨d,e1,rfl⟩:=hc;exact ae0 20 (hv.2 j d x e1 hx)⟩⟩
def Na {α β:Type} (f:α->Option β):List α->Option (List β)
 |[]=>some []
 |x::l=>match f x,Na f l with
  |some y,some r=>some (y::r)
  |_,_=>none
theorem BZ {α β:Type} {f:α->Option β} {g:β->α} (hf: ∀x y,f x=some y->x=g y): ∀{l:List α} {m:List β},Na f l=some m->l=m.map g
 |[],m,h=>by cases h;rfl
 |x::l,m,h=>by
  simp only [Na]at h;split at h
  · rename_i y r hy hr;cases h;rw [hf x y hy,BZ hf hr];rfl
  · cases h
def ajH:List PV->Option Str
 |[.str s]=>some s
 |_=>none
def ajI:List PV->Option Int
 |[.int .i64 n]=>some n
 |_=>none
def dNd:List PV->Option Nd
 |[.int .i64 k,.int .i64 n,.str t,.ah ns .unk,.ah is' .unk]=>match Na ajH ns,Na ajI is' with
  |some a,some b=>some ⟨k,n,t,a,b⟩
  |_,_=>none
 |_=>none
def dEx:PV->Option (List Nd)
 | .ah es .unk=>Na dNd es
 |_=>none
theorem ahr (x:List PV) (y:Str) (h:ajH x=some y):x=aF y:=by
 unfold ajH at h;split at h
 · cases h;rfl
 · cases h
theorem ahs (x:List PV) (y:Int) (h:ajI x=some y):x=aK y:=by
 unfold ajI at h;split at h
 · cases h;rfl
 · cases h
theorem aAk (x:List PV) (y:Nd) (h:dNd x=some y):x=y.cells:=by
 unfold dNd at h;split at h
 · split at h
   · rename_i a b ha hb;cases h;rw [BZ ahr ha,BZ ahs hb];rfl
   · cases h
 · cases h
theorem Qg {p:PV} {e:List Nd} (h:dEx p=some e):p=gH e:=by
 unfold dEx at h;split at h
 · rw [BZ aAk h]
 · cases h
end Go.VL
end
section
namespace Go.VL
open Go.Proofs
def apf:PV->Option (List (List Nd))
 | .ah es .unk=>Na (fun l=>match l with|[p]=>dEx p|_=>none) es
 |_=>none
theorem au5 {p:PV} {l:List (List Nd)} (h:apf p=some l):p= .ah (l.map (bR Nd.cells)) .unk:=by
 unfold apf at h;split at h
 · rw [BZ (g:=bR Nd.cells) (fun x y hx=> ?_) h];split at hx
   · rw [Qg hx];rfl
   · cases hx
 · cases h
def ajJ:PV->Option (List Int)
 | .ah es .unk=>Na ajI es
 |_=>none
theorem apg {p:PV} {l:List Int} (h:ajJ p=some l):p= .ah (l.map aK) .unk:=by
 unfold ajJ at h;split at h
 · rw [BZ ahs h]
 · cases h
def ajK:PV->Option (List Str)
 | .ah es .unk=>Na ajH es
 |_=>none
theorem aph {p:PV} {l:List Str} (h:ajK p=some l):p= .ah (l.map aF) .unk:=by
 unfold ajK at h;split at h
 · rw [BZ ahr h]
 · cases h
def Y2 (f:FuncId) (args:List PV):Option PV:=match f,args.map (qN true 20 AH.empty)with
 |119,[p]=>(dEx p).bind fun e=>(iA 200 e).bind fun r=>some (.dn [.int .i64 r.1,.int .i64 r.2])
 |160,[p,q]=>(dEx p).bind fun a=>(dEx q).bind fun b=>(EW 200 a b).bind fun r=>some (.dn [.bool r.1,.int .i64 r.2])
 |22,[p,q,g]=>(apf p).bind fun l=>(ajJ q).bind fun n=>(dEx g).bind fun e=>(kQ 200 l n e).bind fun r=>some (.dn [.bool r.1,.int .i64 r.2])
 |181,[p]=>(ajK p).bind fun l=>if l.length<=1000000 then some (.ah (l.map aF) .unk)else none
 |_,_=>none
theorem Xf (f:FuncId) (args:List PV) (r:PV) (_: ∀a∈args,Pu a) (h:Y2 f args=some r):aG Tryz.prog f args r:=by
 refine aG.weak ?_;unfold Y2 at h;split at h
 · rename_i p e;rw [e];obtain⟨x,h1,h⟩:=aj h;obtain⟨y,h2,h⟩:=aj h;cases h;rw [Qg h1];exact Nn h2
 · rename_i p q e;rw [e];obtain⟨x,h1,h⟩:=aj h;obtain⟨x',h1',h⟩:=aj h;obtain⟨y,h2,h⟩:=aj h;cases h;rw [Qg h1,Qg h1'];exact ZY h2
 · rename_i p q g e;rw [e];obtain⟨x,h1,h⟩:=aj h;obtain⟨x',h1',h⟩:=aj h;obtain⟨x'',aHM,h⟩:=aj h;obtain⟨y,h2,h⟩:=aj h;cases h;rw [au5 h1,apg h1',Qg aHM];exact Nv h2
 · rename_i p e;rw [e];obtain⟨x,h1,h⟩:=aj h;split at h
   · rename_i hl;cases h;rw [aph h1];exact Ov x hl
   · cases h
 · cases h
end Go.VL
end
section
set_option maxRecDepth 100000
namespace Go.VL
open Go.Proofs
noncomputable def ajL:List (List PV):=match ajG Tryz.prog (Xe Tryz.prog Y2 (fun _ _=>none) 30) 48 AH.empty with
 |some (_,H)=>match H.obj 0 with
  |some cs=>chunks 7 2 cs
  |none=>[]
 |none=>[]
theorem aDf (H:AH):aW Tryz.prog 48 [] H fun v H'=>v= .bP H.next 0 ajL.length ajL.length 7/\H'=H.new ajL.flatten:=
 agl (by kernel_rfl) (KQ (tu:=fun _ _=>none) (fun g d sz es h=>by cases h) (by kernel_rfl) Xf 30) (by kernel_rfl)
noncomputable def aAl (g:FuncId) (d:Option Nat):Option (Nat×List (List PV)):=if g=48/\d=some 40 then some (7,ajL)else none
theorem au6 (g:FuncId) (d:Option Nat) (sz:Nat) (es:List (List PV)) (h:aAl g d=some (sz,es)) (H:AH):aW Tryz.prog g [] H fun v H'=>v= .bP H.next 0 es.length es.length sz/\H'=H.new es.flatten:=by
 unfold aAl at h;split at h
 · rename_i hc;cases h;rw [hc.1];exact aDf H
 · cases h
theorem au7:aG Tryz.prog 11 [] (.bool true):=
 KQ au6 (by kernel_rfl) Xf 40 11 [] _ (fun _ h=>by cases h) (by kernel_rfl)
end Go.VL
end
section
namespace Go.VL
variable [Glob]
def aAm {α:Type} (P:Program) (g:FuncId) (args:List PV) (f:α->List PV) (xs:List α):Prop:=
 ∀H,aW P g args H fun v H'=> ∃c,v= .ah (xs.map f) c/\aR H' c/\H.next<=H'.next/\(∀i,i<H.next->H'.obj i=H.obj i)/\ ∀c3,aR H c3->aR H' c3/\ku c c3
theorem amu {α:Type} {P:Program} {d:Option Nat} {g:FuncId} {args:List PV} {l:List aD} {s:List Fm} {Q:Post} {σ:Nat->PV} {H:AH} {f:α->List PV} {xs:List α} (hm:aAm P g args f xs)
 (h: ∀(c:Ck) (H':AH),aR H' c->H.next<=H'.next->(∀i,i<H.next->H'.obj i=H.obj i)->(∀c3,aR H c3->aR H' c3/\ku c c3)->WO P l s Q (upd σ d (.ah (xs.map f) c)) H'):MC P g args d l s Q σ H:=
 aW.mono (hm H) fun v H' ⟨c,h1,h2,h3,h4,h5⟩=>by subst h1;exact h c H' h2 h3 h4 h5
end Go.VL
open Go.Proofs
namespace Go.VL
theorem ae2: ∀(k:Nat) (l out:List (List Nd)) (i:Int) (c:Ck) (aH σ:Nat->PV) (H0 H:AH),Fr LM aH σ->H0.next<=H.next->(∀i,i<H0.next->H.obj i=H0.obj i)->(∀c3,aR H0 c3->aR H c3/\ku c c3)->
 σ 0=(.ah (l.map (bR Nd.cells)) .unk)->σ 3=(.ah (out.map (bR Nd.cells)) c)->σ 4=(.int .i64 i)->aR H c-> ∀o,mg k l out i=some o-> ∀Q:Post,
 (∀(c':Ck) (σ':Nat->PV) (H':AH),Fr LM aH σ'->H0.next<=H'.next->(∀i,i<H0.next->H'.obj i=H0.obj i)->(∀c3,aR H0 c3->aR H' c3/\ku c' c3)->aR H' c'->σ' 3=(.ah (o.map (bR Nd.cells)) c')->Q (.exit 0) σ' H')->W Tryz.prog (.loop Xy) Q σ H:=by
 intro k
 induction k with
 |zero=>intro l out i c aH σ H0 H f0 le0 ob0 rl0 s0 s3 s4 ok0 o h Q q0;simp only [mg,reduceCtorEq]at h
 |succ k ih=>
  intro l out i c aH σ H0 H f0 le0 ob0 rl0 s0 s3 s4 ok0 o h Q q0;unfold mg at h;refine bB (fun K hK=>aI ?_);unfold Xy;obtain⟨e1,h⟩|⟨e1,h⟩:=aJ h
  · obtain⟨e2,h⟩:=aX h;obtain⟨x3,e4,h⟩:=aj h;obtain⟨p6,e5,h⟩:=aj h;refine ak ?_;refine av (QL e5) ?_;obtain⟨e11,h⟩:=aX h;refine ak ?_;refine gI (f:=(bR Nd.cells)) IG out ([p6]:List (List Nd)) c .exact aA aA eG (by first|exact e11|(simp only [I0,j0];exact e11)) (fun c7 H8 ok9 le aHN aHO=> ?_);refine ak ?_;refine hK _ _ ?_;exact ih l (out++[p6]) (IntKind.wrap .i64 (i+1)) c7 _ _ _ _ bG (E1 le0 le) (fun j hj=>(aHN j).trans (ob0 j hj)) (fun c3 h3=>aHO c3 (rl0 c3 h3).1 (rl0 c3 h3).2) aA aA aA ok9 _ h _ q0
  · cases h;refine ak ?_;exact q0 c _ _ bG le0 ob0 rl0 ok0 aA
theorem NC {k:Nat} {l r:List (List Nd)} (h:AA k l=some r):aAm Tryz.prog 23 [(.ah (l.map (bR Nd.cells)) .unk)] (bR Nd.cells) r:=fun H=>by
 refine aL aFl (by simp) (aI ?_);unfold AA at h;unfold awo;obtain⟨o,h1,h⟩:=aj h;cases h;refine ak ?_;refine ae2 k l [] 0 .nil _ _ H H (Fr.refl _ _) (R0 _) (fun _ _=>rfl) (fun c3 h3=>⟨h3,ku.nil⟩) aA aA aA eG _ h1 _ ?_;intro c' σ' H' fr le ob rl ok s;refine ak ?_;exact⟨c',rfl,ok,ob,rl⟩
end Go.VL
end
section
namespace Go.VL
open Tm
def uS:List Int->Int
 |[]=>0
 |x::l=>if x=0 then uS l else x
theorem Fy (l:List Int) (hn:l.length<=1000):Ev (fun k=>BX k l) (uS l):=by
 have key:=eO (len:=l.length) (p:=fun i=> ∃o:Unit⊕Int,Ev (fun k=>r9 k l (l.length:Int) (i:Int)) o/\Sum.elim (fun _=>(0:Int)) id o=uS (l.drop i)) ⟨.inl (),Ev.succ (by
  simp only [r9];exact Ev.cF (eD _) Ev.some),by rw [wA];rfl⟩ fun i hi ih=>by
  rw [drop_cons hi,uS];by_cases h0:l[i]=0
  · obtain⟨o,h1,h2⟩:=ih;refine⟨o,Ev.succ ?_,by rw [if_pos h0];exact h2⟩;simp only [r9,V0,aP hi,W0,nn,A0,fC hi,S1,bW hi (show l.length<=1099511627776 by omega)];exact Ev.cF (by rw [h0];rfl) h1
  · refine⟨.inr l[i],Ev.succ ?_,by rw [if_neg h0];rfl⟩;simp only [r9,V0,aP hi,W0,nn,A0,fC hi,S1];exact Ev.cT (by rw [S5];exact h0) Ev.some
 obtain⟨o,h1,h2⟩:=key;rw [P1]at h2;unfold BX;refine Ev.bind h1 ?_;rw [<-h2];cases o<;>exact Ev.some
theorem BD (b:Bool) (e:Int):vG b e=some (if b=true then 0 else e):=by unfold vG;cases b<;>rfl
def rng (n:Int):Bool:=decide (-10000<=n)&&decide (n<=10000)
theorem amv (l:List Int) (hn:l.length<=1000):Ev (fun k=>lI k l) (!l.all rng):=by
 have key:=eO (len:=l.length) (p:=fun i=> ∃o:Unit⊕Int,Ev (fun k=>iR k l (l.length:Int) (i:Int)) o/\((∃u,o= .inl u)/\(l.drop i).all rng=true\/ ∃j:Int,0<=j/\o= .inr j/\(l.drop i).all rng=false)) ⟨.inl (),Ev.succ (by
  simp only [iR];exact Ev.cF (eD _) Ev.some),.inl ⟨⟨_,rfl⟩,by simp⟩⟩ fun i hi ih=>by
  have hb:xY l[i]=some (!rng l[i]):=by unfold xY;rw [aeU];rfl
  cases hc:rng l[i]with
  |false=>
   refine⟨.inr (i:Int),Ev.succ ?_,.inr ⟨i,by omega,rfl,by rw [drop_cons hi,N5,hc,O3]⟩⟩;simp only [iR,V0,aP hi,W0,nn,A0,fC hi,S1,hb,hc];exact Ev.cT rfl Ev.some
  |true=>
   obtain⟨o,ho,hd⟩:=ih;refine⟨o,Ev.succ ?_,by rw [drop_cons hi,N5,hc,C1];exact hd⟩;simp only [iR,V0,aP hi,W0,nn,A0,fC hi,S1,hb,hc,bW hi (show l.length<=1099511627776 by omega)];exact Ev.cF rfl ho
 obtain⟨o,ho,h⟩:=key;rw [P1]at h;unfold lI xO;rcases h with⟨⟨u,rfl⟩,h⟩|⟨i,h0,rfl,h⟩
 · rw [h];exact Ev.bind (Ev.bind ho Ev.some) Ev.some
 · rw [h];exact Ev.bind (Ev.bind ho Ev.some) (Ev.some' (by simp [h0]))
theorem apj (l:List Int) (hn:l.length<=1000):Ev (fun k=>nK k l 0) (if l.all rng=true then .inl ()else .inr 3):=by
 have key:=eO (len:=l.length) (p:=fun i=>Ev (fun k=>nK k l (i:Int)) (if(l.drop i).all rng=true then .inl ()else .inr 3)) (Ev.succ (by
  simp only [nK];exact Ev.cF (eD _) (Ev.some' (by simp)))) fun i hi ih=>by
  refine Ev.succ ?_;simp only [nK,V0,aP hi,W0,nn,A0,fC hi,S1,NA,bW hi (show l.length<=1099511627776 by omega)];rw [drop_cons hi,N5];have hr:(decide (-10000<=l[i])&&decide (l[i]<=10000))=rng l[i]:=rfl;rw [hr];cases rng l[i]with
  |true=>exact Ev.cT rfl (ih.to (by rw [C1]))
  |false=>exact Ev.cF rfl (Ev.some' (by simp))
 have:=key
 rwa [P1]at this
theorem amw {l:List (List Nd)} (hf: ∀x∈l,yE x=true) (hn:l.length<=1000):(Ev (fun k=>fJ k l (l.length:Int) 0) (.inl ())/\Ev (fun k=>gP k l 0) (.inl ())/\ ∀x∈l,Gd x)\/
 ∃c:Int,c≠0/\Ev (fun k=>fJ k l (l.length:Int) 0) (.inr (false,c))/\Ev (fun k=>gP k l 0) (.inr c):=by
 have key:=eO (len:=l.length) (p:=fun i=>(Ev (fun k=>fJ k l (l.length:Int) (i:Int)) (.inl ())/\Ev (fun k=>gP k l (i:Int)) (.inl ())/\ ∀x∈l.drop i,Gd x)\/
  ∃c:Int,c≠0/\Ev (fun k=>fJ k l (l.length:Int) (i:Int)) (.inr (false,c))/\Ev (fun k=>gP k l (i:Int)) (.inr c)) (.inl ⟨Ev.succ (by
   simp only [fJ];exact Ev.cF (eD _) Ev.some),Ev.succ (by simp only [gP];exact Ev.cF (eD _) Ev.some),by simp⟩) fun i hi ih=>by
  obtain⟨c,e1,e2,e3⟩:=aei (hf _ (L3 hi));have hw:=bW hi (show l.length<=1099511627776 by omega);by_cases h0:c=0
  · have ks: ∀R,Ev (fun k=>fJ k l (l.length:Int) ((i+1:Nat):Int)) R->Ev (fun k=>fJ k l (l.length:Int) (i:Int)) R:=fun R hR=>Ev.succ (by
     simp only [fJ,V0,aP hi,W0,nn,A0,fC hi,S1,hw];exact Ev.bind e1 (Ev.cF (by rw [h0];rfl) hR))
    have qs: ∀R,Ev (fun k=>gP k l ((i+1:Nat):Int)) R->Ev (fun k=>gP k l (i:Int)) R:=fun R hR=>Ev.succ (by
     simp only [gP,V0,aP hi,W0,nn,A0,fC hi,S1,hw];exact Ev.bind e2 (Ev.cF (by rw [h0];rfl) hR))
    rcases ih with⟨i1,i2,i3⟩|⟨c',i0,i1,i2⟩
    · refine .inl ⟨ks _ i1,qs _ i2,fun x hx=> ?_⟩;rw [drop_cons hi]at hx;rcases M1.1 hx with rfl|hx
      · exact e3 h0
      · exact i3 x hx
    · exact .inr ⟨c',i0,ks _ i1,qs _ i2⟩
  · refine .inr ⟨c,h0,Ev.succ ?_,Ev.succ ?_⟩
    · simp only [fJ,V0,aP hi,W0,nn,A0,fC hi,S1,hw];exact Ev.bind e1 (Ev.cT (by rw [S5];exact h0) Ev.some)
    · simp only [gP,V0,aP hi,W0,nn,A0,fC hi,S1,hw];exact Ev.bind e2 (Ev.cT (by rw [S5];exact h0) Ev.some)
 have:=key
 rwa [P1]at this
theorem ae3: ∀{l:List (List Nd)},(∀x∈l,Gd x)-> ∃ts:List Tm,l=ts.map (flat 0)
 |[],_=>⟨[],rfl⟩
 |x::l,h=>by
  obtain⟨t,ht⟩:=(h x (A1 ..)).val.tree;obtain⟨ts,hts⟩:=ae3 fun y hy=>h y (I1 _ hy);exact⟨t::ts,by rw [M3,<-ht,<-hts]⟩
theorem fby {l:List (List Nd)} {ns:List Int} {g:List Nd} (hf: ∀x∈l,yE x=true) (hfg:yE g=true) (hl:l.length<=14) (hn:ns.length<=14):
 (∃d:Int,d≠0/\Ev (fun k=>kQ k l ns g) (false,d)/\Ev (fun k=>wI k l ns g) d)\/
 ∃b:Bool,Ev (fun k=>kQ k l ns g) (b,0)/\Ev (fun k=>wI k l ns g) 0/\Ev (fun k=>F9 k l ns g) b/\ ∃ts t,l=ts.map (flat 0)/\g=flat 0 t/\(∀t∈ts,Gd (flat 0 t))/\Gd g/\(b=true->ao5 ts ns t):=by
 by_cases h0:l.length=0
 · refine .inl ⟨1,by decide,?_,?_⟩
   · unfold kQ;simp only [BD,W0];refine Ev.bind (Fy _ (by simp)) (Ev.cT ?_ (Ev.some' ?_))
     · simp [h0,uS]
     · simp [h0,uS]
   · unfold wI;exact Ev.cT (by rw [h0];rfl) Ev.some
 have hq0:((l.length:Int)==0)=false:=O0.2 (by omega);by_cases h12:12<l.length
 · refine .inl ⟨2,by decide,?_,?_⟩
   · unfold kQ;simp only [BD,W0];have e1:decide ((l.length:Int)>0)=true:=g0 (by omega);have e2:decide ((l.length:Int)<=12)=false:=B0 (by omega);refine Ev.bind (Fy _ (by simp)) (Ev.cT ?_ (Ev.some' ?_))
     · rw [e1,e2];rfl
     · rw [e1,e2];rfl
   · unfold wI;exact Ev.cF hq0 (Ev.cT (g0 (by omega)) Ev.some)
 have kS: ∀R,Ev (fun k=>Option.bind (fJ k l (l.length:Int) 0) (fun o=>Sum.elim (fun K9=>(lI k ns).bind fun p25=>(vG ((ns.length:Int)==(l.length:Int)) 6).bind fun p27=>(vG (!p25) 3).bind fun p29=>(Cw k g).bind fun p31=>(BX k [p27,p29,p31]).bind fun p33=>cond (p33 !=0) (some (false,p33)) ((uM k l ns g).bind fun p36=>some (p36,0))) (fun p37=>some (p37.1,p37.2)) o)) R->Ev (fun k=>kQ k l ns g) R:=by
  intro R hR;unfold kQ;simp only [BD ((decide ((l.length:Int)>0))),BD (decide ((l.length:Int)<=12)),W0];have e1:decide ((l.length:Int)>0)=true:=g0 (by omega);have e2:decide ((l.length:Int)<=12)=true:=g0 (by omega);refine Ev.bind (Fy _ (by simp)) (Ev.cF ?_ hR);rw [e1,e2];rfl
 have qS: ∀R,Ev (fun k=>Option.bind (gP k l 0) (fun o=>Sum.elim (fun rT=>cond ((ns.length:Int) !=(l.length:Int)) (some 6) (Option.bind (nK k ns 0) (fun o=>Sum.elim (fun p29=>(yL k g).bind fun p35=>some p35) (fun p36=>some p36) o))) (fun p41=>some p41) o)) R->Ev (fun k=>wI k l ns g) R:=by
  intro R hR;unfold wI;exact Ev.cF hq0 (Ev.cF (B0 (by omega)) hR)
 rcases amw hf (by omega)with⟨i1,i2,i3⟩|⟨c,i0,i1,i2⟩
 case inr=>exact .inl ⟨c,i0,kS _ (Ev.bind i1 Ev.some),qS _ (Ev.bind i2 Ev.some)⟩
 obtain⟨c,e1,e2,e3⟩:=aei hfg;have kT: ∀R,Ev (fun k=>cond (uS [if((ns.length:Int)==(l.length:Int))=true then 0 else 6,if ns.all rng=true then 0 else 3,c] !=0) (some (false,uS [if((ns.length:Int)==(l.length:Int))=true then 0 else 6,if ns.all rng=true then 0 else 3,c])) ((uM k l ns g).bind fun p36=>some (p36,0))) R->Ev (fun k=>kQ k l ns g) R:=by
  intro R hR;refine kS _ (Ev.bind i1 (Ev.bind (amv ns (by omega)) ?_));simp only [BD,W0,Bool.not_not];exact Ev.bind e1 (Ev.bind (Fy _ (by simp)) hR)
 by_cases hs:ns.length=l.length
 case neg=>
  have b1:((ns.length:Int)==(l.length:Int))=false:=O0.2 (by omega);refine .inl ⟨6,by decide,kT _ (Ev.cT ?_ (Ev.some' ?_)),qS _ (Ev.bind i2 (Ev.cT (by rw [S5];omega) Ev.some))⟩
  · simp [b1,uS]
  · simp [b1,uS]
 have b1:((ns.length:Int)==(l.length:Int))=true:=by rw [E3];omega
 have b2:((ns.length:Int) !=(l.length:Int))=false:=by rw [bne,b1];rfl
 have qr:=apj ns (by omega);cases ha:ns.all rng with
 |false=>
  rw [ha]at qr kT;exact .inl ⟨3,by decide,kT _ (Ev.cT (by simp [b1,uS]) (Ev.some' (by simp [b1,uS]))),qS _ (Ev.bind i2 (Ev.cF b2 (Ev.bind qr Ev.some)))⟩
 |true=>
  rw [ha]at qr kT;by_cases hc:c=0
  case neg=>exact .inl ⟨c,hc,kT _ (Ev.cT (by simp [b1,uS,hc]) (Ev.some' (by simp [b1,uS,hc]))),qS _ (Ev.bind i2 (Ev.cF b2 (Ev.bind qr (Ev.bind e2 Ev.some))))⟩
  have gg:=e3 hc;obtain⟨ts,rfl⟩:=ae3 i3;obtain⟨t,rfl⟩:=gg.val.tree;have i4: ∀t∈ts,Gd (flat 0 t):=fun t ht=>i3 _ (List.mem_map_of_mem ht);rw [J1]at hs hl;obtain⟨b,f1,f2,f3⟩:=aeW i4 hl hs gg;exact .inr ⟨b,kT _ (Ev.cF (by rw [b1,hc];rfl) (Ev.bind f1 Ev.some)),qS _ (Ev.bind i2 (Ev.cF b2 (Ev.bind qr (Ev.bind e2 (Ev.some' hc))))),f2,ts,t,rfl,rfl,i4,gg,f3⟩
end Go.VL
end
