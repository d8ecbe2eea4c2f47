/- KernelSequents -/
import Derived.Test.YtpkbfdgohkakaaaGreatDoorKa11
import Derived.KernelRfl
set_option linter.unusedVariables false
set_option linter.unusedSectionVars false
set_option linter.unusedSimpArgs false
section
set_option maxRecDepth 8000
set_option maxHeartbeats 4000000
namespace Go.VL
open Go.Proofs
def Hl (bg:Int):Option Bool:=
 some (bg !=0)
theorem XT {bg:Int} {r:Bool} (h:Hl bg=some r):aD Tryz.prog 204 [(.int .i64 bg)] (.bool r):=by
 refine aD.aO (aX.mem (.cons (.int _ _) .nil)) (aF av7 (by simp) (aC ?_)) (.bool _);unfold Hl at h;unfold amZ;cases h;refine ah ?_;exact(.pure _ (.bool _))
def mD:Nat->(List Int)->Int->Int->Option (Unit⊕Int)
 |0,_,_,_=>none
 |k+1,s_0,dX,dB=>
  cond (decide (dB<dX)) (if 0<=dB then (s_0[dB.toNat]?).bind fun x3=>(Hl x3).bind fun p6=>cond p6 (some (.inr (dB))) (mD k s_0 dX (IntKind.wrap .i64 (dB+1)))else none) (some (.inl ()))
def tu:List Nat:=[4,5]++List.range' 8 11
theorem JJ: ∀(k:Nat) (s_0:List Int) (dX:Int) (dB:Int) (aB σ:Nat->PV) (H:AH) (f0:Fr tu aB σ) (sl:σ 0=(.ak (s_0.map aS) .unk)/\σ 1=(.fn (.func 204) [] [])/\σ 7=(.int .i64 dX)/\σ 8=(.int .i64 dB)) (o:Unit⊕Int) (h:mD k s_0 dX dB=some o) (Q:Post) (q0: ∀(p:Unit) (σ':Nat->PV),o= .inl p->Fr tu aB σ'->Q (.exit 0) σ' H) (q1: ∀(p:Int) (σ':Nat->PV),o= .inr (p)->Fr tu aB σ'->(σ' 4=(.int .i64 p))->Q .ret σ' H),W Tryz.prog (.loop F5) Q σ H:=by
 intro k
 induction k with
 |zero=>intro s_0 dX dB aB σ H f0 sl o h Q q0 q1;simp only [mD,reduceCtorEq]at h
 |succ k ih=>
  intro s_0 dX dB aB σ H f0 sl o h Q q0 q1;obtain⟨s0,s1,s7,s8⟩:=sl;unfold mD at h;refine aW (fun K hK=>aC ?_);unfold F5;obtain⟨e1,h⟩|⟨e1,h⟩:=aA h
  ·obtain⟨e2,h⟩:=aU h;obtain⟨x3,e4,h⟩:=aj h;obtain⟨p6,e5,h⟩:=aj h;refine ah ?_;refine av (XT e5) ?_;obtain⟨e7,h⟩|⟨e7,h⟩:=aA h
   ·cases h;refine ah ?_;exact q1 _ _ rfl aI au
   ·refine ah ?_;refine hK _ _ ?_;exact ih s_0 dX (IntKind.wrap .i64 (dB+1)) _ _ _ aI au _ h _ q0 q1
  ·cases h;refine ah ?_;exact q0 _ _ rfl aI
def yI (k:Nat) (s_0:List Int):Option Int:=
 Option.bind (mD k s_0 (s_0.length:Int) 0) (fun o=>Sum.elim (fun iM=>some (-1)) (fun iQ=>some iQ) o)
theorem MJ {k:Nat} {s_0:List Int} {c0:Ck} {r:Int} (h:yI k s_0=some r):aD Tryz.prog 102 [(.ak (s_0.map aS) c0),(.fn (.func 204) [] [])] (.int .i64 r):=by
 refine aD.lw (.ak (.same .nil)) (aD.aO (aX.mem (.cons (aT dF _) (.cons (.fn _ _ _ (aX.mem .nil) (aX.mem .nil)) .nil))) (aF amd (by simp) (aC ?_)) (.int _ _));unfold yI at h;unfold aga;refine ah ?_;obtain⟨o8,h9,h⟩:=aj h;refine JJ k s_0 (s_0.length:Int) 0 _ _ _ (Fr.refl _ _) au _ h9 _ ?_ ?_
 ·rintro iM σ' eo CP;subst eo;rw [bI]at h;cases h;refine ah ?_;exact(.pure _ (.int _ _))
 ·rintro iQ σ' eo sI iX;subst eo;rw [bL]at h;cases h;refine ah ?_;exact(.pure _ (.int _ _))
def uN (k:Nat) (s_0:List Int):Option Bool:=
 (yI k s_0).bind fun p2=>some (decide (p2>=0))
theorem JK {k:Nat} {s_0:List Int} {c0:Ck} {r:Bool} (h:uN k s_0=some r):aD Tryz.prog 76 [(.ak (s_0.map aS) c0),(.fn (.func 204) [] [])] (.bool r):=by
 refine aD.lw (.ak (.same .nil)) (aD.aO (aX.mem (.cons (aT dF _) (.cons (.fn _ _ _ (aX.mem .nil) (aX.mem .nil)) .nil))) (aF arN (by simp) (aC ?_)) (.bool _));unfold uN at h;unfold akF;obtain⟨p2,e1,h⟩:=aj h;refine ah ?_;refine av (MJ e1) ?_;cases h;refine ah ?_;exact(.pure _ (.bool _))
def yw (k:Nat) (OE:Fo):Option Bool:=
 cond OE.bad (some false) ((uN k OE.cs).bind fun p3=>some (!p3))
theorem Ct {k:Nat} {OE:Fo} {r:Bool} (h:yw k OE=some r):aD Tryz.prog 147 [(.agg (Fo.cells OE))] (.bool r):=by
 refine aD.aO (aX.mem (.cons (.agg _ (Fo.pu _)) .nil)) (aF avJ (by simp) (aC ?_)) (.bool _);unfold yw at h;unfold amA;obtain⟨e1,h⟩|⟨e1,h⟩:=aA h
 ·cases h;refine ah ?_;exact(.pure _ (.bool _))
 ·obtain⟨p3,e2,h⟩:=aj h;refine ah ?_;refine av (JK e2) ?_;cases h;refine ah ?_;exact(.pure _ (.bool _))
def Pb (k:Nat) (OE:Fo):Option Bool:=
 (yw k OE).bind fun p2=>cond p2 (some (decide (OE.num<0))) (some false)
theorem Y4 {k:Nat} {OE:Fo} {r:Bool} (h:Pb k OE=some r):aD Tryz.prog 146 [(.agg (Fo.cells OE))] (.bool r):=by
 refine aD.aO (aX.mem (.cons (.agg _ (Fo.pu _)) .nil)) (aF avI (by simp) (aC ?_)) (.bool _);unfold Pb at h;unfold amy;obtain⟨p2,e1,h⟩:=aj h;refine ah ?_;refine av (Ct e1) ?_;obtain⟨e3,h⟩|⟨e3,h⟩:=aA h
 ·cases h;refine ah ?_;exact(.pure _ (.bool _))
 ·cases h;refine ah ?_;exact(.pure _ (.bool _))
def Ec:Nat->(List Nd)->Int->Option Int
 |0,_,_=>none
 |k+1,aG,bZ=>
  if 0<=bZ then (aG[bZ.toNat]?).bind fun x2=>cond (decide ((x2.args.length:Int)>0)) ((x2.args[0]?).bind fun x5=>Ec k aG x5) (some (bZ))else none
def Vr:List Nat:=[5]++List.range' 13 14
theorem aey: ∀(k:Nat) (aG:List Nd) (bZ:Int) (aB σ:Nat->PV) (H:AH) (f0:Fr Vr aB σ) (sl:σ 0=(.ak (aG.map Nd.cells) .unk)/\σ 5=(.int .i64 bZ)) (o:Int) (h:Ec k aG bZ=some o) (Q:Post) (q0: ∀(p:Int) (σ':Nat->PV),o=p->Fr Vr aB σ'->(σ' 5=(.int .i64 p))->Q (.exit 0) σ' H),W Tryz.prog (.loop QG) Q σ H:=by
 intro k
 induction k with
 |zero=>intro aG bZ aB σ H f0 sl o h Q q0;simp only [Ec,reduceCtorEq]at h
 |succ k ih=>
  intro aG bZ aB σ H f0 sl o h Q q0;obtain⟨s0,s5⟩:=sl;unfold Ec at h;refine aW (fun K hK=>aC ?_);unfold QG;obtain⟨e1,h⟩:=aU h;obtain⟨x2,e3,h⟩:=aj h;obtain⟨e4,h⟩|⟨e4,h⟩:=aA h
  ·obtain⟨x5,e6,h⟩:=aj h;refine ah ?_;refine hK _ _ ?_;exact ih aG x5 _ _ _ aI au _ h _ q0
  ·cases h;refine ah ?_;exact q0 _ _ rfl aI au
def Ed:Nat->Int->(List Int)->(List Int)->Int->Int->Option (List Int)
 |0,_,_,_,_,_=>none
 |k+1,bZ,y9,Cu,Bv,JL=>
  cond (decide (JL<Bv)) (if 0<=JL then (Cu[JL.toNat]?).bind fun x23=>if(y9.length+1)*8<=1099511627776 then Ed k bZ (y9++[(IntKind.wrap .i64 (x23 -bZ))]) Cu Bv (IntKind.wrap .i64 (JL+1))else none else none) (some (y9))
def Vt:List Nat:=[9,11]++List.range' 40 11
theorem aez: ∀(k:Nat) (bZ:Int) (y9:List Int) (Cu:List Int) (Bv:Int) (JL:Int) (rW:Ck) (lu:Ck) (aB σ:Nat->PV) (H0 H:AH) (f0:Fr Vt aB σ) (hf0:HF [] H0 H) (sl:σ 5=(.int .i64 bZ)/\σ 9=(.ak (y9.map aS) rW)/\σ 38=(.ak (Cu.map aS) .unk)/\σ 39=(.int .i64 Bv)/\σ 40=(.int .i64 JL)) (Y5:bq H rW) (Ce:bq H lu) (rX:kr rW lu) (o:List Int) (h:Ed k bZ y9 Cu Bv JL=some o) (Q:Post) (q0: ∀(p:List Int) (c0:Ck) (σ':Nat->PV) (H':AH),o=p->Fr Vt aB σ'->HF [] H0 H'->(σ' 9=(.ak (p.map aS) c0))->bq H' lu->Q (.exit 4) σ' H'),W Tryz.prog (.loop QH) Q σ H:=by
 intro k
 induction k with
 |zero=>intro bZ y9 Cu Bv JL rW lu aB σ H0 H f0 hf0 sl Y5 Ce rX o h Q q0;simp only [Ed,reduceCtorEq]at h
 |succ k ih=>
  intro bZ y9 Cu Bv JL rW lu aB σ H0 H f0 hf0 sl Y5 Ce rX o h Q q0;obtain⟨s5,s9,s38,s39,s40⟩:=sl;have hle0:=hf0.1;unfold Ed at h;refine aW (fun K hK=>aC ?_);unfold QH;obtain⟨e21,h⟩|⟨e21,h⟩:=aA h
  ·obtain⟨e22,h⟩:=aU h;obtain⟨x23,e24,h⟩:=aj h;obtain⟨e29,h⟩:=aU h;refine ah ?_;refine gq (f:=aS) uZ y9 ([(IntKind.wrap .i64 (x23 -bZ))]:List Int) rW .exact au au eZ (by first|exact e29|(simp only [List.length_cons,List.length_nil];exact e29)) (fun c25 H26 akE le aBj aBk=> ?_);have aBl:HF [] _ H26:=⟨le,fun i _ _=>aBj i⟩;try simp only [AH.aK,AH.aL,AH.aM,AH.aN]at le
   obtain⟨aGn,aBm⟩:=aBk lu eZ rX;refine ah ?_;refine hK _ _ ?_;exact ih bZ (y9++[(IntKind.wrap .i64 (x23 -bZ))]) Cu Bv (IntKind.wrap .i64 (JL+1)) c25 lu _ _ _ _ aI (by repeat (first|exact hf0|refine HF.new ?_|refine HF.qJ ?_|refine HF.used ?_|refine HF.put (by first|(right;omega)|(left;simp only [List.mem_cons,true_or,or_true])) ?_|refine HF.via aBl (by first|exact fun i hi=>absurd hi List.not_mem_nil|(intro i hi;simp only [List.mem_cons,List.not_mem_nil,or_false]at hi⊢;first|exact .inl hi|omega)) ?_)) au eZ eZ aBm _ h _ q0
  ·cases h;refine ah ?_;exact q0 _ rW _ _ rfl aI nZ au eZ
def Ee:Nat->Int->(List Nd)->(List Nd)->Int->Int->Option (List Nd)
 |0,_,_,_,_,_=>none
 |k+1,bZ,mg,LP,LQ,Ho=>
  cond (decide (Ho<LQ)) (if 0<=Ho then (LP[Ho.toNat]?).bind fun rY=>Option.bind (Ed k bZ ([]:List Int) rY.args (rY.args.length:Int) 0) (fun p36=>if rY.names.length<=1000000 then if(mg.length+1)*80<=1099511627776 then Ee k bZ (mg++[(Nd.mk rY.kind rY.n rY.text (rY.names) p36)]) LP LQ (IntKind.wrap .i64 (Ho+1))else none else none)else none) (some (mg))
def Vu:List Nat:=[6,8,9,11]++List.range' 33 29
theorem aeA: ∀(k:Nat) (bZ:Int) (mg:List Nd) (LP:List Nd) (LQ:Int) (Ho:Int) (rM:Ck) (aB σ:Nat->PV) (H0 H:AH) (f0:Fr Vu aB σ) (hf0:HF [] H0 H) (sl:σ 5=(.int .i64 bZ)/\σ 6=(.ak (mg.map Nd.cells) rM)/\σ 31=(.ak (LP.map Nd.cells) .unk)/\σ 32=(.int .i64 LQ)/\σ 33=(.int .i64 Ho)) (G5:bq H rM) (o:List Nd) (h:Ee k bZ mg LP LQ Ho=some o) (Q:Post) (q0: ∀(p:List Nd) (c0:Ck) (σ':Nat->PV) (H':AH),o=p->Fr Vu aB σ'->HF [] H0 H'->(σ' 6=(.ak (p.map Nd.cells) c0))->Q (.exit 2) σ' H'),W Tryz.prog (.loop QI) Q σ H:=by
 intro k
 induction k with
 |zero=>intro bZ mg LP LQ Ho rM aB σ H0 H f0 hf0 sl G5 o h Q q0;simp only [Ee,reduceCtorEq]at h
 |succ k ih=>
  intro bZ mg LP LQ Ho rM aB σ H0 H f0 hf0 sl G5 o h Q q0;obtain⟨s5,s6,s31,s32,s33⟩:=sl;have hle0:=hf0.1;unfold Ee at h;refine aW (fun K hK=>aC ?_);unfold QI;obtain⟨e17,h⟩|⟨e17,h⟩:=aA h
  ·obtain⟨e18,h⟩:=aU h;obtain⟨rY,e20,h⟩:=aj h;refine ah ?_;obtain⟨o34,h35,h⟩:=aj h;refine aez k bZ ([]:List Int) rY.args (rY.args.length:Int) 0 .nil rM _ _ _ _ (Fr.refl _ _) (HF.refl _ _) au eZ eZ kr.nil _ h35 _ ?_
   ·rintro p36 c40 σ' H39 eo Eu alT s41 aGo;rw [eo]at h;have s43:σ' 5=(.int .i64 bZ):=(Eu 5 (by decide)).trans au;have s44:σ' 6=(.ak (mg.map Nd.cells) rM):=(Eu 6 (by decide)).trans au;have s45:σ' 8=(.ref (H.next) 0):=(Eu 8 (by decide)).trans au;have s46:σ' 31=(.ak (LP.map Nd.cells) .unk):=(Eu 31 (by decide)).trans au;have s47:σ' 32=(.int .i64 LQ):=(Eu 32 (by decide)).trans au;have s48:σ' 33=(.int .i64 Ho):=(Eu 33 (by decide)).trans au;have le:=alT.1;try simp only [AH.aK,AH.aL,AH.aM,AH.aN]at le
    have g49:H39.obj (H.next)=some [(.int .i64 rY.kind),(.int .i64 rY.n),(.str rY.text),(.ak (rY.names.map aH) .unk),(.ak (rY.args.map aS) .unk)]:=(alT.2 _ bP (by first|exact List.not_mem_nil|(simp only [List.mem_cons,List.not_mem_nil,or_false,not_or];omega))).trans au;have n50:=ne_next (show H.next<H39.next from bP);have m51:=aZ (show H.next<H39.next from bP);obtain⟨e52,h⟩:=aU h;refine ah ?_;refine av (Nb rY.names (by assumption)) ?_;obtain⟨e57,h⟩:=aU h;refine ah ?_;refine gq (f:=Nd.cells) Nd.row mg ([(Nd.mk rY.kind rY.n rY.text (rY.names) p36)]:List Nd) rM .exact au au eZ (by first|exact e57|(simp only [List.length_cons,List.length_nil];exact e57)) (fun c53 H54 atl le aBn aGp=> ?_);have aBo:HF [] _ H54:=⟨le,fun i _ _=>aBn i⟩;try simp only [AH.aK,AH.aL,AH.aM,AH.aN]at le
    have n60:=ne_next (show H.next<H54.next from bP);have m61:=aZ (show H.next<H54.next from bP);refine ah ?_;refine hK _ _ ?_;exact ih bZ (mg++[(Nd.mk rY.kind rY.n rY.text (rY.names) p36)]) LP LQ (IntKind.wrap .i64 (Ho+1)) c53 _ _ _ _ (by repeat (first|exact f0|refine Fr.upd (by decide) ?_|refine Fr.via Eu (by decide) ?_)) (by repeat (first|exact hf0|refine HF.new ?_|refine HF.qJ ?_|refine HF.used ?_|refine HF.put (by first|(right;omega)|(left;simp only [List.mem_cons,true_or,or_true])) ?_|refine HF.via alT (by first|exact fun i hi=>absurd hi List.not_mem_nil|(intro i hi;simp only [List.mem_cons,List.not_mem_nil,or_false]at hi⊢;first|exact .inl hi|omega)) ?_|refine HF.via aBo (by first|exact fun i hi=>absurd hi List.not_mem_nil|(intro i hi;simp only [List.mem_cons,List.not_mem_nil,or_false]at hi⊢;first|exact .inl hi|omega)) ?_)) au eZ _ h _ q0
  ·cases h;refine ah ?_;exact q0 _ rM _ _ rfl aI nZ au
def Hq (k:Nat) (aG:List Nd) (dD:Int):Option (List Nd):=
 Option.bind (Ec k aG dD) (fun p9=>if 0<=p9/\p9<=(IntKind.wrap .i64 (dD+1))/\(IntKind.wrap .i64 (dD+1)).toNat<=aG.length then Option.bind (Ee k p9 ([]:List Nd) ((aG.take (IntKind.wrap .i64 (dD+1)).toNat).drop p9.toNat) (((aG.take (IntKind.wrap .i64 (dD+1)).toNat).drop p9.toNat).length:Int) 0) (fun p64=>some p64)else none)
theorem Hr {k:Nat} {aG:List Nd} {dD:Int} {c0:Ck} {r:List Nd} (h:Hq k aG dD=some r):aD Tryz.prog 122 [(.ak (aG.map Nd.cells) c0),(.int .i64 dD)] (.ak (r.map Nd.cells) .unk):=by
 refine aD.lw (.ak (.same .nil)) (aD.aO (aX.mem (.cons (aT Nd.pu _) (.cons (.int _ _) .nil))) (aF avx (by simp) (aC ?_)) (aT Nd.pu _));unfold Hq at h;unfold amm;refine ah ?_;obtain⟨o7,h8,h⟩:=aj h;refine aey k aG dD _ _ _ (Fr.refl _ _) au _ h8 _ ?_
 ·rintro p9 σ' eo Nu s13;rw [eo]at h;have J8:σ' 0=(.ak (aG.map Nd.cells) .unk):=(Nu 0 (by decide)).trans au;have s15:σ' 1=(.int .i64 dD):=(Nu 1 (by decide)).trans au;obtain⟨e16,h⟩:=aU h;refine ah ?_;obtain⟨o62,h63,h⟩:=aj h;refine aeA k p9 ([]:List Nd) ((aG.take (IntKind.wrap .i64 (dD+1)).toNat).drop p9.toNat) (((aG.take (IntKind.wrap .i64 (dD+1)).toNat).drop p9.toNat).length:Int) 0 .nil _ _ _ _ (Fr.refl _ _) (HF.refl _ _) au eZ _ h63 _ ?_
  ·rintro p64 c68 σ' H67 eo aGq aBp s69;rw [eo]at h;have le:=aBp.1;try simp only [AH.aK,AH.aL,AH.aM,AH.aN]at le
   cases h;refine ah ?_;exact(dS Nd.pu _ _)
def ady (aG:List Nd):Option Nd:=
 if 0<=(IntKind.wrap .i64 ((aG.length:Int) -1))then (aG[(IntKind.wrap .i64 ((aG.length:Int) -1)).toNat]?).bind fun x2=>some x2 else none
theorem adz {aG:List Nd} {c0:Ck} {r:Nd} (h:ady aG=some r):aD Tryz.prog 56 [(.ak (aG.map Nd.cells) c0)] (.agg (Nd.cells r)):=by
 refine aD.lw (.ak .nil) (aD.aO (aX.mem (.cons (aT Nd.pu _) .nil)) (aF azh (by simp) (aC ?_)) (.agg _ (Nd.pu _)));unfold ady at h;unfold arG;obtain⟨e1,h⟩:=aU h;obtain⟨x2,e3,h⟩:=aj h;cases h;refine ah ?_;exact(bQ (aQ (aQ (.cons (.pure _ (.str _)) (.cons (dS bE _ _) (.cons (dS dF _ _) .nil))))))
def Tx (aG:List Nd) (Vv:Str):Option Bool:=
 (ady aG).bind fun p2=>cond (p2.kind==2) (some (p2.text==Vv)) (some false)
theorem ahy {aG:List Nd} {Vv:Str} {c0:Ck} {r:Bool} (h:Tx aG Vv=some r):aD Tryz.prog 145 [(.ak (aG.map Nd.cells) c0),(.str Vv)] (.bool r):=by
 refine aD.lw (.ak (.same .nil)) (aD.aO (aX.mem (.cons (aT Nd.pu _) (.cons (.str _) .nil))) (aF avH (by simp) (aC ?_)) (.bool _));unfold Tx at h;unfold amx;obtain⟨p2,e1,h⟩:=aj h;refine ah ?_;refine av (adz e1) ?_;obtain⟨e3,h⟩|⟨e3,h⟩:=aA h
 ·refine ah ?_;refine av (adz e1) ?_;cases h;refine ah ?_;exact(.pure _ (.bool _))
 ·cases h;refine ah ?_;exact(.pure _ (.bool _))
def JM (Fh:Int) (Fj:Int) (Cv:Str) (Fp:List Str) (Fq:List Int) (adA:Bool):Option Bool:=
 cond adA (some ((Cv==([45,46]:Str)))) (some (false))
theorem ZI: ∀(Fu:Nat) (Fh:Int) (Fj:Int) (Cv:Str) (Fp:List Str) (Fq:List Int) (adA:Bool) (aB σ:Nat->PV) (H:AH) (f0:Fr [22,23,24,25] aB σ) (sl:σ 3=(.ref (Fu) 0)/\σ 21=(.bool adA)/\H.obj Fu=some [(.int .i64 Fh),(.int .i64 Fj),(.str Cv),(.ak (Fp.map aH) .unk),(.ak (Fq.map aS) .unk)]) (Di:Fu<H.next) (o:Bool) (h:JM Fh Fj Cv Fp Fq adA=some o) (Q:Post) (q0: ∀(p:Bool) (σ':Nat->PV),o=p->Fr [22,23,24,25] aB σ'->(σ' 25=(.bool p))->Q .normal σ' H),dH Tryz.prog RJ (Q .normal) σ H:=by
 intro Fu Fh Fj Cv Fp Fq adA aB σ H f0 sl Di o h Q q0;obtain⟨s3,s21,aqo⟩:=sl;have aqp:=ne_next Di;have aqr:=aZ Di;unfold JM at h;refine fu ?_;unfold RJ;obtain⟨e5,h⟩|⟨e5,h⟩:=aA h
 ·cases h;refine ah ?_;exact q0 _ _ rfl aI au
 ·cases h;refine ah ?_;exact q0 _ _ rfl aI au
def JN (k:Nat) (Fh:Int) (Fj:Int) (Cv:Str) (Fp:List Str) (Fq:List Int) (Cu:Bool):Option Bool:=
 cond Cu ((bV k [([43]:Str),([45]:Str),([42]:Str)] Cv).bind fun p27=>some (p27)) (some (false))
def OG:List Nat:=[39,40,41,42,43]
theorem ZJ (k:Nat): ∀(Fu:Nat) (Fh:Int) (Fj:Int) (Cv:Str) (Fp:List Str) (Fq:List Int) (Cu:Bool) (aB σ:Nat->PV) (H:AH) (f0:Fr OG aB σ) (sl:σ 3=(.ref (Fu) 0)/\σ 38=(.bool Cu)/\H.obj Fu=some [(.int .i64 Fh),(.int .i64 Fj),(.str Cv),(.ak (Fp.map aH) .unk),(.ak (Fq.map aS) .unk)]) (Di:Fu<H.next) (o:Bool) (h:JN k Fh Fj Cv Fp Fq Cu=some o) (Q:Post) (q0: ∀(p:Bool) (σ':Nat->PV),o=p->Fr OG aB σ'->(σ' 43=(.bool p))->Q .normal σ' H),dH Tryz.prog RL (Q .normal) σ H:=by
 intro Fu Fh Fj Cv Fp Fq Cu aB σ H f0 sl Di o h Q q0;obtain⟨s3,s38,aqo⟩:=sl;have aqp:=ne_next Di;have aqr:=aZ Di;unfold JN at h;refine fu ?_;unfold RL;obtain⟨e25,h⟩|⟨e25,h⟩:=aA h
 ·obtain⟨p27,e26,h⟩:=aj h;refine ah ?_;refine av (gT e26) ?_;cases h;refine ah ?_;exact q0 _ _ rfl aI au
 ·cases h;refine ah ?_;exact q0 _ _ rfl aI au
def JO (Vw:List (List Nd)) (Vx:List Int) (Z6:Int) (Vy:Bool) (adB:Bool):Option Bool:=
 cond adB (some (true)) (some (Vy))
theorem ZK: ∀(Z7:Nat) (Vw:List (List Nd)) (Vx:List Int) (Z6:Int) (Vy:Bool) (adB:Bool) (aB σ:Nat->PV) (H:AH) (f0:Fr [76,77,78] aB σ) (sl:σ 5=(.ref (Z7) 0)/\σ 75=(.bool adB)/\H.obj Z7=some [(.ak (Vw.map (eu Nd.cells)) (nz Vw)),(.ak (Vx.map aS) (nz Vx)),(.int .i64 Z6),(.bool Vy)]) (XU:Z7<H.next) (o:Bool) (h:JO Vw Vx Z6 Vy adB=some o) (Q:Post) (q0: ∀(p:Bool) (σ':Nat->PV),o=p->Fr [76,77,78] aB σ'->(σ' 78=(.bool p))->Q .normal σ' H),dH Tryz.prog RN (Q .normal) σ H:=by
 intro Z7 Vw Vx Z6 Vy adB aB σ H f0 sl XU o h Q q0;obtain⟨s5,s75,aBJ⟩:=sl;have aBK:=ne_next XU;have aBL:=aZ XU;unfold JO at h;refine fu ?_;unfold RN;obtain⟨Ui,h⟩|⟨Ui,h⟩:=aA h
 ·cases h;refine ah ?_;exact q0 _ _ rfl aI au
 ·cases h;refine ah ?_;exact q0 _ _ rfl aI au
mutual
def uO:Nat->(List Nd)->Option Fo
 |0,_=>none
 |k+1,aG=>
  if 0<=(IntKind.wrap .i64 ((aG.length:Int) -1))then (aG[(IntKind.wrap .i64 ((aG.length:Int) -1)).toNat]?).bind fun x2=>cond (x2.kind==0) (some (Fo.mk [] [] x2.n false)) (Option.bind (JM x2.kind x2.n x2.text x2.names x2.args (x2.kind==3)) (fun p8=>cond p8 ((x2.args[0]?).bind fun Gs=>(Hq k aG Gs).bind fun Ka=>(uO k Ka).bind fun Gf=>(mq k (Fo.mk [] [] 0 false) Gf (-1)).bind fun yN=>some yN) (Option.bind (JN k x2.kind x2.n x2.text x2.names x2.args (x2.kind==3)) (fun p30=>cond p30 ((x2.args[0]?).bind fun x39=>(Hq k aG x39).bind fun p42=>(uO k p42).bind fun p44=>(x2.args[1]?).bind fun x45=>(Hq k aG x45).bind fun p48=>(uO k p48).bind fun p50=>cond (x2.text==([43]:Str)) ((mq k p44 p50 1).bind fun p84=>some p84) (cond (x2.text==([45]:Str)) ((mq k p44 p50 (-1)).bind fun PK=>some PK) (cond (x2.text==([42]:Str)) (Option.bind (JO p50.us p50.cs p50.num p50.bad p44.bad) (fun p92=>cond p92 (some (Fo.mk [] [] 0 true)) ((yw k p44).bind fun auT=>cond auT ((mq k (Fo.mk [] [] 0 false) p50 p44.num).bind fun ab3=>some ab3) ((yw k p50).bind fun auU=>cond auU ((mq k (Fo.mk [] [] 0 false) p44 p50.num).bind fun auV=>some auV) (some (Fo.mk [aG] [1] 0 false)))))) (some (Fo.mk [aG] [1] 0 false))))) (some (Fo.mk [aG] [1] 0 false))))))else none
end
mutual
theorem Fv (k:Nat): ∀(aG:List Nd) (r:Fo) (h:uO k aG=some r),aD Tryz.prog 201 [(.ak (aG.map Nd.cells) .unk)] (.agg (Fo.cells r)):=by
 match k with
 |0=>intro aG r h;rw [uO]at h;cases h
 |k+1=>
  intro aG r h;refine aD.aO (aX.mem (.cons (aT Nd.pu _) .nil)) (aF av5 (by simp) (aC ?_)) (.agg _ (Fo.pu _));rw [uO]at h;unfold amX;obtain⟨e1,h⟩:=aU h;obtain⟨x2,e3,h⟩:=aj h;obtain⟨e4,h⟩|⟨e4,h⟩:=aA h
  ·cases h;refine ah ?_;exact(bQ (.cons kH (.cons kH (aQ (.cons (.pure _ (.bool _)) .nil)))))
  ·refine ah ?_;obtain⟨o6,h7,h⟩:=aj h;refine ZI (AH.empty.next+1) x2.kind x2.n x2.text x2.names x2.args (x2.kind==3) _ _ _ (Fr.refl _ _) au bP _ h7 _ ?_
   ·rintro p8 σ' eo Im s12;rw [eo]at h;have s13:σ' 0=(.ak (aG.map Nd.cells) .unk):=(Im 0 (by decide)).trans au;have J8:σ' 2=(.ref (AH.empty.next) 0):=(Im 2 (by decide)).trans au;have s15:σ' 3=(.ref (AH.empty.next+1) 0):=(Im 3 (by decide)).trans au;obtain⟨e16,h⟩|⟨e16,h⟩:=aA h
    ·obtain⟨Gs,e18,h⟩:=aj h;obtain⟨Ka,e19,h⟩:=aj h;refine ah ?_;refine av (Hr e19) ?_;obtain⟨Gf,e21,h⟩:=aj h;refine ah ?_;refine av ((Fv k Ka _ e21).wk (.ak .nil)) ?_;obtain⟨yN,e23,h⟩:=aj h;refine ah ?_;refine av (jF e23) ?_;cases h;refine ah ?_;exact(bQ (.cons kH (.cons kH (aQ (.cons (.pure _ (.bool _)) .nil)))))
    ·refine ah ?_;obtain⟨o28,h29,h⟩:=aj h;refine ZJ k (AH.empty.next+1) x2.kind x2.n x2.text x2.names x2.args (x2.kind==3) _ _ _ (Fr.refl _ _) au bP _ h29 _ ?_
     ·rintro p30 σ' eo ahi s34;rw [eo]at h;have s35:σ' 0=(.ak (aG.map Nd.cells) .unk):=(ahi 0 (by decide)).trans au;have s36:σ' 2=(.ref (AH.empty.next) 0):=(ahi 2 (by decide)).trans au;have s37:σ' 3=(.ref (AH.empty.next+1) 0):=(ahi 3 (by decide)).trans au;obtain⟨e38,h⟩|⟨e38,h⟩:=aA h
      ·obtain⟨x39,e40,h⟩:=aj h;obtain⟨p42,e41,h⟩:=aj h;obtain⟨p44,e43,h⟩:=aj h;obtain⟨x45,e46,h⟩:=aj h;obtain⟨p48,e47,h⟩:=aj h;obtain⟨p50,e49,h⟩:=aj h;refine ah ?_;refine adt 14 15 [(.ak [] .nil),(.ak [] .nil),(.int .i64 0),(.bool false)] [(.ak (aG.map Nd.cells) .unk),(.ref (AH.empty.next+1) 4),(.ak (x2.args.map aS) .unk),(.bS [(.int .i64 x39)] 0),(.int .i64 x39),(.ak (p42.map Nd.cells) .unk),(.agg (Fo.cells p44)),(.ak (aG.map Nd.cells) .unk),(.ref (AH.empty.next+1) 4),(.ak (x2.args.map aS) .unk),(.bS [(.int .i64 x45)] 0),(.int .i64 x45),(.ak (p48.map Nd.cells) .unk),(.agg (Fo.cells p50)),ud,ud] (by kernel_rfl) (by decide) rfl rfl (fun x y H' hz=> ?_) (fun x70 GD Yz alU aBq auW aBr auX n72 n73 n74 aGr=> ?_)
       · rcases hz with rfl|rfl|rfl<;>exact⟨.inr (.inr ⟨rfl,zY⟩),.inr (.inr ⟨rfl,zY⟩),.inr (.inr ⟨rfl,zY⟩),.inr (.inr ⟨rfl,zY⟩),.inr (.inr ⟨rfl,zY⟩),.inr (.inr ⟨rfl,OC (Hr e41)⟩),.inr (.inr ⟨rfl,OC ((Fv k p42 _ e43).wk (.ak .nil))⟩),.inr (.inr ⟨rfl,zY⟩),.inr (.inr ⟨rfl,zY⟩),.inr (.inr ⟨rfl,zY⟩),.inr (.inr ⟨rfl,zY⟩),.inr (.inr ⟨rfl,zY⟩),.inr (.inr ⟨rfl,OC (Hr e47)⟩),.inr (.inr ⟨rfl,OC ((Fv k p48 _ e49).wk (.ak .nil))⟩),.inl rfl,.inl rfl,trivial⟩
       have le:=alU.1;try simp only [AH.aK,AH.aL,AH.aM,AH.aN]at le aBq aBr
       have n75:(x70=GD)=False:=eq_false n72;have n76:(GD=x70)=False:=eq_false (Ne.symm n72);have n77:=ne_next auW;have n78:=aZ auW;have n79:=ne_next auX;have n80:=aZ auX;have g58:Yz.obj (AH.empty.next)=some [(.ak [] .nil),(.ak [] .nil),(.int .i64 0),(.bool false)]:=(alU.2 _ bP List.not_mem_nil).trans au;have n59:=ne_next (show AH.empty.next<Yz.next from bP);have m60:=aZ (show AH.empty.next<Yz.next from bP);have aEf:(AH.empty.next=x70)=False:=eq_false bP;have aBM:(x70=AH.empty.next)=False:=eq_false bP;have aEg:(AH.empty.next=GD)=False:=eq_false bP;have aBN:(GD=AH.empty.next)=False:=eq_false bP;have g61:Yz.obj (AH.empty.next+1)=some [(.int .i64 x2.kind),(.int .i64 x2.n),(.str x2.text),(.ak (x2.names.map aH) .unk),(.ak (x2.args.map aS) .unk)]:=(alU.2 _ bP List.not_mem_nil).trans au;have n62:=ne_next (show AH.empty.next+1<Yz.next from bP);have m63:=aZ (show AH.empty.next+1<Yz.next from bP);have aEh:(AH.empty.next+1=x70)=False:=eq_false bP;have aBO:(x70=AH.empty.next+1)=False:=eq_false bP;have aEi:(AH.empty.next+1=GD)=False:=eq_false bP;have aBP:(GD=AH.empty.next+1)=False:=eq_false bP;simp only [cO,List.length_cons,List.length_nil,Nat.reduceAdd,FP,Nat.reduceEqDiff,reduceIte,List.getElem?_cons_succ,List.getElem?_cons_zero,Option.getD_some];obtain⟨e82,h⟩|⟨e82,h⟩:=aA h
       ·obtain⟨p84,e83,h⟩:=aj h;refine ah ?_;refine av (jF e83) ?_;cases h;refine ah ?_;exact(bQ (.cons kH (.cons kH (aQ (.cons (.pure _ (.bool _)) .nil)))))
       ·obtain⟨e85,h⟩|⟨e85,h⟩:=aA h
        ·obtain⟨PK,Ug,h⟩:=aj h;refine ah ?_;refine av (jF Ug) ?_;cases h;refine ah ?_;exact(bQ (.cons kH (.cons kH (aQ (.cons (.pure _ (.bool _)) .nil)))))
        ·obtain⟨Uh,h⟩|⟨Uh,h⟩:=aA h
         ·refine ah ?_;obtain⟨o90,h91,h⟩:=aj h;refine ZK (GD) p50.us p50.cs p50.num p50.bad p44.bad _ _ _ (Fr.refl _ _) au bP _ h91 _ ?_
          ·rintro p92 σ' eo ahz s96;rw [eo]at h;have s97:σ' 0=(.ak (aG.map Nd.cells) .unk):=(ahz 0 (by decide)).trans au;have s98:σ' 2=(.ref (AH.empty.next) 0):=(ahz 2 (by decide)).trans au;have s99:σ' 4=(.ref (x70) 0):=(ahz 4 (by decide)).trans au;have ags:σ' 5=(.ref (GD) 0):=(ahz 5 (by decide)).trans au;obtain⟨abo,h⟩|⟨abo,h⟩:=aA h
           ·cases h;refine ah ?_;exact(bQ (.cons kH (.cons kH (aQ (.cons (.pure _ (.bool _)) .nil)))))
           ·obtain⟨auT,abp,h⟩:=aj h;refine ah ?_;refine av (Ct abp) ?_;obtain⟨agJ,h⟩|⟨agJ,h⟩:=aA h
            ·obtain⟨ab3,Np,h⟩:=aj h;refine ah ?_;refine av (jF Np) ?_;cases h;refine ah ?_;exact(bQ (.cons kH (.cons kH (aQ (.cons (.pure _ (.bool _)) .nil)))))
            ·obtain⟨auU,NP,h⟩:=aj h;refine ah ?_;refine av (Ct NP) ?_;obtain⟨e109,h⟩|⟨e109,h⟩:=aA h
             ·obtain⟨auV,abq,h⟩:=aj h;refine ah ?_;refine av (jF abq) ?_;cases h;refine ah ?_;exact(bQ (.cons kH (.cons kH (aQ (.cons (.pure _ (.bool _)) .nil)))))
             ·cases h;refine ah ?_;exact(bQ (.cons kH (.cons kH (aQ (.cons (.pure _ (.bool _)) .nil)))))
         ·cases h;refine ah ?_;exact(bQ (.cons kH (.cons kH (aQ (.cons (.pure _ (.bool _)) .nil)))))
      ·cases h;refine ah ?_;exact(bQ (.cons kH (.cons kH (aQ (.cons (.pure _ (.bool _)) .nil)))))
end
theorem Vz {k:Nat} {aG:List Nd} {c0:Ck} {r:Fo} (h:uO k aG=some r):aD Tryz.prog 201 [(.ak (aG.map Nd.cells) c0)] (.agg (Fo.cells r)):=(Fv k aG r h).wk (.ak .nil)
def yJ (k:Nat) (Z8:Int) (Z9:Int) (VA:Str) (aac:List Str) (aad:List Int) (mY:Bool):Option Bool:=
 cond mY (some (true)) ((bV k [([61]:Str),([60]:Str),([60,61]:Str),([62]:Str),([62,61]:Str)] VA).bind fun p6=>some ((!p6)))
def Ef:List Nat:=[18,19,20,21,22,23]
theorem MK (k:Nat): ∀(aae:Nat) (Z8:Int) (Z9:Int) (VA:Str) (aac:List Str) (aad:List Int) (mY:Bool) (aB σ:Nat->PV) (H:AH) (f0:Fr Ef aB σ) (sl:σ 4=(.ref (aae) 0)/\σ 17=(.bool mY)/\H.obj aae=some [(.int .i64 Z8),(.int .i64 Z9),(.str VA),(.ak (aac.map aH) .unk),(.ak (aad.map aS) .unk)]) (XV:aae<H.next) (o:Bool) (h:yJ k Z8 Z9 VA aac aad mY=some o) (Q:Post) (q0: ∀(p:Bool) (σ':Nat->PV),o=p->Fr Ef aB σ'->(σ' 23=(.bool p))->Q .normal σ' H),dH Tryz.prog Q8 (Q .normal) σ H:=by
 intro aae Z8 Z9 VA aac aad mY aB σ H f0 sl XV o h Q q0;obtain⟨s4,tK,aBQ⟩:=sl;have aBR:=ne_next XV;have aBS:=aZ XV;unfold yJ at h;refine fu ?_;unfold Q8;obtain⟨e4,h⟩|⟨e4,h⟩:=aA h
 ·cases h;refine ah ?_;exact q0 _ _ rfl aI au
 ·obtain⟨p6,e5,h⟩:=aj h;refine ah ?_;refine av (gT e5) ?_;cases h;refine ah ?_;exact q0 _ _ rfl aI au
def yx (k:Nat) (aG:List Nd):Option (Co×Bool):=
 if 0<=(IntKind.wrap .i64 ((aG.length:Int) -1))then (aG[(IntKind.wrap .i64 ((aG.length:Int) -1)).toNat]?).bind fun x2=>Option.bind (yJ k x2.kind x2.n x2.text x2.names x2.args (x2.kind !=3)) (fun p9=>cond p9 (some ((Co.mk (Fo.mk [] [] 0 false) false),false)) ((x2.args[0]?).bind fun x18=>(Hq k aG x18).bind fun qB=>(uO k qB).bind fun yO=>(x2.args[1]?).bind fun x24=>(Hq k aG x24).bind fun p27=>(uO k p27).bind fun p29=>cond (x2.text==([60,61]:Str)) ((mq k p29 yO (-1)).bind fun p63=>some ((Co.mk p63 false),true)) (cond (x2.text==([60]:Str)) ((mq k p29 yO (-1)).bind fun p66=>(mq k p66 (Fo.mk [] [] (-1) false) 1).bind fun p68=>some ((Co.mk p68 false),true)) (cond (x2.text==([62,61]:Str)) ((mq k yO p29 (-1)).bind fun p71=>some ((Co.mk p71 false),true)) (cond (x2.text==([62]:Str)) ((mq k yO p29 (-1)).bind fun p74=>(mq k p74 (Fo.mk [] [] (-1) false) 1).bind fun p76=>some ((Co.mk p76 false),true)) ((mq k yO p29 (-1)).bind fun p78=>some ((Co.mk p78 true),true)))))))else none
theorem Ht {k:Nat} {aG:List Nd} {c0:Ck} {r:Co×Bool} (h:yx k aG=some r):aD Tryz.prog 143 [(.ak (aG.map Nd.cells) c0)] (.cK [(.agg (Co.cells r.1)),(.bool r.2)]):=by
 refine aD.lw (.ak .nil) (aD.aO (aX.mem (.cons (aT Nd.pu _) .nil)) (aF avG (by simp) (aC ?_)) (.cK _ (aX.mem (.cons (.agg _ (Co.pu _)) (.cons (.bool _) .nil)))));unfold yx at h;unfold amw;obtain⟨e1,h⟩:=aU h;obtain⟨x2,e3,h⟩:=aj h;refine ah ?_;obtain⟨o7,h8,h⟩:=aj h;refine MK k (AH.empty.next+1) x2.kind x2.n x2.text x2.names x2.args (x2.kind !=3) _ _ _ (Fr.refl _ _) au bP _ h8 _ ?_
 ·rintro p9 σ' eo Nu s13;rw [eo]at h;have J8:σ' 0=(.ak (aG.map Nd.cells) .unk):=(Nu 0 (by decide)).trans au;have s15:σ' 2=(.ref (AH.empty.next) 0):=(Nu 2 (by decide)).trans au;have s16:σ' 4=(.ref (AH.empty.next+1) 0):=(Nu 4 (by decide)).trans au;obtain⟨e17,h⟩|⟨e17,h⟩:=aA h
  ·cases h;refine ah ?_;exact(bW (.cons (bQ (.cons kH (.cons kH (aQ (.cons (.pure _ (.bool _)) (.cons (.pure _ (.bool _)) .nil)))))) (.cons (.pure _ (.bool _)) .nil)))
  ·obtain⟨x18,e19,h⟩:=aj h;obtain⟨qB,e20,h⟩:=aj h;obtain⟨yO,e22,h⟩:=aj h;obtain⟨x24,e25,h⟩:=aj h;obtain⟨p27,e26,h⟩:=aj h;obtain⟨p29,e28,h⟩:=aj h;refine ah ?_;refine adt 14 15 [(.ak [] .nil),(.ak [] .nil),(.int .i64 0),(.bool false)] [(.ak (aG.map Nd.cells) .unk),(.ref (AH.empty.next+1) 4),(.ak (x2.args.map aS) .unk),(.bS [(.int .i64 x18)] 0),(.int .i64 x18),(.ak (qB.map Nd.cells) .unk),(.agg (Fo.cells yO)),(.ak (aG.map Nd.cells) .unk),(.ref (AH.empty.next+1) 4),(.ak (x2.args.map aS) .unk),(.bS [(.int .i64 x24)] 0),(.int .i64 x24),(.ak (p27.map Nd.cells) .unk),(.agg (Fo.cells p29)),ud,ud] (by kernel_rfl) (by decide) rfl rfl (fun x y H' hz=> ?_) (fun x49 NS U9 agZ aBs auY aBt auZ n51 n52 n53 aGs=> ?_)
   · rcases hz with rfl|rfl|rfl<;>exact⟨.inr (.inr ⟨rfl,zY⟩),.inr (.inr ⟨rfl,zY⟩),.inr (.inr ⟨rfl,zY⟩),.inr (.inr ⟨rfl,zY⟩),.inr (.inr ⟨rfl,zY⟩),.inr (.inr ⟨rfl,OC (Hr e20)⟩),.inr (.inr ⟨rfl,OC (Vz e22)⟩),.inr (.inr ⟨rfl,zY⟩),.inr (.inr ⟨rfl,zY⟩),.inr (.inr ⟨rfl,zY⟩),.inr (.inr ⟨rfl,zY⟩),.inr (.inr ⟨rfl,zY⟩),.inr (.inr ⟨rfl,OC (Hr e26)⟩),.inr (.inr ⟨rfl,OC (Vz e28)⟩),.inl rfl,.inl rfl,trivial⟩
   have le:=agZ.1;try simp only [AH.aK,AH.aL,AH.aM,AH.aN]at le aBs aBt
   have n54:(x49=NS)=False:=eq_false n51;have n55:(NS=x49)=False:=eq_false (Ne.symm n51);have n56:=ne_next auY;have n57:=aZ auY;have n58:=ne_next auZ;have n59:=aZ auZ;have g37:U9.obj (AH.empty.next)=some [(.ak [] .nil),(.ak [] .nil),(.int .i64 0),(.bool false),(.bool false)]:=(agZ.2 _ bP List.not_mem_nil).trans au;have n38:=ne_next (show AH.empty.next<U9.next from bP);have m39:=aZ (show AH.empty.next<U9.next from bP);have aEj:(AH.empty.next=x49)=False:=eq_false bP;have aBT:(x49=AH.empty.next)=False:=eq_false bP;have aEk:(AH.empty.next=NS)=False:=eq_false bP;have aBU:(NS=AH.empty.next)=False:=eq_false bP;have g40:U9.obj (AH.empty.next+1)=some [(.int .i64 x2.kind),(.int .i64 x2.n),(.str x2.text),(.ak (x2.names.map aH) .unk),(.ak (x2.args.map aS) .unk)]:=(agZ.2 _ bP List.not_mem_nil).trans au;have n41:=ne_next (show AH.empty.next+1<U9.next from bP);have m42:=aZ (show AH.empty.next+1<U9.next from bP);have aEl:(AH.empty.next+1=x49)=False:=eq_false bP;have aBV:(x49=AH.empty.next+1)=False:=eq_false bP;have aEm:(AH.empty.next+1=NS)=False:=eq_false bP;have aBW:(NS=AH.empty.next+1)=False:=eq_false bP;simp only [cO,List.length_cons,List.length_nil,Nat.reduceAdd,FP,Nat.reduceEqDiff,reduceIte,List.getElem?_cons_succ,List.getElem?_cons_zero,Option.getD_some];obtain⟨e61,h⟩|⟨e61,h⟩:=aA h
   ·obtain⟨p63,e62,h⟩:=aj h;refine ah ?_;refine av (jF e62) ?_;cases h;refine ah ?_;exact(bW (.cons (bQ (.cons kH (.cons kH (aQ (.cons (.pure _ (.bool _)) (.cons (.pure _ (.bool _)) .nil)))))) (.cons (.pure _ (.bool _)) .nil)))
   ·obtain⟨e64,h⟩|⟨e64,h⟩:=aA h
    ·refine ah ?_;refine iJ ?_;obtain⟨p66,e65,h⟩:=aj h;refine ah ?_;refine PC.mk (jF e65) ?_;obtain⟨p68,e67,h⟩:=aj h;refine ah ?_;refine av (jF e67) ?_;cases h;refine ah ?_;exact(bW (.cons (bQ (.cons kH (.cons kH (aQ (.cons (.pure _ (.bool _)) (.cons (.pure _ (.bool _)) .nil)))))) (.cons (.pure _ (.bool _)) .nil)))
    ·obtain⟨e69,h⟩|⟨e69,h⟩:=aA h
     ·obtain⟨p71,e70,h⟩:=aj h;refine ah ?_;refine av (jF e70) ?_;cases h;refine ah ?_;exact(bW (.cons (bQ (.cons kH (.cons kH (aQ (.cons (.pure _ (.bool _)) (.cons (.pure _ (.bool _)) .nil)))))) (.cons (.pure _ (.bool _)) .nil)))
     ·obtain⟨e72,h⟩|⟨e72,h⟩:=aA h
      ·refine ah ?_;refine iJ ?_;obtain⟨p74,Ul,h⟩:=aj h;refine ah ?_;refine PC.mk (jF Ul) ?_;obtain⟨p76,Uf,h⟩:=aj h;refine ah ?_;refine av (jF Uf) ?_;cases h;refine ah ?_;exact(bW (.cons (bQ (.cons kH (.cons kH (aQ (.cons (.pure _ (.bool _)) (.cons (.pure _ (.bool _)) .nil)))))) (.cons (.pure _ (.bool _)) .nil)))
      ·obtain⟨p78,Ye,h⟩:=aj h;refine ah ?_;refine av (jF Ye) ?_;cases h;refine ah ?_;exact(bW (.cons (bQ (.cons kH (.cons kH (aQ (.cons (.pure _ (.bool _)) (.cons (.pure _ (.bool _)) .nil)))))) (.cons (.pure _ (.bool _)) .nil)))
def Hu (cu:List Int) (i_9:Int) (OH:List (List Nd)) (OI:List Int) (VB:Int) (VD:Bool) (OJ:Bool) (adD:Bool):Option Bool:=
 cond adD (some (true)) (if 0<=i_9 then (cu[i_9.toNat]?).bind fun x9=>(k_in x9 (-10000) 10000).bind fun ng=>cond ng (cond OJ (some (false)) (some ((decide (x9<0))))) (some (true))else none)
def MB:List Nat:=List.range' 31 19
theorem XW: ∀(VE:Nat) (cu:List Int) (i_9:Int) (OH:List (List Nd)) (OI:List Int) (VB:Int) (VD:Bool) (OJ:Bool) (adD:Bool) (aB σ:Nat->PV) (H:AH) (f0:Fr MB aB σ) (sl:σ 1=(.ak (cu.map aS) .unk)/\σ 9=(.int .i64 i_9)/\σ 11=(.ref (VE) 0)/\σ 30=(.bool adD)/\H.obj VE=some [(.ak (OH.map (eu Nd.cells)) (nz OH)),(.ak (OI.map aS) (nz OI)),(.int .i64 VB),(.bool VD),(.bool OJ)]) (Tz:VE<H.next) (o:Bool) (h:Hu cu i_9 OH OI VB VD OJ adD=some o) (Q:Post) (q0: ∀(p:Bool) (σ':Nat->PV),o=p->Fr MB aB σ'->(σ' 49=(.bool p))->Q .normal σ' H),dH Tryz.prog Wu (Q .normal) σ H:=by
 intro VE cu i_9 OH OI VB VD OJ adD aB σ H f0 sl Tz o h Q q0;obtain⟨s1,s9,s11,s30,aBu⟩:=sl;have aBv:=ne_next Tz;have aBw:=aZ Tz;unfold Hu at h;refine fu ?_;unfold Wu;obtain⟨e7,h⟩|⟨e7,h⟩:=aA h
 ·cases h;refine ah ?_;exact q0 _ _ rfl aI au
 ·obtain⟨e8,h⟩:=aU h;obtain⟨x9,e10,h⟩:=aj h;obtain⟨ng,e11,h⟩:=aj h;refine ah ?_;refine av (adu e11) ?_;obtain⟨e13,h⟩|⟨e13,h⟩:=aA h
  ·obtain⟨e14,h⟩|⟨e14,h⟩:=aA h
   ·cases h;refine ah ?_;exact q0 _ _ rfl aI au
   ·cases h;refine ah ?_;exact q0 _ _ rfl aI au
  ·cases h;refine ah ?_;exact q0 _ _ rfl aI au
def tC:Nat->(List Int)->(List (List Nd))->(List Int)->Int->Bool->Bool->(List (List Nd))->Int->Int->Option ((Bool×(List (List Nd))×(List Int)×Int×Bool)⊕(Bool×(List (List Nd))×(List Int)×Int×Bool))
 |0,_,_,_,_,_,_,_,_,_=>none
 |k+1,cu,vD,vE,yA,yB,qp,Hw,mY,mM=>
  cond (decide (mM<mY)) (if 0<=mM then (Hw[mM.toNat]?).bind fun x3=>(yx k x3).bind fun p6=>Option.bind (Hu cu mM p6.1.form.us p6.1.form.cs p6.1.form.num p6.1.form.bad p6.1.eq (!p6.2)) (fun Gi=>cond Gi (some (.inr ((false,vD,vE,yA,yB)))) (cond qp ((cu[mM.toNat]?).bind fun x32=>(mq k (Fo.mk vD vE yA yB) p6.1.form x32).bind fun p35=>tC k cu p35.us p35.cs p35.num p35.bad p6.1.eq Hw mY (IntKind.wrap .i64 (mM+1))) ((cu[mM.toNat]?).bind fun x36=>(mq k (Fo.mk vD vE yA yB) p6.1.form x36).bind fun p39=>tC k cu p39.us p39.cs p39.num p39.bad false Hw mY (IntKind.wrap .i64 (mM+1)))))else none) (some (.inl (qp,vD,vE,yA,yB)))
def Ez:List Nat:=[6,8,9,10,11,12]++List.range' 18 46
theorem XY: ∀(k:Nat) (qy:Nat) (cu:List Int) (vD:List (List Nd)) (vE:List Int) (yA:Int) (yB:Bool) (qp:Bool) (Hw:List (List Nd)) (mY:Int) (mM:Int) (aB σ:Nat->PV) (H0 H:AH) (f0:Fr Ez aB σ) (hf0:HF [qy] H0 H) (sl:σ 1=(.ak (cu.map aS) .unk)/\σ 7=(.ref (qy) 0)/\σ 8=(.bool qp)/\σ 16=(.ak (Hw.map (eu Nd.cells)) .unk)/\σ 17=(.int .i64 mY)/\σ 18=(.int .i64 mM)/\H.obj qy=some [(.ak (vD.map (eu Nd.cells)) (nz vD)),(.ak (vE.map aS) (nz vE)),(.int .i64 yA),(.bool yB)]) (Ja:qy<H.next) (o:(Bool×(List (List Nd))×(List Int)×Int×Bool)⊕(Bool×(List (List Nd))×(List Int)×Int×Bool)) (h:tC k cu vD vE yA yB qp Hw mY mM=some o) (Q:Post) (q0: ∀(p:Bool×(List (List Nd))×(List Int)×Int×Bool) (σ':Nat->PV) (H':AH),o= .inl p->Fr Ez aB σ'->HF [qy] H0 H'->(σ' 8=(.bool p.1)/\H'.obj qy=some [(.ak (p.2.1.map (eu Nd.cells)) (nz p.2.1)),(.ak (p.2.2.1.map aS) (nz p.2.2.1)),(.int .i64 p.2.2.2.1),(.bool p.2.2.2.2)])->Q (.exit 0) σ' H') (q1: ∀(p:Bool×(List (List Nd))×(List Int)×Int×Bool) (σ':Nat->PV) (H':AH),o= .inr (p)->Fr Ez aB σ'->HF [qy] H0 H'->(σ' 6=(.bool p.1)/\H'.obj qy=some [(.ak (p.2.1.map (eu Nd.cells)) (nz p.2.1)),(.ak (p.2.2.1.map aS) (nz p.2.2.1)),(.int .i64 p.2.2.2.1),(.bool p.2.2.2.2)])->Q .ret σ' H'),W Tryz.prog (.loop Wv) Q σ H:=by
 intro k
 induction k with
 |zero=>intro qy cu vD vE yA yB qp Hw mY mM aB σ H0 H f0 hf0 sl Ja o h Q q0 q1;simp only [tC,reduceCtorEq]at h
 |succ k ih=>
  intro qy cu vD vE yA yB qp Hw mY mM aB σ H0 H f0 hf0 sl Ja o h Q q0 q1;obtain⟨s1,s7,s8,s16,tK,iX,ayM⟩:=sl;have ayN:=ne_next Ja;have ayO:=aZ Ja;have hle0:=hf0.1;unfold tC at h;refine aW (fun K hK=>aC ?_);unfold Wv;obtain⟨e1,h⟩|⟨e1,h⟩:=aA h
  ·obtain⟨e2,h⟩:=aU h;obtain⟨x3,e4,h⟩:=aj h;obtain⟨p6,e5,h⟩:=aj h;refine ah ?_;refine av (Ht e5) ?_;refine ah ?_;obtain⟨o15,h16,h⟩:=aj h;refine XW (H.next) cu mM p6.1.form.us p6.1.form.cs p6.1.form.num p6.1.form.bad p6.1.eq (!p6.2) _ _ _ (Fr.refl _ _) au bP _ h16 _ ?_
   ·rintro Gi σ' eo vF s21;rw [eo]at h;have s22:σ' 1=(.ak (cu.map aS) .unk):=(vF 1 (by decide)).trans au;have s23:σ' 7=(.ref (qy) 0):=(vF 7 (by decide)).trans au;have s24:σ' 8=(.bool qp):=(vF 8 (by decide)).trans au;have s25:σ' 9=(.int .i64 mM):=(vF 9 (by decide)).trans au;have s26:σ' 11=(.ref (H.next) 0):=(vF 11 (by decide)).trans au;have Yh:σ' 16=(.ak (Hw.map (eu Nd.cells)) .unk):=(vF 16 (by decide)).trans au;have s28:σ' 17=(.int .i64 mY):=(vF 17 (by decide)).trans au;have s29:σ' 18=(.int .i64 mM):=(vF 18 (by decide)).trans au;obtain⟨e30,h⟩|⟨e30,h⟩:=aA h
    ·cases h;refine ah ?_;exact q1 _ _ _ rfl (by repeat (first|exact f0|refine Fr.upd (by decide) ?_|refine Fr.via vF (by decide) ?_)) nZ au
    ·obtain⟨e31,h⟩|⟨e31,h⟩:=aA h
     ·refine ah ?_;refine iJ ?_;obtain⟨x32,e33,h⟩:=aj h;obtain⟨p35,e34,h⟩:=aj h;refine ah ?_;refine av (jF e34) ?_;refine ah ?_;refine hK _ _ ?_;exact ih qy cu p35.us p35.cs p35.num p35.bad p6.1.eq Hw mY (IntKind.wrap .i64 (mM+1)) _ _ _ _ (by repeat (first|exact f0|refine Fr.upd (by decide) ?_|refine Fr.via vF (by decide) ?_)) nZ au bP _ h _ q0 q1
     ·refine ah ?_;refine iJ ?_;obtain⟨x36,e37,h⟩:=aj h;obtain⟨p39,e38,h⟩:=aj h;refine ah ?_;refine av (jF e38) ?_;refine ah ?_;refine hK _ _ ?_;exact ih qy cu p39.us p39.cs p39.num p39.bad false Hw mY (IntKind.wrap .i64 (mM+1)) _ _ _ _ (by repeat (first|exact f0|refine Fr.upd (by decide) ?_|refine Fr.via vF (by decide) ?_)) nZ au bP _ h _ q0 q1
  ·cases h;refine ah ?_;exact q0 _ _ _ rfl aI nZ au
def OL (k:Nat) (bB:List (List Nd)) (cu:List Int) (tF:List Nd):Option Bool:=
 Option.bind (tC k cu ([]:List (List Nd)) ([]:List Int) 0 false true bB (bB.length:Int) 0) (fun o=>Sum.elim (fun p42=>(Tx tF ([70,65,76,83,69]:Str)).bind fun p54=>cond p54 ((Pb k (Fo.mk p42.2.1 p42.2.2.1 p42.2.2.2.1 p42.2.2.2.2)).bind fun p57=>some p57) ((yx k tF).bind fun p59=>cond p59.2 (cond p59.1.eq ((mq k (Fo.mk p42.2.1 p42.2.2.1 p42.2.2.2.1 p42.2.2.2.2) p59.1.form (-1)).bind fun p63=>cond p42.1 ((yw k p63).bind fun p66=>cond p66 (some (p63.num==0)) (some false)) (some false)) ((mq k (Fo.mk [] [] (-1) false) p59.1.form (-1)).bind fun p69=>(mq k (Fo.mk p42.2.1 p42.2.2.1 p42.2.2.2.1 p42.2.2.2.2) p69 1).bind fun p71=>(Pb k p71).bind fun p73=>some p73)) (some false))) (fun p74=>some p74.1) o)
theorem aeB {k:Nat} {bB:List (List Nd)} {cu:List Int} {tF:List Nd} {c0 c1 c2:Ck} {r:Bool} (h:OL k bB cu tF=some r):aD Tryz.prog 79 [(.ak (bB.map (eu Nd.cells)) c0),(.ak (cu.map aS) c1),(.ak (tF.map Nd.cells) c2)] (.bool r):=by
 refine aD.lw (.ak (.ak (.ak .nil))) (aD.aO (aX.mem (.cons (aT (jA Nd.pu) _) (.cons (aT dF _) (.cons (aT Nd.pu _) .nil)))) (aF azq (by simp) (aC ?_)) (.bool _));unfold OL at h;unfold arQ;refine ah ?_;obtain⟨o40,h41,h⟩:=aj h;refine XY k (AH.empty.next) cu ([]:List (List Nd)) ([]:List Int) 0 false true bB (bB.length:Int) 0 _ _ _ _ (Fr.refl _ _) (HF.refl _ _) au bP _ h41 _ ?_ ?_
 ·rintro p42 σ' H45 eo aa7 aBx ⟨s46,g47⟩;subst eo;rw [bI]at h;have s48:σ' 2=(.ak (tF.map Nd.cells) .unk):=(aa7 2 (by decide)).trans au;have s49:σ' 7=(.ref (AH.empty.next) 0):=(aa7 7 (by decide)).trans au;have le:=aBx.1;try simp only [AH.aK,AH.aL,AH.aM,AH.aN]at le
  have n51:=ne_next (show AH.empty.next<H45.next from bP);have m52:=aZ (show AH.empty.next<H45.next from bP);obtain⟨p54,e53,h⟩:=aj h;refine ah ?_;refine av (ahy e53) ?_;obtain⟨e55,h⟩|⟨e55,h⟩:=aA h
  ·obtain⟨p57,e56,h⟩:=aj h;refine ah ?_;refine av (Y4 e56) ?_;cases h;refine ah ?_;exact(.pure _ (.bool _))
  ·obtain⟨p59,e58,h⟩:=aj h;refine ah ?_;refine av (Ht e58) ?_;obtain⟨e60,h⟩|⟨e60,h⟩:=aA h
   ·obtain⟨e61,h⟩|⟨e61,h⟩:=aA h
    ·obtain⟨p63,e62,h⟩:=aj h;refine ah ?_;refine av (jF e62) ?_;obtain⟨e64,h⟩|⟨e64,h⟩:=aA h
     ·obtain⟨p66,e65,h⟩:=aj h;refine ah ?_;refine av (Ct e65) ?_;obtain⟨e67,h⟩|⟨e67,h⟩:=aA h
      ·cases h;refine ah ?_;exact(.pure _ (.bool _))
      ·cases h;refine ah ?_;exact(.pure _ (.bool _))
     ·cases h;refine ah ?_;exact(.pure _ (.bool _))
    ·refine ah ?_;refine iJ ?_;obtain⟨p69,e68,h⟩:=aj h;refine ah ?_;refine PC.mk (jF e68) ?_;obtain⟨p71,e70,h⟩:=aj h;refine ah ?_;refine av (jF e70) ?_;obtain⟨p73,e72,h⟩:=aj h;refine ah ?_;refine av (Y4 e72) ?_;cases h;refine ah ?_;exact(.pure _ (.bool _))
   ·cases h;refine ah ?_;exact(.pure _ (.bool _))
 ·rintro p74 σ' H77 eo aAu aBy ⟨s78,g79⟩;subst eo;rw [bL]at h;have le:=aBy.1;try simp only [AH.aK,AH.aL,AH.aM,AH.aN]at le
  cases h;refine ah ?_;exact(.pure _ (.bool _))
def za:Nat->(List Int)->Int->Int->Option (Unit⊕Int)
 |0,_,_,_=>none
 |k+1,Y6,lX,dX=>
  cond (decide (dX<lX)) (if 0<=dX then (Y6[dX.toNat]?).bind fun x3=>cond (x3 !=0) (some (.inr (x3))) (za k Y6 lX (IntKind.wrap .i64 (dX+1)))else none) (some (.inl ()))
def Hy:List Nat:=[2,4]++List.range' 7 8
theorem ZL: ∀(k:Nat) (Y6:List Int) (lX:Int) (dX:Int) (aB σ:Nat->PV) (H:AH) (f0:Fr Hy aB σ) (sl:σ 5=(.ak (Y6.map aS) .unk)/\σ 6=(.int .i64 lX)/\σ 7=(.int .i64 dX)) (o:Unit⊕Int) (h:za k Y6 lX dX=some o) (Q:Post) (q0: ∀(p:Unit) (σ':Nat->PV),o= .inl p->Fr Hy aB σ'->Q (.exit 0) σ' H) (q1: ∀(p:Int) (σ':Nat->PV),o= .inr (p)->Fr Hy aB σ'->(σ' 2=(.int .i64 p))->Q .ret σ' H),W Tryz.prog (.loop Wj) Q σ H:=by
 intro k
 induction k with
 |zero=>intro Y6 lX dX aB σ H f0 sl o h Q q0 q1;simp only [za,reduceCtorEq]at h
 |succ k ih=>
  intro Y6 lX dX aB σ H f0 sl o h Q q0 q1;obtain⟨s5,s6,s7⟩:=sl;unfold za at h;refine aW (fun K hK=>aC ?_);unfold Wj;obtain⟨e1,h⟩|⟨e1,h⟩:=aA h
  ·obtain⟨e2,h⟩:=aU h;obtain⟨x3,e4,h⟩:=aj h;obtain⟨e5,h⟩|⟨e5,h⟩:=aA h
   ·cases h;refine ah ?_;exact q1 _ _ rfl aI au
   ·refine ah ?_;refine hK _ _ ?_;exact ih Y6 lX (IntKind.wrap .i64 (dX+1)) _ _ _ aI au _ h _ q0 q1
  ·cases h;refine ah ?_;exact q0 _ _ rfl aI
def LU (k:Nat) (bB:List Int):Option Int:=
 Option.bind (za k bB (bB.length:Int) 0) (fun o=>Sum.elim (fun p8=>some 0) (fun ng=>some ng) o)
theorem VF {k:Nat} {bB:List Int} {c0:Ck} {r:Int} (h:LU k bB=some r):aD Tryz.prog 58 [(.ak (bB.map aS) c0)] (.int .i64 r):=by
 refine aD.lw (.ak .nil) (aD.aO (aX.mem (.cons (aT dF _) .nil)) (aF azi (by simp) (aC ?_)) (.int _ _));unfold LU at h;unfold arH;refine ah ?_;obtain⟨o6,h7,h⟩:=aj h;refine ZL k bB (bB.length:Int) 0 _ _ _ (Fr.refl _ _) au _ h7 _ ?_ ?_
 ·rintro p8 σ' eo Im;subst eo;rw [bI]at h;cases h;refine ah ?_;exact(.pure _ (.int _ _))
 ·rintro ng σ' eo La s16;subst eo;rw [bL]at h;cases h;refine ah ?_;exact(.pure _ (.int _ _))
def Dk (Pf:Bool) (e_1:Int):Option Int:=
 cond Pf (some 0) (some e_1)
theorem Fx {Pf:Bool} {e_1:Int} {r:Int} (h:Dk Pf e_1=some r):aD Tryz.prog 59 [(.bool Pf),(.int .i64 e_1)] (.int .i64 r):=by
 refine aD.aO (aX.mem (.cons (.bool _) (.cons (.int _ _) .nil))) (aF azj (by simp) (aC ?_)) (.int _ _);unfold Dk at h;unfold arI;obtain⟨e1,h⟩|⟨e1,h⟩:=aA h
 ·cases h;refine ah ?_;exact(.pure _ (.int _ _))
 ·cases h;refine ah ?_;exact(.pure _ (.int _ _))
def EA (bg:Int):Option Bool:=
 (k_in bg (-10000) 10000).bind fun p2=>some (!p2)
theorem VG {bg:Int} {r:Bool} (h:EA bg=some r):aD Tryz.prog 77 [(.int .i64 bg)] (.bool r):=by
 refine aD.aO (aX.mem (.cons (.int _ _) .nil)) (aF azo (by simp) (aC ?_)) (.bool _);unfold EA at h;unfold arO;obtain⟨p2,e1,h⟩:=aj h;refine ah ?_;refine av (adu e1) ?_;cases h;refine ah ?_;exact(.pure _ (.bool _))
def mU:Nat->(List Int)->Int->Int->Option (Unit⊕Int)
 |0,_,_,_=>none
 |k+1,s_0,dX,dB=>
  cond (decide (dB<dX)) (if 0<=dB then (s_0[dB.toNat]?).bind fun x3=>(EA x3).bind fun p6=>cond p6 (some (.inr (dB))) (mU k s_0 dX (IntKind.wrap .i64 (dB+1)))else none) (some (.inl ()))
def uP:List Nat:=[4,5]++List.range' 8 11
theorem KJ: ∀(k:Nat) (s_0:List Int) (dX:Int) (dB:Int) (aB σ:Nat->PV) (H:AH) (f0:Fr uP aB σ) (sl:σ 0=(.ak (s_0.map aS) .unk)/\σ 1=(.fn (.func 77) [] [])/\σ 7=(.int .i64 dX)/\σ 8=(.int .i64 dB)) (o:Unit⊕Int) (h:mU k s_0 dX dB=some o) (Q:Post) (q0: ∀(p:Unit) (σ':Nat->PV),o= .inl p->Fr uP aB σ'->Q (.exit 0) σ' H) (q1: ∀(p:Int) (σ':Nat->PV),o= .inr (p)->Fr uP aB σ'->(σ' 4=(.int .i64 p))->Q .ret σ' H),W Tryz.prog (.loop F5) Q σ H:=by
 intro k
 induction k with
 |zero=>intro s_0 dX dB aB σ H f0 sl o h Q q0 q1;simp only [mU,reduceCtorEq]at h
 |succ k ih=>
  intro s_0 dX dB aB σ H f0 sl o h Q q0 q1;obtain⟨s0,s1,s7,s8⟩:=sl;unfold mU at h;refine aW (fun K hK=>aC ?_);unfold F5;obtain⟨e1,h⟩|⟨e1,h⟩:=aA h
  ·obtain⟨e2,h⟩:=aU h;obtain⟨x3,e4,h⟩:=aj h;obtain⟨p6,e5,h⟩:=aj h;refine ah ?_;refine av (VG e5) ?_;obtain⟨e7,h⟩|⟨e7,h⟩:=aA h
   ·cases h;refine ah ?_;exact q1 _ _ rfl aI au
   ·refine ah ?_;refine hK _ _ ?_;exact ih s_0 dX (IntKind.wrap .i64 (dB+1)) _ _ _ aI au _ h _ q0 q1
  ·cases h;refine ah ?_;exact q0 _ _ rfl aI
def zD (k:Nat) (s_0:List Int):Option Int:=
 Option.bind (mU k s_0 (s_0.length:Int) 0) (fun o=>Sum.elim (fun iM=>some (-1)) (fun iQ=>some iQ) o)
theorem OM {k:Nat} {s_0:List Int} {c0:Ck} {r:Int} (h:zD k s_0=some r):aD Tryz.prog 102 [(.ak (s_0.map aS) c0),(.fn (.func 77) [] [])] (.int .i64 r):=by
 refine aD.lw (.ak (.same .nil)) (aD.aO (aX.mem (.cons (aT dF _) (.cons (.fn _ _ _ (aX.mem .nil) (aX.mem .nil)) .nil))) (aF amd (by simp) (aC ?_)) (.int _ _));unfold zD at h;unfold aga;refine ah ?_;obtain⟨o8,h9,h⟩:=aj h;refine KJ k s_0 (s_0.length:Int) 0 _ _ _ (Fr.refl _ _) au _ h9 _ ?_ ?_
 ·rintro iM σ' eo CP;subst eo;rw [bI]at h;cases h;refine ah ?_;exact(.pure _ (.int _ _))
 ·rintro iQ σ' eo sI iX;subst eo;rw [bL]at h;cases h;refine ah ?_;exact(.pure _ (.int _ _))
def vJ (k:Nat) (s_0:List Int):Option Bool:=
 (zD k s_0).bind fun p2=>some (decide (p2>=0))
theorem KL {k:Nat} {s_0:List Int} {c0:Ck} {r:Bool} (h:vJ k s_0=some r):aD Tryz.prog 76 [(.ak (s_0.map aS) c0),(.fn (.func 77) [] [])] (.bool r):=by
 refine aD.lw (.ak (.same .nil)) (aD.aO (aX.mem (.cons (aT dF _) (.cons (.fn _ _ _ (aX.mem .nil) (aX.mem .nil)) .nil))) (aF arN (by simp) (aC ?_)) (.bool _));unfold vJ at h;unfold akF;obtain⟨p2,e1,h⟩:=aj h;refine ah ?_;refine av (OM e1) ?_;cases h;refine ah ?_;exact(.pure _ (.bool _))
def tH:Nat->(List (List Nd))->Int->Int->Option (Unit⊕(Bool×Int))
 |0,_,_,_=>none
 |k+1,eY,OO,JQ=>
  cond (decide (JQ<OO)) (if 0<=JQ then (eY[JQ.toNat]?).bind fun x10=>(xJ k x10).bind fun wE=>cond (wE !=0) (some (.inr ((false,wE)))) (tH k eY OO (IntKind.wrap .i64 (JQ+1)))else none) (some (.inl ()))
def Cw:List Nat:=[6,7,10,11]++List.range' 29 10
theorem TA: ∀(k:Nat) (eY:List (List Nd)) (OO:Int) (JQ:Int) (aB σ:Nat->PV) (H:AH) (f0:Fr Cw aB σ) (sl:σ 27=(.ak (eY.map (eu Nd.cells)) .unk)/\σ 28=(.int .i64 OO)/\σ 29=(.int .i64 JQ)) (o:Unit⊕(Bool×Int)) (h:tH k eY OO JQ=some o) (Q:Post) (q0: ∀(p:Unit) (σ':Nat->PV),o= .inl p->Fr Cw aB σ'->Q (.exit 0) σ' H) (q1: ∀(p:Bool×Int) (σ':Nat->PV),o= .inr (p)->Fr Cw aB σ'->(σ' 6=(.bool p.1)/\σ' 7=(.int .i64 p.2))->Q .ret σ' H),W Tryz.prog (.loop V5) Q σ H:=by
 intro k
 induction k with
 |zero=>intro eY OO JQ aB σ H f0 sl o h Q q0 q1;simp only [tH,reduceCtorEq]at h
 |succ k ih=>
  intro eY OO JQ aB σ H f0 sl o h Q q0 q1;obtain⟨Yh,s28,s29⟩:=sl;unfold tH at h;refine aW (fun K hK=>aC ?_);unfold V5;obtain⟨e8,h⟩|⟨e8,h⟩:=aA h
  ·obtain⟨e9,h⟩:=aU h;obtain⟨x10,e11,h⟩:=aj h;obtain⟨wE,e12,h⟩:=aj h;refine ah ?_;refine av (Dy e12) ?_;obtain⟨e14,h⟩|⟨e14,h⟩:=aA h
   ·cases h;refine ah ?_;exact q1 _ _ rfl aI au
   ·refine ah ?_;refine hK _ _ ?_;exact ih eY OO (IntKind.wrap .i64 (JQ+1)) _ _ _ aI au _ h _ q0 q1
  ·cases h;refine ah ?_;exact q0 _ _ rfl aI
def JR (k:Nat) (bB:List (List Nd)) (cu:List Int) (tF:List Nd):Option (Bool×Int):=
 (Dk (decide ((bB.length:Int)>0)) 1).bind fun p2=>(Dk (decide ((bB.length:Int)<=12)) 2).bind fun p4=>(LU k [p2,p4]).bind fun p6=>cond (p6 !=0) (some (false,p6)) (Option.bind (tH k bB (bB.length:Int) 0) (fun o=>Sum.elim (fun Gi=>(vJ k cu).bind fun p25=>(Dk ((cu.length:Int)==(bB.length:Int)) 6).bind fun p27=>(Dk (!p25) 3).bind fun p29=>(xJ k tF).bind fun p31=>(LU k [p27,p29,p31]).bind fun p33=>cond (p33 !=0) (some (false,p33)) ((OL k bB cu tF).bind fun p36=>some (p36,0))) (fun p37=>some (p37.1,p37.2)) o))
theorem ZM {k:Nat} {bB:List (List Nd)} {cu:List Int} {tF:List Nd} {c0 c1 c2:Ck} {r:Bool×Int} (h:JR k bB cu tF=some r):aD Tryz.prog 22 [(.ak (bB.map (eu Nd.cells)) c0),(.ak (cu.map aS) c1),(.ak (tF.map Nd.cells) c2)] (.cK [(.bool r.1),(.int .i64 r.2)]):=by
 refine aD.lw (.ak (.ak (.ak .nil))) (aD.aO (aX.mem (.cons (aT (jA Nd.pu) _) (.cons (aT dF _) (.cons (aT Nd.pu _) .nil)))) (aF arw (by simp) (aC ?_)) (.cK _ (aX.mem (.cons (.bool _) (.cons (.int _ _) .nil)))));unfold JR at h;unfold arv;obtain⟨p2,e1,h⟩:=aj h;refine ah ?_;refine av (Fx e1) ?_;obtain⟨p4,e3,h⟩:=aj h;refine ah ?_;refine av (Fx e3) ?_;obtain⟨p6,e5,h⟩:=aj h;refine ah ?_;refine av (VF e5) ?_;obtain⟨e7,h⟩|⟨e7,h⟩:=aA h
 ·cases h;refine ah ?_;exact(bW (.cons (.pure _ (.bool _)) (aQ .nil)))
 ·refine ah ?_;obtain⟨o15,h16,h⟩:=aj h;refine TA k bB (bB.length:Int) 0 _ _ _ (Fr.refl _ _) au _ h16 _ ?_ ?_
  ·rintro Gi σ' eo vF;subst eo;rw [bI]at h;have s21:σ' 0=(.ak (bB.map (eu Nd.cells)) .unk):=(vF 0 (by decide)).trans au;have s22:σ' 1=(.ak (cu.map aS) .unk):=(vF 1 (by decide)).trans au;have s23:σ' 2=(.ak (tF.map Nd.cells) .unk):=(vF 2 (by decide)).trans au;obtain⟨p25,e24,h⟩:=aj h;refine ah ?_;refine av (KL e24) ?_;obtain⟨p27,e26,h⟩:=aj h;refine ah ?_;refine av (Fx e26) ?_;obtain⟨p29,e28,h⟩:=aj h;refine ah ?_;refine av (Fx e28) ?_;obtain⟨p31,e30,h⟩:=aj h;refine ah ?_;refine av (Dy e30) ?_;obtain⟨p33,e32,h⟩:=aj h;refine ah ?_;refine av (VF e32) ?_;obtain⟨e34,h⟩|⟨e34,h⟩:=aA h
   ·cases h;refine ah ?_;exact(bW (.cons (.pure _ (.bool _)) (aQ .nil)))
   ·obtain⟨p36,e35,h⟩:=aj h;refine ah ?_;refine av (aeB e35) ?_;cases h;refine ah ?_;exact(bW (.cons (.pure _ (.bool _)) (aQ .nil)))
  ·rintro p37 σ' eo aGt ⟨s41,s42⟩;subst eo;rw [bL]at h;cases h;refine ah ?_;exact(bW (.cons (.pure _ (.bool _)) (aQ .nil)))
end Go.VL
end
section
namespace Go.VL
open Go.Proofs
def alV:PV->Option (List (List Nd))
 | .ak es .unk=>LH (fun l=>match l with|[p]=>dEx p|_=>none) es
 |_=>none
theorem aqs {p:PV} {l:List (List Nd)} (h:alV p=some l):p= .ak (l.map (eu Nd.cells)) .unk:=by
 unfold alV at h;split at h
 · rw [zC (g:=eu Nd.cells) (fun x y hx=> ?_) h];split at hx
   · rw [OB hx];rfl
   · cases hx
 · cases h
def ahA:PV->Option (List Int)
 | .ak es .unk=>LH ahr es
 |_=>none
theorem alW {p:PV} {l:List Int} (h:ahA p=some l):p= .ak (l.map aS) .unk:=by
 unfold ahA at h;split at h
 · rw [zC afA h]
 · cases h
def ahB:PV->Option (List Str)
 | .ak es .unk=>LH ahq es
 |_=>none
theorem alX {p:PV} {l:List Str} (h:ahB p=some l):p= .ak (l.map aH) .unk:=by
 unfold ahB at h;split at h
 · rw [zC afz h]
 · cases h
def XZ (f:FuncId) (args:List PV):Option PV:=match f,args.map (ow true 20 AH.empty)with
 |119,[p]=>(dEx p).bind fun e=>(lN 200 e).bind fun r=>some (.cK [.int .i64 r.1,.int .i64 r.2])
 |160,[p,q]=>(dEx p).bind fun a=>(dEx q).bind fun b=>(FL 200 a b).bind fun r=>some (.cK [.bool r.1,.int .i64 r.2])
 |22,[p,q,g]=>(alV p).bind fun l=>(ahA q).bind fun n=>(dEx g).bind fun e=>(JR 200 l n e).bind fun r=>some (.cK [.bool r.1,.int .i64 r.2])
 |181,[p]=>(ahB p).bind fun l=>if l.length<=1000000 then some (.ak (l.map aH) .unk)else none
 |_,_=>none
theorem VH (f:FuncId) (args:List PV) (r:PV) (_: ∀a∈args,Pu a) (h:XZ f args=some r):aD Tryz.prog f args r:=by
 refine aD.weak ?_;unfold XZ at h;split at h
 · rename_i p e;rw [e];obtain⟨x,h1,h⟩:=aj h;obtain⟨y,h2,h⟩:=aj h;cases h;rw [OB h1];exact Ew h2
 · rename_i p q e;rw [e];obtain⟨x,h1,h⟩:=aj h;obtain⟨x',h1',h⟩:=aj h;obtain⟨y,h2,h⟩:=aj h;cases h;rw [OB h1,OB h1'];exact YW h2
 · rename_i p q g e;rw [e];obtain⟨x,h1,h⟩:=aj h;obtain⟨x',h1',h⟩:=aj h;obtain⟨x'',aBz,h⟩:=aj h;obtain⟨y,h2,h⟩:=aj h;cases h;rw [aqs h1,alW h1',OB aBz];exact ZM h2
 · rename_i p e;rw [e];obtain⟨x,h1,h⟩:=aj h;split at h
   · rename_i hl;cases h;rw [alX h1];exact Nb x hl
   · cases h
 · cases h
end Go.VL
end
section
set_option maxRecDepth 100000
namespace Go.VL
open Go.Proofs
noncomputable def ahC:List (List PV):=match ahp Tryz.prog (Vo Tryz.prog XZ (fun _ _=>none) 30) 48 AH.empty with
 |some (_,H)=>match H.obj 0 with
  |some cs=>chunks 7 2 cs
  |none=>[]
 |none=>[]
theorem axt (H:AH):bA Tryz.prog 48 [] H fun v H'=>v= .bR H.next 0 ahC.length ahC.length 7/\H'=H.new ahC.flatten:=
 aeu (by kernel_rfl) (JG (qP:=fun _ _=>none) (fun g d sz es h=>by cases h) (by kernel_rfl) VH 30) (by kernel_rfl)
noncomputable def au1 (g:FuncId) (d:Option Nat):Option (Nat×List (List PV)):=if g=48/\d=some 40 then some (7,ahC)else none
theorem aqt (g:FuncId) (d:Option Nat) (sz:Nat) (es:List (List PV)) (h:au1 g d=some (sz,es)) (H:AH):bA Tryz.prog g [] H fun v H'=>v= .bR H.next 0 es.length es.length sz/\H'=H.new es.flatten:=by
 unfold au1 at h;split at h
 · rename_i hc;cases h;rw [hc.1];exact axt H
 · cases h
theorem aqu:aD Tryz.prog 11 [] (.bool true):=
 JG aqt (by kernel_rfl) VH 40 11 [] _ (fun _ h=>by cases h) (by kernel_rfl)
end Go.VL
end
section
set_option maxRecDepth 8000
set_option maxHeartbeats 4000000
namespace Go.VL
open Go.Proofs
def uQ (k:Nat) (s_0:Sq):Option Bool:=
 (I9 k s_0).bind fun p2=>cond p2 ((Vm k s_0).bind fun p5=>(lC k p5).bind fun p7=>(lD k s_0).bind fun p9=>cond (p7.2==p9.2) (some (p7.1==p9.1)) (some false)) (some true)
theorem OP {k:Nat} {s_0:Sq} {r:Bool} (h:uQ k s_0=some r):aD Tryz.prog 3 [(.agg (Sq.cells s_0))] (.bool r):=by
 refine aD.aO (aX.mem (.cons (.agg _ (Sq.pu _)) .nil)) (aF Ub (by simp) (aC ?_)) (.bool _);unfold uQ at h;unfold ac3;refine ah ?_;refine av (aqu) ?_;obtain⟨p2,e1,h⟩:=aj h;refine ah ?_;refine av (aql e1) ?_;obtain⟨e3,h⟩|⟨e3,h⟩:=aA h
 ·obtain⟨p5,e4,h⟩:=aj h;refine ah ?_;refine av (aqk e4) ?_;obtain⟨p7,e6,h⟩:=aj h;refine ah ?_;refine av (Tn e6) ?_;obtain⟨p9,e8,h⟩:=aj h;refine ah ?_;refine av (Tp e8) ?_;obtain⟨e10,h⟩|⟨e10,h⟩:=aA h
  ·cases h;refine ah ?_;exact(.pure _ (.bool _))
  ·cases h;refine ah ?_;exact(.pure _ (.bool _))
 ·cases h;refine ah ?_;exact(.pure _ (.bool _))
end Go.VL
end
section
namespace Go.VL
theorem ML (s:Sq):Ev (fun k=>uQ k s) true:=by
 unfold uQ;obtain⟨b,hb,hf⟩:=alN s;refine Ev.bind hb ?_;cases b with
 |false=>exact Ev.cF rfl Ev.some
 |true=>
  obtain⟨h1,h2,h3⟩:=hf rfl;obtain⟨r,r1,r2,_⟩:=alO s h1 h2 h3;exact Ev.cT rfl (Ev.bind (alP s h1 h2 h3) (Ev.bind r1 (Ev.bind r2 (Ev.cT (by simp) (Ev.some' (by simp))))))
end Go.VL
namespace Go.Proofs.YtpkbfdgohkakaaaGreatDoor.kernelSequents
open Go.VL
theorem KS (s:Sq):bA Tryz.prog 3 [.agg s.cells] AH.empty fun v _=>v= .bool true:=by
 obtain⟨k,hk⟩:=(ML s).get;exact bA.mono (OP hk AH.empty) fun _ _ h=>h.1
theorem proved:Rows.KernelSequentsCardSaid:=card KS
end Go.Proofs.YtpkbfdgohkakaaaGreatDoor.kernelSequents
end
