/- Part 9. -/
import Derived.Test.YtpkbfdgohkakaaaGreatDoorKa8
import Derived.Laws.RangeAny
import Derived.IntWalk
import Derived.Test.YtpkbfdgohkakaaaGreatDoorRows
import Derived.RangeFuncOwn
import Derived.TacticsIn
import Derived.TacticsInMore
import Derived.LoopIn
import Derived.Walk
import Derived.WalkKit
import Derived.KernelRfl
set_option maxRecDepth 8000
set_option linter.unusedVariables false
set_option linter.unusedSectionVars false
set_option linter.unusedSimpArgs false
section
set_option maxHeartbeats 4000000
namespace Go.VL
open Go.Proofs
def yS:Nat->Str->Int->Int->Int->Int->Option ((Int×Int))
 |0,_,_,_,_,_=>none
 |k+1,s_0,Yl,uq,tN,kU=>
  cond (decide (kU<(s_0.length:Int))) (if 0<=kU then (s_0[kU.toNat]?).bind fun x3=>if 0<=(x3.toNat:Int)/\(x3.toNat:Int)<256 then (Ai[x3.toNat]?).bind fun x6=>yS k s_0 (IntKind.wrap .i64 (Yl+(IntKind.wrap .i64 ((BitVec.ofInt (IntKind.bits .i64) uq&&&BitVec.ofInt (IntKind.bits .i64) (IntKind.wrap .i64 ((BitVec.ofInt (IntKind.bits .i64) (if IntKind.signed .i64=true then -1 else IntKind.max .i64)^^^BitVec.ofInt (IntKind.bits .i64) (IntKind.wrap .i64 x6)).toNat))).toNat)))) (IntKind.wrap .i64 x6) (IntKind.wrap .u8 ((BitVec.ofInt (IntKind.bits .u8) tN|||BitVec.ofInt (IntKind.bits .u8) (x3.toNat:Int)).toNat)) (IntKind.wrap .i64 (kU+1))else none else none) (some ((Yl,tN)))
def NG:List Nat:=[3,4,5,6,7,8]++List.range' 13 23
theorem Zm: ∀(k:Nat) (s_0:Str) (Yl:Int) (uq:Int) (tN:Int) (kU:Int) (aB σ:Nat->PV) (H:AH) (f0:Fr NG aB σ) (sl:σ 0=(.str s_0)/\σ 3=(.int .i64 Yl)/\σ 4=(.int .i64 uq)/\σ 5=(.int .u8 tN)/\σ 6=(.int .i64 kU)) (o:(Int×Int)) (h:yS k s_0 Yl uq tN kU=some o) (Q:Post) (q0: ∀(p:Int×Int) (σ':Nat->PV),o=p->Fr NG aB σ'->(σ' 3=(.int .i64 p.1)/\σ' 5=(.int .u8 p.2))->Q (.exit 0) σ' H),W Tryz.prog (.loop Sz) Q σ H:=by
 intro k
 induction k with
 |zero=>intro s_0 Yl uq tN kU aB σ H f0 sl o h Q q0;simp only [yS,reduceCtorEq]at h
 |succ k ih=>
  intro s_0 Yl uq tN kU aB σ H f0 sl o h Q q0;obtain⟨s0,s3,s4,s5,s6⟩:=sl;unfold yS at h;refine aW (fun K hK=>aC ?_);unfold Sz;obtain⟨e1,h⟩|⟨e1,h⟩:=aA h
  ·obtain⟨e2,h⟩:=aU h;obtain⟨x3,e4,h⟩:=aj h;obtain⟨e5,h⟩:=aU h;obtain⟨x6,e7,h⟩:=aj h;refine dz ?_;refine hK _ _ ?_;exact ih s_0 (IntKind.wrap .i64 (Yl+(IntKind.wrap .i64 ((BitVec.ofInt (IntKind.bits .i64) uq&&&BitVec.ofInt (IntKind.bits .i64) (IntKind.wrap .i64 ((BitVec.ofInt (IntKind.bits .i64) (if IntKind.signed .i64=true then -1 else IntKind.max .i64)^^^BitVec.ofInt (IntKind.bits .i64) (IntKind.wrap .i64 x6)).toNat))).toNat)))) (IntKind.wrap .i64 x6) (IntKind.wrap .u8 ((BitVec.ofInt (IntKind.bits .u8) tN|||BitVec.ofInt (IntKind.bits .u8) (x3.toNat:Int)).toNat)) (IntKind.wrap .i64 (kU+1)) _ _ _ aI aP _ h _ q0
  ·cases h;refine dz ?_;exact q0 _ _ rfl aI aP
def yT:Nat->Str->Int->Option Int
 |0,_,_=>none
 |k+1,s_0,gW=>
  cond (decide (gW<(s_0.length:Int))) (if 0<=gW then (s_0[gW.toNat]?).bind fun x30=>if 0<=(x30.toNat:Int)/\(x30.toNat:Int)<256 then (Ai[x30.toNat]?).bind fun x33=>cond (x33 !=0) (yT k s_0 (IntKind.wrap .i64 (gW+1))) (some (gW))else none else none) (some (gW))
def NH:List Nat:=[12]++List.range' 42 14
theorem Zn: ∀(k:Nat) (s_0:Str) (gW:Int) (aB σ:Nat->PV) (H:AH) (f0:Fr NH aB σ) (sl:σ 0=(.str s_0)/\σ 12=(.int .i64 gW)) (o:Int) (h:yT k s_0 gW=some o) (Q:Post) (q0: ∀(p:Int) (σ':Nat->PV),o=p->Fr NH aB σ'->(σ' 12=(.int .i64 p))->Q (.exit 2) σ' H),W Tryz.prog (.loop SA) Q σ H:=by
 intro k
 induction k with
 |zero=>intro s_0 gW aB σ H f0 sl o h Q q0;simp only [yT,reduceCtorEq]at h
 |succ k ih=>
  intro s_0 gW aB σ H f0 sl o h Q q0;obtain⟨s0,s12⟩:=sl;unfold yT at h;refine aW (fun K hK=>aC ?_);unfold SA;obtain⟨e28,h⟩|⟨e28,h⟩:=aA h
  ·obtain⟨e29,h⟩:=aU h;obtain⟨x30,e31,h⟩:=aj h;obtain⟨e32,h⟩:=aU h;obtain⟨x33,e34,h⟩:=aj h;obtain⟨e35,h⟩|⟨e35,h⟩:=aA h
   ·refine dz ?_;refine hK _ _ ?_;exact ih s_0 (IntKind.wrap .i64 (gW+1)) _ _ _ aI aP _ h _ q0
   ·cases h;refine dz ?_;exact q0 _ _ rfl aI aP
  ·cases h;refine dz ?_;exact q0 _ _ rfl aI aP
def yU:Nat->Str->Int->Option Int
 |0,_,_=>none
 |k+1,s_0,gW=>
  cond (decide (gW<(s_0.length:Int))) (if 0<=gW then (s_0[gW.toNat]?).bind fun x73=>if 0<=(x73.toNat:Int)/\(x73.toNat:Int)<256 then (Ai[x73.toNat]?).bind fun x76=>cond (x76 !=0) (yU k s_0 (IntKind.wrap .i64 (gW+1))) (some (gW))else none else none) (some (gW))
def NI:List Nat:=[12]++List.range' 80 14
theorem Zo: ∀(k:Nat) (s_0:Str) (gW:Int) (aB σ:Nat->PV) (H:AH) (f0:Fr NI aB σ) (sl:σ 0=(.str s_0)/\σ 12=(.int .i64 gW)) (o:Int) (h:yU k s_0 gW=some o) (Q:Post) (q0: ∀(p:Int) (σ':Nat->PV),o=p->Fr NI aB σ'->(σ' 12=(.int .i64 p))->Q (.exit 6) σ' H),W Tryz.prog (.loop SB) Q σ H:=by
 intro k
 induction k with
 |zero=>intro s_0 gW aB σ H f0 sl o h Q q0;simp only [yU,reduceCtorEq]at h
 |succ k ih=>
  intro s_0 gW aB σ H f0 sl o h Q q0;obtain⟨s0,s12⟩:=sl;unfold yU at h;refine aW (fun K hK=>aC ?_);unfold SB;obtain⟨e71,h⟩|⟨e71,h⟩:=aA h
  ·obtain⟨e72,h⟩:=aU h;obtain⟨x73,e74,h⟩:=aj h;obtain⟨Uf,h⟩:=aU h;obtain⟨x76,Ye,h⟩:=aj h;obtain⟨e78,h⟩|⟨e78,h⟩:=aA h
   ·refine dz ?_;refine hK _ _ ?_;exact ih s_0 (IntKind.wrap .i64 (gW+1)) _ _ _ aI aP _ h _ q0
   ·cases h;refine dz ?_;exact q0 _ _ rfl aI aP
  ·cases h;refine dz ?_;exact q0 _ _ rfl aI aP
def vv:Nat->Str->(List Str)->Int->Int->Int->Option (((List Str)×Int×Int))
 |0,_,_,_,_,_=>none
 |k+1,s_0,NJ,nE,fZ,gW=>
  cond (decide (gW<(s_0.length:Int))) (if 0<=gW then (s_0[gW.toNat]?).bind fun x48=>if 0<=(x48.toNat:Int)/\(x48.toNat:Int)<256 then (Ai[x48.toNat]?).bind fun x51=>cond (x51==0) (vv k s_0 NJ nE fZ (IntKind.wrap .i64 (gW+1))) (if 0<=fZ/\fZ<=gW/\gW.toNat<=s_0.length then if 0<=nE then (NJ[nE.toNat]?).bind fun x56=>Option.bind (yU k s_0 (IntKind.wrap .i64 (gW+1))) (fun Yf=>vv k s_0 (NJ.set nE.toNat ((s_0.take gW.toNat).drop fZ.toNat)) (IntKind.wrap .i64 (nE+1)) Yf Yf)else none else none)else none else none) (some ((NJ,nE,fZ)))
def NM:List Nat:=[10,11,12]++List.range' 57 38
theorem Zp: ∀(k:Nat) (ER:PV) (CW:List Nat) (M:List Nat) (s_0:Str) (NJ:List Str) (nE:Int) (fZ:Int) (gW:Int) (aB σ:Nat->PV) (H0 H:AH) (f0:Fr NM aB σ) (hf0:HF M H0 H) (sl:σ 0=(.str s_0)/\σ 9=ER/\σ 10=(.int .i64 nE)/\σ 11=(.int .i64 fZ)/\σ 12=(.int .i64 gW)) (ES:aJ H aH 1 NJ ER CW) (Kh:Nw H0 M CW) (o:((List Str)×Int×Int)) (h:vv k s_0 NJ nE fZ gW=some o) (Q:Post) (q0: ∀(p:(List Str)×Int×Int) (v0:PV) (uw:List Nat) (σ':Nat->PV) (H':AH),o=p->Fr NM aB σ'->HF M H0 H'->(σ' 9=v0/\σ' 10=(.int .i64 p.2.1)/\σ' 11=(.int .i64 p.2.2))->aJ H' aH 1 p.1 v0 uw->Nw H0 M uw->Q (.exit 4) σ' H'),W Tryz.prog (.loop SC) Q σ H:=by
 intro k
 induction k with
 |zero=>intro ER CW M s_0 NJ nE fZ gW aB σ H0 H f0 hf0 sl ES Kh o h Q q0;simp only [vv,reduceCtorEq]at h
 |succ k ih=>
  intro ER CW M s_0 NJ nE fZ gW aB σ H0 H f0 hf0 sl ES Kh o h Q q0;obtain⟨s0,s9,s10,s11,s12⟩:=sl;have hle0:=hf0.1;unfold vv at h;refine aW (fun K hK=>aC ?_);unfold SC;obtain⟨e46,h⟩|⟨e46,h⟩:=aA h
  ·obtain⟨e47,h⟩:=aU h;obtain⟨x48,e49,h⟩:=aj h;obtain⟨e50,h⟩:=aU h;obtain⟨x51,e52,h⟩:=aj h;obtain⟨e53,h⟩|⟨e53,h⟩:=aA h
   ·refine dz ?_;refine hK _ _ ?_;exact ih ER CW M s_0 NJ nE fZ (IntKind.wrap .i64 (gW+1)) _ _ _ _ aI nZ aP (by repeat (first|exact ES|apply aJ.new|refine aJ.put ?_ (fun hm=>by have:=aJ.lt ES _ hm;omega))) Kh _ h _ q0
   ·obtain⟨e54,h⟩:=aU h;obtain⟨e55,h⟩:=aU h;obtain⟨x56,e57,h⟩:=aj h;obtain⟨w58,w59,asV,hil,w60,hC,hL,hD,hI⟩:=aJ.content ES e57;have w61:=ne_next hil;have w62:=aZ hil;have w63:jV 1 ER (.int .i64 nE)=some (.ref w58 (nE.toNat)):=by simpa using hI .i64 nE (by first|omega|decide) (by first|rfl|omega)
    have aEs:w59[nE.toNat]? =some (.str x56):=by simpa using hC 0 _ rfl
    clear hC hL hD hI;refine dz ?_;refine qc (f:=aH) (id:=w58) (o:=nE.toNat) (i:=nE.toNat) (j:=0) (a:=x56) (y:=((s_0.take gW.toNat).drop fZ.toNat)) (vs:=[(.str ((s_0.take gW.toNat).drop fZ.toNat))]) aP asV (by omega) (by repeat (first|exact ES|apply aJ.new|refine aJ.put ?_ (fun hm=>by have:=aJ.lt ES _ hm;omega))) e57 aP rfl rfl (by first|decide|(simp only [List.length_cons,List.length_nil];omega)) rfl (fun H66 r67 asW az4=> ?_);have le:=asW.1;try simp only [AH.aK,AH.aL,AH.aM,AH.aN]at le
    refine dz ?_;obtain⟨o79,h80,h⟩:=aj h;refine Zo k s_0 (IntKind.wrap .i64 (gW+1)) _ _ _ (Fr.refl _ _) aP _ h80 _ ?_
    ·rintro Yf σ' eo WV s85;rw [eo]at h;have s86:σ' 0=(.str s_0):=(WV 0 (by decide)).trans aP;have s87:σ' 9=ER:=(WV 9 (by decide)).trans aP;have s88:σ' 10=(.int .i64 (IntKind.wrap .i64 (nE+1))):=(WV 10 (by decide)).trans aP;refine dz ?_;refine hK _ _ ?_;exact ih ER CW M s_0 (NJ.set nE.toNat ((s_0.take gW.toNat).drop fZ.toNat)) (IntKind.wrap .i64 (nE+1)) Yf Yf _ _ _ _ (by repeat (first|exact f0|refine Fr.upd (by decide) ?_|refine Fr.via WV (by decide) ?_)) (by repeat (first|exact hf0|refine HF.new ?_|refine HF.qJ ?_|refine HF.used ?_|refine HF.put (by first|(right;omega)|(left;simp only [List.mem_cons,true_or,or_true])) ?_|refine HF.via asW Kh ?_)) aP (by repeat (first|exact r67|apply aJ.new|refine aJ.put ?_ (fun hm=>by have:=aJ.lt r67 _ hm;omega))) Kh _ h _ q0
  ·cases h;refine dz ?_;exact q0 _ ER CW _ _ rfl aI nZ aP (by repeat (first|exact ES|apply aJ.new|refine aJ.put ?_ (fun hm=>by have:=aJ.lt ES _ hm;omega))) Kh
def SV (k:Nat) (s_0:Str):Option (List Str):=
 Option.bind (yS k s_0 0 1 0 0) (fun iM=>cond (decide (iM.2>=128)) ((aaS s_0).bind fun EF=>some EF) (if 0<=iM.1/\iM.1<=1099511627776/\16*iM.1<=1099511627776 then Option.bind (yT k s_0 0) (fun p38=>Option.bind (vv k s_0 (List.replicate iM.1.toNat []) 0 p38 p38) (fun mR=>cond (decide (mR.2.2<(s_0.length:Int))) (if 0<=mR.2.2/\mR.2.2.toNat<=s_0.length then if 0<=mR.2.1 then (mR.1[mR.2.1.toNat]?).bind fun akZ=>some (mR.1.set mR.2.1.toNat (s_0.drop mR.2.2.toNat))else none else none) (some mR.1)))else none))
theorem agI {k:Nat} {s_0:Str} {r:List Str} (h:SV k s_0=some r):aD Tryz.prog 278 [(.str s_0)] (.ak (r.map aH) .unk):=by
 refine aD.aO (aX.mem (.cons (.str _) .nil)) (aF awR (by simp) (aC ?_)) (aT bE _);unfold SV at h;unfold anI;refine dz ?_;obtain⟨o8,h9,h⟩:=aj h;refine Zm k s_0 0 1 0 0 _ _ _ (Fr.refl _ _) aP _ h9 _ ?_
 ·rintro iM σ' eo CP ⟨J8,s15⟩;rw [eo]at h;have s16:σ' 0=(.str s_0):=(CP 0 (by decide)).trans aP;obtain⟨e17,h⟩|⟨e17,h⟩:=aA h
  ·obtain⟨EF,e18,h⟩:=aj h;refine dz ?_;refine av (agd s_0 e18) ?_;cases h;refine dz ?_;exact(dS bE _ _)
  ·obtain⟨e20,h⟩:=aU h;refine dz ?_;refine aaM (f:=aH) (k:= .i64) (n:=iM.1) (k':= .i64) (c:=iM.1) [] rfl aP aP (by omega) (by decide) (fun v21 aod H23 r24 aFr agr akE=> ?_);have le:=agr.1;try simp only [AH.aK,AH.aL,AH.aM,AH.aN]at le
   refine dz ?_;obtain⟨o36,h37,h⟩:=aj h;refine Zn k s_0 0 _ _ _ (Fr.refl _ _) aP _ h37 _ ?_
   ·rintro p38 σ' eo ak0 s42;rw [eo]at h;have s43:σ' 0=(.str s_0):=(ak0 0 (by decide)).trans aP;have s44:σ' 9=v21:=(ak0 9 (by decide)).trans aP;have s45:σ' 10=(.int .i64 0):=(ak0 10 (by decide)).trans aP;refine dz ?_;obtain⟨o89,h90,h⟩:=aj h;refine Zp k v21 aod (aod++[]) s_0 (List.replicate iM.1.toNat []) 0 p38 p38 _ _ _ _ (Fr.refl _ _) (HF.refl _ _) aP (by repeat (first|exact r24|apply aJ.new|refine aJ.put ?_ (fun hm=>by have:=aJ.lt r24 _ hm;omega))) (fun i hi=>Or.inl (by simp only [List.mem_append,List.mem_cons,hi,true_or,or_true])) _ h90 _ ?_
    ·rintro mR v95 aEt σ' H94 eo ak1 ak2 ⟨s99,ags,az5⟩ r97 aFs;rw [eo]at h;have aFt:σ' 0=(.str s_0):=(ak1 0 (by decide)).trans aP;have le:=ak2.1;try simp only [AH.aK,AH.aL,AH.aM,AH.aN]at le
     obtain⟨Lc,h⟩|⟨Lc,h⟩:=aA h
     ·obtain⟨agJ,h⟩:=aU h;obtain⟨Np,h⟩:=aU h;obtain⟨akZ,NP,h⟩:=aj h;obtain⟨asZ,az6,apO,hil,aFu,hC,hL,hD,hI⟩:=aJ.content r97 NP;have aFv:=ne_next hil;have aFw:=aZ hil;have aFx:jV 1 v95 (.int .i64 mR.2.1)=some (.ref asZ (mR.2.1.toNat)):=by simpa using hI .i64 mR.2.1 (by first|omega|decide) (by first|rfl|omega)
      have aCO:az6[mR.2.1.toNat]? =some (.str akZ):=by simpa using hC 0 _ rfl
      clear hC hL hD hI;refine dz ?_;refine qc (f:=aH) (id:=asZ) (o:=mR.2.1.toNat) (i:=mR.2.1.toNat) (j:=0) (a:=akZ) (y:=(s_0.drop mR.2.2.toNat)) (vs:=[(.str (s_0.drop mR.2.2.toNat))]) aP apO (by omega) (by repeat (first|exact r97|apply aJ.new|refine aJ.put ?_ (fun hm=>by have:=aJ.lt r97 _ hm;omega))) NP aP rfl rfl (by first|decide|(simp only [List.length_cons,List.length_nil];omega)) rfl (fun az7 as0 aw8 aml=> ?_);have le:=aw8.1;try simp only [AH.aK,AH.aL,AH.aM,AH.aN]at le
      cases h;refine dz ?_;exact(aJ.fz bE (by repeat (first|exact as0|apply aJ.new|refine aJ.put ?_ (fun hm=>by have:=aJ.lt as0 _ hm;omega))))
     ·cases h;refine dz ?_;exact(aJ.fz bE (by repeat (first|exact r97|apply aJ.new|refine aJ.put ?_ (fun hm=>by have:=aJ.lt r97 _ hm;omega))))
def xR (k:Nat):Option (List Str):=
 (SV k ([65,83,83,85,77,69,32,65,83,83,85,77,80,84,73,79,78,32,65,88,73,79,77,32,66,89,32,67,65,83,69,32,67,72,79,79,83,69,32,67,79,78,83,84,65,78,84,32,67,79,78,83,84,65,78,84,83,32,68,69,70,32,68,69,70,73,78,69,32,68,69,70,83,32,68,79,77,65,73,78,32,69,76,83,69,32,69,78,65,66,76,69,68,32,69,88,67,69,80,84,32,69,88,84,69,78,68,83,32,70,65,76,83,69,32,72,65,86,69,32,72,73,68,69,32,73,70,32,73,78,32,73,78,83,84,65,78,67,69,32,76,65,77,66,68,65,32,76,69,77,77,65,32,76,69,84,32,76,79,67,65,76,32,77,79,68,85,76,69,32,78,69,87,32,79,66,86,73,79,85,83,32,79,77,73,84,84,69,68,32,79,84,72,69,82,32,80,73,67,75,32,80,82,79,79,70,32,80,82,79,80,79,83,73,84,73,79,78,32,80,82,79,86,69,32,81,69,68,32,82,69,67,85,82,83,73,86,69,32,83,85,66,83,69,84,32,83,85,70,70,73,67,69,83,32,84,65,75,69,32,84,72,69,78,32,84,72,69,79,82,69,77,32,84,82,85,69,32,85,78,67,72,65,78,71,69,68,32,85,78,73,79,78,32,85,83,69,32,86,65,82,73,65,66,76,69,32,86,65,82,73,65,66,76,69,83,32,87,73,84,72,32,87,73,84,78,69,83,83,32,66,79,79,76,69,65,78,32,83,84,82,73,78,71]:Str)).bind fun p2=>some p2
theorem abT {k:Nat} {r:List Str} (h:xR k=some r):aD Tryz.prog 237 [] (.ak (r.map aH) .unk):=by
 refine aD.aO (aX.mem .nil) (aF awm (by simp) (aC ?_)) (aT bE _);unfold xR at h;unfold anc;obtain⟨p2,e1,h⟩:=aj h;refine ah ?_;refine av (agI e1) ?_;cases h;refine ah ?_;exact(dS bE _ _)
end Go.VL
end
section
namespace Go.VL
open Go.Proofs Go.RowKit
def Jr:List Str:=(xR 800).getD []
theorem aiL:xR 800=some Jr:=by
 have h:(xR 800).isSome=true:=by kernel_rfl
 rw [Jr];cases h1:xR 800 with
 |none=>rw [h1]at h;cases h
 |some r=>rfl
theorem as1:aD Tryz.prog 237 [] (.ak (Jr.map aH) .unk):=abT aiL
end Go.VL
end
section
set_option maxHeartbeats 4000000
namespace Go.VL
open Go.Proofs
def Dq (k:Nat) (s_0:Str) (Bj:Bool):Option Bool:=
 cond Bj (some (true)) ((lY s_0 ([87,70,95]:Str)).bind fun p5=>cond p5 (some (true)) ((lY s_0 ([83,70,95]:Str)).bind fun p8=>cond p8 (some (true)) ((bV k Jr s_0).bind fun ni=>some (ni))))
def NQ:List Nat:=List.range' 11 12
theorem Zq (k:Nat): ∀(s_0:Str) (Bj:Bool) (aB σ:Nat->PV) (H:AH) (f0:Fr NQ aB σ) (sl:σ 0=(.str s_0)/\σ 10=(.bool Bj)) (o:Bool) (h:Dq k s_0 Bj=some o) (Q:Post) (q0: ∀(p:Bool) (σ':Nat->PV),o=p->Fr NQ aB σ'->(σ' 22=(.bool p))->Q .normal σ' H),dH Tryz.prog Ro (Q .normal) σ H:=by
 intro s_0 Bj aB σ H f0 sl o h Q q0;obtain⟨s0,s10⟩:=sl;unfold Dq at h;refine fu ?_;unfold Ro;obtain⟨e3,h⟩|⟨e3,h⟩:=aA h
 ·cases h;refine ah ?_;exact q0 _ _ rfl aI au
 ·obtain⟨p5,e4,h⟩:=aj h;refine ah ?_;refine av (EG e4) ?_;obtain⟨e6,h⟩|⟨e6,h⟩:=aA h
  ·cases h;refine ah ?_;exact q0 _ _ rfl aI au
  ·obtain⟨p8,e7,h⟩:=aj h;refine ah ?_;refine av (EG e7) ?_;obtain⟨e9,h⟩|⟨e9,h⟩:=aA h
   ·cases h;refine ah ?_;exact q0 _ _ rfl aI au
   ·refine ah ?_;refine av (as1) ?_;obtain⟨ni,e10,h⟩:=aj h;refine ah ?_;refine av (gT e10) ?_;cases h;refine ah ?_;exact q0 _ _ rfl aI au
def yV (c_5:Int) (abU:Bool):Option Bool:=
 cond abU (some (true)) ((gP (IntKind.wrap .i64 c_5) 65 90).bind fun p29=>some (p29))
theorem Zr: ∀(c_5:Int) (abU:Bool) (aB σ:Nat->PV) (H:AH) (f0:Fr [35,36,37,38] aB σ) (sl:σ 5=(.int .u8 c_5)/\σ 34=(.bool abU)) (o:Bool) (h:yV c_5 abU=some o) (Q:Post) (q0: ∀(p:Bool) (σ':Nat->PV),o=p->Fr [35,36,37,38] aB σ'->(σ' 38=(.bool p))->Q .normal σ' H),dH Tryz.prog Rp (Q .normal) σ H:=by
 intro c_5 abU aB σ H f0 sl o h Q q0;obtain⟨s5,s34⟩:=sl;unfold yV at h;refine fu ?_;unfold Rp;obtain⟨e27,h⟩|⟨e27,h⟩:=aA h
 ·cases h;refine ah ?_;exact q0 _ _ rfl aI au
 ·obtain⟨p29,e28,h⟩:=aj h;refine ah ?_;refine av (gU e28) ?_;cases h;refine ah ?_;exact q0 _ _ rfl aI au
def kC:Nat->Int->(List Int)->Int->Int->Option (Int⊕Bool)
 |0,_,_,_,_=>none
 |k+1,kX,uz,jh,jS=>
  cond (decide (jS<jh)) (if 0<=jS then (uz[jS.toNat]?).bind fun x23=>(gP (IntKind.wrap .i64 x23) 97 122).bind fun p26=>Option.bind (yV x23 p26) (fun p32=>cond p32 (kC k (IntKind.wrap .i64 (kX+1)) uz jh (IntKind.wrap .i64 (jS+1))) ((gP (IntKind.wrap .i64 x23) 48 57).bind fun p44=>cond p44 (kC k kX uz jh (IntKind.wrap .i64 (jS+1))) (cond (x23 !=95) (some (.inr (false))) (kC k kX uz jh (IntKind.wrap .i64 (jS+1))))))else none) (some (.inl kX))
def Gz:List Nat:=[2,3,5]++List.range' 26 25
theorem Zt: ∀(k:Nat) (kX:Int) (uz:List Int) (jh:Int) (jS:Int) (aB σ:Nat->PV) (H:AH) (f0:Fr Gz aB σ) (sl:σ 3=(.int .i64 kX)/\σ 24=(.ak (uz.map u8L) .unk)/\σ 25=(.int .i64 jh)/\σ 26=(.int .i64 jS)) (o:Int⊕Bool) (h:kC k kX uz jh jS=some o) (Q:Post) (q0: ∀(p:Int) (σ':Nat->PV),o= .inl p->Fr Gz aB σ'->(σ' 3=(.int .i64 p))->Q (.exit 0) σ' H) (q1: ∀(p:Bool) (σ':Nat->PV),o= .inr (p)->Fr Gz aB σ'->(σ' 2=(.bool p))->Q .ret σ' H),W Tryz.prog (.loop Rq) Q σ H:=by
 intro k
 induction k with
 |zero=>intro kX uz jh jS aB σ H f0 sl o h Q q0 q1;simp only [kC,reduceCtorEq]at h
 |succ k ih=>
  intro kX uz jh jS aB σ H f0 sl o h Q q0 q1;obtain⟨s3,s24,s25,s26⟩:=sl;unfold kC at h;refine aW (fun K hK=>aC ?_);unfold Rq;obtain⟨e21,h⟩|⟨e21,h⟩:=aA h
  ·obtain⟨e22,h⟩:=aU h;obtain⟨x23,e24,h⟩:=aj h;obtain⟨p26,e25,h⟩:=aj h;refine ah ?_;refine av (gU e25) ?_;refine ah ?_;obtain⟨o30,h31,h⟩:=aj h;refine Zr x23 p26 _ _ _ (Fr.refl _ _) au _ h31 _ ?_
   ·rintro p32 σ' eo vH s36;rw [eo]at h;have s37:σ' 3=(.int .i64 kX):=(vH 3 (by decide)).trans au;have s38:σ' 5=(.int .u8 x23):=(vH 5 (by decide)).trans au;have s39:σ' 24=(.ak (uz.map u8L) .unk):=(vH 24 (by decide)).trans au;have s40:σ' 25=(.int .i64 jh):=(vH 25 (by decide)).trans au;have s41:σ' 26=(.int .i64 jS):=(vH 26 (by decide)).trans au;obtain⟨e42,h⟩|⟨e42,h⟩:=aA h
    ·refine ah ?_;refine hK _ _ ?_;exact ih (IntKind.wrap .i64 (kX+1)) uz jh (IntKind.wrap .i64 (jS+1)) _ _ _ (by repeat (first|exact f0|refine Fr.upd (by decide) ?_|refine Fr.via vH (by decide) ?_)) au _ h _ q0 q1
    ·obtain⟨p44,e43,h⟩:=aj h;refine ah ?_;refine av (gU e43) ?_;obtain⟨e45,h⟩|⟨e45,h⟩:=aA h
     ·refine ah ?_;refine hK _ _ ?_;exact ih kX uz jh (IntKind.wrap .i64 (jS+1)) _ _ _ (by repeat (first|exact f0|refine Fr.upd (by decide) ?_|refine Fr.via vH (by decide) ?_)) au _ h _ q0 q1
     ·obtain⟨e46,h⟩|⟨e46,h⟩:=aA h
      ·cases h;refine ah ?_;exact q1 _ _ rfl (by repeat (first|exact f0|refine Fr.upd (by decide) ?_|refine Fr.via vH (by decide) ?_)) au
      ·refine ah ?_;refine hK _ _ ?_;exact ih kX uz jh (IntKind.wrap .i64 (jS+1)) _ _ _ (by repeat (first|exact f0|refine Fr.upd (by decide) ?_|refine Fr.via vH (by decide) ?_)) au _ h _ q0 q1
  ·cases h;refine ah ?_;exact q0 _ _ rfl aI au
def uD (k:Nat) (s_0:Str):Option Bool:=
 (gP (s_0.length:Int) 1 24).bind fun p2=>Option.bind (Dq k s_0 (!p2)) (fun iQ=>cond iQ (some false) (Option.bind (kC k 0 (sF s_0) ((sF s_0).length:Int) 0) (fun o=>Sum.elim (fun p49=>some (decide (p49>0))) (fun p54=>some p54) o)))
theorem Bl {k:Nat} {s_0:Str} {r:Bool} (h:uD k s_0=some r):aD Tryz.prog 187 [(.str s_0)] (.bool r):=by
 refine aD.aO (aX.mem (.cons (.str _) .nil)) (aF avW (by simp) (aC ?_)) (.bool _);unfold uD at h;unfold amO;obtain⟨p2,e1,h⟩:=aj h;refine ah ?_;refine av (gU e1) ?_;refine ah ?_;obtain⟨o12,Uk,h⟩:=aj h;refine Zq k s_0 (!p2) _ _ _ (Fr.refl _ _) au _ Uk _ ?_
 ·rintro iQ σ' eo sI iX;rw [eo]at h;have oW:σ' 0=(.str s_0):=(sI 0 (by decide)).trans au;obtain⟨e20,h⟩|⟨e20,h⟩:=aA h
  ·cases h;refine ah ?_;exact(.pure _ (.bool _))
  ·refine ah ?_;obtain⟨o47,h48,h⟩:=aj h;refine Zt k 0 (sF s_0) ((sF s_0).length:Int) 0 _ _ _ (Fr.refl _ _) au _ h48 _ ?_ ?_
   ·rintro p49 σ' eo Nr s53;subst eo;rw [bI]at h;cases h;refine ah ?_;exact(.pure _ (.bool _))
   ·rintro p54 σ' eo agK s58;subst eo;rw [bL]at h;cases h;refine ah ?_;exact(.pure _ (.bool _))
def xS (k:Nat) (s_0:Str):Option Bool:=
 cond (decide ((s_0.length:Int)>49)) (some false) ((akG s_0 ([33]:Str)).bind fun p5=>cond (decide (p5>=0)) (if 0<=p5/\p5.toNat<=s_0.length then if 0<=(IntKind.wrap .i64 (p5+1))/\(IntKind.wrap .i64 (p5+1)).toNat<=s_0.length then (uD k (s_0.take p5.toNat)).bind fun iM=>cond iM ((uD k (s_0.drop (IntKind.wrap .i64 (p5+1)).toNat)).bind fun wE=>some wE) (some false)else none else none) ((uD k s_0).bind fun wD=>cond wD (some true) (some false)))
theorem NR {k:Nat} {s_0:Str} {r:Bool} (h:xS k s_0=some r):aD Tryz.prog 272 [(.str s_0)] (.bool r):=by
 refine aD.aO (aX.mem (.cons (.str _) .nil)) (aF awN (by simp) (aC ?_)) (.bool _);unfold xS at h;unfold anE;obtain⟨e1,h⟩|⟨e1,h⟩:=aA h
 ·cases h;refine ah ?_;exact(.pure _ (.bool _))
 ·refine ah ?_;refine aF aw0 (by simp) (aC ?_);unfold anR;refine ah ?_;refine aF aw2 (by simp) (aC ?_);unfold anT;obtain⟨p5,e4,h⟩:=aj h;refine ah ?_;refine av (arY s_0 ([33]:Str) e4) ?_;obtain⟨e6,h⟩|⟨e6,h⟩:=aA h
  ·refine ah ?_;refine iJ ?_;obtain⟨e7,h⟩:=aU h;obtain⟨e8,h⟩:=aU h;obtain⟨iM,e9,h⟩:=aj h;refine ah ?_;refine av (Bl e9) ?_;obtain⟨e11,h⟩|⟨e11,h⟩:=aA h
   ·obtain⟨wE,e12,h⟩:=aj h;refine ah ?_;refine av (Bl e12) ?_;cases h;refine ah ?_;exact(.pure _ (.bool _))
   ·cases h;refine ah ?_;exact(.pure _ (.bool _))
  ·obtain⟨wD,e14,h⟩:=aj h;refine ah ?_;refine av (Bl e14) ?_;obtain⟨e16,h⟩|⟨e16,h⟩:=aA h
   ·cases h;refine ah ?_;exact(.pure _ (.bool _))
   ·cases h;refine ah ?_;exact(.pure _ (.bool _))
end Go.VL
end
section
namespace Go.VL
open Go.Proofs Go.RowKit
theorem Vs.aw9 {G:Gh} {n:Nat} {s:List UInt8} {g:FuncId} {vs:Array Value} (h:Vs G n [.str s,.fn (.func g) [] []] vs):vs=#[.string ⟨s.toArray⟩,.func (.func g) #[] #[]]:=by
 obtain⟨h1,h2⟩:=h
 match vs,h1,h2 with
 |⟨[v,u]⟩,_,h2=>
   have e1:=h2 0 (.str s) v rfl rfl;have e2:=h2 1 (.fn (.func g) [] []) u rfl rfl;cases e1;cases e2 with
   |fn g cs ds vs us h1 _ h3 _=>
    have a1:vs=#[]:=Array.size_eq_zero_iff.1 h1;have a2:us=#[]:=Array.size_eq_zero_iff.1 h3;rw [a1,a2]
theorem aiO {g:FuncId} {p:Nat->Bool} (hp: ∀x:Nat,x<=1114111->aD Tryz.prog g [.int .i32 x] (.bool (p x))) {w:World} (hg: ∀a x,Glob.gc a=some x->w.cell? a=some x) (hw:WH (fun b=>w.heap.size<=b) w):PredGrows Tryz.prog g #[] p w:=by
 intro W x hx hb;have hM:bA Tryz.prog g [.int .i32 x] AH.empty fun v _=>v= .bool (p x):=bA.mono (hp x hx AH.empty) fun v H' q=>q.1;refine(bA.top hM (fun a y e=>(World.cell?_of_block (hb.block _ (World.block_lt_of_cell? w a (hg a y e)))).trans (hg a y e)) (hw.keep fun b _ hlt=>hb.block b hlt).old (vs:=#[encR x]++#[]) ?_);exact⟨rfl,fun j c y e e'=>by
  match j,e,e' with
  |0,e,e'=>cases e;cases e';exact .int _ _⟩
theorem Xa {g:FuncId} (p:Nat->Bool) (he: ∀args w,(callFunc g args).run Tryz.prog w= .ok (.enter g args) w) (hp: ∀x:Nat,x<=1114111->aD Tryz.prog g [.int .i32 x] (.bool (p x))) (s:Str):
 aD Tryz.prog 270 [.str s,.fn (.func g) [] []] (.bool (decide (0<=Lib.idxFunc p true ⟨s.toArray⟩))):=by
 refine Na ⟨_,Tryz.func270,rfl,by kernel_rfl⟩ (fun w G vs hg hi hw hv=> ?_) (aX.mem (.cons (.str _) (.cons (.fn _ _ _ (aX.mem .nil) (aX.mem .nil)) .nil)));rw [Vs.aw9 hv];refine(Tryz.strings_ContainsFunc_grows g #[] he p ⟨s.toArray⟩ w (aiO hp hg hw)).mono ?_;rintro e w' ⟨rfl,hb⟩;exact⟨_,rfl,hb,fun G n=> .bool _⟩
def UC (x y:Int):Int×Int:=(((x.toNat*y.toNat/18446744073709551616:Nat):Int),((x.toNat*y.toNat% 18446744073709551616:Nat):Int))
theorem Vs.axa {G:Gh} {n:Nat} {x y:Int} {k k':IntKind} {vs:Array Value} (h:Vs G n [.int k x,.int k' y] vs):vs=#[.int k x,.int k' y]:=by
 obtain⟨h1,h2⟩:=h
 match vs,h1,h2 with
 |⟨[v,u]⟩,_,h2=>
   have e1:=h2 0 (.int k x) v rfl rfl;have e2:=h2 1 (.int k' y) u rfl rfl;cases e1;cases e2;rfl
theorem apP (x y:Int) (h:(0<=x/\x<18446744073709551616)/\(0<=y/\y<18446744073709551616)):aD Tryz.prog 295 [.int .u64 x,.int .u64 y] (.cK [.int .u64 (UC x y).1,.int .u64 (UC x y).2]):=by
 refine aaI ⟨_,Tryz.func295,rfl,by kernel_rfl⟩ (fun w G vs hg hi hv=> ?_) (aX.mem (.cons (.int _ _) (.cons (.int _ _) .nil)));rw [Vs.axa hv];obtain⟨a,rfl⟩: ∃a:Nat,x=a:=⟨x.toNat,by omega⟩;obtain⟨b,rfl⟩: ∃b:Nat,y=b:=⟨y.toNat,by omega⟩;refine(Tryz.bits_Mul64 a b (by omega) (by omega) w).mono ?_;rintro e w' ⟨rfl,rfl⟩;refine⟨_,rfl,Below.refl _ _,fun G n=> ?_⟩;refine .cK _ _ rfl fun j c y e e'=> ?_
 match j,e,e' with
 |0,e,e'=>cases e;cases e';exact .int _ _
 |1,e,e'=>cases e;cases e';exact .int _ _
theorem P5 (p:Nat->Bool) (hp: ∀x,128<=x->p x=true) (s:Str): ∀(f pos:Nat),s.length<=pos+f->
 decide (0<=Lib.idxFuncFrom p true ⟨s.toArray⟩ f pos)=(s.drop pos).any (fun c=>p c.toNat)
 |0,pos,h=>by rw [List.drop_eq_nil_of_le (by omega)];rfl
 |f+1,pos,h=>by
  have hsz:(⟨s.toArray⟩:ByteArray).size=s.length:=rfl;by_cases hlt:pos<s.length
  · have hlt':pos<(⟨s.toArray⟩:ByteArray).size:=hlt;have hget:(⟨s.toArray⟩:ByteArray)[pos]'hlt'=s[pos]:=rfl;rw [List.drop_eq_getElem_cons hlt,List.any_cons];simp only [Lib.idxFuncFrom,hsz,hlt,if_true];by_cases ha:(s[pos]).toNat<128
    · rw [decode_ascii ⟨s.toArray⟩ pos hlt' (by rw [hget];exact ha),hget];by_cases hq:p (s[pos]).toNat=true
      · simp only [hq,if_true,Bool.true_or];exact decide_eq_true (by omega)
      · simp only [hq,Bool.false_or];exact P5 p hp s f (pos+1) (by omega)
    · have hd:=decode_high ⟨s.toArray⟩ pos hlt' (by rw [hget];omega);rw [if_pos (hp _ hd.1),hp _ (by omega),Bool.true_or];exact decide_eq_true (by omega)
  · rw [List.drop_eq_nil_of_le (by omega),Lib.idxFuncFrom_end _ _ _ _ _ (by rw [hsz];exact hlt)];rfl
theorem apQ (p:Nat->Bool) (hp: ∀x,128<=x->p x=true) (s:Str):decide (0<=Lib.idxFunc p true ⟨s.toArray⟩)=s.any (fun c=>p c.toNat):=by
 have h:=P5 p hp s s.length 0 (by omega);rw [List.drop_zero]at h;exact h
def SX (x:Nat):Bool:=bif decide (32<=x)&&decide (x<=126)then x==34||x==92 else true
theorem aiP (x:Nat) (h:x<=1114111):EO (x:Int)=some (SX x):=by
 have hw:IntKind.wrap .i64 (x:Int)=x:=IntWalk.i64_in _ (by omega);unfold EO gP SX;rw [hw];by_cases h1:32<=x
 · have h1':(32:Int)<=x:=by omega
   by_cases h2:x<=126
   · have h2':(x:Int)<=126:=by omega
     have e1:((x:Int)==34)=(x==34):=by rw [Bool.eq_iff_iff];simp only [beq_iff_eq];omega
     have e2:((x:Int)==92)=(x==92):=by rw [Bool.eq_iff_iff];simp only [beq_iff_eq];omega
     simp only [h1,h1',h2,h2',decide_true,cond_true,Bool.and_true,Option.bind_some,e1,e2];cases x==34<;>rfl
   · have h2': ¬(x:Int)<=126:=by omega
     simp [h1,h1',h2,h2']
 · have h1': ¬(32:Int)<=x:=by omega
   simp [h1,h1']
def agL (s:Str):Bool:=s.any (fun c=>SX c.toNat)
theorem as3 (s:Str):aD Tryz.prog 270 [.str s,.fn (.func 269) [] []] (.bool (agL s)):=by
 have h:=Xa (g:=269) SX (fun args w=>by kernel_rfl) (fun x hx=>abI (aiP x hx)) s;rw [apQ SX (fun x hx=>by
  have h2: ¬x<=126:=by omega
  simp [SX,h2]) s]at h
 exact h
end Go.VL
end
section
set_option maxHeartbeats 4000000
namespace Go.VL
open Go.Proofs
def wQ (s_0:Str):Option Bool:=
 cond (decide ((s_0.length:Int)<=40)) (some (!(agL s_0))) (some false)
theorem ET {s_0:Str} {r:Bool} (h:wQ s_0=some r):aD Tryz.prog 228 [(.str s_0)] (.bool r):=by
 refine aD.aO (aX.mem (.cons (.str _) .nil)) (aF awh (by simp) (aC ?_)) (.bool _);unfold wQ at h;unfold am7;obtain⟨e1,h⟩|⟨e1,h⟩:=aA h
 ·refine ah ?_;refine av (as3 s_0) ?_;cases h;refine ah ?_;exact(.pure _ (.bool _))
 ·cases h;refine ah ?_;exact(.pure _ (.bool _))
end Go.VL
end
section
namespace Go.VL
open Go.Proofs Go.RowKit
theorem ZW {G:Gh} {m:Nat} {v:Value} (h:V G m (.ak [] .nil) v):v= .slice none 0 0:=by
 generalize hp:PV.ak [] .nil=p at h;cases h with
 |ak es c sz ad cap f h1 h2 h3 h4 h5=>
  cases hp;have q1:=h5.1;have q2:=h5.2.2;rw [q1,q2];rfl
 |_=>cases hp
theorem Vs.as4 {G:Gh} {m:Nat} {n:Int} {vs:Array Value} (h:Vs G m [.ak [] .nil,.int .i64 n] vs):vs=#[.slice none 0 0,.int .i64 n]:=by
 obtain⟨h1,h2⟩:=h
 match vs,h1,h2 with
 |⟨[v,u]⟩,_,h2=>
   have e1:=h2 0 (.ak [] .nil) v rfl rfl;have e2:=h2 1 (.int .i64 n) u rfl rfl;cases e2;have e3:=ZW e1;rw [e3]
theorem aof (zs:Array Value) (k:Nat):(Builtin.zeroCells zs k).size=k*zs.size:=by simp [Builtin.zeroCells]
theorem aiQ (n:Int) (h:0<n/\n<=1000000):KT Tryz.prog 321 [.ak [] .nil,.int .i64 n] Operator.cells 7 []:=by
 intro H;refine⟨⟨_,Tryz.func321,rfl,by kernel_rfl⟩,fun B G w vs hU hM hv=> ?_⟩;obtain⟨n,rfl⟩: ∃k:Nat,n=k:=⟨n.toNat,by omega⟩;rw [Vs.as4 hv];obtain⟨i0,hi0,hq⟩: ∃i0,Tryz.prog.info? (Tryz.growOp_ren.t 25)=some i0/\(i0.zero.map fun z=>z.cells.size)=some 7/\i0.size=7/\i0.bytes=64:=by
  have h:(Tryz.prog.info? (Tryz.growOp_ren.t 25)).map (fun i0=>((i0.zero.map fun z=>z.cells.size),i0.size,i0.bytes))=some (some 7,7,64):=by kernel_rfl
  cases hi:Tryz.prog.info? (Tryz.growOp_ren.t 25)with
  |none=>rw [hi]at h;cases h
  |some i0=>rw [hi]at h;simp only [Option.map_some,Option.some.injEq,Prod.mk.injEq]at h;exact⟨i0,rfl,h.1,h.2.1,h.2.2⟩
 obtain⟨hz,hs,hb⟩:=hq;obtain⟨z,hz0,hz1⟩:=Option.map_eq_some_iff.1 hz;have key:=Any8.slices_Grow_grow Tryz.growOp i0 z hi0 hz0 (by omega) none 0 0 n [] w (Nat.le_refl _) (by omega) (by rw [hb];omega) (by omega) (by simp) (fun _=>rfl) (fun a e=>by cases e);have hge:=grownCap_ge w (0+n) 0 (Tryz.growOp_ren.t 25);refine key.mono ?_;rintro e w' ⟨rfl,rfl⟩
 obtain⟨G',e1,e2,e3⟩:=HM.newObj (w:=w.drew) hU hM.drew (Tryz.growOp_ren.t 25) (Vs.VN (G:=G) H.next (grownCap w (0+n) 0 (Tryz.growOp_ren.t 25)*7) _ (by
  show((#[]:Array Value)++Builtin.zeroCells z.cells (0+n -0)++Builtin.zeroCells z.cells (grownCap w (0+n) 0 (Tryz.growOp_ren.t 25) -(0+n))).size=_
  rw [Array.size_append,Array.size_append,aof,aof,hz1];simp only [Array.size_empty];omega))
 refine⟨_,_,_,G',rfl,Tr.DF w _,e1,Nat.le_succ _,e2,.bR H.next 0 0 _ 7 _ (Nat.lt_succ_self _) e3,[H.next],.inr ⟨H.next,_,List.replicate (grownCap w (0+n) 0 (Tryz.growOp_ren.t 25)*7) .any,rfl,rfl,Nat.zero_le _,Nat.lt_succ_self _,?_,?_⟩,?_,(HF.refl _ _).new,fun c3 hc=>hc.new⟩
 · show(if H.next=H.next then some _ else _)=_
   rw [if_pos rfl];rfl
 · rw [List.length_replicate,List.length_nil,Nat.sub_zero]
 · intro i hi;rw [List.mem_singleton.1 hi];exact .inr (Nat.le_refl _)
end Go.VL
end
section
set_option maxHeartbeats 4000000
namespace Go.VL
open Go.Proofs
def wR:Nat->Int->Int->(List Operator)->(List Str)->Int->Int->Option (List Operator)
 |0,_,_,_,_,_,_=>none
 |k+1,iD,fM,Dr,Bj,bY,ji=>
  cond (decide (ji<bY)) (if 0<=ji then (Bj[ji.toNat]?).bind fun x3=>if(Dr.length+1)*64<=1099511627776 then wR k iD fM (Dr++[(Operator.mk x3 0 iD fM false 1 1)]) Bj bY (IntKind.wrap .i64 (ji+1))else none else none) (some (Dr))
def Mc:List Nat:=[7,9]++List.range' 12 12
theorem Xb: ∀(k:Nat) (iD:Int) (fM:Int) (Dr:List Operator) (Bj:List Str) (bY:Int) (ji:Int) (xU:Ck) (aB σ:Nat->PV) (H0 H:AH) (f0:Fr Mc aB σ) (hf0:HF [] H0 H) (sl:σ 0=(.int .i64 iD)/\σ 1=(.int .i64 fM)/\σ 7=(.ak (Dr.map Operator.cells) xU)/\σ 10=(.ak (Bj.map aH) .unk)/\σ 11=(.int .i64 bY)/\σ 12=(.int .i64 ji)) (abV:bq H xU) (o:List Operator) (h:wR k iD fM Dr Bj bY ji=some o) (Q:Post) (q0: ∀(p:List Operator) (c0:Ck) (σ':Nat->PV) (H':AH),o=p->Fr Mc aB σ'->HF [] H0 H'->(σ' 7=(.ak (p.map Operator.cells) c0))->Q (.exit 0) σ' H'),W Tryz.prog (.loop SG) Q σ H:=by
 intro k
 induction k with
 |zero=>intro iD fM Dr Bj bY ji xU aB σ H0 H f0 hf0 sl abV o h Q q0;simp only [wR,reduceCtorEq]at h
 |succ k ih=>
  intro iD fM Dr Bj bY ji xU aB σ H0 H f0 hf0 sl abV o h Q q0;obtain⟨s0,s1,s7,s10,s11,s12⟩:=sl;have hle0:=hf0.1;unfold wR at h;refine aW (fun K hK=>aC ?_);unfold SG;obtain⟨e1,h⟩|⟨e1,h⟩:=aA h
  ·obtain⟨e2,h⟩:=aU h;obtain⟨x3,e4,h⟩:=aj h;obtain⟨e9,h⟩:=aU h;refine ah ?_;refine gq (f:=Operator.cells) Operator.row Dr ([(Operator.mk x3 0 iD fM false 1 1)]:List Operator) xU .exact au au eZ (by first|exact e9|(simp only [List.length_cons,List.length_nil];exact e9)) (fun c5 H6 ok7 le ak3 rl8=> ?_);have ak4:HF [] _ H6:=⟨le,fun i _ _=>ak3 i⟩;try simp only [AH.aK,AH.aL,AH.aM,AH.aN]at le
   refine ah ?_;refine hK _ _ ?_;exact ih iD fM (Dr++[(Operator.mk x3 0 iD fM false 1 1)]) Bj bY (IntKind.wrap .i64 (ji+1)) c5 _ _ _ _ aI (by repeat (first|exact hf0|refine HF.new ?_|refine HF.qJ ?_|refine HF.used ?_|refine HF.put (by first|(right;omega)|(left;simp only [List.mem_cons,true_or,or_true])) ?_|refine HF.via ak4 (by first|exact fun i hi=>absurd hi List.not_mem_nil|(intro i hi;simp only [List.mem_cons,List.not_mem_nil,or_false]at hi⊢;first|exact .inl hi|omega)) ?_)) au eZ _ h _ q0
  ·cases h;refine ah ?_;exact q0 _ xU _ _ rfl aI nZ au
def wS (k:Nat) (iD:Int) (fM:Int) (CX:List Str):Option (List Operator):=
 Option.bind (wR k iD fM ([]:List Operator) CX (CX.length:Int) 0) (fun iQ=>some iQ)
theorem yX {k:Nat} {iD:Int} {fM:Int} {CX:List Str} {c2:Ck} {r:List Operator} (h:wS k iD fM CX=some r):aD Tryz.prog 289 [(.int .i64 iD),(.int .i64 fM),(.ak (CX.map aH) c2)] (.ak (r.map Operator.cells) .unk):=by
 refine aD.lw (.same (.same (.ak .nil))) (aD.aO (aX.mem (.cons (.int _ _) (.cons (.int _ _) (.cons (aT bE _) .nil)))) (aF awX (by simp) (aC ?_)) (aT Operator.pu _));unfold wS at h;unfold anO;refine ah ?_;obtain⟨o12,Uk,h⟩:=aj h;refine Xb k iD fM ([]:List Operator) CX (CX.length:Int) 0 .nil _ _ _ _ (Fr.refl _ _) (HF.refl _ _) au eZ _ Uk _ ?_
 ·rintro iQ c18 σ' H17 eo sI abW oW;rw [eo]at h;have le:=abW.1;try simp only [AH.aK,AH.aL,AH.aM,AH.aN]at le
  cases h;refine ah ?_;exact(dS Operator.pu _ _)
def wT:Nat->Int->Int->Bool->(List Operator)->(List Str)->Int->Int->Option (List Operator)
 |0,_,_,_,_,_,_,_=>none
 |k+1,iD,fM,pz,Dt,ji,dR,uE=>
  cond (decide (uE<dR)) (if 0<=uE then (ji[uE.toNat]?).bind fun x3=>if(Dt.length+1)*64<=1099511627776 then wT k iD fM pz (Dt++[(Operator.mk x3 1 iD fM pz 2 2)]) ji dR (IntKind.wrap .i64 (uE+1))else none else none) (some (Dt))
def Md:List Nat:=[9,11]++List.range' 14 13
theorem Xc: ∀(k:Nat) (iD:Int) (fM:Int) (pz:Bool) (Dt:List Operator) (ji:List Str) (dR:Int) (uE:Int) (xV:Ck) (aB σ:Nat->PV) (H0 H:AH) (f0:Fr Md aB σ) (hf0:HF [] H0 H) (sl:σ 0=(.int .i64 iD)/\σ 1=(.int .i64 fM)/\σ 2=(.bool pz)/\σ 9=(.ak (Dt.map Operator.cells) xV)/\σ 12=(.ak (ji.map aH) .unk)/\σ 13=(.int .i64 dR)/\σ 14=(.int .i64 uE)) (abX:bq H xV) (o:List Operator) (h:wT k iD fM pz Dt ji dR uE=some o) (Q:Post) (q0: ∀(p:List Operator) (c0:Ck) (σ':Nat->PV) (H':AH),o=p->Fr Md aB σ'->HF [] H0 H'->(σ' 9=(.ak (p.map Operator.cells) c0))->Q (.exit 0) σ' H'),W Tryz.prog (.loop SH) Q σ H:=by
 intro k
 induction k with
 |zero=>intro iD fM pz Dt ji dR uE xV aB σ H0 H f0 hf0 sl abX o h Q q0;simp only [wT,reduceCtorEq]at h
 |succ k ih=>
  intro iD fM pz Dt ji dR uE xV aB σ H0 H f0 hf0 sl abX o h Q q0;obtain⟨s0,s1,s2,s9,s12,s13,J8⟩:=sl;have hle0:=hf0.1;unfold wT at h;refine aW (fun K hK=>aC ?_);unfold SH;obtain⟨e1,h⟩|⟨e1,h⟩:=aA h
  ·obtain⟨e2,h⟩:=aU h;obtain⟨x3,e4,h⟩:=aj h;obtain⟨e9,h⟩:=aU h;refine ah ?_;refine gq (f:=Operator.cells) Operator.row Dt ([(Operator.mk x3 1 iD fM pz 2 2)]:List Operator) xV .exact au au eZ (by first|exact e9|(simp only [List.length_cons,List.length_nil];exact e9)) (fun c5 H6 ok7 le ak3 rl8=> ?_);have ak4:HF [] _ H6:=⟨le,fun i _ _=>ak3 i⟩;try simp only [AH.aK,AH.aL,AH.aM,AH.aN]at le
   refine ah ?_;refine hK _ _ ?_;exact ih iD fM pz (Dt++[(Operator.mk x3 1 iD fM pz 2 2)]) ji dR (IntKind.wrap .i64 (uE+1)) c5 _ _ _ _ aI (by repeat (first|exact hf0|refine HF.new ?_|refine HF.qJ ?_|refine HF.used ?_|refine HF.put (by first|(right;omega)|(left;simp only [List.mem_cons,true_or,or_true])) ?_|refine HF.via ak4 (by first|exact fun i hi=>absurd hi List.not_mem_nil|(intro i hi;simp only [List.mem_cons,List.not_mem_nil,or_false]at hi⊢;first|exact .inl hi|omega)) ?_)) au eZ _ h _ q0
  ·cases h;refine ah ?_;exact q0 _ xV _ _ rfl aI nZ au
def gF (k:Nat) (iD:Int) (fM:Int) (pz:Bool) (CY:List Str):Option (List Operator):=
 Option.bind (wT k iD fM pz ([]:List Operator) CY (CY.length:Int) 0) (fun iQ=>some iQ)
theorem fI {k:Nat} {iD:Int} {fM:Int} {pz:Bool} {CY:List Str} {c3:Ck} {r:List Operator} (h:gF k iD fM pz CY=some r):aD Tryz.prog 290 [(.int .i64 iD),(.int .i64 fM),(.bool pz),(.ak (CY.map aH) c3)] (.ak (r.map Operator.cells) .unk):=by
 refine aD.lw (.same (.same (.same (.ak .nil)))) (aD.aO (aX.mem (.cons (.int _ _) (.cons (.int _ _) (.cons (.bool _) (.cons (aT bE _) .nil))))) (aF awY (by simp) (aC ?_)) (aT Operator.pu _));unfold gF at h;unfold anP;refine ah ?_;obtain⟨o12,Uk,h⟩:=aj h;refine Xc k iD fM pz ([]:List Operator) CY (CY.length:Int) 0 .nil _ _ _ _ (Fr.refl _ _) (HF.refl _ _) au eZ _ Uk _ ?_
 ·rintro iQ c18 σ' H17 eo sI abW oW;rw [eo]at h;have le:=abW.1;try simp only [AH.aK,AH.aL,AH.aM,AH.aN]at le
  cases h;refine ah ?_;exact(dS Operator.pu _ _)
def ru:Nat->Int->(List (List Operator))->Int->Option Int
 |0,_,_,_=>none
 |k+1,Bn,IC,bY=>
  cond (decide (bY<24)) (if 0<=bY then (IC[bY.toNat]?).bind fun NS=>cond (decide ((IntKind.wrap .i64 (Bn+(NS.length:Int)))<0)) (none) (ru k (IntKind.wrap .i64 (Bn+(NS.length:Int))) IC (IntKind.wrap .i64 (bY+1)))else none) (some (Bn))
def GA:List Nat:=[3,5]++List.range' 11 12
theorem Pm: ∀(k:Nat) (Bn:Int) (IC:List (List Operator)) (bY:Int) (Lh:Ck) (aB σ:Nat->PV) (H:AH) (f0:Fr GA aB σ) (sl:σ 3=(.int .i64 Bn)/\σ 9=(.ak (IC.map (eu Operator.cells)) Lh)/\σ 10=(.int .i64 24)/\σ 11=(.int .i64 bY)) (o:Int) (h:ru k Bn IC bY=some o) (Q:Post) (q0: ∀(p:Int) (σ':Nat->PV),o=p->Fr GA aB σ'->(σ' 3=(.int .i64 p))->Q (.exit 0) σ' H),W Tryz.prog (.loop SI) Q σ H:=by
 intro k
 induction k with
 |zero=>intro Bn IC bY Lh aB σ H f0 sl o h Q q0;simp only [ru,reduceCtorEq]at h
 |succ k ih=>
  intro Bn IC bY Lh aB σ H f0 sl o h Q q0;obtain⟨s3,s9,s10,s11⟩:=sl;unfold ru at h;refine aW (fun K hK=>aC ?_);unfold SI;obtain⟨e48,h⟩|⟨e48,h⟩:=aA h
  ·obtain⟨e49,h⟩:=aU h;obtain⟨NS,e51,h⟩:=aj h;obtain⟨e52,h⟩|⟨e52,h⟩:=aA h
   ·cases h
   ·refine dz ?_;refine hK _ _ ?_;exact ih (IntKind.wrap .i64 (Bn+(NS.length:Int))) IC (IntKind.wrap .i64 (bY+1)) Lh _ _ _ aI aP _ h _ q0
  ·cases h;refine dz ?_;exact q0 _ _ rfl aI aP
def rz:Nat->(List Operator)->(List (List Operator))->Int->Option (List Operator)
 |0,_,_,_=>none
 |k+1,nG,jh,eY=>
  cond (decide (eY<24)) (if 0<=eY then (jh[eY.toNat]?).bind fun GD=>if 0<GD.length/\(nG.length+GD.length)*64<=1099511627776 then rz k (nG++GD) jh (IntKind.wrap .i64 (eY+1))else none else none) (some (nG))
def GH:List Nat:=[6,8]++List.range' 27 8
theorem Pn: ∀(k:Nat) (sP:PV) (sQ:List Nat) (M:List Nat) (nG:List Operator) (jh:List (List Operator)) (eY:Int) (IG:Ck) (aB σ:Nat->PV) (H0 H:AH) (f0:Fr GH aB σ) (hf0:HF M H0 H) (sl:σ 6=sP/\σ 25=(.ak (jh.map (eu Operator.cells)) IG)/\σ 26=(.int .i64 24)/\σ 27=(.int .i64 eY)) (sS:aJ H Operator.cells 7 nG sP sQ) (uS:Nw H0 M sQ) (o:List Operator) (h:rz k nG jh eY=some o) (Q:Post) (q0: ∀(p:List Operator) (v0:PV) (uw:List Nat) (σ':Nat->PV) (H':AH),o=p->Fr GH aB σ'->HF M H0 H'->(σ' 6=v0)->aJ H' Operator.cells 7 p v0 uw->Nw H0 M uw->Q (.exit 2) σ' H'),W Tryz.prog (.loop SK) Q σ H:=by
 intro k
 induction k with
 |zero=>intro sP sQ M nG jh eY IG aB σ H0 H f0 hf0 sl sS uS o h Q q0;simp only [rz,reduceCtorEq]at h
 |succ k ih=>
  intro sP sQ M nG jh eY IG aB σ H0 H f0 hf0 sl sS uS o h Q q0;obtain⟨s6,s25,s26,Yh⟩:=sl;have hle0:=hf0.1;unfold rz at h;refine aW (fun K hK=>aC ?_);unfold SK;obtain⟨e69,h⟩|⟨e69,h⟩:=aA h
  ·obtain⟨e70,h⟩:=aU h;obtain⟨GD,e72,h⟩:=aj h;obtain⟨Ul,h⟩:=aU h;refine dz ?_;refine Ik (f:=Operator.cells) (v:=sP) Operator.row nG (GD:List Operator) .unk aP (by repeat (first|exact sS|apply aJ.new|refine aJ.put ?_ (fun hm=>by have:=aJ.lt sS _ hm;omega))) aP Ul.1 Ul.2 (fun v74 axb H76 r77 az8 as6 az9=> ?_);have le:=as6.1;try simp only [AH.aK,AH.aL,AH.aM,AH.aN]at le
   refine dz ?_;refine hK _ _ ?_;exact ih v74 axb M (nG++GD) jh (IntKind.wrap .i64 (eY+1)) IG _ _ _ _ aI (by repeat (first|exact hf0|refine HF.new ?_|refine HF.qJ ?_|refine HF.used ?_|refine HF.put (by first|(right;omega)|(left;simp only [List.mem_cons,true_or,or_true])) ?_|refine HF.via as6 uS ?_)) aP (by repeat (first|exact r77|apply aJ.new|refine aJ.put ?_ (fun hm=>by have:=aJ.lt r77 _ hm;omega))) (Nw.trans uS bP az8) _ h _ q0
  ·cases h;refine dz ?_;exact q0 _ sP sQ _ _ rfl aI nZ aP (by repeat (first|exact sS|apply aJ.new|refine aJ.put ?_ (fun hm=>by have:=aJ.lt sS _ hm;omega))) uS
def xW:Nat->(List Operator)->Int->Int->Option (List Operator)
 |0,_,_,_=>none
 |k+1,eT,Js,mK=>
  cond (decide (mK<Js)) (if 0<=mK then (eT[mK.toNat]?).bind fun x95=>cond (x95.text==([92,88]:Str)) (xW k (eT.set mK.toNat (Operator.mk x95.text x95.fix x95.low x95.high x95.left x95.least 4)) Js (IntKind.wrap .i64 (mK+1))) (xW k eT Js (IntKind.wrap .i64 (mK+1)))else none) (some (eT))
def P6:List Nat:=[4]++List.range' 80 14
theorem abY: ∀(k:Nat) (zS:PV) (wV:List Nat) (M:List Nat) (eT:List Operator) (Js:Int) (mK:Int) (aB σ:Nat->PV) (H0 H:AH) (f0:Fr P6 aB σ) (hf0:HF M H0 H) (sl:σ 3=zS/\σ 79=(.int .i64 Js)/\σ 80=(.int .i64 mK)) (xX:aJ H Operator.cells 7 eT zS wV) (CZ:Nw H0 M wV) (o:List Operator) (h:xW k eT Js mK=some o) (Q:Post) (q0: ∀(p:List Operator) (v0:PV) (uw:List Nat) (σ':Nat->PV) (H':AH),o=p->Fr P6 aB σ'->HF M H0 H'->(σ' 3=v0)->aJ H' Operator.cells 7 p v0 uw->Nw H0 M uw->Q (.exit 0) σ' H'),W Tryz.prog (.loop Sv) Q σ H:=by
 intro k
 induction k with
 |zero=>intro zS wV M eT Js mK aB σ H0 H f0 hf0 sl xX CZ o h Q q0;simp only [xW,reduceCtorEq]at h
 |succ k ih=>
  intro zS wV M eT Js mK aB σ H0 H f0 hf0 sl xX CZ o h Q q0;obtain⟨s3,s79,s80⟩:=sl;have hle0:=hf0.1;unfold xW at h;refine aW (fun K hK=>aC ?_);unfold Sv;obtain⟨e93,h⟩|⟨e93,h⟩:=aA h
  ·obtain⟨e94,h⟩:=aU h;obtain⟨x95,e96,h⟩:=aj h;obtain⟨w97,UD,as7,hil,w99,hC,hL,hD,hI⟩:=aJ.content xX e96;have aFy:=ne_next hil;have aFz:=aZ hil;have aFA:jV 7 zS (.int .i64 mK)=some (.ref w97 (mK.toNat*7)):=by simpa using hI .i64 mK (by first|omega|decide) (by first|rfl|omega)
   have aEu:UD[mK.toNat*7]? =some (.str x95.text):=by simpa using hC 0 _ rfl
   have aEv:UD[mK.toNat*7+1]? =some (.int .i64 x95.fix):=by simpa using hC 1 _ rfl
   have aEw:UD[mK.toNat*7+2]? =some (.int .i64 x95.low):=by simpa using hC 2 _ rfl
   have aEx:UD[mK.toNat*7+3]? =some (.int .i64 x95.high):=by simpa using hC 3 _ rfl
   have aEy:UD[mK.toNat*7+4]? =some (.bool x95.left):=by simpa using hC 4 _ rfl
   have aEz:UD[mK.toNat*7+5]? =some (.int .i64 x95.least):=by simpa using hC 5 _ rfl
   have aEA:UD[mK.toNat*7+6]? =some (.int .i64 x95.most):=by simpa using hC 6 _ rfl
   have aFB:mK.toNat*7+7<=UD.length:=by simpa using hL 7 (Nat.le_refl _)
   have aFC:List.take 7 (List.drop (mK.toNat*7) UD)=Operator.cells x95:=hD;clear hC hL hD hI;obtain⟨Lc,h⟩|⟨Lc,h⟩:=aA h
   ·refine dz ?_;refine qc (f:=Operator.cells) (id:=w97) (o:=mK.toNat*7+6) (i:=mK.toNat) (j:=6) (a:=x95) (y:=(Operator.mk x95.text x95.fix x95.low x95.high x95.left x95.least 4)) (vs:=[(.int .i64 4)]) aP as7 (by omega) (by repeat (first|exact xX|apply aJ.new|refine aJ.put ?_ (fun hm=>by have:=aJ.lt xX _ hm;omega))) e96 aP rfl rfl (by first|decide|(simp only [List.length_cons,List.length_nil];omega)) rfl (fun aFD as8 aog aEB=> ?_);have le:=aog.1;try simp only [AH.aK,AH.aL,AH.aM,AH.aN]at le
    refine dz ?_;refine hK _ _ ?_;exact ih zS wV M (eT.set mK.toNat (Operator.mk x95.text x95.fix x95.low x95.high x95.left x95.least 4)) Js (IntKind.wrap .i64 (mK+1)) _ _ _ _ aI (by repeat (first|exact hf0|refine HF.new ?_|refine HF.qJ ?_|refine HF.used ?_|refine HF.put (by first|(right;omega)|(left;simp only [List.mem_cons,true_or,or_true])) ?_|refine HF.via aog CZ ?_)) aP (by repeat (first|exact as8|apply aJ.new|refine aJ.put ?_ (fun hm=>by have:=aJ.lt as8 _ hm;omega))) CZ _ h _ q0
   ·refine dz ?_;refine hK _ _ ?_;exact ih zS wV M eT Js (IntKind.wrap .i64 (mK+1)) _ _ _ _ aI nZ aP (by repeat (first|exact xX|apply aJ.new|refine aJ.put ?_ (fun hm=>by have:=aJ.lt xX _ hm;omega))) CZ _ h _ q0
  ·cases h;refine dz ?_;exact q0 _ zS wV _ _ rfl aI nZ aP (by repeat (first|exact xX|apply aJ.new|refine aJ.put ?_ (fun hm=>by have:=aJ.lt xX _ hm;omega))) CZ
def FI (k:Nat):Option (List Operator):=
 (wS k 4 4 [([126]:Str)]).bind fun p2=>(wS k 4 15 [([69,78,65,66,76,69,68]:Str),([85,78,67,72,65,78,71,69,68]:Str),([91,93]:Str),([60,62]:Str)]).bind fun p4=>(wS k 8 8 [([83,85,66,83,69,84]:Str),([85,78,73,79,78]:Str)]).bind fun p6=>(wS k 9 9 [([68,79,77,65,73,78]:Str)]).bind fun p8=>(wS k 12 12 [([45,46]:Str)]).bind fun iM=>(gF k 1 1 false [([61,62]:Str)]).bind fun ng=>(gF k 2 2 false [([60,61,62]:Str),([126,62]:Str)]).bind fun iQ=>(gF k 3 3 true [([47,92]:Str),([92,47]:Str)]).bind fun p16=>(gF k 5 5 false [([61]:Str),([35]:Str),([60]:Str),([60,61]:Str),([62]:Str),([62,61]:Str),([92,105,110]:Str),([92,110,111,116,105,110]:Str),([92,115,117,98,115,101,116,101,113]:Str),([92,115,113,115,117,98,115,101,116,101,113]:Str)]).bind fun DR=>(gF k 6 6 true [([64,64]:Str)]).bind fun Ka=>(gF k 7 7 false [([58,62]:Str)]).bind fun Gf=>(gF k 5 14 true [([92,99,100,111,116]:Str)]).bind fun yN=>(gF k 8 8 true [([92,99,117,112]:Str),([92,99,97,112]:Str)]).bind fun p26=>(gF k 8 8 false [([92]:Str)]).bind fun p28=>(gF k 9 9 false [([46,46]:Str)]).bind fun p30=>(gF k 10 10 true [([43]:Str),([40,43,41]:Str)]).bind fun p32=>(gF k 10 11 false [([37]:Str)]).bind fun p34=>(gF k 10 13 false [([92,88]:Str)]).bind fun p36=>(gF k 11 11 true [([45]:Str),([40,45,41]:Str)]).bind fun p38=>(gF k 13 13 true [([42]:Str)]).bind fun p40=>(gF k 13 13 false [([92,100,105,118]:Str)]).bind fun p42=>(gF k 13 13 true [([92,111]:Str)]).bind fun p44=>(gF k 14 14 false [([94]:Str)]).bind fun p46=>Option.bind (ru k 0 [p2,p4,p6,p8,iM,ng,iQ,p16,DR,Ka,Gf,yN,p26,p28,p30,p32,p34,p36,p38,p40,p42,p44,p46,[(Operator.mk ([39]:Str) 2 15 15 false 1 1)]] 0) (fun p55=>if 0<p55/\p55<=1000000 then Option.bind (rz k ([]:List Operator) [p2,p4,p6,p8,iM,ng,iQ,p16,DR,Ka,Gf,yN,p26,p28,p30,p32,p34,p36,p38,p40,p42,p44,p46,[(Operator.mk ([39]:Str) 2 15 15 false 1 1)]] 0) (fun p83=>Option.bind (xW k p83 (p83.length:Int) 0) (fun as9=>some as9))else none)
theorem aiT {k:Nat} {r:List Operator} (h:FI k=some r):aD Tryz.prog 264 [] (.ak (r.map Operator.cells) .unk):=by
 refine aD.aO (aX.mem .nil) (aF awH (by simp) (aC ?_)) (aT Operator.pu _);unfold FI at h;unfold anx;obtain⟨p2,e1,h⟩:=aj h;refine dz ?_;refine av (yX e1) ?_;obtain⟨p4,e3,h⟩:=aj h;refine dz ?_;refine av (yX e3) ?_;obtain⟨p6,e5,h⟩:=aj h;refine dz ?_;refine av (yX e5) ?_;obtain⟨p8,e7,h⟩:=aj h;refine dz ?_;refine av (yX e7) ?_;obtain⟨iM,e9,h⟩:=aj h;refine dz ?_;refine av (yX e9) ?_;obtain⟨ng,e11,h⟩:=aj h;refine dz ?_;refine av (fI e11) ?_;obtain⟨iQ,e13,h⟩:=aj h;refine dz ?_;refine av (fI e13) ?_;obtain⟨p16,e15,h⟩:=aj h;refine dz ?_;refine av (fI e15) ?_;obtain⟨DR,e17,h⟩:=aj h;refine dz ?_;refine av (fI e17) ?_;obtain⟨Ka,e19,h⟩:=aj h;refine dz ?_;refine av (fI e19) ?_;obtain⟨Gf,e21,h⟩:=aj h;refine dz ?_;refine av (fI e21) ?_;obtain⟨yN,e23,h⟩:=aj h;refine dz ?_;refine av (fI e23) ?_;obtain⟨p26,e25,h⟩:=aj h;refine dz ?_;refine av (fI e25) ?_;obtain⟨p28,e27,h⟩:=aj h;refine dz ?_;refine av (fI e27) ?_;obtain⟨p30,e29,h⟩:=aj h;refine dz ?_;refine av (fI e29) ?_;obtain⟨p32,e31,h⟩:=aj h;refine dz ?_;refine av (fI e31) ?_;obtain⟨p34,e33,h⟩:=aj h;refine dz ?_;refine av (fI e33) ?_;obtain⟨p36,e35,h⟩:=aj h;refine dz ?_;refine av (fI e35) ?_;obtain⟨p38,e37,h⟩:=aj h;refine dz ?_;refine av (fI e37) ?_;obtain⟨p40,e39,h⟩:=aj h;refine dz ?_;refine av (fI e39) ?_;obtain⟨p42,e41,h⟩:=aj h;refine dz ?_;refine av (fI e41) ?_;obtain⟨p44,e43,h⟩:=aj h;refine dz ?_;refine av (fI e43) ?_;obtain⟨p46,e45,h⟩:=aj h;refine dz ?_;refine av (fI e45) ?_;refine dz ?_;refine aF awZ (by simp) (aC ?_);unfold anQ;refine dz ?_;obtain⟨o53,h54,h⟩:=aj h;refine Pm k 0 [p2,p4,p6,p8,iM,ng,iQ,p16,DR,Ka,Gf,yN,p26,p28,p30,p32,p34,p36,p38,p40,p42,p44,p46,[(Operator.mk ([39]:Str) 2 15 15 false 1 1)]] 0 .exact _ _ _ (Fr.refl _ _) aP _ h54 _ ?_
 ·rintro p55 σ' eo ar5 s59;rw [eo]at h;have s60:σ' 0=(.ak ([p2,p4,p6,p8,iM,ng,iQ,p16,DR,Ka,Gf,yN,p26,p28,p30,p32,p34,p36,p38,p40,p42,p44,p46,[(Operator.mk ([39]:Str) 2 15 15 false 1 1)]].map (eu Operator.cells)) .exact):=(ar5 0 (by decide)).trans aP;obtain⟨e61,h⟩:=aU h;refine dz ?_;refine aij (f:=Operator.cells) (xs:=([]:List Operator)) (aiQ p55 e61) (fun v62 aoh H64 r65 aFE aAa aAb=> ?_);have le:=aAa.1;try simp only [AH.aK,AH.aL,AH.aM,AH.aN]at le
  refine dz ?_;obtain⟨o81,h82,h⟩:=aj h;refine Pn k v62 aoh (aoh++[]) ([]:List Operator) [p2,p4,p6,p8,iM,ng,iQ,p16,DR,Ka,Gf,yN,p26,p28,p30,p32,p34,p36,p38,p40,p42,p44,p46,[(Operator.mk ([39]:Str) 2 15 15 false 1 1)]] 0 .exact _ _ _ _ (Fr.refl _ _) (HF.refl _ _) aP (by repeat (first|exact r65|apply aJ.new|refine aJ.put ?_ (fun hm=>by have:=aJ.lt r65 _ hm;omega))) (fun i hi=>Or.inl (by simp only [List.mem_append,List.mem_cons,hi,true_or,or_true])) _ h82 _ ?_
  ·rintro p83 v87 aoi σ' H86 eo aFF aAc s91 r89 aFG;rw [eo]at h;have le:=aAc.1;try simp only [AH.aK,AH.aL,AH.aM,AH.aN]at le
   have w92:=aJ.aaL r89;refine dz ?_;obtain⟨o111,h112,h⟩:=aj h;refine abY k v87 aoi (aoi++[]) p83 (p83.length:Int) 0 _ _ _ _ (Fr.refl _ _) (HF.refl _ _) aP (by repeat (first|exact r89|apply aJ.new|refine aJ.put ?_ (fun hm=>by have:=aJ.lt r89 _ hm;omega))) (fun i hi=>Or.inl (by simp only [List.mem_append,List.mem_cons,hi,true_or,or_true])) _ h112 _ ?_
   ·rintro as9 v117 aCU σ' az7 eo aEC axc aFH atb aED;rw [eo]at h;have le:=axc.1;try simp only [AH.aK,AH.aL,AH.aM,AH.aN]at le
    cases h;refine dz ?_;exact(aJ.fz Operator.pu (by repeat (first|exact atb|apply aJ.new|refine aJ.put ?_ (fun hm=>by have:=aJ.lt atb _ hm;omega))))
end Go.VL
end
section
namespace Go.VL
open Go.Proofs Go.RowKit
def oH:List Operator:=(FI 100).getD []
theorem aiU:FI 100=some oH:=by
 have h:(FI 100).isSome=true:=by kernel_rfl
 rw [oH];cases h1:FI 100 with
 |none=>rw [h1]at h;cases h
 |some r=>rfl
theorem atc:aD Tryz.prog 264 [] (.ak (oH.map Operator.cells) .unk):=aiT aiU
end Go.VL
end
section
set_option maxHeartbeats 4000000
namespace Go.VL
open Go.Proofs
def nP (k:Nat) (lU:Str):Option (Operator×Bool):=
 (fE k oH lU).bind fun p2=>cond (decide (p2<0)) (some ((Operator.mk [] 0 0 0 false 0 0),false)) (if 0<=p2 then (oH[p2.toNat]?).bind fun x5=>some (x5,true)else none)
theorem xY {k:Nat} {lU:Str} {r:Operator×Bool} (h:nP k lU=some r):aD Tryz.prog 223 [(.str lU)] (.cK [(.agg (Operator.cells r.1)),(.bool r.2)]):=by
 refine aD.aO (aX.mem (.cons (.str _) .nil)) (aF awd (by simp) (aC ?_)) (.cK _ (aX.mem (.cons (.agg _ (Operator.pu _)) (.cons (.bool _) .nil))));unfold nP at h;unfold am3;refine ah ?_;refine av (atc) ?_;obtain⟨p2,e1,h⟩:=aj h;refine ah ?_;refine zJ (qZ e1) (.cons (dS Operator.pu _ _) (.cons (af0 (.cons (aaF (by simp -implicitDefEqProofs only [go_sem,dL,and_self]<;>rfl) (.cons (.pure _ (.str _)) .nil)) .nil)) .nil)) (.cons (aT Operator.pu _) (.cons (.fn _ _ _ (aX.mem .nil) (aX.mem (.cons (.bS _ _ (aX.mem (.cons (.str _) .nil))) .nil))) .nil)) (.int _ _) ?_;obtain⟨e3,h⟩|⟨e3,h⟩:=aA h
 ·cases h;refine ah ?_;exact(bW (.cons (bQ (.cons (.pure _ (.str _)) (aQ (aQ (aQ (.cons (.pure _ (.bool _)) (aQ (aQ .nil)))))))) (.cons (.pure _ (.bool _)) .nil)))
 ·obtain⟨e4,h⟩:=aU h;obtain⟨x5,e6,h⟩:=aj h;cases h;refine ah ?_;exact(bW (.cons (bQ (.cons (.pure _ (.str _)) (aQ (aQ (aQ (.cons (.pure _ (.bool _)) (aQ (aQ .nil)))))))) (.cons (.pure _ (.bool _)) .nil)))
def ZX (x_0:Int) (y_1:Int):Option (Int×Int):=
 if(0<=x_0/\x_0<18446744073709551616)/\(0<=y_1/\y_1<18446744073709551616)then some ((UC x_0 y_1).1,(UC x_0 y_1).2)else none
theorem apR {x_0:Int} {y_1:Int} {r:Int×Int} (h:ZX x_0 y_1=some r):aD Tryz.prog 273 [(.int .u64 x_0),(.int .u64 y_1)] (.cK [(.int .u64 r.1),(.int .u64 r.2)]):=by
 refine aD.aO (aX.mem (.cons (.int _ _) (.cons (.int _ _) .nil))) (aF awO (by simp) (aC ?_)) (.cK _ (aX.mem (.cons (.int _ _) (.cons (.int _ _) .nil))));unfold ZX at h;unfold anF;obtain⟨e1,h⟩:=aU h;refine ah ?_;refine av (apP x_0 y_1 (by assumption)) ?_;cases h;refine ah ?_;exact(bW (aQ (aQ .nil)))
end Go.VL
end
section
namespace Go.VL
open Go.Proofs Go.RowKit
theorem wW {P:Program} {K:(Nat->PV)->AH->Prop} {σ:Nat->PV} {H:AH} {d:Option Nat} {k:RK} {l:List (aR×Bool)} (p:PV) (h: ∀H',rop k σ H'=some p)
 (hn:iI P (fun _=>True) l K (upd σ d p) H):iI P (fun _=>True) ((⟨d,.r k,none⟩,false)::l) K σ H:=by
 unfold iI;refine .inr ⟨trivial,p,fun H' _=> ?_,hn⟩;show(match rop k σ H' with|some q=>(q=p/\H'=H')|none=>False);rw [h H'];exact⟨rfl,rfl⟩
theorem abZ: ∀l:List PV,(l.map fun c=>[c]).flatten=l
 |[]=>rfl
 |a::l=>by rw [List.map_cons,List.flatten_cons,abZ l];rfl
theorem agM (l rest:List PV):chunks 1 l.length (l++rest)=l.map fun c=>[c]:=by
 have h:=wu (sz:=1) (l.map fun c=>[c]) rest (by simp);rw [List.length_map,abZ]at h;exact h
theorem II (x:PV): ∀m,(List.replicate m [x]).flatten=List.replicate m x
 |0=>rfl
 |m+1=>by rw [List.replicate_succ,List.flatten_cons,II x m];rfl
theorem atd (x:Int) (id n:Nat) (H0:AH) (Q:Post) (hn:n<=1000000)
 (hx: ∀σ' H',σ' 7= .bR id 0 n n 1->H'.obj id=some (List.replicate n (.int .i64 x))->H'.next=H0.next->(∀i,i≠id->H'.obj i=H0.obj i)->(∀k,H'.live k=H0.live k)->Q (.exit 0) σ' H'):
 ∀(d m:Nat) (σ:Nat->PV) (H:AH) (rest:List PV),n -m<=d->m<=n->(m=0->n=0)->σ 7= .bR id 0 n n 1->σ 8= .int .i64 m->H.obj id=some (List.replicate m (.int .i64 x)++rest)->rest.length=n -m->
   H.next=H0.next->(∀i,i≠id->H.obj i=H0.obj i)->(∀k,H.live k=H0.live k)->W Tryz.prog (.loop KW) Q σ H:=by
 intro d
 induction d with
 |zero=>
  intro m σ H rest hd hm h0 h7 h8 ho hr h1 h2 h3;have e:m=n:=by omega
  subst e;have c1:decide ((m:Int)<(m:Int))=false:=decide_eq_false (by omega);refine aW (fun K hK=>aC ?_);unfold KW;simp -implicitDefEqProofs only [go_sem,h7,h8,c1];have hr0:rest=[]:=List.eq_nil_of_length_eq_zero (by omega);subst hr0;refine hx _ _ ?_ (by rw [ho,List.append_nil]) h1 h2 h3;simp only [zq,Nat.reduceEqDiff,↓reduceIte,h7]
 |succ d ih=>
  intro m σ H rest hd hm h0 h7 h8 ho hr h1 h2 h3;by_cases hmn:m=n
  · exact ih m σ H rest (by omega) hm h0 h7 h8 ho hr h1 h2 h3
  have c1:decide ((m:Int)<(n:Int))=true:=decide_eq_true (by omega);refine aW (fun K hK=>aC ?_);unfold KW;simp -implicitDefEqProofs only [go_sem,h7,h8,c1];refine⟨fun _=>True,trivial,?_⟩;refine wW (.int .i64 m) (fun H'=>by simp [rop,AE.ev,upd,h7,h8]) ?_;refine wW (.bR id 0 n n 1) (fun H'=>by simp [rop,AE.ev,upd,h7,h8]) ?_;refine wW (.int .i64 m) (fun H'=>by simp [rop,AE.ev,upd,h7,h8]) ?_;refine wW (.bR id m (n -m) (n -m) 1) (fun H'=>by simp [rop,AE.ev,upd,nY,nk,h7,h8];omega) ?_;refine wW (.bR id 0 n n 1) (fun H'=>by simp [rop,AE.ev,upd,h7,h8]) ?_;refine wW (.int .i64 m) (fun H'=>by simp [rop,AE.ev,upd,h7,h8]) ?_;refine wW (.bR id 0 m n 1) (fun H'=>by simp [rop,AE.ev,upd,nY,nk,h7,h8];omega) ?_;have hch:chunks 1 m (List.replicate m (.int .i64 x)++rest)=List.replicate m [.int .i64 x]:=by
   have h:=agM (List.replicate m (.int .i64 x)) rest;rw [List.length_replicate,List.map_replicate]at h;exact h
  unfold iI;refine .inr ⟨trivial,.int .i64 (min m (n -m):Nat),H.put id (List.replicate (m+min m (n -m)) (.int .i64 x)++rest.drop (min m (n -m))),?_,trivial,?_⟩
  · have hy:rowOf 1 H (PV.bR id 0 m n 1)=some (List.replicate m [.int .i64 x]):=by
     have hl:0+m*1<=(List.replicate m (PV.int .i64 x)++rest).length:=by rw [List.length_append,List.length_replicate];omega
     simp only [rowOf,ho];rw [if_pos ⟨trivial,hl⟩,List.drop_zero,hch]
    have hsz:pE 1 (List.replicate m [PV.int .i64 x]):=fun cs hcs=>by
     rw [(List.mem_replicate.1 hcs).2];exact⟨rfl,fun c hc=>by rw [List.mem_singleton.1 hc];rfl⟩
    have hle:m+(n -m)*1<=(List.replicate m (PV.int .i64 x)++rest).length:=by rw [List.length_append,List.length_replicate];omega
    have hput:putCells (List.replicate m (PV.int .i64 x)++rest) m ((List.replicate m [PV.int .i64 x]).take (n -m)).flatten=List.replicate (m+min m (n -m)) (.int .i64 x)++rest.drop (min m (n -m)):=by
     rw [List.take_replicate,II];unfold putCells;rw [List.length_replicate];have e1:(List.replicate m (PV.int .i64 x)++rest).take m=List.replicate m (PV.int .i64 x):=by
      rw [List.take_append_of_le_length (by rw [List.length_replicate];omega),List.take_of_length_le (by rw [List.length_replicate];omega)]
     have e2:(List.replicate m (PV.int .i64 x)++rest).drop (m+min (n -m) m)=rest.drop (min m (n -m)):=by
      rw [List.drop_append,List.length_replicate,List.drop_eq_nil_of_le (by rw [List.length_replicate];omega),List.nil_append];congr 1;omega
     rw [e1,e2,List.replicate_append_replicate,Nat.min_comm m]
    simp only [eG,nop,AE.ev,zq,Nat.reduceEqDiff,↓reduceIte,hy];simp only [ho];rw [if_pos ⟨trivial,hsz,hle⟩];refine⟨?_,by rw [hput]⟩;rw [List.length_replicate]
  · have hm2:(m:Int)+((min m (n -m):Nat):Int)=((m+min m (n -m):Nat):Int):=by omega
    have hw:IntKind.wrap .i64 ((m:Int)+((min m (n -m):Nat):Int))=((m+min m (n -m):Nat):Int):=by
     rw [hm2];exact IntWalk.i64_in _ (by omega)
    unfold iI;refine fu ?_;simp -implicitDefEqProofs only [go_sem,h7,h8,hw];refine hK _ _ (ih (m+min m (n -m)) _ _ (rest.drop (min m (n -m))) (by omega) (by omega) (by omega) ?_ ?_ ?_ (by rw [List.length_drop];omega) h1 ?_ h3)
    · simp only [zq,Nat.reduceEqDiff,↓reduceIte,h7]
    · simp only [zq,Nat.reduceEqDiff,↓reduceIte]
    · show(if id=id then some _ else _)=_
      rw [if_pos rfl]
    · intro i hi;show(if i=id then some _ else _)=_;rw [if_neg hi];exact h2 i hi
section
variable {P:Program} {Q:Post} {σ:Nat->PV} {s:List Fm} {H:AH}
theorem ate {d:Option Nat} {x y:AE} {l:List aR} {k k':IntKind} {n:Nat} (hx:x.ev σ= .int k n) (hy:y.ev σ= .int k' n) (hb:n<=1000000)
 (h:WO P l s Q (upd σ d (.bR H.next 0 n n 1)) (H.new (List.replicate n (.int .i64 0)))):WO P (⟨d,.d (.vR 1 8 [.int .i64 0] x y),none⟩::l) s Q σ H:=by
 show WD P (iH (.vR 1 8 [.int .i64 0] x y) σ H) d l s Q σ
 simp only [iH,hx,hy];rw [if_pos ⟨by omega,by omega,by omega,by omega,rfl,by decide⟩];rw [Int.toNat_natCast,II];exact h
theorem apS {d:Option Nat} {x y:AE} {l:List aR} {id off len cap sz:Nat} {fs:List (List PV)} {cs:List PV} (hx:x.ev σ= .bR id off len cap sz) (hy:rowOf sz H (y.ev σ)=some fs) (ho:H.obj id=some cs)
 (hsz:pE sz fs) (hle:off+len*sz<=cs.length)
 (h:WO P l s Q (upd σ d (.int .i64 (min fs.length len:Nat))) (H.put id (putCells cs off (fs.take len).flatten))):WO P (⟨d,.n (.copy sz x y),none⟩::l) s Q σ H:=by
 show dH P _ _ σ H
 rw [FZ];simp only [nop,hx,hy,ho];rw [if_pos ⟨trivial,hsz,hle⟩];exact h
end
theorem axd (x:Int) (n:Int) (hn:0<=n/\n<=1000000):KT Tryz.prog 230 [.ak [[.int .i64 x]] .exact,.int .i64 n] aS 1 (List.replicate n.toNat x):=by
 intro H;obtain⟨n,rfl⟩: ∃k:Nat,n=k:=⟨n.toNat,by omega⟩;refine aF awj (by simp) (aC ?_);unfold am9;have c1:decide ((n:Int)<0)=false:=decide_eq_false (by omega);have c2:IntKind.wrap .u64 1=1:=by decide
 have c3:IntKind.wrap .u64 (n:Int)=n:=IntWalk.u64_in _ (by omega);have c4:IntKind.wrap .i64 (n:Int)=n:=IntWalk.i64_in _ (by omega);have hm:ZX 1 n=some ((0:Int),(n:Int)):=by
  unfold ZX UC;rw [if_pos ⟨⟨by omega,by omega⟩,by omega,by omega⟩];have e1:((1:Int).toNat*((n:Nat):Int).toNat/18446744073709551616:Nat)=0:=by
   rw [Int.toNat_natCast];show(1*n)/_=0;omega
  have e2:((1:Int).toNat*((n:Nat):Int).toNat% 18446744073709551616:Nat)=n:=by
   rw [Int.toNat_natCast];show(1*n)% _=n;omega
  rw [e1,e2];rfl
 have hc:=apR hm;have d1:decide ((n:Int)>9223372036854775807)=false:=decide_eq_false (by omega);unfold aaQ aaR;simp -implicitDefEqProofs only [go_sem,c1,c2,c3,c4,d1];refine bA.mono (hc H) fun v H' hv=> ?_;obtain⟨rfl,rfl⟩:=hv;have d0:decide ((0:Int)>0)=false:=by decide
 simp -implicitDefEqProofs only [go_sem,c1,c2,c3,c4,d0,d1];refine ate (k:= .i64) (k':= .i64) (n:=n) (by simp only [go_sem]) (by simp only [go_sem]) (by omega) ?_;have Bf:(H'.new (List.replicate n (PV.int .i64 0))).obj H'.next=some (List.replicate n (PV.int .i64 0)):=by
  show(if H'.next=H'.next then some _ else _)=_
  rw [if_pos rfl]
 simp -implicitDefEqProofs only [go_sem]
 refine apS (id:=H'.next) (off:=0) (len:=n) (cap:=n) (fs:=[[.int .i64 x]]) (cs:=List.replicate n (.int .i64 0)) (by simp only [go_sem]) (by simp only [go_sem];rfl) Bf
  (by intro cs hcs;rw [List.mem_singleton.1 hcs];exact⟨rfl,fun c hc=>by rw [List.mem_singleton.1 hc];rfl⟩) (by rw [List.length_replicate];omega) ?_
 have hput:putCells (List.replicate n (PV.int .i64 0)) 0 (([[PV.int .i64 x]]:List (List PV)).take n).flatten=List.replicate (min 1 n) (.int .i64 x)++List.replicate (n -min 1 n) (.int .i64 0):=by
  cases n with
  |zero=>rfl
  |succ n=>
   have e:min 1 (n+1)=1:=by omega
   rw [e,List.take_of_length_le (by simp)];simp [putCells,List.replicate_succ]
 rw [hput];have e1:(min ([[PV.int .i64 x]]:List (List PV)).length n:Nat)=min 1 n:=rfl;rw [e1];simp -implicitDefEqProofs only [go_sem];have axe: ∀cs:List PV,(((H'.new (List.replicate n (PV.int .i64 0))).put H'.next cs).obj H'.next)=some cs:=fun cs=>by
  show(if H'.next=H'.next then some _ else _)=_
  rw [if_pos rfl]
 refine atd x H'.next n ((H'.new (List.replicate n (PV.int .i64 0)))) _ (by omega) (fun σ' H2 k7 ko kn kob kl=> ?_) n (min 1 n) _ _ (List.replicate (n -min 1 n) (.int .i64 0)) (by omega) (by omega) (by omega) ?_ ?_ (axe _) (by rw [List.length_replicate]) rfl
  (fun i hi=> ?_) (fun k=>rfl)
 · show WE Tryz.prog (.exit 0) _ _ σ' H2
   simp -implicitDefEqProofs only [go_sem,k7];refine⟨[H'.next],.inr ⟨H'.next,n,[],rfl,by rw [List.length_replicate],by rw [List.length_replicate];omega,by rw [kn];exact Nat.lt_succ_self _,?_,?_⟩,fun i hi=> .inr (by rw [List.mem_singleton.1 hi];exact Nat.le_refl _),⟨by rw [kn];exact Nat.le_succ _,fun i hi _=> ?_⟩,fun c3 hc=> ?_⟩
   · rw [ko,List.append_nil,List.map_replicate];exact congrArg some (II (PV.int .i64 x) n).symm
   · rw [List.length_replicate];simp
   · rw [kob i (by omega)];show(if i=H'.next then some _ else _)=_;rw [if_neg (by omega)]
   · cases c3 with
     |unk=>exact hc
     |tok t=>exact⟨by rw [kl];exact hc.1,by rw [kn];exact Nat.lt_succ_of_lt hc.2⟩
     |nil=>trivial
     |exact=>trivial
 · simp only [zq,Nat.reduceEqDiff,↓reduceIte]
 · simp only [zq,Nat.reduceEqDiff,↓reduceIte]
 · show(if i=H'.next then some _ else _)=_
   rw [if_neg hi]
def Ki (l:List Int) (n:Int):List Int:=List.replicate n.toNat (l.headD 0)
theorem atf (l:List Int) (n:Int) (h:l.length=1/\0<=n/\n<=1000000):KT Tryz.prog 230 [.ak (l.map aS) .exact,.int .i64 n] aS 1 (Ki l n):=by
 match l,h with
 |[x],h=>exact axd x n h.2
end Go.VL
end
section
set_option maxHeartbeats 4000000
namespace Go.VL
open Go.Proofs
def nQ:Nat->(List Int)->(List Int)->Int->(List Int)->Int->Int->Option (((List Int)×(List Int)))
 |0,_,_,_,_,_,_=>none
 |k+1,vI,j6,kU,jh,jS,eY=>
  cond (decide (eY<jS)) (if 0<=eY then (jh[eY.toNat]?).bind fun x21=>if 0<=x21 then (vI[x21.toNat]?).bind fun x24=>(j6[x21.toNat]?).bind fun x41=>nQ k (vI.set x21.toNat kU) (j6.set x21.toNat eY) kU jh jS (IntKind.wrap .i64 (eY+1))else none else none) (some ((vI,j6)))
def Me:List Nat:=[8,9]++List.range' 27 14
theorem Xd: ∀(k:Nat) (rA:PV) (jT:List Nat) (jW:PV) (gJ:List Nat) (M:List Nat) (vI:List Int) (j6:List Int) (kU:Int) (jh:List Int) (jS:Int) (eY:Int) (aB σ:Nat->PV) (H0 H:AH) (f0:Fr Me aB σ) (hf0:HF M H0 H) (sl:σ 4=rA/\σ 5=jW/\σ 6=(.int .i64 kU)/\σ 25=(.ak (jh.map aS) .unk)/\σ 26=(.int .i64 jS)/\σ 27=(.int .i64 eY)) (rC:aJ H aS 1 vI rA jT) (qW:Nw H0 M jT) (kY:aJ H aS 1 j6 jW gJ) (kL:Nw H0 M gJ) (gX:Dj jT gJ) (o:((List Int)×(List Int))) (h:nQ k vI j6 kU jh jS eY=some o) (Q:Post) (q0: ∀(p:(List Int)×(List Int)) (v0:PV) (uw:List Nat) (v1:PV) (SY:List Nat) (σ':Nat->PV) (H':AH),o=p->Fr Me aB σ'->HF M H0 H'->(σ' 4=v0/\σ' 5=v1)->aJ H' aS 1 p.1 v0 uw->Nw H0 M uw->aJ H' aS 1 p.2 v1 SY->Nw H0 M SY->Dj uw SY->Q (.exit 2) σ' H'),W Tryz.prog (.loop Rk) Q σ H:=by
 intro k
 induction k with
 |zero=>intro rA jT jW gJ M vI j6 kU jh jS eY aB σ H0 H f0 hf0 sl rC qW kY kL gX o h Q q0;simp only [nQ,reduceCtorEq]at h
 |succ k ih=>
  intro rA jT jW gJ M vI j6 kU jh jS eY aB σ H0 H f0 hf0 sl rC qW kY kL gX o h Q q0;obtain⟨s4,s5,s6,s25,s26,Yh⟩:=sl;have hle0:=hf0.1;unfold nQ at h;refine aW (fun K hK=>aC ?_);unfold Rk;obtain⟨e19,h⟩|⟨e19,h⟩:=aA h
  ·obtain⟨e20,h⟩:=aU h;obtain⟨x21,e22,h⟩:=aj h;obtain⟨e23,h⟩:=aU h;obtain⟨x24,e25,h⟩:=aj h;obtain⟨w26,w27,atg,hil,w28,hC,hL,hD,hI⟩:=aJ.content rC e25;have w29:=ne_next hil;have w30:=aZ hil;have w31:jV 1 rA (.int .i64 x21)=some (.ref w26 (x21.toNat)):=by simpa using hI .i64 x21 (by first|omega|decide) (by first|rfl|omega)
   have aEE:w27[x21.toNat]? =some (.int .i64 x24):=by simpa using hC 0 _ rfl
   clear hC hL hD hI;refine dz ?_;refine qc (f:=aS) (id:=w26) (o:=x21.toNat) (i:=x21.toNat) (j:=0) (a:=x24) (y:=kU) (vs:=[(.int .i64 kU)]) aP atg (by omega) (by repeat (first|exact rC|apply aJ.new|refine aJ.put ?_ (fun hm=>by have:=aJ.lt rC _ hm;omega))) e25 aP rfl rfl (by first|decide|(simp only [List.length_cons,List.length_nil];omega)) rfl (fun H34 r35 S9 ath=> ?_);have le:=S9.1;try simp only [AH.aK,AH.aL,AH.aM,AH.aN]at le
   have r39:=aJ.hf (by repeat (first|exact kY|apply aJ.new|refine aJ.put ?_ (fun hm=>by have:=aJ.lt kY _ hm;omega))) S9 (Dj.symm gX);obtain⟨x41,e42,h⟩:=aj h;obtain⟨w43,w44,atj,hil,w45,hC,hL,hD,hI⟩:=aJ.content r39 e42;have w46:=ne_next hil;have w47:=aZ hil;have w48:jV 1 jW (.int .i64 x21)=some (.ref w43 (x21.toNat)):=by simpa using hI .i64 x21 (by first|omega|decide) (by first|rfl|omega)
   have aEF:w44[x21.toNat]? =some (.int .i64 x41):=by simpa using hC 0 _ rfl
   clear hC hL hD hI;refine dz ?_;refine qc (f:=aS) (id:=w43) (o:=x21.toNat) (i:=x21.toNat) (j:=0) (a:=x41) (y:=eY) (vs:=[(.int .i64 eY)]) aP atj (by omega) (by repeat (first|exact r39|apply aJ.new|refine aJ.put ?_ (fun hm=>by have:=aJ.lt r39 _ hm;omega))) e42 aP rfl rfl (by first|decide|(simp only [List.length_cons,List.length_nil];omega)) rfl (fun H51 r52 ak5 atl=> ?_);have le:=ak5.1;try simp only [AH.aK,AH.aL,AH.aM,AH.aN]at le
   have r56:=aJ.hf (by repeat (first|exact r35|apply aJ.new|refine aJ.put ?_ (fun hm=>by have:=aJ.lt r35 _ hm;omega))) ak5 gX;refine dz ?_;refine hK _ _ ?_;exact ih rA jT jW gJ M (vI.set x21.toNat kU) (j6.set x21.toNat eY) kU jh jS (IntKind.wrap .i64 (eY+1)) _ _ _ _ aI (by repeat (first|exact hf0|refine HF.new ?_|refine HF.qJ ?_|refine HF.used ?_|refine HF.put (by first|(right;omega)|(left;simp only [List.mem_cons,true_or,or_true])) ?_|refine HF.via S9 qW ?_|refine HF.via ak5 kL ?_)) aP (by repeat (first|exact r56|apply aJ.new|refine aJ.put ?_ (fun hm=>by have:=aJ.lt r56 _ hm;omega))) qW (by repeat (first|exact r52|apply aJ.new|refine aJ.put ?_ (fun hm=>by have:=aJ.lt r52 _ hm;omega))) kL gX _ h _ q0
  ·cases h;refine dz ?_;exact q0 _ rA jT jW gJ _ _ rfl aI nZ aP (by repeat (first|exact rC|apply aJ.new|refine aJ.put ?_ (fun hm=>by have:=aJ.lt rC _ hm;omega))) qW (by repeat (first|exact kY|apply aJ.new|refine aJ.put ?_ (fun hm=>by have:=aJ.lt kY _ hm;omega))) kL gX
def nR:Nat->(List Int)->(List Int)->(List Nd)->Int->Int->Option (((List Int)×(List Int)))
 |0,_,_,_,_,_=>none
 |k+1,vI,j6,mY,mM,C8=>
  cond (decide (C8<mM)) (if 0<=C8 then (mY[C8.toNat]?).bind fun Gs=>Option.bind (nQ k vI j6 C8 Gs.args (Gs.args.length:Int) 0) (fun p60=>nR k p60.1 p60.2 mY mM (IntKind.wrap .i64 (C8+1)))else none) (some ((vI,j6)))
def Mf:List Nat:=[6,7,8,9]++List.range' 19 23
theorem Xe: ∀(k:Nat) (rA:PV) (jT:List Nat) (jW:PV) (gJ:List Nat) (M:List Nat) (vI:List Int) (j6:List Int) (mY:List Nd) (mM:Int) (C8:Int) (aB σ:Nat->PV) (H0 H:AH) (f0:Fr Mf aB σ) (hf0:HF M H0 H) (sl:σ 4=rA/\σ 5=jW/\σ 17=(.ak (mY.map Nd.cells) .unk)/\σ 18=(.int .i64 mM)/\σ 19=(.int .i64 C8)) (rC:aJ H aS 1 vI rA jT) (qW:Nw H0 M jT) (kY:aJ H aS 1 j6 jW gJ) (kL:Nw H0 M gJ) (gX:Dj jT gJ) (o:((List Int)×(List Int))) (h:nR k vI j6 mY mM C8=some o) (Q:Post) (q0: ∀(p:(List Int)×(List Int)) (v0:PV) (uw:List Nat) (v1:PV) (SY:List Nat) (σ':Nat->PV) (H':AH),o=p->Fr Mf aB σ'->HF M H0 H'->(σ' 4=v0/\σ' 5=v1)->aJ H' aS 1 p.1 v0 uw->Nw H0 M uw->aJ H' aS 1 p.2 v1 SY->Nw H0 M SY->Dj uw SY->Q (.exit 0) σ' H'),W Tryz.prog (.loop Rm) Q σ H:=by
 intro k
 induction k with
 |zero=>intro rA jT jW gJ M vI j6 mY mM C8 aB σ H0 H f0 hf0 sl rC qW kY kL gX o h Q q0;simp only [nR,reduceCtorEq]at h
 |succ k ih=>
  intro rA jT jW gJ M vI j6 mY mM C8 aB σ H0 H f0 hf0 sl rC qW kY kL gX o h Q q0;obtain⟨s4,s5,tK,iX,oW⟩:=sl;have hle0:=hf0.1;unfold nR at h;refine aW (fun K hK=>aC ?_);unfold Rm;obtain⟨e15,h⟩|⟨e15,h⟩:=aA h
  ·obtain⟨e16,h⟩:=aU h;obtain⟨Gs,e18,h⟩:=aj h;refine dz ?_;rw [dL];refine dz ?_;obtain⟨o58,h59,h⟩:=aj h;refine Xd k rA jT jW gJ (jT++(gJ++[])) vI j6 C8 Gs.args (Gs.args.length:Int) 0 _ _ _ _ (Fr.refl _ _) (HF.refl _ _) aP (by repeat (first|exact rC|apply aJ.new|refine aJ.put ?_ (fun hm=>by have:=aJ.lt rC _ hm;omega))) (fun i hi=>Or.inl (by simp only [List.mem_append,List.mem_cons,hi,true_or,or_true])) (by repeat (first|exact kY|apply aJ.new|refine aJ.put ?_ (fun hm=>by have:=aJ.lt kY _ hm;omega))) (fun i hi=>Or.inl (by simp only [List.mem_append,List.mem_cons,hi,true_or,or_true])) gX _ h59 _ ?_
   ·rintro p60 v64 axf v69 axg σ' H63 eo agN atm ⟨s68,s73⟩ r66 aAd r71 aAe aAf;rw [eo]at h;have s75:σ' 17=(.ak (mY.map Nd.cells) .unk):=(agN 17 (by decide)).trans aP;have s76:σ' 18=(.int .i64 mM):=(agN 18 (by decide)).trans aP;have s77:σ' 19=(.int .i64 C8):=(agN 19 (by decide)).trans aP;have le:=atm.1;try simp only [AH.aK,AH.aL,AH.aM,AH.aN]at le
    refine dz ?_;refine hK _ _ ?_;exact ih v64 axf v69 axg M p60.1 p60.2 mY mM (IntKind.wrap .i64 (C8+1)) _ _ _ _ (by repeat (first|exact f0|refine Fr.upd (by decide) ?_|refine Fr.via agN (by decide) ?_)) (by repeat (first|exact hf0|refine HF.new ?_|refine HF.qJ ?_|refine HF.used ?_|refine HF.put (by first|(right;omega)|(left;simp only [List.mem_cons,true_or,or_true])) ?_|refine HF.via atm (List.forall_mem_append.2 ⟨qW,(List.forall_mem_append.2 ⟨kL,(fun _ h=>absurd h List.not_mem_nil)⟩)⟩) ?_)) aP (by repeat (first|exact r66|apply aJ.new|refine aJ.put ?_ (fun hm=>by have:=aJ.lt r66 _ hm;omega))) (Nw.via (List.forall_mem_append.2 ⟨qW,(List.forall_mem_append.2 ⟨kL,(fun _ h=>absurd h List.not_mem_nil)⟩)⟩) bP aAd) (by repeat (first|exact r71|apply aJ.new|refine aJ.put ?_ (fun hm=>by have:=aJ.lt r71 _ hm;omega))) (Nw.via (List.forall_mem_append.2 ⟨qW,(List.forall_mem_append.2 ⟨kL,(fun _ h=>absurd h List.not_mem_nil)⟩)⟩) bP aAe) aAf _ h _ q0
  ·cases h;refine dz ?_;exact q0 _ rA jT jW gJ _ _ rfl aI nZ aP (by repeat (first|exact rC|apply aJ.new|refine aJ.put ?_ (fun hm=>by have:=aJ.lt rC _ hm;omega))) qW (by repeat (first|exact kY|apply aJ.new|refine aJ.put ?_ (fun hm=>by have:=aJ.lt kY _ hm;omega))) kL gX
def zT (k:Nat) (aG:List Nd):Option ((List Int)×(List Int)):=
 if [(-1)].length=1/\0<=(aG.length:Int)/\(aG.length:Int)<=1000000 then if 0<=(aG.length:Int)/\(aG.length:Int)<=1099511627776/\8*(aG.length:Int)<=1099511627776 then Option.bind (nR k (Ki [(-1)] (aG.length:Int):List Int) (List.replicate aG.length 0) aG (aG.length:Int) 0) (fun AX=>some (AX.1,AX.2))else none else none
theorem ad4 {k:Nat} {aG:List Nd} {c0:Ck} {r:(List Int)×(List Int)} (h:zT k aG=some r):aD Tryz.prog 179 [(.ak (aG.map Nd.cells) c0)] (.cK [(.ak (r.1.map aS) .unk),(.ak (r.2.map aS) .unk)]):=by
 refine aD.lw (.ak .nil) (aD.aO (aX.mem (.cons (aT Nd.pu _) .nil)) (aF avT (by simp) (aC ?_)) (.cK _ (aX.mem (.cons (aT dF _) (.cons (aT dF _) .nil)))));unfold zT at h;unfold amL;obtain⟨e13,h⟩:=aU h;obtain⟨e14,h⟩:=aU h;refine dz ?_
 refine VU (aik (a:=3) (b:=6) (f:=aS) (sz:=1) (xs:=(Ki [(-1)] (aG.length:Int):List Int)) (g:=aS) (sz2:=1) (ys:=(List.replicate aG.length 0)) (fun x y i=>match i with|0=>(.ak ([(-1)].map aS) .exact)|1=>(.ak (aG.map Nd.cells) .unk)|2=>(.int .i64 (aG.length:Int))|3=>x|4=>(.ak (aG.map Nd.cells) .unk)|5=>(.int .i64 (aG.length:Int))|6=>y|7=>x|_=>ud) rfl (by decide) rfl rfl (fun _ _=>rfl) (fun _ _=>rfl) (by
  intro x x' y i h1 h2;rcases i with _|i
  · first|rfl|exact absurd rfl h1|exact absurd h2 (by decide)
  rcases i with _|i
  · first|rfl|exact absurd rfl h1|exact absurd h2 (by decide)
  rcases i with _|i
  · first|rfl|exact absurd rfl h1|exact absurd h2 (by decide)
  rcases i with _|i
  · first|rfl|exact absurd rfl h1|exact absurd h2 (by decide)
  rcases i with _|i
  · first|rfl|exact absurd rfl h1|exact absurd h2 (by decide)
  rcases i with _|i
  · first|rfl|exact absurd rfl h1|exact absurd h2 (by decide)
  rcases i with _|i
  · first|rfl|exact absurd rfl h1|exact absurd h2 (by decide)
  rcases i with _|i
  · first|rfl|exact absurd rfl h1|exact absurd h2 (by decide)
  rfl) (by
  intro x y y' i h1 h2;rcases i with _|i
  · first|rfl|exact absurd rfl h1|exact absurd h2 (by decide)
  rcases i with _|i
  · first|rfl|exact absurd rfl h1|exact absurd h2 (by decide)
  rcases i with _|i
  · first|rfl|exact absurd rfl h1|exact absurd h2 (by decide)
  rcases i with _|i
  · first|rfl|exact absurd rfl h1|exact absurd h2 (by decide)
  rcases i with _|i
  · first|rfl|exact absurd rfl h1|exact absurd h2 (by decide)
  rcases i with _|i
  · first|rfl|exact absurd rfl h1|exact absurd h2 (by decide)
  rcases i with _|i
  · first|rfl|exact absurd rfl h1|exact absurd h2 (by decide)
  rcases i with _|i
  · first|rfl|exact absurd rfl h1|exact absurd h2 (by decide)
  rfl) (by
  intro x y;refine⟨.inr ⟨rfl,fun H=>by(try simp -implicitDefEqProofs only [eG,cO,evs,List.map,List.nil_append,List.append_nil,go_sem]);first|done|exact⟨rfl,rfl⟩⟩,?_⟩;refine⟨.inr ⟨rfl,fun H=>by(try simp -implicitDefEqProofs only [eG,cO,evs,List.map,List.nil_append,List.append_nil,go_sem]);first|done|exact⟨rfl,rfl⟩⟩,?_⟩;refine⟨.inr ⟨rfl,fun H=>by(try simp -implicitDefEqProofs only [eG,cO,evs,List.map,List.nil_append,List.append_nil,go_sem]);first|done|exact⟨rfl,rfl⟩⟩,?_⟩;refine⟨.inl rfl,?_⟩;refine⟨.inr ⟨rfl,fun H=>by(try simp -implicitDefEqProofs only [eG,cO,evs,List.map,List.nil_append,List.append_nil,go_sem]);first|done|exact⟨rfl,rfl⟩⟩,?_⟩;refine⟨.inr ⟨rfl,fun H=>by(try simp -implicitDefEqProofs only [eG,cO,evs,List.map,List.nil_append,List.append_nil,go_sem]);first|done|exact⟨rfl,rfl⟩⟩,?_⟩;refine⟨.inl rfl,?_⟩;refine⟨.inr ⟨rfl,fun H=>by(try simp -implicitDefEqProofs only [eG,cO,evs,List.map,List.nil_append,List.append_nil,go_sem]);first|done|exact⟨rfl,rfl⟩⟩,?_⟩;exact trivial) (fun y H=>⟨trivial,apF (atf [(-1)] (aG.length:Int) e13) (by simp -implicitDefEqProofs only [cO,evs,List.map,List.nil_append,List.append_nil,go_sem])⟩) (fun x H=>⟨trivial,apE (f:=aS) (k:= .i64) (k':= .i64) (n:=(aG.length:Int)) 0 rfl (by simp -implicitDefEqProofs only [cO,evs,List.map,List.nil_append,List.append_nil,go_sem]) (by simp -implicitDefEqProofs only [cO,evs,List.map,List.nil_append,List.append_nil,go_sem]) e14 (by decide)⟩) (fun v1 v8 atn ato H3 r4 r10 aAg nw5 aFI hf6 ok7=> ?_))
 simp only [cO,List.length_cons,List.length_nil,Nat.reduceAdd];have le:=hf6.1;try simp only [AH.aK,AH.aL,AH.aM,AH.aN]at le
 refine dz ?_;obtain⟨o78,h79,h⟩:=aj h;refine Xe k v1 atn v8 ato (atn++(ato++[])) (Ki [(-1)] (aG.length:Int):List Int) (List.replicate aG.length 0) aG (aG.length:Int) 0 _ _ _ _ (Fr.refl _ _) (HF.refl _ _) aP (by repeat (first|exact r4|apply aJ.new|refine aJ.put ?_ (fun hm=>by have:=aJ.lt r4 _ hm;omega))) (fun i hi=>Or.inl (by simp only [List.mem_append,List.mem_cons,hi,true_or,or_true])) (by repeat (first|exact r10|apply aJ.new|refine aJ.put ?_ (fun hm=>by have:=aJ.lt r10 _ hm;omega))) (fun i hi=>Or.inl (by simp only [List.mem_append,List.mem_cons,hi,true_or,or_true])) aAg _ h79 _ ?_
 ·rintro AX v84 aEG v89 aEH σ' H83 eo Li ak6 ⟨s88,s93⟩ r86 aFJ r91 aFK aFL;rw [eo]at h;have le:=ak6.1;try simp only [AH.aK,AH.aL,AH.aM,AH.aN]at le
  cases h;refine dz ?_;exact(bW (.cons (aJ.fz dF (by repeat (first|exact r86|apply aJ.new|refine aJ.put ?_ (fun hm=>by have:=aJ.lt r86 _ hm;omega)))) (.cons (aJ.fz dF (by repeat (first|exact r91|apply aJ.new|refine aJ.put ?_ (fun hm=>by have:=aJ.lt r91 _ hm;omega)))) .nil)))
end Go.VL
end
section
namespace Go.VL
open Go.Proofs Go.RowKit
set_option maxRecDepth 100000
theorem aiX:Enters Tryz.prog 268:=⟨_,Tryz.func268,rfl,by kernel_rfl⟩
theorem ak7:TQ Tryz.prog 268 1 false:=by
 intro l m bx n J Jx W hn hc hY h0;refine callsIn_of_wp Tryz.func268 rfl trivial ?_ rfl;simp only [Tryz.ntmps268,List.size_toArray,List.length_cons,List.length_nil,Nat.reduceAdd,Nat.reduceSub,Array.replicate_succ,Array.replicate_zero,List.push_toArray,List.append_toArray,List.nil_append,List.cons_append];obtain⟨ad0,cap0,hc0⟩:=hc
 gi_wp2
 gi_loopw [3] (fun v3 wr=> ∃k:Nat,v3= .int .i64 ((k:Int) -1)/\k<=n/\J k wr) (fun v3 wr=>(RowKit.intOf v3+1).toNat)
 case atStart=>exact⟨n,rfl,Nat.le_refl _,h0⟩
 case round=>
  obtain⟨k,rfl,hk,hJ⟩:=hrel;cases k with
  |zero=>
   have c1: ¬(0:Int)<=((0:Nat):Int) -1:=by omega
   gi_wp2
   go_end0
   exact⟨⟨_,rfl⟩,.inl hJ⟩
  |succ k=>
   obtain⟨b,o,cap,vs,hb,hkn,hvs,hld,fn,tmps,assign,body,hy,hR⟩:=hY k wr hJ;have e1:((k+1:Nat):Int) -1=(k:Int):=by omega
   rw [e1];have c1:(0:Int)<=(k:Int):=by omega
   have c2:(k:Int)<(n:Int):=by omega
   have aFM:wr.cell? ⟨b,o+k,none⟩=some (elemV false vs):=by
    have:=hld 0 (elemV false vs) (by simp [elemV,hvs]);simpa using this
   clear hld;generalize elemV false vs=v at*
   gi_wp2
   refine⟨fun hd=>absurd hd (by simp [Fence.wide]),(Pw hR).mono ?_⟩;rintro e W' (⟨rfl,hJ'⟩|⟨rfl,hJx⟩)
   · gi_wp2
     go_roundw
     case rel=>exact⟨k,rfl,by omega,hJ'⟩
     case measure=>simp [RowKit.intOf]
   · gi_wp2
     refine bodyPost_ret (results_none rfl _ _ _) rfl ?_;exact⟨⟨_,rfl⟩,.inr hJx⟩
end Go.VL
end
section
set_option maxHeartbeats 4000000
namespace Go.VL
open Go.Proofs
def wX (bY:Int):Option Bool:=
 cond (bY==1) (some ((bY==1))) (some ((bY==2)))
theorem Xf: ∀(bY:Int) (aB σ:Nat->PV) (H:AH) (f0:Fr [15,16,17] aB σ) (sl:σ 11=(.int .i64 bY)) (o:Bool) (h:wX bY=some o) (Q:Post) (q0: ∀(p:Bool) (σ':Nat->PV),o=p->Fr [15,16,17] aB σ'->(σ' 15=(.bool p))->Q .normal σ' H),W Tryz.prog RQ Q σ H:=by
 intro bY aB σ H f0 sl o h Q q0;have s11:=sl;unfold wX at h;refine aC ?_;unfold RQ;obtain⟨e2,h⟩|⟨e2,h⟩:=aA h
 ·cases h;refine ah ?_;exact q0 _ _ rfl aI au
 ·cases h;refine ah ?_;exact q0 _ _ rfl aI au
def Bo (bY:Int):Option Bool:=
 cond (bY==4) (some ((bY==4))) (some ((bY==5)))
theorem Xg: ∀(bY:Int) (aB σ:Nat->PV) (H:AH) (f0:Fr [38,39,40] aB σ) (sl:σ 11=(.int .i64 bY)) (o:Bool) (h:Bo bY=some o) (Q:Post) (q0: ∀(p:Bool) (σ':Nat->PV),o=p->Fr [38,39,40] aB σ'->(σ' 38=(.bool p))->Q .normal σ' H),W Tryz.prog RS Q σ H:=by
 intro bY aB σ H f0 sl o h Q q0;have s11:=sl;unfold Bo at h;refine aC ?_;unfold RS;obtain⟨e20,h⟩|⟨e20,h⟩:=aA h
 ·cases h;refine ah ?_;exact q0 _ _ rfl aI au
 ·cases h;refine ah ?_;exact q0 _ _ rfl aI au
def Bp (bY:Int):Option Bool:=
 cond (bY==6) (some ((bY==6))) (some ((bY==12)))
theorem Xh: ∀(bY:Int) (aB σ:Nat->PV) (H:AH) (f0:Fr [43,44,45] aB σ) (sl:σ 11=(.int .i64 bY)) (o:Bool) (h:Bp bY=some o) (Q:Post) (q0: ∀(p:Bool) (σ':Nat->PV),o=p->Fr [43,44,45] aB σ'->(σ' 43=(.bool p))->Q .normal σ' H),W Tryz.prog RU Q σ H:=by
 intro bY aB σ H f0 sl o h Q q0;have s11:=sl;unfold Bp at h;refine aC ?_;unfold RU;obtain⟨e33,h⟩|⟨e33,h⟩:=aA h
 ·cases h;refine ah ?_;exact q0 _ _ rfl aI au
 ·cases h;refine ah ?_;exact q0 _ _ rfl aI au
def Bq (bY:Int):Option Bool:=
 cond (bY==7) (some ((bY==7))) (cond (bY==8) (some ((bY==8))) (cond (bY==9) (some ((bY==9))) (some ((bY==13)))))
def Mg:List Nat:=[48,49,50,51,52]
theorem Xi: ∀(bY:Int) (aB σ:Nat->PV) (H:AH) (f0:Fr Mg aB σ) (sl:σ 11=(.int .i64 bY)) (o:Bool) (h:Bq bY=some o) (Q:Post) (q0: ∀(p:Bool) (σ':Nat->PV),o=p->Fr Mg aB σ'->(σ' 48=(.bool p))->Q .normal σ' H),W Tryz.prog RX Q σ H:=by
 intro bY aB σ H f0 sl o h Q q0;have s11:=sl;unfold Bq at h;refine aC ?_;unfold RX;obtain⟨e48,h⟩|⟨e48,h⟩:=aA h
 ·cases h;refine ah ?_;exact q0 _ _ rfl aI au
 ·obtain⟨e49,h⟩|⟨e49,h⟩:=aA h
  ·cases h;refine ah ?_;exact q0 _ _ rfl aI au
  ·obtain⟨e50,h⟩|⟨e50,h⟩:=aA h
   ·cases h;refine ah ?_;exact q0 _ _ rfl aI au
   ·cases h;refine ah ?_;exact q0 _ _ rfl aI au
def Br (bY:Int):Option Bool:=
 cond (bY==10) (some ((bY==10))) (some ((bY==11)))
theorem Xj: ∀(bY:Int) (aB σ:Nat->PV) (H:AH) (f0:Fr [60,61,62] aB σ) (sl:σ 11=(.int .i64 bY)) (o:Bool) (h:Br bY=some o) (Q:Post) (q0: ∀(p:Bool) (σ':Nat->PV),o=p->Fr [60,61,62] aB σ'->(σ' 60=(.bool p))->Q .normal σ' H),W Tryz.prog RY Q σ H:=by
 intro bY aB σ H f0 sl o h Q q0;have s11:=sl;unfold Br at h;refine aC ?_;unfold RY;obtain⟨e63,h⟩|⟨e63,h⟩:=aA h
 ·cases h;refine ah ?_;exact q0 _ _ rfl aI au
 ·cases h;refine ah ?_;exact q0 _ _ rfl aI au
def Bt (bY:Int):Option Bool:=
 cond (bY==16) (some ((bY==16))) (some ((bY==17)))
theorem Xk: ∀(bY:Int) (aB σ:Nat->PV) (H:AH) (f0:Fr [70,71,72] aB σ) (sl:σ 11=(.int .i64 bY)) (o:Bool) (h:Bt bY=some o) (Q:Post) (q0: ∀(p:Bool) (σ':Nat->PV),o=p->Fr [70,71,72] aB σ'->(σ' 70=(.bool p))->Q .normal σ' H),W Tryz.prog RZ Q σ H:=by
 intro bY aB σ H f0 sl o h Q q0;have s11:=sl;unfold Bt at h;refine aC ?_;unfold RZ;obtain⟨Ye,h⟩|⟨Ye,h⟩:=aA h
 ·cases h;refine ah ?_;exact q0 _ _ rfl aI au
 ·cases h;refine ah ?_;exact q0 _ _ rfl aI au
def Bu (bY:Int):Option Bool:=
 cond (bY==19) (some ((bY==19))) (some ((bY==21)))
theorem Xl: ∀(bY:Int) (aB σ:Nat->PV) (H:AH) (f0:Fr [82,83,84] aB σ) (sl:σ 11=(.int .i64 bY)) (o:Bool) (h:Bu bY=some o) (Q:Post) (q0: ∀(p:Bool) (σ':Nat->PV),o=p->Fr [82,83,84] aB σ'->(σ' 82=(.bool p))->Q .normal σ' H),W Tryz.prog R3 Q σ H:=by
 intro bY aB σ H f0 sl o h Q q0;have s11:=sl;unfold Bu at h;refine aC ?_;unfold R3;obtain⟨e91,h⟩|⟨e91,h⟩:=aA h
 ·cases h;refine ah ?_;exact q0 _ _ rfl aI au
 ·cases h;refine ah ?_;exact q0 _ _ rfl aI au
def zU (k:Nat) (bg:Nd):Option Shape:=
 cond (bg.kind==0) (some (Shape.mk (0,0) (0,0) false true)) (Option.bind (wX bg.kind) (fun p5=>cond p5 (some (Shape.mk (0,0) (0,0) true false)) (cond (bg.kind==3) ((nP k bg.text).bind fun DR=>cond DR.2 (some (Shape.mk (0,0) ((bg.args.length:Int),(bg.args.length:Int)) true false)) (some (Shape.mk (0,0) (1,4) true false))) (Option.bind (Bo bg.kind) (fun yO=>cond yO (some (Shape.mk (0,0) (0,30) false false)) (Option.bind (Bp bg.kind) (fun p36=>cond p36 ((vk 1 2).bind fun p47=>some p47) (Option.bind (Bq bg.kind) (fun p53=>cond p53 (some (Shape.mk (1,4) ((IntKind.wrap .i64 ((bg.names.length:Int)+1)),(IntKind.wrap .i64 ((bg.names.length:Int)+1))) false false)) (Option.bind (Br bg.kind) (fun p66=>cond p66 (some (Shape.mk (1,4) (1,1) false false)) (cond (bg.kind==14) (some (Shape.mk (0,0) (2,5) false false)) (Option.bind (Bt bg.kind) (fun AX=>cond AX (some (Shape.mk (1,30) ((bg.names.length:Int),(bg.names.length:Int)) false false)) (cond (bg.kind==18) (some (Shape.mk (0,0) (1,1) true false)) (Option.bind (Bu bg.kind) (fun Yd=>cond Yd ((vk 0 3).bind fun abk=>some abk) (cond (bg.kind==20) (some (Shape.mk (0,0) (0,0) false false)) (cond (bg.kind==22) (some (Shape.mk (0,0) (2,30) false false)) (cond (bg.kind==23) (some (Shape.mk (1,5) (2,2) false true)) (cond (bg.kind==24) (some (Shape.mk (1,4) (1,1) false false)) ((vk 0 2).bind fun atp=>some atp))))))))))))))))))))))
theorem ad5 {k:Nat} {bg:Nd} {r:Shape} (h:zU k bg=some r):aD Tryz.prog 226 [(.agg (Nd.cells bg))] (.agg (Shape.cells r)):=by
 refine aD.aO (aX.mem (.cons (.agg _ (Nd.pu _)) .nil)) (aF awf (by simp) (aC ?_)) (.agg _ (Shape.pu _));unfold zU at h;unfold am5;obtain⟨e1,h⟩|⟨e1,h⟩:=aA h
 ·cases h;refine ah ?_;exact(bQ (aQ (aQ (aQ (aQ (.cons (.pure _ (.bool _)) (.cons (.pure _ (.bool _)) .nil)))))))
 ·refine ah ?_;obtain⟨o3,h4,h⟩:=aj h;refine Xf bg.kind _ _ _ (Fr.refl _ _) au _ h4 _ ?_
  ·rintro p5 σ' eo fr6 s9;rw [eo]at h;have s10:σ' 1=(.ref (AH.empty.next) 0):=(fr6 1 (by decide)).trans au;have s11:σ' 2=(.ref (AH.empty.next+1) 0):=(fr6 2 (by decide)).trans au;have s12:σ' 3=(.fn (.func 267) [] []):=(fr6 3 (by decide)).trans au;have s13:σ' 4=(.int .i64 (bg.names.length:Int)):=(fr6 4 (by decide)).trans au;have J8:σ' 11=(.int .i64 bg.kind):=(fr6 11 (by decide)).trans au;obtain⟨e15,h⟩|⟨e15,h⟩:=aA h
   ·cases h;refine ah ?_;exact(bQ (aQ (aQ (aQ (aQ (.cons (.pure _ (.bool _)) (.cons (.pure _ (.bool _)) .nil)))))))
   ·obtain⟨e16,h⟩|⟨e16,h⟩:=aA h
    ·obtain⟨DR,e17,h⟩:=aj h;refine ah ?_;refine av (xY e17) ?_;obtain⟨e19,h⟩|⟨e19,h⟩:=aA h
     ·cases h;refine ah ?_;exact(bQ (aQ (aQ (aQ (aQ (.cons (.pure _ (.bool _)) (.cons (.pure _ (.bool _)) .nil)))))))
     ·cases h;refine ah ?_;exact(bQ (aQ (aQ (aQ (aQ (.cons (.pure _ (.bool _)) (.cons (.pure _ (.bool _)) .nil)))))))
    ·refine ah ?_;obtain⟨o21,h22,h⟩:=aj h;refine Xg bg.kind _ _ _ (Fr.refl _ _) au _ h22 _ ?_
     ·rintro yO σ' eo Xm Yh;rw [eo]at h;have s28:σ' 2=(.ref (AH.empty.next+1) 0):=(Xm 2 (by decide)).trans au;have s29:σ' 3=(.fn (.func 267) [] []):=(Xm 3 (by decide)).trans au;have s30:σ' 4=(.int .i64 (bg.names.length:Int)):=(Xm 4 (by decide)).trans au;have s31:σ' 11=(.int .i64 bg.kind):=(Xm 11 (by decide)).trans au;obtain⟨e32,h⟩|⟨e32,h⟩:=aA h
      ·cases h;refine ah ?_;exact(bQ (aQ (aQ (aQ (aQ (.cons (.pure _ (.bool _)) (.cons (.pure _ (.bool _)) .nil)))))))
      ·refine ah ?_;obtain⟨o34,h35,h⟩:=aj h;refine Xh bg.kind _ _ _ (Fr.refl _ _) au _ h35 _ ?_
       ·rintro p36 σ' eo Eu s40;rw [eo]at h;have s41:σ' 2=(.ref (AH.empty.next+1) 0):=(Eu 2 (by decide)).trans au;have s42:σ' 3=(.fn (.func 267) [] []):=(Eu 3 (by decide)).trans au;have s43:σ' 4=(.int .i64 (bg.names.length:Int)):=(Eu 4 (by decide)).trans au;have s44:σ' 11=(.int .i64 bg.kind):=(Eu 11 (by decide)).trans au;obtain⟨e45,h⟩|⟨e45,h⟩:=aA h
        ·obtain⟨p47,e46,h⟩:=aj h;refine ah ?_;refine av (Es e46) ?_;cases h;refine ah ?_;exact(bQ (aQ (aQ (aQ (aQ (.cons (.pure _ (.bool _)) (.cons (.pure _ (.bool _)) .nil)))))))
        ·refine ah ?_;obtain⟨o51,h52,h⟩:=aj h;refine Xi bg.kind _ _ _ (Fr.refl _ _) au _ h52 _ ?_
         ·rintro p53 σ' eo Lb s57;rw [eo]at h;have s58:σ' 2=(.ref (AH.empty.next+1) 0):=(Lb 2 (by decide)).trans au;have s59:σ' 3=(.fn (.func 267) [] []):=(Lb 3 (by decide)).trans au;have s60:σ' 4=(.int .i64 (bg.names.length:Int)):=(Lb 4 (by decide)).trans au;have s61:σ' 11=(.int .i64 bg.kind):=(Lb 11 (by decide)).trans au;obtain⟨e62,h⟩|⟨e62,h⟩:=aA h
          ·cases h;refine ah ?_;exact(bQ (aQ (aQ (aQ (aQ (.cons (.pure _ (.bool _)) (.cons (.pure _ (.bool _)) .nil)))))))
          ·refine ah ?_;obtain⟨o64,h65,h⟩:=aj h;refine Xj bg.kind _ _ _ (Fr.refl _ _) au _ h65 _ ?_
           ·rintro p66 σ' eo NT s70;rw [eo]at h;have s71:σ' 2=(.ref (AH.empty.next+1) 0):=(NT 2 (by decide)).trans au;have s72:σ' 3=(.fn (.func 267) [] []):=(NT 3 (by decide)).trans au;have s73:σ' 4=(.int .i64 (bg.names.length:Int)):=(NT 4 (by decide)).trans au;have s74:σ' 11=(.int .i64 bg.kind):=(NT 11 (by decide)).trans au;obtain⟨Uf,h⟩|⟨Uf,h⟩:=aA h
            ·cases h;refine ah ?_;exact(bQ (aQ (aQ (aQ (aQ (.cons (.pure _ (.bool _)) (.cons (.pure _ (.bool _)) .nil)))))))
            ·obtain⟨e76,h⟩|⟨e76,h⟩:=aA h
             ·cases h;refine ah ?_;exact(bQ (aQ (aQ (aQ (aQ (.cons (.pure _ (.bool _)) (.cons (.pure _ (.bool _)) .nil)))))))
             ·refine ah ?_;obtain⟨o78,h79,h⟩:=aj h;refine Xk bg.kind _ _ _ (Fr.refl _ _) au _ h79 _ ?_
              ·rintro AX σ' eo Li s84;rw [eo]at h;have s85:σ' 2=(.ref (AH.empty.next+1) 0):=(Li 2 (by decide)).trans au;have s86:σ' 3=(.fn (.func 267) [] []):=(Li 3 (by decide)).trans au;have s87:σ' 4=(.int .i64 (bg.names.length:Int)):=(Li 4 (by decide)).trans au;have s88:σ' 11=(.int .i64 bg.kind):=(Li 11 (by decide)).trans au;obtain⟨Ui,h⟩|⟨Ui,h⟩:=aA h
               ·cases h;refine ah ?_;exact(bQ (aQ (aQ (aQ (aQ (.cons (.pure _ (.bool _)) (.cons (.pure _ (.bool _)) .nil)))))))
               ·obtain⟨e90,h⟩|⟨e90,h⟩:=aA h
                ·cases h;refine ah ?_;exact(bQ (aQ (aQ (aQ (aQ (.cons (.pure _ (.bool _)) (.cons (.pure _ (.bool _)) .nil)))))))
                ·refine ah ?_;obtain⟨o92,h93,h⟩:=aj h;refine Xl bg.kind _ _ _ (Fr.refl _ _) au _ h93 _ ?_
                 ·rintro Yd σ' eo ak8 s98;rw [eo]at h;have s99:σ' 2=(.ref (AH.empty.next+1) 0):=(ak8 2 (by decide)).trans au;have ags:σ' 3=(.fn (.func 267) [] []):=(ak8 3 (by decide)).trans au;have az5:σ' 11=(.int .i64 bg.kind):=(ak8 11 (by decide)).trans au;obtain⟨abp,h⟩|⟨abp,h⟩:=aA h
                  ·obtain⟨abk,Lc,h⟩:=aj h;refine ah ?_;refine av (Es Lc) ?_;cases h;refine ah ?_;exact(bQ (aQ (aQ (aQ (aQ (.cons (.pure _ (.bool _)) (.cons (.pure _ (.bool _)) .nil)))))))
                  ·obtain⟨Np,h⟩|⟨Np,h⟩:=aA h
                   ·cases h;refine ah ?_;exact(bQ (aQ (aQ (aQ (aQ (.cons (.pure _ (.bool _)) (.cons (.pure _ (.bool _)) .nil)))))))
                   ·obtain⟨akO,h⟩|⟨akO,h⟩:=aA h
                    ·cases h;refine ah ?_;exact(bQ (aQ (aQ (aQ (aQ (.cons (.pure _ (.bool _)) (.cons (.pure _ (.bool _)) .nil)))))))
                    ·obtain⟨NP,h⟩|⟨NP,h⟩:=aA h
                     ·cases h;refine ah ?_;exact(bQ (aQ (aQ (aQ (aQ (.cons (.pure _ (.bool _)) (.cons (.pure _ (.bool _)) .nil)))))))
                     ·obtain⟨e108,h⟩|⟨e108,h⟩:=aA h
                      ·cases h;refine ah ?_;exact(bQ (aQ (aQ (aQ (aQ (.cons (.pure _ (.bool _)) (.cons (.pure _ (.bool _)) .nil)))))))
                      ·obtain⟨atp,e109,h⟩:=aj h;refine ah ?_;refine av (Es e109) ?_;cases h;refine ah ?_;exact(bQ (aQ (aQ (aQ (aQ (.cons (.pure _ (.bool _)) (.cons (.pure _ (.bool _)) .nil)))))))
def qj:Nat->(List Nd)->(List Int)->(List Int)->Int->Option (Unit⊕Bool)
 |0,_,_,_,_=>none
 |k+1,aG,wY,mE,IJ=>
  if 0<=IJ then (wY[IJ.toNat]?).bind fun Ym=>cond (Ym !=(-1)) (if 0<=Ym then (aG[Ym.toNat]?).bind fun x20=>cond (x20.kind==19) ((mE[IJ.toNat]?).bind fun x23=>cond (x23==2) (some (.inr (false))) (qj k aG wY mE Ym)) (qj k aG wY mE Ym)else none) (some (.inl ()))else none
def GI:List Nat:=[8,11]++List.range' 51 25
theorem Zu: ∀(k:Nat) (aG:List Nd) (wY:List Int) (mE:List Int) (IJ:Int) (aB σ:Nat->PV) (H:AH) (f0:Fr GI aB σ) (sl:σ 0=(.ak (aG.map Nd.cells) .unk)/\σ 2=(.ak (wY.map aS) .unk)/\σ 3=(.ak (mE.map aS) .unk)/\σ 11=(.int .i64 IJ)) (o:Unit⊕Bool) (h:qj k aG wY mE IJ=some o) (Q:Post) (q0: ∀(p:Unit) (σ':Nat->PV),o= .inl p->Fr GI aB σ'->Q (.exit 1) σ' H) (q1: ∀(p:Bool) (σ':Nat->PV),o= .inr (p)->Fr GI aB σ'->(σ' 8=(.bool p))->Q .ret σ' H),W Tryz.prog (.loop Rn) Q σ H:=by
 intro k
 induction k with
 |zero=>intro aG wY mE IJ aB σ H f0 sl o h Q q0 q1;simp only [qj,reduceCtorEq]at h
 |succ k ih=>
  intro aG wY mE IJ aB σ H f0 sl o h Q q0 q1;obtain⟨s0,s2,s3,s11⟩:=sl;unfold qj at h;refine aW (fun K hK=>aC ?_);unfold Rn;obtain⟨e15,h⟩:=aU h;obtain⟨Ym,e17,h⟩:=aj h;obtain⟨e18,h⟩|⟨e18,h⟩:=aA h
  ·obtain⟨e19,h⟩:=aU h;obtain⟨x20,e21,h⟩:=aj h;obtain⟨e22,h⟩|⟨e22,h⟩:=aA h
   ·obtain⟨x23,e24,h⟩:=aj h;obtain⟨e25,h⟩|⟨e25,h⟩:=aA h
    ·cases h;refine ah ?_;exact q1 _ _ rfl aI au
    ·refine ah ?_;refine hK _ _ ?_;exact ih aG wY mE Ym _ _ _ aI au _ h _ q0 q1
   ·refine ah ?_;refine hK _ _ ?_;exact ih aG wY mE Ym _ _ _ aI au _ h _ q0 q1
  ·cases h;refine ah ?_;exact q0 _ _ rfl aI
def GJ (k:Nat) (aG:List Nd) (dP:Int) (wY:List Int) (mE:List Int):Option Bool:=
 if 0<=dP then (aG[dP.toNat]?).bind fun x2=>cond (x2.kind==24) ((wY[dP.toNat]?).bind fun x5=>cond (x5==(-1)) (some true) (if 0<=x5 then (aG[x5.toNat]?).bind fun x9=>cond (x9.kind !=3) (some true) ((nP k x9.text).bind fun wE=>some wE.2)else none)) (cond (x2.kind==20) (Option.bind (qj k aG wY mE dP) (fun o=>Sum.elim (fun p28=>some true) (fun p32=>some p32) o)) (some false))else none
theorem agO {k:Nat} {aG:List Nd} {dP:Int} {wY:List Int} {mE:List Int} {c0 c2 c3:Ck} {r:Bool} (h:GJ k aG dP wY mE=some r):aD Tryz.prog 180 [(.ak (aG.map Nd.cells) c0),(.int .i64 dP),(.ak (wY.map aS) c2),(.ak (mE.map aS) c3)] (.bool r):=by
 refine aD.lw (.ak (.same (.ak (.ak .nil)))) (aD.aO (aX.mem (.cons (aT Nd.pu _) (.cons (.int _ _) (.cons (aT dF _) (.cons (aT dF _) .nil))))) (aF avU (by simp) (aC ?_)) (.bool _));unfold GJ at h;unfold amM;obtain⟨e1,h⟩:=aU h;obtain⟨x2,e3,h⟩:=aj h;obtain⟨e4,h⟩|⟨e4,h⟩:=aA h
 ·obtain⟨x5,e6,h⟩:=aj h;obtain⟨e7,h⟩|⟨e7,h⟩:=aA h
  ·cases h;refine ah ?_;exact(.pure _ (.bool _))
  ·obtain⟨e8,h⟩:=aU h;obtain⟨x9,e10,h⟩:=aj h;obtain⟨e11,h⟩|⟨e11,h⟩:=aA h
   ·cases h;refine ah ?_;exact(.pure _ (.bool _))
   ·obtain⟨wE,e12,h⟩:=aj h;refine ah ?_;refine av (xY e12) ?_;cases h;refine ah ?_;exact(.pure _ (.bool _))
 ·obtain⟨e14,h⟩|⟨e14,h⟩:=aA h
  ·refine ah ?_;obtain⟨o26,h27,h⟩:=aj h;refine Zu k aG wY mE dP _ _ _ (Fr.refl _ _) au _ h27 _ ?_ ?_
   ·rintro p28 σ' eo SL;subst eo;rw [bI]at h;cases h;refine ah ?_;exact(.pure _ (.bool _))
   ·rintro p32 σ' eo vH s36;subst eo;rw [bL]at h;cases h;refine ah ?_;exact(.pure _ (.bool _))
  ·cases h;refine ah ?_;exact(.pure _ (.bool _))
def wZ (k:Nat) (s_0:Str):Option Bool:=
 (uD k s_0).bind fun p2=>some (!p2)
theorem Xn {k:Nat} {s_0:Str} {r:Bool} (h:wZ k s_0=some r):aD Tryz.prog 271 [(.str s_0)] (.bool r):=by
 refine aD.aO (aX.mem (.cons (.str _) .nil)) (aF awM (by simp) (aC ?_)) (.bool _);unfold wZ at h;unfold anD;obtain⟨p2,e1,h⟩:=aj h;refine ah ?_;refine av (Bl e1) ?_;cases h;refine ah ?_;exact(.pure _ (.bool _))
def bK:Nat->(List Str)->Int->Int->Option (Unit⊕Int)
 |0,_,_,_=>none
 |k+1,s_0,dX,dB=>
  cond (decide (dB<dX)) (if 0<=dB then (s_0[dB.toNat]?).bind fun x3=>(wZ k x3).bind fun p6=>cond p6 (some (.inr (dB))) (bK k s_0 dX (IntKind.wrap .i64 (dB+1)))else none) (some (.inl ()))
def jN:List Nat:=[4,5]++List.range' 8 11
theorem xg: ∀(k:Nat) (s_0:List Str) (dX:Int) (dB:Int) (aB σ:Nat->PV) (H:AH) (f0:Fr jN aB σ) (sl:σ 0=(.ak (s_0.map aH) .unk)/\σ 1=(.fn (.func 271) [] [])/\σ 7=(.int .i64 dX)/\σ 8=(.int .i64 dB)) (o:Unit⊕Int) (h:bK k s_0 dX dB=some o) (Q:Post) (q0: ∀(p:Unit) (σ':Nat->PV),o= .inl p->Fr jN aB σ'->Q (.exit 0) σ' H) (q1: ∀(p:Int) (σ':Nat->PV),o= .inr (p)->Fr jN aB σ'->(σ' 4=(.int .i64 p))->Q .ret σ' H),W Tryz.prog (.loop Sy) Q σ H:=by
 intro k
 induction k with
 |zero=>intro s_0 dX dB aB σ H f0 sl o h Q q0 q1;simp only [bK,reduceCtorEq]at h
 |succ k ih=>
  intro s_0 dX dB aB σ H f0 sl o h Q q0 q1;obtain⟨s0,s1,s7,s8⟩:=sl;unfold bK at h;refine aW (fun K hK=>aC ?_);unfold Sy;obtain⟨e1,h⟩|⟨e1,h⟩:=aA h
  ·obtain⟨e2,h⟩:=aU h;obtain⟨x3,e4,h⟩:=aj h;obtain⟨p6,e5,h⟩:=aj h;refine ah ?_;refine av (Xn e5) ?_;obtain⟨e7,h⟩|⟨e7,h⟩:=aA h
   ·cases h;refine ah ?_;exact q1 _ _ rfl aI au
   ·refine ah ?_;refine hK _ _ ?_;exact ih s_0 dX (IntKind.wrap .i64 (dB+1)) _ _ _ aI au _ h _ q0 q1
  ·cases h;refine ah ?_;exact q0 _ _ rfl aI
def gN (k:Nat) (s_0:List Str):Option Int:=
 Option.bind (bK k s_0 (s_0.length:Int) 0) (fun o=>Sum.elim (fun iM=>some (-1)) (fun iQ=>some iQ) o)
theorem yY {k:Nat} {s_0:List Str} {c0:Ck} {r:Int} (h:gN k s_0=some r):aD Tryz.prog 274 [(.ak (s_0.map aH) c0),(.fn (.func 271) [] [])] (.int .i64 r):=by
 refine aD.lw (.ak (.same .nil)) (aD.aO (aX.mem (.cons (aT bE _) (.cons (.fn _ _ _ (aX.mem .nil) (aX.mem .nil)) .nil))) (aF awP (by simp) (aC ?_)) (.int _ _));unfold gN at h;unfold anG;refine ah ?_;obtain⟨o8,h9,h⟩:=aj h;refine xg k s_0 (s_0.length:Int) 0 _ _ _ (Fr.refl _ _) au _ h9 _ ?_ ?_
 ·rintro iM σ' eo CP;subst eo;rw [bI]at h;cases h;refine ah ?_;exact(.pure _ (.int _ _))
 ·rintro iQ σ' eo sI iX;subst eo;rw [bL]at h;cases h;refine ah ?_;exact(.pure _ (.int _ _))
def fO (k:Nat) (s_0:List Str):Option Bool:=
 (gN k s_0).bind fun p2=>some (decide (p2>=0))
theorem xk {k:Nat} {s_0:List Str} {c0:Ck} {r:Bool} (h:fO k s_0=some r):aD Tryz.prog 232 [(.ak (s_0.map aH) c0),(.fn (.func 271) [] [])] (.bool r):=by
 refine aD.lw (.ak (.same .nil)) (aD.aO (aX.mem (.cons (aT bE _) (.cons (.fn _ _ _ (aX.mem .nil) (aX.mem .nil)) .nil))) (aF awk (by simp) (aC ?_)) (.bool _));unfold fO at h;unfold ana;obtain⟨p2,e1,h⟩:=aj h;refine ah ?_;refine av (yY e1) ?_;cases h;refine ah ?_;exact(.pure _ (.bool _))
def zf (k:Nat) (eU:Int) (fF:Int) (eP:Str) (fq:List Str) (fB:List Int) (uz:Bool):Option Bool:=
 cond uz (some (true)) ((DY eP).bind fun p8=>cond p8 (some (false)) ((xS k eP).bind fun ni=>some ((!ni))))
def Kj:List Nat:=List.range' 25 11
theorem UE (k:Nat): ∀(fG:Nat) (eU:Int) (fF:Int) (eP:Str) (fq:List Str) (fB:List Int) (uz:Bool) (aB σ:Nat->PV) (H:AH) (f0:Fr Kj aB σ) (sl:σ 1=(.ref (fG) 0)/\σ 24=(.bool uz)/\H.obj fG=some [(.int .i64 eU),(.int .i64 fF),(.str eP),(.ak (fq.map aH) .unk),(.ak (fB.map aS) .unk)]) (iw:fG<H.next) (o:Bool) (h:zf k eU fF eP fq fB uz=some o) (Q:Post) (q0: ∀(p:Bool) (σ':Nat->PV),o=p->Fr Kj aB σ'->(σ' 35=(.bool p))->Q .normal σ' H),dH Tryz.prog R4 (Q .normal) σ H:=by
 intro fG eU fF eP fq fB uz aB σ H f0 sl iw o h Q q0;obtain⟨s1,s24,Kk⟩:=sl;have Kl:=ne_next iw;have Km:=aZ iw;unfold zf at h;refine fu ?_;unfold R4;obtain⟨e6,h⟩|⟨e6,h⟩:=aA h
 ·cases h;refine ah ?_;exact q0 _ _ rfl aI au
 ·obtain⟨p8,e7,h⟩:=aj h;refine ah ?_;refine av (PW e7) ?_;obtain⟨e9,h⟩|⟨e9,h⟩:=aA h
  ·cases h;refine ah ?_;exact q0 _ _ rfl aI au
  ·obtain⟨ni,e10,h⟩:=aj h;refine ah ?_;refine av (NR e10) ?_;cases h;refine ah ?_;exact q0 _ _ rfl aI au
def zh (k:Nat) (eU:Int) (fF:Int) (eP:Str) (fq:List Str) (fB:List Int) (iV:Bool) (Bv:Bool):Option Bool:=
 cond Bv (some (true)) (cond iV (some (false)) ((xS k eP).bind fun p25=>some ((!p25))))
def Kn:List Nat:=List.range' 40 9
theorem UF (k:Nat): ∀(fG:Nat) (eU:Int) (fF:Int) (eP:Str) (fq:List Str) (fB:List Int) (iV:Bool) (Bv:Bool) (aB σ:Nat->PV) (H:AH) (f0:Fr Kn aB σ) (sl:σ 1=(.ref (fG) 0)/\σ 5=(.bool iV)/\σ 39=(.bool Bv)/\H.obj fG=some [(.int .i64 eU),(.int .i64 fF),(.str eP),(.ak (fq.map aH) .unk),(.ak (fB.map aS) .unk)]) (iw:fG<H.next) (o:Bool) (h:zh k eU fF eP fq fB iV Bv=some o) (Q:Post) (q0: ∀(p:Bool) (σ':Nat->PV),o=p->Fr Kn aB σ'->(σ' 48=(.bool p))->Q .normal σ' H),dH Tryz.prog R5 (Q .normal) σ H:=by
 intro fG eU fF eP fq fB iV Bv aB σ H f0 sl iw o h Q q0;obtain⟨s1,s5,s39,Kk⟩:=sl;have Kl:=ne_next iw;have Km:=aZ iw;unfold zh at h;refine fu ?_;unfold R5;obtain⟨e22,h⟩|⟨e22,h⟩:=aA h
 ·cases h;refine ah ?_;exact q0 _ _ rfl aI au
 ·obtain⟨e23,h⟩|⟨e23,h⟩:=aA h
  ·cases h;refine ah ?_;exact q0 _ _ rfl aI au
  ·obtain⟨p25,e24,h⟩:=aj h;refine ah ?_;refine av (NR e24) ?_;cases h;refine ah ?_;exact q0 _ _ rfl aI au
def zi (eU:Int) (fF:Int) (eP:Str) (fq:List Str) (fB:List Int) (Bw:Str) (Bz:Int) (BA:Int) (BD:Int) (BF:Bool) (zk:Int) (zl:Int) (ab0:Bool):Option Bool:=
 cond ab0 ((gP (fB.length:Int) zk zl).bind fun p38=>some ((!p38))) (some (false))
def Ko:List Nat:=List.range' 51 10
theorem UG: ∀(fG:Nat) (xZ:Nat) (eU:Int) (fF:Int) (eP:Str) (fq:List Str) (fB:List Int) (Bw:Str) (Bz:Int) (BA:Int) (BD:Int) (BF:Bool) (zk:Int) (zl:Int) (ab0:Bool) (aB σ:Nat->PV) (H:AH) (f0:Fr Ko aB σ) (sl:σ 1=(.ref (fG) 0)/\σ 4=(.ref (xZ) 0)/\σ 50=(.bool ab0)/\H.obj fG=some [(.int .i64 eU),(.int .i64 fF),(.str eP),(.ak (fq.map aH) .unk),(.ak (fB.map aS) .unk)]/\H.obj xZ=some [(.str Bw),(.int .i64 Bz),(.int .i64 BA),(.int .i64 BD),(.bool BF),(.int .i64 zk),(.int .i64 zl)]) (iw:fG<H.next) (C9:xZ<H.next) (oJ:fG≠xZ) (o:Bool) (h:zi eU fF eP fq fB Bw Bz BA BD BF zk zl ab0=some o) (Q:Post) (q0: ∀(p:Bool) (σ':Nat->PV),o=p->Fr Ko aB σ'->(σ' 60=(.bool p))->Q .normal σ' H),dH Tryz.prog R6 (Q .normal) σ H:=by
 intro fG xZ eU fF eP fq fB Bw Bz BA BD BF zk zl ab0 aB σ H f0 sl iw C9 oJ o h Q q0;obtain⟨s1,s4,s50,Kk,apT⟩:=sl;have Kl:=ne_next iw;have Km:=aZ iw;have apU:=ne_next C9;have apV:=aZ C9;have Zv:=eq_false oJ;have Zw:=eq_false (Ne.symm oJ);unfold zi at h;refine fu ?_;unfold R6;obtain⟨e36,h⟩|⟨e36,h⟩:=aA h
 ·obtain⟨p38,e37,h⟩:=aj h;refine ah ?_;refine av (gU e37) ?_;cases h;refine ah ?_;exact q0 _ _ rfl aI au
 ·cases h;refine ah ?_;exact q0 _ _ rfl aI au
def zm (k:Nat) (eU:Int) (fF:Int) (eP:Str) (fq:List Str) (fB:List Int) (ab1:Bool):Option Bool:=
 cond ab1 (some (true)) ((uD k eP).bind fun p51=>some ((!p51)))
def Kq:List Nat:=[65,66,67,68,69]
theorem UH (k:Nat): ∀(fG:Nat) (eU:Int) (fF:Int) (eP:Str) (fq:List Str) (fB:List Int) (ab1:Bool) (aB σ:Nat->PV) (H:AH) (f0:Fr Kq aB σ) (sl:σ 1=(.ref (fG) 0)/\σ 64=(.bool ab1)/\H.obj fG=some [(.int .i64 eU),(.int .i64 fF),(.str eP),(.ak (fq.map aH) .unk),(.ak (fB.map aS) .unk)]) (iw:fG<H.next) (o:Bool) (h:zm k eU fF eP fq fB ab1=some o) (Q:Post) (q0: ∀(p:Bool) (σ':Nat->PV),o=p->Fr Kq aB σ'->(σ' 69=(.bool p))->Q .normal σ' H),dH Tryz.prog R7 (Q .normal) σ H:=by
 intro fG eU fF eP fq fB ab1 aB σ H f0 sl iw o h Q q0;obtain⟨s1,s64,Kk⟩:=sl;have Kl:=ne_next iw;have Km:=aZ iw;unfold zm at h;refine fu ?_;unfold R7;obtain⟨e49,h⟩|⟨e49,h⟩:=aA h
 ·cases h;refine ah ?_;exact q0 _ _ rfl aI au
 ·obtain⟨p51,e50,h⟩:=aj h;refine ah ?_;refine av (Bl e50) ?_;cases h;refine ah ?_;exact q0 _ _ rfl aI au
def zn (k:Nat) (eU:Int) (fF:Int) (eP:Str) (fq:List Str) (fB:List Int) (BG:Bool) (Bw:Str) (Bz:Int) (BA:Int) (BD:Int) (BF:Bool) (zk:Int) (zl:Int) (iV:Bool):Option ((Bool×Bool)):=
 cond (eU==2) (Option.bind (zf k eU fF eP fq fB BG) (fun iQ=>some ((iQ,false)))) (cond (eU==3) (Option.bind (zh k eU fF eP fq fB iV BG) (fun p28=>Option.bind (zi eU fF eP fq fB Bw Bz BA BD BF zk zl iV) (fun p41=>some ((p28,p41))))) (cond (eU==18) (Option.bind (zm k eU fF eP fq fB BG) (fun p54=>some ((p54,false)))) (some ((BG,false)))))
def Kr:List Nat:=[3,6]++List.range' 19 51
theorem UJ (k:Nat): ∀(fG:Nat) (xZ:Nat) (eU:Int) (fF:Int) (eP:Str) (fq:List Str) (fB:List Int) (BG:Bool) (Bw:Str) (Bz:Int) (BA:Int) (BD:Int) (BF:Bool) (zk:Int) (zl:Int) (iV:Bool) (aB σ:Nat->PV) (H:AH) (f0:Fr Kr aB σ) (sl:σ 1=(.ref (fG) 0)/\σ 3=(.bool BG)/\σ 4=(.ref (xZ) 0)/\σ 5=(.bool iV)/\σ 6=(.bool false)/\H.obj fG=some [(.int .i64 eU),(.int .i64 fF),(.str eP),(.ak (fq.map aH) .unk),(.ak (fB.map aS) .unk)]/\H.obj xZ=some [(.str Bw),(.int .i64 Bz),(.int .i64 BA),(.int .i64 BD),(.bool BF),(.int .i64 zk),(.int .i64 zl)]) (iw:fG<H.next) (C9:xZ<H.next) (oJ:fG≠xZ) (o:(Bool×Bool)) (h:zn k eU fF eP fq fB BG Bw Bz BA BD BF zk zl iV=some o) (Q:Post) (q0: ∀(p:Bool×Bool) (σ':Nat->PV),o=p->Fr Kr aB σ'->(σ' 3=(.bool p.1)/\σ' 6=(.bool p.2))->Q .normal σ' H),W Tryz.prog R8 Q σ H:=by
 intro fG xZ eU fF eP fq fB BG Bw Bz BA BD BF zk zl iV aB σ H f0 sl iw C9 oJ o h Q q0;obtain⟨s1,s3,s4,s5,s6,Kk,apT⟩:=sl;have Kl:=ne_next iw;have Km:=aZ iw;have apU:=ne_next C9;have apV:=aZ C9;have Zv:=eq_false oJ;have Zw:=eq_false (Ne.symm oJ);unfold zn at h;refine aC ?_;unfold R8;obtain⟨e5,h⟩|⟨e5,h⟩:=aA h
 ·refine ah ?_;obtain⟨o12,Uk,h⟩:=aj h;refine UE k (fG) eU fF eP fq fB BG _ _ _ (Fr.refl _ _) au bP _ Uk _ ?_
  ·rintro iQ σ' eo sI iX;rw [eo]at h;have oW:σ' 1=(.ref (fG) 0):=(sI 1 (by decide)).trans au;have s20:σ' 6=(.bool false):=(sI 6 (by decide)).trans au;cases h;refine ah ?_;exact q0 _ _ rfl (by repeat (first|exact f0|refine Fr.upd (by decide) ?_|refine Fr.via sI (by decide) ?_)) au
 ·obtain⟨e21,h⟩|⟨e21,h⟩:=aA h
  ·refine ah ?_;obtain⟨o26,h27,h⟩:=aj h;refine UF k (fG) eU fF eP fq fB iV BG _ _ _ (Fr.refl _ _) au bP _ h27 _ ?_
   ·rintro p28 σ' eo SL s32;rw [eo]at h;have s33:σ' 1=(.ref (fG) 0):=(SL 1 (by decide)).trans au;have s34:σ' 4=(.ref (xZ) 0):=(SL 4 (by decide)).trans au;have s35:σ' 5=(.bool iV):=(SL 5 (by decide)).trans au;refine ah ?_;obtain⟨o39,h40,h⟩:=aj h;refine UG (fG) (xZ) eU fF eP fq fB Bw Bz BA BD BF zk zl iV _ _ _ (Fr.refl _ _) au bP bP bP _ h40 _ ?_
    ·rintro p41 σ' eo Ep s45;rw [eo]at h;have s46:σ' 1=(.ref (fG) 0):=(Ep 1 (by decide)).trans au;have s47:σ' 3=(.bool p28):=(Ep 3 (by decide)).trans au;cases h;refine ah ?_;exact q0 _ _ rfl (by repeat (first|exact f0|refine Fr.upd (by decide) ?_|refine Fr.via SL (by decide) ?_|refine Fr.via Ep (by decide) ?_)) au
  ·obtain⟨e48,h⟩|⟨e48,h⟩:=aA h
   ·refine ah ?_;obtain⟨o52,h53,h⟩:=aj h;refine UH k (fG) eU fF eP fq fB BG _ _ _ (Fr.refl _ _) au bP _ h53 _ ?_
    ·rintro p54 σ' eo agK s58;rw [eo]at h;have s59:σ' 1=(.ref (fG) 0):=(agK 1 (by decide)).trans au;have s60:σ' 6=(.bool false):=(agK 6 (by decide)).trans au;cases h;refine ah ?_;exact q0 _ _ rfl (by repeat (first|exact f0|refine Fr.upd (by decide) ?_|refine Fr.via agK (by decide) ?_)) au
   ·cases h;refine ah ?_;exact q0 _ _ rfl aI au
def iZ:Nat->Int->Int->Str->(List Str)->(List Int)->Bool->(List Str)->Int->Int->Option Bool
 |0,_,_,_,_,_,_,_,_,_=>none
 |k+1,eU,fF,eP,fq,fB,Da,Jt,Ju,rR=>
  cond (decide (rR<Ju)) (if 0<=rR then (Jt[rR.toNat]?).bind fun x72=>cond Da (iZ k eU fF eP fq fB true Jt Ju (IntKind.wrap .i64 (rR+1))) (if 0<=rR/\rR.toNat<=fq.length then (bV k (fq.take rR.toNat) x72).bind fun p77=>iZ k eU fF eP fq fB p77 Jt Ju (IntKind.wrap .i64 (rR+1))else none)else none) (some (Da))
def Kt:List Nat:=[7,8,9]++List.range' 73 15
theorem UK: ∀(k:Nat) (fG:Nat) (eU:Int) (fF:Int) (eP:Str) (fq:List Str) (fB:List Int) (Da:Bool) (Jt:List Str) (Ju:Int) (rR:Int) (aB σ:Nat->PV) (H:AH) (f0:Fr Kt aB σ) (sl:σ 1=(.ref (fG) 0)/\σ 7=(.bool Da)/\σ 71=(.ak (Jt.map aH) .unk)/\σ 72=(.int .i64 Ju)/\σ 73=(.int .i64 rR)/\H.obj fG=some [(.int .i64 eU),(.int .i64 fF),(.str eP),(.ak (fq.map aH) .unk),(.ak (fB.map aS) .unk)]) (iw:fG<H.next) (o:Bool) (h:iZ k eU fF eP fq fB Da Jt Ju rR=some o) (Q:Post) (q0: ∀(p:Bool) (σ':Nat->PV),o=p->Fr Kt aB σ'->(σ' 7=(.bool p))->Q (.exit 1) σ' H),W Tryz.prog (.loop R9) Q σ H:=by
 intro k
 induction k with
 |zero=>intro fG eU fF eP fq fB Da Jt Ju rR aB σ H f0 sl iw o h Q q0;simp only [iZ,reduceCtorEq]at h
 |succ k ih=>
  intro fG eU fF eP fq fB Da Jt Ju rR aB σ H f0 sl iw o h Q q0;obtain⟨s1,s7,s71,s72,s73,Kk⟩:=sl;have Kl:=ne_next iw;have Km:=aZ iw;unfold iZ at h;refine aW (fun K hK=>aC ?_);unfold R9;obtain⟨e70,h⟩|⟨e70,h⟩:=aA h
  ·obtain⟨e71,h⟩:=aU h;obtain⟨x72,Ul,h⟩:=aj h;obtain⟨e74,h⟩|⟨e74,h⟩:=aA h
   ·refine ah ?_;refine hK _ _ ?_;exact ih fG eU fF eP fq fB true Jt Ju (IntKind.wrap .i64 (rR+1)) _ _ _ aI au bP _ h _ q0
   ·obtain⟨Uf,h⟩:=aU h;obtain⟨p77,e76,h⟩:=aj h;refine ah ?_;refine av (gT e76) ?_;refine ah ?_;refine hK _ _ ?_;exact ih fG eU fF eP fq fB p77 Jt Ju (IntKind.wrap .i64 (rR+1)) _ _ _ aI au bP _ h _ q0
  ·cases h;refine ah ?_;exact q0 _ _ rfl aI au
def pQ (k:Nat) (bg:Nd):Option Int:=
 (fO k bg.names).bind fun p2=>(nP k bg.text).bind fun p4=>Option.bind (zn k bg.kind bg.n bg.text bg.names bg.args p2 p4.1.text p4.1.fix p4.1.low p4.1.high p4.1.left p4.1.least p4.1.most p4.2) (fun p63=>Option.bind (iZ k bg.kind bg.n bg.text bg.names bg.args false bg.names (bg.names.length:Int) 0) (fun AX=>(og p63.1 7).bind fun p88=>(og p63.2 17).bind fun p90=>(og AX 12).bind fun p92=>(gQ k [p88,p90,p92]).bind fun Yd=>some Yd))
theorem BH {k:Nat} {bg:Nd} {r:Int} (h:pQ k bg=some r):aD Tryz.prog 229 [(.agg (Nd.cells bg))] (.int .i64 r):=by
 refine aD.aO (aX.mem (.cons (.agg _ (Nd.pu _)) .nil)) (aF awi (by simp) (aC ?_)) (.int _ _);unfold pQ at h;unfold am8;obtain⟨p2,e1,h⟩:=aj h;refine ah ?_;refine av (xk e1) ?_;obtain⟨p4,e3,h⟩:=aj h;refine ah ?_;refine av (xY e3) ?_;refine ah ?_;obtain⟨o61,h62,h⟩:=aj h;refine UJ k (AH.empty.next) (AH.empty.next+1) bg.kind bg.n bg.text bg.names bg.args p2 p4.1.text p4.1.fix p4.1.low p4.1.high p4.1.left p4.1.least p4.1.most p4.2 _ _ _ (Fr.refl _ _) au bP bP bP _ h62 _ ?_
 ·rintro p63 σ' eo Jo ⟨s67,s68⟩;rw [eo]at h;have s69:σ' 1=(.ref (AH.empty.next) 0):=(Jo 1 (by decide)).trans au;refine ah ?_;obtain⟨o78,h79,h⟩:=aj h;refine UK k (AH.empty.next) bg.kind bg.n bg.text bg.names bg.args false bg.names (bg.names.length:Int) 0 _ _ _ (Fr.refl _ _) au bP _ h79 _ ?_
  ·rintro AX σ' eo Li s84;rw [eo]at h;have s85:σ' 3=(.bool p63.1):=(Li 3 (by decide)).trans au;have s86:σ' 6=(.bool p63.2):=(Li 6 (by decide)).trans au;obtain⟨p88,e87,h⟩:=aj h;refine ah ?_;refine av (nN e87) ?_;obtain⟨p90,Ui,h⟩:=aj h;refine ah ?_;refine av (nN Ui) ?_;obtain⟨p92,e91,h⟩:=aj h;refine ah ?_;refine av (nN e91) ?_;obtain⟨Yd,e93,h⟩:=aj h;refine ah ?_;refine av (kQ e93) ?_;cases h;refine ah ?_;exact(.pure _ (.int _ _))
def BI (om:Int) (jX:Int) (nH:Str) (rZ:List Str) (mQ:List Int) (EU:Int) (EW:Int) (Du:Int) (Dv:Int) (EX:Bool) (BJ:Bool) (ab2:Bool):Option Bool:=
 cond ab2 (some (true)) ((gP (mQ.length:Int) Du Dv).bind fun wE=>some ((!wE)))
def Mh:List Nat:=List.range' 37 12
theorem Xo: ∀(jO:Nat) (BK:Nat) (om:Int) (jX:Int) (nH:Str) (rZ:List Str) (mQ:List Int) (EU:Int) (EW:Int) (Du:Int) (Dv:Int) (EX:Bool) (BJ:Bool) (ab2:Bool) (aB σ:Nat->PV) (H:AH) (f0:Fr Mh aB σ) (sl:σ 7=(.ref (jO) 0)/\σ 8=(.ref (BK) 0)/\σ 36=(.bool ab2)/\H.obj jO=some [(.int .i64 om),(.int .i64 jX),(.str nH),(.ak (rZ.map aH) .unk),(.ak (mQ.map aS) .unk)]/\H.obj BK=some [(.int .i64 EU),(.int .i64 EW),(.int .i64 Du),(.int .i64 Dv),(.bool EX),(.bool BJ)]) (sU:jO<H.next) (Db:BK<H.next) (oK:jO≠BK) (o:Bool) (h:BI om jX nH rZ mQ EU EW Du Dv EX BJ ab2=some o) (Q:Post) (q0: ∀(p:Bool) (σ':Nat->PV),o=p->Fr Mh aB σ'->(σ' 48=(.bool p))->Q .normal σ' H),dH Tryz.prog Rh (Q .normal) σ H:=by
 intro jO BK om jX nH rZ mQ EU EW Du Dv EX BJ ab2 aB σ H f0 sl sU Db oK o h Q q0;obtain⟨s7,s8,s36,ae9,apW⟩:=sl;have afa:=ne_next sU;have afb:=aZ sU;have apX:=ne_next Db;have apY:=aZ Db;have Zx:=eq_false oK;have Zy:=eq_false (Ne.symm oK);unfold BI at h;refine fu ?_;unfold Rh;obtain⟨e11,h⟩|⟨e11,h⟩:=aA h
 ·cases h;refine ah ?_;exact q0 _ _ rfl aI au
 ·obtain⟨wE,e12,h⟩:=aj h;refine ah ?_;refine av (gU e12) ?_;cases h;refine ah ?_;exact q0 _ _ rfl aI au
def nS:Nat->(List Int)->Int->Bool->(List Int)->Option ((Int×Bool)⊕(Int×Bool))
 |0,iE,jv,fA,oO=>some (.inr ((jv,fA)))
 |m+1,iE,jv,fA,oO=>
  (oO[m]?).bind fun x27=>cond (x27 !=jv) (some (.inl (jv,false))) (cond (decide (jv<0)) (some (.inl (jv,false))) (if 0<=jv then (iE[jv.toNat]?).bind fun x31=>nS m iE (IntKind.wrap .i64 (x31 -1)) fA oO else none))
theorem Xp: ∀(m:Nat) (gy:Nat) (gG:Nat) (bD:Nat) (rT:Nat) (iE:List Int) (jv:Int) (fA:Bool) (oO:List Int) (aB σ:Nat->PV) (H0 H:AH) (f0:Fr [] aB σ) (hf0:HF [gG,bD] H0 H) (sl:σ 5=(.ref (gy) 0)/\σ 9=(.ref (gG) 0)/\σ 10=(.ref (bD) 0)/\σ 53=(.fn (.func 268) [] [(.ref (rT) 0)])/\H.obj gy=some [(.ak (iE.map aS) .unk)]/\H.obj gG=some [(.int .i64 jv)]/\H.obj bD=some [(.bool fA)]/\H.obj rT=some [(.ak (oO.map aS) .unk)]) (kD:gy<H.next) (ql:gG<H.next) (iN:bD<H.next) (yc:rT<H.next) (fC:gy≠gG) (dx:gy≠bD) (jw:gy≠rT) (dU:gG≠bD) (kZ:gG≠rT) (iL:bD≠rT) (o:(Int×Bool)⊕(Int×Bool)) (h:nS m iE jv fA oO=some o) (Q:Post) (q0: ∀(p:Int×Bool) (σ':Nat->PV) (H':AH),o= .inl p->Fr [] aB σ'->HF [gG,bD] H0 H'->(H'.obj gG=some [(.int .i64 p.1)]/\H'.obj bD=some [(.bool p.2)])->Q (.exit 0) σ' H') (q1: ∀(p:Int×Bool) (σ':Nat->PV) (H':AH),o= .inr (p)->Fr [] aB σ'->HF [gG,bD] H0 H'->(H'.obj gG=some [(.int .i64 p.1)]/\H'.obj bD=some [(.bool p.2)])->Q .normal σ' H'),EJ (fun Q' σ' H'=>W Tryz.prog Nf (Ig (fun vZ fQ=>W Tryz.prog Ng Q' vZ fQ)) σ' H') Q σ rT [(.ak (oO.map aS) .unk)] 54 55 ((oO.map aS).map (Dm false)) m H:=by
 intro m
 induction m with
 |zero=>
  intro gy gG bD rT iE jv fA oO aB σ H0 H f0 hf0 sl kD ql iN yc fC dx jw dU kZ iL o h Q q0 q1;obtain⟨s5,s9,s10,s53,NU,Yn,IK,UL⟩:=sl;have NW:=ne_next kD;have NY:=aZ kD;have Yo:=ne_next ql;have Yp:=aZ ql;have IL:=ne_next iN;have IQ:=aZ iN;have agP:=ne_next yc;have agQ:=aZ yc;have BL:=eq_false fC;have BM:=eq_false (Ne.symm fC);have uT:=eq_false dx;have uU:=eq_false (Ne.symm dx);have Ku:=eq_false jw;have Kv:=eq_false (Ne.symm jw);have yE:=eq_false dU;have yF:=eq_false (Ne.symm dU);have NZ:=eq_false kZ;have N7:=eq_false (Ne.symm kZ);have GK:=eq_false iL;have GL:=eq_false (Ne.symm iL);have hle0:=hf0.1;rw [nS]at h;cases h;exact q1 _ _ _ rfl f0 hf0 au
 |succ m ih=>
  intro gy gG bD rT iE jv fA oO aB σ H0 H f0 hf0 sl kD ql iN yc fC dx jw dU kZ iL o h Q q0 q1;obtain⟨s5,s9,s10,s53,NU,Yn,IK,UL⟩:=sl;have NW:=ne_next kD;have NY:=aZ kD;have Yo:=ne_next ql;have Yp:=aZ ql;have IL:=ne_next iN;have IQ:=aZ iN;have agP:=ne_next yc;have agQ:=aZ yc;have BL:=eq_false fC;have BM:=eq_false (Ne.symm fC);have uT:=eq_false dx;have uU:=eq_false (Ne.symm dx);have Ku:=eq_false jw;have Kv:=eq_false (Ne.symm jw);have yE:=eq_false dU;have yF:=eq_false (Ne.symm dU);have NZ:=eq_false kZ;have N7:=eq_false (Ne.symm kZ);have GK:=eq_false iL;have GL:=eq_false (Ne.symm iL);have hle0:=hf0.1;rw [nS]at h;cases erf:oO[m]?
  case none=>rw [Aj erf]at h;cases h
  case some x27=>
   rw [Ak erf]at h;refine⟨UL,Dm false (aS x27),by simp only [List.getElem?_map,erf,Option.map_some],aC ?_⟩;unfold Nf;refine ah ?_;refine aC ?_;unfold Ng;obtain⟨e28,h⟩|⟨e28,h⟩:=aA h
   ·cases h;refine ah ?_;exact q0 _ _ _ rfl aI nZ au
   ·obtain⟨e29,h⟩|⟨e29,h⟩:=aA h
    ·cases h;refine ah ?_;exact q0 _ _ _ rfl aI nZ au
    ·obtain⟨e30,h⟩:=aU h;obtain⟨x31,e32,h⟩:=aj h;refine ah ?_;exact ih gy gG bD rT iE (IntKind.wrap .i64 (x31 -1)) fA oO _ _ _ _ f0 nZ au bP bP bP bP bP bP bP bP bP bP _ h _ q0 q1
def xq (iE:List Int) (om:Int) (jX:Int) (nH:Str) (rZ:List Str) (mQ:List Int) (jv:Int) (fA:Bool):Option ((Int×Bool)):=
 if mQ.length<=1099511627776 then Option.bind (nS mQ.length iE jv fA mQ) (fun o=>Sum.elim (fun p35=>some ((p35.1,p35.2))) (fun p49=>some ((p49.1,p49.2))) o)else none
def Mi:List Nat:=[12]++List.range' 51 17
theorem Xq: ∀(gy:Nat) (jO:Nat) (gG:Nat) (bD:Nat) (iE:List Int) (om:Int) (jX:Int) (nH:Str) (rZ:List Str) (mQ:List Int) (jv:Int) (fA:Bool) (aB σ:Nat->PV) (H0 H:AH) (f0:Fr Mi aB σ) (hf0:HF [gG,bD] H0 H) (sl:σ 5=(.ref (gy) 0)/\σ 7=(.ref (jO) 0)/\σ 9=(.ref (gG) 0)/\σ 10=(.ref (bD) 0)/\H.obj gy=some [(.ak (iE.map aS) .unk)]/\H.obj jO=some [(.int .i64 om),(.int .i64 jX),(.str nH),(.ak (rZ.map aH) .unk),(.ak (mQ.map aS) .unk)]/\H.obj gG=some [(.int .i64 jv)]/\H.obj bD=some [(.bool fA)]) (kD:gy<H.next) (sU:jO<H.next) (ql:gG<H.next) (iN:bD<H.next) (xu:gy≠jO) (fC:gy≠gG) (dx:gy≠bD) (BN:jO≠gG) (sV:jO≠bD) (dU:gG≠bD) (o:(Int×Bool)) (h:xq iE om jX nH rZ mQ jv fA=some o) (Q:Post) (q0: ∀(p:Int×Bool) (σ':Nat->PV) (H':AH),o=p->Fr Mi aB σ'->HF [gG,bD] H0 H'->(H'.obj gG=some [(.int .i64 p.1)]/\H'.obj bD=some [(.bool p.2)])->Q .normal σ' H'),W Tryz.prog Ri Q σ H:=by
 intro gy jO gG bD iE om jX nH rZ mQ jv fA aB σ H0 H f0 hf0 sl kD sU ql iN xu fC dx BN sV dU o h Q q0;obtain⟨s5,s7,s9,s10,NU,ae9,Yn,IK⟩:=sl;have NW:=ne_next kD;have NY:=aZ kD;have afa:=ne_next sU;have afb:=aZ sU;have Yo:=ne_next ql;have Yp:=aZ ql;have IL:=ne_next iN;have IQ:=aZ iN;have ai0:=eq_false xu;have ai1:=eq_false (Ne.symm xu);have BL:=eq_false fC;have BM:=eq_false (Ne.symm fC);have uT:=eq_false dx;have uU:=eq_false (Ne.symm dx);have aon:=eq_false BN;have aoo:=eq_false (Ne.symm BN);have afc:=eq_false sV;have afd:=eq_false (Ne.symm sV);have yE:=eq_false dU;have yF:=eq_false (Ne.symm dU);have hle0:=hf0.1;unfold xq at h;refine aC ?_;unfold Ri;refine ah ?_;refine aF awg (by simp) (aC ?_);unfold am6;obtain⟨e63,h⟩:=aU h;refine ah ?_;obtain⟨o33,h34,h⟩:=aj h;refine al7 (g:=268) (id:=H.next) (sz:=1) (agg:=false) (es:=mQ.map aS) (c:= .unk) au aiX ak7 (by decide) au (by rw [List.length_map];exact e63) (DL (mX.len (f:=aS)) _) ?_;rw [List.length_map];refine Xp _ (gy) (gG) (bD) (H.next) iE jv fA mQ _ _ _ _ (Fr.refl _ _) (HF.refl _ _) au bP bP bP bP bP bP bP bP bP bP _ h34 _ ?_ ?_
 ·rintro p35 σ' H38 eo ak9 S9 ⟨g39,g40⟩;subst eo;rw [bI]at h;have s41:σ' 7=(.ref (jO) 0):=(ak9 7 (by decide)).trans au;have s42:σ' 10=(.ref (bD) 0):=(ak9 10 (by decide)).trans au;have le:=S9.1;try simp only [AH.aK,AH.aL,AH.aM,AH.aN]at le
  have g43:H38.obj (jO)=some [(.int .i64 om),(.int .i64 jX),(.str nH),(.ak (rZ.map aH) .unk),(.ak (mQ.map aS) .unk)]:=(S9.2 _ bP (by first|exact List.not_mem_nil|(simp only [List.mem_cons,List.not_mem_nil,or_false,not_or];omega))).trans au;have n44:=ne_next (show jO<H38.next by first|omega|(simp only [AH.aK,AH.aL,AH.aM,AH.aN];omega));have m45:=aZ (show jO<H38.next by first|omega|(simp only [AH.aK,AH.aL,AH.aM,AH.aN];omega));have n47:=ne_next (show bD<H38.next by first|omega|(simp only [AH.aK,AH.aL,AH.aM,AH.aN];omega));have m48:=aZ (show bD<H38.next by first|omega|(simp only [AH.aK,AH.aL,AH.aM,AH.aN];omega));cases h;refine ah ?_;exact q0 _ _ _ rfl (by repeat (first|exact f0|refine Fr.upd (by decide) ?_|refine Fr.via ak9 (by decide) ?_)) (by repeat (first|exact hf0|refine HF.new ?_|refine HF.qJ ?_|refine HF.used ?_|refine HF.put (by first|(right;omega)|(left;simp only [List.mem_cons,true_or,or_true])) ?_|refine HF.via S9 (by first|exact fun i hi=>absurd hi List.not_mem_nil|(intro i hi;simp only [List.mem_cons,List.not_mem_nil,or_false]at hi⊢;first|exact .inl hi|omega)) ?_)) au
 ·rintro p49 σ' H52 eo Nr Xr ⟨g53,g54⟩;subst eo;rw [bL]at h;have s55:σ' 7=(.ref (jO) 0):=(Nr 7 (by decide)).trans au;have s56:σ' 10=(.ref (bD) 0):=(Nr 10 (by decide)).trans au;have le:=Xr.1;try simp only [AH.aK,AH.aL,AH.aM,AH.aN]at le
  have g57:H52.obj (jO)=some [(.int .i64 om),(.int .i64 jX),(.str nH),(.ak (rZ.map aH) .unk),(.ak (mQ.map aS) .unk)]:=(Xr.2 _ bP (by first|exact List.not_mem_nil|(simp only [List.mem_cons,List.not_mem_nil,or_false,not_or];omega))).trans au;have n58:=ne_next (show jO<H52.next by first|omega|(simp only [AH.aK,AH.aL,AH.aM,AH.aN];omega));have m59:=aZ (show jO<H52.next by first|omega|(simp only [AH.aK,AH.aL,AH.aM,AH.aN];omega));have n61:=ne_next (show bD<H52.next by first|omega|(simp only [AH.aK,AH.aL,AH.aM,AH.aN];omega));have m62:=aZ (show bD<H52.next by first|omega|(simp only [AH.aK,AH.aL,AH.aM,AH.aN];omega));cases h;refine ah ?_;exact q0 _ _ _ rfl (by repeat (first|exact f0|refine Fr.upd (by decide) ?_|refine Fr.via Nr (by decide) ?_)) (by repeat (first|exact hf0|refine HF.new ?_|refine HF.qJ ?_|refine HF.used ?_|refine HF.put (by first|(right;omega)|(left;simp only [List.mem_cons,true_or,or_true])) ?_|refine HF.via Xr (by first|exact fun i hi=>absurd hi List.not_mem_nil|(intro i hi;simp only [List.mem_cons,List.not_mem_nil,or_false]at hi⊢;first|exact .inl hi|omega)) ?_)) au
def BO (om:Int) (jX:Int) (nH:Str) (rZ:List Str) (mQ:List Int) (EU:Int) (EW:Int) (Du:Int) (Dv:Int) (EX:Bool) (BJ:Bool) (uV:Bool) (rR:Bool):Option Bool:=
 cond rR (cond BJ (cond (om !=1) (cond uV ((gP jX 0 1).bind fun Uo=>some (Uo)) (some (true))) ((wQ nH).bind fun mR=>cond mR (cond uV ((gP jX 0 1).bind fun Uq=>some (Uq)) (some (true))) (some (false)))) (cond (jX==0) (cond (om !=1) (cond uV ((gP jX 0 1).bind fun abj=>some (abj)) (some (true))) ((wQ nH).bind fun atu=>cond atu (cond uV ((gP jX 0 1).bind fun ab3=>some (ab3)) (some (true))) (some (false)))) (some (false)))) (cond (nH==[]) (cond BJ (cond (om !=1) (cond uV ((gP jX 0 1).bind fun atv=>some (atv)) (some (true))) ((wQ nH).bind fun abl=>cond abl (cond uV ((gP jX 0 1).bind fun abm=>some (abm)) (some (true))) (some (false)))) (cond (jX==0) (cond (om !=1) (cond uV ((gP jX 0 1).bind fun atw=>some (atw)) (some (true))) ((wQ nH).bind fun atx=>cond atx (cond uV ((gP jX 0 1).bind fun aty=>some (aty)) (some (true))) (some (false)))) (some (false)))) (some (false)))
def Mj:List Nat:=List.range' 74 32
theorem Xt: ∀(jO:Nat) (BK:Nat) (om:Int) (jX:Int) (nH:Str) (rZ:List Str) (mQ:List Int) (EU:Int) (EW:Int) (Du:Int) (Dv:Int) (EX:Bool) (BJ:Bool) (uV:Bool) (rR:Bool) (aB σ:Nat->PV) (H:AH) (f0:Fr Mj aB σ) (sl:σ 7=(.ref (jO) 0)/\σ 8=(.ref (BK) 0)/\σ 13=(.bool uV)/\σ 73=(.bool rR)/\H.obj jO=some [(.int .i64 om),(.int .i64 jX),(.str nH),(.ak (rZ.map aH) .unk),(.ak (mQ.map aS) .unk)]/\H.obj BK=some [(.int .i64 EU),(.int .i64 EW),(.int .i64 Du),(.int .i64 Dv),(.bool EX),(.bool BJ)]) (sU:jO<H.next) (Db:BK<H.next) (oK:jO≠BK) (o:Bool) (h:BO om jX nH rZ mQ EU EW Du Dv EX BJ uV rR=some o) (Q:Post) (q0: ∀(p:Bool) (σ':Nat->PV),o=p->Fr Mj aB σ'->(σ' 105=(.bool p))->Q .normal σ' H),dH Tryz.prog Rj (Q .normal) σ H:=by
 intro jO BK om jX nH rZ mQ EU EW Du Dv EX BJ uV rR aB σ H f0 sl sU Db oK o h Q q0;obtain⟨s7,s8,s13,s73,ae9,apW⟩:=sl;have afa:=ne_next sU;have afb:=aZ sU;have apX:=ne_next Db;have apY:=aZ Db;have Zx:=eq_false oK;have Zy:=eq_false (Ne.symm oK);unfold BO at h;refine fu ?_;unfold Rj;obtain⟨e84,h⟩|⟨e84,h⟩:=aA h
 ·obtain⟨e85,h⟩|⟨e85,h⟩:=aA h
  ·obtain⟨Ug,h⟩|⟨Ug,h⟩:=aA h
   ·obtain⟨e87,h⟩|⟨e87,h⟩:=aA h
    ·obtain⟨Uo,Uh,h⟩:=aj h;refine ah ?_;refine av (gU Uh) ?_;cases h;refine ah ?_;exact q0 _ _ rfl aI au
    ·cases h;refine ah ?_;exact q0 _ _ rfl aI au
   ·obtain⟨mR,e90,h⟩:=aj h;refine ah ?_;refine av (ET e90) ?_;obtain⟨e92,h⟩|⟨e92,h⟩:=aA h
    ·obtain⟨e93,h⟩|⟨e93,h⟩:=aA h
     ·obtain⟨Uq,e94,h⟩:=aj h;refine ah ?_;refine av (gU e94) ?_;cases h;refine ah ?_;exact q0 _ _ rfl aI au
     ·cases h;refine ah ?_;exact q0 _ _ rfl aI au
    ·cases h;refine ah ?_;exact q0 _ _ rfl aI au
  ·obtain⟨e96,h⟩|⟨e96,h⟩:=aA h
   ·obtain⟨e97,h⟩|⟨e97,h⟩:=aA h
    ·obtain⟨e98,h⟩|⟨e98,h⟩:=aA h
     ·obtain⟨abj,e99,h⟩:=aj h;refine ah ?_;refine av (gU e99) ?_;cases h;refine ah ?_;exact q0 _ _ rfl aI au
     ·cases h;refine ah ?_;exact q0 _ _ rfl aI au
    ·obtain⟨atu,abo,h⟩:=aj h;refine ah ?_;refine av (ET abo) ?_;obtain⟨Lc,h⟩|⟨Lc,h⟩:=aA h
     ·obtain⟨agJ,h⟩|⟨agJ,h⟩:=aA h
      ·obtain⟨ab3,Np,h⟩:=aj h;refine ah ?_;refine av (gU Np) ?_;cases h;refine ah ?_;exact q0 _ _ rfl aI au
      ·cases h;refine ah ?_;exact q0 _ _ rfl aI au
     ·cases h;refine ah ?_;exact q0 _ _ rfl aI au
   ·cases h;refine ah ?_;exact q0 _ _ rfl aI au
 ·obtain⟨NP,h⟩|⟨NP,h⟩:=aA h
  ·obtain⟨e108,h⟩|⟨e108,h⟩:=aA h
   ·obtain⟨e109,h⟩|⟨e109,h⟩:=aA h
    ·obtain⟨abq,h⟩|⟨abq,h⟩:=aA h
     ·obtain⟨atv,akP,h⟩:=aj h;refine ah ?_;refine av (gU akP) ?_;cases h;refine ah ?_;exact q0 _ _ rfl aI au
     ·cases h;refine ah ?_;exact q0 _ _ rfl aI au
    ·obtain⟨abl,akQ,h⟩:=aj h;refine ah ?_;refine av (ET akQ) ?_;obtain⟨e115,h⟩|⟨e115,h⟩:=aA h
     ·obtain⟨e116,h⟩|⟨e116,h⟩:=aA h
      ·obtain⟨abm,e117,h⟩:=aj h;refine ah ?_;refine av (gU e117) ?_;cases h;refine ah ?_;exact q0 _ _ rfl aI au
      ·cases h;refine ah ?_;exact q0 _ _ rfl aI au
     ·cases h;refine ah ?_;exact q0 _ _ rfl aI au
   ·obtain⟨e119,h⟩|⟨e119,h⟩:=aA h
    ·obtain⟨e120,h⟩|⟨e120,h⟩:=aA h
     ·obtain⟨aAh,h⟩|⟨aAh,h⟩:=aA h
      ·obtain⟨atw,akR,h⟩:=aj h;refine ah ?_;refine av (gU akR) ?_;cases h;refine ah ?_;exact q0 _ _ rfl aI au
      ·cases h;refine ah ?_;exact q0 _ _ rfl aI au
     ·obtain⟨atx,aAi,h⟩:=aj h;refine ah ?_;refine av (ET aAi) ?_;obtain⟨e126,h⟩|⟨e126,h⟩:=aA h
      ·obtain⟨e127,h⟩|⟨e127,h⟩:=aA h
       ·obtain⟨aty,e128,h⟩:=aj h;refine ah ?_;refine av (gU e128) ?_;cases h;refine ah ?_;exact q0 _ _ rfl aI au
       ·cases h;refine ah ?_;exact q0 _ _ rfl aI au
      ·cases h;refine ah ?_;exact q0 _ _ rfl aI au
    ·cases h;refine ah ?_;exact q0 _ _ rfl aI au
  ·cases h;refine ah ?_;exact q0 _ _ rfl aI au
def DZ (k:Nat) (aG:List Nd) (dP:Int) (rQ:List Int):Option Int:=
 if 0<=dP then (aG[dP.toNat]?).bind fun x2=>(gP x2.kind 0 28).bind fun p5=>cond p5 ((zU k x2).bind fun p8=>(gP (x2.names.length:Int) p8.names.1 p8.names.2).bind fun iM=>Option.bind (BI x2.kind x2.n x2.text x2.names x2.args p8.names.1 p8.names.2 p8.operands.1 p8.operands.2 p8.text p8.number (!iM)) (fun p16=>cond p16 (some 6) (Option.bind (xq rQ x2.kind x2.n x2.text x2.names x2.args (IntKind.wrap .i64 (dP -1)) true) (fun p66=>Option.bind (BO x2.kind x2.n x2.text x2.names x2.args p8.names.1 p8.names.2 p8.operands.1 p8.operands.2 p8.text p8.number (x2.kind==23) p8.text) (fun atz=>cond p66.2 ((og (!atz) 5).bind fun ala=>cond (x2.kind==23) ((og false 3).bind fun atA=>(pQ k x2).bind fun atB=>(gQ k [ala,atA,atB]).bind fun atC=>some atC) ((gP x2.n 0 10000).bind fun atD=>(og (!atD) 3).bind fun abr=>(pQ k x2).bind fun atE=>(gQ k [ala,abr,atE]).bind fun atF=>some atF)) ((og true 5).bind fun alb=>cond (x2.kind==23) ((og false 3).bind fun atG=>(pQ k x2).bind fun atH=>(gQ k [alb,atG,atH]).bind fun atI=>some atI) ((gP x2.n 0 10000).bind fun abt=>(og (!abt) 3).bind fun atJ=>(pQ k x2).bind fun agq=>(gQ k [alb,atJ,agq]).bind fun atK=>some atK))))))) (some 4)else none
theorem ad6 {k:Nat} {aG:List Nd} {dP:Int} {rQ:List Int} {c0 c2:Ck} {r:Int} (h:DZ k aG dP rQ=some r):aD Tryz.prog 177 [(.ak (aG.map Nd.cells) c0),(.int .i64 dP),(.ak (rQ.map aS) c2)] (.int .i64 r):=by
 refine aD.lw (.ak (.same (.ak .nil))) (aD.aO (aX.mem (.cons (aT Nd.pu _) (.cons (.int _ _) (.cons (aT dF _) .nil)))) (aF avR (by simp) (aC ?_)) (.int _ _));unfold DZ at h;unfold amJ;obtain⟨e1,h⟩:=aU h;obtain⟨x2,e3,h⟩:=aj h;obtain⟨p5,e4,h⟩:=aj h;refine ah ?_;refine av (gU e4) ?_;obtain⟨e6,h⟩|⟨e6,h⟩:=aA h
 ·obtain⟨p8,e7,h⟩:=aj h;refine ah ?_;refine av (ad5 e7) ?_;obtain⟨iM,e9,h⟩:=aj h;refine ah ?_;refine av (gU e9) ?_;refine ah ?_;obtain⟨o14,h15,h⟩:=aj h;refine Xo (AH.empty.next+1) (AH.empty.next+2) x2.kind x2.n x2.text x2.names x2.args p8.names.1 p8.names.2 p8.operands.1 p8.operands.2 p8.text p8.number (!iM) _ _ _ (Fr.refl _ _) au bP bP bP _ h15 _ ?_
  ·rintro p16 σ' eo WA s20;rw [eo]at h;have s21:σ' 1=(.int .i64 dP):=(WA 1 (by decide)).trans au;have s22:σ' 5=(.ref (AH.empty.next) 0):=(WA 5 (by decide)).trans au;have s23:σ' 7=(.ref (AH.empty.next+1) 0):=(WA 7 (by decide)).trans au;have s24:σ' 8=(.ref (AH.empty.next+2) 0):=(WA 8 (by decide)).trans au;obtain⟨e25,h⟩|⟨e25,h⟩:=aA h
   ·cases h;refine ah ?_;exact(.pure _ (.int _ _))
   ·refine ah ?_;obtain⟨o64,h65,h⟩:=aj h;refine Xq (AH.empty.next) (AH.empty.next+1) (AH.empty.next+3) (AH.empty.next+4) rQ x2.kind x2.n x2.text x2.names x2.args (IntKind.wrap .i64 (dP -1)) true _ _ _ _ (Fr.refl _ _) (HF.refl _ _) au bP bP bP bP bP bP bP bP bP bP _ h65 _ ?_
    ·rintro p66 σ' Yq eo NT alc ⟨g70,g71⟩;rw [eo]at h;have s72:σ' 7=(.ref (AH.empty.next+1) 0):=(NT 7 (by decide)).trans au;have s73:σ' 8=(.ref (AH.empty.next+2) 0):=(NT 8 (by decide)).trans au;have s74:σ' 10=(.ref (AH.empty.next+4) 0):=(NT 10 (by decide)).trans au;have le:=alc.1;try simp only [AH.aK,AH.aL,AH.aM,AH.aN]at le
     have g75:Yq.obj (AH.empty.next+1)=some [(.int .i64 x2.kind),(.int .i64 x2.n),(.str x2.text),(.ak (x2.names.map aH) .unk),(.ak (x2.args.map aS) .unk)]:=(alc.2 _ bP (by first|exact List.not_mem_nil|(simp only [List.mem_cons,List.not_mem_nil,or_false,not_or];omega))).trans au;have n76:=ne_next (show AH.empty.next+1<Yq.next by first|omega|(simp only [AH.aK,AH.aL,AH.aM,AH.aN];omega));have m77:=aZ (show AH.empty.next+1<Yq.next by first|omega|(simp only [AH.aK,AH.aL,AH.aM,AH.aN];omega));have g78:Yq.obj (AH.empty.next+2)=some [(.int .i64 p8.names.1),(.int .i64 p8.names.2),(.int .i64 p8.operands.1),(.int .i64 p8.operands.2),(.bool p8.text),(.bool p8.number)]:=(alc.2 _ bP (by first|exact List.not_mem_nil|(simp only [List.mem_cons,List.not_mem_nil,or_false,not_or];omega))).trans au;have n79:=ne_next (show AH.empty.next+2<Yq.next by first|omega|(simp only [AH.aK,AH.aL,AH.aM,AH.aN];omega));have m80:=aZ (show AH.empty.next+2<Yq.next by first|omega|(simp only [AH.aK,AH.aL,AH.aM,AH.aN];omega));have n82:=ne_next (show AH.empty.next+4<Yq.next by first|omega|(simp only [AH.aK,AH.aL,AH.aM,AH.aN];omega));have m83:=aZ (show AH.empty.next+4<Yq.next by first|omega|(simp only [AH.aK,AH.aL,AH.aM,AH.aN];omega));refine ah ?_;obtain⟨aFN,aAj,h⟩:=aj h;refine Xt (AH.empty.next+1) (AH.empty.next+2) x2.kind x2.n x2.text x2.names x2.args p8.names.1 p8.names.2 p8.operands.1 p8.operands.2 p8.text p8.number (x2.kind==23) p8.text _ _ _ (Fr.refl _ _) au bP bP bP _ aAj _ ?_
     ·rintro atz σ' eo agR aFO;rw [eo]at h;have aFP:σ' 7=(.ref (AH.empty.next+1) 0):=(agR 7 (by decide)).trans au;have aFQ:σ' 10=(.ref (AH.empty.next+4) 0):=(agR 10 (by decide)).trans au;have aFR:σ' 13=(.bool (x2.kind==23)):=(agR 13 (by decide)).trans au;refine ah ?_;refine iJ ?_;obtain⟨akS,h⟩|⟨akS,h⟩:=aA h
      ·obtain⟨ala,aAk,h⟩:=aj h;refine ah ?_;refine PC.mk (nN aAk) ?_;obtain⟨e143,h⟩|⟨e143,h⟩:=aA h
       ·obtain⟨atA,aAl,h⟩:=aj h;refine ah ?_;refine PC.mk (nN aAl) ?_;obtain⟨atB,aAm,h⟩:=aj h;refine ah ?_;refine av (BH aAm) ?_;obtain⟨atC,aAn,h⟩:=aj h;refine ah ?_;refine av (kQ aAn) ?_;cases h;refine ah ?_;exact(.pure _ (.int _ _))
       ·obtain⟨atD,akU,h⟩:=aj h;refine ah ?_;refine PC.mk (gU akU) ?_;obtain⟨abr,e152,h⟩:=aj h;refine ah ?_;refine PC.mk (nN e152) ?_;obtain⟨atE,e154,h⟩:=aj h;refine ah ?_;refine av (BH e154) ?_;obtain⟨atF,aAo,h⟩:=aj h;refine ah ?_;refine av (kQ aAo) ?_;cases h;refine ah ?_;exact(.pure _ (.int _ _))
      ·obtain⟨alb,aAp,h⟩:=aj h;refine ah ?_;refine PC.mk (nN aAp) ?_;obtain⟨aAq,h⟩|⟨aAq,h⟩:=aA h
       ·obtain⟨atG,aAr,h⟩:=aj h;refine ah ?_;refine PC.mk (nN aAr) ?_;obtain⟨atH,akT,h⟩:=aj h;refine ah ?_;refine av (BH akT) ?_;obtain⟨atI,e165,h⟩:=aj h;refine ah ?_;refine av (kQ e165) ?_;cases h;refine ah ?_;exact(.pure _ (.int _ _))
       ·obtain⟨abt,e167,h⟩:=aj h;refine ah ?_;refine PC.mk (gU e167) ?_;obtain⟨atJ,e169,h⟩:=aj h;refine ah ?_;refine PC.mk (nN e169) ?_;obtain⟨agq,aAs,h⟩:=aj h;refine ah ?_;refine av (BH aAs) ?_;obtain⟨atK,aAt,h⟩:=aj h;refine ah ?_;refine av (kQ aAt) ?_;cases h;refine ah ?_;exact(.pure _ (.int _ _))
 ·cases h;refine ah ?_;exact(.pure _ (.int _ _))
def jP:Nat->(List Nd)->(List Int)->Int->Int->Option (List Int⊕(Int×Int))
 |0,_,_,_,_=>none
 |k+1,aG,mZ,jS,eY=>
  cond (decide (eY<jS)) ((DZ k aG eY mZ).bind fun iM=>cond (iM !=0) (some (.inr ((eY,iM)))) (if(mZ.length+1)*8<=1099511627776 then (O1 aG eY (mZ++[0])).bind fun qB=>if 0<=eY then ((mZ++[0])[eY.toNat]?).bind fun x23=>jP k aG ((mZ++[0]).set eY.toNat qB) jS (IntKind.wrap .i64 (eY+1))else none else none)) (some (.inl mZ))
def BP:List Nat:=[2,3,5,6,7]++List.range' 27 22
theorem Ta: ∀(k:Nat) (yg:PV) (xw:List Nat) (M:List Nat) (aG:List Nd) (mZ:List Int) (jS:Int) (eY:Int) (aB σ:Nat->PV) (H0 H:AH) (f0:Fr BP aB σ) (hf0:HF M H0 H) (sl:σ 0=(.ak (aG.map Nd.cells) .unk)/\σ 5=yg/\σ 26=(.int .i64 jS)/\σ 27=(.int .i64 eY)) (rD:aJ H aS 1 mZ yg xw) (vw:Nw H0 M xw) (o:List Int⊕(Int×Int)) (h:jP k aG mZ jS eY=some o) (Q:Post) (q0: ∀(p:List Int) (v0:PV) (uw:List Nat) (σ':Nat->PV) (H':AH),o= .inl p->Fr BP aB σ'->HF M H0 H'->(σ' 5=v0)->aJ H' aS 1 p v0 uw->Nw H0 M uw->Q (.exit 0) σ' H') (q1: ∀(p:Int×Int) (σ':Nat->PV) (H':AH),o= .inr (p)->Fr BP aB σ'->HF M H0 H'->(σ' 2=(.int .i64 p.1)/\σ' 3=(.int .i64 p.2))->Q .ret σ' H'),W Tryz.prog (.loop QE) Q σ H:=by
 intro k
 induction k with
 |zero=>intro yg xw M aG mZ jS eY aB σ H0 H f0 hf0 sl rD vw o h Q q0 q1;simp only [jP,reduceCtorEq]at h
 |succ k ih=>
  intro yg xw M aG mZ jS eY aB σ H0 H f0 hf0 sl rD vw o h Q q0 q1;obtain⟨s0,s5,s26,Yh⟩:=sl;have hle0:=hf0.1;unfold jP at h;refine aW (fun K hK=>aC ?_);unfold QE;obtain⟨e8,h⟩|⟨e8,h⟩:=aA h
  ·obtain⟨iM,e9,h⟩:=aj h;refine dz ?_;refine zJ (ad6 e9) (.cons (dS Nd.pu _ _) (aQ (.cons (aJ.fz dF (by repeat (first|exact rD|apply aJ.new|refine aJ.put ?_ (fun hm=>by have:=aJ.lt rD _ hm;omega)))) .nil))) (.cons (aT Nd.pu _) (.cons (.int _ _) (.cons (aT dF _) .nil))) (.int _ _) ?_;obtain⟨e11,h⟩|⟨e11,h⟩:=aA h
   ·cases h;refine dz ?_;exact q1 _ _ _ rfl aI nZ aP
   ·obtain⟨e12,h⟩:=aU h;refine dz ?_;refine Ik (f:=aS) (v:=yg) uZ mZ ([0]:List Int) .exact aP (by repeat (first|exact rD|apply aJ.new|refine aJ.put ?_ (fun hm=>by have:=aJ.lt rD _ hm;omega))) aP (by decide) (by simp only [List.length_cons,List.length_nil];exact e12) (fun v13 axh H15 r16 atM agS af9=> ?_);have le:=agS.1;try simp only [AH.aK,AH.aL,AH.aM,AH.aN]at le
    obtain⟨qB,e20,h⟩:=aj h;refine dz ?_;refine zJ (aiE e20) (.cons (dS Nd.pu _ _) (aQ (.cons (aJ.fz dF (by repeat (first|exact r16|apply aJ.new|refine aJ.put ?_ (fun hm=>by have:=aJ.lt r16 _ hm;omega)))) .nil))) (.cons (aT Nd.pu _) (.cons (.int _ _) (.cons (aT dF _) .nil))) (.int _ _) ?_;obtain⟨e22,h⟩:=aU h;obtain⟨x23,e24,h⟩:=aj h;obtain⟨w25,w26,atN,hil,w27,hC,hL,hD,hI⟩:=aJ.content r16 e24;have w28:=ne_next hil;have w29:=aZ hil;have w30:jV 1 v13 (.int .i64 eY)=some (.ref w25 (eY.toNat)):=by simpa using hI .i64 eY (by first|omega|decide) (by first|rfl|omega)
    have aEI:w26[eY.toNat]? =some (.int .i64 x23):=by simpa using hC 0 _ rfl
    clear hC hL hD hI;refine dz ?_;refine qc (f:=aS) (id:=w25) (o:=eY.toNat) (i:=eY.toNat) (j:=0) (a:=x23) (y:=qB) (vs:=[(.int .i64 qB)]) aP atN (by omega) (by repeat (first|exact r16|apply aJ.new|refine aJ.put ?_ (fun hm=>by have:=aJ.lt r16 _ hm;omega))) e24 aP rfl rfl (by first|decide|(simp only [List.length_cons,List.length_nil];omega)) rfl (fun H33 r34 atO aFS=> ?_);have le:=atO.1;try simp only [AH.aK,AH.aL,AH.aM,AH.aN]at le
    refine dz ?_;refine hK _ _ ?_;exact ih v13 axh M aG ((mZ++[0]).set eY.toNat qB) jS (IntKind.wrap .i64 (eY+1)) _ _ _ _ aI (by repeat (first|exact hf0|refine HF.new ?_|refine HF.qJ ?_|refine HF.used ?_|refine HF.put (by first|(right;omega)|(left;simp only [List.mem_cons,true_or,or_true])) ?_|refine HF.via agS vw ?_|refine HF.via atO (Nw.trans vw bP atM) ?_)) aP (by repeat (first|exact r34|apply aJ.new|refine aJ.put ?_ (fun hm=>by have:=aJ.lt r34 _ hm;omega))) (Nw.trans vw bP atM) _ h _ q0 q1
  ·cases h;refine dz ?_;exact q0 _ yg xw _ _ rfl aI nZ aP (by repeat (first|exact rD|apply aJ.new|refine aJ.put ?_ (fun hm=>by have:=aJ.lt rD _ hm;omega))) vw
def jQ:Nat->(List Nd)->(List Int)->(List Int)->Int->Int->Option (Unit⊕(Int×Int))
 |0,_,_,_,_,_=>none
 |k+1,aG,N8,xA,N9,Jv=>
  cond (decide (Jv<N9)) ((GJ k aG Jv N8 xA).bind fun p54=>cond p54 (some (.inr ((Jv,30)))) (jQ k aG N8 xA N9 (IntKind.wrap .i64 (Jv+1)))) (some (.inl ()))
def BQ:List Nat:=[2,3,11]++List.range' 59 10
theorem Tc: ∀(k:Nat) (aG:List Nd) (N8:List Int) (xA:List Int) (N9:Int) (Jv:Int) (aB σ:Nat->PV) (H:AH) (f0:Fr BQ aB σ) (sl:σ 0=(.ak (aG.map Nd.cells) .unk)/\σ 9=(.ak (N8.map aS) .unk)/\σ 10=(.ak (xA.map aS) .unk)/\σ 58=(.int .i64 N9)/\σ 59=(.int .i64 Jv)) (o:Unit⊕(Int×Int)) (h:jQ k aG N8 xA N9 Jv=some o) (Q:Post) (q0: ∀(p:Unit) (σ':Nat->PV),o= .inl p->Fr BQ aB σ'->Q (.exit 2) σ' H) (q1: ∀(p:Int×Int) (σ':Nat->PV),o= .inr (p)->Fr BQ aB σ'->(σ' 2=(.int .i64 p.1)/\σ' 3=(.int .i64 p.2))->Q .ret σ' H),W Tryz.prog (.loop QF) Q σ H:=by
 intro k
 induction k with
 |zero=>intro aG N8 xA N9 Jv aB σ H f0 sl o h Q q0 q1;simp only [jQ,reduceCtorEq]at h
 |succ k ih=>
  intro aG N8 xA N9 Jv aB σ H f0 sl o h Q q0 q1;obtain⟨s0,s9,s10,s58,s59⟩:=sl;unfold jQ at h;refine aW (fun K hK=>aC ?_);unfold QF;obtain⟨e52,h⟩|⟨e52,h⟩:=aA h
  ·obtain⟨p54,e53,h⟩:=aj h;refine dz ?_;refine av (agO e53) ?_;obtain⟨e55,h⟩|⟨e55,h⟩:=aA h
   ·cases h;refine dz ?_;exact q1 _ _ rfl aI aP
   ·refine dz ?_;refine hK _ _ ?_;exact ih aG N8 xA N9 (IntKind.wrap .i64 (Jv+1)) _ _ _ aI aP _ h _ q0 q1
  ·cases h;refine dz ?_;exact q0 _ _ rfl aI
def lN (k:Nat) (aG:List Nd):Option (Int×Int):=
 (og ((aG.length:Int)==0) 1).bind fun p2=>(og (decide ((aG.length:Int)>160)) 2).bind fun p4=>(gQ k [p2,p4]).bind fun p6=>cond (p6 !=0) (some (0,p6)) (Option.bind (jP k aG ([]:List Int) (aG.length:Int) 0) (fun o=>Sum.elim (fun p40=>(zT k aG).bind fun p51=>Option.bind (jQ k aG p51.1 p51.2 (aG.length:Int) 0) (fun o=>Sum.elim (fun p58=>if 0<=(IntKind.wrap .i64 ((aG.length:Int) -1))then (p40[(IntKind.wrap .i64 ((aG.length:Int) -1)).toNat]?).bind fun x65=>cond (x65 !=0) (some ((IntKind.wrap .i64 ((aG.length:Int) -1)),15)) (some (0,0))else none) (fun p74=>some (p74.1,p74.2)) o)) (fun AX=>some (AX.1,AX.2)) o))
theorem Ew {k:Nat} {aG:List Nd} {c0:Ck} {r:Int×Int} (h:lN k aG=some r):aD Tryz.prog 119 [(.ak (aG.map Nd.cells) c0)] (.cK [(.int .i64 r.1),(.int .i64 r.2)]):=by
 refine aD.lw (.ak .nil) (aD.aO (aX.mem (.cons (aT Nd.pu _) .nil)) (aF avw (by simp) (aC ?_)) (.cK _ (aX.mem (.cons (.int _ _) (.cons (.int _ _) .nil)))));unfold lN at h;unfold amj;obtain⟨p2,e1,h⟩:=aj h;refine dz ?_;refine av (nN e1) ?_;obtain⟨p4,e3,h⟩:=aj h;refine dz ?_;refine av (nN e3) ?_;obtain⟨p6,e5,h⟩:=aj h;refine dz ?_;refine av (kQ e5) ?_;obtain⟨e7,h⟩|⟨e7,h⟩:=aA h
 ·cases h;refine dz ?_;exact(bW (aQ (aQ .nil)))
 ·refine dz ?_;obtain⟨o38,h39,h⟩:=aj h;refine Ta k (.ak [] .nil) [] ([]++[]) aG ([]:List Int) (aG.length:Int) 0 _ _ _ _ (Fr.refl _ _) (HF.refl _ _) aP (by repeat (first|exact aJ.nil|apply aJ.new|refine aJ.put ?_ (fun hm=>by have:=aJ.lt aJ.nil _ hm;omega))) (fun i hi=>Or.inl (by simp only [List.mem_append,List.mem_cons,hi,true_or,or_true])) _ h39 _ ?_ ?_
  ·rintro p40 v44 aEJ σ' H43 eo abH atP s48 r46 aFT;subst eo;rw [bI]at h;have s49:σ' 0=(.ak (aG.map Nd.cells) .unk):=(abH 0 (by decide)).trans aP;have le:=atP.1;try simp only [AH.aK,AH.aL,AH.aM,AH.aN]at le
   obtain⟨p51,e50,h⟩:=aj h;refine dz ?_;refine av (ad4 e50) ?_;refine dz ?_;obtain⟨o56,h57,h⟩:=aj h;refine Tc k aG p51.1 p51.2 (aG.length:Int) 0 _ _ _ (Fr.refl _ _) aP _ h57 _ ?_ ?_
   ·rintro p58 σ' eo akW;subst eo;rw [bI]at h;have s62:σ' 5=v44:=(akW 5 (by decide)).trans aP;have s63:σ' 8=(.int .i64 (IntKind.wrap .i64 ((aG.length:Int) -1))):=(akW 8 (by decide)).trans aP;obtain⟨e64,h⟩:=aU h;obtain⟨x65,e66,h⟩:=aj h;obtain⟨w67,w68,aDi,hil,w69,hC,hL,hD,hI⟩:=aJ.content r46 e66;have w70:=ne_next hil;have w71:=aZ hil;have w72:jV 1 v44 (.int .i64 (IntKind.wrap .i64 ((aG.length:Int) -1)))=some (.ref w67 ((IntKind.wrap .i64 ((aG.length:Int) -1)).toNat)):=by simpa using hI .i64 (IntKind.wrap .i64 ((aG.length:Int) -1)) (by first|omega|decide) (by first|rfl|omega)
    have aEK:w68[(IntKind.wrap .i64 ((aG.length:Int) -1)).toNat]? =some (.int .i64 x65):=by simpa using hC 0 _ rfl
    clear hC hL hD hI;obtain⟨Ul,h⟩|⟨Ul,h⟩:=aA h
    ·cases h;refine dz ?_;exact(bW (aQ (aQ .nil)))
    ·cases h;refine dz ?_;exact(bW (aQ (aQ .nil)))
   ·rintro p74 σ' eo aAu ⟨s78,s79⟩;subst eo;rw [bL]at h;cases h;refine dz ?_;exact(bW (aQ (aQ .nil)))
  ·rintro AX σ' H83 eo Li ak6 ⟨s84,s85⟩;subst eo;rw [bL]at h;have le:=ak6.1;try simp only [AH.aK,AH.aL,AH.aM,AH.aN]at le
   cases h;refine dz ?_;exact(bW (aQ (aQ .nil)))
def xB (k:Nat) (aG:List Nd):Option Int:=
 (lN k aG).bind fun p2=>some p2.2
theorem P7 {k:Nat} {aG:List Nd} {c0:Ck} {r:Int} (h:xB k aG=some r):aD Tryz.prog 186 [(.ak (aG.map Nd.cells) c0)] (.int .i64 r):=by
 refine aD.lw (.ak .nil) (aD.aO (aX.mem (.cons (aT Nd.pu _) .nil)) (aF avV (by simp) (aC ?_)) (.int _ _));unfold xB at h;unfold amN;obtain⟨p2,e1,h⟩:=aj h;refine ah ?_;refine av (Ew e1) ?_;cases h;refine ah ?_;exact(.pure _ (.int _ _))
end Go.VL
end
section
namespace Go.VL
theorem apZ (s p:Str):lY s p=some (decide (p.length<=s.length)&&decide (s.take p.length=p)):=by
 unfold lY vO;by_cases h:p.length<=s.length
 · have h':(s.length:Int)>=(p.length:Int):=by omega
   simp only [h,h',decide_true,cond_true,if_true,Option.bind_some,Bool.true_and,Kg]
 · have h': ¬(s.length:Int)>=(p.length:Int):=by omega
   simp only [h,h',decide_false,cond_false,Option.bind_some,Bool.false_and]
theorem axi (s:Str) (a b c:UInt8):lY s [a,b,c]=some (decide (s.take 3=[a,b,c])):=by
 rw [apZ];congr 1;show(decide (3<=s.length)&&decide (s.take 3=[a,b,c]))=_
 by_cases h:s.take 3=[a,b,c]
 · have:=congrArg List.length h;rw [List.length_take]at this;have h3:3<=s.length:=by simp at this;omega
   simp [h,h3]
 · simp [h]
theorem ald (s:Str):decide (s∈Jr)=(decide (s∈PZ)||sK s):=by
 have h1:Jr=PZ++[[66,79,79,76,69,65,78],[83,84,82,73,78,71]]:=by kernel_rfl
 have h2:([84,82,85,69]:Str)∈PZ:=by decide+kernel
 have h3:([70,65,76,83,69]:Str)∈PZ:=by decide+kernel
 rw [h1];unfold sK;by_cases a:s=[84,82,85,69]
 · subst a;simp [h2]
 by_cases b:s=[70,65,76,83,69]
 · subst b;simp [h3]
 by_cases c:s∈PZ<;>simp [a,b,c]
theorem ale:Jr.length=52:=by kernel_rfl
theorem agT (s:Str):(sF s).length=s.length:=by simp [sF]
theorem agU (s:Str) {i:Nat} (h:i<s.length):(sF s)[i]? =some (s[i].toNat:Int):=by simp [sF,h]
theorem aop (c:UInt8):IntKind.wrap .i64 (c.toNat:Int)=(c.toNat:Int):=by have:=c.toNat_lt;exact wrap64 (by omega) (by omega)
def Oa (s:Str):Nat:=s.countP isLet
theorem alf (s:Str):decide ((Oa s:Int)>0)=s.any isLet:=by
 unfold Oa
 induction s with
 |nil=>rfl
 |cons c l ih=>
  rw [List.countP_cons,List.any_cons];by_cases h:isLet c=true
  · simp only [h,if_true,Bool.true_or,decide_eq_true_eq];omega
  · rw [if_neg h,Nat.add_zero,ih];simp [h]
theorem Xu (c:UInt8):((gP (c.toNat:Int) 97 122).bind fun p26=>yV (c.toNat:Int) p26)=some (isLet c):=by
 unfold yV;simp only [q9,Option.bind_some,aop];unfold isLet;have e1:((97:Int)<=(c.toNat:Int)/\(c.toNat:Int)<=122)=(97<=c.toNat/\c.toNat<=122):=by rw [eq_iff_iff];omega
 have e2:((65:Int)<=(c.toNat:Int)/\(c.toNat:Int)<=90)=(65<=c.toNat/\c.toNat<=90):=by rw [eq_iff_iff];omega
 simp only [e1,e2];cases decide (97<=c.toNat/\c.toNat<=122)<;>rfl
theorem yZ (s:Str):Ev (fun k=>uD k s) (rName s):=by
 unfold uD Dq;simp only [q9,Option.bind_some,axi];by_cases h1:1<=s.length/\s.length<=24
 · have e1:(decide ((1:Int)<=(s.length:Int)/\(s.length:Int)<=24))=true:=decide_eq_true (by omega);simp only [e1,Bool.not_true,cond_false];refine Ev.bind (x:=Yk s||decide (s∈Jr)) ?_ ?_
   · unfold Yk;cases decide (s.take 3=[87,70,95])
     · cases decide (s.take 3=[83,70,95])
       · exact Ev.bind (ze _ _ (by rw [ale];omega)) (Ev.some' (by simp only [Bool.false_or]))
       · exact Ev.some
     · exact Ev.some
   · have hspec:rName s=(!(Yk s||decide (s∈Jr))&&s.all qE&&s.any isLet):=by
      rw [ald];unfold rName bName;simp only [h1,and_self,decide_true,Bool.true_and];cases decide (s∈PZ)<;>cases sK s<;>cases Yk s<;>cases s.all qE<;>cases s.any isLet<;>rfl
     rw [hspec];cases(Yk s||decide (s∈Jr))
     · simp only [cond_false,Bool.not_false,Bool.true_and];have hb:s.length<=1099511627776:=by omega
       have key: ∀m:Nat,m<=0->Ev (fun k=>kC k (m:Int) (sF s) (s.length:Int) ((0:Nat):Int)) (if(s.drop 0).all qE=true then .inl ((m+Oa (s.drop 0):Nat):Int)else .inr false):=by
        refine jM (len:=s.length) (p:=fun i=> ∀m:Nat,m<=i->Ev (fun k=>kC k (m:Int) (sF s) (s.length:Int) (i:Int)) (if(s.drop i).all qE=true then .inl ((m+Oa (s.drop i):Nat):Int)else .inr false)) ?_ fun i hi ih m hm=> ?_
        · intro m hm;refine Ev.succ ?_;simp only [kC];exact Ev.cF (iT _) (Ev.some' (by simp only [List.drop_length,List.all_nil,if_true,Oa,List.countP_nil,Nat.add_zero]))
        · refine Ev.succ ?_;have hp1:=Xu s[i];simp only [q9,Option.bind_some]at hp1;simp only [kC,Int.toNat_natCast,agU s hi,Option.bind_some,nn,if_true,iY hi,cond_true,dW hi hb,q9,aop];refine Ev.nD hp1 ?_;have hcount:Oa (s.drop i)=(if isLet s[i]=true then 1 else 0)+Oa (s.drop (i+1)):=by
           unfold Oa;rw [drop_cons hi,List.countP_cons,Nat.add_comm]
          rw [hcount];have hall:(s.drop i).all qE=(qE s[i]&&(s.drop (i+1)).all qE):=by rw [drop_cons hi,List.all_cons]
          rw [hall];by_cases h2:isLet s[i]=true
          · have hc:qE s[i]=true:=by unfold qE;rw [h2];rfl
            refine Ev.cT h2 ?_;rw [dW (i:=m) (n:=i+1) (by omega) (by omega)];refine(ih (m+1) (by omega)).to ?_;simp only [hc,h2,if_true,Bool.true_and,Nat.add_assoc]
          · have h2':isLet s[i]=false:=by simpa using h2
            refine Ev.cF h2' ?_;simp only [h2',Bool.false_eq_true,if_false,Nat.zero_add];have e3:((48:Int)<=(s[i].toNat:Int)/\(s[i].toNat:Int)<=57)=(48<=s[i].toNat/\s[i].toNat<=57):=by rw [eq_iff_iff];omega
            by_cases h3:48<=s[i].toNat/\s[i].toNat<=57
            · have hc:qE s[i]=true:=by unfold qE EP;simp [h3]
              refine Ev.cT (decide_eq_true (e3▸h3)) ((ih m (by omega)).to ?_);simp only [hc,Bool.true_and]
            · refine Ev.cF (decide_eq_false (e3▸h3)) ?_;by_cases h4:s[i].toNat=95
              · have hc:qE s[i]=true:=by unfold qE;simp [h4]
                refine Ev.cF (by rw [h4];rfl) ((ih m (by omega)).to ?_);simp only [hc,Bool.true_and]
              · have hc:qE s[i]=false:=by unfold qE EP;rw [h2'];simp [h4];omega
                refine Ev.cT (by rw [bne_iff_ne];omega) (Ev.some' ?_);simp only [hc,Bool.false_and,Bool.false_eq_true,if_false]
       have atQ:=key 0 (Nat.le_refl _);rw [List.drop_zero,Nat.zero_add]at atQ;simp only [agT];refine Ev.bind atQ ?_;by_cases h3:s.all qE=true
       · simp only [h3,if_true,bI,Bool.true_and];exact Ev.some' (alf s)
       · simp only [h3,if_false,bL];exact Ev.some' (by simp [h3])
     · exact Ev.some
 · have e1:(decide ((1:Int)<=(s.length:Int)/\(s.length:Int)<=24))=false:=decide_eq_false (by omega);simp only [e1,Bool.not_false,cond_true,Option.bind_some];exact Ev.some' (by simp [rName,bName,h1])
theorem UM (s:Str):(Lib.indexByte s 33= -1/\bang s=none)\/ ∃i:Nat,Lib.indexByte s 33=(i:Int)/\i<s.length/\bang s=some (s.take i,s.drop (i+1)):=by
 induction s with
 |nil=>exact .inl ⟨rfl,rfl⟩
 |cons c l ih=>
  by_cases h:c=33
  · subst h;exact .inr ⟨0,rfl,by simp,by simp [bang]⟩
  · have hc:(c==33)=false:=beq_eq_false_iff_ne.2 h;rcases ih with⟨h1,h2⟩|⟨i,h1,h2,h3⟩
    · exact .inl ⟨by simp [Lib.indexByte,hc,h1],by simp [bang,h,h2]⟩
    · refine .inr ⟨i+1,?_,by simp;omega,by simp [bang,h,h3]⟩;have:((i:Int)== -1)=false:=by rw [beq_eq_false_iff_ne];omega
      simp [Lib.indexByte,hc,h1,this]
theorem Ob {s:Str} (h:rName s=true):s.length<=24:=by
 unfold rName bName at h;simp only [Bool.and_eq_true,decide_eq_true_eq]at h;exact h.1.1.1.1.1.2
theorem Ml (s:Str) (hb:s.length<=1000000):Ev (fun k=>xS k s) (jy s):=by
 unfold xS akG;by_cases hl:s.length<=49
 · refine Ev.cF (decide_eq_false (by omega)) ?_;unfold jy;rcases UM s with⟨h1,h2⟩|⟨i,h1,h2,h3⟩
   · simp only [h1,h2,Option.bind_some];refine Ev.cF (by decide) (Ev.bind (yZ s) ?_);cases rName s<;>exact Ev.some
   · simp only [h1,h3,Option.bind_some];refine Ev.cT (decide_eq_true (by omega)) (Ev.lZ ⟨by omega,by omega⟩ ?_);rw [dW h2 (by omega)];refine Ev.lZ ⟨by omega,by omega⟩ (Ev.bind (yZ _) ?_);simp only [Int.toNat_natCast];cases rName (s.take i)
     · exact Ev.some
     · simp only [cond_true,Bool.true_and];exact Ev.bind (yZ _) Ev.some
 · refine Ev.cT (decide_eq_true (by omega)) (Ev.some' ?_);unfold jy;rcases UM s with⟨h1,h2⟩|⟨i,h1,h2,h3⟩
   · simp only [h2];cases h:rName s
     · rfl
     · exact absurd (Ob h) (by omega)
   · simp only [h3];cases h:rName (s.take i)
     · rfl
     · cases h':rName (s.drop (i+1))
       · rfl
       · have a:=Ob h;have b:=Ob h';rw [List.length_take]at a;rw [List.length_drop]at b;omega
theorem ad7 (s:Str):wQ s=some (wP s):=by
 unfold wQ wP;have h:(!agL s)=s.all ND:=by
  unfold agL
  induction s with
  |nil=>rfl
  |cons c l ih=>
   rw [List.any_cons,List.all_cons,Bool.not_or,ih];congr 1;unfold SX ND;generalize c.toNat=n;by_cases h1:32<=n<;>by_cases h2:n<=126<;>by_cases h3:n=34<;>by_cases h4:n=92<;>simp [h1,h2,h3,h4]
 rw [h];by_cases hl:s.length<=40
 · have:(s.length:Int)<=40:=by omega
   simp [hl,this]
 · have: ¬(s.length:Int)<=40:=by omega
   simp [hl,this]
theorem Oc {l:List Operator} {t:Str} (h: ¬t∈l.map (·.text)):dZ l t=(Ke,false):=by
 induction l with
 |nil=>rfl
 |cons o l ih=>
  simp only [List.map_cons,List.mem_cons,not_or]at h;rw [dZ,if_neg (fun e=>h.1 e.symm),ih h.2]
theorem aAv (t:Str):dZ oH t=dZ fU t:=by
 have h1:((oH.map (·.text)).all fun t=>decide (dZ oH t=dZ fU t))=true:=by kernel_rfl
 have h2:((fU.map (·.text)).all fun t=>decide (t∈oH.map (·.text)))=true:=by kernel_rfl
 by_cases h:t∈oH.map (·.text)
 · exact of_decide_eq_true (List.all_eq_true.1 h1 t h)
 · rw [Oc h,Oc (fun h'=>h (of_decide_eq_true (List.all_eq_true.1 h2 t h')))]
theorem alg:oH.length=42:=by kernel_rfl
theorem vP (t:Str):Ev (fun k=>nP k t) (dZ fU t):=by
 rw [<-aAv];have hl:oH.length<=1099511627776:=by rw [alg];omega
 have key: ∃o:Unit⊕Int,Ev (fun k=>bn k oH t (oH.length:Int) ((0:Nat):Int)) o/\((o= .inl ()/\dZ (oH.drop 0) t=(Ke,false))\/ ∃(j:Nat) (x:Operator),o= .inr (j:Int)/\oH[j]? =some x/\dZ (oH.drop 0) t=(x,true)):=by
  refine jM (len:=oH.length) (p:=fun i=> ∃o:Unit⊕Int,Ev (fun k=>bn k oH t (oH.length:Int) (i:Int)) o/\((o= .inl ()/\dZ (oH.drop i) t=(Ke,false))\/ ∃(j:Nat) (x:Operator),o= .inr (j:Int)/\oH[j]? =some x/\dZ (oH.drop i) t=(x,true))) ?_ fun i hi ⟨o,ih,ho⟩=> ?_
  · refine⟨.inl (),Ev.succ ?_,.inl ⟨rfl,by simp [dZ]⟩⟩;simp only [bn];exact Ev.cF (iT _) Ev.some
  · by_cases h:oH[i].text=t
    · refine⟨.inr (i:Int),Ev.succ ?_,.inr ⟨i,oH[i],rfl,bG hi,by rw [drop_cons hi,dZ,if_pos h]⟩⟩;simp only [bn,sJ,Int.toNat_natCast,bG hi,Option.bind_some,nn,if_true,iY hi,cond_true,dW hi hl];exact Ev.cT (by rw [beq_iff_eq];exact h) Ev.some
    · refine⟨o,Ev.succ ?_,by rw [drop_cons hi,dZ,if_neg h];exact ho⟩;simp only [bn,sJ,Int.toNat_natCast,bG hi,Option.bind_some,nn,if_true,iY hi,cond_true,dW hi hl];exact Ev.cF (by rw [beq_eq_false_iff_ne];exact h) ih
 obtain⟨o,h1,h2⟩:=key;rw [List.drop_zero]at h2;unfold nP fE;rcases h2 with⟨rfl,h2⟩|⟨j,x,rfl,h3,h2⟩
 · refine Ev.bind (x:= -1) (Ev.bind h1 Ev.some) ?_;rw [h2];exact Ev.cT (by decide) Ev.some
 · refine Ev.bind (x:=(j:Int)) (Ev.bind h1 Ev.some) ?_;rw [h2];simp only [Int.toNat_natCast,h3,Option.bind_some,nn,if_true];exact Ev.cF (decide_eq_false (by omega)) Ev.some
def Kw:List Int->Int
 |[]=>0
 |a::l=>if a=0 then Kw l else a
theorem FJ (l:List Int) (hl:l.length<=1099511627776):Ev (fun k=>gQ k l) (Kw l):=by
 have key:Ev (fun k=>iC k l (l.length:Int) ((0:Nat):Int)) (if Kw (l.drop 0)=0 then .inl ()else .inr (Kw (l.drop 0))):=by
  refine jM (len:=l.length) (p:=fun i=>Ev (fun k=>iC k l (l.length:Int) (i:Int)) (if Kw (l.drop i)=0 then .inl ()else .inr (Kw (l.drop i)))) ?_ fun i hi ih=> ?_
  · refine Ev.succ ?_;simp only [iC];exact Ev.cF (iT _) (Ev.some' (by simp [Kw]))
  · refine Ev.succ ?_;simp only [iC,Int.toNat_natCast,bG hi,Option.bind_some,nn,if_true,iY hi,cond_true,dW hi hl];rw [drop_cons hi,Kw];by_cases h:l[i]=0
    · refine Ev.cF (by rw [h];rfl) (ih.to ?_);simp only [h,if_true]
    · refine Ev.cT (by rw [bne_iff_ne];exact h) (Ev.some' ?_);simp only [h,if_false]
 unfold gQ;refine Ev.bind key ?_;rw [List.drop_zero];by_cases h:Kw l=0
 · simp only [h,if_true,bI];exact Ev.some
 · simp only [h,if_false,bL];exact Ev.some
theorem ad8 (l:List Str) (hl:l.length<=1099511627776):Ev (fun k=>fO k l) (!l.all rName):=by
 have key: ∃o:Unit⊕Int,Ev (fun k=>bK k l (l.length:Int) ((0:Nat):Int)) o/\((o= .inl ()/\(l.drop 0).all rName=true)\/(∃j:Nat,o= .inr (j:Int))/\(l.drop 0).all rName=false):=by
  refine jM (len:=l.length) (p:=fun i=> ∃o:Unit⊕Int,Ev (fun k=>bK k l (l.length:Int) (i:Int)) o/\((o= .inl ()/\(l.drop i).all rName=true)\/(∃j:Nat,o= .inr (j:Int))/\(l.drop i).all rName=false)) ?_ fun i hi ⟨o,ih,ho⟩=> ?_
  · refine⟨.inl (),Ev.succ ?_,.inl ⟨rfl,by simp⟩⟩;simp only [bK];exact Ev.cF (iT _) Ev.some
  · have hn:Ev (fun k=>wZ k l[i]) (!rName l[i]):=by unfold wZ;exact Ev.bind (yZ _) Ev.some
    by_cases h:rName l[i]=true
    · refine⟨o,Ev.succ ?_,by rw [drop_cons hi,List.all_cons,h,Bool.true_and];exact ho⟩;simp only [bK,Int.toNat_natCast,bG hi,Option.bind_some,nn,if_true,iY hi,cond_true,dW hi hl];exact Ev.bind hn (Ev.cF (by rw [h];rfl) ih)
    · have h:rName l[i]=false:=by simpa using h
      refine⟨.inr (i:Int),Ev.succ ?_,.inr ⟨⟨i,rfl⟩,by rw [drop_cons hi,List.all_cons,h,Bool.false_and]⟩⟩;simp only [bK,Int.toNat_natCast,bG hi,Option.bind_some,nn,if_true,iY hi,cond_true,dW hi hl];exact Ev.bind hn (Ev.cT (by rw [h];rfl) Ev.some)
 obtain⟨o,h1,h2⟩:=key;rw [List.drop_zero]at h2;unfold fO;rcases h2 with⟨rfl,h2⟩|⟨⟨j,rfl⟩,h2⟩
 · refine Ev.bind (x:= -1) (by unfold gN;exact Ev.bind h1 Ev.some) (Ev.some' ?_);rw [h2];rfl
 · refine Ev.bind (x:=(j:Int)) (by unfold gN;exact Ev.bind h1 Ev.some) (Ev.some' ?_);rw [h2];simp
theorem alh (a b:Int) (c:Str) (l:List Str) (d:List Int) (hl:l.length<=1099511627776):Ev (fun k=>iZ k a b c l d false l (l.length:Int) 0) (sM [] l):=by
 have key: ∀x:Bool,Ev (fun k=>iZ k a b c l d x l (l.length:Int) ((0:Nat):Int)) (x||sM (l.take 0) (l.drop 0)):=by
  refine jM (len:=l.length) (p:=fun i=> ∀x:Bool,Ev (fun k=>iZ k a b c l d x l (l.length:Int) (i:Int)) (x||sM (l.take i) (l.drop i))) (fun x=> ?_) fun i hi ih x=> ?_
  · refine Ev.succ ?_;simp only [iZ];exact Ev.cF (iT _) (Ev.some' (by simp [sM]))
  · refine Ev.succ ?_;have h2:i<=l.length:=by omega
    simp only [iZ,Int.toNat_natCast,bG hi,Option.bind_some,nn,if_true,iY hi,cond_true,dW hi hl,true_and,h2];rw [drop_cons hi,sM,<-List.take_succ_eq_append_getElem hi];cases x
    · refine Ev.cF rfl (Ev.bind (ze _ _ (by rw [List.length_take];omega)) ?_);simp only [Bool.false_or];exact ih _
    · exact Ev.cT rfl ((ih true).to (by simp))
 exact key false
def ab4 (n:Nd):Bool:= !(n.names.all rName)||(decide (n.kind=2)&& !sK n.text&& !jy n.text)||(decide (n.kind=3)&& !(dZ fU n.text).2&& !jy n.text)||(decide (n.kind=18)&& !rName n.text)
def arT (n:Nd):Bool:=decide (n.kind=3)&&(dZ fU n.text).2&& !iy (n.args.length:Int) (dZ fU n.text).1.least (dZ fU n.text).1.most
def Ky (n:Nd):Int:=if ab4 n=true then 7 else if arT n=true then 17 else if sM [] n.names=true then 12 else 0
theorem Zz (n:Nd) (h1:n.text.length<=1000000) (h2:n.names.length<=1000000):Ev (fun k=>pQ k n) (Ky n):=by
 unfold pQ;refine Ev.bind (ad8 _ (by omega)) (Ev.bind (vP _) (Ev.bind (x:=(ab4 n,arT n)) ?_ ?_))
 · unfold zn ab4 arT iy;by_cases a:n.kind=2
   · simp only [a];refine Ev.cT rfl (Ev.bind (x:= !(n.names.all rName)||(!sK n.text&& !jy n.text)) ?_ (Ev.some' (by simp)));unfold zf;cases n.names.all rName
     · exact Ev.some
     · refine Ev.cF rfl ?_;simp only [NC,Option.bind_some];cases sK n.text
       · exact Ev.bind (Ml _ h1) (Ev.some' (by simp))
       · exact Ev.some
   by_cases b:n.kind=3
   · simp only [b];refine Ev.cF rfl (Ev.cT rfl (Ev.bind (x:= !(n.names.all rName)||(!(dZ fU n.text).2&& !jy n.text)) ?_ ?_))
     · unfold zh;cases n.names.all rName
       · exact Ev.some
       · refine Ev.cF rfl ?_;cases(dZ fU n.text).2
         · exact Ev.bind (Ml _ h1) (Ev.some' (by simp))
         · exact Ev.some
     · unfold zi;simp only [q9,Option.bind_some];cases(dZ fU n.text).2
       · exact Ev.some' (by simp)
       · exact Ev.some' (by simp)
   by_cases c:n.kind=18
   · simp only [c];refine Ev.cF rfl (Ev.cF rfl (Ev.cT rfl (Ev.bind (x:= !(n.names.all rName)|| !rName n.text) ?_ (Ev.some' (by simp)))));unfold zm;cases n.names.all rName
     · exact Ev.some
     · exact Ev.cF rfl (Ev.bind (yZ _) (Ev.some' (by simp)))
   · refine Ev.cF (beq_eq_false_iff_ne.2 a) (Ev.cF (beq_eq_false_iff_ne.2 b) (Ev.cF (beq_eq_false_iff_ne.2 c) (Ev.some' ?_)));simp [a,b,c]
 · refine Ev.bind (alh _ _ _ n.names _ (by omega)) ?_;simp only [Bg,Option.bind_some];refine Ev.bind (FJ _ (by simp)) (Ev.some' ?_);unfold Ky;cases ab4 n<;>cases arT n<;>cases sM [] n.names<;>rfl
def D5 (n:Nd):Shape:=
 if n.kind=0 then Shape.mk (0,0) (0,0) false true else
 if n.kind=1\/n.kind=2 then Shape.mk (0,0) (0,0) true false else
 if n.kind=3 then(if(dZ fU n.text).2=true then Shape.mk (0,0) ((n.args.length:Int),(n.args.length:Int)) true false else Shape.mk (0,0) (1,4) true false)else
 if n.kind=4\/n.kind=5 then Shape.mk (0,0) (0,30) false false else
 if n.kind=6\/n.kind=12 then Shape.mk (1,1) (2,2) false false else
 if n.kind=7\/n.kind=8\/n.kind=9\/n.kind=13 then Shape.mk (1,4) ((n.names.length:Int)+1,(n.names.length:Int)+1) false false else
 if n.kind=10\/n.kind=11 then Shape.mk (1,4) (1,1) false false else
 if n.kind=14 then Shape.mk (0,0) (2,5) false false else
 if n.kind=16\/n.kind=17 then Shape.mk (1,30) ((n.names.length:Int),(n.names.length:Int)) false false else
 if n.kind=18 then Shape.mk (0,0) (1,1) true false else
 if n.kind=19\/n.kind=21 then Shape.mk (0,0) (3,3) false false else
 if n.kind=20 then Shape.mk (0,0) (0,0) false false else
 if n.kind=22 then Shape.mk (0,0) (2,30) false false else
 if n.kind=23 then Shape.mk (1,5) (2,2) false true else
 if n.kind=24 then Shape.mk (1,4) (1,1) false false else Shape.mk (0,0) (2,2) false false
theorem kinds {k:Int} (h:iy k 0 28=true):k=0\/k=1\/k=2\/k=3\/k=4\/k=5\/k=6\/k=7\/k=8\/k=9\/k=10\/k=11\/k=12\/k=13\/k=14\/k=15\/k=16\/k=17\/k=18\/k=19\/k=20\/k=21\/k=22\/k=23\/k=24\/k=25\/k=26\/k=27\/k=28:=by
 unfold iy at h;rw [decide_eq_true_eq]at h;omega
theorem ab5 (n:Nd) (hk:iy n.kind 0 28=true) (h2:n.names.length<=1000000):Ev (fun k=>zU k n) (D5 n):=by
 have hw:IntKind.wrap .i64 ((n.names.length:Int)+1)=(n.names.length:Int)+1:=wrap64 (by omega) (by omega);rcases kinds hk with h|h|h|h|h|h|h|h|h|h|h|h|h|h|h|h|h|h|h|h|h|h|h|h|h|h|h|h|h
 case' inr.inr.inr.inl=>
  unfold zU wX D5;simp only [h];refine Ev.cF rfl ?_;refine Ev.cg (Ev.bind (vP n.text) (g:=fun k (DR:Operator×Bool)=>cond DR.2 (some (Shape.mk (0,0) ((n.args.length:Int),(n.args.length:Int)) true false)) (some (Shape.mk (0,0) (1,4) true false))) ?_) (fun k=>rfl);cases(dZ fU n.text).2<;>exact Ev.some
 all_goals
  unfold zU wX Bo Bp Bq Br Bt Bu vk D5;simp only [h,hw];exact Ev.some
theorem atS (n:Nd) (hk:iy n.kind 0 28=true):(iy (n.names.length:Int) (D5 n).names.1 (D5 n).names.2&&iy (n.args.length:Int) (D5 n).operands.1 (D5 n).operands.2)=qV n:=by
 have d {a b:Int} (P:Prop) [Decidable P] (h:a=b) (x y:Int):iy a x y=iy b x y:=by rw [h]
 rcases kinds hk with h|h|h|h|h|h|h|h|h|h|h|h|h|h|h|h|h|h|h|h|h|h|h|h|h|h|h|h|h
 case' inr.inr.inr.inl=>
  unfold D5 qV;simp only [h];cases(dZ fU n.text).2
  · show(iy _ 0 0&&iy _ 1 4)=(iy _ 0 0&&iy _ 1 4)
    simp [iA,sH,ug]
  · show(iy _ 0 0&&iy _ _ _)=(iy _ 0 0&&iy _ 0 _)
    unfold iy;simp [iA,sH,ug]
 all_goals
  unfold D5 qV;simp only [h];unfold iy;rw [Bool.eq_iff_iff];simp [iA,sH,ug,Ay,Az,AA,AB,AJ,AL];try omega
def clT (n:Nd):Bool:=((D5 n).text||decide (n.text=[]))&&((D5 n).number||decide (n.n=0))&&(!decide (n.kind=1)||wP n.text)&&(!decide (n.kind=23)||iy n.n 0 1)
theorem atT (n:Nd) (hk:iy n.kind 0 28=true):clT n=pq n:=by
 rcases kinds hk with h|h|h|h|h|h|h|h|h|h|h|h|h|h|h|h|h|h|h|h|h|h|h|h|h|h|h|h|h
 case' inr.inr.inr.inl=>
  unfold clT pq D5;simp only [h];cases(dZ fU n.text).2<;>simp
 all_goals
  unfold clT pq D5;simp only [h];simp [and_comm]
theorem ai6 (n:Nd):Ky n=if sN n≠0 then sN n else if sM [] n.names=true then 12 else 0:=by
 unfold Ky ab4 arT sN;cases n.names.all rName
 · simp
 by_cases a:n.kind=2
 · simp only [a];cases sK n.text<;>cases jy n.text<;>simp
 by_cases b:n.kind=3
 · simp only [b];cases(dZ fU n.text).2<;>cases jy n.text<;>cases iy (n.args.length:Int) (dZ fU n.text).1.least (dZ fU n.text).1.most<;>simp
 by_cases c:n.kind=18
 · simp only [c];cases rName n.text<;>simp
 · simp [a,b,c]
theorem aAw {e:List Nd} {i:Nat} {acc:List Int} (h:qL e i acc) (hi:i<=1000000) (l:List Int): ∀(m:Nat),m<=l.length-> ∀nx:Nat,nx<=i-> ∀tg:Bool,
 ∃z,nS m acc ((nx:Int) -1) tg l=some (if tL acc nx (l.take m).reverse=true then .inr (z,tg)else .inl (z,false)):=by
 intro m
 induction m with
 |zero=>intro _ nx _ tg;exact⟨(nx:Int) -1,by simp [nS,tL]⟩
 |succ m ih=>
  intro hm nx hnx tg;have hm':m<l.length:=by omega
  rw [nS,bG hm',Option.bind_some,abS hm',tL];by_cases h1:l[m]=(nx:Int) -1
  · rw [oQ (by rw [h1];simp)];by_cases h2:nx<1
    · refine⟨(nx:Int) -1,?_⟩;rw [wo (decide_eq_true (by omega))];have: ¬(1:Int)<=nx:=by omega
      simp [this]
    · obtain⟨j,rfl⟩: ∃j,nx=j+1:=⟨nx -1,by omega⟩;have e2:(((j+1:Nat):Int) -1)=(j:Int):=by omega
      rw [e2]at h1⊢;obtain⟨n',b,h3,h4,h5,h6,_⟩:=h.at_ j (by omega);obtain⟨b,rfl⟩: ∃b':Nat,b=b':=⟨b.toNat,by omega⟩;obtain⟨z,hz⟩:=ih (by omega) b (by omega) tg;refine⟨z,?_⟩;rw [oQ (decide_eq_false (by omega)),if_pos (by omega),Int.toNat_natCast,h4,Option.bind_some,wrap64 (by omega) (by omega),hz];have e3:(1:Int)<=((j+1:Nat):Int):=by omega
      simp only [h1,e3,decide_true,Bool.true_and,Option.getD_some]
  · refine⟨(nx:Int) -1,?_⟩;rw [wo (by rw [bne_iff_ne];exact h1)];simp [h1]
theorem ab6 {e:List Nd} {i:Nat} {acc:List Int} (h:qL e i acc) (hi:i<=1000000) {n:Nd} (hn:e[i]? =some n) (h1:n.text.length<=1000000) (h2:n.names.length<=1000000) (h3:n.args.length<=1000000):
 Ev (fun k=>DZ k e (i:Int) acc) (dM (tL acc i n.args.reverse) n):=by
 unfold DZ;simp only [Int.toNat_natCast,hn,Option.bind_some,nn,if_true,q9,Bg];unfold dM;by_cases hk:iy n.kind 0 28=true
 case neg=>exact Ev.to (Ev.cF (by simpa [iy]using hk) Ev.some) (if_pos (by simpa using hk)).symm
 refine Ev.to ?_ (if_neg (by simp [hk])).symm;refine Ev.cT hk (Ev.bind (ab5 n hk h2) (Ev.nD (x:= !qV n) ?_ ?_))
 · rw [<-atS n hk];unfold BI iy;simp only [q9,Option.bind_some];cases decide ((D5 n).names.1<=(n.names.length:Int)/\(n.names.length:Int)<=(D5 n).names.2)
   · rfl
   · rfl
 cases hs:qV n
 · exact Ev.some
 simp only [Bool.not_true,cond_false,Bool.true_eq_false,if_false];obtain⟨z,hz⟩:=aAw h hi n.args n.args.length (Nat.le_refl _) i (Nat.le_refl _) true;rw [List.take_length]at hz;generalize tL acc (i:Int) n.args.reverse=pl at hz⊢;have hj:xq acc n.kind n.n n.text n.names n.args (IntKind.wrap .i64 ((i:Int) -1)) true=some (z,pl):=by
  unfold xq;rw [if_pos (by omega),wrap64 (by omega) (by omega),hz];cases pl<;>rfl
 refine Ev.nD hj (Ev.nD (x:=pq n) ?_ ?_)
 · rw [<-atT n hk];unfold BO clT iy;simp only [ad7,q9,Option.bind_some,Kg,bne];have e1:((n.n==0):Bool)=decide (n.n=0):=by by_cases h:n.n=0<;>simp [h]
   have e2:((n.kind==1):Bool)=decide (n.kind=1):=by by_cases h:n.kind=1<;>simp [h]
   have e3:((n.kind==23):Bool)=decide (n.kind=23):=by by_cases h:n.kind=23<;>simp [h]
   simp only [e1,e2,e3];cases(D5 n).text<;>cases(D5 n).number<;>cases decide (n.text=[])<;>cases decide (n.n=0)<;>cases decide (n.kind=1)<;>cases wP n.text<;>cases decide (n.kind=23)<;>rfl
 have fin:Ev (fun k=>(pQ k n).bind fun p=>(gQ k [if(!(pl&&pq n))=true then 5 else 0,if(!decide (n.kind=23)&& !iy n.n 0 10000)=true then 3 else 0,p]).bind fun q=>some q) (Kw [if(!(pl&&pq n))=true then 5 else 0,if(!decide (n.kind=23)&& !iy n.n 0 10000)=true then 3 else 0,Ky n]):=
  Ev.bind (Zz n h1 h2) (Ev.bind (FJ _ (by simp)) Ev.some)
 have hval:Kw [if(!(pl&&pq n))=true then 5 else 0,if(!decide (n.kind=23)&& !iy n.n 0 10000)=true then 3 else 0,Ky n]=
  if(pl&&pq n)=false then 5 else if(decide (n.kind=0)&& !iy n.n 0 10000)=true then 3 else if sN n≠0 then sN n else if sM [] n.names=true then 12 else 0:=by
  rw [<-ai6];cases hpc:(pl&&pq n)
  · rfl
  · have hcl:pq n=true:=by revert hpc;cases pl<;>simp
    have hrg:(!decide (n.kind=23)&& !iy n.n 0 10000)=(decide (n.kind=0)&& !iy n.n 0 10000):=by
     unfold pq at hcl;simp only [Bool.and_eq_true]at hcl;have hx:=hcl.1.1.2;by_cases a:n.kind=0
     · simp [a]
     by_cases b:n.kind=23
     · simp [b]
     have hx:n.n=0:=by simpa [a,b]using hx
     simp [a,b,hx,iy]
    simp only [Bool.not_true,Bool.false_eq_true,if_false,Bool.true_eq_false,Kw,if_true,hrg];cases(decide (n.kind=0)&& !iy n.n 0 10000)
    · simp only [Bool.false_eq_true,if_false,if_true];split
      · rename_i h;exact h.symm
      · rfl
    · rfl
 rw [<-hval];refine Ev.cg fin fun k=> ?_;cases pl
 · simp only [cond_false];by_cases hl:n.kind=23
   · simp only [hl];rfl
   · rw [oQ (beq_eq_false_iff_ne.2 hl)];simp only [hl,decide_false,Bool.not_false,Bool.true_and,Bool.false_and];rfl
 · simp only [cond_true];by_cases hl:n.kind=23
   · simp only [hl];rfl
   · rw [oQ (beq_eq_false_iff_ne.2 hl)];simp only [hl,decide_false,Bool.not_false,Bool.true_and];rfl
theorem Po {e:List Nd} (hL:pO e): ∀i,i<=e.length-> ∀acc,qL e i acc->Ev (fun k=>jP k e acc (e.length:Int) (i:Int)) (oh acc (e.drop i)):=by
 have hlen:=hL.len;refine down (fun acc h=> ?_) (fun i hi ih acc h=> ?_)
 · refine Ev.succ ?_;simp only [jP];exact Ev.cF (iT _) (Ev.some' (by simp [oh]))
 · refine Ev.succ ?_;obtain⟨h1,h2,h3⟩:=hL.nd i _ (bG hi);simp only [jP];refine Ev.cT (iY hi) (Ev.bind (ab6 h (by omega) (bG hi) h1 h2 h3) ?_);rw [drop_cons hi,oh,h.len];by_cases hc:dM (tL acc i e[i].args.reverse) e[i]=0
   · refine Ev.cF (by rw [hc];rfl) ?_;have agV:=h.len;have hp:=yR hc;have hok:=h.succ (bG hi) hp;refine Ev.lZ (by omega) (Ev.nD (x:=zx acc e[i]) ?_ (Ev.lZ (nn i) (Ev.nD (x:=0) ?_ ?_)))
     · unfold O1 zx;simp only [Int.toNat_natCast,bG hi,Option.bind_some,nn,if_true];cases hargs:e[i].args with
       |nil=>simp [agV]
       |cons a l=>
        have ha:=W9 h _ i (Nat.le_refl _) hp a (by rw [hargs];simp);obtain⟨n',b,h4,h5,_⟩:=h.at_ a.toNat (by omega);rw [oQ (by rw [beq_eq_false_iff_ne,List.length_cons];omega),List.getElem?_cons_zero,Option.bind_some,if_pos ha.1,List.getElem?_append_left (by omega),h5];simp only [h5,Option.getD_some,Option.bind_some]
     · rw [Int.toNat_natCast,List.getElem?_append_right (by omega),agV,Nat.sub_self];rfl
     · have e1:(acc++[0]).set ((i:Int).toNat) (zx acc e[i])=acc++[zx acc e[i]]:=by
        rw [Int.toNat_natCast,List.set_append_right _ _ (by omega),agV,Nat.sub_self];rfl
       rw [e1,dW hi (by omega)];refine(ih _ hok).to ?_;simp only [hc,ne_eq,not_true_eq_false,if_false]
   · refine Ev.cT (by rw [bne_iff_ne];exact hc) (Ev.some' ?_);simp only [ne_eq,hc,not_false_eq_true,if_true]
inductive Tm where
 |mk (x:Nd) (cs:List Tm)
namespace Tm
mutual
def size:Tm->Nat
 | .mk _ cs=>sizes cs+1
def sizes:List Tm->Nat
 |[]=>0
 |c::cs=>size c+sizes cs
end
def roots:Nat->List Tm->List Int
 |_,[]=>[]
 |b,c::cs=>((b+c.size -1:Nat):Int)::roots (b+c.size) cs
def nd (x:Nd) (b:Nat) (cs:List Tm):Nd:={x with args:=roots b cs}
mutual
def flat (b:Nat):Tm->List Nd
 | .mk x cs=>bC b cs++[nd x b cs]
def bC (b:Nat):List Tm->List Nd
 |[]=>[]
 |c::cs=>flat b c++bC (b+c.size) cs
end
theorem lg {b:Nat} {x:Nd} {cs:List Tm}:flat b (.mk x cs)=bC b cs++[nd x b cs]:=by rw [flat]
theorem iF {b:Nat} {c:Tm} {cs:List Tm}:bC b (c::cs)=flat b c++bC (b+c.size) cs:=by rw [bC]
theorem size_pos: ∀t:Tm,0<t.size
 | .mk x cs=>by unfold size;omega
mutual
theorem dw (b:Nat): ∀t:Tm,(flat b t).length=t.size
 | .mk x cs=>by unfold flat size;rw [List.length_append,dG b cs];rfl
theorem dG (b:Nat): ∀cs:List Tm,(bC b cs).length=sizes cs
 |[]=>rfl
 |c::cs=>by unfold bC sizes;rw [List.length_append,dw b c,dG (b+c.size) cs]
end
theorem jE: ∀(b:Nat) (cs:List Tm),(roots b cs).length=cs.length
 |_,[]=>rfl
 |b,c::cs=>by unfold roots;rw [List.length_cons,List.length_cons,jE (b+c.size) cs]
theorem eF: ∀a b:List Tm,sizes (a++b)=sizes a+sizes b
 |[],b=>by simp [sizes]
 |c::a,b=>by simp only [List.cons_append,sizes,eF a b];omega
theorem qF: ∀(b:Nat) (l m:List Tm),bC b (l++m)=bC b l++bC (b+sizes l) m
 |b,[],m=>by simp [bC,sizes]
 |b,c::l,m=>by simp only [List.cons_append,bC,sizes,qF (b+c.size) l m,List.append_assoc,Nat.add_assoc]
theorem BR: ∀(b:Nat) (l m:List Tm),roots b (l++m)=roots b l++roots (b+sizes l) m
 |b,[],m=>by simp [roots,sizes]
 |b,c::l,m=>by simp only [List.cons_append,roots,sizes,BR (b+c.size) l m,Nat.add_assoc]
def Seg (e:List Nd) (b:Nat) (s:Tm):Prop:= ∃pre post,e=pre++(flat b s++post)/\pre.length=b
theorem Seg.whole (t:Tm):Seg (flat 0 t) 0 t:=⟨[],[],by simp,rfl⟩
theorem Seg.lt {e:List Nd} {b:Nat} {s:Tm} (h:Seg e b s):b+s.size<=e.length:=by
 obtain⟨pre,post,rfl,rfl⟩:=h;simp only [List.length_append,dw];omega
theorem Seg.node {e:List Nd} {b:Nat} {x:Nd} {cs:List Tm} (h:Seg e b (.mk x cs)):e[b+sizes cs]? =some (nd x b cs):=by
 obtain⟨pre,post,rfl,rfl⟩:=h;rw [List.getElem?_append_right (by omega),show pre.length+sizes cs -pre.length=sizes cs by omega];rw [lg,List.append_assoc,List.getElem?_append_right (by rw [dG];exact Nat.le_refl _),dG,Nat.sub_self];rfl
theorem Seg.kid {e:List Nd} {b:Nat} {x:Nd} {l m:List Tm} {c:Tm} (h:Seg e b (.mk x (l++c::m))):Seg e (b+sizes l) c:=by
 obtain⟨pre,post,rfl,rfl⟩:=h;refine⟨pre++bC pre.length l,bC (pre.length+sizes l+c.size) m++([nd x pre.length (l++c::m)]++post),?_,by rw [List.length_append,dG]⟩;rw [lg,qF,iF];simp only [List.append_assoc]
theorem IU {b:Nat} {l m:List Tm} {c:Tm}:(roots b (l++c::m))[l.length]? =some (((b+sizes l+c.size -1:Nat):Int)):=by
 rw [BR,List.getElem?_append_right (by rw [jE];exact Nat.le_refl _),jE,Nat.sub_self];rfl
end Tm
end Go.VL
end
section
namespace Go.VL
namespace Tm
mutual
def bgT (b:Nat):Tm->List Int
 | .mk _ cs=>rV b cs++[(b:Int)]
def rV (b:Nat):List Tm->List Int
 |[]=>[]
 |c::cs=>bgT b c++rV (b+c.size) cs
end
theorem ab7 {b:Nat} {x:Nd} {cs:List Tm}:bgT b (.mk x cs)=rV b cs++[(b:Int)]:=by rw [bgT]
mutual
theorem aff (b:Nat): ∀t:Tm,(bgT b t).length=t.size
 | .mk x cs=>by rw [ab7];unfold size;rw [List.length_append,xC b cs];rfl
theorem xC (b:Nat): ∀cs:List Tm,(rV b cs).length=sizes cs
 |[]=>rfl
 |c::cs=>by unfold rV sizes;rw [List.length_append,aff b c,xC (b+c.size) cs]
end
theorem y5: ∀(b:Nat) (l m:List Tm),rV b (l++m)=rV b l++rV (b+sizes l) m
 |b,[],m=>by simp [rV,sizes]
 |b,c::l,m=>by simp only [List.cons_append,rV,sizes,y5 (b+c.size) l m,List.append_assoc,Nat.add_assoc]
theorem ali {b:Nat} {t:Tm}:(bgT b t)[t.size -1]? =some (b:Int):=by
 cases t with
 |mk x cs=>
  rw [ab7];have:(mk x cs).size -1=sizes cs:=by unfold size;omega
  rw [this,List.getElem?_append_right (by rw [xC];exact Nat.le_refl _),xC,Nat.sub_self];rfl
theorem rE (t:Tm):sizes [t]=t.size:=by simp [sizes]
theorem xD (b:Nat) (t:Tm):bC b [t]=flat b t:=by simp [bC]
theorem alj (b:Nat) (t:Tm):rV b [t]=bgT b t:=by simp [rV]
theorem Yr (b:Nat) (t:Tm):roots b [t]=[((b+t.size -1:Nat):Int)]:=by simp [roots]
theorem Xv {b:Nat} {l m:List Tm} {t:Tm}:(rV b (l++t::m))[sizes l+t.size -1]? =some ((b+sizes l:Nat):Int):=by
 have hp:=t.size_pos;rw [y5,List.getElem?_append_right (by rw [xC];omega),xC];unfold rV;rw [List.getElem?_append_left (by rw [aff];omega),show sizes l+t.size -1 -sizes l=t.size -1 by omega,ali]
theorem ab8 {ts:List Tm} {acc:List Int} (ha:acc=rV 0 ts): ∀(l:List Int) (t1 rest:List Tm),ts=t1++rest->tL acc ((sizes t1:Nat):Int) l=true-> ∃front mid,t1=front++mid/\l.reverse=roots (sizes front) mid
 |[],t1,rest,_,_=>⟨t1,[],by simp,by simp [roots]⟩
 |a::l,t1,rest,hts,hp=>by
  rw [tL,Bool.and_eq_true,Bool.and_eq_true,decide_eq_true_eq,decide_eq_true_eq]at hp;obtain⟨⟨h1,h2⟩,h3⟩:=hp;rcases List.eq_nil_or_concat t1 with rfl|⟨t2,t,rfl⟩
  · simp [sizes]at h2
  rw [List.concat_eq_append]at*;have hpos:=t.size_pos;have hsz:sizes (t2++[t])=sizes t2+t.size:=by rw [eF,rE]
  have hget:acc[(((sizes (t2++[t]):Nat):Int) -1).toNat]? =some ((sizes t2:Nat):Int):=by
   rw [ha,hts,List.append_assoc,hsz,show((((sizes t2+t.size:Nat):Int) -1).toNat)=sizes t2+t.size -1 by omega];have:=Xv (b:=0) (l:=t2) (m:=rest) (t:=t);rw [Nat.zero_add]at this;exact this
  rw [hget,Option.getD_some]at h3;obtain⟨front,mid,e1,e2⟩:=ab8 ha l t2 ([t]++rest) (by rw [hts,List.append_assoc]) h3;refine⟨front,mid++[t],by rw [e1,List.append_assoc],?_⟩;rw [List.reverse_cons,e2,BR,Yr];congr 2;rw [h1,hsz,e1,eF];omega
def bare (n:Nd):Nd:={n with args:=[]}
theorem ap0 {n:Nd} {b:Nat} {cs:List Tm} (h:n.args=roots b cs):nd (bare n) b cs=n:=by
 unfold nd bare;cases n;simp only at h⊢;rw [h]
theorem row_step {ts:List Tm} {acc:List Int} {n:Nd} (ha:acc=rV 0 ts) (hp:tL acc (acc.length:Int) n.args.reverse=true):
 ∃front last,ts=front++last/\n.args=roots (sizes front) last/\bC 0 (front++[.mk (bare n) last])=bC 0 ts++[n]/\rV 0 (front++[.mk (bare n) last])=acc++[zx acc n]:=by
 have hl:acc.length=sizes ts:=by rw [ha,xC]
 rw [hl]at hp;obtain⟨front,last,e1,e2⟩:=ab8 ha n.args.reverse ts [] (by simp) hp;rw [List.reverse_reverse]at e2;refine⟨front,last,e1,e2,?_,?_⟩
 · rw [qF,xD,lg,ap0 (by rw [Nat.zero_add];exact e2),e1,qF,List.append_assoc]
 · rw [y5,alj,ab7,ha,e1,y5,List.append_assoc];congr 3;rw [Nat.zero_add];unfold zx;rw [e2];cases last with
   |nil=>simp [roots,rV,xC]
   |cons c cs=>
    simp only [roots];have h1:=Xv (b:=0) (l:=front) (m:=cs) (t:=c);rw [Nat.zero_add,y5,Nat.zero_add]at h1;rw [Int.toNat_natCast,h1,Option.getD_some]
mutual
def BS (b:Nat) (p k:Int):Tm->List (Int×Int)
 | .mk _ cs=>iO b ((b+sizes cs:Nat):Int) 0 cs++[(p,k)]
def iO (b:Nat) (p:Int) (k:Nat):List Tm->List (Int×Int)
 |[]=>[]
 |c::cs=>BS b p k c++iO (b+c.size) p (k+1) cs
end
def bM (b:Nat):List Tm->List (Int×Int)
 |[]=>[]
 |c::cs=>BS b (-1) 0 c++bM (b+c.size) cs
theorem zV {b:Nat} {p k:Int} {x:Nd} {cs:List Tm}:BS b p k (.mk x cs)=iO b ((b+sizes cs:Nat):Int) 0 cs++[(p,k)]:=by rw [BS]
mutual
theorem jk (b:Nat) (p k:Int): ∀t:Tm,(BS b p k t).length=t.size
 | .mk x cs=>by rw [zV];unfold size;rw [List.length_append,jY];rfl
theorem jY (b:Nat) (p:Int) (k:Nat): ∀cs:List Tm,(iO b p k cs).length=sizes cs
 |[]=>rfl
 |c::cs=>by unfold iO sizes;rw [List.length_append,jk b p k c,jY (b+c.size) p (k+1) cs]
end
theorem xE: ∀(b:Nat) (cs:List Tm),(bM b cs).length=sizes cs
 |_,[]=>rfl
 |b,c::cs=>by unfold bM sizes;rw [List.length_append,jk,xE (b+c.size) cs]
theorem GN: ∀(b:Nat) (l m:List Tm),bM b (l++m)=bM b l++bM (b+sizes l) m
 |b,[],m=>by simp [bM,sizes]
 |b,c::l,m=>by simp only [List.cons_append,bM,sizes,GN (b+c.size) l m,List.append_assoc,Nat.add_assoc]
theorem Yt (b:Nat) (t:Tm):bM b [t]=BS b (-1) 0 t:=by simp [bM]
theorem Yu: ∀(b:Nat) (p:Int) (k:Nat) (cs:List Tm) (j:Nat) (a:Int),(roots b cs)[j]? =some a-> ∃r:Nat,a=((b+r:Nat):Int)/\r<sizes cs/\(iO b p k cs)[r]? =some (p,((k+j:Nat):Int))
 |b,p,k,[],j,a,h=>by simp [roots]at h
 |b,p,k,c::cs,j,a,h=>by
  have hpos:=c.size_pos;cases j with
  |zero=>
   simp only [roots,List.getElem?_cons_zero,Option.some.injEq]at h;refine⟨c.size -1,by rw [<-h];congr 1;omega,by simp only [sizes];omega,?_⟩;unfold iO;rw [List.getElem?_append_left (by rw [jk];omega)];cases c with
   |mk x ds=>
    rw [zV,show(mk x ds).size -1=sizes ds by unfold size;omega,List.getElem?_append_right (by rw [jY];exact Nat.le_refl _),jY,Nat.sub_self];rfl
  |succ j=>
   simp only [roots,List.getElem?_cons_succ]at h;obtain⟨r,h1,h2,h3⟩:=Yu (b+c.size) p (k+1) cs j a h;refine⟨c.size+r,by rw [h1,Nat.add_assoc],by simp only [sizes];omega,?_⟩;unfold iO;rw [List.getElem?_append_right (by rw [jk];omega),jk,show c.size+r -c.size=r by omega,h3];congr 3;omega
mutual
theorem afg: ∀(b:Nat) (p k:Int) (t:Tm) (q:Nat) (n:Nd) (j:Nat) (a:Int),(flat b t)[q]? =some n->n.args[j]? =some a-> ∃r:Nat,a=((b+r:Nat):Int)/\r<q/\(BS b p k t)[r]? =some (((b+q:Nat):Int),(j:Int))
 |b,p,k,.mk x cs,q,n,j,a,h1,h2=>by
  rw [lg]at h1;rw [zV];by_cases hq:q<sizes cs
  · rw [List.getElem?_append_left (by rw [dG];exact hq)]at h1;obtain⟨r,h3,h4,h5⟩:=ab9 b ((b+sizes cs:Nat):Int) 0 cs q n j a h1 h2;exact⟨r,h3,h4,by rw [List.getElem?_append_left (by rw [jY];omega)];exact h5⟩
  · have hlt:=(List.getElem?_eq_some_iff.1 h1).1;rw [List.length_append,dG]at hlt;obtain rfl:q=sizes cs:=by simp at hlt;omega
    rw [List.getElem?_append_right (by rw [dG];exact Nat.le_refl _),dG,Nat.sub_self,List.getElem?_cons_zero,Option.some.injEq]at h1;subst h1;obtain⟨r,h3,h4,h5⟩:=Yu b ((b+sizes cs:Nat):Int) 0 cs j a h2;refine⟨r,h3,h4,?_⟩;rw [List.getElem?_append_left (by rw [jY];exact h4),h5,Nat.zero_add]
theorem ab9: ∀(b:Nat) (p:Int) (k:Nat) (cs:List Tm) (q:Nat) (n:Nd) (j:Nat) (a:Int),(bC b cs)[q]? =some n->n.args[j]? =some a-> ∃r:Nat,a=((b+r:Nat):Int)/\r<q/\(iO b p k cs)[r]? =some (((b+q:Nat):Int),(j:Int))
 |b,p,k,[],q,n,j,a,h1,h2=>by simp [bC]at h1
 |b,p,k,c::cs,q,n,j,a,h1,h2=>by
  rw [iF]at h1;unfold iO;by_cases hq:q<c.size
  · rw [List.getElem?_append_left (by rw [dw];exact hq)]at h1;obtain⟨r,h3,h4,h5⟩:=afg b p k c q n j a h1 h2;exact⟨r,h3,h4,by rw [List.getElem?_append_left (by rw [jk];omega)];exact h5⟩
  · rw [List.getElem?_append_right (by rw [dw];omega),dw]at h1;obtain⟨r,h3,h4,h5⟩:=ab9 (b+c.size) p (k+1) cs (q -c.size) n j a h1 h2;refine⟨c.size+r,by rw [h3,Nat.add_assoc],by omega,?_⟩;rw [List.getElem?_append_right (by rw [jk];omega),jk,show c.size+r -c.size=r by omega,h5];congr 3;omega
end
theorem Td: ∀(b:Nat) (cs:List Tm) (q:Nat) (n:Nd) (j:Nat) (a:Int),(bC b cs)[q]? =some n->n.args[j]? =some a-> ∃r:Nat,a=((b+r:Nat):Int)/\r<q/\(bM b cs)[r]? =some (((b+q:Nat):Int),(j:Int))
 |b,[],q,n,j,a,h1,h2=>by simp [bC]at h1
 |b,c::cs,q,n,j,a,h1,h2=>by
  rw [iF]at h1;unfold bM;by_cases hq:q<c.size
  · rw [List.getElem?_append_left (by rw [dw];exact hq)]at h1;obtain⟨r,h3,h4,h5⟩:=afg b (-1) 0 c q n j a h1 h2;exact⟨r,h3,h4,by rw [List.getElem?_append_left (by rw [jk];omega)];exact h5⟩
  · rw [List.getElem?_append_right (by rw [dw];omega),dw]at h1;obtain⟨r,h3,h4,h5⟩:=Td (b+c.size) cs (q -c.size) n j a h1 h2;refine⟨c.size+r,by rw [h3,Nat.add_assoc],by omega,?_⟩;rw [List.getElem?_append_right (by rw [jk];omega),jk,show c.size+r -c.size=r by omega,h5];congr 3;omega
def Says (b:Nat) (l:List Nd) (r:Nat) (P j:Int):Prop:= ∃(q j':Nat) (n:Nd),P=((b+q:Nat):Int)/\j=(j':Int)/\r<q/\l[q]? =some n/\n.args[j']? =some ((b+r:Nat):Int)
theorem Od {b:Nat} {l m:List Nd} {r:Nat} {P j:Int} (h:Says b l r P j):Says b (l++m) r P j:=by
 obtain⟨q,j',n,h1,h2,h3,h4,h5⟩:=h;exact⟨q,j',n,h1,h2,h3,by rw [List.getElem?_append_left (List.getElem?_eq_some_iff.1 h4).1];exact h4,h5⟩
theorem UN {b:Nat} {l m:List Nd} {r:Nat} {P j:Int} (h:Says (b+l.length) m r P j):Says b (l++m) (l.length+r) P j:=by
 obtain⟨q,j',n,h1,h2,h3,h4,h5⟩:=h;exact⟨l.length+q,j',n,by rw [h1,Nat.add_assoc],h2,by omega,by rw [List.getElem?_append_right (by omega),show l.length+q -l.length=q by omega];exact h4,by rw [h5,Nat.add_assoc]⟩
theorem agW: ∀(b:Nat) (cs:List Tm) (k:Nat) (c:Tm) (l m:List Tm),cs=l++c::m->(roots b cs)[l.length]? =some ((b+(sizes l+c.size -1):Nat):Int):=by
 intro b cs k c l m h;have hp:=c.size_pos;rw [h,IU];congr 2;omega
mutual
theorem Yv: ∀(b:Nat) (p k:Int) (t:Tm) (r:Nat) (P j:Int),(BS b p k t)[r]? =some (P,j)->(r=t.size -1/\P=p/\j=k)\/Says b (flat b t) r P j
 |b,p,k,.mk x cs,r,P,j,h=>by
  rw [zV]at h;by_cases hr:r<sizes cs
  · rw [List.getElem?_append_left (by rw [jY];exact hr)]at h;rw [lg];rcases UO b ((b+sizes cs:Nat):Int) 0 cs r P j h with⟨l,c,m,e1,e2,e3,e4⟩|hs
    · right;refine⟨sizes cs,l.length,nd x b cs,e3,by rw [e4,Nat.zero_add],hr,?_,?_⟩
      · rw [List.getElem?_append_right (by rw [dG];exact Nat.le_refl _),dG,Nat.sub_self];rfl
      · show(roots b cs)[l.length]? =_
        rw [agW b cs 0 c l m e1,e2]
    · exact .inr (Od hs)
  · have hlt:=(List.getElem?_eq_some_iff.1 h).1;rw [List.length_append,jY]at hlt;obtain rfl:r=sizes cs:=by simp at hlt;omega
    rw [List.getElem?_append_right (by rw [jY];exact Nat.le_refl _),jY,Nat.sub_self,List.getElem?_cons_zero]at h;cases h;left;exact⟨by unfold size;omega,rfl,rfl⟩
theorem UO: ∀(b:Nat) (p:Int) (k:Nat) (cs:List Tm) (r:Nat) (P j:Int),(iO b p k cs)[r]? =some (P,j)->
 (∃l c m,cs=l++c::m/\r=sizes l+c.size -1/\P=p/\j=((k+l.length:Nat):Int))\/Says b (bC b cs) r P j
 |b,p,k,[],r,P,j,h=>by simp [iO]at h
 |b,p,k,c::cs,r,P,j,h=>by
  unfold iO at h;rw [iF];by_cases hr:r<c.size
  · rw [List.getElem?_append_left (by rw [jk];exact hr)]at h;rcases Yv b p k c r P j h with⟨e1,e2,e3⟩|hs
    · exact .inl ⟨[],c,cs,rfl,by simp [sizes,e1],e2,by simp [e3]⟩
    · exact .inr (Od hs)
  · rw [List.getElem?_append_right (by rw [jk];omega),jk]at h;rcases UO (b+c.size) p (k+1) cs (r -c.size) P j h with⟨l,d,m,e1,e2,e3,e4⟩|hs
    · refine .inl ⟨c::l,d,m,by rw [e1];rfl,?_,e3,by rw [e4,List.length_cons];omega⟩;have:=d.size_pos;simp only [sizes];omega
    · right;have h2:Says (b+(flat b c).length) (bC (b+c.size) cs) (r -c.size) P j:=by rw [dw];exact hs
      have:=UN h2;rw [dw,show c.size+(r -c.size)=r by omega]at this;exact this
end
theorem Lj: ∀(b:Nat) (cs:List Tm) (r:Nat) (P j:Int),(bM b cs)[r]? =some (P,j)->(P= -1/\j=0)\/Says b (bC b cs) r P j
 |b,[],r,P,j,h=>by simp [bM]at h
 |b,c::cs,r,P,j,h=>by
  unfold bM at h;rw [iF];by_cases hr:r<c.size
  · rw [List.getElem?_append_left (by rw [jk];exact hr)]at h;rcases Yv b (-1) 0 c r P j h with⟨e1,e2,e3⟩|hs
    · exact .inl ⟨e2,e3⟩
    · exact .inr (Od hs)
  · rw [List.getElem?_append_right (by rw [jk];omega),jk]at h;rcases Lj (b+c.size) cs (r -c.size) P j h with hs|hs
    · exact .inl hs
    · right;have h2:Says (b+(flat b c).length) (bC (b+c.size) cs) (r -c.size) P j:=by rw [dw];exact hs
      have:=UN h2;rw [dw,show c.size+(r -c.size)=r by omega]at this;exact this
end Tm
end Go.VL
end
section
namespace Go.VL
open Tm
theorem afh: ∀(l:List Nd) (acc acc':List Int),oh acc l= .inl acc'-> ∀(i:Nat) n,l[i]? =some n->dM true n=0
 |[],_,_,_,i,n,hn=>by simp at hn
 |m::l,acc,acc',h,i,n,hn=>by
  rw [oh]at h;by_cases hc:dM (tL acc acc.length m.args.reverse) m=0
  · rw [if_neg (fun k=>k hc)]at h;cases i with
    |zero=>
     simp only [List.getElem?_cons_zero,Option.some.injEq]at hn;subst hn;rw [yR hc]at hc;exact hc
    |succ i=>exact afh l _ acc' h i n (by simpa using hn)
  · rw [if_pos hc]at h;cases h
def Kz (a:Int):List Int->Nat->Option Nat
 |[],_=>none
 |x::l,j=>if x=a then some j else Kz a l (j+1)
def Jw (a:Int):List Nd->Nat->Option (Nat×Nat)
 |[],_=>none
 |n::l,k=>match Kz a n.args 0 with
  |some j=>some (k,j)
  |none=>Jw a l (k+1)
theorem acd {a:Int}: ∀{l:List Int} {j j':Nat},Kz a l j=some j'-> ∃d,j'=j+d/\l[d]? =some a
 |[],j,j',h=>by simp [Kz]at h
 |x::l,j,j',h=>by
  rw [Kz]at h;by_cases hx:x=a
  · rw [if_pos hx]at h;cases h;exact⟨0,rfl,by simp [hx]⟩
  · rw [if_neg hx]at h;obtain⟨d,e1,e2⟩:=acd h;exact⟨d+1,by omega,by simpa using e2⟩
theorem ace {a:Int}: ∀{l:List Int} {j:Nat},Kz a l j=none-> ∀d:Nat,l[d]? ≠some a
 |[],j,h,d=>by simp
 |x::l,j,h,d=>by
  rw [Kz]at h;by_cases hx:x=a
  · rw [if_pos hx]at h;cases h
  · rw [if_neg hx]at h;cases d with
    |zero=>simpa using hx
    |succ d=>simpa using ace h d
theorem Yw {a:Int}: ∀{l:List Nd} {k k' j:Nat},Jw a l k=some (k',j)-> ∃d n,k'=k+d/\l[d]? =some n/\n.args[j]? =some a
 |[],k,k',j,h=>by simp [Jw]at h
 |n::l,k,k',j,h=>by
  rw [Jw]at h;cases hf:Kz a n.args 0 with
  |some j'=>
   rw [hf]at h;cases h;obtain⟨d,e1,e2⟩:=acd hf;exact⟨0,n,rfl,rfl,by rw [e1,Nat.zero_add];exact e2⟩
  |none=>
   rw [hf]at h;obtain⟨d,m,e1,e2,e3⟩:=Yw h;exact⟨d+1,m,by omega,by simpa using e2,e3⟩
theorem Yx {a:Int}: ∀{l:List Nd} {k:Nat},Jw a l k=none-> ∀(d:Nat) n (j:Nat),l[d]? =some n->n.args[j]? ≠some a
 |[],k,h,d,n,j,hn=>by simp at hn
 |m::l,k,h,d,n,j,hn=>by
  rw [Jw]at h;cases hf:Kz a m.args 0 with
  |some j'=>rw [hf]at h;cases h
  |none=>
   rw [hf]at h;cases d with
   |zero=>simp only [List.getElem?_cons_zero,Option.some.injEq]at hn;subst hn;exact ace hf j
   |succ d=>exact Yx h d n j (by simpa using hn)
theorem Xw {e:List Nd} {k:Nat} {n:Nd} (hn:e[k]? =some n) (hl:n.args.length<=1000000) (a:Int): ∀j,j<=n.args.length->Ev (fun f=>qg f e a (k:Int) (j:Int)) (match Kz a (n.args.drop j) j with|some j'=> .inr ((k:Int),(j':Int))|none=> .inl ()):=by
 refine down ?_ fun j hj ih=> ?_
 · refine Ev.succ ?_;simp only [qg,Int.toNat_natCast,hn,Option.bind_some,nn,if_true];exact Ev.cF (iT _) (Ev.some' (by simp [Kz]))
 · refine Ev.succ ?_;simp only [qg,Int.toNat_natCast,hn,bG hj,Option.bind_some,nn,if_true,iY hj,cond_true,dW hj (show n.args.length<=1099511627776 by omega)];rw [drop_cons hj,Kz];by_cases h:n.args[j]=a
   · refine Ev.cT (by rw [beq_iff_eq];exact h) (Ev.some' ?_);rw [if_pos h]
   · refine Ev.cF (by rw [beq_eq_false_iff_ne];exact h) ?_;rw [if_neg h];exact ih
theorem Xx {e:List Nd} (hL:pO e) (a:Int): ∀k,k<=e.length->Ev (fun f=>qh f e a (k:Int)) (match Jw a (e.drop k) k with|some (k',j)=> .inr ((k':Int),(j:Int))|none=> .inl ()):=by
 have hlen:=hL.len;refine down ?_ fun k hk ih=> ?_
 · refine Ev.succ ?_;simp only [qh];exact Ev.cF (iT _) (Ev.some' (by simp [Jw]))
 · refine Ev.succ ?_;simp only [qh];rw [dW hk (by omega)];have h0:=Xw (bG hk) (hL.nd k _ (bG hk)).2.2 a 0 (Nat.zero_le _);rw [List.drop_zero]at h0;refine Ev.cT (iY hk) (Ev.bind h0 ?_);rw [drop_cons hk,Jw];cases Kz a e[k].args 0 with
   |some j=>simp only [bL];exact Ev.some
   |none=>simp only [bI];exact ih
theorem Dw {ts:List Tm} {e:List Nd} (he:e=bC 0 ts) (hL:pO e) {i:Nat} {P j:Int} (hi:i<e.length) (hp:(bM 0 ts)[i]? =some (P,j)):Ev (fun k=>uj k e (i:Int)) (P,j):=by
 have hlen:=hL.len;unfold uj;rw [dW hi (by omega)];refine Ev.bind (Xx hL (i:Int) (i+1) (by omega)) ?_;cases hf:Jw (i:Int) (e.drop (i+1)) (i+1)with
 |some q=>
  obtain⟨k',j'⟩:=q;obtain⟨d,n,e1,e2,e3⟩:=Yw hf;rw [List.getElem?_drop]at e2;rw [he]at e2;obtain⟨r,h1,h2,h3⟩:=Td 0 ts (i+1+d) n j' (i:Int) e2 e3;obtain rfl:r=i:=by omega
  rw [hp]at h3;cases h3;simp only [bL];exact Ev.some' (by rw [e1,Nat.zero_add])
 |none=>
  simp only [bI];rcases Lj 0 ts i P j hp with⟨rfl,rfl⟩|⟨q,j',n,h1,h2,h3,h4,h5⟩
  · exact Ev.some
  · exfalso;rw [<-he]at h4;have:=Yx hf (q -(i+1)) n j' (by rw [List.getElem?_drop,show i+1+(q -(i+1))=q by omega];exact h4);rw [Nat.zero_add]at h5;exact this h5
theorem ai7 {b:Nat} {p k p' k':Int} (t:Tm):(BS b p k t).set (t.size -1) (p',k')=BS b p' k' t:=by
 cases t with
 |mk x cs=>
  rw [zV,zV,show(mk x cs).size -1=sizes cs by unfold size;omega,List.set_append_right _ _ (by rw [jY];exact Nat.le_refl _),jY,Nat.sub_self];rfl
theorem UQ {i:Nat} {args:List Int} (hl:args.length<=1000000) (A B:List (Int×Int)) (last:List Tm) (ha:args=roots A.length last):
 ∀(rest:List Tm) (done:List Tm),last=done++rest->Ev (fun k=>nQ k ((A++iO A.length (i:Int) 0 done++bM (A.length+sizes done) rest++B).map Prod.fst) ((A++iO A.length (i:Int) 0 done++bM (A.length+sizes done) rest++B).map Prod.snd) (i:Int) args (args.length:Int) (done.length:Int))
   ((A++iO A.length (i:Int) 0 last++B).map Prod.fst,(A++iO A.length (i:Int) 0 last++B).map Prod.snd):=by
 intro rest
 induction rest with
 |nil=>
  intro done hd;rw [List.append_nil]at hd;subst hd;refine Ev.succ ?_;simp only [nQ];have:args.length=last.length:=by rw [ha,jE]
  rw [this];exact Ev.cF (iT _) (Ev.some' (by simp [bM]))
 |cons c rest ih=>
  intro done hd;have hpos:=c.size_pos;have hal:args.length=last.length:=by rw [ha,jE]
  have hdl:done.length<args.length:=by rw [hal,hd];simp
  have hget:args[done.length]? =some ((A.length+sizes done+c.size -1:Nat):Int):=by rw [ha,hd];exact IU
  refine Ev.succ ?_;simp only [nQ,Int.toNat_natCast,hget,Option.bind_some,nn,if_true,dW hdl (show args.length<=1099511627776 by omega)];refine Ev.cT (iY hdl) ?_;have hL:(A++iO A.length (i:Int) 0 done).length=A.length+sizes done:=by rw [List.length_append,jY]
  have hset:(A++iO A.length (i:Int) 0 done++bM (A.length+sizes done) (c::rest)++B).set (A.length+sizes done+c.size -1) ((i:Int),(done.length:Int))=A++iO A.length (i:Int) 0 (done++[c])++bM (A.length+sizes (done++[c])) rest++B:=by
   have e1:iO A.length (i:Int) 0 (done++[c])=iO A.length (i:Int) 0 done++BS (A.length+sizes done) (i:Int) (done.length:Int) c:=by
    have gen: ∀(d:List Tm) (b k:Nat),iO b (i:Int) k (d++[c])=iO b (i:Int) k d++BS (b+sizes d) (i:Int) ((k+d.length:Nat):Int) c:=by
     intro d
     induction d with
     |nil=>intro b k;simp [iO,sizes]
     |cons x d ih=>
      intro b k;simp only [List.cons_append,iO,ih,List.append_assoc,sizes,Nat.add_assoc,List.length_cons];congr 4;omega
    rw [gen,Nat.zero_add]
   rw [e1,eF,rE];show(A++iO A.length (i:Int) 0 done++(BS (A.length+sizes done) (-1) 0 c++bM (A.length+sizes done+c.size) rest)++B).set _ _=_;rw [List.append_assoc,List.set_append_right _ _ (by rw [hL];omega),hL,show A.length+sizes done+c.size -1 -(A.length+sizes done)=c.size -1 by omega];rw [List.append_assoc (BS (A.length+sizes done) (-1) 0 c),List.set_append_left _ _ (by rw [jk];omega),ai7];simp only [List.append_assoc,Nat.add_assoc]
  have hin:A.length+sizes done+c.size -1<(A++iO A.length (i:Int) 0 done++bM (A.length+sizes done) (c::rest)++B).length:=by
   rw [List.length_append,List.length_append,hL,xE];simp only [sizes];omega
  rw [List.getElem?_map,List.getElem?_map,bG hin];simp only [Option.map_some,Option.bind_some];have:=ih (done++[c]) (by rw [hd,List.append_assoc];rfl);rw [<-hset,List.map_set,List.map_set]at this;rw [List.length_append]at this;exact this
theorem UR {e:List Nd} (hL:pO e): ∀(l:List Nd) (acc:List Int) (ts:List Tm) (acc':List Int) (i:Nat),acc=rV 0 ts->sizes ts=i->l=e.drop i->i<=e.length->oh acc l= .inl acc'->
 ∃ts',bC 0 ts'=bC 0 ts++l/\acc'=rV 0 ts'/\Ev (fun k=>nR k ((bM 0 ts++List.replicate (e.length -i) ((-1:Int),(0:Int))).map Prod.fst) ((bM 0 ts++List.replicate (e.length -i) ((-1:Int),(0:Int))).map Prod.snd) e (e.length:Int) (i:Int)) ((bM 0 ts').map Prod.fst,(bM 0 ts').map Prod.snd):=by
 have hlen:=hL.len;intro l
 induction l with
 |nil=>
  intro acc ts acc' i ha hs hl hi h;have:e.length<=i:=by
   have:=congrArg List.length hl;rw [List.length_drop,List.length_nil]at this;omega
  obtain rfl:i=e.length:=by omega
  refine⟨ts,by simp,by rw [oh]at h;cases h;exact ha,Ev.succ ?_⟩;simp only [nR];exact Ev.cF (iT _) (Ev.some' (by simp))
 |cons n l ih=>
  intro acc ts acc' i ha hs hl hi h;have hlt:i<e.length:=by
   have:=congrArg List.length hl;rw [List.length_drop,List.length_cons]at this;omega
  rw [drop_cons hlt]at hl;obtain⟨rfl,rfl⟩:=List.cons.inj hl;rw [oh]at h;have hc:dM (tL acc acc.length e[i].args.reverse) e[i]=0:=by
   by_cases hc:dM (tL acc acc.length e[i].args.reverse) e[i]=0
   · exact hc
   · rw [if_pos hc]at h;cases h
  rw [if_neg (fun k=>k hc)]at h;obtain⟨front,last,e1,e2,e3,e4⟩:=row_step ha (yR hc);have hsz:sizes (front++[.mk (bare e[i]) last])=i+1:=by
   rw [eF,rE];unfold size;rw [<-hs,e1,eF];omega
  obtain⟨ts',h1,hb,h2⟩:=ih _ _ acc' (i+1) e4.symm hsz rfl hlt h;refine⟨ts',by rw [h1,e3,List.append_assoc];rfl,hb,Ev.succ ?_⟩;simp only [nR,Int.toNat_natCast,bG hlt,Option.bind_some,nn,if_true];rw [dW hlt (by omega)];refine Ev.cT (iY hlt) ?_;have hrep:List.replicate (e.length -i) ((-1:Int),(0:Int))=((-1:Int),(0:Int))::List.replicate (e.length -(i+1)) ((-1:Int),(0:Int)):=by
   rw [show e.length -i=(e.length -(i+1))+1 by omega,List.replicate_succ]
  have hA:(bM 0 front).length=sizes front:=xE 0 front;have key:=UQ (i:=i) (args:=e[i].args) (hL.nd i _ (bG hlt)).2.2 (bM 0 front) (List.replicate (e.length -i) ((-1:Int),(0:Int))) last (by rw [hA];exact e2) last [] rfl;have hstart:bM 0 front++iO (bM 0 front).length (i:Int) 0 []++bM ((bM 0 front).length+sizes []) last++List.replicate (e.length -i) ((-1:Int),(0:Int))=bM 0 ts++List.replicate (e.length -i) ((-1:Int),(0:Int)):=by
   rw [hA,e1,GN];simp [iO,sizes]
  rw [hstart]at key;refine Ev.bind key ?_;have hend:bM 0 front++iO (bM 0 front).length (i:Int) 0 last++List.replicate (e.length -i) ((-1:Int),(0:Int))=bM 0 (front++[.mk (bare e[i]) last])++List.replicate (e.length -(i+1)) ((-1:Int),(0:Int)):=by
   rw [hA,GN,Yt,zV,hrep];have:sizes front+sizes last=i:=by rw [<-eF,<-e1,hs]
   simp [this]
  rw [hend];exact h2
end Go.VL
end
