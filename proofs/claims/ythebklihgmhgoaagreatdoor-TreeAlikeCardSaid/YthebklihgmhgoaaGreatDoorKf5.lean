/- Part 5 of the proof: what the theorem rests on. -/
import Derived.Test.YthebklihgmhgoaaGreatDoorKf4
import Derived.Laws.RangeAny
import Derived.IntWalk
import Derived.Test.YthebklihgmhgoaaGreatDoorRows
import Derived.RangeFuncOwn
import Derived.TacticsIn
import Derived.TacticsInMore
import Derived.LoopIn
import Derived.Walk
import Derived.WalkKit
import Derived.KernelRfl
set_option linter.unusedVariables false
set_option linter.unusedSectionVars false
set_option linter.unusedSimpArgs false
section
set_option maxRecDepth 8000
set_option maxHeartbeats 4000000
namespace Go.VL
open Go.Proofs
def xu:Nat->Str->Int->Int->Int->Int->Option ((Int×Int))
  |0,_,_,_,_,_=>none
  |k+1,s_0,Vr,sO,rU,kJ=>
    cond (decide (kJ<(s_0.length:Int))) (if 0<=kJ then Option.bind (s_0[kJ.toNat]?) fun x3=>if 0<=(x3.toNat:Int)/\(x3.toNat:Int)<256 then Option.bind (y8[x3.toNat]?) fun x6=>xu k s_0 (IntKind.wrap .i64 (Vr+(IntKind.wrap .i64 ((BitVec.ofInt (IntKind.bits .i64) sO&&&BitVec.ofInt (IntKind.bits .i64) (IntKind.wrap .i64 ((BitVec.ofInt (IntKind.bits .i64) (if IntKind.signed .i64=true then -1 else IntKind.max .i64)^^^BitVec.ofInt (IntKind.bits .i64) (IntKind.wrap .i64 x6)).toNat))).toNat)))) (IntKind.wrap .i64 x6) (IntKind.wrap .u8 ((BitVec.ofInt (IntKind.bits .u8) rU|||BitVec.ofInt (IntKind.bits .u8) (x3.toNat:Int)).toNat)) (IntKind.wrap .i64 (kJ+1))else none else none) (some ((Vr,rU)))
def KQ:List Nat:=[3,4,5,6,7,8]++List.range' 13 23
theorem WA: ∀(k:Nat) (s_0:Str) (Vr:Int) (sO:Int) (rU:Int) (kJ:Int) (aC σ:Nat->PV) (H:AH) (f0:Fr KQ aC σ) (sl:σ 0=(.str s_0)/\σ 3=(.int .i64 Vr)/\σ 4=(.int .i64 sO)/\σ 5=(.int .u8 rU)/\σ 6=(.int .i64 kJ)) (o:(Int×Int)) (h:xu k s_0 Vr sO rU kJ=some o) (Q:Post) (q0: ∀(p:Int×Int) (σ':Nat->PV),o=p->Fr KQ aC σ'->(σ' 3=(.int .i64 p.1)/\σ' 5=(.int .u8 p.2))->Q (.exit 0) σ' H),W Tryz.prog (.loop Oo) Q σ H:=by
  intro k
  induction k with
  |zero=>intro s_0 Vr sO rU kJ aC σ H f0 sl o h Q q0;simp only [xu,reduceCtorEq]at h
  |succ k ih=>
    intro s_0 Vr sO rU kJ aC σ H f0 sl o h Q q0;obtain⟨s0,s3,s4,s5,s6⟩:=sl;unfold xu at h;refine aT (fun K hK=>aD ?_);unfold Oo;rcases au h with⟨e1,h⟩|⟨e1,h⟩
    ·obtain⟨e2,h⟩:=aP h;obtain⟨x3,e4,h⟩:=aj h;obtain⟨e5,h⟩:=aP h;obtain⟨x6,e7,h⟩:=aj h;try refine cu ?_
     refine hK _ _ ?_;exact ih s_0 (IntKind.wrap .i64 (Vr+(IntKind.wrap .i64 ((BitVec.ofInt (IntKind.bits .i64) sO&&&BitVec.ofInt (IntKind.bits .i64) (IntKind.wrap .i64 ((BitVec.ofInt (IntKind.bits .i64) (if IntKind.signed .i64=true then -1 else IntKind.max .i64)^^^BitVec.ofInt (IntKind.bits .i64) (IntKind.wrap .i64 x6)).toNat))).toNat)))) (IntKind.wrap .i64 x6) (IntKind.wrap .u8 ((BitVec.ofInt (IntKind.bits .u8) rU|||BitVec.ofInt (IntKind.bits .u8) (x3.toNat:Int)).toNat)) (IntKind.wrap .i64 (kJ+1)) _ _ _ aJ eP _ h _ q0
    ·obtain rfl:=ak h;try refine cu ?_
     exact q0 _ _ rfl aJ eP
def xw:Nat->Str->Int->Option Int
  |0,_,_=>none
  |k+1,s_0,gJ=>
    cond (decide (gJ<(s_0.length:Int))) (if 0<=gJ then Option.bind (s_0[gJ.toNat]?) fun x30=>if 0<=(x30.toNat:Int)/\(x30.toNat:Int)<256 then Option.bind (y8[x30.toNat]?) fun x33=>cond (x33 !=0) (xw k s_0 (IntKind.wrap .i64 (gJ+1))) (some (gJ))else none else none) (some (gJ))
def KR:List Nat:=[12]++List.range' 42 14
theorem WB: ∀(k:Nat) (s_0:Str) (gJ:Int) (aC σ:Nat->PV) (H:AH) (f0:Fr KR aC σ) (sl:σ 0=(.str s_0)/\σ 12=(.int .i64 gJ)) (o:Int) (h:xw k s_0 gJ=some o) (Q:Post) (q0: ∀(p:Int) (σ':Nat->PV),o=p->Fr KR aC σ'->(σ' 12=(.int .i64 p))->Q (.exit 2) σ' H),W Tryz.prog (.loop Oq) Q σ H:=by
  intro k
  induction k with
  |zero=>intro s_0 gJ aC σ H f0 sl o h Q q0;simp only [xw,reduceCtorEq]at h
  |succ k ih=>
    intro s_0 gJ aC σ H f0 sl o h Q q0;obtain⟨s0,s12⟩:=sl;unfold xw at h;refine aT (fun K hK=>aD ?_);unfold Oq;rcases au h with⟨e28,h⟩|⟨e28,h⟩
    ·obtain⟨e29,h⟩:=aP h;obtain⟨x30,e31,h⟩:=aj h;obtain⟨e32,h⟩:=aP h;obtain⟨x33,e34,h⟩:=aj h;rcases au h with⟨e35,h⟩|⟨e35,h⟩
     ·try refine cu ?_
      refine hK _ _ ?_;exact ih s_0 (IntKind.wrap .i64 (gJ+1)) _ _ _ aJ eP _ h _ q0
     ·obtain rfl:=ak h;try refine cu ?_
      exact q0 _ _ rfl aJ eP
    ·obtain rfl:=ak h;try refine cu ?_
     exact q0 _ _ rfl aJ eP
def xA:Nat->Str->Int->Option Int
  |0,_,_=>none
  |k+1,s_0,gJ=>
    cond (decide (gJ<(s_0.length:Int))) (if 0<=gJ then Option.bind (s_0[gJ.toNat]?) fun Vt=>if 0<=(Vt.toNat:Int)/\(Vt.toNat:Int)<256 then Option.bind (y8[Vt.toNat]?) fun x76=>cond (x76 !=0) (xA k s_0 (IntKind.wrap .i64 (gJ+1))) (some (gJ))else none else none) (some (gJ))
def KS:List Nat:=[12]++List.range' 80 14
theorem WC: ∀(k:Nat) (s_0:Str) (gJ:Int) (aC σ:Nat->PV) (H:AH) (f0:Fr KS aC σ) (sl:σ 0=(.str s_0)/\σ 12=(.int .i64 gJ)) (o:Int) (h:xA k s_0 gJ=some o) (Q:Post) (q0: ∀(p:Int) (σ':Nat->PV),o=p->Fr KS aC σ'->(σ' 12=(.int .i64 p))->Q (.exit 6) σ' H),W Tryz.prog (.loop Ot) Q σ H:=by
  intro k
  induction k with
  |zero=>intro s_0 gJ aC σ H f0 sl o h Q q0;simp only [xA,reduceCtorEq]at h
  |succ k ih=>
    intro s_0 gJ aC σ H f0 sl o h Q q0;obtain⟨s0,s12⟩:=sl;unfold xA at h;refine aT (fun K hK=>aD ?_);unfold Ot;rcases au h with⟨e71,h⟩|⟨e71,h⟩
    ·obtain⟨e72,h⟩:=aP h;obtain⟨Vt,e74,h⟩:=aj h;obtain⟨PK,h⟩:=aP h;obtain⟨x76,M4,h⟩:=aj h;rcases au h with⟨Yq,h⟩|⟨Yq,h⟩
     ·try refine cu ?_
      refine hK _ _ ?_;exact ih s_0 (IntKind.wrap .i64 (gJ+1)) _ _ _ aJ eP _ h _ q0
     ·obtain rfl:=ak h;try refine cu ?_
      exact q0 _ _ rfl aJ eP
    ·obtain rfl:=ak h;try refine cu ?_
     exact q0 _ _ rfl aJ eP
def uf:Nat->Str->(List Str)->Int->Int->Int->Option (((List Str)×Int×Int))
  |0,_,_,_,_,_=>none
  |k+1,s_0,KT,mD,fM,gJ=>
    cond (decide (gJ<(s_0.length:Int))) (if 0<=gJ then Option.bind (s_0[gJ.toNat]?) fun x48=>if 0<=(x48.toNat:Int)/\(x48.toNat:Int)<256 then Option.bind (y8[x48.toNat]?) fun x51=>cond (x51==0) (uf k s_0 KT mD fM (IntKind.wrap .i64 (gJ+1))) (if 0<=fM/\fM<=gJ/\gJ.toNat<=s_0.length then if 0<=mD then Option.bind (KT[mD.toNat]?) fun x56=>Option.bind (xA k s_0 (IntKind.wrap .i64 (gJ+1))) (fun Vm=>uf k s_0 (KT.set mD.toNat ((s_0.take gJ.toNat).drop fM.toNat)) (IntKind.wrap .i64 (mD+1)) Vm Vm)else none else none)else none else none) (some ((KT,mD,fM)))
def KU:List Nat:=[10,11,12]++List.range' 57 38
theorem WI: ∀(k:Nat) (Dn:PV) (Bg:List Nat) (M:List Nat) (s_0:Str) (KT:List Str) (mD:Int) (fM:Int) (gJ:Int) (aC σ:Nat->PV) (H0 H:AH) (f0:Fr KU aC σ) (hf0:HF M H0 H) (sl:σ 0=(.str s_0)/\σ 9=Dn/\σ 10=(.int .i64 mD)/\σ 11=(.int .i64 fM)/\σ 12=(.int .i64 gJ)) (Dp:aO H aI 1 KT Dn Bg) (H7:Nw H0 M Bg) (o:((List Str)×Int×Int)) (h:uf k s_0 KT mD fM gJ=some o) (Q:Post) (q0: ∀(p:(List Str)×Int×Int) (v0:PV) (sP:List Nat) (σ':Nat->PV) (H':AH),o=p->Fr KU aC σ'->HF M H0 H'->(σ' 9=v0/\σ' 10=(.int .i64 p.2.1)/\σ' 11=(.int .i64 p.2.2))->aO H' aI 1 p.1 v0 sP->Nw H0 M sP->Q (.exit 4) σ' H'),W Tryz.prog (.loop Ou) Q σ H:=by
  intro k
  induction k with
  |zero=>intro Dn Bg M s_0 KT mD fM gJ aC σ H0 H f0 hf0 sl Dp H7 o h Q q0;simp only [uf,reduceCtorEq]at h
  |succ k ih=>
    intro Dn Bg M s_0 KT mD fM gJ aC σ H0 H f0 hf0 sl Dp H7 o h Q q0;obtain⟨s0,s9,s10,s11,s12⟩:=sl;have hle0:=hf0.1;unfold uf at h;refine aT (fun K hK=>aD ?_);unfold Ou;rcases au h with⟨e46,h⟩|⟨e46,h⟩
    ·obtain⟨e47,h⟩:=aP h;obtain⟨x48,e49,h⟩:=aj h;obtain⟨e50,h⟩:=aP h;obtain⟨x51,e52,h⟩:=aj h;rcases au h with⟨e53,h⟩|⟨e53,h⟩
     ·try refine cu ?_
      refine hK _ _ ?_;exact ih Dn Bg M s_0 KT mD fM (IntKind.wrap .i64 (gJ+1)) _ _ _ _ aJ (by repeat (first|exact hf0|refine HF.new ?_|refine HF.fI ?_|refine HF.used ?_|refine HF.put (by first|(right;omega)|(left;simp only [List.mem_cons,true_or,or_true])) ?_)) eP (by repeat (first|exact Dp|apply aO.new|refine aO.put ?_ (fun hm=>by have:=aO.lt Dp _ hm;omega))) H7 _ h _ q0
     ·obtain⟨e54,h⟩:=aP h;obtain⟨e55,h⟩:=aP h;obtain⟨x56,e57,h⟩:=aj h;obtain⟨w58,w59,apb,hil,w60,hC,hL,hD,hI⟩:=aO.content Dp e57;have w61:=ne_next hil;have w62:=aV hil;have w63:kT 1 Dn (.int .i64 mD)=some (.ref w58 (mD.toNat)):=by simpa using hI .i64 mD (by first|omega|decide) (by first|rfl|omega)
      have azz:w59[mD.toNat]? =some (.str x56):=by simpa using hC 0 _ rfl
      clear hC hL hD hI;try refine cu ?_
      refine qg (f:=aI) (id:=w58) (o:=mD.toNat) (i:=mD.toNat) (j:=0) (a:=x56) (y:=((s_0.take gJ.toNat).drop fM.toNat)) (vs:=[(.str ((s_0.take gJ.toNat).drop fM.toNat))]) eP apb (by omega) (by repeat (first|exact Dp|apply aO.new|refine aO.put ?_ (fun hm=>by have:=aO.lt Dp _ hm;omega))) e57 eP rfl rfl (by first|decide|(simp only [List.length_cons,List.length_nil];omega)) rfl (fun H66 r67 apc ahe=> ?_);have le:=apc.1;try simp only [AH.aK,AH.aL,AH.aM,AH.aN]at le
      try refine cu ?_
      obtain⟨o79,h80,h⟩:=aj h;refine WC k s_0 (IntKind.wrap .i64 (gJ+1)) _ _ _ (Fr.refl _ _) eP _ h80 _ ?_
      ·rintro Vm σ' eo Ub s85;rw [eo]at h;have s86:σ' 0=(.str s_0):=(Ub 0 (by decide)).trans eP;have s87:σ' 9=Dn:=(Ub 9 (by decide)).trans eP;have Y0:σ' 10=(.int .i64 (IntKind.wrap .i64 (mD+1))):=(Ub 10 (by decide)).trans eP;try refine cu ?_
       refine hK _ _ ?_;exact ih Dn Bg M s_0 (KT.set mD.toNat ((s_0.take gJ.toNat).drop fM.toNat)) (IntKind.wrap .i64 (mD+1)) Vm Vm _ _ _ _ (by repeat (first|exact f0|refine Fr.upd (by decide) ?_|refine Fr.via Ub (by decide) ?_)) (by repeat (first|exact hf0|refine HF.new ?_|refine HF.fI ?_|refine HF.used ?_|refine HF.put (by first|(right;omega)|(left;simp only [List.mem_cons,true_or,or_true])) ?_|refine HF.via apc H7 ?_)) eP (by repeat (first|exact r67|apply aO.new|refine aO.put ?_ (fun hm=>by have:=aO.lt r67 _ hm;omega))) H7 _ h _ q0
    ·obtain rfl:=ak h;try refine cu ?_
     exact q0 _ Dn Bg _ _ rfl aJ (by repeat (first|exact hf0|refine HF.new ?_|refine HF.fI ?_|refine HF.used ?_|refine HF.put (by first|(right;omega)|(left;simp only [List.mem_cons,true_or,or_true])) ?_)) eP (by repeat (first|exact Dp|apply aO.new|refine aO.put ?_ (fun hm=>by have:=aO.lt Dp _ hm;omega))) H7
def OG (k:Nat) (s_0:Str):Option (List Str):=
  Option.bind (xu k s_0 0 1 0 0) (fun iN=>cond (decide (iN.2>=128)) (Option.bind (X3 s_0) fun wM=>some wM) (if 0<=iN.1/\iN.1<=1099511627776/\16*iN.1<=1099511627776 then Option.bind (xw k s_0 0) (fun p38=>Option.bind (uf k s_0 (List.replicate iN.1.toNat []) 0 p38 p38) (fun lU=>cond (decide (lU.2.2<(s_0.length:Int))) (if 0<=lU.2.2/\lU.2.2.toNat<=s_0.length then if 0<=lU.2.1 then Option.bind (lU.1[lU.2.1.toNat]?) fun ahB=>some (lU.1.set lU.2.1.toNat (s_0.drop lU.2.2.toNat))else none else none) (some lU.1)))else none))
theorem adB {k:Nat} {s_0:Str} {r:List Str} (h:OG k s_0=some r):aF Tryz.prog 180 [(.str s_0)] (.aA (r.map aI) .unk):=by
  refine aF.aQ (bf.mem (.cons (.str _) .nil)) (aG ar6 (by simp) (aD ?_)) (aU bg _);unfold OG at h;unfold ajA;try refine cu ?_
  obtain⟨o8,h9,h⟩:=aj h;refine WA k s_0 0 1 0 0 _ _ _ (Fr.refl _ _) eP _ h9 _ ?_
  ·rintro iN σ' eo Ky ⟨JC,s15⟩;rw [eo]at h;have s16:σ' 0=(.str s_0):=(Ky 0 (by decide)).trans eP;rcases au h with⟨e17,h⟩|⟨e17,h⟩
   ·obtain⟨wM,e18,h⟩:=aj h;try refine cu ?_
    refine aB (ac9 s_0 e18) ?_;obtain rfl:=ak h;try refine cu ?_
    exact(d9 bg _ _)
   ·obtain⟨e20,h⟩:=aP h;try refine cu ?_
    refine X0 (f:=aI) (k:= .i64) (n:=iN.1) (k':= .i64) (c:=iN.1) [] rfl eP eP (by omega) (by decide) (fun v21 ajW H23 r24 aAy adl anf=> ?_);have le:=adl.1;try simp only [AH.aK,AH.aL,AH.aM,AH.aN]at le
    try refine cu ?_
    obtain⟨o36,h37,h⟩:=aj h;refine WB k s_0 0 _ _ _ (Fr.refl _ _) eP _ h37 _ ?_
    ·rintro p38 σ' eo ahC s42;rw [eo]at h;have s43:σ' 0=(.str s_0):=(ahC 0 (by decide)).trans eP;have s44:σ' 9=v21:=(ahC 9 (by decide)).trans eP;have s45:σ' 10=(.int .i64 0):=(ahC 10 (by decide)).trans eP;try refine cu ?_
     obtain⟨o89,h90,h⟩:=aj h;refine WI k v21 ajW (ajW++[]) s_0 (List.replicate iN.1.toNat []) 0 p38 p38 _ _ _ _ (Fr.refl _ _) (HF.refl _ _) eP (by repeat (first|exact r24|apply aO.new|refine aO.put ?_ (fun hm=>by have:=aO.lt r24 _ hm;omega))) (fun i hi=>Or.inl (by simp only [List.mem_append,List.mem_cons,hi,true_or,or_true])) _ h90 _ ?_
     ·rintro lU v95 azA σ' H94 eo ahD ahE ⟨s99,ahx,avR⟩ r97 aAz;rw [eo]at h;have aAA:σ' 0=(.str s_0):=(ahD 0 (by decide)).trans eP;have le:=ahE.1;try simp only [AH.aK,AH.aL,AH.aM,AH.aN]at le
      rcases au h with⟨I4,h⟩|⟨I4,h⟩
      ·obtain⟨ahF,h⟩:=aP h;obtain⟨KE,h⟩:=aP h;obtain⟨ahB,Ey,h⟩:=aj h;obtain⟨apf,avS,alq,hil,aAB,hC,hL,hD,hI⟩:=aO.content r97 Ey;have aAC:=ne_next hil;have aAD:=aV hil;have aAE:kT 1 v95 (.int .i64 lU.2.1)=some (.ref apf (lU.2.1.toNat)):=by simpa using hI .i64 lU.2.1 (by first|omega|decide) (by first|rfl|omega)
       have ayi:avS[lU.2.1.toNat]? =some (.str ahB):=by simpa using hC 0 _ rfl
       clear hC hL hD hI;try refine cu ?_
       refine qg (f:=aI) (id:=apf) (o:=lU.2.1.toNat) (i:=lU.2.1.toNat) (j:=0) (a:=ahB) (y:=(s_0.drop lU.2.2.toNat)) (vs:=[(.str (s_0.drop lU.2.2.toNat))]) eP alq (by omega) (by repeat (first|exact r97|apply aO.new|refine aO.put ?_ (fun hm=>by have:=aO.lt r97 _ hm;omega))) Ey eP rfl rfl (by first|decide|(simp only [List.length_cons,List.length_nil];omega)) rfl (fun avT apg asl ai6=> ?_);have le:=asl.1;try simp only [AH.aK,AH.aL,AH.aM,AH.aN]at le
       obtain rfl:=ak h;try refine cu ?_
       exact(aO.fz bg (by repeat (first|exact apg|apply aO.new|refine aO.put ?_ (fun hm=>by have:=aO.lt apg _ hm;omega))))
      ·obtain rfl:=ak h;try refine cu ?_
       exact(aO.fz bg (by repeat (first|exact r97|apply aO.new|refine aO.put ?_ (fun hm=>by have:=aO.lt r97 _ hm;omega))))
def vZ (k:Nat):Option (List Str):=
  Option.bind (OG k ([65,83,83,85,77,69,32,65,83,83,85,77,80,84,73,79,78,32,65,88,73,79,77,32,66,89,32,67,65,83,69,32,67,72,79,79,83,69,32,67,79,78,83,84,65,78,84,32,67,79,78,83,84,65,78,84,83,32,68,69,70,32,68,69,70,73,78,69,32,68,69,70,83,32,68,79,77,65,73,78,32,69,76,83,69,32,69,78,65,66,76,69,68,32,69,88,67,69,80,84,32,69,88,84,69,78,68,83,32,70,65,76,83,69,32,72,65,86,69,32,72,73,68,69,32,73,70,32,73,78,32,73,78,83,84,65,78,67,69,32,76,65,77,66,68,65,32,76,69,77,77,65,32,76,69,84,32,76,79,67,65,76,32,77,79,68,85,76,69,32,78,69,87,32,79,66,86,73,79,85,83,32,79,77,73,84,84,69,68,32,79,84,72,69,82,32,80,73,67,75,32,80,82,79,79,70,32,80,82,79,80,79,83,73,84,73,79,78,32,80,82,79,86,69,32,81,69,68,32,82,69,67,85,82,83,73,86,69,32,83,85,66,83,69,84,32,83,85,70,70,73,67,69,83,32,84,65,75,69,32,84,72,69,78,32,84,72,69,79,82,69,77,32,84,82,85,69,32,85,78,67,72,65,78,71,69,68,32,85,78,73,79,78,32,85,83,69,32,86,65,82,73,65,66,76,69,32,86,65,82,73,65,66,76,69,83,32,87,73,84,72,32,87,73,84,78,69,83,83,32,66,79,79,76,69,65,78,32,83,84,82,73,78,71]:Str)) fun p2=>some p2
theorem Y1 {k:Nat} {r:List Str} (h:vZ k=some r):aF Tryz.prog 126 [] (.aA (r.map aI) .unk):=by
  refine aF.aQ (bf.mem .nil) (aG arI (by simp) (aD ?_)) (aU bg _);unfold vZ at h;unfold ajb;obtain⟨p2,e1,h⟩:=aj h;try refine ah ?_
  refine aB (adB e1) ?_;obtain rfl:=ak h;try refine ah ?_
  exact(d9 bg _ _)
end Go.VL
end
section
namespace Go.VL
open Go.Proofs Go.RowKit
def GH:List Str:=(vZ 800).getD []
theorem afn:vZ 800=some GH:=by
  have h:(vZ 800).isSome=true:=by kernel_rfl
  rw [GH];cases h1:vZ 800 with
  |none=>rw [h1]at h;cases h
  |some r=>rfl
theorem aph:aF Tryz.prog 126 [] (.aA (GH.map aI) .unk):=Y1 afn
end Go.VL
end
section
set_option maxRecDepth 8000
set_option maxHeartbeats 4000000
namespace Go.VL
open Go.Proofs
def BJ (k:Nat) (s_0:Str) (rD:Bool):Option Bool:=
  cond rD (some (true)) (Option.bind (lu s_0 ([87,70,95]:Str)) fun p5=>cond p5 (some (true)) (Option.bind (lu s_0 ([83,70,95]:Str)) fun p8=>cond p8 (some (true)) (Option.bind (bX k GH s_0) fun l6=>some (l6))))
def KV:List Nat:=List.range' 11 12
theorem WJ (k:Nat): ∀(s_0:Str) (rD:Bool) (aC σ:Nat->PV) (H:AH) (f0:Fr KV aC σ) (sl:σ 0=(.str s_0)/\σ 10=(.bool rD)) (o:Bool) (h:BJ k s_0 rD=some o) (Q:Post) (q0: ∀(p:Bool) (σ':Nat->PV),o=p->Fr KV aC σ'->(σ' 22=(.bool p))->Q .normal σ' H),dF Tryz.prog SN (Q .normal) σ H:=by
  intro s_0 rD aC σ H f0 sl o h Q q0;obtain⟨s0,s10⟩:=sl;unfold BJ at h;refine eB ?_;unfold SN;rcases au h with⟨e3,h⟩|⟨e3,h⟩
  ·obtain rfl:=ak h;try refine ah ?_
   exact q0 _ _ rfl aJ av
  ·obtain⟨p5,e4,h⟩:=aj h;try refine ah ?_
   refine aB (C9 e4) ?_;rcases au h with⟨e6,h⟩|⟨e6,h⟩
   ·obtain rfl:=ak h;try refine ah ?_
    exact q0 _ _ rfl aJ av
   ·obtain⟨p8,e7,h⟩:=aj h;try refine ah ?_
    refine aB (C9 e7) ?_;rcases au h with⟨e9,h⟩|⟨e9,h⟩
    ·obtain rfl:=ak h;try refine ah ?_
     exact q0 _ _ rfl aJ av
    ·try refine ah ?_
     refine aB (aph) ?_;obtain⟨l6,e10,h⟩:=aj h;try refine ah ?_
     refine aB (kr e10) ?_;obtain rfl:=ak h;try refine ah ?_
     exact q0 _ _ rfl aJ av
def xB (c_5:Int) (Y2:Bool):Option Bool:=
  cond Y2 (some (true)) (Option.bind (gF (IntKind.wrap .i64 c_5) 65 90) fun p29=>some (p29))
theorem WK: ∀(c_5:Int) (Y2:Bool) (aC σ:Nat->PV) (H:AH) (f0:Fr [35,36,37,38] aC σ) (sl:σ 5=(.int .u8 c_5)/\σ 34=(.bool Y2)) (o:Bool) (h:xB c_5 Y2=some o) (Q:Post) (q0: ∀(p:Bool) (σ':Nat->PV),o=p->Fr [35,36,37,38] aC σ'->(σ' 38=(.bool p))->Q .normal σ' H),dF Tryz.prog SQ (Q .normal) σ H:=by
  intro c_5 Y2 aC σ H f0 sl o h Q q0;obtain⟨s5,s34⟩:=sl;unfold xB at h;refine eB ?_;unfold SQ;rcases au h with⟨e27,h⟩|⟨e27,h⟩
  ·obtain rfl:=ak h;try refine ah ?_
   exact q0 _ _ rfl aJ av
  ·obtain⟨p29,e28,h⟩:=aj h;try refine ah ?_
   refine aB (gH e28) ?_;obtain rfl:=ak h;try refine ah ?_
   exact q0 _ _ rfl aJ av
def jU:Nat->Int->(List Int)->Int->Int->Option (Int⊕Bool)
  |0,_,_,_,_=>none
  |k+1,kM,sQ,iW,jK=>
    cond (decide (jK<iW)) (if 0<=jK then Option.bind (sQ[jK.toNat]?) fun x23=>Option.bind (gF (IntKind.wrap .i64 x23) 97 122) fun p26=>Option.bind (xB x23 p26) (fun p32=>cond p32 (jU k (IntKind.wrap .i64 (kM+1)) sQ iW (IntKind.wrap .i64 (jK+1))) (Option.bind (gF (IntKind.wrap .i64 x23) 48 57) fun p44=>cond p44 (jU k kM sQ iW (IntKind.wrap .i64 (jK+1))) (cond (x23 !=95) (some (.inr (false))) (jU k kM sQ iW (IntKind.wrap .i64 (jK+1))))))else none) (some (.inl kM))
def Ez:List Nat:=[2,3,5]++List.range' 26 25
theorem WL: ∀(k:Nat) (kM:Int) (sQ:List Int) (iW:Int) (jK:Int) (aC σ:Nat->PV) (H:AH) (f0:Fr Ez aC σ) (sl:σ 3=(.int .i64 kM)/\σ 24=(.aA (sQ.map u8L) .unk)/\σ 25=(.int .i64 iW)/\σ 26=(.int .i64 jK)) (o:Int⊕Bool) (h:jU k kM sQ iW jK=some o) (Q:Post) (q0: ∀(p:Int) (σ':Nat->PV),o= .inl p->Fr Ez aC σ'->(σ' 3=(.int .i64 p))->Q (.exit 0) σ' H) (q1: ∀(p:Bool) (σ':Nat->PV),o= .inr (p)->Fr Ez aC σ'->(σ' 2=(.bool p))->Q .ret σ' H),W Tryz.prog (.loop SS) Q σ H:=by
  intro k
  induction k with
  |zero=>intro kM sQ iW jK aC σ H f0 sl o h Q q0 q1;simp only [jU,reduceCtorEq]at h
  |succ k ih=>
    intro kM sQ iW jK aC σ H f0 sl o h Q q0 q1;obtain⟨s3,s24,s25,s26⟩:=sl;unfold jU at h;refine aT (fun K hK=>aD ?_);unfold SS;rcases au h with⟨e21,h⟩|⟨e21,h⟩
    ·obtain⟨e22,h⟩:=aP h;obtain⟨x23,e24,h⟩:=aj h;obtain⟨p26,e25,h⟩:=aj h;try refine ah ?_
     refine aB (gH e25) ?_;try refine ah ?_
     obtain⟨o30,h31,h⟩:=aj h;refine WK x23 p26 _ _ _ (Fr.refl _ _) av _ h31 _ ?_
     ·rintro p32 σ' eo uq s36;rw [eo]at h;have s37:σ' 3=(.int .i64 kM):=(uq 3 (by decide)).trans av;have s38:σ' 5=(.int .u8 x23):=(uq 5 (by decide)).trans av;have s39:σ' 24=(.aA (sQ.map u8L) .unk):=(uq 24 (by decide)).trans av;have s40:σ' 25=(.int .i64 iW):=(uq 25 (by decide)).trans av;have s41:σ' 26=(.int .i64 jK):=(uq 26 (by decide)).trans av;rcases au h with⟨e42,h⟩|⟨e42,h⟩
      ·try refine ah ?_
       refine hK _ _ ?_;exact ih (IntKind.wrap .i64 (kM+1)) sQ iW (IntKind.wrap .i64 (jK+1)) _ _ _ (by repeat (first|exact f0|refine Fr.upd (by decide) ?_|refine Fr.via uq (by decide) ?_)) av _ h _ q0 q1
      ·obtain⟨p44,e43,h⟩:=aj h;try refine ah ?_
       refine aB (gH e43) ?_;rcases au h with⟨e45,h⟩|⟨e45,h⟩
       ·try refine ah ?_
        refine hK _ _ ?_;exact ih kM sQ iW (IntKind.wrap .i64 (jK+1)) _ _ _ (by repeat (first|exact f0|refine Fr.upd (by decide) ?_|refine Fr.via uq (by decide) ?_)) av _ h _ q0 q1
       ·rcases au h with⟨e46,h⟩|⟨e46,h⟩
        ·obtain rfl:=ak h;try refine ah ?_
         exact q1 _ _ rfl (by repeat (first|exact f0|refine Fr.upd (by decide) ?_|refine Fr.via uq (by decide) ?_)) av
        ·try refine ah ?_
         refine hK _ _ ?_;exact ih kM sQ iW (IntKind.wrap .i64 (jK+1)) _ _ _ (by repeat (first|exact f0|refine Fr.upd (by decide) ?_|refine Fr.via uq (by decide) ?_)) av _ h _ q0 q1
    ·obtain rfl:=ak h;try refine ah ?_
     exact q0 _ _ rfl aJ av
def sS (k:Nat) (s_0:Str):Option Bool:=
  Option.bind (gF (s_0.length:Int) 1 24) fun p2=>Option.bind (BJ k s_0 (!p2)) (fun kD=>cond kD (some false) (Option.bind (jU k 0 (qX s_0) ((qX s_0).length:Int) 0) (fun o=>Sum.elim (fun p49=>some (decide (p49>0))) (fun p54=>some p54) o)))
theorem zT {k:Nat} {s_0:Str} {r:Bool} (h:sS k s_0=some r):aF Tryz.prog 77 [(.str s_0)] (.bool r):=by
  refine aF.aQ (bf.mem (.cons (.str _) .nil)) (aG au7 (by simp) (aD ?_)) (.bool _);unfold sS at h;unfold anY;obtain⟨p2,e1,h⟩:=aj h;try refine ah ?_
  refine aB (gH e1) ?_;try refine ah ?_
  obtain⟨o12,PW,h⟩:=aj h;refine WJ k s_0 (!p2) _ _ _ (Fr.refl _ _) av _ PW _ ?_
  ·rintro kD σ' eo yg jw;rw [eo]at h;have oW:σ' 0=(.str s_0):=(yg 0 (by decide)).trans av;rcases au h with⟨e20,h⟩|⟨e20,h⟩
   ·obtain rfl:=ak h;try refine ah ?_
    exact(.pure _ (.bool _))
   ·try refine ah ?_
    obtain⟨o47,h48,h⟩:=aj h;refine WL k 0 (qX s_0) ((qX s_0).length:Int) 0 _ _ _ (Fr.refl _ _) av _ h48 _ ?_ ?_
    ·rintro p49 σ' eo KG s53;subst eo;rw [bL]at h;obtain rfl:=ak h;try refine ah ?_
     exact(.pure _ (.bool _))
    ·rintro p54 σ' eo adC s58;subst eo;rw [bP]at h;obtain rfl:=ak h;try refine ah ?_
     exact(.pure _ (.bool _))
def wm (k:Nat) (s_0:Str):Option Bool:=
  cond (decide ((s_0.length:Int)>49)) (some false) (Option.bind (ahg s_0 ([33]:Str)) fun p5=>cond (decide (p5>=0)) (if 0<=p5/\p5.toNat<=s_0.length then if 0<=(IntKind.wrap .i64 (p5+1))/\(IntKind.wrap .i64 (p5+1)).toNat<=s_0.length then Option.bind (sS k (s_0.take p5.toNat)) fun iN=>cond iN (Option.bind (sS k (s_0.drop (IntKind.wrap .i64 (p5+1)).toNat)) fun rR=>some rR) (some false)else none else none) (Option.bind (sS k s_0) fun zm=>cond zm (some true) (some false)))
theorem KW {k:Nat} {s_0:Str} {r:Bool} (h:wm k s_0=some r):aF Tryz.prog 146 [(.str s_0)] (.bool r):=by
  refine aF.aQ (bf.mem (.cons (.str _) .nil)) (aG arZ (by simp) (aD ?_)) (.bool _);unfold wm at h;unfold ajr;rcases au h with⟨e1,h⟩|⟨e1,h⟩
  ·obtain rfl:=ak h;try refine ah ?_
   exact(.pure _ (.bool _))
  ·try refine ah ?_
   refine aG asc (by simp) (aD ?_);unfold ajG;try refine ah ?_
   refine aG asf (by simp) (aD ?_);unfold ajI;obtain⟨p5,e4,h⟩:=aj h;try refine ah ?_
   refine aB (aoi s_0 ([33]:Str) e4) ?_;rcases au h with⟨e6,h⟩|⟨e6,h⟩
   ·try refine ah ?_
    refine eO ?_;obtain⟨e7,h⟩:=aP h;obtain⟨e8,h⟩:=aP h;obtain⟨iN,e9,h⟩:=aj h;try refine ah ?_
    refine aB (zT e9) ?_;rcases au h with⟨e11,h⟩|⟨e11,h⟩
    ·obtain⟨rR,e12,h⟩:=aj h;try refine ah ?_
     refine aB (zT e12) ?_;obtain rfl:=ak h;try refine ah ?_
     exact(.pure _ (.bool _))
    ·obtain rfl:=ak h;try refine ah ?_
     exact(.pure _ (.bool _))
   ·obtain⟨zm,e14,h⟩:=aj h;try refine ah ?_
    refine aB (zT e14) ?_;rcases au h with⟨e16,h⟩|⟨e16,h⟩
    ·obtain rfl:=ak h;try refine ah ?_
     exact(.pure _ (.bool _))
    ·obtain rfl:=ak h;try refine ah ?_
     exact(.pure _ (.bool _))
end Go.VL
end
section
namespace Go.VL
open Go.Proofs Go.RowKit
theorem Vs.asn {G:Gh} {n:Nat} {s:List UInt8} {g:FuncId} {vs:Array Value} (h:Vs G n [.str s,.fn (.func g) [] []] vs):vs=#[.string ⟨s.toArray⟩,.func (.func g) #[] #[]]:=by
  obtain⟨h1,h2⟩:=h
  match vs,h1,h2 with
  |⟨[v,u]⟩,_,h2=>
    have e1:=h2 0 (.str s) v rfl rfl;have e2:=h2 1 (.fn (.func g) [] []) u rfl rfl;cases e1;cases e2 with
    |fn g cs ds vs us h1 _ h3 _=>
      have a1:vs=#[]:=Array.size_eq_zero_iff.1 h1;have a2:us=#[]:=Array.size_eq_zero_iff.1 h3;rw [a1,a2]
theorem afq {g:FuncId} {p:Nat->Bool} (hp: ∀x:Nat,x<=1114111->aF Tryz.prog g [.int .i32 x] (.bool (p x))) {w:World} (hg: ∀a x,Glob.gc a=some x->w.cell? a=some x) (hw:WH (fun b=>w.heap.size<=b) w):PredGrows Tryz.prog g #[] p w:=by
  intro W x hx hb;have hM:bC Tryz.prog g [.int .i32 x] AH.empty fun v _=>v= .bool (p x):=bC.mono (hp x hx AH.empty) fun v H' q=>q.1;refine(bC.top hM (fun a y e=>(World.cell?_of_block (hb.block _ (World.block_lt_of_cell? w a (hg a y e)))).trans (hg a y e)) (hw.keep fun b _ hlt=>hb.block b hlt).old (vs:=#[encR x]++#[]) ?_);exact⟨rfl,fun j c y e e'=>by
    match j,e,e' with
    |0,e,e'=>cases e;cases e';exact .int _ _⟩
theorem Ug {g:FuncId} (p:Nat->Bool) (he: ∀args w,(callFunc g args).run Tryz.prog w= .ok (.enter g args) w) (hp: ∀x:Nat,x<=1114111->aF Tryz.prog g [.int .i32 x] (.bool (p x))) (s:Str):
    aF Tryz.prog 143 [.str s,.fn (.func g) [] []] (.bool (decide (0<=Lib.idxFunc p true ⟨s.toArray⟩))):=by
  refine Kq ⟨_,Tryz.func143,rfl,by kernel_rfl⟩ (fun w G vs hg hi hw hv=> ?_) (bf.mem (.cons (.str _) (.cons (.fn _ _ _ (bf.mem .nil) (bf.mem .nil)) .nil)));rw [Vs.asn hv];refine(Tryz.strings_ContainsFunc_grows g #[] he p ⟨s.toArray⟩ w (afq hp hg hw)).mono ?_;rintro e w' ⟨rfl,hb⟩;exact⟨_,rfl,hb,fun G n=> .bool _⟩
def Qg (x y:Int):Int×Int:=(((x.toNat*y.toNat/18446744073709551616:Nat):Int),((x.toNat*y.toNat% 18446744073709551616:Nat):Int))
theorem Vs.aso {G:Gh} {n:Nat} {x y:Int} {k k':IntKind} {vs:Array Value} (h:Vs G n [.int k x,.int k' y] vs):vs=#[.int k x,.int k' y]:=by
  obtain⟨h1,h2⟩:=h
  match vs,h1,h2 with
  |⟨[v,u]⟩,_,h2=>
    have e1:=h2 0 (.int k x) v rfl rfl;have e2:=h2 1 (.int k' y) u rfl rfl;cases e1;cases e2;rfl
theorem alr (x y:Int) (h:(0<=x/\x<18446744073709551616)/\(0<=y/\y<18446744073709551616)):aF Tryz.prog 189 [.int .u64 x,.int .u64 y] (.dM [.int .u64 (Qg x y).1,.int .u64 (Qg x y).2]):=by
  refine IK ⟨_,Tryz.func189,rfl,by kernel_rfl⟩ (fun w G vs hg hi hv=> ?_) (bf.mem (.cons (.int _ _) (.cons (.int _ _) .nil)));rw [Vs.aso hv];obtain⟨a,rfl⟩: ∃a:Nat,x=a:=⟨x.toNat,by omega⟩;obtain⟨b,rfl⟩: ∃b:Nat,y=b:=⟨y.toNat,by omega⟩;refine(Tryz.bits_Mul64 a b (by omega) (by omega) w).mono ?_;rintro e w' ⟨rfl,rfl⟩;refine⟨_,rfl,Below.refl _ _,fun G n=> ?_⟩;refine .dM _ _ rfl fun j c y e e'=> ?_
  match j,e,e' with
  |0,e,e'=>cases e;cases e';exact .int _ _
  |1,e,e'=>cases e;cases e';exact .int _ _
end Go.VL
end
section
namespace Go.VL
open Go.Proofs Go.RowKit
theorem Ng (p:Nat->Bool) (hp: ∀x,128<=x->p x=true) (s:Str): ∀(f pos:Nat),s.length<=pos+f->
    decide (0<=Lib.idxFuncFrom p true ⟨s.toArray⟩ f pos)=(s.drop pos).any (fun c=>p c.toNat)
  |0,pos,h=>by rw [List.drop_eq_nil_of_le (by omega)];rfl
  |f+1,pos,h=>by
    have hsz:(⟨s.toArray⟩:ByteArray).size=s.length:=rfl;by_cases hlt:pos<s.length
    · have hlt':pos<(⟨s.toArray⟩:ByteArray).size:=hlt;have hget:(⟨s.toArray⟩:ByteArray)[pos]'hlt'=s[pos]:=rfl;rw [List.drop_eq_getElem_cons hlt,List.any_cons];simp only [Lib.idxFuncFrom,hsz,hlt,if_true];by_cases ha:(s[pos]).toNat<128
      · rw [decode_ascii ⟨s.toArray⟩ pos hlt' (by rw [hget];exact ha),hget];by_cases hq:p (s[pos]).toNat=true
        · simp only [hq,if_true,Bool.true_or];exact decide_eq_true (by omega)
        · simp only [hq,Bool.false_or];exact Ng p hp s f (pos+1) (by omega)
      · have hd:=decode_high ⟨s.toArray⟩ pos hlt' (by rw [hget];omega);rw [if_pos (hp _ hd.1),hp _ (by omega),Bool.true_or];exact decide_eq_true (by omega)
    · rw [List.drop_eq_nil_of_le (by omega),Lib.idxFuncFrom_end _ _ _ _ _ (by rw [hsz];exact hlt)];rfl
theorem als (p:Nat->Bool) (hp: ∀x,128<=x->p x=true) (s:Str):decide (0<=Lib.idxFunc p true ⟨s.toArray⟩)=s.any (fun c=>p c.toNat):=by
  have h:=Ng p hp s s.length 0 (by omega);rw [List.drop_zero]at h;exact h
def OH (x:Nat):Bool:=bif decide (32<=x)&&decide (x<=126)then x==34||x==92 else true
theorem afr (x:Nat) (h:x<=1114111):Dl (x:Int)=some (OH x):=by
  have hw:IntKind.wrap .i64 (x:Int)=x:=IntWalk.i64_in _ (by omega);unfold Dl gF OH;rw [hw];by_cases h1:32<=x
  · have h1':(32:Int)<=x:=by omega
    by_cases h2:x<=126
    · have h2':(x:Int)<=126:=by omega
      have e1:((x:Int)==34)=(x==34):=by rw [Bool.eq_iff_iff];simp only [beq_iff_eq];omega
      have e2:((x:Int)==92)=(x==92):=by rw [Bool.eq_iff_iff];simp only [beq_iff_eq];omega
      simp only [h1,h1',h2,h2',decide_true,cond_true,Bool.and_true,Option.bind_some,e1,e2];cases x==34<;>rfl
    · have h2': ¬(x:Int)<=126:=by omega
      simp [h1,h1',h2,h2']
  · have h1': ¬(32:Int)<=x:=by omega
    simp [h1,h1']
def adD (s:Str):Bool:=s.any (fun c=>OH c.toNat)
theorem apl (s:Str):aF Tryz.prog 143 [.str s,.fn (.func 142) [] []] (.bool (adD s)):=by
  have h:=Ug (g:=142) OH (fun args w=>by kernel_rfl) (fun x hx=>YO (afr x hx)) s;rw [als OH (fun x hx=>by
    have h2: ¬x<=126:=by omega
    simp [OH,h2]) s]at h
  exact h
end Go.VL
end
section
set_option maxRecDepth 8000
set_option maxHeartbeats 4000000
namespace Go.VL
open Go.Proofs
def vw (s_0:Str):Option Bool:=
  cond (decide ((s_0.length:Int)<=40)) (some (!(adD s_0))) (some false)
theorem Dq {s_0:Str} {r:Bool} (h:vw s_0=some r):aF Tryz.prog 92 [(.str s_0)] (.bool r):=by
  refine aF.aQ (bf.mem (.cons (.str _) .nil)) (aG avh (by simp) (aD ?_)) (.bool _);unfold vw at h;unfold an9;rcases au h with⟨e1,h⟩|⟨e1,h⟩
  ·try refine ah ?_
   refine aB (apl s_0) ?_;obtain rfl:=ak h;try refine ah ?_
   exact(.pure _ (.bool _))
  ·obtain rfl:=ak h;try refine ah ?_
   exact(.pure _ (.bool _))
end Go.VL
end
section
namespace Go.VL
open Go.Proofs Go.RowKit
theorem Xk {G:Gh} {m:Nat} {v:Value} (h:V G m (.aA [] .nil) v):v= .slice none 0 0:=by
  generalize hp:PV.aA [] .nil=p at h;cases h with
  |aA es c sz ad cap f h1 h2 h3 h4 h5=>
    cases hp;have q1:=h5.1;have q2:=h5.2.2;rw [q1,q2];rfl
  |_=>cases hp
theorem Vs.apm {G:Gh} {m:Nat} {n:Int} {vs:Array Value} (h:Vs G m [.aA [] .nil,.int .i64 n] vs):vs=#[.slice none 0 0,.int .i64 n]:=by
  obtain⟨h1,h2⟩:=h
  match vs,h1,h2 with
  |⟨[v,u]⟩,_,h2=>
    have e1:=h2 0 (.aA [] .nil) v rfl rfl;have e2:=h2 1 (.int .i64 n) u rfl rfl;cases e2;have e3:=Xk e1;rw [e3]
theorem ajY (zs:Array Value) (k:Nat):(Builtin.zeroCells zs k).size=k*zs.size:=by simp [Builtin.zeroCells]
theorem afs (n:Int) (h:0<n/\n<=1000000):IL Tryz.prog 167 [.aA [] .nil,.int .i64 n] Operator.cells 7 []:=by
  intro H;refine⟨⟨_,Tryz.func167,rfl,by kernel_rfl⟩,fun B G w vs hU hM hv=> ?_⟩;obtain⟨n,rfl⟩: ∃k:Nat,n=k:=⟨n.toNat,by omega⟩;rw [Vs.apm hv];obtain⟨i0,hi0,hq⟩: ∃i0,Tryz.prog.info? (Tryz.growOp_ren.t 25)=some i0/\(i0.zero.map fun z=>z.cells.size)=some 7/\i0.size=7/\i0.bytes=64:=by
    have h:(Tryz.prog.info? (Tryz.growOp_ren.t 25)).map (fun i0=>((i0.zero.map fun z=>z.cells.size),i0.size,i0.bytes))=some (some 7,7,64):=by kernel_rfl
    cases hi:Tryz.prog.info? (Tryz.growOp_ren.t 25)with
    |none=>rw [hi]at h;cases h
    |some i0=>rw [hi]at h;simp only [Option.map_some,Option.some.injEq,Prod.mk.injEq]at h;exact⟨i0,rfl,h.1,h.2.1,h.2.2⟩
  obtain⟨hz,hs,hb⟩:=hq;obtain⟨z,hz0,hz1⟩:=Option.map_eq_some_iff.1 hz;have key:=Any8.slices_Grow_grow Tryz.growOp i0 z hi0 hz0 (by omega) none 0 0 n [] w (Nat.le_refl _) (by omega) (by rw [hb];omega) (by omega) (by simp) (fun _=>rfl) (fun a e=>by cases e);have hge:=grownCap_ge w (0+n) 0 (Tryz.growOp_ren.t 25);refine key.mono ?_;rintro e w' ⟨rfl,rfl⟩
  obtain⟨G',e1,e2,e3⟩:=HM.newObj (w:=w.drew) hU hM.drew (Tryz.growOp_ren.t 25) (Vs.Rj (G:=G) H.next (grownCap w (0+n) 0 (Tryz.growOp_ren.t 25)*7) _ (by
    show((#[]:Array Value)++Builtin.zeroCells z.cells (0+n -0)++Builtin.zeroCells z.cells (grownCap w (0+n) 0 (Tryz.growOp_ren.t 25) -(0+n))).size=_
    rw [Array.size_append,Array.size_append,ajY,ajY,hz1];simp only [Array.size_empty];omega))
  refine⟨_,_,_,G',rfl,Tr.BU w _,e1,Nat.le_succ _,e2,.bS H.next 0 0 _ 7 _ (Nat.lt_succ_self _) e3,[H.next],.inr ⟨H.next,_,List.replicate (grownCap w (0+n) 0 (Tryz.growOp_ren.t 25)*7) .any,rfl,rfl,Nat.zero_le _,Nat.lt_succ_self _,?_,?_⟩,?_,(HF.refl _ _).new,fun c3 hc=>hc.new⟩
  · show(if H.next=H.next then some _ else _)=_
    rw [if_pos rfl];rfl
  · rw [List.length_replicate,List.length_nil,Nat.sub_zero]
  · intro i hi;rw [List.mem_singleton.1 hi];exact .inr (Nat.le_refl _)
end Go.VL
end
section
set_option maxRecDepth 8000
set_option maxHeartbeats 4000000
namespace Go.VL
open Go.Proofs
def vB:Nat->Int->Int->(List Operator)->(List Str)->Int->Int->Option (List Operator)
  |0,_,_,_,_,_,_=>none
  |k+1,ig,fC,BK,rD,bO,iX=>
    cond (decide (iX<bO)) (if 0<=iX then Option.bind (rD[iX.toNat]?) fun x3=>if(BK.length+1)*64<=1099511627776 then vB k ig fC (BK++[(Operator.mk x3 0 ig fC false 1 1)]) rD bO (IntKind.wrap .i64 (iX+1))else none else none) (some (BK))
def JE:List Nat:=[7,9]++List.range' 12 12
theorem Uh: ∀(k:Nat) (ig:Int) (fC:Int) (BK:List Operator) (rD:List Str) (bO:Int) (iX:Int) (wo:Ck) (aC σ:Nat->PV) (H0 H:AH) (f0:Fr JE aC σ) (hf0:HF [] H0 H) (sl:σ 0=(.int .i64 ig)/\σ 1=(.int .i64 fC)/\σ 7=(.aA (BK.map Operator.cells) wo)/\σ 10=(.aA (rD.map aI) .unk)/\σ 11=(.int .i64 bO)/\σ 12=(.int .i64 iX)) (Y3:bn H wo) (o:List Operator) (h:vB k ig fC BK rD bO iX=some o) (Q:Post) (q0: ∀(p:List Operator) (c0:Ck) (σ':Nat->PV) (H':AH),o=p->Fr JE aC σ'->HF [] H0 H'->(σ' 7=(.aA (p.map Operator.cells) c0))->Q (.exit 0) σ' H'),W Tryz.prog (.loop N7) Q σ H:=by
  intro k
  induction k with
  |zero=>intro ig fC BK rD bO iX wo aC σ H0 H f0 hf0 sl Y3 o h Q q0;simp only [vB,reduceCtorEq]at h
  |succ k ih=>
    intro ig fC BK rD bO iX wo aC σ H0 H f0 hf0 sl Y3 o h Q q0;obtain⟨s0,s1,s7,s10,s11,s12⟩:=sl;have hle0:=hf0.1;unfold vB at h;refine aT (fun K hK=>aD ?_);unfold N7;rcases au h with⟨e1,h⟩|⟨e1,h⟩
    ·obtain⟨e2,h⟩:=aP h;obtain⟨x3,e4,h⟩:=aj h;obtain⟨e9,h⟩:=aP h;try refine ah ?_
     refine gu (f:=Operator.cells) Operator.row BK ([(Operator.mk x3 0 ig fC false 1 1)]:List Operator) wo .exact av av fG (by first|exact e9|(simp only [List.length_cons,List.length_nil];exact e9)) (fun c5 H6 ok7 le ahG rl8=> ?_);have ahH:HF [] _ H6:=⟨le,fun i _ _=>ahG i⟩;try simp only [AH.aK,AH.aL,AH.aM,AH.aN]at le
     try refine ah ?_
     refine hK _ _ ?_;exact ih ig fC (BK++[(Operator.mk x3 0 ig fC false 1 1)]) rD bO (IntKind.wrap .i64 (iX+1)) c5 _ _ _ _ aJ (by repeat (first|exact hf0|refine HF.new ?_|refine HF.fI ?_|refine HF.used ?_|refine HF.put (by first|(right;omega)|(left;simp only [List.mem_cons,true_or,or_true])) ?_|refine HF.via ahH (by first|exact fun i hi=>absurd hi List.not_mem_nil|(intro i hi;simp only [List.mem_cons,List.not_mem_nil,or_false]at hi⊢;first|exact .inl hi|omega)) ?_)) av fG _ h _ q0
    ·obtain rfl:=ak h;try refine ah ?_
     exact q0 _ wo _ _ rfl aJ (by repeat (first|exact hf0|refine HF.new ?_|refine HF.fI ?_|refine HF.used ?_|refine HF.put (by first|(right;omega)|(left;simp only [List.mem_cons,true_or,or_true])) ?_)) av
def vC (k:Nat) (ig:Int) (fC:Int) (Bh:List Str):Option (List Operator):=
  Option.bind (vB k ig fC ([]:List Operator) Bh (Bh.length:Int) 0) (fun kD=>some kD)
theorem xC {k:Nat} {ig:Int} {fC:Int} {Bh:List Str} {c2:Ck} {r:List Operator} (h:vC k ig fC Bh=some r):aF Tryz.prog 113 [(.int .i64 ig),(.int .i64 fC),(.aA (Bh.map aI) c2)] (.aA (r.map Operator.cells) .unk):=by
  refine aF.lw (.same (.same (.aA .nil))) (aF.aQ (bf.mem (.cons (.int _ _) (.cons (.int _ _) (.cons (aU bg _) .nil)))) (aG arB (by simp) (aD ?_)) (aU Operator.pu _));unfold vC at h;unfold ai0;try refine ah ?_
  obtain⟨o12,PW,h⟩:=aj h;refine Uh k ig fC ([]:List Operator) Bh (Bh.length:Int) 0 .nil _ _ _ _ (Fr.refl _ _) (HF.refl _ _) av fG _ PW _ ?_
  ·rintro kD c18 σ' H17 eo yg Y4 oW;rw [eo]at h;have le:=Y4.1;try simp only [AH.aK,AH.aL,AH.aM,AH.aN]at le
   obtain rfl:=ak h;try refine ah ?_
   exact(d9 Operator.pu _ _)
def vD:Nat->Int->Int->Bool->(List Operator)->(List Str)->Int->Int->Option (List Operator)
  |0,_,_,_,_,_,_,_=>none
  |k+1,ig,fC,nK,BL,iX,dO,GI=>
    cond (decide (GI<dO)) (if 0<=GI then Option.bind (iX[GI.toNat]?) fun x3=>if(BL.length+1)*64<=1099511627776 then vD k ig fC nK (BL++[(Operator.mk x3 1 ig fC nK 2 2)]) iX dO (IntKind.wrap .i64 (GI+1))else none else none) (some (BL))
def JF:List Nat:=[9,11]++List.range' 14 13
theorem Ui: ∀(k:Nat) (ig:Int) (fC:Int) (nK:Bool) (BL:List Operator) (iX:List Str) (dO:Int) (GI:Int) (wu:Ck) (aC σ:Nat->PV) (H0 H:AH) (f0:Fr JF aC σ) (hf0:HF [] H0 H) (sl:σ 0=(.int .i64 ig)/\σ 1=(.int .i64 fC)/\σ 2=(.bool nK)/\σ 9=(.aA (BL.map Operator.cells) wu)/\σ 12=(.aA (iX.map aI) .unk)/\σ 13=(.int .i64 dO)/\σ 14=(.int .i64 GI)) (Y5:bn H wu) (o:List Operator) (h:vD k ig fC nK BL iX dO GI=some o) (Q:Post) (q0: ∀(p:List Operator) (c0:Ck) (σ':Nat->PV) (H':AH),o=p->Fr JF aC σ'->HF [] H0 H'->(σ' 9=(.aA (p.map Operator.cells) c0))->Q (.exit 0) σ' H'),W Tryz.prog (.loop N8) Q σ H:=by
  intro k
  induction k with
  |zero=>intro ig fC nK BL iX dO GI wu aC σ H0 H f0 hf0 sl Y5 o h Q q0;simp only [vD,reduceCtorEq]at h
  |succ k ih=>
    intro ig fC nK BL iX dO GI wu aC σ H0 H f0 hf0 sl Y5 o h Q q0;obtain⟨s0,s1,s2,s9,s12,s13,JC⟩:=sl;have hle0:=hf0.1;unfold vD at h;refine aT (fun K hK=>aD ?_);unfold N8;rcases au h with⟨e1,h⟩|⟨e1,h⟩
    ·obtain⟨e2,h⟩:=aP h;obtain⟨x3,e4,h⟩:=aj h;obtain⟨e9,h⟩:=aP h;try refine ah ?_
     refine gu (f:=Operator.cells) Operator.row BL ([(Operator.mk x3 1 ig fC nK 2 2)]:List Operator) wu .exact av av fG (by first|exact e9|(simp only [List.length_cons,List.length_nil];exact e9)) (fun c5 H6 ok7 le ahG rl8=> ?_);have ahH:HF [] _ H6:=⟨le,fun i _ _=>ahG i⟩;try simp only [AH.aK,AH.aL,AH.aM,AH.aN]at le
     try refine ah ?_
     refine hK _ _ ?_;exact ih ig fC nK (BL++[(Operator.mk x3 1 ig fC nK 2 2)]) iX dO (IntKind.wrap .i64 (GI+1)) c5 _ _ _ _ aJ (by repeat (first|exact hf0|refine HF.new ?_|refine HF.fI ?_|refine HF.used ?_|refine HF.put (by first|(right;omega)|(left;simp only [List.mem_cons,true_or,or_true])) ?_|refine HF.via ahH (by first|exact fun i hi=>absurd hi List.not_mem_nil|(intro i hi;simp only [List.mem_cons,List.not_mem_nil,or_false]at hi⊢;first|exact .inl hi|omega)) ?_)) av fG _ h _ q0
    ·obtain rfl:=ak h;try refine ah ?_
     exact q0 _ wu _ _ rfl aJ (by repeat (first|exact hf0|refine HF.new ?_|refine HF.fI ?_|refine HF.used ?_|refine HF.put (by first|(right;omega)|(left;simp only [List.mem_cons,true_or,or_true])) ?_)) av
def fT (k:Nat) (ig:Int) (fC:Int) (nK:Bool) (Bj:List Str):Option (List Operator):=
  Option.bind (vD k ig fC nK ([]:List Operator) Bj (Bj.length:Int) 0) (fun kD=>some kD)
theorem fq {k:Nat} {ig:Int} {fC:Int} {nK:Bool} {Bj:List Str} {c3:Ck} {r:List Operator} (h:fT k ig fC nK Bj=some r):aF Tryz.prog 114 [(.int .i64 ig),(.int .i64 fC),(.bool nK),(.aA (Bj.map aI) c3)] (.aA (r.map Operator.cells) .unk):=by
  refine aF.lw (.same (.same (.same (.aA .nil)))) (aF.aQ (bf.mem (.cons (.int _ _) (.cons (.int _ _) (.cons (.bool _) (.cons (aU bg _) .nil))))) (aG ai2 (by simp) (aD ?_)) (aU Operator.pu _));unfold fT at h;unfold ai1;try refine ah ?_
  obtain⟨o12,PW,h⟩:=aj h;refine Ui k ig fC nK ([]:List Operator) Bj (Bj.length:Int) 0 .nil _ _ _ _ (Fr.refl _ _) (HF.refl _ _) av fG _ PW _ ?_
  ·rintro kD c18 σ' H17 eo yg Y4 oW;rw [eo]at h;have le:=Y4.1;try simp only [AH.aK,AH.aL,AH.aM,AH.aN]at le
   obtain rfl:=ak h;try refine ah ?_
   exact(d9 Operator.pu _ _)
def qp:Nat->Int->(List (List Operator))->Int->Option Int
  |0,_,_,_=>none
  |k+1,zU,FW,bO=>
    cond (decide (bO<24)) (if 0<=bO then Option.bind (FW[bO.toNat]?) fun x50=>cond (decide ((IntKind.wrap .i64 (zU+(x50.length:Int)))<0)) (none) (qp k (IntKind.wrap .i64 (zU+(x50.length:Int))) FW (IntKind.wrap .i64 (bO+1)))else none) (some (zU))
def EA:List Nat:=[3,5]++List.range' 11 12
theorem MG: ∀(k:Nat) (zU:Int) (FW:List (List Operator)) (bO:Int) (Jb:Ck) (aC σ:Nat->PV) (H:AH) (f0:Fr EA aC σ) (sl:σ 3=(.int .i64 zU)/\σ 9=(.aA (FW.map (CZ Operator.cells)) Jb)/\σ 10=(.int .i64 24)/\σ 11=(.int .i64 bO)) (o:Int) (h:qp k zU FW bO=some o) (Q:Post) (q0: ∀(p:Int) (σ':Nat->PV),o=p->Fr EA aC σ'->(σ' 3=(.int .i64 p))->Q (.exit 0) σ' H),W Tryz.prog (.loop N9) Q σ H:=by
  intro k
  induction k with
  |zero=>intro zU FW bO Jb aC σ H f0 sl o h Q q0;simp only [qp,reduceCtorEq]at h
  |succ k ih=>
    intro zU FW bO Jb aC σ H f0 sl o h Q q0;obtain⟨s3,s9,s10,s11⟩:=sl;unfold qp at h;refine aT (fun K hK=>aD ?_);unfold N9;rcases au h with⟨e48,h⟩|⟨e48,h⟩
    ·obtain⟨e49,h⟩:=aP h;obtain⟨x50,e51,h⟩:=aj h;rcases au h with⟨e52,h⟩|⟨e52,h⟩
     ·cases h
     ·try refine cu ?_
      refine hK _ _ ?_;exact ih (IntKind.wrap .i64 (zU+(x50.length:Int))) FW (IntKind.wrap .i64 (bO+1)) Jb _ _ _ aJ eP _ h _ q0
    ·obtain rfl:=ak h;try refine cu ?_
     exact q0 _ _ rfl aJ eP
def qw:Nat->(List Operator)->(List (List Operator))->Int->Option (List Operator)
  |0,_,_,_=>none
  |k+1,mE,iW,fO=>
    cond (decide (fO<24)) (if 0<=fO then Option.bind (iW[fO.toNat]?) fun x71=>if 0<x71.length/\(mE.length+x71.length)*64<=1099511627776 then qw k (mE++x71) iW (IntKind.wrap .i64 (fO+1))else none else none) (some (mE))
def EB:List Nat:=[6,8]++List.range' 27 8
theorem MH: ∀(k:Nat) (rE:PV) (rF:List Nat) (M:List Nat) (mE:List Operator) (iW:List (List Operator)) (fO:Int) (FY:Ck) (aC σ:Nat->PV) (H0 H:AH) (f0:Fr EB aC σ) (hf0:HF M H0 H) (sl:σ 6=rE/\σ 25=(.aA (iW.map (CZ Operator.cells)) FY)/\σ 26=(.int .i64 24)/\σ 27=(.int .i64 fO)) (rG:aO H Operator.cells 7 mE rE rF) (tJ:Nw H0 M rF) (o:List Operator) (h:qw k mE iW fO=some o) (Q:Post) (q0: ∀(p:List Operator) (v0:PV) (sP:List Nat) (σ':Nat->PV) (H':AH),o=p->Fr EB aC σ'->HF M H0 H'->(σ' 6=v0)->aO H' Operator.cells 7 p v0 sP->Nw H0 M sP->Q (.exit 2) σ' H'),W Tryz.prog (.loop Oa) Q σ H:=by
  intro k
  induction k with
  |zero=>intro rE rF M mE iW fO FY aC σ H0 H f0 hf0 sl rG tJ o h Q q0;simp only [qw,reduceCtorEq]at h
  |succ k ih=>
    intro rE rF M mE iW fO FY aC σ H0 H f0 hf0 sl rG tJ o h Q q0;obtain⟨s6,s25,s26,s27⟩:=sl;have hle0:=hf0.1;unfold qw at h;refine aT (fun K hK=>aD ?_);unfold Oa;rcases au h with⟨e69,h⟩|⟨e69,h⟩
    ·obtain⟨e70,h⟩:=aP h;obtain⟨x71,e72,h⟩:=aj h;obtain⟨PX,h⟩:=aP h;try refine cu ?_
     refine Kr (f:=Operator.cells) (v:=rE) Operator.row mE (x71:List Operator) .unk eP (by repeat (first|exact rG|apply aO.new|refine aO.put ?_ (fun hm=>by have:=aO.lt rG _ hm;omega))) eP PX.1 PX.2 (fun v74 asq H76 r77 avU apn ahf=> ?_);have le:=apn.1;try simp only [AH.aK,AH.aL,AH.aM,AH.aN]at le
     try refine cu ?_
     refine hK _ _ ?_;exact ih v74 asq M (mE++x71) iW (IntKind.wrap .i64 (fO+1)) FY _ _ _ _ aJ (by repeat (first|exact hf0|refine HF.new ?_|refine HF.fI ?_|refine HF.used ?_|refine HF.put (by first|(right;omega)|(left;simp only [List.mem_cons,true_or,or_true])) ?_|refine HF.via apn tJ ?_)) eP (by repeat (first|exact r77|apply aO.new|refine aO.put ?_ (fun hm=>by have:=aO.lt r77 _ hm;omega))) (Nw.trans tJ bQ avU) _ h _ q0
    ·obtain rfl:=ak h;try refine cu ?_
     exact q0 _ rE rF _ _ rfl aJ (by repeat (first|exact hf0|refine HF.new ?_|refine HF.fI ?_|refine HF.used ?_|refine HF.put (by first|(right;omega)|(left;simp only [List.mem_cons,true_or,or_true])) ?_)) eP (by repeat (first|exact rG|apply aO.new|refine aO.put ?_ (fun hm=>by have:=aO.lt rG _ hm;omega))) tJ
def wz:Nat->(List Operator)->Int->Int->Option (List Operator)
  |0,_,_,_=>none
  |k+1,gN,GJ,lN=>
    cond (decide (lN<GJ)) (if 0<=lN then Option.bind (gN[lN.toNat]?) fun x95=>cond (x95.text==([92,88]:Str)) (wz k (gN.set lN.toNat (Operator.mk x95.text x95.fix x95.low x95.high x95.left x95.least 4)) GJ (IntKind.wrap .i64 (lN+1))) (wz k gN GJ (IntKind.wrap .i64 (lN+1)))else none) (some (gN))
def Nh:List Nat:=[4]++List.range' 80 14
theorem Y6: ∀(k:Nat) (yK:PV) (vE:List Nat) (M:List Nat) (gN:List Operator) (GJ:Int) (lN:Int) (aC σ:Nat->PV) (H0 H:AH) (f0:Fr Nh aC σ) (hf0:HF M H0 H) (sl:σ 3=yK/\σ 79=(.int .i64 GJ)/\σ 80=(.int .i64 lN)) (wB:aO H Operator.cells 7 gN yK vE) (Bl:Nw H0 M vE) (o:List Operator) (h:wz k gN GJ lN=some o) (Q:Post) (q0: ∀(p:List Operator) (v0:PV) (sP:List Nat) (σ':Nat->PV) (H':AH),o=p->Fr Nh aC σ'->HF M H0 H'->(σ' 3=v0)->aO H' Operator.cells 7 p v0 sP->Nw H0 M sP->Q (.exit 0) σ' H'),W Tryz.prog (.loop SF) Q σ H:=by
  intro k
  induction k with
  |zero=>intro yK vE M gN GJ lN aC σ H0 H f0 hf0 sl wB Bl o h Q q0;simp only [wz,reduceCtorEq]at h
  |succ k ih=>
    intro yK vE M gN GJ lN aC σ H0 H f0 hf0 sl wB Bl o h Q q0;obtain⟨s3,s79,s80⟩:=sl;have hle0:=hf0.1;unfold wz at h;refine aT (fun K hK=>aD ?_);unfold SF;rcases au h with⟨PY,h⟩|⟨PY,h⟩
    ·obtain⟨e94,h⟩:=aP h;obtain⟨x95,e96,h⟩:=aj h;obtain⟨w97,Qh,apo,hil,w99,hC,hL,hD,hI⟩:=aO.content wB e96;have aAF:=ne_next hil;have aAG:=aV hil;have aAH:kT 7 yK (.int .i64 lN)=some (.ref w97 (lN.toNat*7)):=by simpa using hI .i64 lN (by first|omega|decide) (by first|rfl|omega)
     have azB:Qh[lN.toNat*7]? =some (.str x95.text):=by simpa using hC 0 _ rfl
     have azC:Qh[lN.toNat*7+1]? =some (.int .i64 x95.fix):=by simpa using hC 1 _ rfl
     have azD:Qh[lN.toNat*7+2]? =some (.int .i64 x95.low):=by simpa using hC 2 _ rfl
     have azE:Qh[lN.toNat*7+3]? =some (.int .i64 x95.high):=by simpa using hC 3 _ rfl
     have azF:Qh[lN.toNat*7+4]? =some (.bool x95.left):=by simpa using hC 4 _ rfl
     have azG:Qh[lN.toNat*7+5]? =some (.int .i64 x95.least):=by simpa using hC 5 _ rfl
     have azH:Qh[lN.toNat*7+6]? =some (.int .i64 x95.most):=by simpa using hC 6 _ rfl
     have aAI:lN.toNat*7+7<=Qh.length:=by simpa using hL 7 (Nat.le_refl _)
     have aAJ:List.take 7 (List.drop (lN.toNat*7) Qh)=Operator.cells x95:=hD;clear hC hL hD hI;rcases au h with⟨I4,h⟩|⟨I4,h⟩
     ·try refine cu ?_
      refine qg (f:=Operator.cells) (id:=w97) (o:=lN.toNat*7+6) (i:=lN.toNat) (j:=6) (a:=x95) (y:=(Operator.mk x95.text x95.fix x95.low x95.high x95.left x95.least 4)) (vs:=[(.int .i64 4)]) eP apo (by omega) (by repeat (first|exact wB|apply aO.new|refine aO.put ?_ (fun hm=>by have:=aO.lt wB _ hm;omega))) e96 eP rfl rfl (by first|decide|(simp only [List.length_cons,List.length_nil];omega)) rfl (fun aAK apq Xl aiX=> ?_);have le:=Xl.1;try simp only [AH.aK,AH.aL,AH.aM,AH.aN]at le
      try refine cu ?_
      refine hK _ _ ?_;exact ih yK vE M (gN.set lN.toNat (Operator.mk x95.text x95.fix x95.low x95.high x95.left x95.least 4)) GJ (IntKind.wrap .i64 (lN+1)) _ _ _ _ aJ (by repeat (first|exact hf0|refine HF.new ?_|refine HF.fI ?_|refine HF.used ?_|refine HF.put (by first|(right;omega)|(left;simp only [List.mem_cons,true_or,or_true])) ?_|refine HF.via Xl Bl ?_)) eP (by repeat (first|exact apq|apply aO.new|refine aO.put ?_ (fun hm=>by have:=aO.lt apq _ hm;omega))) Bl _ h _ q0
     ·try refine cu ?_
      refine hK _ _ ?_;exact ih yK vE M gN GJ (IntKind.wrap .i64 (lN+1)) _ _ _ _ aJ (by repeat (first|exact hf0|refine HF.new ?_|refine HF.fI ?_|refine HF.used ?_|refine HF.put (by first|(right;omega)|(left;simp only [List.mem_cons,true_or,or_true])) ?_)) eP (by repeat (first|exact wB|apply aO.new|refine aO.put ?_ (fun hm=>by have:=aO.lt wB _ hm;omega))) Bl _ h _ q0
    ·obtain rfl:=ak h;try refine cu ?_
     exact q0 _ yK vE _ _ rfl aJ (by repeat (first|exact hf0|refine HF.new ?_|refine HF.fI ?_|refine HF.used ?_|refine HF.put (by first|(right;omega)|(left;simp only [List.mem_cons,true_or,or_true])) ?_)) eP (by repeat (first|exact wB|apply aO.new|refine aO.put ?_ (fun hm=>by have:=aO.lt wB _ hm;omega))) Bl
def DU (k:Nat):Option (List Operator):=
  Option.bind (vC k 4 4 [([126]:Str)]) fun p2=>Option.bind (vC k 4 15 [([69,78,65,66,76,69,68]:Str),([85,78,67,72,65,78,71,69,68]:Str),([91,93]:Str),([60,62]:Str)]) fun p4=>Option.bind (vC k 8 8 [([83,85,66,83,69,84]:Str),([85,78,73,79,78]:Str)]) fun p6=>Option.bind (vC k 9 9 [([68,79,77,65,73,78]:Str)]) fun p8=>Option.bind (vC k 12 12 [([45,46]:Str)]) fun iN=>Option.bind (fT k 1 1 false [([61,62]:Str)]) fun lT=>Option.bind (fT k 2 2 false [([60,61,62]:Str),([126,62]:Str)]) fun kD=>Option.bind (fT k 3 3 true [([47,92]:Str),([92,47]:Str)]) fun p16=>Option.bind (fT k 5 5 false [([61]:Str),([35]:Str),([60]:Str),([60,61]:Str),([62]:Str),([62,61]:Str),([92,105,110]:Str),([92,110,111,116,105,110]:Str),([92,115,117,98,115,101,116,101,113]:Str),([92,115,113,115,117,98,115,101,116,101,113]:Str)]) fun wO=>Option.bind (fT k 6 6 true [([64,64]:Str)]) fun q8=>Option.bind (fT k 7 7 false [([58,62]:Str)]) fun Jt=>Option.bind (fT k 5 14 true [([92,99,100,111,116]:Str)]) fun wZ=>Option.bind (fT k 8 8 true [([92,99,117,112]:Str),([92,99,97,112]:Str)]) fun p26=>Option.bind (fT k 8 8 false [([92]:Str)]) fun p28=>Option.bind (fT k 9 9 false [([46,46]:Str)]) fun p30=>Option.bind (fT k 10 10 true [([43]:Str),([40,43,41]:Str)]) fun p32=>Option.bind (fT k 10 11 false [([37]:Str)]) fun p34=>Option.bind (fT k 10 13 false [([92,88]:Str)]) fun p36=>Option.bind (fT k 11 11 true [([45]:Str),([40,45,41]:Str)]) fun p38=>Option.bind (fT k 13 13 true [([42]:Str)]) fun p40=>Option.bind (fT k 13 13 false [([92,100,105,118]:Str)]) fun p42=>Option.bind (fT k 13 13 true [([92,111]:Str)]) fun p44=>Option.bind (fT k 14 14 false [([94]:Str)]) fun p46=>Option.bind (qp k 0 [p2,p4,p6,p8,iN,lT,kD,p16,wO,q8,Jt,wZ,p26,p28,p30,p32,p34,p36,p38,p40,p42,p44,p46,[(Operator.mk ([39]:Str) 2 15 15 false 1 1)]] 0) (fun p55=>if 0<p55/\p55<=1000000 then Option.bind (qw k ([]:List Operator) [p2,p4,p6,p8,iN,lT,kD,p16,wO,q8,Jt,wZ,p26,p28,p30,p32,p34,p36,p38,p40,p42,p44,p46,[(Operator.mk ([39]:Str) 2 15 15 false 1 1)]] 0) (fun p83=>Option.bind (wz k p83 (p83.length:Int) 0) (fun apr=>some apr))else none)
theorem afv {k:Nat} {r:List Operator} (h:DU k=some r):aF Tryz.prog 65 [] (.aA (r.map Operator.cells) .unk):=by
  refine aF.aQ (bf.mem .nil) (aG au0 (by simp) (aD ?_)) (aU Operator.pu _);unfold DU at h;unfold anP;obtain⟨p2,e1,h⟩:=aj h;try refine cu ?_
  refine aB (xC e1) ?_;obtain⟨p4,e3,h⟩:=aj h;try refine cu ?_
  refine aB (xC e3) ?_;obtain⟨p6,e5,h⟩:=aj h;try refine cu ?_
  refine aB (xC e5) ?_;obtain⟨p8,e7,h⟩:=aj h;try refine cu ?_
  refine aB (xC e7) ?_;obtain⟨iN,e9,h⟩:=aj h;try refine cu ?_
  refine aB (xC e9) ?_;obtain⟨lT,e11,h⟩:=aj h;try refine cu ?_
  refine aB (fq e11) ?_;obtain⟨kD,e13,h⟩:=aj h;try refine cu ?_
  refine aB (fq e13) ?_;obtain⟨p16,e15,h⟩:=aj h;try refine cu ?_
  refine aB (fq e15) ?_;obtain⟨wO,e17,h⟩:=aj h;try refine cu ?_
  refine aB (fq e17) ?_;obtain⟨q8,e19,h⟩:=aj h;try refine cu ?_
  refine aB (fq e19) ?_;obtain⟨Jt,e21,h⟩:=aj h;try refine cu ?_
  refine aB (fq e21) ?_;obtain⟨wZ,e23,h⟩:=aj h;try refine cu ?_
  refine aB (fq e23) ?_;obtain⟨p26,e25,h⟩:=aj h;try refine cu ?_
  refine aB (fq e25) ?_;obtain⟨p28,e27,h⟩:=aj h;try refine cu ?_
  refine aB (fq e27) ?_;obtain⟨p30,e29,h⟩:=aj h;try refine cu ?_
  refine aB (fq e29) ?_;obtain⟨p32,e31,h⟩:=aj h;try refine cu ?_
  refine aB (fq e31) ?_;obtain⟨p34,e33,h⟩:=aj h;try refine cu ?_
  refine aB (fq e33) ?_;obtain⟨p36,e35,h⟩:=aj h;try refine cu ?_
  refine aB (fq e35) ?_;obtain⟨p38,e37,h⟩:=aj h;try refine cu ?_
  refine aB (fq e37) ?_;obtain⟨p40,e39,h⟩:=aj h;try refine cu ?_
  refine aB (fq e39) ?_;obtain⟨p42,e41,h⟩:=aj h;try refine cu ?_
  refine aB (fq e41) ?_;obtain⟨p44,e43,h⟩:=aj h;try refine cu ?_
  refine aB (fq e43) ?_;obtain⟨p46,e45,h⟩:=aj h;try refine cu ?_
  refine aB (fq e45) ?_;try refine cu ?_
  refine aG arC (by simp) (aD ?_);unfold ai3;try refine cu ?_
  obtain⟨o53,h54,h⟩:=aj h;refine MG k 0 [p2,p4,p6,p8,iN,lT,kD,p16,wO,q8,Jt,wZ,p26,p28,p30,p32,p34,p36,p38,p40,p42,p44,p46,[(Operator.mk ([39]:Str) 2 15 15 false 1 1)]] 0 .exact _ _ _ (Fr.refl _ _) eP _ h54 _ ?_
  ·rintro p55 σ' eo aos s59;rw [eo]at h;have Y7:σ' 0=(.aA ([p2,p4,p6,p8,iN,lT,kD,p16,wO,q8,Jt,wZ,p26,p28,p30,p32,p34,p36,p38,p40,p42,p44,p46,[(Operator.mk ([39]:Str) 2 15 15 false 1 1)]].map (CZ Operator.cells)) .exact):=(aos 0 (by decide)).trans eP;obtain⟨e61,h⟩:=aP h;try refine cu ?_
   refine aeX (f:=Operator.cells) (xs:=([]:List Operator)) (afs p55 e61) (fun v62 aj1 H64 r65 aAL avV ahd=> ?_);have le:=avV.1;try simp only [AH.aK,AH.aL,AH.aM,AH.aN]at le
   try refine cu ?_
   obtain⟨o81,h82,h⟩:=aj h;refine MH k v62 aj1 (aj1++[]) ([]:List Operator) [p2,p4,p6,p8,iN,lT,kD,p16,wO,q8,Jt,wZ,p26,p28,p30,p32,p34,p36,p38,p40,p42,p44,p46,[(Operator.mk ([39]:Str) 2 15 15 false 1 1)]] 0 .exact _ _ _ _ (Fr.refl _ _) (HF.refl _ _) eP (by repeat (first|exact r65|apply aO.new|refine aO.put ?_ (fun hm=>by have:=aO.lt r65 _ hm;omega))) (fun i hi=>Or.inl (by simp only [List.mem_append,List.mem_cons,hi,true_or,or_true])) _ h82 _ ?_
   ·rintro p83 v87 aj2 σ' H86 eo aAM avW s91 r89 aAN;rw [eo]at h;have le:=avW.1;try simp only [AH.aK,AH.aL,AH.aM,AH.aN]at le
    have w92:=aO.aha r89;try refine cu ?_
    obtain⟨o111,h112,h⟩:=aj h;refine Y6 k v87 aj2 (aj2++[]) p83 (p83.length:Int) 0 _ _ _ _ (Fr.refl _ _) (HF.refl _ _) eP (by repeat (first|exact r89|apply aO.new|refine aO.put ?_ (fun hm=>by have:=aO.lt r89 _ hm;omega))) (fun i hi=>Or.inl (by simp only [List.mem_append,List.mem_cons,hi,true_or,or_true])) _ h112 _ ?_
    ·rintro apr v117 ayq σ' avT eo azI asr aAO apt azJ;rw [eo]at h;have le:=asr.1;try simp only [AH.aK,AH.aL,AH.aM,AH.aN]at le
     obtain rfl:=ak h;try refine cu ?_
     exact(aO.fz Operator.pu (by repeat (first|exact apt|apply aO.new|refine aO.put ?_ (fun hm=>by have:=aO.lt apt _ hm;omega))))
end Go.VL
end
section
namespace Go.VL
open Go.Proofs Go.RowKit
def nA:List Operator:=(DU 100).getD []
theorem afw:DU 100=some nA:=by
  have h:(DU 100).isSome=true:=by kernel_rfl
  rw [nA];cases h1:DU 100 with
  |none=>rw [h1]at h;cases h
  |some r=>rfl
theorem apu:aF Tryz.prog 65 [] (.aA (nA.map Operator.cells) .unk):=afv afw
end Go.VL
end
section
set_option maxRecDepth 8000
set_option maxHeartbeats 4000000
namespace Go.VL
open Go.Proofs
def jV (k:Nat) (je:Str):Option (Operator×Bool):=
  Option.bind (eT k nA je) fun p2=>cond (decide (p2<0)) (some ((Operator.mk [] 0 0 0 false 0 0),false)) (if 0<=p2 then Option.bind (nA[p2.toNat]?) fun x5=>some (x5,true)else none)
theorem oH {k:Nat} {je:Str} {r:Operator×Bool} (h:jV k je=some r):aF Tryz.prog 63 [(.str je)] (.dM [(.agg (Operator.cells r.1)),(.bool r.2)]):=by
  refine aF.aQ (bf.mem (.cons (.str _) .nil)) (aG auY (by simp) (aD ?_)) (.dM _ (bf.mem (.cons (.agg _ (Operator.pu _)) (.cons (.bool _) .nil))));unfold jV at h;unfold anN;try refine ah ?_
  refine aB (apu) ?_;obtain⟨p2,e1,h⟩:=aj h;try refine ah ?_
  refine FJ (ql e1) (.cons (d9 Operator.pu _ _) (.cons (arh (.cons (amw av (.cons (.pure _ (.str _)) .nil)) .nil)) .nil)) (.cons (aU Operator.pu _) (.cons (.fn _ _ _ (bf.mem .nil) (bf.mem (.cons (.dX _ _ (bf.mem (.cons (.str _) .nil))) .nil))) .nil)) (.int _ _) ?_;rcases au h with⟨e3,h⟩|⟨e3,h⟩
  ·obtain rfl:=ak h;try refine ah ?_
   exact(dn (.cons (dH (.cons (.pure _ (.str _)) (.cons (.pure _ (.int _ _)) (.cons (.pure _ (.int _ _)) (.cons (.pure _ (.int _ _)) (.cons (.pure _ (.bool _)) (.cons (.pure _ (.int _ _)) (.cons (.pure _ (.int _ _)) .nil)))))))) (.cons (.pure _ (.bool _)) .nil)))
  ·obtain⟨e4,h⟩:=aP h;obtain⟨x5,e6,h⟩:=aj h;obtain rfl:=ak h;try refine ah ?_
   exact(dn (.cons (dH (.cons (.pure _ (.str _)) (.cons (.pure _ (.int _ _)) (.cons (.pure _ (.int _ _)) (.cons (.pure _ (.int _ _)) (.cons (.pure _ (.bool _)) (.cons (.pure _ (.int _ _)) (.cons (.pure _ (.int _ _)) .nil)))))))) (.cons (.pure _ (.bool _)) .nil)))
end Go.VL
end
section
set_option maxRecDepth 8000
set_option maxHeartbeats 4000000
namespace Go.VL
open Go.Proofs
def Xm (x_0:Int) (y_1:Int):Option (Int×Int):=
  if(0<=x_0/\x_0<18446744073709551616)/\(0<=y_1/\y_1<18446744073709551616)then some ((Qg x_0 y_1).1,(Qg x_0 y_1).2)else none
theorem alu {x_0:Int} {y_1:Int} {r:Int×Int} (h:Xm x_0 y_1=some r):aF Tryz.prog 147 [(.int .u64 x_0),(.int .u64 y_1)] (.dM [(.int .u64 r.1),(.int .u64 r.2)]):=by
  refine aF.aQ (bf.mem (.cons (.int _ _) (.cons (.int _ _) .nil))) (aG ar0 (by simp) (aD ?_)) (.dM _ (bf.mem (.cons (.int _ _) (.cons (.int _ _) .nil))));unfold Xm at h;unfold ajs;obtain⟨e1,h⟩:=aP h;try refine ah ?_
  refine aB (alr x_0 y_1 (by assumption)) ?_;obtain rfl:=ak h;try refine ah ?_
  exact(dn (.cons (.pure _ (.int _ _)) (.cons (.pure _ (.int _ _)) .nil)))
end Go.VL
end
section
namespace Go.VL
open Go.Proofs Go.RowKit
theorem vF {P:Program} {K:(Nat->PV)->AH->Prop} {σ:Nat->PV} {H:AH} {d:Option Nat} {k:RK} {l:List (aR×Bool)} (p:PV) (h: ∀H',rop k σ H'=some p)
    (hn:iK P (fun _=>True) l K (upd σ d p) H):iK P (fun _=>True) ((⟨d,.r k,none⟩,false)::l) K σ H:=by
  unfold iK;refine .inr ⟨trivial,p,fun H' _=> ?_,hn⟩;show(match rop k σ H' with|some q=>(q=p/\H'=H')|none=>False)
  rw [h H'];exact⟨rfl,rfl⟩
theorem Y8: ∀l:List PV,(l.map fun c=>[c]).flatten=l
  |[]=>rfl
  |a::l=>by rw [List.map_cons,List.flatten_cons,Y8 l];rfl
theorem adE (l rest:List PV):chunks 1 l.length (l++rest)=l.map fun c=>[c]:=by
  have h:=y9 (sz:=1) (l.map fun c=>[c]) rest (by simp);rw [List.length_map,Y8]at h;exact h
theorem FZ (x:PV): ∀m,(List.replicate m [x]).flatten=List.replicate m x
  |0=>rfl
  |m+1=>by rw [List.replicate_succ,List.flatten_cons,FZ x m];rfl
theorem apv (x:Int) (id n:Nat) (H0:AH) (Q:Post) (hn:n<=1000000)
    (hx: ∀σ' H',σ' 7= .bS id 0 n n 1->H'.obj id=some (List.replicate n (.int .i64 x))->H'.next=H0.next->(∀i,i≠id->H'.obj i=H0.obj i)->(∀k,H'.live k=H0.live k)->Q (.exit 0) σ' H'):
    ∀(d m:Nat) (σ:Nat->PV) (H:AH) (rest:List PV),n -m<=d->m<=n->(m=0->n=0)->σ 7= .bS id 0 n n 1->σ 8= .int .i64 m->H.obj id=some (List.replicate m (.int .i64 x)++rest)->rest.length=n -m->
      H.next=H0.next->(∀i,i≠id->H.obj i=H0.obj i)->(∀k,H.live k=H0.live k)->W Tryz.prog (.loop LY) Q σ H:=by
  intro d
  induction d with
  |zero=>
    intro m σ H rest hd hm h0 h7 h8 ho hr h1 h2 h3;have e:m=n:=by omega
    subst e;have c1:decide ((m:Int)<(m:Int))=false:=decide_eq_false (by omega);refine aT (fun K hK=>aD ?_);unfold LY;simp -implicitDefEqProofs only [go_sem,↓reduceIte,Nat.reduceEqDiff,h7,h8,c1];have hr0:rest=[]:=List.eq_nil_of_length_eq_zero (by omega);subst hr0;refine hx _ _ ?_ (by rw [ho,List.append_nil]) h1 h2 h3;simp only [xY,Nat.reduceEqDiff,↓reduceIte,h7]
  |succ d ih=>
    intro m σ H rest hd hm h0 h7 h8 ho hr h1 h2 h3;by_cases hmn:m=n
    · exact ih m σ H rest (by omega) hm h0 h7 h8 ho hr h1 h2 h3
    have c1:decide ((m:Int)<(n:Int))=true:=decide_eq_true (by omega);refine aT (fun K hK=>aD ?_);unfold LY;simp -implicitDefEqProofs only [go_sem,↓reduceIte,Nat.reduceEqDiff,h7,h8,c1];refine⟨fun _=>True,trivial,?_⟩;refine vF (.int .i64 m) (fun H'=>by simp [rop,AE.ev,upd,h7,h8]) ?_;refine vF (.bS id 0 n n 1) (fun H'=>by simp [rop,AE.ev,upd,h7,h8]) ?_;refine vF (.int .i64 m) (fun H'=>by simp [rop,AE.ev,upd,h7,h8]) ?_;refine vF (.bS id m (n -m) (n -m) 1) (fun H'=>by simp [rop,AE.ev,upd,pG,mY,h7,h8];omega) ?_;refine vF (.bS id 0 n n 1) (fun H'=>by simp [rop,AE.ev,upd,h7,h8]) ?_;refine vF (.int .i64 m) (fun H'=>by simp [rop,AE.ev,upd,h7,h8]) ?_;refine vF (.bS id 0 m n 1) (fun H'=>by simp [rop,AE.ev,upd,pG,mY,h7,h8];omega) ?_;have hch:chunks 1 m (List.replicate m (.int .i64 x)++rest)=List.replicate m [.int .i64 x]:=by
      have h:=adE (List.replicate m (.int .i64 x)) rest;rw [List.length_replicate,List.map_replicate]at h;exact h
    unfold iK;refine .inr ⟨trivial,.int .i64 (min m (n -m):Nat),H.put id (List.replicate (m+min m (n -m)) (.int .i64 x)++rest.drop (min m (n -m))),?_,trivial,?_⟩
    · have hy:rowOf 1 H (PV.bS id 0 m n 1)=some (List.replicate m [.int .i64 x]):=by
        have hl:0+m*1<=(List.replicate m (PV.int .i64 x)++rest).length:=by rw [List.length_append,List.length_replicate];omega
        simp only [rowOf,ho];rw [if_pos ⟨trivial,hl⟩,List.drop_zero,hch]
      have hsz:qG 1 (List.replicate m [PV.int .i64 x]):=fun cs hcs=>by
        rw [(List.mem_replicate.1 hcs).2];exact⟨rfl,fun c hc=>by rw [List.mem_singleton.1 hc];rfl⟩
      have hle:m+(n -m)*1<=(List.replicate m (PV.int .i64 x)++rest).length:=by rw [List.length_append,List.length_replicate];omega
      have hput:putCells (List.replicate m (PV.int .i64 x)++rest) m ((List.replicate m [PV.int .i64 x]).take (n -m)).flatten=List.replicate (m+min m (n -m)) (.int .i64 x)++rest.drop (min m (n -m)):=by
        rw [List.take_replicate,FZ];unfold putCells;rw [List.length_replicate];have e1:(List.replicate m (PV.int .i64 x)++rest).take m=List.replicate m (PV.int .i64 x):=by
          rw [List.take_append_of_le_length (by rw [List.length_replicate];omega),List.take_of_length_le (by rw [List.length_replicate];omega)]
        have e2:(List.replicate m (PV.int .i64 x)++rest).drop (m+min (n -m) m)=rest.drop (min m (n -m)):=by
          rw [List.drop_append,List.length_replicate,List.drop_eq_nil_of_le (by rw [List.length_replicate];omega),List.nil_append];congr 1
          omega
        rw [e1,e2,List.replicate_append_replicate,Nat.min_comm m]
      simp only [iM,nop,AE.ev,xY,Nat.reduceEqDiff,↓reduceIte,hy];simp only [ho];rw [if_pos ⟨trivial,hsz,hle⟩];refine⟨?_,by rw [hput]⟩;rw [List.length_replicate]
    · have hm2:(m:Int)+((min m (n -m):Nat):Int)=((m+min m (n -m):Nat):Int):=by omega
      have hw:IntKind.wrap .i64 ((m:Int)+((min m (n -m):Nat):Int))=((m+min m (n -m):Nat):Int):=by
        rw [hm2];exact IntWalk.i64_in _ (by omega)
      unfold iK;refine eB ?_;simp -implicitDefEqProofs only [go_sem,↓reduceIte,Nat.reduceEqDiff,h7,h8,hw];refine hK _ _ (ih (m+min m (n -m)) _ _ (rest.drop (min m (n -m))) (by omega) (by omega) (by omega) ?_ ?_ ?_ (by rw [List.length_drop];omega) h1 ?_ h3)
      · simp only [xY,Nat.reduceEqDiff,↓reduceIte,h7]
      · simp only [xY,Nat.reduceEqDiff,↓reduceIte]
      · show(if id=id then some _ else _)=_
        rw [if_pos rfl]
      · intro i hi;show(if i=id then some _ else _)=_
        rw [if_neg hi];exact h2 i hi
section
variable {P:Program} {Q:Post} {σ:Nat->PV} {s:List Fm} {H:AH}
theorem apw {d:Option Nat} {x y:AE} {l:List aR} {k k':IntKind} {n:Nat} (hx:x.ev σ= .int k n) (hy:y.ev σ= .int k' n) (hb:n<=1000000)
    (h:WO P l s Q (upd σ d (.bS H.next 0 n n 1)) (H.new (List.replicate n (.int .i64 0)))):WO P (⟨d,.d (.wS 1 8 [.int .i64 0] x y),none⟩::l) s Q σ H:=by
  show WD P (jv (.wS 1 8 [.int .i64 0] x y) σ H) d l s Q σ
  simp only [jv,hx,hy];rw [if_pos ⟨by omega,by omega,by omega,by omega,rfl,by decide⟩];rw [Int.toNat_natCast,FZ];exact h
theorem alv {d:Option Nat} {x y:AE} {l:List aR} {id off len cap sz:Nat} {fs:List (List PV)} {cs:List PV} (hx:x.ev σ= .bS id off len cap sz) (hy:rowOf sz H (y.ev σ)=some fs) (ho:H.obj id=some cs)
    (hsz:qG sz fs) (hle:off+len*sz<=cs.length)
    (h:WO P l s Q (upd σ d (.int .i64 (min fs.length len:Nat))) (H.put id (putCells cs off (fs.take len).flatten))):WO P (⟨d,.n (.copy sz x y),none⟩::l) s Q σ H:=by
  show dF P _ _ σ H
  rw [G9];simp only [nop,hx,hy,ho];rw [if_pos ⟨trivial,hsz,hle⟩];exact h
end
theorem asu (x:Int) (n:Int) (hn:0<=n/\n<=1000000):IL Tryz.prog 94 [.aA [[.int .i64 x]] .exact,.int .i64 n] aX 1 (List.replicate n.toNat x):=by
  intro H;obtain⟨n,rfl⟩: ∃k:Nat,n=k:=⟨n.toNat,by omega⟩;refine aG avj (by simp) (aD ?_);unfold aob;have c1:decide ((n:Int)<0)=false:=decide_eq_false (by omega);have c2:IntKind.wrap .u64 1=1:=by decide
  have c3:IntKind.wrap .u64 (n:Int)=n:=IntWalk.u64_in _ (by omega);have c4:IntKind.wrap .i64 (n:Int)=n:=IntWalk.i64_in _ (by omega);have hm:Xm 1 n=some ((0:Int),(n:Int)):=by
    unfold Xm Qg;rw [if_pos ⟨⟨by omega,by omega⟩,by omega,by omega⟩];have e1:((1:Int).toNat*((n:Nat):Int).toNat/18446744073709551616:Nat)=0:=by
      rw [Int.toNat_natCast];show(1*n)/_=0;omega
    have e2:((1:Int).toNat*((n:Nat):Int).toNat% 18446744073709551616:Nat)=n:=by
      rw [Int.toNat_natCast];show(1*n)% _=n;omega
    rw [e1,e2];rfl
  have hc:=alu hm;have d1:decide ((n:Int)>9223372036854775807)=false:=decide_eq_false (by omega);unfold abG abH;simp -implicitDefEqProofs only [go_sem,↓reduceIte,Nat.reduceEqDiff,Nat.reduceAdd,List.length_cons,List.length_nil,c1,c2,c3,c4,d1];refine bC.mono (hc H) fun v H' hv=> ?_;obtain⟨rfl,rfl⟩:=hv;have d0:decide ((0:Int)>0)=false:=by decide
  simp -implicitDefEqProofs only [go_sem,↓reduceIte,Nat.reduceEqDiff,Nat.reduceAdd,List.length_cons,List.length_nil,c1,c2,c3,c4,d0,d1];refine apw (k:= .i64) (k':= .i64) (n:=n) (by simp only [go_sem,↓reduceIte,Nat.reduceEqDiff]) (by simp only [go_sem,↓reduceIte,Nat.reduceEqDiff]) (by omega) ?_;have zQ:(H'.new (List.replicate n (PV.int .i64 0))).obj H'.next=some (List.replicate n (PV.int .i64 0)):=by
    show(if H'.next=H'.next then some _ else _)=_
    rw [if_pos rfl]
  simp -implicitDefEqProofs only [go_sem,↓reduceIte,Nat.reduceEqDiff,Nat.reduceAdd]
  refine alv (id:=H'.next) (off:=0) (len:=n) (cap:=n) (fs:=[[.int .i64 x]]) (cs:=List.replicate n (.int .i64 0)) (by simp only [go_sem,↓reduceIte,Nat.reduceEqDiff]) (by simp only [go_sem,↓reduceIte,Nat.reduceEqDiff];rfl) zQ
    (by intro cs hcs;rw [List.mem_singleton.1 hcs];exact⟨rfl,fun c hc=>by rw [List.mem_singleton.1 hc];rfl⟩) (by rw [List.length_replicate];omega) ?_
  have hput:putCells (List.replicate n (PV.int .i64 0)) 0 (([[PV.int .i64 x]]:List (List PV)).take n).flatten=List.replicate (min 1 n) (.int .i64 x)++List.replicate (n -min 1 n) (.int .i64 0):=by
    cases n with
    |zero=>rfl
    |succ n=>
      have e:min 1 (n+1)=1:=by omega
      rw [e,List.take_of_length_le (by simp)];simp [putCells,List.replicate_succ]
  rw [hput];have e1:(min ([[PV.int .i64 x]]:List (List PV)).length n:Nat)=min 1 n:=rfl;rw [e1];simp -implicitDefEqProofs only [go_sem,↓reduceIte,Nat.reduceEqDiff,Nat.reduceAdd];have asv: ∀cs:List PV,(((H'.new (List.replicate n (PV.int .i64 0))).put H'.next cs).obj H'.next)=some cs:=fun cs=>by
    show(if H'.next=H'.next then some _ else _)=_
    rw [if_pos rfl]
  refine apv x H'.next n ((H'.new (List.replicate n (PV.int .i64 0)))) _ (by omega) (fun σ' H2 k7 ko kn kob kl=> ?_) n (min 1 n) _ _ (List.replicate (n -min 1 n) (.int .i64 0)) (by omega) (by omega) (by omega) ?_ ?_ (asv _) (by rw [List.length_replicate]) rfl
    (fun i hi=> ?_) (fun k=>rfl)
  · show WE Tryz.prog (.exit 0) _ _ σ' H2
    simp -implicitDefEqProofs only [go_sem,↓reduceIte,Nat.reduceEqDiff,Nat.reduceAdd,k7];refine⟨[H'.next],.inr ⟨H'.next,n,[],rfl,by rw [List.length_replicate],by rw [List.length_replicate];omega,by rw [kn];exact Nat.lt_succ_self _,?_,?_⟩,fun i hi=> .inr (by rw [List.mem_singleton.1 hi];exact Nat.le_refl _),⟨by rw [kn];exact Nat.le_succ _,fun i hi _=> ?_⟩,fun c3 hc=> ?_⟩
    · rw [ko,List.append_nil,List.map_replicate];exact congrArg some (FZ (PV.int .i64 x) n).symm
    · rw [List.length_replicate];simp
    · rw [kob i (by omega)];show(if i=H'.next then some _ else _)=_
      rw [if_neg (by omega)]
    · cases c3 with
      |unk=>exact hc
      |tok t=>exact⟨by rw [kl];exact hc.1,by rw [kn];exact Nat.lt_succ_of_lt hc.2⟩
      |nil=>trivial
      |exact=>trivial
  · simp only [xY,Nat.reduceEqDiff,↓reduceIte]
  · simp only [xY,Nat.reduceEqDiff,↓reduceIte]
  · show(if i=H'.next then some _ else _)=_
    rw [if_neg hi]
def H8 (l:List Int) (n:Int):List Int:=List.replicate n.toNat (l.headD 0)
theorem apx (l:List Int) (n:Int) (h:l.length=1/\0<=n/\n<=1000000):IL Tryz.prog 94 [.aA (l.map aX) .exact,.int .i64 n] aX 1 (H8 l n):=by
  match l,h with
  |[x],h=>exact asu x n h.2
end Go.VL
end
section
set_option maxRecDepth 8000
set_option maxHeartbeats 4000000
namespace Go.VL
open Go.Proofs
def mQ:Nat->(List Int)->(List Int)->Int->(List Int)->Int->Int->Option (((List Int)×(List Int)))
  |0,_,_,_,_,_,_=>none
  |k+1,uw,jS,kJ,iW,jK,fO=>
    cond (decide (fO<jK)) (if 0<=fO then Option.bind (iW[fO.toNat]?) fun x21=>if 0<=x21 then Option.bind (uw[x21.toNat]?) fun x24=>Option.bind (jS[x21.toNat]?) fun x41=>mQ k (uw.set x21.toNat kJ) (jS.set x21.toNat fO) kJ iW jK (IntKind.wrap .i64 (fO+1))else none else none) (some ((uw,jS)))
def JG:List Nat:=[8,9]++List.range' 27 14
theorem Uj: ∀(k:Nat) (qx:PV) (jL:List Nat) (jN:PV) (gq:List Nat) (M:List Nat) (uw:List Int) (jS:List Int) (kJ:Int) (iW:List Int) (jK:Int) (fO:Int) (aC σ:Nat->PV) (H0 H:AH) (f0:Fr JG aC σ) (hf0:HF M H0 H) (sl:σ 4=qx/\σ 5=jN/\σ 6=(.int .i64 kJ)/\σ 25=(.aA (iW.map aX) .unk)/\σ 26=(.int .i64 jK)/\σ 27=(.int .i64 fO)) (qy:aO H aX 1 uw qx jL) (qc:Nw H0 M jL) (kN:aO H aX 1 jS jN gq) (kC:Nw H0 M gq) (gK:Dj jL gq) (o:((List Int)×(List Int))) (h:mQ k uw jS kJ iW jK fO=some o) (Q:Post) (q0: ∀(p:(List Int)×(List Int)) (v0:PV) (sP:List Nat) (v1:PV) (OI:List Nat) (σ':Nat->PV) (H':AH),o=p->Fr JG aC σ'->HF M H0 H'->(σ' 4=v0/\σ' 5=v1)->aO H' aX 1 p.1 v0 sP->Nw H0 M sP->aO H' aX 1 p.2 v1 OI->Nw H0 M OI->Dj sP OI->Q (.exit 2) σ' H'),W Tryz.prog (.loop R5) Q σ H:=by
  intro k
  induction k with
  |zero=>intro qx jL jN gq M uw jS kJ iW jK fO aC σ H0 H f0 hf0 sl qy qc kN kC gK o h Q q0;simp only [mQ,reduceCtorEq]at h
  |succ k ih=>
    intro qx jL jN gq M uw jS kJ iW jK fO aC σ H0 H f0 hf0 sl qy qc kN kC gK o h Q q0;obtain⟨s4,s5,s6,s25,s26,s27⟩:=sl;have hle0:=hf0.1;unfold mQ at h;refine aT (fun K hK=>aD ?_);unfold R5;rcases au h with⟨e19,h⟩|⟨e19,h⟩
    ·obtain⟨e20,h⟩:=aP h;obtain⟨x21,e22,h⟩:=aj h;obtain⟨e23,h⟩:=aP h;obtain⟨x24,e25,h⟩:=aj h;obtain⟨w26,w27,apy,hil,w28,hC,hL,hD,hI⟩:=aO.content qy e25;have w29:=ne_next hil;have w30:=aV hil;have w31:kT 1 qx (.int .i64 x21)=some (.ref w26 (x21.toNat)):=by simpa using hI .i64 x21 (by first|omega|decide) (by first|rfl|omega)
     have azK:w27[x21.toNat]? =some (.int .i64 x24):=by simpa using hC 0 _ rfl
     clear hC hL hD hI;try refine cu ?_
     refine qg (f:=aX) (id:=w26) (o:=x21.toNat) (i:=x21.toNat) (j:=0) (a:=x24) (y:=kJ) (vs:=[(.int .i64 kJ)]) eP apy (by omega) (by repeat (first|exact qy|apply aO.new|refine aO.put ?_ (fun hm=>by have:=aO.lt qy _ hm;omega))) e25 eP rfl rfl (by first|decide|(simp only [List.length_cons,List.length_nil];omega)) rfl (fun H34 r35 OJ apz=> ?_);have le:=OJ.1;try simp only [AH.aK,AH.aL,AH.aM,AH.aN]at le
     have r39:=aO.hf (by repeat (first|exact kN|apply aO.new|refine aO.put ?_ (fun hm=>by have:=aO.lt kN _ hm;omega))) OJ (Dj.symm gK);obtain⟨x41,e42,h⟩:=aj h;obtain⟨w43,w44,apB,hil,w45,hC,hL,hD,hI⟩:=aO.content r39 e42;have w46:=ne_next hil;have w47:=aV hil;have w48:kT 1 jN (.int .i64 x21)=some (.ref w43 (x21.toNat)):=by simpa using hI .i64 x21 (by first|omega|decide) (by first|rfl|omega)
     have azL:w44[x21.toNat]? =some (.int .i64 x41):=by simpa using hC 0 _ rfl
     clear hC hL hD hI;try refine cu ?_
     refine qg (f:=aX) (id:=w43) (o:=x21.toNat) (i:=x21.toNat) (j:=0) (a:=x41) (y:=fO) (vs:=[(.int .i64 fO)]) eP apB (by omega) (by repeat (first|exact r39|apply aO.new|refine aO.put ?_ (fun hm=>by have:=aO.lt r39 _ hm;omega))) e42 eP rfl rfl (by first|decide|(simp only [List.length_cons,List.length_nil];omega)) rfl (fun H51 r52 ahI ahc=> ?_);have le:=ahI.1;try simp only [AH.aK,AH.aL,AH.aM,AH.aN]at le
     have r56:=aO.hf (by repeat (first|exact r35|apply aO.new|refine aO.put ?_ (fun hm=>by have:=aO.lt r35 _ hm;omega))) ahI gK;try refine cu ?_
     refine hK _ _ ?_;exact ih qx jL jN gq M (uw.set x21.toNat kJ) (jS.set x21.toNat fO) kJ iW jK (IntKind.wrap .i64 (fO+1)) _ _ _ _ aJ (by repeat (first|exact hf0|refine HF.new ?_|refine HF.fI ?_|refine HF.used ?_|refine HF.put (by first|(right;omega)|(left;simp only [List.mem_cons,true_or,or_true])) ?_|refine HF.via OJ qc ?_|refine HF.via ahI kC ?_)) eP (by repeat (first|exact r56|apply aO.new|refine aO.put ?_ (fun hm=>by have:=aO.lt r56 _ hm;omega))) qc (by repeat (first|exact r52|apply aO.new|refine aO.put ?_ (fun hm=>by have:=aO.lt r52 _ hm;omega))) kC gK _ h _ q0
    ·obtain rfl:=ak h;try refine cu ?_
     exact q0 _ qx jL jN gq _ _ rfl aJ (by repeat (first|exact hf0|refine HF.new ?_|refine HF.fI ?_|refine HF.used ?_|refine HF.put (by first|(right;omega)|(left;simp only [List.mem_cons,true_or,or_true])) ?_)) eP (by repeat (first|exact qy|apply aO.new|refine aO.put ?_ (fun hm=>by have:=aO.lt qy _ hm;omega))) qc (by repeat (first|exact kN|apply aO.new|refine aO.put ?_ (fun hm=>by have:=aO.lt kN _ hm;omega))) kC gK
def mR:Nat->(List Int)->(List Int)->(List Nd)->Int->Int->Option (((List Int)×(List Int)))
  |0,_,_,_,_,_=>none
  |k+1,uw,jS,Jc,Jd,Bn=>
    cond (decide (Bn<Jd)) (if 0<=Bn then Option.bind (Jc[Bn.toNat]?) fun Cm=>Option.bind (mQ k uw jS Bn Cm.args (Cm.args.length:Int) 0) (fun p60=>mR k p60.1 p60.2 Jc Jd (IntKind.wrap .i64 (Bn+1)))else none) (some ((uw,jS)))
def JH:List Nat:=[6,7,8,9]++List.range' 19 23
theorem Uk: ∀(k:Nat) (qx:PV) (jL:List Nat) (jN:PV) (gq:List Nat) (M:List Nat) (uw:List Int) (jS:List Int) (Jc:List Nd) (Jd:Int) (Bn:Int) (aC σ:Nat->PV) (H0 H:AH) (f0:Fr JH aC σ) (hf0:HF M H0 H) (sl:σ 4=qx/\σ 5=jN/\σ 17=(.aA (Jc.map Nd.cells) .unk)/\σ 18=(.int .i64 Jd)/\σ 19=(.int .i64 Bn)) (qy:aO H aX 1 uw qx jL) (qc:Nw H0 M jL) (kN:aO H aX 1 jS jN gq) (kC:Nw H0 M gq) (gK:Dj jL gq) (o:((List Int)×(List Int))) (h:mR k uw jS Jc Jd Bn=some o) (Q:Post) (q0: ∀(p:(List Int)×(List Int)) (v0:PV) (sP:List Nat) (v1:PV) (OI:List Nat) (σ':Nat->PV) (H':AH),o=p->Fr JH aC σ'->HF M H0 H'->(σ' 4=v0/\σ' 5=v1)->aO H' aX 1 p.1 v0 sP->Nw H0 M sP->aO H' aX 1 p.2 v1 OI->Nw H0 M OI->Dj sP OI->Q (.exit 0) σ' H'),W Tryz.prog (.loop R6) Q σ H:=by
  intro k
  induction k with
  |zero=>intro qx jL jN gq M uw jS Jc Jd Bn aC σ H0 H f0 hf0 sl qy qc kN kC gK o h Q q0;simp only [mR,reduceCtorEq]at h
  |succ k ih=>
    intro qx jL jN gq M uw jS Jc Jd Bn aC σ H0 H f0 hf0 sl qy qc kN kC gK o h Q q0;obtain⟨s4,s5,tH,jw,oW⟩:=sl;have hle0:=hf0.1;unfold mR at h;refine aT (fun K hK=>aD ?_);unfold R6;rcases au h with⟨e15,h⟩|⟨e15,h⟩
    ·obtain⟨e16,h⟩:=aP h;obtain⟨Cm,e18,h⟩:=aj h;try refine cu ?_
     rw [dJ];try refine cu ?_
     obtain⟨o58,h59,h⟩:=aj h;refine Uj k qx jL jN gq (jL++(gq++[])) uw jS Bn Cm.args (Cm.args.length:Int) 0 _ _ _ _ (Fr.refl _ _) (HF.refl _ _) eP (by repeat (first|exact qy|apply aO.new|refine aO.put ?_ (fun hm=>by have:=aO.lt qy _ hm;omega))) (fun i hi=>Or.inl (by simp only [List.mem_append,List.mem_cons,hi,true_or,or_true])) (by repeat (first|exact kN|apply aO.new|refine aO.put ?_ (fun hm=>by have:=aO.lt kN _ hm;omega))) (fun i hi=>Or.inl (by simp only [List.mem_append,List.mem_cons,hi,true_or,or_true])) gK _ h59 _ ?_
     ·rintro p60 v64 asw v69 asx σ' H63 eo adF apC ⟨s68,s73⟩ r66 avX r71 avY avZ;rw [eo]at h;have s75:σ' 17=(.aA (Jc.map Nd.cells) .unk):=(adF 17 (by decide)).trans eP;have s76:σ' 18=(.int .i64 Jd):=(adF 18 (by decide)).trans eP;have s77:σ' 19=(.int .i64 Bn):=(adF 19 (by decide)).trans eP;have le:=apC.1;try simp only [AH.aK,AH.aL,AH.aM,AH.aN]at le
      try refine cu ?_
      refine hK _ _ ?_;exact ih v64 asw v69 asx M p60.1 p60.2 Jc Jd (IntKind.wrap .i64 (Bn+1)) _ _ _ _ (by repeat (first|exact f0|refine Fr.upd (by decide) ?_|refine Fr.via adF (by decide) ?_)) (by repeat (first|exact hf0|refine HF.new ?_|refine HF.fI ?_|refine HF.used ?_|refine HF.put (by first|(right;omega)|(left;simp only [List.mem_cons,true_or,or_true])) ?_|refine HF.via apC (List.forall_mem_append.2 ⟨qc,(List.forall_mem_append.2 ⟨kC,(fun _ h=>absurd h List.not_mem_nil)⟩)⟩) ?_)) eP (by repeat (first|exact r66|apply aO.new|refine aO.put ?_ (fun hm=>by have:=aO.lt r66 _ hm;omega))) (Nw.via (List.forall_mem_append.2 ⟨qc,(List.forall_mem_append.2 ⟨kC,(fun _ h=>absurd h List.not_mem_nil)⟩)⟩) bQ avX) (by repeat (first|exact r71|apply aO.new|refine aO.put ?_ (fun hm=>by have:=aO.lt r71 _ hm;omega))) (Nw.via (List.forall_mem_append.2 ⟨qc,(List.forall_mem_append.2 ⟨kC,(fun _ h=>absurd h List.not_mem_nil)⟩)⟩) bQ avY) avZ _ h _ q0
    ·obtain rfl:=ak h;try refine cu ?_
     exact q0 _ qx jL jN gq _ _ rfl aJ (by repeat (first|exact hf0|refine HF.new ?_|refine HF.fI ?_|refine HF.used ?_|refine HF.put (by first|(right;omega)|(left;simp only [List.mem_cons,true_or,or_true])) ?_)) eP (by repeat (first|exact qy|apply aO.new|refine aO.put ?_ (fun hm=>by have:=aO.lt qy _ hm;omega))) qc (by repeat (first|exact kN|apply aO.new|refine aO.put ?_ (fun hm=>by have:=aO.lt kN _ hm;omega))) kC gK
def yL (k:Nat) (aH:List Nd):Option ((List Int)×(List Int)):=
  if [(-1)].length=1/\0<=(aH.length:Int)/\(aH.length:Int)<=1000000 then if 0<=(aH.length:Int)/\(aH.length:Int)<=1099511627776/\8*(aH.length:Int)<=1099511627776 then Option.bind (mR k (H8 [(-1)] (aH.length:Int):List Int) (List.replicate aH.length 0) aH (aH.length:Int) 0) (fun zG=>some (zG.1,zG.2))else none else none
theorem aa2 {k:Nat} {aH:List Nd} {c0:Ck} {r:(List Int)×(List Int)} (h:yL k aH=some r):aF Tryz.prog 50 [(.aA (aH.map Nd.cells) c0)] (.dM [(.aA (r.1.map aX) .unk),(.aA (r.2.map aX) .unk)]):=by
  refine aF.lw (.aA .nil) (aF.aQ (bf.mem (.cons (aU Nd.pu _) .nil)) (aG auQ (by simp) (aD ?_)) (.dM _ (bf.mem (.cons (aU fH _) (.cons (aU fH _) .nil)))));unfold yL at h;unfold anA;obtain⟨e13,h⟩:=aP h;obtain⟨e14,h⟩:=aP h;try refine cu ?_
  refine abF (aeY (a:=3) (b:=6) (f:=aX) (sz:=1) (xs:=(H8 [(-1)] (aH.length:Int):List Int)) (g:=aX) (sz2:=1) (ys:=(List.replicate aH.length 0)) (fun x y i=>match i with|0=>(.aA ([(-1)].map aX) .exact)|1=>(.aA (aH.map Nd.cells) .unk)|2=>(.int .i64 (aH.length:Int))|3=>x|4=>(.aA (aH.map Nd.cells) .unk)|5=>(.int .i64 (aH.length:Int))|6=>y|7=>x|_=>ud) rfl (by decide) rfl rfl (fun _ _=>rfl) (fun _ _=>rfl) (by
    intro x x' y i h1 h2;rcases i with _|i
    · first|rfl|exact absurd rfl h1|exact absurd h2 (by decide)
    rcases i with _|i
    · first|rfl|exact absurd rfl h1|exact absurd h2 (by decide)
    rcases i with _|i
    · first|rfl|exact absurd rfl h1|exact absurd h2 (by decide)
    rcases i with _|i
    · first|rfl|exact absurd rfl h1|exact absurd h2 (by decide)
    rcases i with _|i
    · first|rfl|exact absurd rfl h1|exact absurd h2 (by decide)
    rcases i with _|i
    · first|rfl|exact absurd rfl h1|exact absurd h2 (by decide)
    rcases i with _|i
    · first|rfl|exact absurd rfl h1|exact absurd h2 (by decide)
    rcases i with _|i
    · first|rfl|exact absurd rfl h1|exact absurd h2 (by decide)
    rfl) (by
    intro x y y' i h1 h2;rcases i with _|i
    · first|rfl|exact absurd rfl h1|exact absurd h2 (by decide)
    rcases i with _|i
    · first|rfl|exact absurd rfl h1|exact absurd h2 (by decide)
    rcases i with _|i
    · first|rfl|exact absurd rfl h1|exact absurd h2 (by decide)
    rcases i with _|i
    · first|rfl|exact absurd rfl h1|exact absurd h2 (by decide)
    rcases i with _|i
    · first|rfl|exact absurd rfl h1|exact absurd h2 (by decide)
    rcases i with _|i
    · first|rfl|exact absurd rfl h1|exact absurd h2 (by decide)
    rcases i with _|i
    · first|rfl|exact absurd rfl h1|exact absurd h2 (by decide)
    rcases i with _|i
    · first|rfl|exact absurd rfl h1|exact absurd h2 (by decide)
    rfl) (by
    intro x y;refine⟨.inr ⟨rfl,fun H=>by(try simp -implicitDefEqProofs only [iM,dQ,evs,List.map,List.nil_append,List.append_nil,go_sem]);first|done|exact⟨rfl,rfl⟩⟩,?_⟩;refine⟨.inr ⟨rfl,fun H=>by(try simp -implicitDefEqProofs only [iM,dQ,evs,List.map,List.nil_append,List.append_nil,go_sem]);first|done|exact⟨rfl,rfl⟩⟩,?_⟩;refine⟨.inr ⟨rfl,fun H=>by(try simp -implicitDefEqProofs only [iM,dQ,evs,List.map,List.nil_append,List.append_nil,go_sem]);first|done|exact⟨rfl,rfl⟩⟩,?_⟩;refine⟨.inl rfl,?_⟩;refine⟨.inr ⟨rfl,fun H=>by(try simp -implicitDefEqProofs only [iM,dQ,evs,List.map,List.nil_append,List.append_nil,go_sem]);first|done|exact⟨rfl,rfl⟩⟩,?_⟩;refine⟨.inr ⟨rfl,fun H=>by(try simp -implicitDefEqProofs only [iM,dQ,evs,List.map,List.nil_append,List.append_nil,go_sem]);first|done|exact⟨rfl,rfl⟩⟩,?_⟩;refine⟨.inl rfl,?_⟩;refine⟨.inr ⟨rfl,fun H=>by(try simp -implicitDefEqProofs only [iM,dQ,evs,List.map,List.nil_append,List.append_nil,go_sem]);first|done|exact⟨rfl,rfl⟩⟩,?_⟩;exact trivial) (fun y H=>⟨trivial,alh (apx [(-1)] (aH.length:Int) e13) (by simp -implicitDefEqProofs only [dQ,evs,List.map,List.nil_append,List.append_nil,go_sem])⟩) (fun x H=>⟨trivial,alg (f:=aX) (k:= .i64) (k':= .i64) (n:=(aH.length:Int)) 0 rfl (by simp -implicitDefEqProofs only [dQ,evs,List.map,List.nil_append,List.append_nil,go_sem]) (by simp -implicitDefEqProofs only [dQ,evs,List.map,List.nil_append,List.append_nil,go_sem]) e14 (by decide)⟩) (fun v1 v8 apD apE H3 r4 r10 av0 nw5 aAP hf6 ok7=> ?_))
  simp only [dQ,List.length_cons,List.length_nil,Nat.reduceAdd];have le:=hf6.1;try simp only [AH.aK,AH.aL,AH.aM,AH.aN]at le
  try refine cu ?_
  obtain⟨o78,h79,h⟩:=aj h;refine Uk k v1 apD v8 apE (apD++(apE++[])) (H8 [(-1)] (aH.length:Int):List Int) (List.replicate aH.length 0) aH (aH.length:Int) 0 _ _ _ _ (Fr.refl _ _) (HF.refl _ _) eP (by repeat (first|exact r4|apply aO.new|refine aO.put ?_ (fun hm=>by have:=aO.lt r4 _ hm;omega))) (fun i hi=>Or.inl (by simp only [List.mem_append,List.mem_cons,hi,true_or,or_true])) (by repeat (first|exact r10|apply aO.new|refine aO.put ?_ (fun hm=>by have:=aO.lt r10 _ hm;omega))) (fun i hi=>Or.inl (by simp only [List.mem_append,List.mem_cons,hi,true_or,or_true])) av0 _ h79 _ ?_
  ·rintro zG v84 azM v89 azN σ' H83 eo Je ahJ ⟨Y0,s93⟩ r86 aAQ r91 aAR aAS;rw [eo]at h;have le:=ahJ.1;try simp only [AH.aK,AH.aL,AH.aM,AH.aN]at le
   obtain rfl:=ak h;try refine cu ?_
   exact(dn (.cons (aO.fz fH (by repeat (first|exact r86|apply aO.new|refine aO.put ?_ (fun hm=>by have:=aO.lt r86 _ hm;omega)))) (.cons (aO.fz fH (by repeat (first|exact r91|apply aO.new|refine aO.put ?_ (fun hm=>by have:=aO.lt r91 _ hm;omega)))) .nil)))
end Go.VL
end
section
namespace Go.VL
open Go.Proofs Go.RowKit
set_option maxRecDepth 100000
theorem afA:Enters Tryz.prog 141:=⟨_,Tryz.func141,rfl,by kernel_rfl⟩
theorem ahK:Pq Tryz.prog 141 1 false:=by
  intro l m bx n J Jx W hn hc hY h0;refine callsIn_of_wp Tryz.func141 rfl trivial ?_ rfl;simp only [Tryz.ntmps141,List.size_toArray,List.length_cons,List.length_nil,Nat.reduceAdd,Nat.reduceSub,Array.replicate_succ,Array.replicate_zero,List.push_toArray,List.append_toArray,List.nil_append,List.cons_append];obtain⟨ad0,cap0,hc0⟩:=hc
  gi_wp2
  gi_loopw [3] (fun v3 wr=> ∃k:Nat,v3= .int .i64 ((k:Int) -1)/\k<=n/\J k wr) (fun v3 wr=>(RowKit.intOf v3+1).toNat)
  case atStart=>exact⟨n,rfl,Nat.le_refl _,h0⟩
  case round=>
    obtain⟨k,rfl,hk,hJ⟩:=hrel;cases k with
    |zero=>
      have c1: ¬(0:Int)<=((0:Nat):Int) -1:=by omega
      gi_wp2
      go_end0
      exact⟨⟨_,rfl⟩,.inl hJ⟩
    |succ k=>
      obtain⟨b,o,cap,vs,hb,hkn,hvs,hld,fn,tmps,assign,body,hy,hR⟩:=hY k wr hJ;have e1:((k+1:Nat):Int) -1=(k:Int):=by omega
      rw [e1];have c1:(0:Int)<=(k:Int):=by omega
      have c2:(k:Int)<(n:Int):=by omega
      have aAT:wr.cell? ⟨b,o+k,none⟩=some (elemV false vs):=by
        have:=hld 0 (elemV false vs) (by simp [elemV,hvs]);simpa using this
      clear hld;generalize elemV false vs=v at*
      gi_wp2
      refine⟨fun hd=>absurd hd (by simp [Fence.wide]),(MQ hR).mono ?_⟩;rintro e W' (⟨rfl,hJ'⟩|⟨rfl,hJx⟩)
      · gi_wp2
        go_roundw
        case rel=>exact⟨k,rfl,by omega,hJ'⟩
        case measure=>simp [RowKit.intOf]
      · gi_wp2
        refine bodyPost_ret (results_none rfl _ _ _) rfl ?_;exact⟨⟨_,rfl⟩,.inr hJx⟩
end Go.VL
end
section
set_option maxRecDepth 8000
set_option maxHeartbeats 4000000
namespace Go.VL
open Go.Proofs
def vG (bO:Int):Option Bool:=
  cond (bO==1) (some ((bO==1))) (some ((bO==2)))
theorem Ul: ∀(bO:Int) (aC σ:Nat->PV) (H:AH) (f0:Fr [15,16,17] aC σ) (sl:σ 11=(.int .i64 bO)) (o:Bool) (h:vG bO=some o) (Q:Post) (q0: ∀(p:Bool) (σ':Nat->PV),o=p->Fr [15,16,17] aC σ'->(σ' 15=(.bool p))->Q .normal σ' H),W Tryz.prog Tc Q σ H:=by
  intro bO aC σ H f0 sl o h Q q0;have s11:=sl;unfold vG at h;refine aD ?_;unfold Tc;rcases au h with⟨e2,h⟩|⟨e2,h⟩
  ·obtain rfl:=ak h;try refine ah ?_
   exact q0 _ _ rfl aJ av
  ·obtain rfl:=ak h;try refine ah ?_
   exact q0 _ _ rfl aJ av
def zV (bO:Int):Option Bool:=
  cond (bO==4) (some ((bO==4))) (some ((bO==5)))
theorem Um: ∀(bO:Int) (aC σ:Nat->PV) (H:AH) (f0:Fr [38,39,40] aC σ) (sl:σ 11=(.int .i64 bO)) (o:Bool) (h:zV bO=some o) (Q:Post) (q0: ∀(p:Bool) (σ':Nat->PV),o=p->Fr [38,39,40] aC σ'->(σ' 38=(.bool p))->Q .normal σ' H),W Tryz.prog Td Q σ H:=by
  intro bO aC σ H f0 sl o h Q q0;have s11:=sl;unfold zV at h;refine aD ?_;unfold Td;rcases au h with⟨e20,h⟩|⟨e20,h⟩
  ·obtain rfl:=ak h;try refine ah ?_
   exact q0 _ _ rfl aJ av
  ·obtain rfl:=ak h;try refine ah ?_
   exact q0 _ _ rfl aJ av
def zW (bO:Int):Option Bool:=
  cond (bO==6) (some ((bO==6))) (some ((bO==12)))
theorem Un: ∀(bO:Int) (aC σ:Nat->PV) (H:AH) (f0:Fr [43,44,45] aC σ) (sl:σ 11=(.int .i64 bO)) (o:Bool) (h:zW bO=some o) (Q:Post) (q0: ∀(p:Bool) (σ':Nat->PV),o=p->Fr [43,44,45] aC σ'->(σ' 43=(.bool p))->Q .normal σ' H),W Tryz.prog Te Q σ H:=by
  intro bO aC σ H f0 sl o h Q q0;have s11:=sl;unfold zW at h;refine aD ?_;unfold Te;rcases au h with⟨e33,h⟩|⟨e33,h⟩
  ·obtain rfl:=ak h;try refine ah ?_
   exact q0 _ _ rfl aJ av
  ·obtain rfl:=ak h;try refine ah ?_
   exact q0 _ _ rfl aJ av
def zX (bO:Int):Option Bool:=
  cond (bO==7) (some ((bO==7))) (cond (bO==8) (some ((bO==8))) (cond (bO==9) (some ((bO==9))) (some ((bO==13)))))
def JI:List Nat:=[48,49,50,51,52]
theorem Uo: ∀(bO:Int) (aC σ:Nat->PV) (H:AH) (f0:Fr JI aC σ) (sl:σ 11=(.int .i64 bO)) (o:Bool) (h:zX bO=some o) (Q:Post) (q0: ∀(p:Bool) (σ':Nat->PV),o=p->Fr JI aC σ'->(σ' 48=(.bool p))->Q .normal σ' H),W Tryz.prog Tf Q σ H:=by
  intro bO aC σ H f0 sl o h Q q0;have s11:=sl;unfold zX at h;refine aD ?_;unfold Tf;rcases au h with⟨e48,h⟩|⟨e48,h⟩
  ·obtain rfl:=ak h;try refine ah ?_
   exact q0 _ _ rfl aJ av
  ·rcases au h with⟨e49,h⟩|⟨e49,h⟩
   ·obtain rfl:=ak h;try refine ah ?_
    exact q0 _ _ rfl aJ av
   ·rcases au h with⟨e50,h⟩|⟨e50,h⟩
    ·obtain rfl:=ak h;try refine ah ?_
     exact q0 _ _ rfl aJ av
    ·obtain rfl:=ak h;try refine ah ?_
     exact q0 _ _ rfl aJ av
def zY (bO:Int):Option Bool:=
  cond (bO==10) (some ((bO==10))) (some ((bO==11)))
theorem Uq: ∀(bO:Int) (aC σ:Nat->PV) (H:AH) (f0:Fr [60,61,62] aC σ) (sl:σ 11=(.int .i64 bO)) (o:Bool) (h:zY bO=some o) (Q:Post) (q0: ∀(p:Bool) (σ':Nat->PV),o=p->Fr [60,61,62] aC σ'->(σ' 60=(.bool p))->Q .normal σ' H),W Tryz.prog Tg Q σ H:=by
  intro bO aC σ H f0 sl o h Q q0;have s11:=sl;unfold zY at h;refine aD ?_;unfold Tg;rcases au h with⟨e63,h⟩|⟨e63,h⟩
  ·obtain rfl:=ak h;try refine ah ?_
   exact q0 _ _ rfl aJ av
  ·obtain rfl:=ak h;try refine ah ?_
   exact q0 _ _ rfl aJ av
def zZ (bO:Int):Option Bool:=
  cond (bO==16) (some ((bO==16))) (some ((bO==17)))
theorem Ur: ∀(bO:Int) (aC σ:Nat->PV) (H:AH) (f0:Fr [70,71,72] aC σ) (sl:σ 11=(.int .i64 bO)) (o:Bool) (h:zZ bO=some o) (Q:Post) (q0: ∀(p:Bool) (σ':Nat->PV),o=p->Fr [70,71,72] aC σ'->(σ' 70=(.bool p))->Q .normal σ' H),W Tryz.prog Ti Q σ H:=by
  intro bO aC σ H f0 sl o h Q q0;have s11:=sl;unfold zZ at h;refine aD ?_;unfold Ti;rcases au h with⟨M4,h⟩|⟨M4,h⟩
  ·obtain rfl:=ak h;try refine ah ?_
   exact q0 _ _ rfl aJ av
  ·obtain rfl:=ak h;try refine ah ?_
   exact q0 _ _ rfl aJ av
def z8 (bO:Int):Option Bool:=
  cond (bO==19) (some ((bO==19))) (some ((bO==21)))
theorem Us: ∀(bO:Int) (aC σ:Nat->PV) (H:AH) (f0:Fr [82,83,84] aC σ) (sl:σ 11=(.int .i64 bO)) (o:Bool) (h:z8 bO=some o) (Q:Post) (q0: ∀(p:Bool) (σ':Nat->PV),o=p->Fr [82,83,84] aC σ'->(σ' 82=(.bool p))->Q .normal σ' H),W Tryz.prog Tj Q σ H:=by
  intro bO aC σ H f0 sl o h Q q0;have s11:=sl;unfold z8 at h;refine aD ?_;unfold Tj;rcases au h with⟨PS,h⟩|⟨PS,h⟩
  ·obtain rfl:=ak h;try refine ah ?_
   exact q0 _ _ rfl aJ av
  ·obtain rfl:=ak h;try refine ah ?_
   exact q0 _ _ rfl aJ av
def yM (k:Nat) (aY:Nd):Option Shape:=
  cond (aY.kind==0) (some (Shape.mk (0,0) (0,0) false true)) (Option.bind (vG aY.kind) (fun p5=>cond p5 (some (Shape.mk (0,0) (0,0) true false)) (cond (aY.kind==3) (Option.bind (jV k aY.text) fun wO=>cond wO.2 (some (Shape.mk (0,0) ((aY.args.length:Int),(aY.args.length:Int)) true false)) (some (Shape.mk (0,0) (1,4) true false))) (Option.bind (zV aY.kind) (fun FV=>cond FV (some (Shape.mk (0,0) (0,30) false false)) (Option.bind (zW aY.kind) (fun p36=>cond p36 (Option.bind (tY 1 2) fun p47=>some p47) (Option.bind (zX aY.kind) (fun p53=>cond p53 (some (Shape.mk (1,4) ((IntKind.wrap .i64 ((aY.names.length:Int)+1)),(IntKind.wrap .i64 ((aY.names.length:Int)+1))) false false)) (Option.bind (zY aY.kind) (fun p66=>cond p66 (some (Shape.mk (1,4) (1,1) false false)) (cond (aY.kind==14) (some (Shape.mk (0,0) (2,5) false false)) (Option.bind (zZ aY.kind) (fun zG=>cond zG (some (Shape.mk (1,30) ((aY.names.length:Int),(aY.names.length:Int)) false false)) (cond (aY.kind==18) (some (Shape.mk (0,0) (1,1) true false)) (Option.bind (z8 aY.kind) (fun Vl=>cond Vl (Option.bind (tY 0 3) fun Yo=>some Yo) (cond (aY.kind==20) (some (Shape.mk (0,0) (0,0) false false)) (cond (aY.kind==22) (some (Shape.mk (0,0) (2,30) false false)) (cond (aY.kind==23) (some (Shape.mk (1,5) (2,2) false true)) (cond (aY.kind==24) (some (Shape.mk (1,4) (1,1) false false)) (Option.bind (tY 0 2) fun apF=>some apF))))))))))))))))))))))
theorem aa3 {k:Nat} {aY:Nd} {r:Shape} (h:yM k aY=some r):aF Tryz.prog 90 [(.agg (Nd.cells aY))] (.agg (Shape.cells r)):=by
  refine aF.aQ (bf.mem (.cons (.agg _ (Nd.pu _)) .nil)) (aG avf (by simp) (aD ?_)) (.agg _ (Shape.pu _));unfold yM at h;unfold an7;rcases au h with⟨e1,h⟩|⟨e1,h⟩
  ·obtain rfl:=ak h;try refine ah ?_
   exact(dH (.cons (.pure _ (.int _ _)) (.cons (.pure _ (.int _ _)) (.cons (.pure _ (.int _ _)) (.cons (.pure _ (.int _ _)) (.cons (.pure _ (.bool _)) (.cons (.pure _ (.bool _)) .nil)))))))
  ·try refine ah ?_
   obtain⟨o3,h4,h⟩:=aj h;refine Ul aY.kind _ _ _ (Fr.refl _ _) av _ h4 _ ?_
   ·rintro p5 σ' eo fr6 s9;rw [eo]at h;have s10:σ' 1=(.ref (AH.empty.next) 0):=(fr6 1 (by decide)).trans av;have s11:σ' 2=(.ref (AH.empty.next+1) 0):=(fr6 2 (by decide)).trans av;have s12:σ' 3=(.fn (.func 140) [] []):=(fr6 3 (by decide)).trans av;have s13:σ' 4=(.int .i64 (aY.names.length:Int)):=(fr6 4 (by decide)).trans av;have JC:σ' 11=(.int .i64 aY.kind):=(fr6 11 (by decide)).trans av;rcases au h with⟨e15,h⟩|⟨e15,h⟩
    ·obtain rfl:=ak h;try refine ah ?_
     exact(dH (.cons (.pure _ (.int _ _)) (.cons (.pure _ (.int _ _)) (.cons (.pure _ (.int _ _)) (.cons (.pure _ (.int _ _)) (.cons (.pure _ (.bool _)) (.cons (.pure _ (.bool _)) .nil)))))))
    ·rcases au h with⟨e16,h⟩|⟨e16,h⟩
     ·obtain⟨wO,e17,h⟩:=aj h;try refine ah ?_
      refine aB (oH e17) ?_;rcases au h with⟨e19,h⟩|⟨e19,h⟩
      ·obtain rfl:=ak h;try refine ah ?_
       exact(dH (.cons (.pure _ (.int _ _)) (.cons (.pure _ (.int _ _)) (.cons (.pure _ (.int _ _)) (.cons (.pure _ (.int _ _)) (.cons (.pure _ (.bool _)) (.cons (.pure _ (.bool _)) .nil)))))))
      ·obtain rfl:=ak h;try refine ah ?_
       exact(dH (.cons (.pure _ (.int _ _)) (.cons (.pure _ (.int _ _)) (.cons (.pure _ (.int _ _)) (.cons (.pure _ (.int _ _)) (.cons (.pure _ (.bool _)) (.cons (.pure _ (.bool _)) .nil)))))))
     ·try refine ah ?_
      obtain⟨o21,h22,h⟩:=aj h;refine Um aY.kind _ _ _ (Fr.refl _ _) av _ h22 _ ?_
      ·rintro FV σ' eo adG s27;rw [eo]at h;have s28:σ' 2=(.ref (AH.empty.next+1) 0):=(adG 2 (by decide)).trans av;have s29:σ' 3=(.fn (.func 140) [] []):=(adG 3 (by decide)).trans av;have s30:σ' 4=(.int .i64 (aY.names.length:Int)):=(adG 4 (by decide)).trans av;have s31:σ' 11=(.int .i64 aY.kind):=(adG 11 (by decide)).trans av;rcases au h with⟨e32,h⟩|⟨e32,h⟩
       ·obtain rfl:=ak h;try refine ah ?_
        exact(dH (.cons (.pure _ (.int _ _)) (.cons (.pure _ (.int _ _)) (.cons (.pure _ (.int _ _)) (.cons (.pure _ (.int _ _)) (.cons (.pure _ (.bool _)) (.cons (.pure _ (.bool _)) .nil)))))))
       ·try refine ah ?_
        obtain⟨o34,h35,h⟩:=aj h;refine Un aY.kind _ _ _ (Fr.refl _ _) av _ h35 _ ?_
        ·rintro p36 σ' eo adH s40;rw [eo]at h;have s41:σ' 2=(.ref (AH.empty.next+1) 0):=(adH 2 (by decide)).trans av;have s42:σ' 3=(.fn (.func 140) [] []):=(adH 3 (by decide)).trans av;have s43:σ' 4=(.int .i64 (aY.names.length:Int)):=(adH 4 (by decide)).trans av;have s44:σ' 11=(.int .i64 aY.kind):=(adH 11 (by decide)).trans av;rcases au h with⟨e45,h⟩|⟨e45,h⟩
         ·obtain⟨p47,e46,h⟩:=aj h;try refine ah ?_
          refine aB (CU e46) ?_;obtain rfl:=ak h;try refine ah ?_
          exact(dH (.cons (.pure _ (.int _ _)) (.cons (.pure _ (.int _ _)) (.cons (.pure _ (.int _ _)) (.cons (.pure _ (.int _ _)) (.cons (.pure _ (.bool _)) (.cons (.pure _ (.bool _)) .nil)))))))
         ·try refine ah ?_
          obtain⟨o51,Yf,h⟩:=aj h;refine Uo aY.kind _ _ _ (Fr.refl _ _) av _ Yf _ ?_
          ·rintro p53 σ' eo IZ s57;rw [eo]at h;have s58:σ' 2=(.ref (AH.empty.next+1) 0):=(IZ 2 (by decide)).trans av;have s59:σ' 3=(.fn (.func 140) [] []):=(IZ 3 (by decide)).trans av;have Y7:σ' 4=(.int .i64 (aY.names.length:Int)):=(IZ 4 (by decide)).trans av;have s61:σ' 11=(.int .i64 aY.kind):=(IZ 11 (by decide)).trans av;rcases au h with⟨e62,h⟩|⟨e62,h⟩
           ·obtain rfl:=ak h;try refine ah ?_
            exact(dH (.cons (.pure _ (.int _ _)) (.cons (.pure _ (.int _ _)) (.cons (.pure _ (.int _ _)) (.cons (.pure _ (.int _ _)) (.cons (.pure _ (.bool _)) (.cons (.pure _ (.bool _)) .nil)))))))
           ·try refine ah ?_
            obtain⟨o64,h65,h⟩:=aj h;refine Uq aY.kind _ _ _ (Fr.refl _ _) av _ h65 _ ?_
            ·rintro p66 σ' eo KX s70;rw [eo]at h;have s71:σ' 2=(.ref (AH.empty.next+1) 0):=(KX 2 (by decide)).trans av;have s72:σ' 3=(.fn (.func 140) [] []):=(KX 3 (by decide)).trans av;have s73:σ' 4=(.int .i64 (aY.names.length:Int)):=(KX 4 (by decide)).trans av;have s74:σ' 11=(.int .i64 aY.kind):=(KX 11 (by decide)).trans av;rcases au h with⟨PK,h⟩|⟨PK,h⟩
             ·obtain rfl:=ak h;try refine ah ?_
              exact(dH (.cons (.pure _ (.int _ _)) (.cons (.pure _ (.int _ _)) (.cons (.pure _ (.int _ _)) (.cons (.pure _ (.int _ _)) (.cons (.pure _ (.bool _)) (.cons (.pure _ (.bool _)) .nil)))))))
             ·rcases au h with⟨Vk,h⟩|⟨Vk,h⟩
              ·obtain rfl:=ak h;try refine ah ?_
               exact(dH (.cons (.pure _ (.int _ _)) (.cons (.pure _ (.int _ _)) (.cons (.pure _ (.int _ _)) (.cons (.pure _ (.int _ _)) (.cons (.pure _ (.bool _)) (.cons (.pure _ (.bool _)) .nil)))))))
              ·try refine ah ?_
               obtain⟨o78,h79,h⟩:=aj h;refine Ur aY.kind _ _ _ (Fr.refl _ _) av _ h79 _ ?_
               ·rintro zG σ' eo Je s84;rw [eo]at h;have s85:σ' 2=(.ref (AH.empty.next+1) 0):=(Je 2 (by decide)).trans av;have s86:σ' 3=(.fn (.func 140) [] []):=(Je 3 (by decide)).trans av;have s87:σ' 4=(.int .i64 (aY.names.length:Int)):=(Je 4 (by decide)).trans av;have Y0:σ' 11=(.int .i64 aY.kind):=(Je 11 (by decide)).trans av;rcases au h with⟨PO,h⟩|⟨PO,h⟩
                ·obtain rfl:=ak h;try refine ah ?_
                 exact(dH (.cons (.pure _ (.int _ _)) (.cons (.pure _ (.int _ _)) (.cons (.pure _ (.int _ _)) (.cons (.pure _ (.int _ _)) (.cons (.pure _ (.bool _)) (.cons (.pure _ (.bool _)) .nil)))))))
                ·rcases au h with⟨Yg,h⟩|⟨Yg,h⟩
                 ·obtain rfl:=ak h;try refine ah ?_
                  exact(dH (.cons (.pure _ (.int _ _)) (.cons (.pure _ (.int _ _)) (.cons (.pure _ (.int _ _)) (.cons (.pure _ (.int _ _)) (.cons (.pure _ (.bool _)) (.cons (.pure _ (.bool _)) .nil)))))))
                 ·try refine ah ?_
                  obtain⟨o92,h93,h⟩:=aj h;refine Us aY.kind _ _ _ (Fr.refl _ _) av _ h93 _ ?_
                  ·rintro Vl σ' eo ahL s98;rw [eo]at h;have s99:σ' 2=(.ref (AH.empty.next+1) 0):=(ahL 2 (by decide)).trans av;have ahx:σ' 3=(.fn (.func 140) [] []):=(ahL 3 (by decide)).trans av;have avR:σ' 11=(.int .i64 aY.kind):=(ahL 11 (by decide)).trans av;rcases au h with⟨Yr,h⟩|⟨Yr,h⟩
                   ·obtain⟨Yo,I4,h⟩:=aj h;try refine ah ?_
                    refine aB (CU I4) ?_;obtain rfl:=ak h;try refine ah ?_
                    exact(dH (.cons (.pure _ (.int _ _)) (.cons (.pure _ (.int _ _)) (.cons (.pure _ (.int _ _)) (.cons (.pure _ (.int _ _)) (.cons (.pure _ (.bool _)) (.cons (.pure _ (.bool _)) .nil)))))))
                   ·rcases au h with⟨KE,h⟩|⟨KE,h⟩
                    ·obtain rfl:=ak h;try refine ah ?_
                     exact(dH (.cons (.pure _ (.int _ _)) (.cons (.pure _ (.int _ _)) (.cons (.pure _ (.int _ _)) (.cons (.pure _ (.int _ _)) (.cons (.pure _ (.bool _)) (.cons (.pure _ (.bool _)) .nil)))))))
                    ·rcases au h with⟨ahp,h⟩|⟨ahp,h⟩
                     ·obtain rfl:=ak h;try refine ah ?_
                      exact(dH (.cons (.pure _ (.int _ _)) (.cons (.pure _ (.int _ _)) (.cons (.pure _ (.int _ _)) (.cons (.pure _ (.int _ _)) (.cons (.pure _ (.bool _)) (.cons (.pure _ (.bool _)) .nil)))))))
                     ·rcases au h with⟨Ey,h⟩|⟨Ey,h⟩
                      ·obtain rfl:=ak h;try refine ah ?_
                       exact(dH (.cons (.pure _ (.int _ _)) (.cons (.pure _ (.int _ _)) (.cons (.pure _ (.int _ _)) (.cons (.pure _ (.int _ _)) (.cons (.pure _ (.bool _)) (.cons (.pure _ (.bool _)) .nil)))))))
                      ·rcases au h with⟨e108,h⟩|⟨e108,h⟩
                       ·obtain rfl:=ak h;try refine ah ?_
                        exact(dH (.cons (.pure _ (.int _ _)) (.cons (.pure _ (.int _ _)) (.cons (.pure _ (.int _ _)) (.cons (.pure _ (.int _ _)) (.cons (.pure _ (.bool _)) (.cons (.pure _ (.bool _)) .nil)))))))
                       ·obtain⟨apF,e109,h⟩:=aj h;try refine ah ?_
                        refine aB (CU e109) ?_;obtain rfl:=ak h;try refine ah ?_
                        exact(dH (.cons (.pure _ (.int _ _)) (.cons (.pure _ (.int _ _)) (.cons (.pure _ (.int _ _)) (.cons (.pure _ (.int _ _)) (.cons (.pure _ (.bool _)) (.cons (.pure _ (.bool _)) .nil)))))))
def oh:Nat->(List Nd)->(List Int)->(List Int)->Int->Option (Unit⊕Bool)
  |0,_,_,_,_=>none
  |k+1,aH,vH,lH,F3=>
    if 0<=F3 then Option.bind (vH[F3.toNat]?) fun Vu=>cond (Vu !=(-1)) (if 0<=Vu then Option.bind (aH[Vu.toNat]?) fun x20=>cond (x20.kind==19) (Option.bind (lH[F3.toNat]?) fun x23=>cond (x23==2) (some (.inr (false))) (oh k aH vH lH Vu)) (oh k aH vH lH Vu)else none) (some (.inl ()))else none
def EC:List Nat:=[8,11]++List.range' 51 25
theorem WM: ∀(k:Nat) (aH:List Nd) (vH:List Int) (lH:List Int) (F3:Int) (aC σ:Nat->PV) (H:AH) (f0:Fr EC aC σ) (sl:σ 0=(.aA (aH.map Nd.cells) .unk)/\σ 2=(.aA (vH.map aX) .unk)/\σ 3=(.aA (lH.map aX) .unk)/\σ 11=(.int .i64 F3)) (o:Unit⊕Bool) (h:oh k aH vH lH F3=some o) (Q:Post) (q0: ∀(p:Unit) (σ':Nat->PV),o= .inl p->Fr EC aC σ'->Q (.exit 1) σ' H) (q1: ∀(p:Bool) (σ':Nat->PV),o= .inr (p)->Fr EC aC σ'->(σ' 8=(.bool p))->Q .ret σ' H),W Tryz.prog (.loop R7) Q σ H:=by
  intro k
  induction k with
  |zero=>intro aH vH lH F3 aC σ H f0 sl o h Q q0 q1;simp only [oh,reduceCtorEq]at h
  |succ k ih=>
    intro aH vH lH F3 aC σ H f0 sl o h Q q0 q1;obtain⟨s0,s2,s3,s11⟩:=sl;unfold oh at h;refine aT (fun K hK=>aD ?_);unfold R7;obtain⟨e15,h⟩:=aP h;obtain⟨Vu,e17,h⟩:=aj h;rcases au h with⟨e18,h⟩|⟨e18,h⟩
    ·obtain⟨e19,h⟩:=aP h;obtain⟨x20,e21,h⟩:=aj h;rcases au h with⟨e22,h⟩|⟨e22,h⟩
     ·obtain⟨x23,e24,h⟩:=aj h;rcases au h with⟨e25,h⟩|⟨e25,h⟩
      ·obtain rfl:=ak h;try refine ah ?_
       exact q1 _ _ rfl aJ av
      ·try refine ah ?_
       refine hK _ _ ?_;exact ih aH vH lH Vu _ _ _ aJ av _ h _ q0 q1
     ·try refine ah ?_
      refine hK _ _ ?_;exact ih aH vH lH Vu _ _ _ aJ av _ h _ q0 q1
    ·obtain rfl:=ak h;try refine ah ?_
     exact q0 _ _ rfl aJ
def ED (k:Nat) (aH:List Nd) (dA:Int) (vH:List Int) (lH:List Int):Option Bool:=
  if 0<=dA then Option.bind (aH[dA.toNat]?) fun x2=>cond (x2.kind==24) (Option.bind (vH[dA.toNat]?) fun x5=>cond (x5==(-1)) (some true) (if 0<=x5 then Option.bind (aH[x5.toNat]?) fun x9=>cond (x9.kind !=3) (some true) (Option.bind (jV k x9.text) fun rR=>some rR.2)else none)) (cond (x2.kind==20) (Option.bind (oh k aH vH lH dA) (fun o=>Sum.elim (fun p28=>some true) (fun p32=>some p32) o)) (some false))else none
theorem adI {k:Nat} {aH:List Nd} {dA:Int} {vH:List Int} {lH:List Int} {c0 c2 c3:Ck} {r:Bool} (h:ED k aH dA vH lH=some r):aF Tryz.prog 51 [(.aA (aH.map Nd.cells) c0),(.int .i64 dA),(.aA (vH.map aX) c2),(.aA (lH.map aX) c3)] (.bool r):=by
  refine aF.lw (.aA (.same (.aA (.aA .nil)))) (aF.aQ (bf.mem (.cons (aU Nd.pu _) (.cons (.int _ _) (.cons (aU fH _) (.cons (aU fH _) .nil))))) (aG auR (by simp) (aD ?_)) (.bool _));unfold ED at h;unfold anB;obtain⟨e1,h⟩:=aP h;obtain⟨x2,e3,h⟩:=aj h;rcases au h with⟨e4,h⟩|⟨e4,h⟩
  ·obtain⟨x5,e6,h⟩:=aj h;rcases au h with⟨e7,h⟩|⟨e7,h⟩
   ·obtain rfl:=ak h;try refine ah ?_
    exact(.pure _ (.bool _))
   ·obtain⟨e8,h⟩:=aP h;obtain⟨x9,e10,h⟩:=aj h;rcases au h with⟨e11,h⟩|⟨e11,h⟩
    ·obtain rfl:=ak h;try refine ah ?_
     exact(.pure _ (.bool _))
    ·obtain⟨rR,e12,h⟩:=aj h;try refine ah ?_
     refine aB (oH e12) ?_;obtain rfl:=ak h;try refine ah ?_
     exact(.pure _ (.bool _))
  ·rcases au h with⟨e14,h⟩|⟨e14,h⟩
   ·try refine ah ?_
    obtain⟨o26,h27,h⟩:=aj h;refine WM k aH vH lH dA _ _ _ (Fr.refl _ _) av _ h27 _ ?_ ?_
    ·rintro p28 σ' eo Oy;subst eo;rw [bL]at h;obtain rfl:=ak h;try refine ah ?_
     exact(.pure _ (.bool _))
    ·rintro p32 σ' eo uq s36;subst eo;rw [bP]at h;obtain rfl:=ak h;try refine ah ?_
     exact(.pure _ (.bool _))
   ·obtain rfl:=ak h;try refine ah ?_
    exact(.pure _ (.bool _))
def vI (k:Nat) (s_0:Str):Option Bool:=
  Option.bind (sS k s_0) fun p2=>some (!p2)
theorem Ut {k:Nat} {s_0:Str} {r:Bool} (h:vI k s_0=some r):aF Tryz.prog 145 [(.str s_0)] (.bool r):=by
  refine aF.aQ (bf.mem (.cons (.str _) .nil)) (aG arY (by simp) (aD ?_)) (.bool _);unfold vI at h;unfold ajq;obtain⟨p2,e1,h⟩:=aj h;try refine ah ?_
  refine aB (zT e1) ?_;obtain rfl:=ak h;try refine ah ?_
  exact(.pure _ (.bool _))
def bH:Nat->(List Str)->Int->Int->Option (Unit⊕Int)
  |0,_,_,_=>none
  |k+1,s_0,jM,gL=>
    cond (decide (gL<jM)) (if 0<=gL then Option.bind (s_0[gL.toNat]?) fun x3=>Option.bind (vI k x3) fun p6=>cond p6 (some (.inr (gL))) (bH k s_0 jM (IntKind.wrap .i64 (gL+1)))else none) (some (.inl ()))
def jE:List Nat:=[4,5]++List.range' 8 11
theorem vJ: ∀(k:Nat) (s_0:List Str) (jM:Int) (gL:Int) (aC σ:Nat->PV) (H:AH) (f0:Fr jE aC σ) (sl:σ 0=(.aA (s_0.map aI) .unk)/\σ 1=(.fn (.func 145) [] [])/\σ 7=(.int .i64 jM)/\σ 8=(.int .i64 gL)) (o:Unit⊕Int) (h:bH k s_0 jM gL=some o) (Q:Post) (q0: ∀(p:Unit) (σ':Nat->PV),o= .inl p->Fr jE aC σ'->Q (.exit 0) σ' H) (q1: ∀(p:Int) (σ':Nat->PV),o= .inr (p)->Fr jE aC σ'->(σ' 4=(.int .i64 p))->Q .ret σ' H),W Tryz.prog (.loop Ow) Q σ H:=by
  intro k
  induction k with
  |zero=>intro s_0 jM gL aC σ H f0 sl o h Q q0 q1;simp only [bH,reduceCtorEq]at h
  |succ k ih=>
    intro s_0 jM gL aC σ H f0 sl o h Q q0 q1;obtain⟨s0,s1,s7,s8⟩:=sl;unfold bH at h;refine aT (fun K hK=>aD ?_);unfold Ow;rcases au h with⟨e1,h⟩|⟨e1,h⟩
    ·obtain⟨e2,h⟩:=aP h;obtain⟨x3,e4,h⟩:=aj h;obtain⟨p6,e5,h⟩:=aj h;try refine ah ?_
     refine aB (Ut e5) ?_;rcases au h with⟨e7,h⟩|⟨e7,h⟩
     ·obtain rfl:=ak h;try refine ah ?_
      exact q1 _ _ rfl aJ av
     ·try refine ah ?_
      refine hK _ _ ?_;exact ih s_0 jM (IntKind.wrap .i64 (gL+1)) _ _ _ aJ av _ h _ q0 q1
    ·obtain rfl:=ak h;try refine ah ?_
     exact q0 _ _ rfl aJ
def gy (k:Nat) (s_0:List Str):Option Int:=
  Option.bind (bH k s_0 (s_0.length:Int) 0) (fun o=>Sum.elim (fun iN=>some (-1)) (fun kD=>some kD) o)
theorem xD {k:Nat} {s_0:List Str} {c0:Ck} {r:Int} (h:gy k s_0=some r):aF Tryz.prog 186 [(.aA (s_0.map aI) c0),(.fn (.func 145) [] [])] (.int .i64 r):=by
  refine aF.lw (.aA (.same .nil)) (aF.aQ (bf.mem (.cons (aU bg _) (.cons (.fn _ _ _ (bf.mem .nil) (bf.mem .nil)) .nil))) (aG asb (by simp) (aD ?_)) (.int _ _));unfold gy at h;unfold ajF;try refine ah ?_
  obtain⟨o8,h9,h⟩:=aj h;refine vJ k s_0 (s_0.length:Int) 0 _ _ _ (Fr.refl _ _) av _ h9 _ ?_ ?_
  ·rintro iN σ' eo Ky;subst eo;rw [bL]at h;obtain rfl:=ak h;try refine ah ?_
   exact(.pure _ (.int _ _))
  ·rintro kD σ' eo yg jw;subst eo;rw [bP]at h;obtain rfl:=ak h;try refine ah ?_
   exact(.pure _ (.int _ _))
def fD (k:Nat) (s_0:List Str):Option Bool:=
  Option.bind (gy k s_0) fun p2=>some (decide (p2>=0))
theorem vK {k:Nat} {s_0:List Str} {c0:Ck} {r:Bool} (h:fD k s_0=some r):aF Tryz.prog 144 [(.aA (s_0.map aI) c0),(.fn (.func 145) [] [])] (.bool r):=by
  refine aF.lw (.aA (.same .nil)) (aF.aQ (bf.mem (.cons (aU bg _) (.cons (.fn _ _ _ (bf.mem .nil) (bf.mem .nil)) .nil))) (aG arX (by simp) (aD ?_)) (.bool _));unfold fD at h;unfold ajp;obtain⟨p2,e1,h⟩:=aj h;try refine ah ?_
  refine aB (xD e1) ?_;obtain rfl:=ak h;try refine ah ?_
  exact(.pure _ (.bool _))
def xO (k:Nat) (dZ:Int) (eU:Int) (dW:Str) (eu:List Str) (eG:List Int) (sQ:Bool):Option Bool:=
  cond sQ (some (true)) (Option.bind (Cq dW) fun p8=>cond p8 (some (false)) (Option.bind (wm k dW) fun l6=>some ((!l6))))
def Ia:List Nat:=List.range' 25 11
theorem Qi (k:Nat): ∀(eX:Nat) (dZ:Int) (eU:Int) (dW:Str) (eu:List Str) (eG:List Int) (sQ:Bool) (aC σ:Nat->PV) (H:AH) (f0:Fr Ia aC σ) (sl:σ 1=(.ref (eX) 0)/\σ 24=(.bool sQ)/\H.obj eX=some [(.int .i64 dZ),(.int .i64 eU),(.str dW),(.aA (eu.map aI) .unk),(.aA (eG.map aX) .unk)]) (gQ:eX<H.next) (o:Bool) (h:xO k dZ eU dW eu eG sQ=some o) (Q:Post) (q0: ∀(p:Bool) (σ':Nat->PV),o=p->Fr Ia aC σ'->(σ' 35=(.bool p))->Q .normal σ' H),dF Tryz.prog Tk (Q .normal) σ H:=by
  intro eX dZ eU dW eu eG sQ aC σ H f0 sl gQ o h Q q0;obtain⟨s1,s24,Ib⟩:=sl;have Ic:=ne_next gQ;have Ie:=aV gQ;unfold xO at h;refine eB ?_;unfold Tk;rcases au h with⟨e6,h⟩|⟨e6,h⟩
  ·obtain rfl:=ak h;try refine ah ?_
   exact q0 _ _ rfl aJ av
  ·obtain⟨p8,e7,h⟩:=aj h;try refine ah ?_
   refine aB (Na e7) ?_;rcases au h with⟨e9,h⟩|⟨e9,h⟩
   ·obtain rfl:=ak h;try refine ah ?_
    exact q0 _ _ rfl aJ av
   ·obtain⟨l6,e10,h⟩:=aj h;try refine ah ?_
    refine aB (KW e10) ?_;obtain rfl:=ak h;try refine ah ?_
    exact q0 _ _ rfl aJ av
def xP (k:Nat) (dZ:Int) (eU:Int) (dW:Str) (eu:List Str) (eG:List Int) (iL:Bool) (Y9:Bool):Option Bool:=
  cond Y9 (some (true)) (cond iL (some (false)) (Option.bind (wm k dW) fun p25=>some ((!p25))))
def Ig:List Nat:=List.range' 40 9
theorem Qj (k:Nat): ∀(eX:Nat) (dZ:Int) (eU:Int) (dW:Str) (eu:List Str) (eG:List Int) (iL:Bool) (Y9:Bool) (aC σ:Nat->PV) (H:AH) (f0:Fr Ig aC σ) (sl:σ 1=(.ref (eX) 0)/\σ 5=(.bool iL)/\σ 39=(.bool Y9)/\H.obj eX=some [(.int .i64 dZ),(.int .i64 eU),(.str dW),(.aA (eu.map aI) .unk),(.aA (eG.map aX) .unk)]) (gQ:eX<H.next) (o:Bool) (h:xP k dZ eU dW eu eG iL Y9=some o) (Q:Post) (q0: ∀(p:Bool) (σ':Nat->PV),o=p->Fr Ig aC σ'->(σ' 48=(.bool p))->Q .normal σ' H),dF Tryz.prog Tn (Q .normal) σ H:=by
  intro eX dZ eU dW eu eG iL Y9 aC σ H f0 sl gQ o h Q q0;obtain⟨s1,s5,s39,Ib⟩:=sl;have Ic:=ne_next gQ;have Ie:=aV gQ;unfold xP at h;refine eB ?_;unfold Tn;rcases au h with⟨e22,h⟩|⟨e22,h⟩
  ·obtain rfl:=ak h;try refine ah ?_
   exact q0 _ _ rfl aJ av
  ·rcases au h with⟨e23,h⟩|⟨e23,h⟩
   ·obtain rfl:=ak h;try refine ah ?_
    exact q0 _ _ rfl aJ av
   ·obtain⟨p25,e24,h⟩:=aj h;try refine ah ?_
    refine aB (KW e24) ?_;obtain rfl:=ak h;try refine ah ?_
    exact q0 _ _ rfl aJ av
def xQ (dZ:Int) (eU:Int) (dW:Str) (eu:List Str) (eG:List Int) (Aa:Str) (Ab:Int) (Ac:Int) (Ad:Int) (Ae:Bool) (xR:Int) (xS:Int) (Za:Bool):Option Bool:=
  cond Za (Option.bind (gF (eG.length:Int) xR xS) fun p38=>some ((!p38))) (some (false))
def Ih:List Nat:=List.range' 51 10
theorem Qk: ∀(eX:Nat) (wC:Nat) (dZ:Int) (eU:Int) (dW:Str) (eu:List Str) (eG:List Int) (Aa:Str) (Ab:Int) (Ac:Int) (Ad:Int) (Ae:Bool) (xR:Int) (xS:Int) (Za:Bool) (aC σ:Nat->PV) (H:AH) (f0:Fr Ih aC σ) (sl:σ 1=(.ref (eX) 0)/\σ 4=(.ref (wC) 0)/\σ 50=(.bool Za)/\H.obj eX=some [(.int .i64 dZ),(.int .i64 eU),(.str dW),(.aA (eu.map aI) .unk),(.aA (eG.map aX) .unk)]/\H.obj wC=some [(.str Aa),(.int .i64 Ab),(.int .i64 Ac),(.int .i64 Ad),(.bool Ae),(.int .i64 xR),(.int .i64 xS)]) (gQ:eX<H.next) (Bo:wC<H.next) (nC:eX≠wC) (o:Bool) (h:xQ dZ eU dW eu eG Aa Ab Ac Ad Ae xR xS Za=some o) (Q:Post) (q0: ∀(p:Bool) (σ':Nat->PV),o=p->Fr Ih aC σ'->(σ' 60=(.bool p))->Q .normal σ' H),dF Tryz.prog Tp (Q .normal) σ H:=by
  intro eX wC dZ eU dW eu eG Aa Ab Ac Ad Ae xR xS Za aC σ H f0 sl gQ Bo nC o h Q q0;obtain⟨s1,s4,s50,Ib,alx⟩:=sl;have Ic:=ne_next gQ;have Ie:=aV gQ;have aly:=ne_next Bo;have alz:=aV Bo;have WQ:=eq_false nC;have WT:=eq_false (Ne.symm nC);unfold xQ at h;refine eB ?_;unfold Tp;rcases au h with⟨e36,h⟩|⟨e36,h⟩
  ·obtain⟨p38,e37,h⟩:=aj h;try refine ah ?_
   refine aB (gH e37) ?_;obtain rfl:=ak h;try refine ah ?_
   exact q0 _ _ rfl aJ av
  ·obtain rfl:=ak h;try refine ah ?_
   exact q0 _ _ rfl aJ av
def xU (k:Nat) (dZ:Int) (eU:Int) (dW:Str) (eu:List Str) (eG:List Int) (Zb:Bool):Option Bool:=
  cond Zb (some (true)) (Option.bind (sS k dW) fun p51=>some ((!p51)))
def Ii:List Nat:=[65,66,67,68,69]
theorem Ql (k:Nat): ∀(eX:Nat) (dZ:Int) (eU:Int) (dW:Str) (eu:List Str) (eG:List Int) (Zb:Bool) (aC σ:Nat->PV) (H:AH) (f0:Fr Ii aC σ) (sl:σ 1=(.ref (eX) 0)/\σ 64=(.bool Zb)/\H.obj eX=some [(.int .i64 dZ),(.int .i64 eU),(.str dW),(.aA (eu.map aI) .unk),(.aA (eG.map aX) .unk)]) (gQ:eX<H.next) (o:Bool) (h:xU k dZ eU dW eu eG Zb=some o) (Q:Post) (q0: ∀(p:Bool) (σ':Nat->PV),o=p->Fr Ii aC σ'->(σ' 69=(.bool p))->Q .normal σ' H),dF Tryz.prog Tq (Q .normal) σ H:=by
  intro eX dZ eU dW eu eG Zb aC σ H f0 sl gQ o h Q q0;obtain⟨s1,s64,Ib⟩:=sl;have Ic:=ne_next gQ;have Ie:=aV gQ;unfold xU at h;refine eB ?_;unfold Tq;rcases au h with⟨e49,h⟩|⟨e49,h⟩
  ·obtain rfl:=ak h;try refine ah ?_
   exact q0 _ _ rfl aJ av
  ·obtain⟨p51,e50,h⟩:=aj h;try refine ah ?_
   refine aB (zT e50) ?_;obtain rfl:=ak h;try refine ah ?_
   exact q0 _ _ rfl aJ av
def xV (k:Nat) (dZ:Int) (eU:Int) (dW:Str) (eu:List Str) (eG:List Int) (Af:Bool) (Aa:Str) (Ab:Int) (Ac:Int) (Ad:Int) (Ae:Bool) (xR:Int) (xS:Int) (iL:Bool):Option ((Bool×Bool)):=
  cond (dZ==2) (Option.bind (xO k dZ eU dW eu eG Af) (fun kD=>some ((kD,false)))) (cond (dZ==3) (Option.bind (xP k dZ eU dW eu eG iL Af) (fun p28=>Option.bind (xQ dZ eU dW eu eG Aa Ab Ac Ad Ae xR xS iL) (fun p41=>some ((p28,p41))))) (cond (dZ==18) (Option.bind (xU k dZ eU dW eu eG Af) (fun p54=>some ((p54,false)))) (some ((Af,false)))))
def Ij:List Nat:=[3,6]++List.range' 19 51
theorem Qm (k:Nat): ∀(eX:Nat) (wC:Nat) (dZ:Int) (eU:Int) (dW:Str) (eu:List Str) (eG:List Int) (Af:Bool) (Aa:Str) (Ab:Int) (Ac:Int) (Ad:Int) (Ae:Bool) (xR:Int) (xS:Int) (iL:Bool) (aC σ:Nat->PV) (H:AH) (f0:Fr Ij aC σ) (sl:σ 1=(.ref (eX) 0)/\σ 3=(.bool Af)/\σ 4=(.ref (wC) 0)/\σ 5=(.bool iL)/\σ 6=(.bool false)/\H.obj eX=some [(.int .i64 dZ),(.int .i64 eU),(.str dW),(.aA (eu.map aI) .unk),(.aA (eG.map aX) .unk)]/\H.obj wC=some [(.str Aa),(.int .i64 Ab),(.int .i64 Ac),(.int .i64 Ad),(.bool Ae),(.int .i64 xR),(.int .i64 xS)]) (gQ:eX<H.next) (Bo:wC<H.next) (nC:eX≠wC) (o:(Bool×Bool)) (h:xV k dZ eU dW eu eG Af Aa Ab Ac Ad Ae xR xS iL=some o) (Q:Post) (q0: ∀(p:Bool×Bool) (σ':Nat->PV),o=p->Fr Ij aC σ'->(σ' 3=(.bool p.1)/\σ' 6=(.bool p.2))->Q .normal σ' H),W Tryz.prog Tt Q σ H:=by
  intro eX wC dZ eU dW eu eG Af Aa Ab Ac Ad Ae xR xS iL aC σ H f0 sl gQ Bo nC o h Q q0;obtain⟨s1,s3,s4,s5,s6,Ib,alx⟩:=sl;have Ic:=ne_next gQ;have Ie:=aV gQ;have aly:=ne_next Bo;have alz:=aV Bo;have WQ:=eq_false nC;have WT:=eq_false (Ne.symm nC);unfold xV at h;refine aD ?_;unfold Tt;rcases au h with⟨e5,h⟩|⟨e5,h⟩
  ·try refine ah ?_
   obtain⟨o12,PW,h⟩:=aj h;refine Qi k (eX) dZ eU dW eu eG Af _ _ _ (Fr.refl _ _) av bQ _ PW _ ?_
   ·rintro kD σ' eo yg jw;rw [eo]at h;have oW:σ' 1=(.ref (eX) 0):=(yg 1 (by decide)).trans av;have s20:σ' 6=(.bool false):=(yg 6 (by decide)).trans av;obtain rfl:=ak h;try refine ah ?_
    exact q0 _ _ rfl (by repeat (first|exact f0|refine Fr.upd (by decide) ?_|refine Fr.via yg (by decide) ?_)) av
  ·rcases au h with⟨e21,h⟩|⟨e21,h⟩
   ·try refine ah ?_
    obtain⟨o26,h27,h⟩:=aj h;refine Qj k (eX) dZ eU dW eu eG iL Af _ _ _ (Fr.refl _ _) av bQ _ h27 _ ?_
    ·rintro p28 σ' eo Oy s32;rw [eo]at h;have s33:σ' 1=(.ref (eX) 0):=(Oy 1 (by decide)).trans av;have s34:σ' 4=(.ref (wC) 0):=(Oy 4 (by decide)).trans av;have s35:σ' 5=(.bool iL):=(Oy 5 (by decide)).trans av;try refine ah ?_
     obtain⟨o39,h40,h⟩:=aj h;refine Qk (eX) (wC) dZ eU dW eu eG Aa Ab Ac Ad Ae xR xS iL _ _ _ (Fr.refl _ _) av bQ bQ bQ _ h40 _ ?_
     ·rintro p41 σ' eo CQ s45;rw [eo]at h;have s46:σ' 1=(.ref (eX) 0):=(CQ 1 (by decide)).trans av;have s47:σ' 3=(.bool p28):=(CQ 3 (by decide)).trans av;obtain rfl:=ak h;try refine ah ?_
      exact q0 _ _ rfl (by repeat (first|exact f0|refine Fr.upd (by decide) ?_|refine Fr.via Oy (by decide) ?_|refine Fr.via CQ (by decide) ?_)) av
   ·rcases au h with⟨e48,h⟩|⟨e48,h⟩
    ·try refine ah ?_
     obtain⟨o52,h53,h⟩:=aj h;refine Ql k (eX) dZ eU dW eu eG Af _ _ _ (Fr.refl _ _) av bQ _ h53 _ ?_
     ·rintro p54 σ' eo adC s58;rw [eo]at h;have s59:σ' 1=(.ref (eX) 0):=(adC 1 (by decide)).trans av;have Y7:σ' 6=(.bool false):=(adC 6 (by decide)).trans av;obtain rfl:=ak h;try refine ah ?_
      exact q0 _ _ rfl (by repeat (first|exact f0|refine Fr.upd (by decide) ?_|refine Fr.via adC (by decide) ?_)) av
    ·obtain rfl:=ak h;try refine ah ?_
     exact q0 _ _ rfl aJ av
def iP:Nat->Int->Int->Str->(List Str)->(List Int)->Bool->(List Str)->Int->Int->Option Bool
  |0,_,_,_,_,_,_,_,_,_=>none
  |k+1,dZ,eU,dW,eu,eG,Bp,GK,GL,qO=>
    cond (decide (qO<GL)) (if 0<=qO then Option.bind (GK[qO.toNat]?) fun x72=>cond Bp (iP k dZ eU dW eu eG true GK GL (IntKind.wrap .i64 (qO+1))) (if 0<=qO/\qO.toNat<=eu.length then Option.bind (bX k (eu.take qO.toNat) x72) fun p77=>iP k dZ eU dW eu eG p77 GK GL (IntKind.wrap .i64 (qO+1))else none)else none) (some (Bp))
def Ik:List Nat:=[7,8,9]++List.range' 73 15
theorem Qn: ∀(k:Nat) (eX:Nat) (dZ:Int) (eU:Int) (dW:Str) (eu:List Str) (eG:List Int) (Bp:Bool) (GK:List Str) (GL:Int) (qO:Int) (aC σ:Nat->PV) (H:AH) (f0:Fr Ik aC σ) (sl:σ 1=(.ref (eX) 0)/\σ 7=(.bool Bp)/\σ 71=(.aA (GK.map aI) .unk)/\σ 72=(.int .i64 GL)/\σ 73=(.int .i64 qO)/\H.obj eX=some [(.int .i64 dZ),(.int .i64 eU),(.str dW),(.aA (eu.map aI) .unk),(.aA (eG.map aX) .unk)]) (gQ:eX<H.next) (o:Bool) (h:iP k dZ eU dW eu eG Bp GK GL qO=some o) (Q:Post) (q0: ∀(p:Bool) (σ':Nat->PV),o=p->Fr Ik aC σ'->(σ' 7=(.bool p))->Q (.exit 1) σ' H),W Tryz.prog (.loop Tv) Q σ H:=by
  intro k
  induction k with
  |zero=>intro eX dZ eU dW eu eG Bp GK GL qO aC σ H f0 sl gQ o h Q q0;simp only [iP,reduceCtorEq]at h
  |succ k ih=>
    intro eX dZ eU dW eu eG Bp GK GL qO aC σ H f0 sl gQ o h Q q0;obtain⟨s1,s7,s71,s72,s73,Ib⟩:=sl;have Ic:=ne_next gQ;have Ie:=aV gQ;unfold iP at h;refine aT (fun K hK=>aD ?_);unfold Tv;rcases au h with⟨e70,h⟩|⟨e70,h⟩
    ·obtain⟨e71,h⟩:=aP h;obtain⟨x72,PX,h⟩:=aj h;rcases au h with⟨e74,h⟩|⟨e74,h⟩
     ·try refine ah ?_
      refine hK _ _ ?_;exact ih eX dZ eU dW eu eG true GK GL (IntKind.wrap .i64 (qO+1)) _ _ _ aJ av bQ _ h _ q0
     ·obtain⟨PK,h⟩:=aP h;obtain⟨p77,Vk,h⟩:=aj h;try refine ah ?_
      refine aB (kr Vk) ?_;try refine ah ?_
      refine hK _ _ ?_;exact ih eX dZ eU dW eu eG p77 GK GL (IntKind.wrap .i64 (qO+1)) _ _ _ aJ av bQ _ h _ q0
    ·obtain rfl:=ak h;try refine ah ?_
     exact q0 _ _ rfl aJ av
def nR (k:Nat) (aY:Nd):Option Int:=
  Option.bind (fD k aY.names) fun p2=>Option.bind (jV k aY.text) fun p4=>Option.bind (xV k aY.kind aY.n aY.text aY.names aY.args p2 p4.1.text p4.1.fix p4.1.low p4.1.high p4.1.left p4.1.least p4.1.most p4.2) (fun p63=>Option.bind (iP k aY.kind aY.n aY.text aY.names aY.args false aY.names (aY.names.length:Int) 0) (fun zG=>Option.bind (lY p63.1 7) fun p88=>Option.bind (lY p63.2 17) fun p90=>Option.bind (lY zG 12) fun Zc=>Option.bind (gG k [p88,p90,Zc]) fun Vl=>some Vl))
theorem Ag {k:Nat} {aY:Nd} {r:Int} (h:nR k aY=some r):aF Tryz.prog 93 [(.agg (Nd.cells aY))] (.int .i64 r):=by
  refine aF.aQ (bf.mem (.cons (.agg _ (Nd.pu _)) .nil)) (aG avi (by simp) (aD ?_)) (.int _ _);unfold nR at h;unfold aoa;obtain⟨p2,e1,h⟩:=aj h;try refine ah ?_
  refine aB (vK e1) ?_;obtain⟨p4,e3,h⟩:=aj h;try refine ah ?_
  refine aB (oH e3) ?_;try refine ah ?_
  obtain⟨o61,h62,h⟩:=aj h;refine Qm k (AH.empty.next) (AH.empty.next+1) aY.kind aY.n aY.text aY.names aY.args p2 p4.1.text p4.1.fix p4.1.low p4.1.high p4.1.left p4.1.least p4.1.most p4.2 _ _ _ (Fr.refl _ _) av bQ bQ bQ _ h62 _ ?_
  ·rintro p63 σ' eo Gz ⟨s67,s68⟩;rw [eo]at h;have s69:σ' 1=(.ref (AH.empty.next) 0):=(Gz 1 (by decide)).trans av;try refine ah ?_
   obtain⟨o78,h79,h⟩:=aj h;refine Qn k (AH.empty.next) aY.kind aY.n aY.text aY.names aY.args false aY.names (aY.names.length:Int) 0 _ _ _ (Fr.refl _ _) av bQ _ h79 _ ?_
   ·rintro zG σ' eo Je s84;rw [eo]at h;have s85:σ' 3=(.bool p63.1):=(Je 3 (by decide)).trans av;have s86:σ' 6=(.bool p63.2):=(Je 6 (by decide)).trans av;obtain⟨p88,e87,h⟩:=aj h;try refine ah ?_
    refine aB (lK e87) ?_;obtain⟨p90,PO,h⟩:=aj h;try refine ah ?_
    refine aB (lK PO) ?_;obtain⟨Zc,PS,h⟩:=aj h;try refine ah ?_
    refine aB (lK PS) ?_;obtain⟨Vl,PY,h⟩:=aj h;try refine ah ?_
    refine aB (kF PY) ?_;obtain rfl:=ak h;try refine ah ?_
    exact(.pure _ (.int _ _))
def Ah (ni:Int) (jO:Int) (mF:Str) (qR:List Str) (lS:List Int) (Dr:Int) (Dt:Int) (BM:Int) (BN:Int) (Du:Bool) (Ai:Bool) (Zd:Bool):Option Bool:=
  cond Zd (some (true)) (Option.bind (gF (lS.length:Int) BM BN) fun rR=>some ((!rR)))
def JJ:List Nat:=List.range' 37 12
theorem Uu: ∀(jF:Nat) (Aj:Nat) (ni:Int) (jO:Int) (mF:Str) (qR:List Str) (lS:List Int) (Dr:Int) (Dt:Int) (BM:Int) (BN:Int) (Du:Bool) (Ai:Bool) (Zd:Bool) (aC σ:Nat->PV) (H:AH) (f0:Fr JJ aC σ) (sl:σ 7=(.ref (jF) 0)/\σ 8=(.ref (Aj) 0)/\σ 36=(.bool Zd)/\H.obj jF=some [(.int .i64 ni),(.int .i64 jO),(.str mF),(.aA (qR.map aI) .unk),(.aA (lS.map aX) .unk)]/\H.obj Aj=some [(.int .i64 Dr),(.int .i64 Dt),(.int .i64 BM),(.int .i64 BN),(.bool Du),(.bool Ai)]) (rH:jF<H.next) (Bq:Aj<H.next) (nD:jF≠Aj) (o:Bool) (h:Ah ni jO mF qR lS Dr Dt BM BN Du Ai Zd=some o) (Q:Post) (q0: ∀(p:Bool) (σ':Nat->PV),o=p->Fr JJ aC σ'->(σ' 48=(.bool p))->Q .normal σ' H),dF Tryz.prog RZ (Q .normal) σ H:=by
  intro jF Aj ni jO mF qR lS Dr Dt BM BN Du Ai Zd aC σ H f0 sl rH Bq nD o h Q q0;obtain⟨s7,s8,s36,ab2,alA⟩:=sl;have ab3:=ne_next rH;have ab4:=aV rH;have alB:=ne_next Bq;have alC:=aV Bq;have WU:=eq_false nD;have WV:=eq_false (Ne.symm nD);unfold Ah at h;refine eB ?_;unfold RZ;rcases au h with⟨e11,h⟩|⟨e11,h⟩
  ·obtain rfl:=ak h;try refine ah ?_
   exact q0 _ _ rfl aJ av
  ·obtain⟨rR,e12,h⟩:=aj h;try refine ah ?_
   refine aB (gH e12) ?_;obtain rfl:=ak h;try refine ah ?_
   exact q0 _ _ rfl aJ av
def mU:Nat->(List Int)->Int->Bool->(List Int)->Option ((Int×Bool)⊕(Int×Bool))
  |0,iq,ji,eD,nE=>some (.inr ((ji,eD)))
  |m+1,iq,ji,eD,nE=>
    Option.bind (nE[m]?) fun x27=>cond (x27 !=ji) (some (.inl (ji,false))) (cond (decide (ji<0)) (some (.inl (ji,false))) (if 0<=ji then Option.bind (iq[ji.toNat]?) fun x31=>mU m iq (IntKind.wrap .i64 (x31 -1)) eD nE else none))
theorem Uv: ∀(m:Nat) (fP:Nat) (fU:Nat) (bA:Nat) (qP:Nat) (iq:List Int) (ji:Int) (eD:Bool) (nE:List Int) (aC σ:Nat->PV) (H0 H:AH) (f0:Fr [] aC σ) (hf0:HF [fU,bA] H0 H) (sl:σ 5=(.ref (fP) 0)/\σ 9=(.ref (fU) 0)/\σ 10=(.ref (bA) 0)/\σ 53=(.fn (.func 141) [] [(.ref (qP) 0)])/\H.obj fP=some [(.aA (iq.map aX) .unk)]/\H.obj fU=some [(.int .i64 ji)]/\H.obj bA=some [(.bool eD)]/\H.obj qP=some [(.aA (nE.map aX) .unk)]) (jW:fP<H.next) (om:fU<H.next) (iH:bA<H.next) (wD:qP<H.next) (eH:fP≠fU) (bY:fP≠bA) (jk:fP≠qP) (dL:fU≠bA) (kP:fU≠qP) (iF:bA≠qP) (o:(Int×Bool)⊕(Int×Bool)) (h:mU m iq ji eD nE=some o) (Q:Post) (q0: ∀(p:Int×Bool) (σ':Nat->PV) (H':AH),o= .inl p->Fr [] aC σ'->HF [fU,bA] H0 H'->(H'.obj fU=some [(.int .i64 p.1)]/\H'.obj bA=some [(.bool p.2)])->Q (.exit 0) σ' H') (q1: ∀(p:Int×Bool) (σ':Nat->PV) (H':AH),o= .inr (p)->Fr [] aC σ'->HF [fU,bA] H0 H'->(H'.obj fU=some [(.int .i64 p.1)]/\H'.obj bA=some [(.bool p.2)])->Q .normal σ' H'),Dc (fun Q' σ' H'=>W Tryz.prog NM (FE (fun uP gY=>W Tryz.prog NP Q' uP gY)) σ' H') Q σ qP [(.aA (nE.map aX) .unk)] 54 55 ((nE.map aX).map (BF false)) m H:=by
  intro m
  induction m with
  |zero=>
    intro fP fU bA qP iq ji eD nE aC σ H0 H f0 hf0 sl jW om iH wD eH bY jk dL kP iF o h Q q0 q1;obtain⟨s5,s9,s10,s53,KY,Vv,F4,Qo⟩:=sl;have KZ:=ne_next jW;have K6:=aV jW;have Vw:=ne_next om;have Vx:=aV om;have F5:=ne_next iH;have F6:=aV iH;have adJ:=ne_next wD;have adK:=aV wD;have Ak:=eq_false eH;have Al:=eq_false (Ne.symm eH);have tK:=eq_false bY;have tO:=eq_false (Ne.symm bY);have Il:=eq_false jk;have Im:=eq_false (Ne.symm jk);have wP:=eq_false dL;have wQ:=eq_false (Ne.symm dL);have K7:=eq_false kP;have K8:=eq_false (Ne.symm kP);have EF:=eq_false iF;have EG:=eq_false (Ne.symm iF);have hle0:=hf0.1;rw [mU]at h;cases h;exact q1 _ _ _ rfl f0 hf0 av
  |succ m ih=>
    intro fP fU bA qP iq ji eD nE aC σ H0 H f0 hf0 sl jW om iH wD eH bY jk dL kP iF o h Q q0 q1;obtain⟨s5,s9,s10,s53,KY,Vv,F4,Qo⟩:=sl;have KZ:=ne_next jW;have K6:=aV jW;have Vw:=ne_next om;have Vx:=aV om;have F5:=ne_next iH;have F6:=aV iH;have adJ:=ne_next wD;have adK:=aV wD;have Ak:=eq_false eH;have Al:=eq_false (Ne.symm eH);have tK:=eq_false bY;have tO:=eq_false (Ne.symm bY);have Il:=eq_false jk;have Im:=eq_false (Ne.symm jk);have wP:=eq_false dL;have wQ:=eq_false (Ne.symm dL);have K7:=eq_false kP;have K8:=eq_false (Ne.symm kP);have EF:=eq_false iF;have EG:=eq_false (Ne.symm iF);have hle0:=hf0.1;rw [mU]at h;cases erf:nE[m]?
    case none=>rw [y5 erf]at h;cases h
    case some x27=>
      rw [y7 erf]at h;refine⟨Qo,BF false (aX x27),by simp only [List.getElem?_map,erf,Option.map_some],aD ?_⟩;unfold NM;try refine ah ?_
      refine aD ?_;unfold NP;rcases au h with⟨e28,h⟩|⟨e28,h⟩
      ·obtain rfl:=ak h;try refine ah ?_
       exact q0 _ _ _ rfl aJ (by repeat (first|exact hf0|refine HF.new ?_|refine HF.fI ?_|refine HF.used ?_|refine HF.put (by first|(right;omega)|(left;simp only [List.mem_cons,true_or,or_true])) ?_)) av
      ·rcases au h with⟨e29,h⟩|⟨e29,h⟩
       ·obtain rfl:=ak h;try refine ah ?_
        exact q0 _ _ _ rfl aJ (by repeat (first|exact hf0|refine HF.new ?_|refine HF.fI ?_|refine HF.used ?_|refine HF.put (by first|(right;omega)|(left;simp only [List.mem_cons,true_or,or_true])) ?_)) av
       ·obtain⟨e30,h⟩:=aP h;obtain⟨x31,e32,h⟩:=aj h;try refine ah ?_
        exact ih fP fU bA qP iq (IntKind.wrap .i64 (x31 -1)) eD nE _ _ _ _ f0 (by repeat (first|exact hf0|refine HF.new ?_|refine HF.fI ?_|refine HF.used ?_|refine HF.put (by first|(right;omega)|(left;simp only [List.mem_cons,true_or,or_true])) ?_)) av bQ bQ bQ bQ bQ bQ bQ bQ bQ bQ _ h _ q0 q1
def vL (iq:List Int) (ni:Int) (jO:Int) (mF:Str) (qR:List Str) (lS:List Int) (ji:Int) (eD:Bool):Option ((Int×Bool)):=
  if lS.length<=1099511627776 then Option.bind (mU lS.length iq ji eD lS) (fun o=>Sum.elim (fun p35=>some ((p35.1,p35.2))) (fun p49=>some ((p49.1,p49.2))) o)else none
def JK:List Nat:=[12]++List.range' 51 17
theorem Uw: ∀(fP:Nat) (jF:Nat) (fU:Nat) (bA:Nat) (iq:List Int) (ni:Int) (jO:Int) (mF:Str) (qR:List Str) (lS:List Int) (ji:Int) (eD:Bool) (aC σ:Nat->PV) (H0 H:AH) (f0:Fr JK aC σ) (hf0:HF [fU,bA] H0 H) (sl:σ 5=(.ref (fP) 0)/\σ 7=(.ref (jF) 0)/\σ 9=(.ref (fU) 0)/\σ 10=(.ref (bA) 0)/\H.obj fP=some [(.aA (iq.map aX) .unk)]/\H.obj jF=some [(.int .i64 ni),(.int .i64 jO),(.str mF),(.aA (qR.map aI) .unk),(.aA (lS.map aX) .unk)]/\H.obj fU=some [(.int .i64 ji)]/\H.obj bA=some [(.bool eD)]) (jW:fP<H.next) (rH:jF<H.next) (om:fU<H.next) (iH:bA<H.next) (vM:fP≠jF) (eH:fP≠fU) (bY:fP≠bA) (Am:jF≠fU) (rJ:jF≠bA) (dL:fU≠bA) (o:(Int×Bool)) (h:vL iq ni jO mF qR lS ji eD=some o) (Q:Post) (q0: ∀(p:Int×Bool) (σ':Nat->PV) (H':AH),o=p->Fr JK aC σ'->HF [fU,bA] H0 H'->(H'.obj fU=some [(.int .i64 p.1)]/\H'.obj bA=some [(.bool p.2)])->Q .normal σ' H'),W Tryz.prog R3 Q σ H:=by
  intro fP jF fU bA iq ni jO mF qR lS ji eD aC σ H0 H f0 hf0 sl jW rH om iH vM eH bY Am rJ dL o h Q q0;obtain⟨s5,s7,s9,s10,KY,ab2,Vv,F4⟩:=sl;have KZ:=ne_next jW;have K6:=aV jW;have ab3:=ne_next rH;have ab4:=aV rH;have Vw:=ne_next om;have Vx:=aV om;have F5:=ne_next iH;have F6:=aV iH;have afC:=eq_false vM;have afD:=eq_false (Ne.symm vM);have Ak:=eq_false eH;have Al:=eq_false (Ne.symm eH);have tK:=eq_false bY;have tO:=eq_false (Ne.symm bY);have aj5:=eq_false Am;have aj6:=eq_false (Ne.symm Am);have ab5:=eq_false rJ;have ab6:=eq_false (Ne.symm rJ);have wP:=eq_false dL;have wQ:=eq_false (Ne.symm dL);have hle0:=hf0.1;unfold vL at h;refine aD ?_;unfold R3;try refine ah ?_
  refine aG avg (by simp) (aD ?_);unfold an8;obtain⟨e63,h⟩:=aP h;try refine ah ?_
  obtain⟨o33,h34,h⟩:=aj h;refine aiN (g:=141) (id:=H.next) (sz:=1) (agg:=false) (es:=lS.map aX) (c:= .unk) av afA ahK (by decide) av (by rw [List.length_map];exact e63) (FI (qI.len (f:=aX)) _) ?_;rw [List.length_map];refine Uv _ (fP) (fU) (bA) (H.next) iq ji eD lS _ _ _ _ (Fr.refl _ _) (HF.refl _ _) av bQ bQ bQ bQ bQ bQ bQ bQ bQ bQ _ h34 _ ?_ ?_
  ·rintro p35 σ' H38 eo ahM OJ ⟨g39,g40⟩;subst eo;rw [bL]at h;have s41:σ' 7=(.ref (jF) 0):=(ahM 7 (by decide)).trans av;have s42:σ' 10=(.ref (bA) 0):=(ahM 10 (by decide)).trans av;have le:=OJ.1;try simp only [AH.aK,AH.aL,AH.aM,AH.aN]at le
   have g43:H38.obj (jF)=some [(.int .i64 ni),(.int .i64 jO),(.str mF),(.aA (qR.map aI) .unk),(.aA (lS.map aX) .unk)]:=(OJ.2 _ bQ (by first|exact List.not_mem_nil|(simp only [List.mem_cons,List.not_mem_nil,or_false,not_or];omega))).trans av;have n44:=ne_next (show jF<H38.next by first|omega|(simp only [AH.aK,AH.aL,AH.aM,AH.aN];omega));have m45:=aV (show jF<H38.next by first|omega|(simp only [AH.aK,AH.aL,AH.aM,AH.aN];omega));have n47:=ne_next (show bA<H38.next by first|omega|(simp only [AH.aK,AH.aL,AH.aM,AH.aN];omega));have m48:=aV (show bA<H38.next by first|omega|(simp only [AH.aK,AH.aL,AH.aM,AH.aN];omega));obtain rfl:=ak h;try refine ah ?_
   exact q0 _ _ _ rfl (by repeat (first|exact f0|refine Fr.upd (by decide) ?_|refine Fr.via ahM (by decide) ?_)) (by repeat (first|exact hf0|refine HF.new ?_|refine HF.fI ?_|refine HF.used ?_|refine HF.put (by first|(right;omega)|(left;simp only [List.mem_cons,true_or,or_true])) ?_|refine HF.via OJ (by first|exact fun i hi=>absurd hi List.not_mem_nil|(intro i hi;simp only [List.mem_cons,List.not_mem_nil,or_false]at hi⊢;first|exact .inl hi|omega)) ?_)) av
  ·rintro p49 σ' H52 eo KG Ux ⟨g53,g54⟩;subst eo;rw [bP]at h;have s55:σ' 7=(.ref (jF) 0):=(KG 7 (by decide)).trans av;have s56:σ' 10=(.ref (bA) 0):=(KG 10 (by decide)).trans av;have le:=Ux.1;try simp only [AH.aK,AH.aL,AH.aM,AH.aN]at le
   have g57:H52.obj (jF)=some [(.int .i64 ni),(.int .i64 jO),(.str mF),(.aA (qR.map aI) .unk),(.aA (lS.map aX) .unk)]:=(Ux.2 _ bQ (by first|exact List.not_mem_nil|(simp only [List.mem_cons,List.not_mem_nil,or_false,not_or];omega))).trans av;have n58:=ne_next (show jF<H52.next by first|omega|(simp only [AH.aK,AH.aL,AH.aM,AH.aN];omega));have m59:=aV (show jF<H52.next by first|omega|(simp only [AH.aK,AH.aL,AH.aM,AH.aN];omega));have n61:=ne_next (show bA<H52.next by first|omega|(simp only [AH.aK,AH.aL,AH.aM,AH.aN];omega));have m62:=aV (show bA<H52.next by first|omega|(simp only [AH.aK,AH.aL,AH.aM,AH.aN];omega));obtain rfl:=ak h;try refine ah ?_
   exact q0 _ _ _ rfl (by repeat (first|exact f0|refine Fr.upd (by decide) ?_|refine Fr.via KG (by decide) ?_)) (by repeat (first|exact hf0|refine HF.new ?_|refine HF.fI ?_|refine HF.used ?_|refine HF.put (by first|(right;omega)|(left;simp only [List.mem_cons,true_or,or_true])) ?_|refine HF.via Ux (by first|exact fun i hi=>absurd hi List.not_mem_nil|(intro i hi;simp only [List.mem_cons,List.not_mem_nil,or_false]at hi⊢;first|exact .inl hi|omega)) ?_)) av
def Ao (ni:Int) (jO:Int) (mF:Str) (qR:List Str) (lS:List Int) (Dr:Int) (Dt:Int) (BM:Int) (BN:Int) (Du:Bool) (Ai:Bool) (tQ:Bool) (qO:Bool):Option Bool:=
  cond qO (cond Ai (cond (ni !=1) (cond tQ (Option.bind (gF jO 0 1) fun P6=>some (P6)) (some (true))) (Option.bind (vw mF) fun lU=>cond lU (cond tQ (Option.bind (gF jO 0 1) fun P7=>some (P7)) (some (true))) (some (false)))) (cond (jO==0) (cond (ni !=1) (cond tQ (Option.bind (gF jO 0 1) fun Yn=>some (Yn)) (some (true))) (Option.bind (vw mF) fun OL=>cond OL (cond tQ (Option.bind (gF jO 0 1) fun EH=>some (EH)) (some (true))) (some (false)))) (some (false)))) (cond (mF==[]) (cond Ai (cond (ni !=1) (cond tQ (Option.bind (gF jO 0 1) fun Jf=>some (Jf)) (some (true))) (Option.bind (vw mF) fun Yp=>cond Yp (cond tQ (Option.bind (gF jO 0 1) fun Gx=>some (Gx)) (some (true))) (some (false)))) (cond (jO==0) (cond (ni !=1) (cond tQ (Option.bind (gF jO 0 1) fun apJ=>some (apJ)) (some (true))) (Option.bind (vw mF) fun apK=>cond apK (cond tQ (Option.bind (gF jO 0 1) fun apL=>some (apL)) (some (true))) (some (false)))) (some (false)))) (some (false)))
def JL:List Nat:=List.range' 74 32
theorem Uy: ∀(jF:Nat) (Aj:Nat) (ni:Int) (jO:Int) (mF:Str) (qR:List Str) (lS:List Int) (Dr:Int) (Dt:Int) (BM:Int) (BN:Int) (Du:Bool) (Ai:Bool) (tQ:Bool) (qO:Bool) (aC σ:Nat->PV) (H:AH) (f0:Fr JL aC σ) (sl:σ 7=(.ref (jF) 0)/\σ 8=(.ref (Aj) 0)/\σ 13=(.bool tQ)/\σ 73=(.bool qO)/\H.obj jF=some [(.int .i64 ni),(.int .i64 jO),(.str mF),(.aA (qR.map aI) .unk),(.aA (lS.map aX) .unk)]/\H.obj Aj=some [(.int .i64 Dr),(.int .i64 Dt),(.int .i64 BM),(.int .i64 BN),(.bool Du),(.bool Ai)]) (rH:jF<H.next) (Bq:Aj<H.next) (nD:jF≠Aj) (o:Bool) (h:Ao ni jO mF qR lS Dr Dt BM BN Du Ai tQ qO=some o) (Q:Post) (q0: ∀(p:Bool) (σ':Nat->PV),o=p->Fr JL aC σ'->(σ' 105=(.bool p))->Q .normal σ' H),dF Tryz.prog R4 (Q .normal) σ H:=by
  intro jF Aj ni jO mF qR lS Dr Dt BM BN Du Ai tQ qO aC σ H f0 sl rH Bq nD o h Q q0;obtain⟨s7,s8,s13,s73,ab2,alA⟩:=sl;have ab3:=ne_next rH;have ab4:=aV rH;have alB:=ne_next Bq;have alC:=aV Bq;have WU:=eq_false nD;have WV:=eq_false (Ne.symm nD);unfold Ao at h;refine eB ?_;unfold R4;rcases au h with⟨e84,h⟩|⟨e84,h⟩
  ·rcases au h with⟨e85,h⟩|⟨e85,h⟩
   ·rcases au h with⟨PL,h⟩|⟨PL,h⟩
    ·rcases au h with⟨e87,h⟩|⟨e87,h⟩
     ·obtain⟨P6,PN,h⟩:=aj h;try refine ah ?_
      refine aB (gH PN) ?_;obtain rfl:=ak h;try refine ah ?_
      exact q0 _ _ rfl aJ av
     ·obtain rfl:=ak h;try refine ah ?_
      exact q0 _ _ rfl aJ av
    ·obtain⟨lU,Yg,h⟩:=aj h;try refine ah ?_
     refine aB (Dq Yg) ?_;rcases au h with⟨e92,h⟩|⟨e92,h⟩
     ·rcases au h with⟨PY,h⟩|⟨PY,h⟩
      ·obtain⟨P7,e94,h⟩:=aj h;try refine ah ?_
       refine aB (gH e94) ?_;obtain rfl:=ak h;try refine ah ?_
       exact q0 _ _ rfl aJ av
      ·obtain rfl:=ak h;try refine ah ?_
       exact q0 _ _ rfl aJ av
     ·obtain rfl:=ak h;try refine ah ?_
      exact q0 _ _ rfl aJ av
   ·rcases au h with⟨e96,h⟩|⟨e96,h⟩
    ·rcases au h with⟨e97,h⟩|⟨e97,h⟩
     ·rcases au h with⟨e98,h⟩|⟨e98,h⟩
      ·obtain⟨Yn,e99,h⟩:=aj h;try refine ah ?_
       refine aB (gH e99) ?_;obtain rfl:=ak h;try refine ah ?_
       exact q0 _ _ rfl aJ av
      ·obtain rfl:=ak h;try refine ah ?_
       exact q0 _ _ rfl aJ av
     ·obtain⟨OL,OA,h⟩:=aj h;try refine ah ?_
      refine aB (Dq OA) ?_;rcases au h with⟨I4,h⟩|⟨I4,h⟩
      ·rcases au h with⟨ahF,h⟩|⟨ahF,h⟩
       ·obtain⟨EH,KE,h⟩:=aj h;try refine ah ?_
        refine aB (gH KE) ?_;obtain rfl:=ak h;try refine ah ?_
        exact q0 _ _ rfl aJ av
       ·obtain rfl:=ak h;try refine ah ?_
        exact q0 _ _ rfl aJ av
      ·obtain rfl:=ak h;try refine ah ?_
       exact q0 _ _ rfl aJ av
    ·obtain rfl:=ak h;try refine ah ?_
     exact q0 _ _ rfl aJ av
  ·rcases au h with⟨Ey,h⟩|⟨Ey,h⟩
   ·rcases au h with⟨e108,h⟩|⟨e108,h⟩
    ·rcases au h with⟨e109,h⟩|⟨e109,h⟩
     ·rcases au h with⟨TT,h⟩|⟨TT,h⟩
      ·obtain⟨Jf,Yt,h⟩:=aj h;try refine ah ?_
       refine aB (gH Yt) ?_;obtain rfl:=ak h;try refine ah ?_
       exact q0 _ _ rfl aJ av
      ·obtain rfl:=ak h;try refine ah ?_
       exact q0 _ _ rfl aJ av
     ·obtain⟨Yp,Yu,h⟩:=aj h;try refine ah ?_
      refine aB (Dq Yu) ?_;rcases au h with⟨e115,h⟩|⟨e115,h⟩
      ·rcases au h with⟨e116,h⟩|⟨e116,h⟩
       ·obtain⟨Gx,e117,h⟩:=aj h;try refine ah ?_
        refine aB (gH e117) ?_;obtain rfl:=ak h;try refine ah ?_
        exact q0 _ _ rfl aJ av
       ·obtain rfl:=ak h;try refine ah ?_
        exact q0 _ _ rfl aJ av
      ·obtain rfl:=ak h;try refine ah ?_
       exact q0 _ _ rfl aJ av
    ·rcases au h with⟨e119,h⟩|⟨e119,h⟩
     ·rcases au h with⟨e120,h⟩|⟨e120,h⟩
      ·rcases au h with⟨ahN,h⟩|⟨ahN,h⟩
       ·obtain⟨apJ,Yv,h⟩:=aj h;try refine ah ?_
        refine aB (gH Yv) ?_;obtain rfl:=ak h;try refine ah ?_
        exact q0 _ _ rfl aJ av
       ·obtain rfl:=ak h;try refine ah ?_
        exact q0 _ _ rfl aJ av
      ·obtain⟨apK,apN,h⟩:=aj h;try refine ah ?_
       refine aB (Dq apN) ?_;rcases au h with⟨e126,h⟩|⟨e126,h⟩
       ·rcases au h with⟨e127,h⟩|⟨e127,h⟩
        ·obtain⟨apL,e128,h⟩:=aj h;try refine ah ?_
         refine aB (gH e128) ?_;obtain rfl:=ak h;try refine ah ?_
         exact q0 _ _ rfl aJ av
        ·obtain rfl:=ak h;try refine ah ?_
         exact q0 _ _ rfl aJ av
       ·obtain rfl:=ak h;try refine ah ?_
        exact q0 _ _ rfl aJ av
     ·obtain rfl:=ak h;try refine ah ?_
      exact q0 _ _ rfl aJ av
   ·obtain rfl:=ak h;try refine ah ?_
    exact q0 _ _ rfl aJ av
def Cr (k:Nat) (aH:List Nd) (dA:Int) (qM:List Int):Option Int:=
  if 0<=dA then Option.bind (aH[dA.toNat]?) fun x2=>Option.bind (gF x2.kind 0 28) fun p5=>cond p5 (Option.bind (yM k x2) fun p8=>Option.bind (gF (x2.names.length:Int) p8.names.1 p8.names.2) fun iN=>Option.bind (Ah x2.kind x2.n x2.text x2.names x2.args p8.names.1 p8.names.2 p8.operands.1 p8.operands.2 p8.text p8.number (!iN)) (fun p16=>cond p16 (some 6) (Option.bind (vL qM x2.kind x2.n x2.text x2.names x2.args (IntKind.wrap .i64 (dA -1)) true) (fun p66=>Option.bind (Ao x2.kind x2.n x2.text x2.names x2.args p8.names.1 p8.names.2 p8.operands.1 p8.operands.2 p8.text p8.number (x2.kind==23) p8.text) (fun Uz=>cond p66.2 (Option.bind (lY (!Uz) 5) fun ahO=>cond (x2.kind==23) (Option.bind (lY false 3) fun apO=>Option.bind (nR k x2) fun apP=>Option.bind (gG k [ahO,apO,apP]) fun apQ=>some apQ) (Option.bind (gF x2.n 0 10000) fun apR=>Option.bind (lY (!apR) 3) fun Yx=>Option.bind (nR k x2) fun apS=>Option.bind (gG k [ahO,Yx,apS]) fun apT=>some apT)) (Option.bind (lY true 5) fun ahP=>cond (x2.kind==23) (Option.bind (lY false 3) fun apU=>Option.bind (nR k x2) fun apV=>Option.bind (gG k [ahP,apU,apV]) fun apW=>some apW) (Option.bind (gF x2.n 0 10000) fun Yy=>Option.bind (lY (!Yy) 3) fun apX=>Option.bind (nR k x2) fun adk=>Option.bind (gG k [ahP,apX,adk]) fun apY=>some apY))))))) (some 4)else none
theorem aa4 {k:Nat} {aH:List Nd} {dA:Int} {qM:List Int} {c0 c2:Ck} {r:Int} (h:Cr k aH dA qM=some r):aF Tryz.prog 48 [(.aA (aH.map Nd.cells) c0),(.int .i64 dA),(.aA (qM.map aX) c2)] (.int .i64 r):=by
  refine aF.lw (.aA (.same (.aA .nil))) (aF.aQ (bf.mem (.cons (aU Nd.pu _) (.cons (.int _ _) (.cons (aU fH _) .nil)))) (aG auO (by simp) (aD ?_)) (.int _ _));unfold Cr at h;unfold anx;obtain⟨e1,h⟩:=aP h;obtain⟨x2,e3,h⟩:=aj h;obtain⟨p5,e4,h⟩:=aj h;try refine ah ?_
  refine aB (gH e4) ?_;rcases au h with⟨e6,h⟩|⟨e6,h⟩
  ·obtain⟨p8,e7,h⟩:=aj h;try refine ah ?_
   refine aB (aa3 e7) ?_;obtain⟨iN,e9,h⟩:=aj h;try refine ah ?_
   refine aB (gH e9) ?_;try refine ah ?_
   obtain⟨o14,h15,h⟩:=aj h;refine Uu (AH.empty.next+1) (AH.empty.next+2) x2.kind x2.n x2.text x2.names x2.args p8.names.1 p8.names.2 p8.operands.1 p8.operands.2 p8.text p8.number (!iN) _ _ _ (Fr.refl _ _) av bQ bQ bQ _ h15 _ ?_
   ·rintro p16 σ' eo Yj s20;rw [eo]at h;have s21:σ' 1=(.int .i64 dA):=(Yj 1 (by decide)).trans av;have s22:σ' 5=(.ref (AH.empty.next) 0):=(Yj 5 (by decide)).trans av;have s23:σ' 7=(.ref (AH.empty.next+1) 0):=(Yj 7 (by decide)).trans av;have s24:σ' 8=(.ref (AH.empty.next+2) 0):=(Yj 8 (by decide)).trans av;rcases au h with⟨e25,h⟩|⟨e25,h⟩
    ·obtain rfl:=ak h;try refine ah ?_
     exact(.pure _ (.int _ _))
    ·try refine ah ?_
     obtain⟨o64,h65,h⟩:=aj h;refine Uw (AH.empty.next) (AH.empty.next+1) (AH.empty.next+3) (AH.empty.next+4) qM x2.kind x2.n x2.text x2.names x2.args (IntKind.wrap .i64 (dA -1)) true _ _ _ _ (Fr.refl _ _) (HF.refl _ _) av bQ bQ bQ bQ bQ bQ bQ bQ bQ bQ _ h65 _ ?_
     ·rintro p66 σ' Vy eo KX ahQ ⟨g70,g71⟩;rw [eo]at h;have s72:σ' 7=(.ref (AH.empty.next+1) 0):=(KX 7 (by decide)).trans av;have s73:σ' 8=(.ref (AH.empty.next+2) 0):=(KX 8 (by decide)).trans av;have s74:σ' 10=(.ref (AH.empty.next+4) 0):=(KX 10 (by decide)).trans av;have le:=ahQ.1;try simp only [AH.aK,AH.aL,AH.aM,AH.aN]at le
      have g75:Vy.obj (AH.empty.next+1)=some [(.int .i64 x2.kind),(.int .i64 x2.n),(.str x2.text),(.aA (x2.names.map aI) .unk),(.aA (x2.args.map aX) .unk)]:=(ahQ.2 _ bQ (by first|exact List.not_mem_nil|(simp only [List.mem_cons,List.not_mem_nil,or_false,not_or];omega))).trans av;have n76:=ne_next (show AH.empty.next+1<Vy.next by first|omega|(simp only [AH.aK,AH.aL,AH.aM,AH.aN];omega));have m77:=aV (show AH.empty.next+1<Vy.next by first|omega|(simp only [AH.aK,AH.aL,AH.aM,AH.aN];omega));have g78:Vy.obj (AH.empty.next+2)=some [(.int .i64 p8.names.1),(.int .i64 p8.names.2),(.int .i64 p8.operands.1),(.int .i64 p8.operands.2),(.bool p8.text),(.bool p8.number)]:=(ahQ.2 _ bQ (by first|exact List.not_mem_nil|(simp only [List.mem_cons,List.not_mem_nil,or_false,not_or];omega))).trans av;have n79:=ne_next (show AH.empty.next+2<Vy.next by first|omega|(simp only [AH.aK,AH.aL,AH.aM,AH.aN];omega));have m80:=aV (show AH.empty.next+2<Vy.next by first|omega|(simp only [AH.aK,AH.aL,AH.aM,AH.aN];omega));have n82:=ne_next (show AH.empty.next+4<Vy.next by first|omega|(simp only [AH.aK,AH.aL,AH.aM,AH.aN];omega));have m83:=aV (show AH.empty.next+4<Vy.next by first|omega|(simp only [AH.aK,AH.aL,AH.aM,AH.aN];omega));try refine ah ?_
      obtain⟨aAU,av1,h⟩:=aj h;refine Uy (AH.empty.next+1) (AH.empty.next+2) x2.kind x2.n x2.text x2.names x2.args p8.names.1 p8.names.2 p8.operands.1 p8.operands.2 p8.text p8.number (x2.kind==23) p8.text _ _ _ (Fr.refl _ _) av bQ bQ bQ _ av1 _ ?_
      ·rintro Uz σ' eo adL aAV;rw [eo]at h;have aAW:σ' 7=(.ref (AH.empty.next+1) 0):=(adL 7 (by decide)).trans av;have apZ:σ' 10=(.ref (AH.empty.next+4) 0):=(adL 10 (by decide)).trans av;have ap0:σ' 13=(.bool (x2.kind==23)):=(adL 13 (by decide)).trans av;try refine ah ?_
       refine eO ?_;rcases au h with⟨Yw,h⟩|⟨Yw,h⟩
       ·obtain⟨ahO,av2,h⟩:=aj h;try refine ah ?_
        refine PC.mk (lK av2) ?_;rcases au h with⟨e143,h⟩|⟨e143,h⟩
        ·obtain⟨apO,ahR,h⟩:=aj h;try refine ah ?_
         refine PC.mk (lK ahR) ?_;obtain⟨apP,adM,h⟩:=aj h;try refine ah ?_
         refine aB (Ag adM) ?_;obtain⟨apQ,ap1,h⟩:=aj h;try refine ah ?_
         refine aB (kF ap1) ?_;obtain rfl:=ak h;try refine ah ?_
         exact(.pure _ (.int _ _))
        ·obtain⟨apR,ahu,h⟩:=aj h;try refine ah ?_
         refine PC.mk (gH ahu) ?_;obtain⟨Yx,e152,h⟩:=aj h;try refine ah ?_
         refine PC.mk (lK e152) ?_;obtain⟨apS,e154,h⟩:=aj h;try refine ah ?_
         refine aB (Ag e154) ?_;obtain⟨apT,av3,h⟩:=aj h;try refine ah ?_
         refine aB (kF av3) ?_;obtain rfl:=ak h;try refine ah ?_
         exact(.pure _ (.int _ _))
       ·obtain⟨ahP,ahS,h⟩:=aj h;try refine ah ?_
        refine PC.mk (lK ahS) ?_;rcases au h with⟨av4,h⟩|⟨av4,h⟩
        ·obtain⟨apU,ap2,h⟩:=aj h;try refine ah ?_
         refine PC.mk (lK ap2) ?_;obtain⟨apV,aht,h⟩:=aj h;try refine ah ?_
         refine aB (Ag aht) ?_;obtain⟨apW,e165,h⟩:=aj h;try refine ah ?_
         refine aB (kF e165) ?_;obtain rfl:=ak h;try refine ah ?_
         exact(.pure _ (.int _ _))
        ·obtain⟨Yy,e167,h⟩:=aj h;try refine ah ?_
         refine PC.mk (gH e167) ?_;obtain⟨apX,e169,h⟩:=aj h;try refine ah ?_
         refine PC.mk (lK e169) ?_;obtain⟨adk,ahT,h⟩:=aj h;try refine ah ?_
         refine aB (Ag ahT) ?_;obtain⟨apY,av5,h⟩:=aj h;try refine ah ?_
         refine aB (kF av5) ?_;obtain rfl:=ak h;try refine ah ?_
         exact(.pure _ (.int _ _))
  ·obtain rfl:=ak h;try refine ah ?_
   exact(.pure _ (.int _ _))
end Go.VL
end
section
set_option maxRecDepth 8000
set_option maxHeartbeats 4000000
namespace Go.VL
open Go.Proofs
def jG:Nat->(List Nd)->(List Int)->Int->Int->Option (List Int⊕(Int×Int))
  |0,_,_,_,_=>none
  |k+1,aH,lZ,jK,fO=>
    cond (decide (fO<jK)) (Option.bind (Cr k aH fO lZ) fun iN=>cond (iN !=0) (some (.inr ((fO,iN)))) (if(lZ.length+1)*8<=1099511627776 then Option.bind (Mg aH fO (lZ++[0])) fun pI=>if 0<=fO then Option.bind ((lZ++[0])[fO.toNat]?) fun x23=>jG k aH ((lZ++[0]).set fO.toNat pI) jK (IntKind.wrap .i64 (fO+1))else none else none)) (some (.inl lZ))
def Ap:List Nat:=[2,3,5,6,7]++List.range' 27 22
theorem OM: ∀(k:Nat) (wE:PV) (vN:List Nat) (M:List Nat) (aH:List Nd) (lZ:List Int) (jK:Int) (fO:Int) (aC σ:Nat->PV) (H0 H:AH) (f0:Fr Ap aC σ) (hf0:HF M H0 H) (sl:σ 0=(.aA (aH.map Nd.cells) .unk)/\σ 5=wE/\σ 26=(.int .i64 jK)/\σ 27=(.int .i64 fO)) (qz:aO H aX 1 lZ wE vN) (ug:Nw H0 M vN) (o:List Int⊕(Int×Int)) (h:jG k aH lZ jK fO=some o) (Q:Post) (q0: ∀(p:List Int) (v0:PV) (sP:List Nat) (σ':Nat->PV) (H':AH),o= .inl p->Fr Ap aC σ'->HF M H0 H'->(σ' 5=v0)->aO H' aX 1 p v0 sP->Nw H0 M sP->Q (.exit 0) σ' H') (q1: ∀(p:Int×Int) (σ':Nat->PV) (H':AH),o= .inr (p)->Fr Ap aC σ'->HF M H0 H'->(σ' 2=(.int .i64 p.1)/\σ' 3=(.int .i64 p.2))->Q .ret σ' H'),W Tryz.prog (.loop RB) Q σ H:=by
  intro k
  induction k with
  |zero=>intro wE vN M aH lZ jK fO aC σ H0 H f0 hf0 sl qz ug o h Q q0 q1;simp only [jG,reduceCtorEq]at h
  |succ k ih=>
    intro wE vN M aH lZ jK fO aC σ H0 H f0 hf0 sl qz ug o h Q q0 q1;obtain⟨s0,s5,s26,s27⟩:=sl;have hle0:=hf0.1;unfold jG at h;refine aT (fun K hK=>aD ?_);unfold RB;rcases au h with⟨e8,h⟩|⟨e8,h⟩
    ·obtain⟨iN,e9,h⟩:=aj h;try refine cu ?_
     refine FJ (aa4 e9) (.cons (d9 Nd.pu _ _) (.cons (.pure _ (.int _ _)) (.cons (aO.fz fH (by repeat (first|exact qz|apply aO.new|refine aO.put ?_ (fun hm=>by have:=aO.lt qz _ hm;omega)))) .nil))) (.cons (aU Nd.pu _) (.cons (.int _ _) (.cons (aU fH _) .nil))) (.int _ _) ?_;rcases au h with⟨e11,h⟩|⟨e11,h⟩
     ·obtain rfl:=ak h;try refine cu ?_
      exact q1 _ _ _ rfl aJ (by repeat (first|exact hf0|refine HF.new ?_|refine HF.fI ?_|refine HF.used ?_|refine HF.put (by first|(right;omega)|(left;simp only [List.mem_cons,true_or,or_true])) ?_)) eP
     ·obtain⟨e12,h⟩:=aP h;try refine cu ?_
      refine Kr (f:=aX) (v:=wE) He lZ ([0]:List Int) .exact eP (by repeat (first|exact qz|apply aO.new|refine aO.put ?_ (fun hm=>by have:=aO.lt qz _ hm;omega))) eP (by decide) (by simp only [List.length_cons,List.length_nil];exact e12) (fun v13 asy H15 r16 ap3 ap4 ap5=> ?_);have le:=ap4.1;try simp only [AH.aK,AH.aL,AH.aM,AH.aN]at le
      obtain⟨pI,e20,h⟩:=aj h;try refine cu ?_
      refine FJ (afh e20) (.cons (d9 Nd.pu _ _) (.cons (.pure _ (.int _ _)) (.cons (aO.fz fH (by repeat (first|exact r16|apply aO.new|refine aO.put ?_ (fun hm=>by have:=aO.lt r16 _ hm;omega)))) .nil))) (.cons (aU Nd.pu _) (.cons (.int _ _) (.cons (aU fH _) .nil))) (.int _ _) ?_;obtain⟨e22,h⟩:=aP h;obtain⟨x23,e24,h⟩:=aj h;obtain⟨w25,w26,ap6,hil,w27,hC,hL,hD,hI⟩:=aO.content r16 e24;have w28:=ne_next hil;have w29:=aV hil;have w30:kT 1 v13 (.int .i64 fO)=some (.ref w25 (fO.toNat)):=by simpa using hI .i64 fO (by first|omega|decide) (by first|rfl|omega)
      have azO:w26[fO.toNat]? =some (.int .i64 x23):=by simpa using hC 0 _ rfl
      clear hC hL hD hI;try refine cu ?_
      refine qg (f:=aX) (id:=w25) (o:=fO.toNat) (i:=fO.toNat) (j:=0) (a:=x23) (y:=pI) (vs:=[(.int .i64 pI)]) eP ap6 (by omega) (by repeat (first|exact r16|apply aO.new|refine aO.put ?_ (fun hm=>by have:=aO.lt r16 _ hm;omega))) e24 eP rfl rfl (by first|decide|(simp only [List.length_cons,List.length_nil];omega)) rfl (fun H33 r34 ap7 anq=> ?_);have le:=ap7.1;try simp only [AH.aK,AH.aL,AH.aM,AH.aN]at le
      try refine cu ?_
      refine hK _ _ ?_;exact ih v13 asy M aH ((lZ++[0]).set fO.toNat pI) jK (IntKind.wrap .i64 (fO+1)) _ _ _ _ aJ (by repeat (first|exact hf0|refine HF.new ?_|refine HF.fI ?_|refine HF.used ?_|refine HF.put (by first|(right;omega)|(left;simp only [List.mem_cons,true_or,or_true])) ?_|refine HF.via ap4 ug ?_|refine HF.via ap7 (Nw.trans ug bQ ap3) ?_)) eP (by repeat (first|exact r34|apply aO.new|refine aO.put ?_ (fun hm=>by have:=aO.lt r34 _ hm;omega))) (Nw.trans ug bQ ap3) _ h _ q0 q1
    ·obtain rfl:=ak h;try refine cu ?_
     exact q0 _ wE vN _ _ rfl aJ (by repeat (first|exact hf0|refine HF.new ?_|refine HF.fI ?_|refine HF.used ?_|refine HF.put (by first|(right;omega)|(left;simp only [List.mem_cons,true_or,or_true])) ?_)) eP (by repeat (first|exact qz|apply aO.new|refine aO.put ?_ (fun hm=>by have:=aO.lt qz _ hm;omega))) ug
def jH:Nat->(List Nd)->(List Int)->(List Int)->Int->Int->Option (Unit⊕(Int×Int))
  |0,_,_,_,_,_=>none
  |k+1,aH,K9,vO,La,GN=>
    cond (decide (GN<La)) (Option.bind (ED k aH GN K9 vO) fun p54=>cond p54 (some (.inr ((GN,30)))) (jH k aH K9 vO La (IntKind.wrap .i64 (GN+1)))) (some (.inl ()))
def Aq:List Nat:=[2,3,11]++List.range' 59 10
theorem OO: ∀(k:Nat) (aH:List Nd) (K9:List Int) (vO:List Int) (La:Int) (GN:Int) (aC σ:Nat->PV) (H:AH) (f0:Fr Aq aC σ) (sl:σ 0=(.aA (aH.map Nd.cells) .unk)/\σ 9=(.aA (K9.map aX) .unk)/\σ 10=(.aA (vO.map aX) .unk)/\σ 58=(.int .i64 La)/\σ 59=(.int .i64 GN)) (o:Unit⊕(Int×Int)) (h:jH k aH K9 vO La GN=some o) (Q:Post) (q0: ∀(p:Unit) (σ':Nat->PV),o= .inl p->Fr Aq aC σ'->Q (.exit 2) σ' H) (q1: ∀(p:Int×Int) (σ':Nat->PV),o= .inr (p)->Fr Aq aC σ'->(σ' 2=(.int .i64 p.1)/\σ' 3=(.int .i64 p.2))->Q .ret σ' H),W Tryz.prog (.loop RD) Q σ H:=by
  intro k
  induction k with
  |zero=>intro aH K9 vO La GN aC σ H f0 sl o h Q q0 q1;simp only [jH,reduceCtorEq]at h
  |succ k ih=>
    intro aH K9 vO La GN aC σ H f0 sl o h Q q0 q1;obtain⟨s0,s9,s10,s58,s59⟩:=sl;unfold jH at h;refine aT (fun K hK=>aD ?_);unfold RD;rcases au h with⟨e52,h⟩|⟨e52,h⟩
    ·obtain⟨p54,e53,h⟩:=aj h;try refine cu ?_
     refine aB (adI e53) ?_;rcases au h with⟨e55,h⟩|⟨e55,h⟩
     ·obtain rfl:=ak h;try refine cu ?_
      exact q1 _ _ rfl aJ eP
     ·try refine cu ?_
      refine hK _ _ ?_;exact ih aH K9 vO La (IntKind.wrap .i64 (GN+1)) _ _ _ aJ eP _ h _ q0 q1
    ·obtain rfl:=ak h;try refine cu ?_
     exact q0 _ _ rfl aJ
def mG (k:Nat) (aH:List Nd):Option (Int×Int):=
  Option.bind (lY ((aH.length:Int)==0) 1) fun p2=>Option.bind (lY (decide ((aH.length:Int)>160)) 2) fun p4=>Option.bind (gG k [p2,p4]) fun p6=>cond (p6 !=0) (some (0,p6)) (Option.bind (jG k aH ([]:List Int) (aH.length:Int) 0) (fun o=>Sum.elim (fun p40=>Option.bind (yL k aH) fun p51=>Option.bind (jH k aH p51.1 p51.2 (aH.length:Int) 0) (fun o=>Sum.elim (fun p58=>if 0<=(IntKind.wrap .i64 ((aH.length:Int) -1))then Option.bind (p40[(IntKind.wrap .i64 ((aH.length:Int) -1)).toNat]?) fun x65=>cond (x65 !=0) (some ((IntKind.wrap .i64 ((aH.length:Int) -1)),15)) (some (0,0))else none) (fun p74=>some (p74.1,p74.2)) o)) (fun zG=>some (zG.1,zG.2)) o))
theorem JM {k:Nat} {aH:List Nd} {c0:Ck} {r:Int×Int} (h:mG k aH=some r):aF Tryz.prog 14 [(.aA (aH.map Nd.cells) c0)] (.dM [(.int .i64 r.1),(.int .i64 r.2)]):=by
  refine aF.lw (.aA .nil) (aF.aQ (bf.mem (.cons (aU Nd.pu _) .nil)) (aG auC (by simp) (aD ?_)) (.dM _ (bf.mem (.cons (.int _ _) (.cons (.int _ _) .nil)))));unfold mG at h;unfold amZ;obtain⟨p2,e1,h⟩:=aj h;try refine cu ?_
  refine aB (lK e1) ?_;obtain⟨p4,e3,h⟩:=aj h;try refine cu ?_
  refine aB (lK e3) ?_;obtain⟨p6,e5,h⟩:=aj h;try refine cu ?_
  refine aB (kF e5) ?_;rcases au h with⟨e7,h⟩|⟨e7,h⟩
  ·obtain rfl:=ak h;try refine cu ?_
   exact(dn (.cons (.pure _ (.int _ _)) (.cons (.pure _ (.int _ _)) .nil)))
  ·try refine cu ?_
   obtain⟨o38,h39,h⟩:=aj h;refine OM k (.aA [] .nil) [] ([]++[]) aH ([]:List Int) (aH.length:Int) 0 _ _ _ _ (Fr.refl _ _) (HF.refl _ _) eP (by repeat (first|exact aO.nil|apply aO.new|refine aO.put ?_ (fun hm=>by have:=aO.lt aO.nil _ hm;omega))) (fun i hi=>Or.inl (by simp only [List.mem_append,List.mem_cons,hi,true_or,or_true])) _ h39 _ ?_ ?_
   ·rintro p40 v44 azP σ' H43 eo YL ap8 s48 r46 aAX;subst eo;rw [bL]at h;have s49:σ' 0=(.aA (aH.map Nd.cells) .unk):=(YL 0 (by decide)).trans eP;have le:=ap8.1;try simp only [AH.aK,AH.aL,AH.aM,AH.aN]at le
    obtain⟨p51,e50,h⟩:=aj h;try refine cu ?_
    refine aB (aa2 e50) ?_;try refine cu ?_
    obtain⟨o56,h57,h⟩:=aj h;refine OO k aH p51.1 p51.2 (aH.length:Int) 0 _ _ _ (Fr.refl _ _) eP _ h57 _ ?_ ?_
    ·rintro p58 σ' eo ahy;subst eo;rw [bL]at h;have s62:σ' 5=v44:=(ahy 5 (by decide)).trans eP;have s63:σ' 8=(.int .i64 (IntKind.wrap .i64 ((aH.length:Int) -1))):=(ahy 8 (by decide)).trans eP;obtain⟨e64,h⟩:=aP h;obtain⟨x65,e66,h⟩:=aj h;obtain⟨w67,w68,ayL,hil,w69,hC,hL,hD,hI⟩:=aO.content r46 e66;have w70:=ne_next hil;have w71:=aV hil;have w72:kT 1 v44 (.int .i64 (IntKind.wrap .i64 ((aH.length:Int) -1)))=some (.ref w67 ((IntKind.wrap .i64 ((aH.length:Int) -1)).toNat)):=by simpa using hI .i64 (IntKind.wrap .i64 ((aH.length:Int) -1)) (by first|omega|decide) (by first|rfl|omega)
     have azQ:w68[(IntKind.wrap .i64 ((aH.length:Int) -1)).toNat]? =some (.int .i64 x65):=by simpa using hC 0 _ rfl
     clear hC hL hD hI;rcases au h with⟨PX,h⟩|⟨PX,h⟩
     ·obtain rfl:=ak h;try refine cu ?_
      exact(dn (.cons (.pure _ (.int _ _)) (.cons (.pure _ (.int _ _)) .nil)))
     ·obtain rfl:=ak h;try refine cu ?_
      exact(dn (.cons (.pure _ (.int _ _)) (.cons (.pure _ (.int _ _)) .nil)))
    ·rintro p74 σ' eo aAY ⟨s78,s79⟩;subst eo;rw [bP]at h;obtain rfl:=ak h;try refine cu ?_
     exact(dn (.cons (.pure _ (.int _ _)) (.cons (.pure _ (.int _ _)) .nil)))
   ·rintro zG σ' H83 eo Je ahJ ⟨s84,s85⟩;subst eo;rw [bP]at h;have le:=ahJ.1;try simp only [AH.aK,AH.aL,AH.aM,AH.aN]at le
    obtain rfl:=ak h;try refine cu ?_
    exact(dn (.cons (.pure _ (.int _ _)) (.cons (.pure _ (.int _ _)) .nil)))
def rV (k:Nat) (aH:List Nd):Option Int:=
  Option.bind (mG k aH) fun p2=>some p2.2
theorem BO {k:Nat} {aH:List Nd} {c0:Ck} {r:Int} (h:rV k aH=some r):aF Tryz.prog 58 [(.aA (aH.map Nd.cells) c0)] (.int .i64 r):=by
  refine aF.lw (.aA .nil) (aF.aQ (bf.mem (.cons (aU Nd.pu _) .nil)) (aG auV (by simp) (aD ?_)) (.int _ _));unfold rV at h;unfold anI;obtain⟨p2,e1,h⟩:=aj h;try refine ah ?_
  refine aB (JM e1) ?_;obtain rfl:=ak h;try refine ah ?_
  exact(.pure _ (.int _ _))
end Go.VL
end
section
namespace Go.VL
theorem alD (s p:Str):lu s p=some (decide (p.length<=s.length)&&decide (s.take p.length=p)):=by
  unfold lu uI;by_cases h:p.length<=s.length
  · have h':(s.length:Int)>=(p.length:Int):=by omega
    simp only [h,h',decide_true,cond_true,if_true,Option.bind_some,Bool.true_and,HZ]
  · have h': ¬(s.length:Int)>=(p.length:Int):=by omega
    simp only [h,h',decide_false,cond_false,Option.bind_some,Bool.false_and]
theorem asz (s:Str) (a b c:UInt8):lu s [a,b,c]=some (decide (s.take 3=[a,b,c])):=by
  rw [alD];congr 1
  show(decide (3<=s.length)&&decide (s.take 3=[a,b,c]))=_
  by_cases h:s.take 3=[a,b,c]
  · have:=congrArg List.length h;rw [List.length_take]at this;have h3:3<=s.length:=by simp at this;omega
    simp [h,h3]
  · simp [h]
theorem ahU (s:Str):decide (s∈GH)=(decide (s∈Nf)||rz s):=by
  have h1:GH=Nf++[[66,79,79,76,69,65,78],[83,84,82,73,78,71]]:=by kernel_rfl
  have h2:([84,82,85,69]:Str)∈Nf:=by decide+kernel
  have h3:([70,65,76,83,69]:Str)∈Nf:=by decide+kernel
  rw [h1];unfold rz;by_cases a:s=[84,82,85,69]
  · subst a;simp [h2]
  by_cases b:s=[70,65,76,83,69]
  · subst b;simp [h3]
  by_cases c:s∈Nf<;>simp [a,b,c]
theorem ahV:GH.length=52:=by kernel_rfl
theorem adN (s:Str):(qX s).length=s.length:=by simp [qX]
theorem adO (s:Str) {i:Nat} (h:i<s.length):(qX s)[i]? =some (s[i].toNat:Int):=by simp [qX,h]
theorem aj7 (c:UInt8):IntKind.wrap .i64 (c.toNat:Int)=(c.toNat:Int):=by have:=c.toNat_lt;exact wrap64 (by omega) (by omega)
def Lb (s:Str):Nat:=s.countP isLet
theorem ahW (s:Str):decide ((Lb s:Int)>0)=s.any isLet:=by
  unfold Lb
  induction s with
  |nil=>rfl
  |cons c l ih=>
    rw [List.countP_cons,List.any_cons];by_cases h:isLet c=true
    · simp only [h,if_true,Bool.true_or,decide_eq_true_eq];omega
    · rw [if_neg h,Nat.add_zero,ih];simp [h]
theorem UA (c:UInt8):(Option.bind (gF (c.toNat:Int) 97 122) fun p26=>xB (c.toNat:Int) p26)=some (isLet c):=by
  unfold xB;simp only [qo,Option.bind_some,aj7];unfold isLet;have e1:((97:Int)<=(c.toNat:Int)/\(c.toNat:Int)<=122)=(97<=c.toNat/\c.toNat<=122):=by rw [eq_iff_iff];omega
  have e2:((65:Int)<=(c.toNat:Int)/\(c.toNat:Int)<=90)=(65<=c.toNat/\c.toNat<=90):=by rw [eq_iff_iff];omega
  simp only [e1,e2];cases decide (97<=c.toNat/\c.toNat<=122)<;>rfl
theorem xE (s:Str):Ev (fun k=>sS k s) (rName s):=by
  unfold sS BJ;simp only [qo,Option.bind_some,asz];by_cases h1:1<=s.length/\s.length<=24
  · have e1:(decide ((1:Int)<=(s.length:Int)/\(s.length:Int)<=24))=true:=decide_eq_true (by omega);simp only [e1,Bool.not_true,cond_false];refine Ev.bind (x:=Vq s||decide (s∈GH)) ?_ ?_
    · unfold Vq;cases decide (s.take 3=[87,70,95])
      · cases decide (s.take 3=[83,70,95])
        · exact Ev.bind (xM _ _ (by rw [ahV];omega)) (Ev.some' (by simp only [Bool.false_or]))
        · exact Ev.some
      · exact Ev.some
    · have hspec:rName s=(!(Vq s||decide (s∈GH))&&s.all pq&&s.any isLet):=by
        rw [ahU];unfold rName bName;simp only [h1,and_self,decide_true,Bool.true_and];cases decide (s∈Nf)<;>cases rz s<;>cases Vq s<;>cases s.all pq<;>cases s.any isLet<;>rfl
      rw [hspec];cases(Vq s||decide (s∈GH))
      · simp only [cond_false,Bool.not_false,Bool.true_and];have hb:s.length<=1099511627776:=by omega
        have key: ∀m:Nat,m<=0->Ev (fun k=>jU k (m:Int) (qX s) (s.length:Int) ((0:Nat):Int)) (if(s.drop 0).all pq=true then .inl ((m+Lb (s.drop 0):Nat):Int)else .inr false):=by
          refine lC (len:=s.length) (p:=fun i=> ∀m:Nat,m<=i->Ev (fun k=>jU k (m:Int) (qX s) (s.length:Int) (i:Int)) (if(s.drop i).all pq=true then .inl ((m+Lb (s.drop i):Nat):Int)else .inr false)) ?_ fun i hi ih m hm=> ?_
          · intro m hm;refine Ev.succ ?_;simp only [jU];exact Ev.cF (jJ _) (Ev.some' (by simp only [List.drop_length,List.all_nil,if_true,Lb,List.countP_nil,Nat.add_zero]))
          · refine Ev.succ ?_;have hp1:=UA s[i];simp only [qo,Option.bind_some]at hp1;simp only [jU,Int.toNat_natCast,adO s hi,Option.bind_some,nn,if_true,kW hi,cond_true,eF hi hb,qo,aj7];refine Ev.mq hp1 ?_;have hcount:Lb (s.drop i)=(if isLet s[i]=true then 1 else 0)+Lb (s.drop (i+1)):=by
              unfold Lb;rw [drop_cons hi,List.countP_cons,Nat.add_comm]
            rw [hcount];have hall:(s.drop i).all pq=(pq s[i]&&(s.drop (i+1)).all pq):=by rw [drop_cons hi,List.all_cons]
            rw [hall];by_cases h2:isLet s[i]=true
            · have hc:pq s[i]=true:=by unfold pq;rw [h2];rfl
              refine Ev.cT h2 ?_;rw [eF (i:=m) (n:=i+1) (by omega) (by omega)];refine(ih (m+1) (by omega)).to ?_;simp only [hc,h2,if_true,Bool.true_and,Nat.add_assoc]
            · have h2':isLet s[i]=false:=by simpa using h2
              refine Ev.cF h2' ?_;simp only [h2',Bool.false_eq_true,if_false,Nat.zero_add];have e3:((48:Int)<=(s[i].toNat:Int)/\(s[i].toNat:Int)<=57)=(48<=s[i].toNat/\s[i].toNat<=57):=by rw [eq_iff_iff];omega
              by_cases h3:48<=s[i].toNat/\s[i].toNat<=57
              · have hc:pq s[i]=true:=by unfold pq Dm;simp [h3]
                refine Ev.cT (decide_eq_true (e3▸h3)) ((ih m (by omega)).to ?_);simp only [hc,Bool.true_and]
              · refine Ev.cF (decide_eq_false (e3▸h3)) ?_;by_cases h4:s[i].toNat=95
                · have hc:pq s[i]=true:=by unfold pq;simp [h4]
                  refine Ev.cF (by rw [h4];rfl) ((ih m (by omega)).to ?_);simp only [hc,Bool.true_and]
                · have hc:pq s[i]=false:=by unfold pq Dm;rw [h2'];simp [h4];omega
                  refine Ev.cT (by rw [bne_iff_ne];omega) (Ev.some' ?_);simp only [hc,Bool.false_and,Bool.false_eq_true,if_false]
        have ap9:=key 0 (Nat.le_refl _);rw [List.drop_zero,Nat.zero_add]at ap9;simp only [adN];refine Ev.bind ap9 ?_;by_cases h3:s.all pq=true
        · simp only [h3,if_true,bL,Bool.true_and];exact Ev.some' (ahW s)
        · simp only [h3,if_false,bP];exact Ev.some' (by simp [h3])
      · exact Ev.some
  · have e1:(decide ((1:Int)<=(s.length:Int)/\(s.length:Int)<=24))=false:=decide_eq_false (by omega);simp only [e1,Bool.not_false,cond_true,Option.bind_some];exact Ev.some' (by simp [rName,bName,h1])
theorem Qp (s:Str):(Lib.indexByte s 33= -1/\bang s=none)\/ ∃i:Nat,Lib.indexByte s 33=(i:Int)/\i<s.length/\bang s=some (s.take i,s.drop (i+1)):=by
  induction s with
  |nil=>exact .inl ⟨rfl,rfl⟩
  |cons c l ih=>
    by_cases h:c=33
    · subst h;exact .inr ⟨0,rfl,by simp,by simp [bang]⟩
    · have hc:(c==33)=false:=beq_eq_false_iff_ne.2 h;rcases ih with⟨h1,h2⟩|⟨i,h1,h2,h3⟩
      · exact .inl ⟨by simp [Lib.indexByte,hc,h1],by simp [bang,h,h2]⟩
      · refine .inr ⟨i+1,?_,by simp;omega,by simp [bang,h,h3]⟩;have:((i:Int)== -1)=false:=by rw [beq_eq_false_iff_ne];omega
        simp [Lib.indexByte,hc,h1,this]
theorem Lc {s:Str} (h:rName s=true):s.length<=24:=by
  unfold rName bName at h;simp only [Bool.and_eq_true,decide_eq_true_eq]at h;exact h.1.1.1.1.1.2
theorem JN (s:Str) (hb:s.length<=1000000):Ev (fun k=>wm k s) (jm s):=by
  unfold wm ahg;by_cases hl:s.length<=49
  · refine Ev.cF (decide_eq_false (by omega)) ?_;unfold jm;rcases Qp s with⟨h1,h2⟩|⟨i,h1,h2,h3⟩
    · simp only [h1,h2,Option.bind_some];refine Ev.cF (by decide) (Ev.bind (xE s) ?_);cases rName s<;>exact Ev.some
    · simp only [h1,h3,Option.bind_some];refine Ev.cT (decide_eq_true (by omega)) (Ev.mZ ⟨by omega,by omega⟩ ?_);rw [eF h2 (by omega)];refine Ev.mZ ⟨by omega,by omega⟩ (Ev.bind (xE _) ?_);simp only [Int.toNat_natCast];cases rName (s.take i)
      · exact Ev.some
      · simp only [cond_true,Bool.true_and];exact Ev.bind (xE _) Ev.some
  · refine Ev.cT (decide_eq_true (by omega)) (Ev.some' ?_);unfold jm;rcases Qp s with⟨h1,h2⟩|⟨i,h1,h2,h3⟩
    · simp only [h2];cases h:rName s
      · rfl
      · exact absurd (Lc h) (by omega)
    · simp only [h3];cases h:rName (s.take i)
      · rfl
      · cases h':rName (s.drop (i+1))
        · rfl
        · have a:=Lc h;have b:=Lc h';rw [List.length_take]at a;rw [List.length_drop]at b;omega
theorem aa5 (s:Str):vw s=some (vv s):=by
  unfold vw vv;have h:(!adD s)=s.all KP:=by
    unfold adD
    induction s with
    |nil=>rfl
    |cons c l ih=>
      rw [List.any_cons,List.all_cons,Bool.not_or,ih];congr 1
      unfold OH KP;generalize c.toNat=n;by_cases h1:32<=n<;>by_cases h2:n<=126<;>by_cases h3:n=34<;>by_cases h4:n=92<;>simp [h1,h2,h3,h4]
  rw [h];by_cases hl:s.length<=40
  · have:(s.length:Int)<=40:=by omega
    simp [hl,this]
  · have: ¬(s.length:Int)<=40:=by omega
    simp [hl,this]
theorem Ld {l:List Operator} {t:Str} (h: ¬t∈l.map (·.text)):dP l t=(HY,false):=by
  induction l with
  |nil=>rfl
  |cons o l ih=>
    simp only [List.map_cons,List.mem_cons,not_or]at h;rw [dP,if_neg (fun e=>h.1 e.symm),ih h.2]
theorem av6 (t:Str):dP nA t=dP fJ t:=by
  have h1:((nA.map (·.text)).all fun t=>decide (dP nA t=dP fJ t))=true:=by kernel_rfl
  have h2:((fJ.map (·.text)).all fun t=>decide (t∈nA.map (·.text)))=true:=by kernel_rfl
  by_cases h:t∈nA.map (·.text)
  · exact of_decide_eq_true (List.all_eq_true.1 h1 t h)
  · rw [Ld h,Ld (fun h'=>h (of_decide_eq_true (List.all_eq_true.1 h2 t h')))]
theorem ahX:nA.length=42:=by kernel_rfl
theorem uJ (t:Str):Ev (fun k=>jV k t) (dP fJ t):=by
  rw [<-av6];have hl:nA.length<=1099511627776:=by rw [ahX];omega
  have key: ∃o:Unit⊕Int,Ev (fun k=>aW k nA t (nA.length:Int) ((0:Nat):Int)) o/\((o= .inl ()/\dP (nA.drop 0) t=(HY,false))\/ ∃(j:Nat) (x:Operator),o= .inr (j:Int)/\nA[j]? =some x/\dP (nA.drop 0) t=(x,true)):=by
    refine lC (len:=nA.length) (p:=fun i=> ∃o:Unit⊕Int,Ev (fun k=>aW k nA t (nA.length:Int) (i:Int)) o/\((o= .inl ()/\dP (nA.drop i) t=(HY,false))\/ ∃(j:Nat) (x:Operator),o= .inr (j:Int)/\nA[j]? =some x/\dP (nA.drop i) t=(x,true))) ?_ fun i hi ⟨o,ih,ho⟩=> ?_
    · refine⟨.inl (),Ev.succ ?_,.inl ⟨rfl,by simp [dP]⟩⟩;simp only [aW];exact Ev.cF (jJ _) Ev.some
    · by_cases h:nA[i].text=t
      · refine⟨.inr (i:Int),Ev.succ ?_,.inr ⟨i,nA[i],rfl,bG hi,by rw [drop_cons hi,dP,if_pos h]⟩⟩;simp only [aW,q9,Int.toNat_natCast,bG hi,Option.bind_some,nn,if_true,kW hi,cond_true,eF hi hl];exact Ev.cT (by rw [beq_iff_eq];exact h) Ev.some
      · refine⟨o,Ev.succ ?_,by rw [drop_cons hi,dP,if_neg h];exact ho⟩;simp only [aW,q9,Int.toNat_natCast,bG hi,Option.bind_some,nn,if_true,kW hi,cond_true,eF hi hl];exact Ev.cF (by rw [beq_eq_false_iff_ne];exact h) ih
  obtain⟨o,h1,h2⟩:=key;rw [List.drop_zero]at h2;unfold jV eT;rcases h2 with⟨rfl,h2⟩|⟨j,x,rfl,h3,h2⟩
  · refine Ev.bind (x:= -1) (Ev.bind h1 Ev.some) ?_;rw [h2];exact Ev.cT (by decide) Ev.some
  · refine Ev.bind (x:=(j:Int)) (Ev.bind h1 Ev.some) ?_;rw [h2];simp only [Int.toNat_natCast,h3,Option.bind_some,nn,if_true];exact Ev.cF (decide_eq_false (by omega)) Ev.some
end Go.VL
end
section
namespace Go.VL
def vP:List Int->Int
  |[]=>0
  |a::l=>if a=0 then vP l else a
theorem DV (l:List Int) (hl:l.length<=1099511627776):Ev (fun k=>gG k l) (vP l):=by
  have key:Ev (fun k=>gZ k l (l.length:Int) ((0:Nat):Int)) (if vP (l.drop 0)=0 then .inl ()else .inr (vP (l.drop 0))):=by
    refine lC (len:=l.length) (p:=fun i=>Ev (fun k=>gZ k l (l.length:Int) (i:Int)) (if vP (l.drop i)=0 then .inl ()else .inr (vP (l.drop i)))) ?_ fun i hi ih=> ?_
    · refine Ev.succ ?_;simp only [gZ];exact Ev.cF (jJ _) (Ev.some' (by simp [vP]))
    · refine Ev.succ ?_;simp only [gZ,Int.toNat_natCast,bG hi,Option.bind_some,nn,if_true,kW hi,cond_true,eF hi hl];rw [drop_cons hi,vP];by_cases h:l[i]=0
      · refine Ev.cF (by rw [h];rfl) (ih.to ?_);simp only [h,if_true]
      · refine Ev.cT (by rw [bne_iff_ne];exact h) (Ev.some' ?_);simp only [h,if_false]
  unfold gG;refine Ev.bind key ?_;rw [List.drop_zero];by_cases h:vP l=0
  · simp only [h,if_true,bL];exact Ev.some
  · simp only [h,if_false,bP];exact Ev.some
theorem aa6 (l:List Str) (hl:l.length<=1099511627776):Ev (fun k=>fD k l) (!l.all rName):=by
  have key: ∃o:Unit⊕Int,Ev (fun k=>bH k l (l.length:Int) ((0:Nat):Int)) o/\((o= .inl ()/\(l.drop 0).all rName=true)\/(∃j:Nat,o= .inr (j:Int))/\(l.drop 0).all rName=false):=by
    refine lC (len:=l.length) (p:=fun i=> ∃o:Unit⊕Int,Ev (fun k=>bH k l (l.length:Int) (i:Int)) o/\((o= .inl ()/\(l.drop i).all rName=true)\/(∃j:Nat,o= .inr (j:Int))/\(l.drop i).all rName=false)) ?_ fun i hi ⟨o,ih,ho⟩=> ?_
    · refine⟨.inl (),Ev.succ ?_,.inl ⟨rfl,by simp⟩⟩;simp only [bH];exact Ev.cF (jJ _) Ev.some
    · have hn:Ev (fun k=>vI k l[i]) (!rName l[i]):=by unfold vI;exact Ev.bind (xE _) Ev.some
      by_cases h:rName l[i]=true
      · refine⟨o,Ev.succ ?_,by rw [drop_cons hi,List.all_cons,h,Bool.true_and];exact ho⟩;simp only [bH,Int.toNat_natCast,bG hi,Option.bind_some,nn,if_true,kW hi,cond_true,eF hi hl];exact Ev.bind hn (Ev.cF (by rw [h];rfl) ih)
      · have h:rName l[i]=false:=by simpa using h
        refine⟨.inr (i:Int),Ev.succ ?_,.inr ⟨⟨i,rfl⟩,by rw [drop_cons hi,List.all_cons,h,Bool.false_and]⟩⟩;simp only [bH,Int.toNat_natCast,bG hi,Option.bind_some,nn,if_true,kW hi,cond_true,eF hi hl];exact Ev.bind hn (Ev.cT (by rw [h];rfl) Ev.some)
  obtain⟨o,h1,h2⟩:=key;rw [List.drop_zero]at h2;unfold fD;rcases h2 with⟨rfl,h2⟩|⟨⟨j,rfl⟩,h2⟩
  · refine Ev.bind (x:= -1) (by unfold gy;exact Ev.bind h1 Ev.some) (Ev.some' ?_);rw [h2];rfl
  · refine Ev.bind (x:=(j:Int)) (by unfold gy;exact Ev.bind h1 Ev.some) (Ev.some' ?_);rw [h2];simp
theorem ahY (a b:Int) (c:Str) (l:List Str) (d:List Int) (hl:l.length<=1099511627776):Ev (fun k=>iP k a b c l d false l (l.length:Int) 0) (rA [] l):=by
  have key: ∀x:Bool,Ev (fun k=>iP k a b c l d x l (l.length:Int) ((0:Nat):Int)) (x||rA (l.take 0) (l.drop 0)):=by
    refine lC (len:=l.length) (p:=fun i=> ∀x:Bool,Ev (fun k=>iP k a b c l d x l (l.length:Int) (i:Int)) (x||rA (l.take i) (l.drop i))) (fun x=> ?_) fun i hi ih x=> ?_
    · refine Ev.succ ?_;simp only [iP];exact Ev.cF (jJ _) (Ev.some' (by simp [rA]))
    · refine Ev.succ ?_;have h2:i<=l.length:=by omega
      simp only [iP,Int.toNat_natCast,bG hi,Option.bind_some,nn,if_true,kW hi,cond_true,eF hi hl,true_and,h2];rw [drop_cons hi,rA,<-List.take_succ_eq_append_getElem hi];cases x
      · refine Ev.cF rfl (Ev.bind (xM _ _ (by rw [List.length_take];omega)) ?_);simp only [Bool.false_or];exact ih _
      · exact Ev.cT rfl ((ih true).to (by simp))
  exact key false
def Ze (n:Nd):Bool:= !(n.names.all rName)||(decide (n.kind=2)&& !rz n.text&& !jm n.text)||(decide (n.kind=3)&& !(dP fJ n.text).2&& !jm n.text)||(decide (n.kind=18)&& !rName n.text)
def arT (n:Nd):Bool:=decide (n.kind=3)&&(dP fJ n.text).2&& !gV (n.args.length:Int) (dP fJ n.text).1.least (dP fJ n.text).1.most
def Io (n:Nd):Int:=if Ze n=true then 7 else if arT n=true then 17 else if rA [] n.names=true then 12 else 0
theorem WW (n:Nd) (h1:n.text.length<=1000000) (h2:n.names.length<=1000000):Ev (fun k=>nR k n) (Io n):=by
  unfold nR;refine Ev.bind (aa6 _ (by omega)) (Ev.bind (uJ _) (Ev.bind (x:=(Ze n,arT n)) ?_ ?_))
  · unfold xV Ze arT gV;by_cases a:n.kind=2
    · simp only [a];refine Ev.cT rfl (Ev.bind (x:= !(n.names.all rName)||(!rz n.text&& !jm n.text)) ?_ (Ev.some' (by simp)));unfold xO;cases n.names.all rName
      · exact Ev.some
      · refine Ev.cF rfl ?_;simp only [KO,Option.bind_some];cases rz n.text
        · exact Ev.bind (JN _ h1) (Ev.some' (by simp))
        · exact Ev.some
    by_cases b:n.kind=3
    · simp only [b];refine Ev.cF rfl (Ev.cT rfl (Ev.bind (x:= !(n.names.all rName)||(!(dP fJ n.text).2&& !jm n.text)) ?_ ?_))
      · unfold xP;cases n.names.all rName
        · exact Ev.some
        · refine Ev.cF rfl ?_;cases(dP fJ n.text).2
          · exact Ev.bind (JN _ h1) (Ev.some' (by simp))
          · exact Ev.some
      · unfold xQ;simp only [qo,Option.bind_some];cases(dP fJ n.text).2
        · exact Ev.some' (by simp)
        · exact Ev.some' (by simp)
    by_cases c:n.kind=18
    · simp only [c];refine Ev.cF rfl (Ev.cF rfl (Ev.cT rfl (Ev.bind (x:= !(n.names.all rName)|| !rName n.text) ?_ (Ev.some' (by simp)))));unfold xU;cases n.names.all rName
      · exact Ev.some
      · exact Ev.cF rfl (Ev.bind (xE _) (Ev.some' (by simp)))
    · refine Ev.cF (beq_eq_false_iff_ne.2 a) (Ev.cF (beq_eq_false_iff_ne.2 b) (Ev.cF (beq_eq_false_iff_ne.2 c) (Ev.some' ?_)));simp [a,b,c]
  · refine Ev.bind (ahY _ _ _ n.names _ (by omega)) ?_;simp only [zR,Option.bind_some];refine Ev.bind (DV _ (by simp)) (Ev.some' ?_);unfold Io;cases Ze n<;>cases arT n<;>cases rA [] n.names<;>rfl
def Ct (n:Nd):Shape:=
  if n.kind=0 then Shape.mk (0,0) (0,0) false true else
  if n.kind=1\/n.kind=2 then Shape.mk (0,0) (0,0) true false else
  if n.kind=3 then(if(dP fJ n.text).2=true then Shape.mk (0,0) ((n.args.length:Int),(n.args.length:Int)) true false else Shape.mk (0,0) (1,4) true false)else
  if n.kind=4\/n.kind=5 then Shape.mk (0,0) (0,30) false false else
  if n.kind=6\/n.kind=12 then Shape.mk (1,1) (2,2) false false else
  if n.kind=7\/n.kind=8\/n.kind=9\/n.kind=13 then Shape.mk (1,4) ((n.names.length:Int)+1,(n.names.length:Int)+1) false false else
  if n.kind=10\/n.kind=11 then Shape.mk (1,4) (1,1) false false else
  if n.kind=14 then Shape.mk (0,0) (2,5) false false else
  if n.kind=16\/n.kind=17 then Shape.mk (1,30) ((n.names.length:Int),(n.names.length:Int)) false false else
  if n.kind=18 then Shape.mk (0,0) (1,1) true false else
  if n.kind=19\/n.kind=21 then Shape.mk (0,0) (3,3) false false else
  if n.kind=20 then Shape.mk (0,0) (0,0) false false else
  if n.kind=22 then Shape.mk (0,0) (2,30) false false else
  if n.kind=23 then Shape.mk (1,5) (2,2) false true else
  if n.kind=24 then Shape.mk (1,4) (1,1) false false else Shape.mk (0,0) (2,2) false false
theorem kinds {k:Int} (h:gV k 0 28=true):k=0\/k=1\/k=2\/k=3\/k=4\/k=5\/k=6\/k=7\/k=8\/k=9\/k=10\/k=11\/k=12\/k=13\/k=14\/k=15\/k=16\/k=17\/k=18\/k=19\/k=20\/k=21\/k=22\/k=23\/k=24\/k=25\/k=26\/k=27\/k=28:=by
  unfold gV at h;rw [decide_eq_true_eq]at h;omega
theorem Zf (n:Nd) (hk:gV n.kind 0 28=true) (h2:n.names.length<=1000000):Ev (fun k=>yM k n) (Ct n):=by
  have hw:IntKind.wrap .i64 ((n.names.length:Int)+1)=(n.names.length:Int)+1:=wrap64 (by omega) (by omega);rcases kinds hk with h|h|h|h|h|h|h|h|h|h|h|h|h|h|h|h|h|h|h|h|h|h|h|h|h|h|h|h|h
  case' inr.inr.inr.inl=>
    unfold yM vG Ct;simp only [h];refine Ev.cF rfl ?_;refine Ev.cg (Ev.bind (uJ n.text) (g:=fun k (wO:Operator×Bool)=>cond wO.2 (some (Shape.mk (0,0) ((n.args.length:Int),(n.args.length:Int)) true false)) (some (Shape.mk (0,0) (1,4) true false))) ?_) (fun k=>rfl);cases(dP fJ n.text).2<;>exact Ev.some
  all_goals
    unfold yM vG zV zW zX zY zZ z8 tY Ct;simp only [h,hw];exact Ev.some
end Go.VL
end
section
namespace Go.VL
theorem aqa (n:Nd) (hk:gV n.kind 0 28=true):(gV (n.names.length:Int) (Ct n).names.1 (Ct n).names.2&&gV (n.args.length:Int) (Ct n).operands.1 (Ct n).operands.2)=qb n:=by
  have d {a b:Int} (P:Prop) [Decidable P] (h:a=b) (x y:Int):gV a x y=gV b x y:=by rw [h]
  rcases kinds hk with h|h|h|h|h|h|h|h|h|h|h|h|h|h|h|h|h|h|h|h|h|h|h|h|h|h|h|h|h
  case' inr.inr.inr.inl=>
    unfold Ct qb;simp only [h];cases(dP fJ n.text).2
    · show(gV _ 0 0&&gV _ 1 4)=(gV _ 0 0&&gV _ 1 4)
      simp [gW,qZ,sI]
    · show(gV _ 0 0&&gV _ _ _)=(gV _ 0 0&&gV _ 0 _)
      unfold gV;simp [gW,qZ,sI]
  all_goals
    unfold Ct qb;simp only [h];unfold gV;rw [Bool.eq_iff_iff];simp [gW,qZ,sI,zo,zq,zu,zw,zx,zy];try omega
def clT (n:Nd):Bool:=((Ct n).text||decide (n.text=[]))&&((Ct n).number||decide (n.n=0))&&(!decide (n.kind=1)||vv n.text)&&(!decide (n.kind=23)||gV n.n 0 1)
theorem aqb (n:Nd) (hk:gV n.kind 0 28=true):clT n=nJ n:=by
  rcases kinds hk with h|h|h|h|h|h|h|h|h|h|h|h|h|h|h|h|h|h|h|h|h|h|h|h|h|h|h|h|h
  case' inr.inr.inr.inl=>
    unfold clT nJ Ct;simp only [h];cases(dP fJ n.text).2<;>simp
  all_goals
    unfold clT nJ Ct;simp only [h];simp [and_comm]
theorem afI (n:Nd):Io n=if rC n≠0 then rC n else if rA [] n.names=true then 12 else 0:=by
  unfold Io Ze arT rC;cases n.names.all rName
  · simp
  by_cases a:n.kind=2
  · simp only [a];cases rz n.text<;>cases jm n.text<;>simp
  by_cases b:n.kind=3
  · simp only [b];cases(dP fJ n.text).2<;>cases jm n.text<;>cases gV (n.args.length:Int) (dP fJ n.text).1.least (dP fJ n.text).1.most<;>simp
  by_cases c:n.kind=18
  · simp only [c];cases rName n.text<;>simp
  · simp [a,b,c]
theorem av7 {e:List Nd} {i:Nat} {acc:List Int} (h:pR e i acc) (hi:i<=1000000) (l:List Int): ∀(m:Nat),m<=l.length-> ∀nx:Nat,nx<=i-> ∀tg:Bool,
    ∃z,mU m acc ((nx:Int) -1) tg l=some (if rT acc nx (l.take m).reverse=true then .inr (z,tg)else .inl (z,false)):=by
  intro m
  induction m with
  |zero=>intro _ nx _ tg;exact⟨(nx:Int) -1,by simp [mU,rT]⟩
  |succ m ih=>
    intro hm nx hnx tg;have hm':m<l.length:=by omega
    rw [mU,bG hm',Option.bind_some,YZ hm',rT];by_cases h1:l[m]=(nx:Int) -1
    · rw [nH (by rw [h1];simp)];by_cases h2:nx<1
      · refine⟨(nx:Int) -1,?_⟩;rw [uR (decide_eq_true (by omega))];have: ¬(1:Int)<=nx:=by omega
        simp [this]
      · obtain⟨j,rfl⟩: ∃j,nx=j+1:=⟨nx -1,by omega⟩;have e2:(((j+1:Nat):Int) -1)=(j:Int):=by omega
        rw [e2]at h1⊢;obtain⟨n',b,h3,h4,h5,h6,_⟩:=h.at_ j (by omega);obtain⟨b,rfl⟩: ∃b':Nat,b=b':=⟨b.toNat,by omega⟩;obtain⟨z,hz⟩:=ih (by omega) b (by omega) tg;refine⟨z,?_⟩;rw [nH (decide_eq_false (by omega)),if_pos (by omega),Int.toNat_natCast,h4,Option.bind_some,wrap64 (by omega) (by omega),hz];have e3:(1:Int)<=((j+1:Nat):Int):=by omega
        simp only [h1,e3,decide_true,Bool.true_and,Option.getD_some]
    · refine⟨(nx:Int) -1,?_⟩;rw [uR (by rw [bne_iff_ne];exact h1)];simp [h1]
theorem Zg {e:List Nd} {i:Nat} {acc:List Int} (h:pR e i acc) (hi:i<=1000000) {n:Nd} (hn:e[i]? =some n) (h1:n.text.length<=1000000) (h2:n.names.length<=1000000) (h3:n.args.length<=1000000):
    Ev (fun k=>Cr k e (i:Int) acc) (cZ (rT acc i n.args.reverse) n):=by
  unfold Cr;simp only [Int.toNat_natCast,hn,Option.bind_some,nn,if_true,qo,zR];unfold cZ;by_cases hk:gV n.kind 0 28=true
  case neg=>exact Ev.to (Ev.cF (by simpa [gV]using hk) Ev.some) (if_pos (by simpa using hk)).symm
  refine Ev.to ?_ (if_neg (by simp [hk])).symm;refine Ev.cT hk (Ev.bind (Zf n hk h2) (Ev.mq (x:= !qb n) ?_ ?_))
  · rw [<-aqa n hk];unfold Ah gV;simp only [qo,Option.bind_some];cases decide ((Ct n).names.1<=(n.names.length:Int)/\(n.names.length:Int)<=(Ct n).names.2)
    · rfl
    · rfl
  cases hs:qb n
  · exact Ev.some
  simp only [Bool.not_true,cond_false,Bool.true_eq_false,if_false];obtain⟨z,hz⟩:=av7 h hi n.args n.args.length (Nat.le_refl _) i (Nat.le_refl _) true;rw [List.take_length]at hz;generalize rT acc (i:Int) n.args.reverse=pl at hz⊢;have hj:vL acc n.kind n.n n.text n.names n.args (IntKind.wrap .i64 ((i:Int) -1)) true=some (z,pl):=by
    unfold vL;rw [if_pos (by omega),wrap64 (by omega) (by omega),hz];cases pl<;>rfl
  refine Ev.mq hj (Ev.mq (x:=nJ n) ?_ ?_)
  · rw [<-aqb n hk];unfold Ao clT gV;simp only [aa5,qo,Option.bind_some,HZ,bne];have e1:((n.n==0):Bool)=decide (n.n=0):=by by_cases h:n.n=0<;>simp [h]
    have e2:((n.kind==1):Bool)=decide (n.kind=1):=by by_cases h:n.kind=1<;>simp [h]
    have e3:((n.kind==23):Bool)=decide (n.kind=23):=by by_cases h:n.kind=23<;>simp [h]
    simp only [e1,e2,e3];cases(Ct n).text<;>cases(Ct n).number<;>cases decide (n.text=[])<;>cases decide (n.n=0)<;>cases decide (n.kind=1)<;>cases vv n.text<;>cases decide (n.kind=23)<;>rfl
  have fin:Ev (fun k=>Option.bind (nR k n) fun p=>Option.bind (gG k [if(!(pl&&nJ n))=true then 5 else 0,if(!decide (n.kind=23)&& !gV n.n 0 10000)=true then 3 else 0,p]) fun q=>some q) (vP [if(!(pl&&nJ n))=true then 5 else 0,if(!decide (n.kind=23)&& !gV n.n 0 10000)=true then 3 else 0,Io n]):=
    Ev.bind (WW n h1 h2) (Ev.bind (DV _ (by simp)) Ev.some)
  have hval:vP [if(!(pl&&nJ n))=true then 5 else 0,if(!decide (n.kind=23)&& !gV n.n 0 10000)=true then 3 else 0,Io n]=
      if(pl&&nJ n)=false then 5 else if(decide (n.kind=0)&& !gV n.n 0 10000)=true then 3 else if rC n≠0 then rC n else if rA [] n.names=true then 12 else 0:=by
    rw [<-afI];cases hpc:(pl&&nJ n)
    · rfl
    · have hcl:nJ n=true:=by revert hpc;cases pl<;>simp
      have hrg:(!decide (n.kind=23)&& !gV n.n 0 10000)=(decide (n.kind=0)&& !gV n.n 0 10000):=by
        unfold nJ at hcl;simp only [Bool.and_eq_true]at hcl;have hx:=hcl.1.1.2;by_cases a:n.kind=0
        · simp [a]
        by_cases b:n.kind=23
        · simp [b]
        have hx:n.n=0:=by simpa [a,b]using hx
        simp [a,b,hx,gV]
      simp only [Bool.not_true,Bool.false_eq_true,if_false,Bool.true_eq_false,vP,if_true,hrg];cases(decide (n.kind=0)&& !gV n.n 0 10000)
      · simp only [Bool.false_eq_true,if_false,if_true];split
        · rename_i h;exact h.symm
        · rfl
      · rfl
  rw [<-hval];refine Ev.cg fin fun k=> ?_;cases pl
  · simp only [cond_false];by_cases hl:n.kind=23
    · simp only [hl];rfl
    · rw [nH (beq_eq_false_iff_ne.2 hl)];simp only [hl,decide_false,Bool.not_false,Bool.true_and,Bool.false_and];rfl
  · simp only [cond_true];by_cases hl:n.kind=23
    · simp only [hl];rfl
    · rw [nH (beq_eq_false_iff_ne.2 hl)];simp only [hl,decide_false,Bool.not_false,Bool.true_and];rfl
theorem MI {e:List Nd} (hL:qN e): ∀i,i<=e.length-> ∀acc,pR e i acc->Ev (fun k=>jG k e acc (e.length:Int) (i:Int)) (ng acc (e.drop i)):=by
  have hlen:=hL.len;refine down (fun acc h=> ?_) (fun i hi ih acc h=> ?_)
  · refine Ev.succ ?_;simp only [jG];exact Ev.cF (jJ _) (Ev.some' (by simp [ng]))
  · refine Ev.succ ?_;obtain⟨h1,h2,h3⟩:=hL.nd i _ (bG hi);simp only [jG];refine Ev.cT (kW hi) (Ev.bind (Zg h (by omega) (bG hi) h1 h2 h3) ?_);rw [drop_cons hi,ng,h.len];by_cases hc:cZ (rT acc i e[i].args.reverse) e[i]=0
    · refine Ev.cF (by rw [hc];rfl) ?_;have adP:=h.len;have hp:=xq hc;have hok:=h.succ (bG hi) hp;refine Ev.mZ (by omega) (Ev.mq (x:=yj acc e[i]) ?_ (Ev.mZ (nn i) (Ev.mq (x:=0) ?_ ?_)))
      · unfold Mg yj;simp only [Int.toNat_natCast,bG hi,Option.bind_some,nn,if_true];cases hargs:e[i].args with
        |nil=>simp [adP]
        |cons a l=>
          have ha:=Uf h _ i (Nat.le_refl _) hp a (by rw [hargs];simp);obtain⟨n',b,h4,h5,_⟩:=h.at_ a.toNat (by omega);rw [nH (by rw [beq_eq_false_iff_ne,List.length_cons];omega),List.getElem?_cons_zero,Option.bind_some,if_pos ha.1,List.getElem?_append_left (by omega),h5];simp only [h5,Option.getD_some,Option.bind_some]
      · rw [Int.toNat_natCast,List.getElem?_append_right (by omega),adP,Nat.sub_self];rfl
      · have e1:(acc++[0]).set ((i:Int).toNat) (yj acc e[i])=acc++[yj acc e[i]]:=by
          rw [Int.toNat_natCast,List.set_append_right _ _ (by omega),adP,Nat.sub_self];rfl
        rw [e1,eF hi (by omega)];refine(ih _ hok).to ?_;simp only [hc,ne_eq,not_true_eq_false,if_false]
    · refine Ev.cT (by rw [bne_iff_ne];exact hc) (Ev.some' ?_);simp only [ne_eq,hc,not_false_eq_true,if_true]
end Go.VL
end
section
namespace Go.VL
inductive Tm where
  |mk (x:Nd) (cs:List Tm)
namespace Tm
mutual
def size:Tm->Nat
  | .mk _ cs=>sizes cs+1
def sizes:List Tm->Nat
  |[]=>0
  |c::cs=>size c+sizes cs
end
def roots:Nat->List Tm->List Int
  |_,[]=>[]
  |b,c::cs=>((b+c.size -1:Nat):Int)::roots (b+c.size) cs
def nd (x:Nd) (b:Nat) (cs:List Tm):Nd:={x with args:=roots b cs}
mutual
def flat (b:Nat):Tm->List Nd
  | .mk x cs=>bq b cs++[nd x b cs]
def bq (b:Nat):List Tm->List Nd
  |[]=>[]
  |c::cs=>flat b c++bq (b+c.size) cs
end
theorem kQ {b:Nat} {x:Nd} {cs:List Tm}:flat b (.mk x cs)=bq b cs++[nd x b cs]:=by rw [flat]
theorem iw {b:Nat} {c:Tm} {cs:List Tm}:bq b (c::cs)=flat b c++bq (b+c.size) cs:=by rw [bq]
theorem size_pos: ∀t:Tm,0<t.size
  | .mk x cs=>by unfold size;omega
mutual
theorem dh (b:Nat): ∀t:Tm,(flat b t).length=t.size
  | .mk x cs=>by unfold flat size;rw [List.length_append,cB b cs];rfl
theorem cB (b:Nat): ∀cs:List Tm,(bq b cs).length=sizes cs
  |[]=>rfl
  |c::cs=>by unfold bq sizes;rw [List.length_append,dh b c,cB (b+c.size) cs]
end
theorem jr: ∀(b:Nat) (cs:List Tm),(roots b cs).length=cs.length
  |_,[]=>rfl
  |b,c::cs=>by unfold roots;rw [List.length_cons,List.length_cons,jr (b+c.size) cs]
theorem dV: ∀a b:List Tm,sizes (a++b)=sizes a+sizes b
  |[],b=>by simp [sizes]
  |c::a,b=>by simp only [List.cons_append,sizes,dV a b];omega
theorem pz: ∀(b:Nat) (l m:List Tm),bq b (l++m)=bq b l++bq (b+sizes l) m
  |b,[],m=>by simp [bq,sizes]
  |b,c::l,m=>by simp only [List.cons_append,bq,sizes,pz (b+c.size) l m,List.append_assoc,Nat.add_assoc]
theorem Ar: ∀(b:Nat) (l m:List Tm),roots b (l++m)=roots b l++roots (b+sizes l) m
  |b,[],m=>by simp [roots,sizes]
  |b,c::l,m=>by simp only [List.cons_append,roots,sizes,Ar (b+c.size) l m,Nat.add_assoc]
def Seg (e:List Nd) (b:Nat) (s:Tm):Prop:= ∃pre post,e=pre++(flat b s++post)/\pre.length=b
theorem Seg.whole (t:Tm):Seg (flat 0 t) 0 t:=⟨[],[],by simp,rfl⟩
theorem Seg.lt {e:List Nd} {b:Nat} {s:Tm} (h:Seg e b s):b+s.size<=e.length:=by
  obtain⟨pre,post,rfl,rfl⟩:=h;simp only [List.length_append,dh];omega
theorem Seg.node {e:List Nd} {b:Nat} {x:Nd} {cs:List Tm} (h:Seg e b (.mk x cs)):e[b+sizes cs]? =some (nd x b cs):=by
  obtain⟨pre,post,rfl,rfl⟩:=h;rw [List.getElem?_append_right (by omega),show pre.length+sizes cs -pre.length=sizes cs by omega];rw [kQ,List.append_assoc,List.getElem?_append_right (by rw [cB];exact Nat.le_refl _),cB,Nat.sub_self];rfl
theorem Seg.kid {e:List Nd} {b:Nat} {x:Nd} {l m:List Tm} {c:Tm} (h:Seg e b (.mk x (l++c::m))):Seg e (b+sizes l) c:=by
  obtain⟨pre,post,rfl,rfl⟩:=h;refine⟨pre++bq pre.length l,bq (pre.length+sizes l+c.size) m++([nd x pre.length (l++c::m)]++post),?_,by rw [List.length_append,cB]⟩;rw [kQ,pz,iw];simp only [List.append_assoc]
theorem F7 {b:Nat} {l m:List Tm} {c:Tm}:(roots b (l++c::m))[l.length]? =some (((b+sizes l+c.size -1:Nat):Int)):=by
  rw [Ar,List.getElem?_append_right (by rw [jr];exact Nat.le_refl _),jr,Nat.sub_self];rfl
end Tm
end Go.VL
end
section
namespace Go.VL
namespace Tm
mutual
def bgT (b:Nat):Tm->List Int
  | .mk _ cs=>qQ b cs++[(b:Int)]
def qQ (b:Nat):List Tm->List Int
  |[]=>[]
  |c::cs=>bgT b c++qQ (b+c.size) cs
end
theorem Zh {b:Nat} {x:Nd} {cs:List Tm}:bgT b (.mk x cs)=qQ b cs++[(b:Int)]:=by rw [bgT]
mutual
theorem ab8 (b:Nat): ∀t:Tm,(bgT b t).length=t.size
  | .mk x cs=>by rw [Zh];unfold size;rw [List.length_append,vQ b cs];rfl
theorem vQ (b:Nat): ∀cs:List Tm,(qQ b cs).length=sizes cs
  |[]=>rfl
  |c::cs=>by unfold qQ sizes;rw [List.length_append,ab8 b c,vQ (b+c.size) cs]
end
theorem xG: ∀(b:Nat) (l m:List Tm),qQ b (l++m)=qQ b l++qQ (b+sizes l) m
  |b,[],m=>by simp [qQ,sizes]
  |b,c::l,m=>by simp only [List.cons_append,qQ,sizes,xG (b+c.size) l m,List.append_assoc,Nat.add_assoc]
theorem ahZ {b:Nat} {t:Tm}:(bgT b t)[t.size -1]? =some (b:Int):=by
  cases t with
  |mk x cs=>
    rw [Zh];have:(mk x cs).size -1=sizes cs:=by unfold size;omega
    rw [this,List.getElem?_append_right (by rw [vQ];exact Nat.le_refl _),vQ,Nat.sub_self];rfl
theorem qA (t:Tm):sizes [t]=t.size:=by simp [sizes]
theorem vR (b:Nat) (t:Tm):bq b [t]=flat b t:=by simp [bq]
theorem ah0 (b:Nat) (t:Tm):qQ b [t]=bgT b t:=by simp [qQ]
theorem Vz (b:Nat) (t:Tm):roots b [t]=[((b+t.size -1:Nat):Int)]:=by simp [roots]
theorem UC {b:Nat} {l m:List Tm} {t:Tm}:(qQ b (l++t::m))[sizes l+t.size -1]? =some ((b+sizes l:Nat):Int):=by
  have hp:=t.size_pos;rw [xG,List.getElem?_append_right (by rw [vQ];omega),vQ];unfold qQ;rw [List.getElem?_append_left (by rw [ab8];omega),show sizes l+t.size -1 -sizes l=t.size -1 by omega,ahZ]
theorem Zi {ts:List Tm} {acc:List Int} (ha:acc=qQ 0 ts): ∀(l:List Int) (t1 rest:List Tm),ts=t1++rest->rT acc ((sizes t1:Nat):Int) l=true-> ∃front mid,t1=front++mid/\l.reverse=roots (sizes front) mid
  |[],t1,rest,_,_=>⟨t1,[],by simp,by simp [roots]⟩
  |a::l,t1,rest,hts,hp=>by
    rw [rT,Bool.and_eq_true,Bool.and_eq_true,decide_eq_true_eq,decide_eq_true_eq]at hp;obtain⟨⟨h1,h2⟩,h3⟩:=hp;rcases List.eq_nil_or_concat t1 with rfl|⟨t2,t,rfl⟩
    · simp [sizes]at h2
    rw [List.concat_eq_append]at*;have hpos:=t.size_pos;have hsz:sizes (t2++[t])=sizes t2+t.size:=by rw [dV,qA]
    have hget:acc[(((sizes (t2++[t]):Nat):Int) -1).toNat]? =some ((sizes t2:Nat):Int):=by
      rw [ha,hts,List.append_assoc,hsz,show((((sizes t2+t.size:Nat):Int) -1).toNat)=sizes t2+t.size -1 by omega];have:=UC (b:=0) (l:=t2) (m:=rest) (t:=t);rw [Nat.zero_add]at this;exact this
    rw [hget,Option.getD_some]at h3;obtain⟨front,mid,e1,e2⟩:=Zi ha l t2 ([t]++rest) (by rw [hts,List.append_assoc]) h3;refine⟨front,mid++[t],by rw [e1,List.append_assoc],?_⟩;rw [List.reverse_cons,e2,Ar,Vz];congr 2
    rw [h1,hsz,e1,dV];omega
def bare (n:Nd):Nd:={n with args:=[]}
theorem alE {n:Nd} {b:Nat} {cs:List Tm} (h:n.args=roots b cs):nd (bare n) b cs=n:=by
  unfold nd bare;cases n;simp only at h⊢;rw [h]
theorem row_step {ts:List Tm} {acc:List Int} {n:Nd} (ha:acc=qQ 0 ts) (hp:rT acc (acc.length:Int) n.args.reverse=true):
    ∃front last,ts=front++last/\n.args=roots (sizes front) last/\bq 0 (front++[.mk (bare n) last])=bq 0 ts++[n]/\qQ 0 (front++[.mk (bare n) last])=acc++[yj acc n]:=by
  have hl:acc.length=sizes ts:=by rw [ha,vQ]
  rw [hl]at hp;obtain⟨front,last,e1,e2⟩:=Zi ha n.args.reverse ts [] (by simp) hp;rw [List.reverse_reverse]at e2;refine⟨front,last,e1,e2,?_,?_⟩
  · rw [pz,vR,kQ,alE (by rw [Nat.zero_add];exact e2),e1,pz,List.append_assoc]
  · rw [xG,ah0,Zh,ha,e1,xG,List.append_assoc];congr 3
    rw [Nat.zero_add];unfold yj;rw [e2];cases last with
    |nil=>simp [roots,qQ,vQ]
    |cons c cs=>
      simp only [roots];have h1:=UC (b:=0) (l:=front) (m:=cs) (t:=c);rw [Nat.zero_add,xG,Nat.zero_add]at h1;rw [Int.toNat_natCast,h1,Option.getD_some]
mutual
def Au (b:Nat) (p k:Int):Tm->List (Int×Int)
  | .mk _ cs=>iI b ((b+sizes cs:Nat):Int) 0 cs++[(p,k)]
def iI (b:Nat) (p:Int) (k:Nat):List Tm->List (Int×Int)
  |[]=>[]
  |c::cs=>Au b p k c++iI (b+c.size) p (k+1) cs
end
def bI (b:Nat):List Tm->List (Int×Int)
  |[]=>[]
  |c::cs=>Au b (-1) 0 c++bI (b+c.size) cs
theorem yN {b:Nat} {p k:Int} {x:Nd} {cs:List Tm}:Au b p k (.mk x cs)=iI b ((b+sizes cs:Nat):Int) 0 cs++[(p,k)]:=by rw [Au]
mutual
theorem iY (b:Nat) (p k:Int): ∀t:Tm,(Au b p k t).length=t.size
  | .mk x cs=>by rw [yN];unfold size;rw [List.length_append,jP];rfl
theorem jP (b:Nat) (p:Int) (k:Nat): ∀cs:List Tm,(iI b p k cs).length=sizes cs
  |[]=>rfl
  |c::cs=>by unfold iI sizes;rw [List.length_append,iY b p k c,jP (b+c.size) p (k+1) cs]
end
theorem vS: ∀(b:Nat) (cs:List Tm),(bI b cs).length=sizes cs
  |_,[]=>rfl
  |b,c::cs=>by unfold bI sizes;rw [List.length_append,iY,vS (b+c.size) cs]
theorem EI: ∀(b:Nat) (l m:List Tm),bI b (l++m)=bI b l++bI (b+sizes l) m
  |b,[],m=>by simp [bI,sizes]
  |b,c::l,m=>by simp only [List.cons_append,bI,sizes,EI (b+c.size) l m,List.append_assoc,Nat.add_assoc]
theorem VA (b:Nat) (t:Tm):bI b [t]=Au b (-1) 0 t:=by simp [bI]
theorem VB: ∀(b:Nat) (p:Int) (k:Nat) (cs:List Tm) (j:Nat) (a:Int),(roots b cs)[j]? =some a-> ∃r:Nat,a=((b+r:Nat):Int)/\r<sizes cs/\(iI b p k cs)[r]? =some (p,((k+j:Nat):Int))
  |b,p,k,[],j,a,h=>by simp [roots]at h
  |b,p,k,c::cs,j,a,h=>by
    have hpos:=c.size_pos;cases j with
    |zero=>
      simp only [roots,List.getElem?_cons_zero,Option.some.injEq]at h;refine⟨c.size -1,by rw [<-h];congr 1;omega,by simp only [sizes];omega,?_⟩;unfold iI;rw [List.getElem?_append_left (by rw [iY];omega)];cases c with
      |mk x ds=>
        rw [yN,show(mk x ds).size -1=sizes ds by unfold size;omega,List.getElem?_append_right (by rw [jP];exact Nat.le_refl _),jP,Nat.sub_self];rfl
    |succ j=>
      simp only [roots,List.getElem?_cons_succ]at h;obtain⟨r,h1,h2,h3⟩:=VB (b+c.size) p (k+1) cs j a h;refine⟨c.size+r,by rw [h1,Nat.add_assoc],by simp only [sizes];omega,?_⟩;unfold iI;rw [List.getElem?_append_right (by rw [iY];omega),iY,show c.size+r -c.size=r by omega,h3];congr 3
      omega
mutual
theorem ab9: ∀(b:Nat) (p k:Int) (t:Tm) (q:Nat) (n:Nd) (j:Nat) (a:Int),(flat b t)[q]? =some n->n.args[j]? =some a-> ∃r:Nat,a=((b+r:Nat):Int)/\r<q/\(Au b p k t)[r]? =some (((b+q:Nat):Int),(j:Int))
  |b,p,k,.mk x cs,q,n,j,a,h1,h2=>by
    rw [kQ]at h1;rw [yN];by_cases hq:q<sizes cs
    · rw [List.getElem?_append_left (by rw [cB];exact hq)]at h1;obtain⟨r,h3,h4,h5⟩:=Zj b ((b+sizes cs:Nat):Int) 0 cs q n j a h1 h2;exact⟨r,h3,h4,by rw [List.getElem?_append_left (by rw [jP];omega)];exact h5⟩
    · have hlt:=(List.getElem?_eq_some_iff.1 h1).1;rw [List.length_append,cB]at hlt;obtain rfl:q=sizes cs:=by simp at hlt;omega
      rw [List.getElem?_append_right (by rw [cB];exact Nat.le_refl _),cB,Nat.sub_self,List.getElem?_cons_zero,Option.some.injEq]at h1;subst h1;obtain⟨r,h3,h4,h5⟩:=VB b ((b+sizes cs:Nat):Int) 0 cs j a h2;refine⟨r,h3,h4,?_⟩;rw [List.getElem?_append_left (by rw [jP];exact h4),h5,Nat.zero_add]
theorem Zj: ∀(b:Nat) (p:Int) (k:Nat) (cs:List Tm) (q:Nat) (n:Nd) (j:Nat) (a:Int),(bq b cs)[q]? =some n->n.args[j]? =some a-> ∃r:Nat,a=((b+r:Nat):Int)/\r<q/\(iI b p k cs)[r]? =some (((b+q:Nat):Int),(j:Int))
  |b,p,k,[],q,n,j,a,h1,h2=>by simp [bq]at h1
  |b,p,k,c::cs,q,n,j,a,h1,h2=>by
    rw [iw]at h1;unfold iI;by_cases hq:q<c.size
    · rw [List.getElem?_append_left (by rw [dh];exact hq)]at h1;obtain⟨r,h3,h4,h5⟩:=ab9 b p k c q n j a h1 h2;exact⟨r,h3,h4,by rw [List.getElem?_append_left (by rw [iY];omega)];exact h5⟩
    · rw [List.getElem?_append_right (by rw [dh];omega),dh]at h1;obtain⟨r,h3,h4,h5⟩:=Zj (b+c.size) p (k+1) cs (q -c.size) n j a h1 h2;refine⟨c.size+r,by rw [h3,Nat.add_assoc],by omega,?_⟩;rw [List.getElem?_append_right (by rw [iY];omega),iY,show c.size+r -c.size=r by omega,h5];congr 3
      omega
end
theorem OP: ∀(b:Nat) (cs:List Tm) (q:Nat) (n:Nd) (j:Nat) (a:Int),(bq b cs)[q]? =some n->n.args[j]? =some a-> ∃r:Nat,a=((b+r:Nat):Int)/\r<q/\(bI b cs)[r]? =some (((b+q:Nat):Int),(j:Int))
  |b,[],q,n,j,a,h1,h2=>by simp [bq]at h1
  |b,c::cs,q,n,j,a,h1,h2=>by
    rw [iw]at h1;unfold bI;by_cases hq:q<c.size
    · rw [List.getElem?_append_left (by rw [dh];exact hq)]at h1;obtain⟨r,h3,h4,h5⟩:=ab9 b (-1) 0 c q n j a h1 h2;exact⟨r,h3,h4,by rw [List.getElem?_append_left (by rw [iY];omega)];exact h5⟩
    · rw [List.getElem?_append_right (by rw [dh];omega),dh]at h1;obtain⟨r,h3,h4,h5⟩:=OP (b+c.size) cs (q -c.size) n j a h1 h2;refine⟨c.size+r,by rw [h3,Nat.add_assoc],by omega,?_⟩;rw [List.getElem?_append_right (by rw [iY];omega),iY,show c.size+r -c.size=r by omega,h5];congr 3
      omega
def Says (b:Nat) (l:List Nd) (r:Nat) (P j:Int):Prop:= ∃(q j':Nat) (n:Nd),P=((b+q:Nat):Int)/\j=(j':Int)/\r<q/\l[q]? =some n/\n.args[j']? =some ((b+r:Nat):Int)
theorem Le {b:Nat} {l m:List Nd} {r:Nat} {P j:Int} (h:Says b l r P j):Says b (l++m) r P j:=by
  obtain⟨q,j',n,h1,h2,h3,h4,h5⟩:=h;exact⟨q,j',n,h1,h2,h3,by rw [List.getElem?_append_left (List.getElem?_eq_some_iff.1 h4).1];exact h4,h5⟩
theorem Qq {b:Nat} {l m:List Nd} {r:Nat} {P j:Int} (h:Says (b+l.length) m r P j):Says b (l++m) (l.length+r) P j:=by
  obtain⟨q,j',n,h1,h2,h3,h4,h5⟩:=h;exact⟨l.length+q,j',n,by rw [h1,Nat.add_assoc],h2,by omega,by rw [List.getElem?_append_right (by omega),show l.length+q -l.length=q by omega];exact h4,by rw [h5,Nat.add_assoc]⟩
theorem adQ: ∀(b:Nat) (cs:List Tm) (k:Nat) (c:Tm) (l m:List Tm),cs=l++c::m->(roots b cs)[l.length]? =some ((b+(sizes l+c.size -1):Nat):Int):=by
  intro b cs k c l m h;have hp:=c.size_pos;rw [h,F7];congr 2
  omega
mutual
theorem VD: ∀(b:Nat) (p k:Int) (t:Tm) (r:Nat) (P j:Int),(Au b p k t)[r]? =some (P,j)->(r=t.size -1/\P=p/\j=k)\/Says b (flat b t) r P j
  |b,p,k,.mk x cs,r,P,j,h=>by
    rw [yN]at h;by_cases hr:r<sizes cs
    · rw [List.getElem?_append_left (by rw [jP];exact hr)]at h;rw [kQ];rcases Qr b ((b+sizes cs:Nat):Int) 0 cs r P j h with⟨l,c,m,e1,e2,e3,e4⟩|hs
      · right;refine⟨sizes cs,l.length,nd x b cs,e3,by rw [e4,Nat.zero_add],hr,?_,?_⟩
        · rw [List.getElem?_append_right (by rw [cB];exact Nat.le_refl _),cB,Nat.sub_self];rfl
        · show(roots b cs)[l.length]? =_
          rw [adQ b cs 0 c l m e1,e2]
      · exact .inr (Le hs)
    · have hlt:=(List.getElem?_eq_some_iff.1 h).1;rw [List.length_append,jP]at hlt;obtain rfl:r=sizes cs:=by simp at hlt;omega
      rw [List.getElem?_append_right (by rw [jP];exact Nat.le_refl _),jP,Nat.sub_self,List.getElem?_cons_zero]at h;cases h;left;exact⟨by unfold size;omega,rfl,rfl⟩
theorem Qr: ∀(b:Nat) (p:Int) (k:Nat) (cs:List Tm) (r:Nat) (P j:Int),(iI b p k cs)[r]? =some (P,j)->
    (∃l c m,cs=l++c::m/\r=sizes l+c.size -1/\P=p/\j=((k+l.length:Nat):Int))\/Says b (bq b cs) r P j
  |b,p,k,[],r,P,j,h=>by simp [iI]at h
  |b,p,k,c::cs,r,P,j,h=>by
    unfold iI at h;rw [iw];by_cases hr:r<c.size
    · rw [List.getElem?_append_left (by rw [iY];exact hr)]at h;rcases VD b p k c r P j h with⟨e1,e2,e3⟩|hs
      · exact .inl ⟨[],c,cs,rfl,by simp [sizes,e1],e2,by simp [e3]⟩
      · exact .inr (Le hs)
    · rw [List.getElem?_append_right (by rw [iY];omega),iY]at h;rcases Qr (b+c.size) p (k+1) cs (r -c.size) P j h with⟨l,d,m,e1,e2,e3,e4⟩|hs
      · refine .inl ⟨c::l,d,m,by rw [e1];rfl,?_,e3,by rw [e4,List.length_cons];omega⟩;have:=d.size_pos;simp only [sizes];omega
      · right;have h2:Says (b+(flat b c).length) (bq (b+c.size) cs) (r -c.size) P j:=by rw [dh];exact hs
        have:=Qq h2;rw [dh,show c.size+(r -c.size)=r by omega]at this;exact this
end
theorem Jg: ∀(b:Nat) (cs:List Tm) (r:Nat) (P j:Int),(bI b cs)[r]? =some (P,j)->(P= -1/\j=0)\/Says b (bq b cs) r P j
  |b,[],r,P,j,h=>by simp [bI]at h
  |b,c::cs,r,P,j,h=>by
    unfold bI at h;rw [iw];by_cases hr:r<c.size
    · rw [List.getElem?_append_left (by rw [iY];exact hr)]at h;rcases VD b (-1) 0 c r P j h with⟨e1,e2,e3⟩|hs
      · exact .inl ⟨e2,e3⟩
      · exact .inr (Le hs)
    · rw [List.getElem?_append_right (by rw [iY];omega),iY]at h;rcases Jg (b+c.size) cs (r -c.size) P j h with hs|hs
      · exact .inl hs
      · right;have h2:Says (b+(flat b c).length) (bq (b+c.size) cs) (r -c.size) P j:=by rw [dh];exact hs
        have:=Qq h2;rw [dh,show c.size+(r -c.size)=r by omega]at this;exact this
end Tm
end Go.VL
end
section
namespace Go.VL
open Tm
theorem acd: ∀(l:List Nd) (acc acc':List Int),ng acc l= .inl acc'-> ∀(i:Nat) n,l[i]? =some n->cZ true n=0
  |[],_,_,_,i,n,hn=>by simp at hn
  |m::l,acc,acc',h,i,n,hn=>by
    rw [ng]at h;by_cases hc:cZ (rT acc acc.length m.args.reverse) m=0
    · rw [if_neg (fun k=>k hc)]at h;cases i with
      |zero=>
        simp only [List.getElem?_cons_zero,Option.some.injEq]at hn;subst hn;rw [xq hc]at hc;exact hc
      |succ i=>exact acd l _ acc' h i n (by simpa using hn)
    · rw [if_pos hc]at h;cases h
def Ip (a:Int):List Int->Nat->Option Nat
  |[],_=>none
  |x::l,j=>if x=a then some j else Ip a l (j+1)
def GQ (a:Int):List Nd->Nat->Option (Nat×Nat)
  |[],_=>none
  |n::l,k=>match Ip a n.args 0 with
    |some j=>some (k,j)
    |none=>GQ a l (k+1)
theorem Zk {a:Int}: ∀{l:List Int} {j j':Nat},Ip a l j=some j'-> ∃d,j'=j+d/\l[d]? =some a
  |[],j,j',h=>by simp [Ip]at h
  |x::l,j,j',h=>by
    rw [Ip]at h;by_cases hx:x=a
    · rw [if_pos hx]at h;cases h;exact⟨0,rfl,by simp [hx]⟩
    · rw [if_neg hx]at h;obtain⟨d,e1,e2⟩:=Zk h;exact⟨d+1,by omega,by simpa using e2⟩
theorem Zl {a:Int}: ∀{l:List Int} {j:Nat},Ip a l j=none-> ∀d:Nat,l[d]? ≠some a
  |[],j,h,d=>by simp
  |x::l,j,h,d=>by
    rw [Ip]at h;by_cases hx:x=a
    · rw [if_pos hx]at h;cases h
    · rw [if_neg hx]at h;cases d with
      |zero=>simpa using hx
      |succ d=>simpa using Zl h d
theorem VE {a:Int}: ∀{l:List Nd} {k k' j:Nat},GQ a l k=some (k',j)-> ∃d n,k'=k+d/\l[d]? =some n/\n.args[j]? =some a
  |[],k,k',j,h=>by simp [GQ]at h
  |n::l,k,k',j,h=>by
    rw [GQ]at h;cases hf:Ip a n.args 0 with
    |some j'=>
      rw [hf]at h;cases h;obtain⟨d,e1,e2⟩:=Zk hf;exact⟨0,n,rfl,rfl,by rw [e1,Nat.zero_add];exact e2⟩
    |none=>
      rw [hf]at h;obtain⟨d,m,e1,e2,e3⟩:=VE h;exact⟨d+1,m,by omega,by simpa using e2,e3⟩
theorem VF {a:Int}: ∀{l:List Nd} {k:Nat},GQ a l k=none-> ∀(d:Nat) n (j:Nat),l[d]? =some n->n.args[j]? ≠some a
  |[],k,h,d,n,j,hn=>by simp at hn
  |m::l,k,h,d,n,j,hn=>by
    rw [GQ]at h;cases hf:Ip a m.args 0 with
    |some j'=>rw [hf]at h;cases h
    |none=>
      rw [hf]at h;cases d with
      |zero=>simp only [List.getElem?_cons_zero,Option.some.injEq]at hn;subst hn;exact Zl hf j
      |succ d=>exact VF h d n j (by simpa using hn)
theorem UD {e:List Nd} {k:Nat} {n:Nd} (hn:e[k]? =some n) (hl:n.args.length<=1000000) (a:Int): ∀j,j<=n.args.length->Ev (fun f=>nZ f e a (k:Int) (j:Int)) (match Ip a (n.args.drop j) j with|some j'=> .inr ((k:Int),(j':Int))|none=> .inl ()):=by
  refine down ?_ fun j hj ih=> ?_
  · refine Ev.succ ?_;simp only [nZ,Int.toNat_natCast,hn,Option.bind_some,nn,if_true];exact Ev.cF (jJ _) (Ev.some' (by simp [Ip]))
  · refine Ev.succ ?_;simp only [nZ,Int.toNat_natCast,hn,bG hj,Option.bind_some,nn,if_true,kW hj,cond_true,eF hj (show n.args.length<=1099511627776 by omega)];rw [drop_cons hj,Ip];by_cases h:n.args[j]=a
    · refine Ev.cT (by rw [beq_iff_eq];exact h) (Ev.some' ?_);rw [if_pos h]
    · refine Ev.cF (by rw [beq_eq_false_iff_ne];exact h) ?_;rw [if_neg h];exact ih
theorem UE {e:List Nd} (hL:qN e) (a:Int): ∀k,k<=e.length->Ev (fun f=>og f e a (k:Int)) (match GQ a (e.drop k) k with|some (k',j)=> .inr ((k':Int),(j:Int))|none=> .inl ()):=by
  have hlen:=hL.len;refine down ?_ fun k hk ih=> ?_
  · refine Ev.succ ?_;simp only [og];exact Ev.cF (jJ _) (Ev.some' (by simp [GQ]))
  · refine Ev.succ ?_;simp only [og];rw [eF hk (by omega)];have h0:=UD (bG hk) (hL.nd k _ (bG hk)).2.2 a 0 (Nat.zero_le _);rw [List.drop_zero]at h0;refine Ev.cT (kW hk) (Ev.bind h0 ?_);rw [drop_cons hk,GQ];cases Ip a e[k].args 0 with
    |some j=>simp only [bP];exact Ev.some
    |none=>simp only [bL];exact ih
theorem BP {ts:List Tm} {e:List Nd} (he:e=bq 0 ts) (hL:qN e) {i:Nat} {P j:Int} (hi:i<e.length) (hp:(bI 0 ts)[i]? =some (P,j)):Ev (fun k=>sK k e (i:Int)) (P,j):=by
  have hlen:=hL.len;unfold sK;rw [eF hi (by omega)];refine Ev.bind (UE hL (i:Int) (i+1) (by omega)) ?_;cases hf:GQ (i:Int) (e.drop (i+1)) (i+1)with
  |some q=>
    obtain⟨k',j'⟩:=q;obtain⟨d,n,e1,e2,e3⟩:=VE hf;rw [List.getElem?_drop]at e2;rw [he]at e2;obtain⟨r,h1,h2,h3⟩:=OP 0 ts (i+1+d) n j' (i:Int) e2 e3;obtain rfl:r=i:=by omega
    rw [hp]at h3;cases h3;simp only [bP];exact Ev.some' (by rw [e1,Nat.zero_add])
  |none=>
    simp only [bL];rcases Jg 0 ts i P j hp with⟨rfl,rfl⟩|⟨q,j',n,h1,h2,h3,h4,h5⟩
    · exact Ev.some
    · exfalso;rw [<-he]at h4;have:=VF hf (q -(i+1)) n j' (by rw [List.getElem?_drop,show i+1+(q -(i+1))=q by omega];exact h4);rw [Nat.zero_add]at h5;exact this h5
theorem afJ {b:Nat} {p k p' k':Int} (t:Tm):(Au b p k t).set (t.size -1) (p',k')=Au b p' k' t:=by
  cases t with
  |mk x cs=>
    rw [yN,yN,show(mk x cs).size -1=sizes cs by unfold size;omega,List.set_append_right _ _ (by rw [jP];exact Nat.le_refl _),jP,Nat.sub_self];rfl
theorem Qs {i:Nat} {args:List Int} (hl:args.length<=1000000) (A B:List (Int×Int)) (last:List Tm) (ha:args=roots A.length last):
    ∀(rest:List Tm) (done:List Tm),last=done++rest->Ev (fun k=>mQ k ((A++iI A.length (i:Int) 0 done++bI (A.length+sizes done) rest++B).map Prod.fst) ((A++iI A.length (i:Int) 0 done++bI (A.length+sizes done) rest++B).map Prod.snd) (i:Int) args (args.length:Int) (done.length:Int))
      ((A++iI A.length (i:Int) 0 last++B).map Prod.fst,(A++iI A.length (i:Int) 0 last++B).map Prod.snd):=by
  intro rest
  induction rest with
  |nil=>
    intro done hd;rw [List.append_nil]at hd;subst hd;refine Ev.succ ?_;simp only [mQ];have:args.length=last.length:=by rw [ha,jr]
    rw [this];exact Ev.cF (jJ _) (Ev.some' (by simp [bI]))
  |cons c rest ih=>
    intro done hd;have hpos:=c.size_pos;have hal:args.length=last.length:=by rw [ha,jr]
    have hdl:done.length<args.length:=by rw [hal,hd];simp
    have hget:args[done.length]? =some ((A.length+sizes done+c.size -1:Nat):Int):=by rw [ha,hd];exact F7
    refine Ev.succ ?_;simp only [mQ,Int.toNat_natCast,hget,Option.bind_some,nn,if_true,eF hdl (show args.length<=1099511627776 by omega)];refine Ev.cT (kW hdl) ?_;have hL:(A++iI A.length (i:Int) 0 done).length=A.length+sizes done:=by rw [List.length_append,jP]
    have hset:(A++iI A.length (i:Int) 0 done++bI (A.length+sizes done) (c::rest)++B).set (A.length+sizes done+c.size -1) ((i:Int),(done.length:Int))=A++iI A.length (i:Int) 0 (done++[c])++bI (A.length+sizes (done++[c])) rest++B:=by
      have e1:iI A.length (i:Int) 0 (done++[c])=iI A.length (i:Int) 0 done++Au (A.length+sizes done) (i:Int) (done.length:Int) c:=by
        have gen: ∀(d:List Tm) (b k:Nat),iI b (i:Int) k (d++[c])=iI b (i:Int) k d++Au (b+sizes d) (i:Int) ((k+d.length:Nat):Int) c:=by
          intro d
          induction d with
          |nil=>intro b k;simp [iI,sizes]
          |cons x d ih=>
            intro b k;simp only [List.cons_append,iI,ih,List.append_assoc,sizes,Nat.add_assoc,List.length_cons];congr 4
            omega
        rw [gen,Nat.zero_add]
      rw [e1,dV,qA];show(A++iI A.length (i:Int) 0 done++(Au (A.length+sizes done) (-1) 0 c++bI (A.length+sizes done+c.size) rest)++B).set _ _=_
      rw [List.append_assoc,List.set_append_right _ _ (by rw [hL];omega),hL,show A.length+sizes done+c.size -1 -(A.length+sizes done)=c.size -1 by omega];rw [List.append_assoc (Au (A.length+sizes done) (-1) 0 c),List.set_append_left _ _ (by rw [iY];omega),afJ];simp only [List.append_assoc,Nat.add_assoc]
    have hin:A.length+sizes done+c.size -1<(A++iI A.length (i:Int) 0 done++bI (A.length+sizes done) (c::rest)++B).length:=by
      rw [List.length_append,List.length_append,hL,vS];simp only [sizes];omega
    rw [List.getElem?_map,List.getElem?_map,bG hin];simp only [Option.map_some,Option.bind_some];have:=ih (done++[c]) (by rw [hd,List.append_assoc];rfl);rw [<-hset,List.map_set,List.map_set]at this;rw [List.length_append]at this;exact this
theorem Qt {e:List Nd} (hL:qN e): ∀(l:List Nd) (acc:List Int) (ts:List Tm) (acc':List Int) (i:Nat),acc=qQ 0 ts->sizes ts=i->l=e.drop i->i<=e.length->ng acc l= .inl acc'->
    ∃ts',bq 0 ts'=bq 0 ts++l/\acc'=qQ 0 ts'/\Ev (fun k=>mR k ((bI 0 ts++List.replicate (e.length -i) ((-1:Int),(0:Int))).map Prod.fst) ((bI 0 ts++List.replicate (e.length -i) ((-1:Int),(0:Int))).map Prod.snd) e (e.length:Int) (i:Int)) ((bI 0 ts').map Prod.fst,(bI 0 ts').map Prod.snd):=by
  have hlen:=hL.len;intro l
  induction l with
  |nil=>
    intro acc ts acc' i ha hs hl hi h;have:e.length<=i:=by
      have:=congrArg List.length hl;rw [List.length_drop,List.length_nil]at this;omega
    obtain rfl:i=e.length:=by omega
    refine⟨ts,by simp,by rw [ng]at h;cases h;exact ha,Ev.succ ?_⟩;simp only [mR];exact Ev.cF (jJ _) (Ev.some' (by simp))
  |cons n l ih=>
    intro acc ts acc' i ha hs hl hi h;have hlt:i<e.length:=by
      have:=congrArg List.length hl;rw [List.length_drop,List.length_cons]at this;omega
    rw [drop_cons hlt]at hl;obtain⟨rfl,rfl⟩:=List.cons.inj hl;rw [ng]at h;have hc:cZ (rT acc acc.length e[i].args.reverse) e[i]=0:=by
      by_cases hc:cZ (rT acc acc.length e[i].args.reverse) e[i]=0
      · exact hc
      · rw [if_pos hc]at h;cases h
    rw [if_neg (fun k=>k hc)]at h;obtain⟨front,last,e1,e2,e3,e4⟩:=row_step ha (xq hc);have hsz:sizes (front++[.mk (bare e[i]) last])=i+1:=by
      rw [dV,qA];unfold size;rw [<-hs,e1,dV];omega
    obtain⟨ts',h1,hb,h2⟩:=ih _ _ acc' (i+1) e4.symm hsz rfl hlt h;refine⟨ts',by rw [h1,e3,List.append_assoc];rfl,hb,Ev.succ ?_⟩;simp only [mR,Int.toNat_natCast,bG hlt,Option.bind_some,nn,if_true];rw [eF hlt (by omega)];refine Ev.cT (kW hlt) ?_;have hrep:List.replicate (e.length -i) ((-1:Int),(0:Int))=((-1:Int),(0:Int))::List.replicate (e.length -(i+1)) ((-1:Int),(0:Int)):=by
      rw [show e.length -i=(e.length -(i+1))+1 by omega,List.replicate_succ]
    have hA:(bI 0 front).length=sizes front:=vS 0 front;have key:=Qs (i:=i) (args:=e[i].args) (hL.nd i _ (bG hlt)).2.2 (bI 0 front) (List.replicate (e.length -i) ((-1:Int),(0:Int))) last (by rw [hA];exact e2) last [] rfl;have hstart:bI 0 front++iI (bI 0 front).length (i:Int) 0 []++bI ((bI 0 front).length+sizes []) last++List.replicate (e.length -i) ((-1:Int),(0:Int))=bI 0 ts++List.replicate (e.length -i) ((-1:Int),(0:Int)):=by
      rw [hA,e1,EI];simp [iI,sizes]
    rw [hstart]at key;refine Ev.bind key ?_;have hend:bI 0 front++iI (bI 0 front).length (i:Int) 0 last++List.replicate (e.length -i) ((-1:Int),(0:Int))=bI 0 (front++[.mk (bare e[i]) last])++List.replicate (e.length -(i+1)) ((-1:Int),(0:Int)):=by
      rw [hA,EI,VA,yN,hrep];have:sizes front+sizes last=i:=by rw [<-dV,<-e1,hs]
      simp [this]
    rw [hend];exact h2
end Go.VL
end
