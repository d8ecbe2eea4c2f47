/- Part 5 of the proof: what the theorem rests on. -/
import Derived.Test.YthebklihgmhgoaaGreatDoorKe4
import Derived.KernelRfl
import Derived.Laws.RangeAny
import Derived.IntWalk
import Derived.Test.YthebklihgmhgoaaGreatDoorRows
import Derived.RangeFuncOwn
import Derived.TacticsIn
import Derived.TacticsInMore
import Derived.LoopIn
import Derived.Walk
import Derived.WalkKit
set_option linter.unusedVariables false
set_option linter.unusedSectionVars false
set_option linter.unusedSimpArgs false
section
namespace Go.VL
open Go.Proofs Go.RowKit
theorem yE (l:List Str) (sep:Str) {c:Ck} (h1:l.length<=1099511627776) (h2:(Lib.join l sep).length<=140737488355328):aG Tryz.prog 151 [.aB (l.map aX) c,.str sep] (.str (Lib.join l sep)):=by
  refine aG.wk (args:=[.aB (l.map aX) .unk,.str sep]) ?_ (.aB (.same .nil));refine Rf ⟨_,Tryz.func151,rfl,by kernel_rfl⟩ (fun w G vs hg hi hv=> ?_) (bB.mem (.cons (bC cO _) (.cons (.str _) .nil)));obtain⟨ad,cap,hc,rfl,hcells⟩:=Vs.amK hi hv;by_cases h0:l=[]
  · subst h0;refine(Tryz.strings_Join_none ad cap ⟨sep.toArray⟩ w).mono ?_;rintro e w' ⟨rfl,rfl⟩;exact⟨_,rfl,Below.refl _ _,fun G n=> .str _⟩
  · obtain⟨b,o,rfl,hb,hx⟩:=hcells h0
    have e1:(l.map fun s=>(⟨s.toArray⟩:ByteArray)).map (·.data.toList)=l:=by simp [Function.comp_def]
    have key:=Tryz.strings_Join b o cap (l.map fun s=>⟨s.toArray⟩) ⟨sep.toArray⟩ w hx hb (by simp;omega) (by simp;exact hc) (by rw [e1];exact h2);rw [e1,List.length_map]at key;refine key.mono ?_;rintro e w' ⟨rfl,hb'⟩;exact⟨_,rfl,hb',fun G n=> .str _⟩
theorem acM (s:Str) (c:UInt8):aG Tryz.prog 214 [.str s,.str [c]] (.int .i64 (Lib.indexByte s c)):=by
  refine Rf ⟨_,Tryz.func214,rfl,by kernel_rfl⟩ (fun w G vs hg hi hv=> ?_) (bB.mem (.cons (.str _) (.cons (.str _) .nil)));rw [Vs.str2 hv];refine(Tryz.stringslite_Index_one ⟨s.toArray⟩ c w).mono ?_;rintro e w' ⟨rfl,rfl⟩;exact⟨_,rfl,Below.refl _ _,fun G n=> .int _ _⟩
end Go.VL
end
section
namespace Go.VL
open Go.Proofs Go.RowKit
def aaX (s sep:Str):Option Int:=match sep with
  |[c]=>some (Lib.indexByte s c)
  |_=>none
theorem agG (s sep:Str) {r:Int} (h:aaX s sep=some r):aG Tryz.prog 214 [.str s,.str sep] (.int .i64 r):=by
  match sep,h with
  |[c],h=>cases h;exact acM s c
def aaY (s:Str):Option (List Str):=none
theorem ae4 (s:Str) {r:List Str} (h:aaY s=some r):aG Tryz.prog 203 [.str s,.fn (.func 204) [] []] (.aB (r.map aX) .unk):=by cases h
end Go.VL
end
section
set_option maxRecDepth 8000
set_option maxHeartbeats 4000000
namespace Go.VL
open Go.Proofs
def yF:Nat->Str->Int->Int->Int->Int->Option ((Int×Int))
  |0,_,_,_,_,_=>none
  |k+1,s_0,Ye,tX,sW,gV=>
    cond (decide (gV<(s_0.length:Int))) (if 0<=gV then Option.bind (s_0[gV.toNat]?) fun x3=>if 0<=(x3.toNat:Int)/\(x3.toNat:Int)<256 then Option.bind (Ab[x3.toNat]?) fun x6=>yF k s_0 (IntKind.wrap .i64 (Ye+(IntKind.wrap .i64 ((BitVec.ofInt (IntKind.bits .i64) tX&&&BitVec.ofInt (IntKind.bits .i64) (IntKind.wrap .i64 ((BitVec.ofInt (IntKind.bits .i64) (if IntKind.signed .i64=true then -1 else IntKind.max .i64)^^^BitVec.ofInt (IntKind.bits .i64) (IntKind.wrap .i64 x6)).toNat))).toNat)))) (IntKind.wrap .i64 x6) (IntKind.wrap .u8 ((BitVec.ofInt (IntKind.bits .u8) sW|||BitVec.ofInt (IntKind.bits .u8) (x3.toNat:Int)).toNat)) (IntKind.wrap .i64 (gV+1))else none else none) (some ((Ye,sW)))
def MQ:List Nat:=[3,4,5,6,7,8]++List.range' 13 23
theorem YU: ∀(k:Nat) (s_0:Str) (Ye:Int) (tX:Int) (sW:Int) (gV:Int) (aC σ:Nat->PV) (H:AH) (f0:Fr MQ aC σ) (sl:σ 0=(.str s_0)/\σ 3=(.int .i64 Ye)/\σ 4=(.int .i64 tX)/\σ 5=(.int .u8 sW)/\σ 6=(.int .i64 gV)) (o:(Int×Int)) (h:yF k s_0 Ye tX sW gV=some o) (Q:Post) (q0: ∀(p:Int×Int) (σ':Nat->PV),o=p->Fr MQ aC σ'->(σ' 3=(.int .i64 p.1)/\σ' 5=(.int .u8 p.2))->Q (.exit 0) σ' H),W Tryz.prog (.loop QT) Q σ H:=by
  intro k
  induction k with
  |zero=>intro s_0 Ye tX sW gV aC σ H f0 sl o h Q q0;simp only [yF,reduceCtorEq]at h
  |succ k ih=>
    intro s_0 Ye tX sW gV aC σ H f0 sl o h Q q0;obtain⟨s0,s3,s4,s5,s6⟩:=sl;unfold yF at h;refine bA (fun K hK=>aF ?_);unfold QT;rcases au h with⟨e1,h⟩|⟨e1,h⟩
    ·obtain⟨e2,h⟩:=aD h;obtain⟨x3,e4,h⟩:=aj h;obtain⟨e5,h⟩:=aD h;obtain⟨x6,e7,h⟩:=aj h;try refine dA ?_
     refine hK _ _ ?_;exact ih s_0 (IntKind.wrap .i64 (Ye+(IntKind.wrap .i64 ((BitVec.ofInt (IntKind.bits .i64) tX&&&BitVec.ofInt (IntKind.bits .i64) (IntKind.wrap .i64 ((BitVec.ofInt (IntKind.bits .i64) (if IntKind.signed .i64=true then -1 else IntKind.max .i64)^^^BitVec.ofInt (IntKind.bits .i64) (IntKind.wrap .i64 x6)).toNat))).toNat)))) (IntKind.wrap .i64 x6) (IntKind.wrap .u8 ((BitVec.ofInt (IntKind.bits .u8) sW|||BitVec.ofInt (IntKind.bits .u8) (x3.toNat:Int)).toNat)) (IntKind.wrap .i64 (gV+1)) _ _ _ aO fD _ h _ q0
    ·obtain rfl:=ak h;try refine dA ?_
     exact q0 _ _ rfl aO fD
def yG:Nat->Str->Int->Option Int
  |0,_,_=>none
  |k+1,s_0,gY=>
    cond (decide (gY<(s_0.length:Int))) (if 0<=gY then Option.bind (s_0[gY.toNat]?) fun x30=>if 0<=(x30.toNat:Int)/\(x30.toNat:Int)<256 then Option.bind (Ab[x30.toNat]?) fun x33=>cond (x33 !=0) (yG k s_0 (IntKind.wrap .i64 (gY+1))) (some (gY))else none else none) (some (gY))
def MR:List Nat:=[12]++List.range' 42 14
theorem YV: ∀(k:Nat) (s_0:Str) (gY:Int) (aC σ:Nat->PV) (H:AH) (f0:Fr MR aC σ) (sl:σ 0=(.str s_0)/\σ 12=(.int .i64 gY)) (o:Int) (h:yG k s_0 gY=some o) (Q:Post) (q0: ∀(p:Int) (σ':Nat->PV),o=p->Fr MR aC σ'->(σ' 12=(.int .i64 p))->Q (.exit 2) σ' H),W Tryz.prog (.loop QU) Q σ H:=by
  intro k
  induction k with
  |zero=>intro s_0 gY aC σ H f0 sl o h Q q0;simp only [yG,reduceCtorEq]at h
  |succ k ih=>
    intro s_0 gY aC σ H f0 sl o h Q q0;obtain⟨s0,s12⟩:=sl;unfold yG at h;refine bA (fun K hK=>aF ?_);unfold QU;rcases au h with⟨e28,h⟩|⟨e28,h⟩
    ·obtain⟨e29,h⟩:=aD h;obtain⟨x30,e31,h⟩:=aj h;obtain⟨e32,h⟩:=aD h;obtain⟨x33,e34,h⟩:=aj h;rcases au h with⟨e35,h⟩|⟨e35,h⟩
     ·try refine dA ?_
      refine hK _ _ ?_;exact ih s_0 (IntKind.wrap .i64 (gY+1)) _ _ _ aO fD _ h _ q0
     ·obtain rfl:=ak h;try refine dA ?_
      exact q0 _ _ rfl aO fD
    ·obtain rfl:=ak h;try refine dA ?_
     exact q0 _ _ rfl aO fD
def yH:Nat->Str->Int->Option Int
  |0,_,_=>none
  |k+1,s_0,gY=>
    cond (decide (gY<(s_0.length:Int))) (if 0<=gY then Option.bind (s_0[gY.toNat]?) fun Yf=>if 0<=(Yf.toNat:Int)/\(Yf.toNat:Int)<256 then Option.bind (Ab[Yf.toNat]?) fun x76=>cond (x76 !=0) (yH k s_0 (IntKind.wrap .i64 (gY+1))) (some (gY))else none else none) (some (gY))
def MS:List Nat:=[12]++List.range' 80 14
theorem YW: ∀(k:Nat) (s_0:Str) (gY:Int) (aC σ:Nat->PV) (H:AH) (f0:Fr MS aC σ) (sl:σ 0=(.str s_0)/\σ 12=(.int .i64 gY)) (o:Int) (h:yH k s_0 gY=some o) (Q:Post) (q0: ∀(p:Int) (σ':Nat->PV),o=p->Fr MS aC σ'->(σ' 12=(.int .i64 p))->Q (.exit 6) σ' H),W Tryz.prog (.loop QV) Q σ H:=by
  intro k
  induction k with
  |zero=>intro s_0 gY aC σ H f0 sl o h Q q0;simp only [yH,reduceCtorEq]at h
  |succ k ih=>
    intro s_0 gY aC σ H f0 sl o h Q q0;obtain⟨s0,s12⟩:=sl;unfold yH at h;refine bA (fun K hK=>aF ?_);unfold QV;rcases au h with⟨Pk,h⟩|⟨Pk,h⟩
    ·obtain⟨MU,h⟩:=aD h;obtain⟨Yf,Pg,h⟩:=aj h;obtain⟨Hr,h⟩:=aD h;obtain⟨x76,Ht,h⟩:=aj h;rcases au h with⟨Mw,h⟩|⟨Mw,h⟩
     ·try refine dA ?_
      refine hK _ _ ?_;exact ih s_0 (IntKind.wrap .i64 (gY+1)) _ _ _ aO fD _ h _ q0
     ·obtain rfl:=ak h;try refine dA ?_
      exact q0 _ _ rfl aO fD
    ·obtain rfl:=ak h;try refine dA ?_
     exact q0 _ _ rfl aO fD
def uX:Nat->Str->(List Str)->Int->Int->Int->Option (((List Str)×Int×Int))
  |0,_,_,_,_,_=>none
  |k+1,s_0,MW,ng,gD,gY=>
    cond (decide (gY<(s_0.length:Int))) (if 0<=gY then Option.bind (s_0[gY.toNat]?) fun x48=>if 0<=(x48.toNat:Int)/\(x48.toNat:Int)<256 then Option.bind (Ab[x48.toNat]?) fun x51=>cond (x51==0) (uX k s_0 MW ng gD (IntKind.wrap .i64 (gY+1))) (if 0<=gD/\gD<=gY/\gY.toNat<=s_0.length then if 0<=ng then Option.bind (MW[ng.toNat]?) fun x56=>Option.bind (yH k s_0 (IntKind.wrap .i64 (gY+1))) (fun xZ=>uX k s_0 (MW.set ng.toNat ((s_0.take gY.toNat).drop gD.toNat)) (IntKind.wrap .i64 (ng+1)) xZ xZ)else none else none)else none else none) (some ((MW,ng,gD)))
def MX:List Nat:=[10,11,12]++List.range' 57 38
theorem YX: ∀(k:Nat) (EF:PV) (Cm:List Nat) (M:List Nat) (s_0:Str) (MW:List Str) (ng:Int) (gD:Int) (gY:Int) (aC σ:Nat->PV) (H0 H:AH) (f0:Fr MX aC σ) (hf0:HF M H0 H) (sl:σ 0=(.str s_0)/\σ 9=EF/\σ 10=(.int .i64 ng)/\σ 11=(.int .i64 gD)/\σ 12=(.int .i64 gY)) (EG:aS H aX 1 MW EF Cm) (Ju:Nw H0 M Cm) (o:((List Str)×Int×Int)) (h:uX k s_0 MW ng gD gY=some o) (Q:Post) (q0: ∀(p:(List Str)×Int×Int) (v0:PV) (tY:List Nat) (σ':Nat->PV) (H':AH),o=p->Fr MX aC σ'->HF M H0 H'->(σ' 9=v0/\σ' 10=(.int .i64 p.2.1)/\σ' 11=(.int .i64 p.2.2))->aS H' aX 1 p.1 v0 tY->Nw H0 M tY->Q (.exit 4) σ' H'),W Tryz.prog (.loop QW) Q σ H:=by
  intro k
  induction k with
  |zero=>intro EF Cm M s_0 MW ng gD gY aC σ H0 H f0 hf0 sl EG Ju o h Q q0;simp only [uX,reduceCtorEq]at h
  |succ k ih=>
    intro EF Cm M s_0 MW ng gD gY aC σ H0 H f0 hf0 sl EG Ju o h Q q0;obtain⟨s0,s9,s10,s11,s12⟩:=sl;have hle0:=hf0.1;unfold uX at h;refine bA (fun K hK=>aF ?_);unfold QW;rcases au h with⟨e46,h⟩|⟨e46,h⟩
    ·obtain⟨e47,h⟩:=aD h;obtain⟨x48,e49,h⟩:=aj h;obtain⟨e50,h⟩:=aD h;obtain⟨x51,e52,h⟩:=aj h;rcases au h with⟨e53,h⟩|⟨e53,h⟩
     ·try refine dA ?_
      refine hK _ _ ?_;exact ih EF Cm M s_0 MW ng gD (IntKind.wrap .i64 (gY+1)) _ _ _ _ aO (by repeat (first|exact hf0|refine HF.new ?_|refine HF.dR ?_|refine HF.used ?_|refine HF.put (by first|(right;omega)|(left;simp only [List.mem_cons,true_or,or_true])) ?_)) fD (by repeat (first|exact EG|apply aS.new|refine aS.put ?_ (fun hm=>by have:=aS.lt EG _ hm;omega))) Ju _ h _ q0
     ·obtain⟨e54,h⟩:=aD h;obtain⟨e55,h⟩:=aD h;obtain⟨x56,e57,h⟩:=aj h;obtain⟨w58,w59,aqa,hil,w60,hC,hL,hD,hI⟩:=aS.content EG e57;have w61:=ne_next hil;have w62:=aU hil;have w63:qG 1 EF (.int .i64 ng)=some (.ref w58 (ng.toNat)):=by simpa using hI .i64 ng (by first|omega|decide) (by first|rfl|omega)
      have ayY:w59[ng.toNat]? =some (.str x56):=by simpa using hC 0 _ rfl
      clear hC hL hD hI;try refine dA ?_
      refine zF (f:=aX) (id:=w58) (o:=ng.toNat) (i:=ng.toNat) (j:=0) (a:=x56) (y:=((s_0.take gY.toNat).drop gD.toNat)) (vs:=[(.str ((s_0.take gY.toNat).drop gD.toNat))]) fD aqa (by omega) (by repeat (first|exact EG|apply aS.new|refine aS.put ?_ (fun hm=>by have:=aS.lt EG _ hm;omega))) e57 fD rfl rfl (by first|decide|(simp only [List.length_cons,List.length_nil];omega)) rfl (fun H66 r67 aqb aio=> ?_);have le:=aqb.1;try simp only [AH.aJ,AH.aK,AH.aL,AH.aM]at le
      try refine dA ?_
      obtain⟨o79,h80,h⟩:=aj h;refine YW k s_0 (IntKind.wrap .i64 (gY+1)) _ _ _ (Fr.refl _ _) fD _ h80 _ ?_
      ·rintro xZ σ' eo IX s85;rw [eo]at h;have s86:σ' 0=(.str s_0):=(IX 0 (by decide)).trans fD;have s87:σ' 9=EF:=(IX 9 (by decide)).trans fD;have s88:σ' 10=(.int .i64 (IntKind.wrap .i64 (ng+1))):=(IX 10 (by decide)).trans fD;try refine dA ?_
       refine hK _ _ ?_;exact ih EF Cm M s_0 (MW.set ng.toNat ((s_0.take gY.toNat).drop gD.toNat)) (IntKind.wrap .i64 (ng+1)) xZ xZ _ _ _ _ (by repeat (first|exact f0|refine Fr.upd (by decide) ?_|refine Fr.via IX (by decide) ?_)) (by repeat (first|exact hf0|refine HF.new ?_|refine HF.dR ?_|refine HF.used ?_|refine HF.put (by first|(right;omega)|(left;simp only [List.mem_cons,true_or,or_true])) ?_|refine HF.via aqb Ju ?_)) fD (by repeat (first|exact r67|apply aS.new|refine aS.put ?_ (fun hm=>by have:=aS.lt r67 _ hm;omega))) Ju _ h _ q0
    ·obtain rfl:=ak h;try refine dA ?_
     exact q0 _ EF Cm _ _ rfl aO (by repeat (first|exact hf0|refine HF.new ?_|refine HF.dR ?_|refine HF.used ?_|refine HF.put (by first|(right;omega)|(left;simp only [List.mem_cons,true_or,or_true])) ?_)) fD (by repeat (first|exact EG|apply aS.new|refine aS.put ?_ (fun hm=>by have:=aS.lt EG _ hm;omega))) Ju
def Rh (k:Nat) (s_0:Str):Option (List Str):=
  Option.bind (yF k s_0 0 1 0 0) (fun fE=>cond (decide (fE.2>=128)) (Option.bind (aaY s_0) fun kF=>some kF) (if 0<=fE.1/\fE.1<=1099511627776/\16*fE.1<=1099511627776 then Option.bind (yG k s_0 0) (fun p38=>Option.bind (uX k s_0 (List.replicate fE.1.toNat []) 0 p38 p38) (fun mI=>cond (decide (mI.2.2<(s_0.length:Int))) (if 0<=mI.2.2/\mI.2.2.toNat<=s_0.length then if 0<=mI.2.1 then Option.bind (mI.1[mI.2.1.toNat]?) fun aiH=>some (mI.1.set mI.2.1.toNat (s_0.drop mI.2.2.toNat))else none else none) (some mI.1)))else none))
theorem ae5 {k:Nat} {s_0:Str} {r:List Str} (h:Rh k s_0=some r):aG Tryz.prog 180 [(.str s_0)] (.aB (r.map aX) .unk):=by
  refine aG.aR (bB.mem (.cons (.str _) .nil)) (aI asU (by simp) (aF ?_)) (bC cO _);unfold Rh at h;unfold ak6;try refine dA ?_
  obtain⟨o8,h9,h⟩:=aj h;refine YU k s_0 0 1 0 0 _ _ _ (Fr.refl _ _) fD _ h9 _ ?_
  ·rintro fE σ' eo V7 ⟨s14,s15⟩;rw [eo]at h;have s16:σ' 0=(.str s_0):=(V7 0 (by decide)).trans fD;rcases au h with⟨e17,h⟩|⟨e17,h⟩
   ·obtain⟨kF,e18,h⟩:=aj h;try refine dA ?_
    refine aA (ae4 s_0 e18) ?_;obtain rfl:=ak h;try refine dA ?_
    exact(jr cO _ _)
   ·obtain⟨e20,h⟩:=aD h;try refine dA ?_
    refine aaW (f:=aX) (k:= .i64) (n:=fE.1) (k':= .i64) (c:=fE.1) [] rfl fD fD (by omega) (by decide) (fun v21 alo H23 r24 azT ME aox=> ?_);have le:=ME.1;try simp only [AH.aJ,AH.aK,AH.aL,AH.aM]at le
    try refine dA ?_
    obtain⟨o36,h37,h⟩:=aj h;refine YV k s_0 0 _ _ _ (Fr.refl _ _) fD _ h37 _ ?_
    ·rintro p38 σ' eo aiI s42;rw [eo]at h;have s43:σ' 0=(.str s_0):=(aiI 0 (by decide)).trans fD;have s44:σ' 9=v21:=(aiI 9 (by decide)).trans fD;have s45:σ' 10=(.int .i64 0):=(aiI 10 (by decide)).trans fD;try refine dA ?_
     obtain⟨o89,h90,h⟩:=aj h;refine YX k v21 alo (alo++[]) s_0 (List.replicate fE.1.toNat []) 0 p38 p38 _ _ _ _ (Fr.refl _ _) (HF.refl _ _) fD (by repeat (first|exact r24|apply aS.new|refine aS.put ?_ (fun hm=>by have:=aS.lt r24 _ hm;omega))) (fun i hi=>Or.inl (by simp only [List.mem_append,List.mem_cons,hi,true_or,or_true])) _ h90 _ ?_
     ·rintro mI v95 ayZ σ' H94 eo aiJ aiK ⟨s99,aiB,avY⟩ r97 azU;rw [eo]at h;have azV:σ' 0=(.str s_0):=(aiJ 0 (by decide)).trans fD;have le:=aiK.1;try simp only [AH.aJ,AH.aK,AH.aL,AH.aM]at le
      rcases au h with⟨Ea,h⟩|⟨Ea,h⟩
      ·obtain⟨Ri,h⟩:=aD h;obtain⟨Eb,h⟩:=aD h;obtain⟨aiH,Eo,h⟩:=aj h;obtain⟨aqg,avZ,amL,hil,azW,hC,hL,hD,hI⟩:=aS.content r97 Eo;have azX:=ne_next hil;have azY:=aU hil;have azZ:qG 1 v95 (.int .i64 mI.2.1)=some (.ref aqg (mI.2.1.toNat)):=by simpa using hI .i64 mI.2.1 (by first|omega|decide) (by first|rfl|omega)
       have aye:avZ[mI.2.1.toNat]? =some (.str aiH):=by simpa using hC 0 _ rfl
       clear hC hL hD hI;try refine dA ?_
       refine zF (f:=aX) (id:=aqg) (o:=mI.2.1.toNat) (i:=mI.2.1.toNat) (j:=0) (a:=aiH) (y:=(s_0.drop mI.2.2.toNat)) (vs:=[(.str (s_0.drop mI.2.2.toNat))]) fD amL (by omega) (by repeat (first|exact r97|apply aS.new|refine aS.put ?_ (fun hm=>by have:=aS.lt r97 _ hm;omega))) Eo fD rfl rfl (by first|decide|(simp only [List.length_cons,List.length_nil];omega)) rfl (fun av0 aqh as5 akz=> ?_);have le:=as5.1;try simp only [AH.aJ,AH.aK,AH.aL,AH.aM]at le
       obtain rfl:=ak h;try refine dA ?_
       exact(aS.fz cO (by repeat (first|exact aqh|apply aS.new|refine aS.put ?_ (fun hm=>by have:=aS.lt aqh _ hm;omega))))
      ·obtain rfl:=ak h;try refine dA ?_
       exact(aS.fz cO (by repeat (first|exact r97|apply aS.new|refine aS.put ?_ (fun hm=>by have:=aS.lt r97 _ hm;omega))))
def xC (k:Nat):Option (List Str):=
  Option.bind (Rh k ([65,83,83,85,77,69,32,65,83,83,85,77,80,84,73,79,78,32,65,88,73,79,77,32,66,89,32,67,65,83,69,32,67,72,79,79,83,69,32,67,79,78,83,84,65,78,84,32,67,79,78,83,84,65,78,84,83,32,68,69,70,32,68,69,70,73,78,69,32,68,69,70,83,32,68,79,77,65,73,78,32,69,76,83,69,32,69,78,65,66,76,69,68,32,69,88,67,69,80,84,32,69,88,84,69,78,68,83,32,70,65,76,83,69,32,72,65,86,69,32,72,73,68,69,32,73,70,32,73,78,32,73,78,83,84,65,78,67,69,32,76,65,77,66,68,65,32,76,69,77,77,65,32,76,69,84,32,76,79,67,65,76,32,77,79,68,85,76,69,32,78,69,87,32,79,66,86,73,79,85,83,32,79,77,73,84,84,69,68,32,79,84,72,69,82,32,80,73,67,75,32,80,82,79,79,70,32,80,82,79,80,79,83,73,84,73,79,78,32,80,82,79,86,69,32,81,69,68,32,82,69,67,85,82,83,73,86,69,32,83,85,66,83,69,84,32,83,85,70,70,73,67,69,83,32,84,65,75,69,32,84,72,69,78,32,84,72,69,79,82,69,77,32,84,82,85,69,32,85,78,67,72,65,78,71,69,68,32,85,78,73,79,78,32,85,83,69,32,86,65,82,73,65,66,76,69,32,86,65,82,73,65,66,76,69,83,32,87,73,84,72,32,87,73,84,78,69,83,83,32,66,79,79,76,69,65,78,32,83,84,82,73,78,71]:Str)) fun p2=>some p2
theorem aaZ {k:Nat} {r:List Str} (h:xC k=some r):aG Tryz.prog 126 [] (.aB (r.map aX) .unk):=by
  refine aG.aR (bB.mem .nil) (aI asr (by simp) (aF ?_)) (bC cO _);unfold xC at h;unfold akF;obtain⟨p2,e1,h⟩:=aj h;try refine ah ?_
  refine aA (ae5 e1) ?_;obtain rfl:=ak h;try refine ah ?_
  exact(jr cO _ _)
end Go.VL
end
section
namespace Go.VL
open Go.Proofs Go.RowKit
def IZ:List Str:=(xC 800).getD []
theorem agI:xC 800=some IZ:=by
  have h:(xC 800).isSome=true:=by kernel_rfl
  rw [IZ];cases h1:xC 800 with
  |none=>rw [h1]at h;cases h
  |some r=>rfl
theorem aqi:aG Tryz.prog 126 [] (.aB (IZ.map aX) .unk):=aaZ agI
end Go.VL
end
section
set_option maxRecDepth 8000
set_option maxHeartbeats 4000000
namespace Go.VL
open Go.Proofs
def CY (k:Nat) (s_0:Str) (iO:Bool):Option Bool:=
  cond iO (some (true)) (Option.bind (dW s_0 ([87,70,95]:Str)) fun p5=>cond p5 (some (true)) (Option.bind (dW s_0 ([83,70,95]:Str)) fun p8=>cond p8 (some (true)) (Option.bind (dV k IZ s_0) fun pI=>some (pI))))
def MZ:List Nat:=List.range' 11 12
theorem YZ (k:Nat): ∀(s_0:Str) (iO:Bool) (aC σ:Nat->PV) (H:AH) (f0:Fr MZ aC σ) (sl:σ 0=(.str s_0)/\σ 10=(.bool iO)) (o:Bool) (h:CY k s_0 iO=some o) (Q:Post) (q0: ∀(p:Bool) (σ':Nat->PV),o=p->Fr MZ aC σ'->(σ' 22=(.bool p))->Q .normal σ' H),dB Tryz.prog Vx (Q .normal) σ H:=by
  intro s_0 iO aC σ H f0 sl o h Q q0;obtain⟨s0,s10⟩:=sl;unfold CY at h;refine dw ?_;unfold Vx;rcases au h with⟨e3,h⟩|⟨e3,h⟩
  ·obtain rfl:=ak h;try refine ah ?_
   exact q0 _ _ rfl aO av
  ·obtain⟨p5,e4,h⟩:=aj h;try refine ah ?_
   refine aA (ji e4) ?_;rcases au h with⟨e6,h⟩|⟨e6,h⟩
   ·obtain rfl:=ak h;try refine ah ?_
    exact q0 _ _ rfl aO av
   ·obtain⟨p8,e7,h⟩:=aj h;try refine ah ?_
    refine aA (ji e7) ?_;rcases au h with⟨e9,h⟩|⟨e9,h⟩
    ·obtain rfl:=ak h;try refine ah ?_
     exact q0 _ _ rfl aO av
    ·try refine ah ?_
     refine aA (aqi) ?_;obtain⟨pI,e10,h⟩:=aj h;try refine ah ?_
     refine aA (kT e10) ?_;obtain rfl:=ak h;try refine ah ?_
     exact q0 _ _ rfl aO av
def yI (c_5:Int) (aa0:Bool):Option Bool:=
  cond aa0 (some (true)) (Option.bind (gU (IntKind.wrap .i64 c_5) 65 90) fun p29=>some (p29))
theorem Y0: ∀(c_5:Int) (aa0:Bool) (aC σ:Nat->PV) (H:AH) (f0:Fr [35,36,37,38] aC σ) (sl:σ 5=(.int .u8 c_5)/\σ 34=(.bool aa0)) (o:Bool) (h:yI c_5 aa0=some o) (Q:Post) (q0: ∀(p:Bool) (σ':Nat->PV),o=p->Fr [35,36,37,38] aC σ'->(σ' 38=(.bool p))->Q .normal σ' H),dB Tryz.prog Vy (Q .normal) σ H:=by
  intro c_5 aa0 aC σ H f0 sl o h Q q0;obtain⟨s5,s34⟩:=sl;unfold yI at h;refine dw ?_;unfold Vy;rcases au h with⟨e27,h⟩|⟨e27,h⟩
  ·obtain rfl:=ak h;try refine ah ?_
   exact q0 _ _ rfl aO av
  ·obtain⟨p29,e28,h⟩:=aj h;try refine ah ?_
   refine aA (gW e28) ?_;obtain rfl:=ak h;try refine ah ?_
   exact q0 _ _ rfl aO av
def kH:Nat->Int->(List Int)->Int->Int->Option (Int⊕Bool)
  |0,_,_,_,_=>none
  |k+1,lD,tZ,iq,jZ=>
    cond (decide (jZ<iq)) (if 0<=jZ then Option.bind (tZ[jZ.toNat]?) fun x23=>Option.bind (gU (IntKind.wrap .i64 x23) 97 122) fun p26=>Option.bind (yI x23 p26) (fun p32=>cond p32 (kH k (IntKind.wrap .i64 (lD+1)) tZ iq (IntKind.wrap .i64 (jZ+1))) (Option.bind (gU (IntKind.wrap .i64 x23) 48 57) fun p44=>cond p44 (kH k lD tZ iq (IntKind.wrap .i64 (jZ+1))) (cond (x23 !=95) (some (.inr (false))) (kH k lD tZ iq (IntKind.wrap .i64 (jZ+1))))))else none) (some (.inl lD))
def F7:List Nat:=[2,3,5]++List.range' 26 25
theorem Y1: ∀(k:Nat) (lD:Int) (tZ:List Int) (iq:Int) (jZ:Int) (aC σ:Nat->PV) (H:AH) (f0:Fr F7 aC σ) (sl:σ 3=(.int .i64 lD)/\σ 24=(.aB (tZ.map u8L) .unk)/\σ 25=(.int .i64 iq)/\σ 26=(.int .i64 jZ)) (o:Int⊕Bool) (h:kH k lD tZ iq jZ=some o) (Q:Post) (q0: ∀(p:Int) (σ':Nat->PV),o= .inl p->Fr F7 aC σ'->(σ' 3=(.int .i64 p))->Q (.exit 0) σ' H) (q1: ∀(p:Bool) (σ':Nat->PV),o= .inr (p)->Fr F7 aC σ'->(σ' 2=(.bool p))->Q .ret σ' H),W Tryz.prog (.loop Vz) Q σ H:=by
  intro k
  induction k with
  |zero=>intro lD tZ iq jZ aC σ H f0 sl o h Q q0 q1;simp only [kH,reduceCtorEq]at h
  |succ k ih=>
    intro lD tZ iq jZ aC σ H f0 sl o h Q q0 q1;obtain⟨s3,s24,O6,X5⟩:=sl;unfold kH at h;refine bA (fun K hK=>aF ?_);unfold Vz;rcases au h with⟨e21,h⟩|⟨e21,h⟩
    ·obtain⟨e22,h⟩:=aD h;obtain⟨x23,e24,h⟩:=aj h;obtain⟨p26,e25,h⟩:=aj h;try refine ah ?_
     refine aA (gW e25) ?_;try refine ah ?_
     obtain⟨o30,h31,h⟩:=aj h;refine Y0 x23 p26 _ _ _ (Fr.refl _ _) av _ h31 _ ?_
     ·rintro p32 σ' eo vo s36;rw [eo]at h;have s37:σ' 3=(.int .i64 lD):=(vo 3 (by decide)).trans av;have s38:σ' 5=(.int .u8 x23):=(vo 5 (by decide)).trans av;have s39:σ' 24=(.aB (tZ.map u8L) .unk):=(vo 24 (by decide)).trans av;have s40:σ' 25=(.int .i64 iq):=(vo 25 (by decide)).trans av;have s41:σ' 26=(.int .i64 jZ):=(vo 26 (by decide)).trans av;rcases au h with⟨e42,h⟩|⟨e42,h⟩
      ·try refine ah ?_
       refine hK _ _ ?_;exact ih (IntKind.wrap .i64 (lD+1)) tZ iq (IntKind.wrap .i64 (jZ+1)) _ _ _ (by repeat (first|exact f0|refine Fr.upd (by decide) ?_|refine Fr.via vo (by decide) ?_)) av _ h _ q0 q1
      ·obtain⟨p44,e43,h⟩:=aj h;try refine ah ?_
       refine aA (gW e43) ?_;rcases au h with⟨e45,h⟩|⟨e45,h⟩
       ·try refine ah ?_
        refine hK _ _ ?_;exact ih lD tZ iq (IntKind.wrap .i64 (jZ+1)) _ _ _ (by repeat (first|exact f0|refine Fr.upd (by decide) ?_|refine Fr.via vo (by decide) ?_)) av _ h _ q0 q1
       ·rcases au h with⟨e46,h⟩|⟨e46,h⟩
        ·obtain rfl:=ak h;try refine ah ?_
         exact q1 _ _ rfl (by repeat (first|exact f0|refine Fr.upd (by decide) ?_|refine Fr.via vo (by decide) ?_)) av
        ·try refine ah ?_
         refine hK _ _ ?_;exact ih lD tZ iq (IntKind.wrap .i64 (jZ+1)) _ _ _ (by repeat (first|exact f0|refine Fr.upd (by decide) ?_|refine Fr.via vo (by decide) ?_)) av _ h _ q0 q1
    ·obtain rfl:=ak h;try refine ah ?_
     exact q0 _ _ rfl aO av
def ou (k:Nat) (s_0:Str):Option Bool:=
  Option.bind (gU (s_0.length:Int) 1 24) fun p2=>Option.bind (CY k s_0 (!p2)) (fun ig=>cond ig (some false) (Option.bind (kH k 0 (su s_0) ((su s_0).length:Int) 0) (fun o=>Sum.elim (fun p49=>some (decide (p49>0))) (fun p54=>some p54) o)))
theorem q8 {k:Nat} {s_0:Str} {r:Bool} (h:ou k s_0=some r):aG Tryz.prog 77 [(.str s_0)] (.bool r):=by
  refine aG.aR (bB.mem (.cons (.str _) .nil)) (aI avl (by simp) (aF ?_)) (.bool _);unfold ou at h;unfold ao6;obtain⟨p2,e1,h⟩:=aj h;try refine ah ?_
  refine aA (gW e1) ?_;try refine ah ?_
  obtain⟨o12,Jk,h⟩:=aj h;refine YZ k s_0 (!p2) _ _ _ (Fr.refl _ _) av _ Jk _ ?_
  ·rintro ig σ' eo vS pK;rw [eo]at h;have qH:σ' 0=(.str s_0):=(vS 0 (by decide)).trans av;rcases au h with⟨e20,h⟩|⟨e20,h⟩
   ·obtain rfl:=ak h;try refine ah ?_
    exact(.pure _ (.bool _))
   ·try refine ah ?_
    obtain⟨o47,h48,h⟩:=aj h;refine Y1 k 0 (su s_0) ((su s_0).length:Int) 0 _ _ _ (Fr.refl _ _) av _ h48 _ ?_ ?_
    ·rintro p49 σ' eo MF s53;subst eo;rw [dD]at h;obtain rfl:=ak h;try refine ah ?_
     exact(.pure _ (.bool _))
    ·rintro p54 σ' eo aa2 s58;subst eo;rw [dK]at h;obtain rfl:=ak h;try refine ah ?_
     exact(.pure _ (.bool _))
def xD (k:Nat) (s_0:Str):Option Bool:=
  cond (decide ((s_0.length:Int)>49)) (some false) (Option.bind (aaX s_0 ([33]:Str)) fun p5=>cond (decide (p5>=0)) (if 0<=p5/\p5.toNat<=s_0.length then if 0<=(IntKind.wrap .i64 (p5+1))/\(IntKind.wrap .i64 (p5+1)).toNat<=s_0.length then Option.bind (ou k (s_0.take p5.toNat)) fun fE=>cond fE (Option.bind (ou k (s_0.drop (IntKind.wrap .i64 (p5+1)).toNat)) fun xY=>some xY) (some false)else none else none) (Option.bind (ou k s_0) fun xX=>cond xX (some true) (some false)))
theorem M0 {k:Nat} {s_0:Str} {r:Bool} (h:xD k s_0=some r):aG Tryz.prog 146 [(.str s_0)] (.bool r):=by
  refine aG.aR (bB.mem (.cons (.str _) .nil)) (aI asA (by simp) (aF ?_)) (.bool _);unfold xD at h;unfold akM;rcases au h with⟨e1,h⟩|⟨e1,h⟩
  ·obtain rfl:=ak h;try refine ah ?_
   exact(.pure _ (.bool _))
  ·try refine ah ?_
   refine aI ak8 (by simp) (aF ?_);unfold aeJ;try refine ah ?_
   refine aI alc (by simp) (aF ?_);unfold aeK;obtain⟨p5,e4,h⟩:=aj h;try refine ah ?_
   refine aA (agG s_0 ([33]:Str) e4) ?_;rcases au h with⟨e6,h⟩|⟨e6,h⟩
   ·try refine ah ?_
    refine bO ?_;obtain⟨e7,h⟩:=aD h;obtain⟨e8,h⟩:=aD h;obtain⟨fE,e9,h⟩:=aj h;try refine ah ?_
    refine aA (q8 e9) ?_;rcases au h with⟨e11,h⟩|⟨e11,h⟩
    ·obtain⟨xY,e12,h⟩:=aj h;try refine ah ?_
     refine aA (q8 e12) ?_;obtain rfl:=ak h;try refine ah ?_
     exact(.pure _ (.bool _))
    ·obtain rfl:=ak h;try refine ah ?_
     exact(.pure _ (.bool _))
   ·obtain⟨xX,e14,h⟩:=aj h;try refine ah ?_
    refine aA (q8 e14) ?_;rcases au h with⟨e16,h⟩|⟨e16,h⟩
    ·obtain rfl:=ak h;try refine ah ?_
     exact(.pure _ (.bool _))
    ·obtain rfl:=ak h;try refine ah ?_
     exact(.pure _ (.bool _))
end Go.VL
end
section
namespace Go.VL
open Go.Proofs Go.RowKit
theorem Vs.as6 {G:Gh} {n:Nat} {s:List UInt8} {g:FuncId} {vs:Array Value} (h:Vs G n [.str s,.fn (.func g) [] []] vs):vs=#[.string ⟨s.toArray⟩,.func (.func g) #[] #[]]:=by
  obtain⟨h1,h2⟩:=h
  match vs,h1,h2 with
  |⟨[v,u]⟩,_,h2=>
    have e1:=h2 0 (.str s) v rfl rfl;have e2:=h2 1 (.fn (.func g) [] []) u rfl rfl;cases e1;cases e2 with
    |fn g cs ds vs us h1 _ h3 _=>
      have a1:vs=#[]:=Array.size_eq_zero_iff.1 h1;have a2:us=#[]:=Array.size_eq_zero_iff.1 h3;rw [a1,a2]
theorem agL {g:FuncId} {p:Nat->Bool} (hp: ∀x:Nat,x<=1114111->aG Tryz.prog g [.int .i32 x] (.bool (p x))) {w:World} (hg: ∀a x,Glob.gc a=some x->w.cell? a=some x) (hw:WH (fun b=>w.heap.size<=b) w):PredGrows Tryz.prog g #[] p w:=by
  intro W x hx hb;have hM:dS Tryz.prog g [.int .i32 x] AH.empty fun v _=>v= .bool (p x):=dS.mono (hp x hx AH.empty) fun v H' q=>q.1;refine(dS.top hM (fun a y e=>(World.cell?_of_block (hb.block _ (World.block_lt_of_cell? w a (hg a y e)))).trans (hg a y e)) (hw.keep fun b _ hlt=>hb.block b hlt).old (vs:=#[encR x]++#[]) ?_);exact⟨rfl,fun j c y e e'=>by
    match j,e,e' with
    |0,e,e'=>cases e;cases e';exact .int _ _⟩
theorem WI {g:FuncId} (p:Nat->Bool) (he: ∀args w,(callFunc g args).run Tryz.prog w= .ok (.enter g args) w) (hp: ∀x:Nat,x<=1114111->aG Tryz.prog g [.int .i32 x] (.bool (p x))) (s:Str):
    aG Tryz.prog 143 [.str s,.fn (.func g) [] []] (.bool (decide (0<=Lib.idxFunc p true ⟨s.toArray⟩))):=by
  refine MP ⟨_,Tryz.func143,rfl,by kernel_rfl⟩ (fun w G vs hg hi hw hv=> ?_) (bB.mem (.cons (.str _) (.cons (.fn _ _ _ (bB.mem .nil) (bB.mem .nil)) .nil)));rw [Vs.as6 hv];refine(Tryz.strings_ContainsFunc_grows g #[] he p ⟨s.toArray⟩ w (agL hp hg hw)).mono ?_;rintro e w' ⟨rfl,hb⟩;exact⟨_,rfl,hb,fun G n=> .bool _⟩
def Oj (x y:Int):Int×Int:=(((x.toNat*y.toNat/18446744073709551616:Nat):Int),((x.toNat*y.toNat% 18446744073709551616:Nat):Int))
theorem Vs.as7 {G:Gh} {n:Nat} {x y:Int} {k k':IntKind} {vs:Array Value} (h:Vs G n [.int k x,.int k' y] vs):vs=#[.int k x,.int k' y]:=by
  obtain⟨h1,h2⟩:=h
  match vs,h1,h2 with
  |⟨[v,u]⟩,_,h2=>
    have e1:=h2 0 (.int k x) v rfl rfl;have e2:=h2 1 (.int k' y) u rfl rfl;cases e1;cases e2;rfl
theorem amM (x y:Int) (h:(0<=x/\x<18446744073709551616)/\(0<=y/\y<18446744073709551616)):aG Tryz.prog 189 [.int .u64 x,.int .u64 y] (.dN [.int .u64 (Oj x y).1,.int .u64 (Oj x y).2]):=by
  refine Rf ⟨_,Tryz.func189,rfl,by kernel_rfl⟩ (fun w G vs hg hi hv=> ?_) (bB.mem (.cons (.int _ _) (.cons (.int _ _) .nil)));rw [Vs.as7 hv];obtain⟨a,rfl⟩: ∃a:Nat,x=a:=⟨x.toNat,by omega⟩;obtain⟨b,rfl⟩: ∃b:Nat,y=b:=⟨y.toNat,by omega⟩;refine(Tryz.bits_Mul64 a b (by omega) (by omega) w).mono ?_;rintro e w' ⟨rfl,rfl⟩;refine⟨_,rfl,Below.refl _ _,fun G n=> ?_⟩;refine .dN _ _ rfl fun j c y e e'=> ?_
  match j,e,e' with
  |0,e,e'=>cases e;cases e';exact .int _ _
  |1,e,e'=>cases e;cases e';exact .int _ _
end Go.VL
end
section
namespace Go.VL
open Go.Proofs Go.RowKit
theorem Px (p:Nat->Bool) (hp: ∀x,128<=x->p x=true) (s:Str): ∀(f pos:Nat),s.length<=pos+f->
    decide (0<=Lib.idxFuncFrom p true ⟨s.toArray⟩ f pos)=(s.drop pos).any (fun c=>p c.toNat)
  |0,pos,h=>by rw [List.drop_eq_nil_of_le (by omega)];rfl
  |f+1,pos,h=>by
    have hsz:(⟨s.toArray⟩:ByteArray).size=s.length:=rfl;by_cases hlt:pos<s.length
    · have hlt':pos<(⟨s.toArray⟩:ByteArray).size:=hlt;have hget:(⟨s.toArray⟩:ByteArray)[pos]'hlt'=s[pos]:=rfl;rw [List.drop_eq_getElem_cons hlt,List.any_cons];simp only [Lib.idxFuncFrom,hsz,hlt,if_true];by_cases ha:(s[pos]).toNat<128
      · rw [decode_ascii ⟨s.toArray⟩ pos hlt' (by rw [hget];exact ha),hget];by_cases hq:p (s[pos]).toNat=true
        · simp only [hq,if_true,Bool.true_or];exact decide_eq_true (by omega)
        · simp only [hq,Bool.false_or];exact Px p hp s f (pos+1) (by omega)
      · have hd:=decode_high ⟨s.toArray⟩ pos hlt' (by rw [hget];omega);rw [if_pos (hp _ hd.1),hp _ (by omega),Bool.true_or];exact decide_eq_true (by omega)
    · rw [List.drop_eq_nil_of_le (by omega),Lib.idxFuncFrom_end _ _ _ _ _ (by rw [hsz];exact hlt)];rfl
theorem amN (p:Nat->Bool) (hp: ∀x,128<=x->p x=true) (s:Str):decide (0<=Lib.idxFunc p true ⟨s.toArray⟩)=s.any (fun c=>p c.toNat):=by
  have h:=Px p hp s s.length 0 (by omega);rw [List.drop_zero]at h;exact h
def Rj (x:Nat):Bool:=bif decide (32<=x)&&decide (x<=126)then x==34||x==92 else true
theorem agM (x:Nat) (h:x<=1114111):ED (x:Int)=some (Rj x):=by
  have hw:IntKind.wrap .i64 (x:Int)=x:=IntWalk.i64_in _ (by omega);unfold ED gU Rj;rw [hw];by_cases h1:32<=x
  · have h1':(32:Int)<=x:=by omega
    by_cases h2:x<=126
    · have h2':(x:Int)<=126:=by omega
      have e1:((x:Int)==34)=(x==34):=by rw [Bool.eq_iff_iff];simp only [beq_iff_eq];omega
      have e2:((x:Int)==92)=(x==92):=by rw [Bool.eq_iff_iff];simp only [beq_iff_eq];omega
      simp only [h1,h1',h2,h2',decide_true,cond_true,Bool.and_true,Option.bind_some,e1,e2];cases x==34<;>rfl
    · have h2': ¬(x:Int)<=126:=by omega
      simp [h1,h1',h2,h2']
  · have h1': ¬(32:Int)<=x:=by omega
    simp [h1,h1']
def ae6 (s:Str):Bool:=s.any (fun c=>Rj c.toNat)
theorem aqj (s:Str):aG Tryz.prog 143 [.str s,.fn (.func 142) [] []] (.bool (ae6 s)):=by
  have h:=WI (g:=142) Rj (fun args w=>by kernel_rfl) (fun x hx=>aaM (agM x hx)) s;rw [amN Rj (fun x hx=>by
    have h2: ¬x<=126:=by omega
    simp [Rj,h2]) s]at h
  exact h
end Go.VL
end
section
set_option maxRecDepth 8000
set_option maxHeartbeats 4000000
namespace Go.VL
open Go.Proofs
def wC (s_0:Str):Option Bool:=
  cond (decide ((s_0.length:Int)<=40)) (some (!(ae6 s_0))) (some false)
theorem EH {s_0:Str} {r:Bool} (h:wC s_0=some r):aG Tryz.prog 92 [(.str s_0)] (.bool r):=by
  refine aG.aR (bB.mem (.cons (.str _) .nil)) (aI avs (by simp) (aF ?_)) (.bool _);unfold wC at h;unfold ape;rcases au h with⟨e1,h⟩|⟨e1,h⟩
  ·try refine ah ?_
   refine aA (aqj s_0) ?_;obtain rfl:=ak h;try refine ah ?_
   exact(.pure _ (.bool _))
  ·obtain rfl:=ak h;try refine ah ?_
   exact(.pure _ (.bool _))
end Go.VL
end
section
namespace Go.VL
variable [Glob]
section
variable {P:Program} {Q:Post} {σ:Nat->PV} {s:List Fm} {α β:Type} {H:AH} {f:α->List PV} {sz:Nat} {g:β->List PV} {sz2:Nat}
def Mk (f:α->List PV) (sz:Nat) (xs:List α) (H:AH) (v:PV) (H':AH):Prop:= ∃ids,aS H' f sz xs v ids/\Nw H [] ids/\HF [] H H'/\ ∀c3,d9 H c3->d9 H' c3
def Ku (P:Program) (g:FuncId) (args:List PV) (f:α->List PV) (sz:Nat) (xs:List α):Prop:= ∀H,dS P g args H (Mk f sz xs H)
theorem aql {d:Option Nat} {g:FuncId} {args:List PV} {l:List aV} {xs:List α} (hm:Ku P g args f sz xs)
    (h: ∀(v':PV) (zo:List Nat) (H':AH),aS H' f sz xs v' zo->Nw H [] zo->HF [] H H'->(∀c3,d9 H c3->d9 H' c3)->WO P l s Q (upd σ d v') H'):MC P g args d l s Q σ H:=
  dS.mono (hm H) fun v H' ⟨ids,h1,h2,h3,h4⟩=>h v ids H' h1 h2 h3 h4
theorem amO {bytes:Nat} {zero:List PV} {x y:AE} [hr:zh f sz] (z:α) (hz:f z=zero) {k k':IntKind} {n:Int} (hx:x.ev σ= .int k n) (hy:y.ev σ= .int k' n)
    (hb:0<=n/\n<=1099511627776/\bytes*n<=1099511627776) (hs:0<sz):jF P (.d (.tu sz bytes zero x y)) (Mk f sz (List.replicate n.toNat z) H) σ H:=by
  have h:=aaW (P:=P) (s:=[]) (Q:=fun e σ' H'=> ∃v,σ'=upd σ (some 0) v/\Mk f sz (List.replicate n.toNat z) H v H') (d:=some 0) (l:=[]) (H:=H) (bytes:=bytes) (x:=x) (y:=y) z hz hx hy ⟨hb.1,Int.le_refl _,hb.2.1,hb.2.2⟩ hs
    (fun v' zo H' h1 h2 h3 h4=>⟨v',rfl,zo,h1,h2,h3,h4⟩)
  have h2:WD P (mQ (.tu sz bytes zero x y) σ H) (some 0) [] [] (fun e σ' H'=> ∃v,σ'=upd σ (some 0) v/\Mk f sz (List.replicate n.toNat z) H v H') σ:=h;show(match mQ (.tu sz bytes zero x y) σ H with|some (p,H')=>Mk f sz (List.replicate n.toNat z) H p H'|none=>False)
  revert h2;cases mQ (.tu sz bytes zero x y) σ H with
  |none=>intro h2;exact h2
  |some q=>
    intro h2;obtain⟨v,e,h3⟩:=(h2: ∃v,upd σ (some 0) q.1=upd σ (some 0) v/\Mk f sz (List.replicate n.toNat z) H v q.2);have e2:=congrFun e 0;simp only [upd,if_true]at e2;show Mk f sz (List.replicate n.toNat z) H q.1 q.2
    rw [e2];exact h3
theorem amP {g:FuncId} {fs cs args:List PV} {es:List AE} {xs:List α} (hm:Ku P g args f sz xs) (ha:fs++evs σ es++cs=args):jF P (.call (.c (.fn (.func g) fs cs)) es) (Mk f sz xs H) σ H:=by
  show dS P g (fs++evs σ es++cs) H _
  rw [ha];exact hm H
def SK (P:Program):List (aV×Bool)->(Nat->PV)->(Nat->PV)->Prop
  |[],_,_=>True
  |(o,d)::l,val,σ=>(d=true\/(o.g=none/\ ∀H,jF P o.k (fun r jU=>r=val 0/\jU=H) σ H))/\SK P l (fun i=>val (i+1)) (upd σ o.dst (val 0))
theorem SK.at {P:Program}: ∀{pr:List (aV×Bool)} {val σ:Nat->PV} (h:SK P pr val σ) (i:Nat) (o:aV),pr[i]? =some (o,false)->uG o (fU pr val σ i)/\ ∀H,jF P o.k (fun r jU=>r=val i/\jU=H) (fU pr val σ i) H
  |(o,d)::l,val,σ,h,0,o',e=>by
    cases e;rcases h.1 with h1|⟨h1,h2⟩
    · cases h1
    · refine⟨?_,h2⟩;unfold uG;rw [h1];trivial
  |(o,d)::l,val,σ,h,i+1,o',e=>SK.at (pr:=l) h.2 i o' e
theorem agN {ms:List Nat} {pr:List (aV×Bool)} {K:(Nat->PV)->AH->Prop} {a b:Nat} {oa ob:aV} {xs:List α} {ys:List β} (qL:PV->PV->Nat->PV) (hr:J5 pr=[a,b]) (hne:a≠b)
    (pra:pr[a]? =some (oa,true)) (prb:pr[b]? =some (ob,true)) (ha: ∀x y,qL x y a=x) (hb: ∀x y,qL x y b=y)
    (agA: ∀x x' y i,i≠a->iT ms a i=false->qL x y i=qL x' y i) (agB: ∀x y y' i,i≠b->iT ms b i=false->qL x y i=qL x y' i)
    (pure: ∀x y,SK P pr (qL x y) σ)
    (mkA: ∀y H,uG oa (fU pr (qL ud y) σ a)/\jF P oa.k (Mk f sz xs H) (fU pr (qL ud y) σ a) H)
    (mkB: ∀x H,uG ob (fU pr (qL x ud) σ b)/\jF P ob.k (Mk g sz2 ys H) (fU pr (qL x ud) σ b) H)
    (hend: ∀va vb Py Jv H2,aS H2 f sz xs va Py->aS H2 g sz2 ys vb Jv->Dj Py Jv->Nw H [] Py->Nw H [] Jv->HF [] H H2->(∀c3,d9 H c3->d9 H2 c3)->K (fU pr (qL va vb) σ pr.length) H2):
    ∃val:Nat->PV,Et P ms pr K σ (J5 pr).length (J5 pr) val H:=by
  refine⟨qL ud ud,?_⟩;rw [hr]
  have hpure: ∀(rem:List Nat) (x y:PV) (H:AH) (i:Nat) (o:aV),pr[i]? =some (o,false)->(∀s∈rem,iT ms s i=false)->
      (vN o (fU pr (qL x y) σ i)/\qL x y i=ud)\/(uG o (fU pr (qL x y) σ i)/\jF P o.k (fun r jU=>r=qL x y i/\jU=H) (fU pr (qL x y) σ i) H):=
    fun rem x y H i o e _=> .inr ⟨((pure x y).at i o e).1,((pure x y).at i o e).2 H⟩
  have hfa:[a,b].filter (·!=a)=[b]:=by simp [Ne.symm hne]
  have hfb:[a,b].filter (·!=b)=[a]:=by simp [hne]
  have hj: ∀{Py Jv:List Nat} {H1:AH},(∀i∈Py,i<H1.next)->Nw H1 [] Jv->Dj Py Jv:=fun h1 h2 i hi hj=>by
    rcases h2 i hj with q|q
    · cases q
    · have:=h1 i hi;omega
  have hnw: ∀{H1:AH} {Jv:List Nat},HF [] H H1->Nw H1 [] Jv->Nw H [] Jv:=fun h1 h2 i hi=>by
    rcases h2 i hi with q|q
    · exact .inl q
    · exact .inr (Nat.le_trans h1.1 q)
  have hft: ∀{H1 H2:AH},HF [] H H1->HF [] H1 H2->HF [] H H2:=fun h1 h2=>⟨Nat.le_trans h1.1 h2.1,fun i hi hm=>(h2.2 i (Nat.lt_of_lt_of_le hi h1.1) hm).trans (h1.2 i hi hm)⟩
  unfold Et;refine⟨hpure _ ud ud H,(fun e=>by cases e),fun j hj' o e hbj=> ?_⟩;rcases List.mem_cons.1 hj' with rfl|hj'
  · rw [pra]at e;cases e;refine⟨(mkA ud H).1,ze (fun va H1 hm=> ?_) (mkA ud H).2⟩;obtain⟨Py,a1,a2,a3,a4⟩:=hm;refine⟨qL va ud,fun i hi hbi=> ?_,ha _ _,?_⟩
    · exact agA _ _ _ i (fun q=>hi (q▸List.mem_cons_self ..)) (hbi _ (List.mem_cons_self ..))
    · rw [hfa];unfold Et;refine⟨hpure _ va ud H1,(fun e=>by cases e),fun j hj2 o e hbj=> ?_⟩;rw [List.mem_singleton.1 hj2]at e⊢;rw [prb]at e;cases e;refine⟨(mkB va H1).1,ze (fun vb H2 hm=> ?_) (mkB va H1).2⟩;obtain⟨Jv,b1,b2,b3,b4⟩:=hm;refine⟨qL va vb,fun i hi hbi=>agB _ _ _ i (fun q=>hi (q▸List.mem_cons_self ..)) (hbi _ (List.mem_cons_self ..)),hb _ _,?_⟩
      have hf:[b].filter (·!=b)=[]:=by simp
      rw [hf];unfold Et;exact⟨hpure _ va vb H2,fun _=>hend va vb Py Jv H2 (a1.hf b3 Dj.nil.symm) b1 (hj (fun i hi=>a1.lt i hi) b2) a2 (hnw a3 b2) (hft a3 b3) (fun c3 h=>b4 c3 (a4 c3 h)),rfl⟩
  · rw [List.mem_singleton.1 hj']at e⊢;rw [prb]at e;cases e;refine⟨(mkB ud H).1,ze (fun vb H1 hm=> ?_) (mkB ud H).2⟩;obtain⟨Jv,b1,b2,b3,b4⟩:=hm;refine⟨qL ud vb,fun i hi hbi=> ?_,hb _ _,?_⟩
    · exact agB _ _ _ i (fun q=>hi (q▸List.mem_cons_of_mem _ (List.mem_cons_self ..))) (hbi _ (List.mem_cons_of_mem _ (List.mem_cons_self ..)))
    · rw [hfb];unfold Et;refine⟨hpure _ ud vb H1,(fun e=>by cases e),fun j hj2 o e hbj=> ?_⟩;rw [List.mem_singleton.1 hj2]at e⊢;rw [pra]at e;cases e;refine⟨(mkA vb H1).1,ze (fun va H2 hm=> ?_) (mkA vb H1).2⟩;obtain⟨Py,a1,a2,a3,a4⟩:=hm;refine⟨qL va vb,fun i hi hbi=>agA _ _ _ i (fun q=>hi (q▸List.mem_cons_self ..)) (hbi _ (List.mem_cons_self ..)),ha _ _,?_⟩
      have hf:[a].filter (·!=a)=[]:=by simp
      rw [hf];unfold Et;exact⟨hpure _ va vb H2,fun _=>hend va vb Py Jv H2 a1 (b1.hf a3 Dj.nil.symm) (Dj.symm (hj (fun i hi=>b1.lt i hi) a2)) (hnw b3 a2) b2 (hft b3 a3) (fun c3 h=>a4 c3 (b4 c3 h)),rfl⟩
theorem amQ {ms:List Nat} {pr:List (aV×Bool)} {post:List aV} (h: ∃val:Nat->PV,Et P ms pr (fun σ H=>WO P post s Q σ H) σ (J5 pr).length (J5 pr) val H):WS P (.ZM ms pr post) s Q σ H:=h
end
end Go.VL
end
section
namespace Go.VL
open Go.Proofs Go.RowKit
theorem Zm {G:Gh} {m:Nat} {v:Value} (h:V G m (.aB [] .nil) v):v= .slice none 0 0:=by
  generalize hp:PV.aB [] .nil=p at h;cases h with
  |aB es c sz ad cap f h1 h2 h3 h4 h5=>
    cases hp;have q1:=h5.1;have q2:=h5.2.2;rw [q1,q2];rfl
  |_=>cases hp
theorem Vs.aqm {G:Gh} {m:Nat} {n:Int} {vs:Array Value} (h:Vs G m [.aB [] .nil,.int .i64 n] vs):vs=#[.slice none 0 0,.int .i64 n]:=by
  obtain⟨h1,h2⟩:=h
  match vs,h1,h2 with
  |⟨[v,u]⟩,_,h2=>
    have e1:=h2 0 (.aB [] .nil) v rfl rfl;have e2:=h2 1 (.int .i64 n) u rfl rfl;cases e2;have e3:=Zm e1;rw [e3]
theorem als (zs:Array Value) (k:Nat):(Builtin.zeroCells zs k).size=k*zs.size:=by simp [Builtin.zeroCells]
theorem agO (n:Int) (h:0<n/\n<=1000000):Ku Tryz.prog 167 [.aB [] .nil,.int .i64 n] Operator.cells 7 []:=by
  intro H;refine⟨⟨_,Tryz.func167,rfl,by kernel_rfl⟩,fun B G w vs hU hM hv=> ?_⟩;obtain⟨n,rfl⟩: ∃k:Nat,n=k:=⟨n.toNat,by omega⟩;rw [Vs.aqm hv];obtain⟨i0,hi0,hq⟩: ∃i0,Tryz.prog.info? (Tryz.growOp_ren.t 25)=some i0/\(i0.zero.map fun z=>z.cells.size)=some 7/\i0.size=7/\i0.bytes=64:=by
    have h:(Tryz.prog.info? (Tryz.growOp_ren.t 25)).map (fun i0=>((i0.zero.map fun z=>z.cells.size),i0.size,i0.bytes))=some (some 7,7,64):=by kernel_rfl
    cases hi:Tryz.prog.info? (Tryz.growOp_ren.t 25)with
    |none=>rw [hi]at h;cases h
    |some i0=>rw [hi]at h;simp only [Option.map_some,Option.some.injEq,Prod.mk.injEq]at h;exact⟨i0,rfl,h.1,h.2.1,h.2.2⟩
  obtain⟨hz,hs,hb⟩:=hq;obtain⟨z,hz0,hz1⟩:=Option.map_eq_some_iff.1 hz;have key:=Any8.slices_Grow_grow Tryz.growOp i0 z hi0 hz0 (by omega) none 0 0 n [] w (Nat.le_refl _) (by omega) (by rw [hb];omega) (by omega) (by simp) (fun _=>rfl) (fun a e=>by cases e);have hge:=grownCap_ge w (0+n) 0 (Tryz.growOp_ren.t 25);refine key.mono ?_;rintro e w' ⟨rfl,rfl⟩
  obtain⟨G',e1,e2,e3⟩:=HM.newObj (w:=w.drew) hU hM.drew (Tryz.growOp_ren.t 25) (Vs.Uv (G:=G) H.next (grownCap w (0+n) 0 (Tryz.growOp_ren.t 25)*7) _ (by
    show((#[]:Array Value)++Builtin.zeroCells z.cells (0+n -0)++Builtin.zeroCells z.cells (grownCap w (0+n) 0 (Tryz.growOp_ren.t 25) -(0+n))).size=_
    rw [Array.size_append,Array.size_append,als,als,hz1];simp only [Array.size_empty];omega))
  refine⟨_,_,_,G',rfl,Tr.Df w _,e1,Nat.le_succ _,e2,.dP H.next 0 0 _ 7 _ (Nat.lt_succ_self _) e3,[H.next],.inr ⟨H.next,_,List.replicate (grownCap w (0+n) 0 (Tryz.growOp_ren.t 25)*7) .any,rfl,rfl,Nat.zero_le _,Nat.lt_succ_self _,?_,?_⟩,?_,(HF.refl _ _).new,fun c3 hc=>hc.new⟩
  · show(if H.next=H.next then some _ else _)=_
    rw [if_pos rfl];rfl
  · rw [List.length_replicate,List.length_nil,Nat.sub_zero]
  · intro i hi;rw [List.mem_singleton.1 hi];exact .inr (Nat.le_refl _)
end Go.VL
end
section
set_option maxRecDepth 8000
set_option maxHeartbeats 4000000
namespace Go.VL
open Go.Proofs
def wD:Nat->Int->Int->(List Operator)->(List Str)->Int->Int->Option (List Operator)
  |0,_,_,_,_,_,_=>none
  |k+1,iC,fZ,ni,iO,bJ,mo=>
    cond (decide (mo<bJ)) (if 0<=mo then Option.bind (iO[mo.toNat]?) fun x3=>if(ni.length+1)*64<=1099511627776 then wD k iC fZ (ni++[(Operator.mk x3 0 iC fZ false 1 1)]) iO bJ (IntKind.wrap .i64 (mo+1))else none else none) (some (ni))
def K8:List Nat:=[7,9]++List.range' 12 12
theorem WJ: ∀(k:Nat) (iC:Int) (fZ:Int) (ni:List Operator) (iO:List Str) (bJ:Int) (mo:Int) (jN:Ck) (aC σ:Nat->PV) (H0 H:AH) (f0:Fr K8 aC σ) (hf0:HF [] H0 H) (sl:σ 0=(.int .i64 iC)/\σ 1=(.int .i64 fZ)/\σ 7=(.aB (ni.map Operator.cells) jN)/\σ 10=(.aB (iO.map aX) .unk)/\σ 11=(.int .i64 bJ)/\σ 12=(.int .i64 mo)) (F8:d9 H jN) (o:List Operator) (h:wD k iC fZ ni iO bJ mo=some o) (Q:Post) (q0: ∀(p:List Operator) (c0:Ck) (σ':Nat->PV) (H':AH),o=p->Fr K8 aC σ'->HF [] H0 H'->(σ' 7=(.aB (p.map Operator.cells) c0))->Q (.exit 0) σ' H'),W Tryz.prog (.loop QA) Q σ H:=by
  intro k
  induction k with
  |zero=>intro iC fZ ni iO bJ mo jN aC σ H0 H f0 hf0 sl F8 o h Q q0;simp only [wD,reduceCtorEq]at h
  |succ k ih=>
    intro iC fZ ni iO bJ mo jN aC σ H0 H f0 hf0 sl F8 o h Q q0;obtain⟨s0,s1,s7,s10,s11,s12⟩:=sl;have hle0:=hf0.1;unfold wD at h;refine bA (fun K hK=>aF ?_);unfold QA;rcases au h with⟨e1,h⟩|⟨e1,h⟩
    ·obtain⟨e2,h⟩:=aD h;obtain⟨x3,e4,h⟩:=aj h;obtain⟨e9,h⟩:=aD h;try refine ah ?_
     refine jV (f:=Operator.cells) Operator.row ni ([(Operator.mk x3 0 iC fZ false 1 1)]:List Operator) jN .exact av av eO (by first|exact e9|(simp only [List.length_cons,List.length_nil];exact e9)) (fun c5 H6 ok7 le aiL rl8=> ?_);have aiM:HF [] _ H6:=⟨le,fun i _ _=>aiL i⟩;try simp only [AH.aJ,AH.aK,AH.aL,AH.aM]at le
     try refine ah ?_
     refine hK _ _ ?_;exact ih iC fZ (ni++[(Operator.mk x3 0 iC fZ false 1 1)]) iO bJ (IntKind.wrap .i64 (mo+1)) c5 _ _ _ _ aO (by repeat (first|exact hf0|refine HF.new ?_|refine HF.dR ?_|refine HF.used ?_|refine HF.put (by first|(right;omega)|(left;simp only [List.mem_cons,true_or,or_true])) ?_|refine HF.via aiM (by first|exact fun i hi=>absurd hi List.not_mem_nil|(intro i hi;simp only [List.mem_cons,List.not_mem_nil,or_false]at hi⊢;first|exact .inl hi|omega)) ?_)) av eO _ h _ q0
    ·obtain rfl:=ak h;try refine ah ?_
     exact q0 _ jN _ _ rfl aO (by repeat (first|exact hf0|refine HF.new ?_|refine HF.dR ?_|refine HF.used ?_|refine HF.put (by first|(right;omega)|(left;simp only [List.mem_cons,true_or,or_true])) ?_)) av
def wE (k:Nat) (iC:Int) (fZ:Int) (Cn:List Str):Option (List Operator):=
  Option.bind (wD k iC fZ ([]:List Operator) Cn (Cn.length:Int) 0) (fun ig=>some ig)
theorem yJ {k:Nat} {iC:Int} {fZ:Int} {Cn:List Str} {c2:Ck} {r:List Operator} (h:wE k iC fZ Cn=some r):aG Tryz.prog 113 [(.int .i64 iC),(.int .i64 fZ),(.aB (Cn.map aX) c2)] (.aB (r.map Operator.cells) .unk):=by
  refine aG.lw (.same (.same (.aB .nil))) (aG.aR (bB.mem (.cons (.int _ _) (.cons (.int _ _) (.cons (bC cO _) .nil)))) (aI asg (by simp) (aF ?_)) (bC Operator.pu _));unfold wE at h;unfold akt;try refine ah ?_
  obtain⟨o12,Jk,h⟩:=aj h;refine WJ k iC fZ ([]:List Operator) Cn (Cn.length:Int) 0 .nil _ _ _ _ (Fr.refl _ _) (HF.refl _ _) av eO _ Jk _ ?_
  ·rintro ig c18 σ' H17 eo vS aiN qH;rw [eo]at h;have le:=aiN.1;try simp only [AH.aJ,AH.aK,AH.aL,AH.aM]at le
   obtain rfl:=ak h;try refine ah ?_
   exact(jr Operator.pu _ _)
def wF:Nat->Int->Int->Bool->(List Operator)->(List Str)->Int->Int->Option (List Operator)
  |0,_,_,_,_,_,_,_=>none
  |k+1,iC,fZ,oO,CZ,mo,gy,I4=>
    cond (decide (I4<gy)) (if 0<=I4 then Option.bind (mo[I4.toNat]?) fun x3=>if(CZ.length+1)*64<=1099511627776 then wF k iC fZ oO (CZ++[(Operator.mk x3 1 iC fZ oO 2 2)]) mo gy (IntKind.wrap .i64 (I4+1))else none else none) (some (CZ))
def K9:List Nat:=[9,11]++List.range' 14 13
theorem WK: ∀(k:Nat) (iC:Int) (fZ:Int) (oO:Bool) (CZ:List Operator) (mo:List Str) (gy:Int) (I4:Int) (xE:Ck) (aC σ:Nat->PV) (H0 H:AH) (f0:Fr K9 aC σ) (hf0:HF [] H0 H) (sl:σ 0=(.int .i64 iC)/\σ 1=(.int .i64 fZ)/\σ 2=(.bool oO)/\σ 9=(.aB (CZ.map Operator.cells) xE)/\σ 12=(.aB (mo.map aX) .unk)/\σ 13=(.int .i64 gy)/\σ 14=(.int .i64 I4)) (aa3:d9 H xE) (o:List Operator) (h:wF k iC fZ oO CZ mo gy I4=some o) (Q:Post) (q0: ∀(p:List Operator) (c0:Ck) (σ':Nat->PV) (H':AH),o=p->Fr K9 aC σ'->HF [] H0 H'->(σ' 9=(.aB (p.map Operator.cells) c0))->Q (.exit 0) σ' H'),W Tryz.prog (.loop QB) Q σ H:=by
  intro k
  induction k with
  |zero=>intro iC fZ oO CZ mo gy I4 xE aC σ H0 H f0 hf0 sl aa3 o h Q q0;simp only [wF,reduceCtorEq]at h
  |succ k ih=>
    intro iC fZ oO CZ mo gy I4 xE aC σ H0 H f0 hf0 sl aa3 o h Q q0;obtain⟨s0,s1,s2,s9,s12,s13,s14⟩:=sl;have hle0:=hf0.1;unfold wF at h;refine bA (fun K hK=>aF ?_);unfold QB;rcases au h with⟨e1,h⟩|⟨e1,h⟩
    ·obtain⟨e2,h⟩:=aD h;obtain⟨x3,e4,h⟩:=aj h;obtain⟨e9,h⟩:=aD h;try refine ah ?_
     refine jV (f:=Operator.cells) Operator.row CZ ([(Operator.mk x3 1 iC fZ oO 2 2)]:List Operator) xE .exact av av eO (by first|exact e9|(simp only [List.length_cons,List.length_nil];exact e9)) (fun c5 H6 ok7 le aiL rl8=> ?_);have aiM:HF [] _ H6:=⟨le,fun i _ _=>aiL i⟩;try simp only [AH.aJ,AH.aK,AH.aL,AH.aM]at le
     try refine ah ?_
     refine hK _ _ ?_;exact ih iC fZ oO (CZ++[(Operator.mk x3 1 iC fZ oO 2 2)]) mo gy (IntKind.wrap .i64 (I4+1)) c5 _ _ _ _ aO (by repeat (first|exact hf0|refine HF.new ?_|refine HF.dR ?_|refine HF.used ?_|refine HF.put (by first|(right;omega)|(left;simp only [List.mem_cons,true_or,or_true])) ?_|refine HF.via aiM (by first|exact fun i hi=>absurd hi List.not_mem_nil|(intro i hi;simp only [List.mem_cons,List.not_mem_nil,or_false]at hi⊢;first|exact .inl hi|omega)) ?_)) av eO _ h _ q0
    ·obtain rfl:=ak h;try refine ah ?_
     exact q0 _ xE _ _ rfl aO (by repeat (first|exact hf0|refine HF.new ?_|refine HF.dR ?_|refine HF.used ?_|refine HF.put (by first|(right;omega)|(left;simp only [List.mem_cons,true_or,or_true])) ?_)) av
def gI (k:Nat) (iC:Int) (fZ:Int) (oO:Bool) (Co:List Str):Option (List Operator):=
  Option.bind (wF k iC fZ oO ([]:List Operator) Co (Co.length:Int) 0) (fun ig=>some ig)
theorem fM {k:Nat} {iC:Int} {fZ:Int} {oO:Bool} {Co:List Str} {c3:Ck} {r:List Operator} (h:gI k iC fZ oO Co=some r):aG Tryz.prog 114 [(.int .i64 iC),(.int .i64 fZ),(.bool oO),(.aB (Co.map aX) c3)] (.aB (r.map Operator.cells) .unk):=by
  refine aG.lw (.same (.same (.same (.aB .nil)))) (aG.aR (bB.mem (.cons (.int _ _) (.cons (.int _ _) (.cons (.bool _) (.cons (bC cO _) .nil))))) (aI akv (by simp) (aF ?_)) (bC Operator.pu _));unfold gI at h;unfold aku;try refine ah ?_
  obtain⟨o12,Jk,h⟩:=aj h;refine WK k iC fZ oO ([]:List Operator) Co (Co.length:Int) 0 .nil _ _ _ _ (Fr.refl _ _) (HF.refl _ _) av eO _ Jk _ ?_
  ·rintro ig c18 σ' H17 eo vS aiN qH;rw [eo]at h;have le:=aiN.1;try simp only [AH.aJ,AH.aK,AH.aL,AH.aM]at le
   obtain rfl:=ak h;try refine ah ?_
   exact(jr Operator.pu _ _)
def q9:Nat->Int->(List (List Operator))->Int->Option Int
  |0,_,_,_=>none
  |k+1,AL,pR,bJ=>
    cond (decide (bJ<24)) (if 0<=bJ then Option.bind (pR[bJ.toNat]?) fun x50=>cond (decide ((IntKind.wrap .i64 (AL+(x50.length:Int)))<0)) (none) (q9 k (IntKind.wrap .i64 (AL+(x50.length:Int))) pR (IntKind.wrap .i64 (bJ+1)))else none) (some (AL))
def F9:List Nat:=[3,5]++List.range' 11 12
theorem OO: ∀(k:Nat) (AL:Int) (pR:List (List Operator)) (bJ:Int) (Kv:Ck) (aC σ:Nat->PV) (H:AH) (f0:Fr F9 aC σ) (sl:σ 3=(.int .i64 AL)/\σ 9=(.aB (pR.map (oJ Operator.cells)) Kv)/\σ 10=(.int .i64 24)/\σ 11=(.int .i64 bJ)) (o:Int) (h:q9 k AL pR bJ=some o) (Q:Post) (q0: ∀(p:Int) (σ':Nat->PV),o=p->Fr F9 aC σ'->(σ' 3=(.int .i64 p))->Q (.exit 0) σ' H),W Tryz.prog (.loop QC) Q σ H:=by
  intro k
  induction k with
  |zero=>intro AL pR bJ Kv aC σ H f0 sl o h Q q0;simp only [q9,reduceCtorEq]at h
  |succ k ih=>
    intro AL pR bJ Kv aC σ H f0 sl o h Q q0;obtain⟨s3,s9,s10,s11⟩:=sl;unfold q9 at h;refine bA (fun K hK=>aF ?_);unfold QC;rcases au h with⟨e48,h⟩|⟨e48,h⟩
    ·obtain⟨e49,h⟩:=aD h;obtain⟨x50,e51,h⟩:=aj h;rcases au h with⟨e52,h⟩|⟨e52,h⟩
     ·cases h
     ·try refine dA ?_
      refine hK _ _ ?_;exact ih (IntKind.wrap .i64 (AL+(x50.length:Int))) pR (IntKind.wrap .i64 (bJ+1)) Kv _ _ _ aO fD _ h _ q0
    ·obtain rfl:=ak h;try refine dA ?_
     exact q0 _ _ rfl aO fD
def ru:Nat->(List Operator)->(List (List Operator))->Int->Option (List Operator)
  |0,_,_,_=>none
  |k+1,nk,iq,gF=>
    cond (decide (gF<24)) (if 0<=gF then Option.bind (iq[gF.toNat]?) fun x71=>if 0<x71.length/\(nk.length+x71.length)*64<=1099511627776 then ru k (nk++x71) iq (IntKind.wrap .i64 (gF+1))else none else none) (some (nk))
def Ga:List Nat:=[6,8]++List.range' 27 8
theorem OP: ∀(k:Nat) (sG:PV) (sH:List Nat) (M:List Nat) (nk:List Operator) (iq:List (List Operator)) (gF:Int) (Hy:Ck) (aC σ:Nat->PV) (H0 H:AH) (f0:Fr Ga aC σ) (hf0:HF M H0 H) (sl:σ 6=sG/\σ 25=(.aB (iq.map (oJ Operator.cells)) Hy)/\σ 26=(.int .i64 24)/\σ 27=(.int .i64 gF)) (sI:aS H Operator.cells 7 nk sG sH) (uJ:Nw H0 M sH) (o:List Operator) (h:ru k nk iq gF=some o) (Q:Post) (q0: ∀(p:List Operator) (v0:PV) (tY:List Nat) (σ':Nat->PV) (H':AH),o=p->Fr Ga aC σ'->HF M H0 H'->(σ' 6=v0)->aS H' Operator.cells 7 p v0 tY->Nw H0 M tY->Q (.exit 2) σ' H'),W Tryz.prog (.loop QD) Q σ H:=by
  intro k
  induction k with
  |zero=>intro sG sH M nk iq gF Hy aC σ H0 H f0 hf0 sl sI uJ o h Q q0;simp only [ru,reduceCtorEq]at h
  |succ k ih=>
    intro sG sH M nk iq gF Hy aC σ H0 H f0 hf0 sl sI uJ o h Q q0;obtain⟨s6,O6,X5,X9⟩:=sl;have hle0:=hf0.1;unfold ru at h;refine bA (fun K hK=>aF ?_);unfold QD;rcases au h with⟨e69,h⟩|⟨e69,h⟩
    ·obtain⟨La,h⟩:=aD h;obtain⟨x71,MU,h⟩:=aj h;obtain⟨Jo,h⟩:=aD h;try refine dA ?_
     refine MO (f:=Operator.cells) (v:=sG) Operator.row nk (x71:List Operator) .unk fD (by repeat (first|exact sI|apply aS.new|refine aS.put ?_ (fun hm=>by have:=aS.lt sI _ hm;omega))) fD Jo.1 Jo.2 (fun v74 as8 H76 r77 av1 aqn aip=> ?_);have le:=aqn.1;try simp only [AH.aJ,AH.aK,AH.aL,AH.aM]at le
     try refine dA ?_
     refine hK _ _ ?_;exact ih v74 as8 M (nk++x71) iq (IntKind.wrap .i64 (gF+1)) Hy _ _ _ _ aO (by repeat (first|exact hf0|refine HF.new ?_|refine HF.dR ?_|refine HF.used ?_|refine HF.put (by first|(right;omega)|(left;simp only [List.mem_cons,true_or,or_true])) ?_|refine HF.via aqn uJ ?_)) fD (by repeat (first|exact r77|apply aS.new|refine aS.put ?_ (fun hm=>by have:=aS.lt r77 _ hm;omega))) (Nw.trans uJ bE av1) _ h _ q0
    ·obtain rfl:=ak h;try refine dA ?_
     exact q0 _ sG sH _ _ rfl aO (by repeat (first|exact hf0|refine HF.new ?_|refine HF.dR ?_|refine HF.used ?_|refine HF.put (by first|(right;omega)|(left;simp only [List.mem_cons,true_or,or_true])) ?_)) fD (by repeat (first|exact sI|apply aS.new|refine aS.put ?_ (fun hm=>by have:=aS.lt sI _ hm;omega))) uJ
def xG:Nat->(List Operator)->Int->Int->Option (List Operator)
  |0,_,_,_=>none
  |k+1,mE,I5,mq=>
    cond (decide (mq<I5)) (if 0<=mq then Option.bind (mE[mq.toNat]?) fun x95=>cond (x95.text==([92,88]:Str)) (xG k (mE.set mq.toNat (Operator.mk x95.text x95.fix x95.low x95.high x95.left x95.least 4)) I5 (IntKind.wrap .i64 (mq+1))) (xG k mE I5 (IntKind.wrap .i64 (mq+1)))else none) (some (mE))
def Pz:List Nat:=[4]++List.range' 80 14
theorem aa4: ∀(k:Nat) (zG:PV) (wG:List Nat) (M:List Nat) (mE:List Operator) (I5:Int) (mq:Int) (aC σ:Nat->PV) (H0 H:AH) (f0:Fr Pz aC σ) (hf0:HF M H0 H) (sl:σ 3=zG/\σ 79=(.int .i64 I5)/\σ 80=(.int .i64 mq)) (xH:aS H Operator.cells 7 mE zG wG) (Cq:Nw H0 M wG) (o:List Operator) (h:xG k mE I5 mq=some o) (Q:Post) (q0: ∀(p:List Operator) (v0:PV) (tY:List Nat) (σ':Nat->PV) (H':AH),o=p->Fr Pz aC σ'->HF M H0 H'->(σ' 3=v0)->aS H' Operator.cells 7 p v0 tY->Nw H0 M tY->Q (.exit 0) σ' H'),W Tryz.prog (.loop Vt) Q σ H:=by
  intro k
  induction k with
  |zero=>intro zG wG M mE I5 mq aC σ H0 H f0 hf0 sl xH Cq o h Q q0;simp only [xG,reduceCtorEq]at h
  |succ k ih=>
    intro zG wG M mE I5 mq aC σ H0 H f0 hf0 sl xH Cq o h Q q0;obtain⟨s3,s79,s80⟩:=sl;have hle0:=hf0.1;unfold xG at h;refine bA (fun K hK=>aF ?_);unfold Vt;rcases au h with⟨Jp,h⟩|⟨Jp,h⟩
    ·obtain⟨SL,h⟩:=aD h;obtain⟨x95,Pj,h⟩:=aj h;obtain⟨w97,SN,aqo,hil,w99,hC,hL,hD,hI⟩:=aS.content xH Pj;have az0:=ne_next hil;have az1:=aU hil;have az2:qG 7 zG (.int .i64 mq)=some (.ref w97 (mq.toNat*7)):=by simpa using hI .i64 mq (by first|omega|decide) (by first|rfl|omega)
     have ay0:SN[mq.toNat*7]? =some (.str x95.text):=by simpa using hC 0 _ rfl
     have ay1:SN[mq.toNat*7+1]? =some (.int .i64 x95.fix):=by simpa using hC 1 _ rfl
     have ay2:SN[mq.toNat*7+2]? =some (.int .i64 x95.low):=by simpa using hC 2 _ rfl
     have ay3:SN[mq.toNat*7+3]? =some (.int .i64 x95.high):=by simpa using hC 3 _ rfl
     have ay4:SN[mq.toNat*7+4]? =some (.bool x95.left):=by simpa using hC 4 _ rfl
     have ay5:SN[mq.toNat*7+5]? =some (.int .i64 x95.least):=by simpa using hC 5 _ rfl
     have ay6:SN[mq.toNat*7+6]? =some (.int .i64 x95.most):=by simpa using hC 6 _ rfl
     have az3:mq.toNat*7+7<=SN.length:=by simpa using hL 7 (Nat.le_refl _)
     have az4:List.take 7 (List.drop (mq.toNat*7) SN)=Operator.cells x95:=hD;clear hC hL hD hI;rcases au h with⟨Ea,h⟩|⟨Ea,h⟩
     ·try refine dA ?_
      refine zF (f:=Operator.cells) (id:=w97) (o:=mq.toNat*7+6) (i:=mq.toNat) (j:=6) (a:=x95) (y:=(Operator.mk x95.text x95.fix x95.low x95.high x95.left x95.least 4)) (vs:=[(.int .i64 4)]) fD aqo (by omega) (by repeat (first|exact xH|apply aS.new|refine aS.put ?_ (fun hm=>by have:=aS.lt xH _ hm;omega))) Pj fD rfl rfl (by first|decide|(simp only [List.length_cons,List.length_nil];omega)) rfl (fun az5 aqp Zn ay7=> ?_);have le:=Zn.1;try simp only [AH.aJ,AH.aK,AH.aL,AH.aM]at le
      try refine dA ?_
      refine hK _ _ ?_;exact ih zG wG M (mE.set mq.toNat (Operator.mk x95.text x95.fix x95.low x95.high x95.left x95.least 4)) I5 (IntKind.wrap .i64 (mq+1)) _ _ _ _ aO (by repeat (first|exact hf0|refine HF.new ?_|refine HF.dR ?_|refine HF.used ?_|refine HF.put (by first|(right;omega)|(left;simp only [List.mem_cons,true_or,or_true])) ?_|refine HF.via Zn Cq ?_)) fD (by repeat (first|exact aqp|apply aS.new|refine aS.put ?_ (fun hm=>by have:=aS.lt aqp _ hm;omega))) Cq _ h _ q0
     ·try refine dA ?_
      refine hK _ _ ?_;exact ih zG wG M mE I5 (IntKind.wrap .i64 (mq+1)) _ _ _ _ aO (by repeat (first|exact hf0|refine HF.new ?_|refine HF.dR ?_|refine HF.used ?_|refine HF.put (by first|(right;omega)|(left;simp only [List.mem_cons,true_or,or_true])) ?_)) fD (by repeat (first|exact xH|apply aS.new|refine aS.put ?_ (fun hm=>by have:=aS.lt xH _ hm;omega))) Cq _ h _ q0
    ·obtain rfl:=ak h;try refine dA ?_
     exact q0 _ zG wG _ _ rfl aO (by repeat (first|exact hf0|refine HF.new ?_|refine HF.dR ?_|refine HF.used ?_|refine HF.put (by first|(right;omega)|(left;simp only [List.mem_cons,true_or,or_true])) ?_)) fD (by repeat (first|exact xH|apply aS.new|refine aS.put ?_ (fun hm=>by have:=aS.lt xH _ hm;omega))) Cq
def Fb (k:Nat):Option (List Operator):=
  Option.bind (wE k 4 4 [([126]:Str)]) fun p2=>Option.bind (wE k 4 15 [([69,78,65,66,76,69,68]:Str),([85,78,67,72,65,78,71,69,68]:Str),([91,93]:Str),([60,62]:Str)]) fun p4=>Option.bind (wE k 8 8 [([83,85,66,83,69,84]:Str),([85,78,73,79,78]:Str)]) fun p6=>Option.bind (wE k 9 9 [([68,79,77,65,73,78]:Str)]) fun p8=>Option.bind (wE k 12 12 [([45,46]:Str)]) fun fE=>Option.bind (gI k 1 1 false [([61,62]:Str)]) fun jW=>Option.bind (gI k 2 2 false [([60,61,62]:Str),([126,62]:Str)]) fun ig=>Option.bind (gI k 3 3 true [([47,92]:Str),([92,47]:Str)]) fun p16=>Option.bind (gI k 5 5 false [([61]:Str),([35]:Str),([60]:Str),([60,61]:Str),([62]:Str),([62,61]:Str),([92,105,110]:Str),([92,110,111,116,105,110]:Str),([92,115,117,98,115,101,116,101,113]:Str),([92,115,113,115,117,98,115,101,116,101,113]:Str)]) fun mR=>Option.bind (gI k 6 6 true [([64,64]:Str)]) fun lu=>Option.bind (gI k 7 7 false [([58,62]:Str)]) fun zB=>Option.bind (gI k 5 14 true [([92,99,100,111,116]:Str)]) fun lq=>Option.bind (gI k 8 8 true [([92,99,117,112]:Str),([92,99,97,112]:Str)]) fun p26=>Option.bind (gI k 8 8 false [([92]:Str)]) fun p28=>Option.bind (gI k 9 9 false [([46,46]:Str)]) fun p30=>Option.bind (gI k 10 10 true [([43]:Str),([40,43,41]:Str)]) fun p32=>Option.bind (gI k 10 11 false [([37]:Str)]) fun p34=>Option.bind (gI k 10 13 false [([92,88]:Str)]) fun p36=>Option.bind (gI k 11 11 true [([45]:Str),([40,45,41]:Str)]) fun p38=>Option.bind (gI k 13 13 true [([42]:Str)]) fun p40=>Option.bind (gI k 13 13 false [([92,100,105,118]:Str)]) fun p42=>Option.bind (gI k 13 13 true [([92,111]:Str)]) fun p44=>Option.bind (gI k 14 14 false [([94]:Str)]) fun p46=>Option.bind (q9 k 0 [p2,p4,p6,p8,fE,jW,ig,p16,mR,lu,zB,lq,p26,p28,p30,p32,p34,p36,p38,p40,p42,p44,p46,[(Operator.mk ([39]:Str) 2 15 15 false 1 1)]] 0) (fun p55=>if 0<p55/\p55<=1000000 then Option.bind (ru k ([]:List Operator) [p2,p4,p6,p8,fE,jW,ig,p16,mR,lu,zB,lq,p26,p28,p30,p32,p34,p36,p38,p40,p42,p44,p46,[(Operator.mk ([39]:Str) 2 15 15 false 1 1)]] 0) (fun Lb=>Option.bind (xG k Lb (Lb.length:Int) 0) (fun aqr=>some aqr))else none)
theorem agQ {k:Nat} {r:List Operator} (h:Fb k=some r):aG Tryz.prog 65 [] (.aB (r.map Operator.cells) .unk):=by
  refine aG.aR (bB.mem .nil) (aI avh (by simp) (aF ?_)) (bC Operator.pu _);unfold Fb at h;unfold ao0;obtain⟨p2,e1,h⟩:=aj h;try refine dA ?_
  refine aA (yJ e1) ?_;obtain⟨p4,e3,h⟩:=aj h;try refine dA ?_
  refine aA (yJ e3) ?_;obtain⟨p6,e5,h⟩:=aj h;try refine dA ?_
  refine aA (yJ e5) ?_;obtain⟨p8,e7,h⟩:=aj h;try refine dA ?_
  refine aA (yJ e7) ?_;obtain⟨fE,e9,h⟩:=aj h;try refine dA ?_
  refine aA (yJ e9) ?_;obtain⟨jW,e11,h⟩:=aj h;try refine dA ?_
  refine aA (fM e11) ?_;obtain⟨ig,e13,h⟩:=aj h;try refine dA ?_
  refine aA (fM e13) ?_;obtain⟨p16,e15,h⟩:=aj h;try refine dA ?_
  refine aA (fM e15) ?_;obtain⟨mR,e17,h⟩:=aj h;try refine dA ?_
  refine aA (fM e17) ?_;obtain⟨lu,e19,h⟩:=aj h;try refine dA ?_
  refine aA (fM e19) ?_;obtain⟨zB,e21,h⟩:=aj h;try refine dA ?_
  refine aA (fM e21) ?_;obtain⟨lq,e23,h⟩:=aj h;try refine dA ?_
  refine aA (fM e23) ?_;obtain⟨p26,e25,h⟩:=aj h;try refine dA ?_
  refine aA (fM e25) ?_;obtain⟨p28,e27,h⟩:=aj h;try refine dA ?_
  refine aA (fM e27) ?_;obtain⟨p30,e29,h⟩:=aj h;try refine dA ?_
  refine aA (fM e29) ?_;obtain⟨p32,e31,h⟩:=aj h;try refine dA ?_
  refine aA (fM e31) ?_;obtain⟨p34,e33,h⟩:=aj h;try refine dA ?_
  refine aA (fM e33) ?_;obtain⟨p36,e35,h⟩:=aj h;try refine dA ?_
  refine aA (fM e35) ?_;obtain⟨p38,e37,h⟩:=aj h;try refine dA ?_
  refine aA (fM e37) ?_;obtain⟨p40,e39,h⟩:=aj h;try refine dA ?_
  refine aA (fM e39) ?_;obtain⟨p42,e41,h⟩:=aj h;try refine dA ?_
  refine aA (fM e41) ?_;obtain⟨p44,e43,h⟩:=aj h;try refine dA ?_
  refine aA (fM e43) ?_;obtain⟨p46,e45,h⟩:=aj h;try refine dA ?_
  refine aA (fM e45) ?_;try refine dA ?_
  refine aI ash (by simp) (aF ?_);unfold akw;try refine dA ?_
  obtain⟨o53,h54,h⟩:=aj h;refine OO k 0 [p2,p4,p6,p8,fE,jW,ig,p16,mR,lu,zB,lq,p26,p28,p30,p32,p34,p36,p38,p40,p42,p44,p46,[(Operator.mk ([39]:Str) 2 15 15 false 1 1)]] 0 .exact _ _ _ (Fr.refl _ _) fD _ h54 _ ?_
  ·rintro p55 σ' eo aps s59;rw [eo]at h;have s60:σ' 0=(.aB ([p2,p4,p6,p8,fE,jW,ig,p16,mR,lu,zB,lq,p26,p28,p30,p32,p34,p36,p38,p40,p42,p44,p46,[(Operator.mk ([39]:Str) 2 15 15 false 1 1)]].map (oJ Operator.cells)) .exact):=(aps 0 (by decide)).trans fD;obtain⟨e61,h⟩:=aD h;try refine dA ?_
   refine aql (f:=Operator.cells) (xs:=([]:List Operator)) (agO p55 e61) (fun v62 alx H64 r65 az6 av2 ain=> ?_);have le:=av2.1;try simp only [AH.aJ,AH.aK,AH.aL,AH.aM]at le
   try refine dA ?_
   obtain⟨o81,h82,h⟩:=aj h;refine OP k v62 alx (alx++[]) ([]:List Operator) [p2,p4,p6,p8,fE,jW,ig,p16,mR,lu,zB,lq,p26,p28,p30,p32,p34,p36,p38,p40,p42,p44,p46,[(Operator.mk ([39]:Str) 2 15 15 false 1 1)]] 0 .exact _ _ _ _ (Fr.refl _ _) (HF.refl _ _) fD (by repeat (first|exact r65|apply aS.new|refine aS.put ?_ (fun hm=>by have:=aS.lt r65 _ hm;omega))) (fun i hi=>Or.inl (by simp only [List.mem_append,List.mem_cons,hi,true_or,or_true])) _ h82 _ ?_
   ·rintro Lb v87 aly σ' H86 eo az7 av3 s91 r89 az8;rw [eo]at h;have le:=av3.1;try simp only [AH.aJ,AH.aK,AH.aL,AH.aM]at le
    have w92:=aS.avW r89;try refine dA ?_
    obtain⟨o111,h112,h⟩:=aj h;refine aa4 k v87 aly (aly++[]) Lb (Lb.length:Int) 0 _ _ _ _ (Fr.refl _ _) (HF.refl _ _) fD (by repeat (first|exact r89|apply aS.new|refine aS.put ?_ (fun hm=>by have:=aS.lt r89 _ hm;omega))) (fun i hi=>Or.inl (by simp only [List.mem_append,List.mem_cons,hi,true_or,or_true])) _ h112 _ ?_
    ·rintro aqr v117 ayl σ' av0 eo ay8 as9 az9 aqt ay9;rw [eo]at h;have le:=as9.1;try simp only [AH.aJ,AH.aK,AH.aL,AH.aM]at le
     obtain rfl:=ak h;try refine dA ?_
     exact(aS.fz Operator.pu (by repeat (first|exact aqt|apply aS.new|refine aS.put ?_ (fun hm=>by have:=aS.lt aqt _ hm;omega))))
end Go.VL
end
section
namespace Go.VL
open Go.Proofs Go.RowKit
def ow:List Operator:=(Fb 100).getD []
theorem agR:Fb 100=some ow:=by
  have h:(Fb 100).isSome=true:=by kernel_rfl
  rw [ow];cases h1:Fb 100 with
  |none=>rw [h1]at h;cases h
  |some r=>rfl
theorem aqu:aG Tryz.prog 65 [] (.aB (ow.map Operator.cells) .unk):=agQ agR
end Go.VL
end
section
set_option maxRecDepth 8000
set_option maxHeartbeats 4000000
namespace Go.VL
open Go.Proofs
def kI (k:Nat) (jy:Str):Option (Operator×Bool):=
  Option.bind (fF k ow jy) fun p2=>cond (decide (p2<0)) (some ((Operator.mk [] 0 0 0 false 0 0),false)) (if 0<=p2 then Option.bind (ow[p2.toNat]?) fun x5=>some (x5,true)else none)
theorem qj {k:Nat} {jy:Str} {r:Operator×Bool} (h:kI k jy=some r):aG Tryz.prog 63 [(.str jy)] (.dN [(.agg (Operator.cells r.1)),(.bool r.2)]):=by
  refine aG.aR (bB.mem (.cons (.str _) .nil)) (aI avf (by simp) (aF ?_)) (.dN _ (bB.mem (.cons (.agg _ (Operator.pu _)) (.cons (.bool _) .nil))));unfold kI at h;unfold aoY;try refine ah ?_
  refine aA (aqu) ?_;obtain⟨p2,e1,h⟩:=aj h;try refine ah ?_
  refine Mh (qW e1) (.cons (jr Operator.pu _ _) (.cons (arW (.cons (anT av (.cons (.pure _ (.str _)) .nil)) .nil)) .nil)) (.cons (bC Operator.pu _) (.cons (.fn _ _ _ (bB.mem .nil) (bB.mem (.cons (.fq _ _ (bB.mem (.cons (.str _) .nil))) .nil))) .nil)) (.int _ _) ?_;rcases au h with⟨e3,h⟩|⟨e3,h⟩
  ·obtain rfl:=ak h;try refine ah ?_
   exact(dG (.cons (dH (.cons (.pure _ (.str _)) (.cons (.pure _ (.int _ _)) (.cons (.pure _ (.int _ _)) (.cons (.pure _ (.int _ _)) (.cons (.pure _ (.bool _)) (.cons (.pure _ (.int _ _)) (.cons (.pure _ (.int _ _)) .nil)))))))) (.cons (.pure _ (.bool _)) .nil)))
  ·obtain⟨e4,h⟩:=aD h;obtain⟨x5,e6,h⟩:=aj h;obtain rfl:=ak h;try refine ah ?_
   exact(dG (.cons (dH (.cons (.pure _ (.str _)) (.cons (.pure _ (.int _ _)) (.cons (.pure _ (.int _ _)) (.cons (.pure _ (.int _ _)) (.cons (.pure _ (.bool _)) (.cons (.pure _ (.int _ _)) (.cons (.pure _ (.int _ _)) .nil)))))))) (.cons (.pure _ (.bool _)) .nil)))
end Go.VL
end
section
set_option maxRecDepth 8000
set_option maxHeartbeats 4000000
namespace Go.VL
open Go.Proofs
def Ol (x_0:Int) (y_1:Int):Option (Int×Int):=
  if(0<=x_0/\x_0<18446744073709551616)/\(0<=y_1/\y_1<18446744073709551616)then some ((Oj x_0 y_1).1,(Oj x_0 y_1).2)else none
theorem adM {x_0:Int} {y_1:Int} {r:Int×Int} (h:Ol x_0 y_1=some r):aG Tryz.prog 147 [(.int .u64 x_0),(.int .u64 y_1)] (.dN [(.int .u64 r.1),(.int .u64 r.2)]):=by
  refine aG.aR (bB.mem (.cons (.int _ _) (.cons (.int _ _) .nil))) (aI asB (by simp) (aF ?_)) (.dN _ (bB.mem (.cons (.int _ _) (.cons (.int _ _) .nil))));unfold Ol at h;unfold akN;obtain⟨e1,h⟩:=aD h;try refine ah ?_
  refine aA (amM x_0 y_1 (by assumption)) ?_;obtain rfl:=ak h;try refine ah ?_
  exact(dG (.cons (.pure _ (.int _ _)) (.cons (.pure _ (.int _ _)) .nil)))
end Go.VL
end
section
namespace Go.VL
open Go.Proofs Go.RowKit
theorem j6 {P:Program} {K:(Nat->PV)->AH->Prop} {σ:Nat->PV} {H:AH} {d:Option Nat} {k:RK} {l:List (aV×Bool)} (p:PV) (h: ∀H',rop k σ H'=some p)
    (hn:iR P (fun _=>True) l K (upd σ d p) H):iR P (fun _=>True) ((⟨d,.r k,none⟩,false)::l) K σ H:=by
  unfold iR;refine .inr ⟨trivial,p,fun H' _=> ?_,hn⟩;show(match rop k σ H' with|some q=>(q=p/\H'=H')|none=>False)
  rw [h H'];exact⟨rfl,rfl⟩
theorem aa5: ∀l:List PV,(l.map fun c=>[c]).flatten=l
  |[]=>rfl
  |a::l=>by rw [List.map_cons,List.flatten_cons,aa5 l];rfl
theorem SQ (l rest:List PV):chunks 1 l.length (l++rest)=l.map fun c=>[c]:=by
  have h:=F6 (sz:=1) (l.map fun c=>[c]) rest (by simp);rw [List.length_map,aa5]at h;exact h
theorem wH (x:PV): ∀m,(List.replicate m [x]).flatten=List.replicate m x
  |0=>rfl
  |m+1=>by rw [List.replicate_succ,List.flatten_cons,wH x m];rfl
theorem aqv (x:Int) (id n:Nat) (H0:AH) (Q:Post) (hn:n<=1000000)
    (hx: ∀σ' H',σ' 7= .dP id 0 n n 1->H'.obj id=some (List.replicate n (.int .i64 x))->H'.next=H0.next->(∀i,i≠id->H'.obj i=H0.obj i)->(∀k,H'.live k=H0.live k)->Q (.exit 0) σ' H'):
    ∀(d m:Nat) (σ:Nat->PV) (H:AH) (rest:List PV),n -m<=d->m<=n->(m=0->n=0)->σ 7= .dP id 0 n n 1->σ 8= .int .i64 m->H.obj id=some (List.replicate m (.int .i64 x)++rest)->rest.length=n -m->
      H.next=H0.next->(∀i,i≠id->H.obj i=H0.obj i)->(∀k,H.live k=H0.live k)->W Tryz.prog (.loop N9) Q σ H:=by
  intro d
  induction d with
  |zero=>
    intro m σ H rest hd hm h0 h7 h8 ho hr h1 h2 h3;have e:m=n:=by omega
    subst e;have c1:decide ((m:Int)<(m:Int))=false:=decide_eq_false (by omega);refine bA (fun K hK=>aF ?_);unfold N9;simp -implicitDefEqProofs only [go_sem,↓reduceIte,Nat.reduceEqDiff,h7,h8,c1];have hr0:rest=[]:=List.eq_nil_of_length_eq_zero (by omega);subst hr0;refine hx _ _ ?_ (by rw [ho,List.append_nil]) h1 h2 h3;simp only [mK,Nat.reduceEqDiff,↓reduceIte,h7]
  |succ d ih=>
    intro m σ H rest hd hm h0 h7 h8 ho hr h1 h2 h3;by_cases hmn:m=n
    · exact ih m σ H rest (by omega) hm h0 h7 h8 ho hr h1 h2 h3
    have c1:decide ((m:Int)<(n:Int))=true:=decide_eq_true (by omega);refine bA (fun K hK=>aF ?_);unfold N9;simp -implicitDefEqProofs only [go_sem,↓reduceIte,Nat.reduceEqDiff,h7,h8,c1];refine⟨fun _=>True,trivial,?_⟩;refine j6 (.int .i64 m) (fun H'=>by simp [rop,AE.ev,upd,h7,h8]) ?_;refine j6 (.dP id 0 n n 1) (fun H'=>by simp [rop,AE.ev,upd,h7,h8]) ?_;refine j6 (.int .i64 m) (fun H'=>by simp [rop,AE.ev,upd,h7,h8]) ?_;refine j6 (.dP id m (n -m) (n -m) 1) (fun H'=>by simp [rop,AE.ev,upd,tC,nX,h7,h8];omega) ?_;refine j6 (.dP id 0 n n 1) (fun H'=>by simp [rop,AE.ev,upd,h7,h8]) ?_;refine j6 (.int .i64 m) (fun H'=>by simp [rop,AE.ev,upd,h7,h8]) ?_;refine j6 (.dP id 0 m n 1) (fun H'=>by simp [rop,AE.ev,upd,tC,nX,h7,h8];omega) ?_;have hch:chunks 1 m (List.replicate m (.int .i64 x)++rest)=List.replicate m [.int .i64 x]:=by
      have h:=SQ (List.replicate m (.int .i64 x)) rest;rw [List.length_replicate,List.map_replicate]at h;exact h
    unfold iR;refine .inr ⟨trivial,.int .i64 (min m (n -m):Nat),H.put id (List.replicate (m+min m (n -m)) (.int .i64 x)++rest.drop (min m (n -m))),?_,trivial,?_⟩
    · have hy:rowOf 1 H (PV.dP id 0 m n 1)=some (List.replicate m [.int .i64 x]):=by
        have hl:0+m*1<=(List.replicate m (PV.int .i64 x)++rest).length:=by rw [List.length_append,List.length_replicate];omega
        simp only [rowOf,ho];rw [if_pos ⟨trivial,hl⟩,List.drop_zero,hch]
      have hsz:qJ 1 (List.replicate m [PV.int .i64 x]):=fun cs hcs=>by
        rw [(List.mem_replicate.1 hcs).2];exact⟨rfl,fun c hc=>by rw [List.mem_singleton.1 hc];rfl⟩
      have hle:m+(n -m)*1<=(List.replicate m (PV.int .i64 x)++rest).length:=by rw [List.length_append,List.length_replicate];omega
      have hput:putCells (List.replicate m (PV.int .i64 x)++rest) m ((List.replicate m [PV.int .i64 x]).take (n -m)).flatten=List.replicate (m+min m (n -m)) (.int .i64 x)++rest.drop (min m (n -m)):=by
        rw [List.take_replicate,wH];unfold putCells;rw [List.length_replicate];have e1:(List.replicate m (PV.int .i64 x)++rest).take m=List.replicate m (PV.int .i64 x):=by
          rw [List.take_append_of_le_length (by rw [List.length_replicate];omega),List.take_of_length_le (by rw [List.length_replicate];omega)]
        have e2:(List.replicate m (PV.int .i64 x)++rest).drop (m+min (n -m) m)=rest.drop (min m (n -m)):=by
          rw [List.drop_append,List.length_replicate,List.drop_eq_nil_of_le (by rw [List.length_replicate];omega),List.nil_append];congr 1
          omega
        rw [e1,e2,List.replicate_append_replicate,Nat.min_comm m]
      simp only [jF,nop,AE.ev,mK,Nat.reduceEqDiff,↓reduceIte,hy];simp only [ho];rw [if_pos ⟨trivial,hsz,hle⟩];refine⟨?_,by rw [hput]⟩;rw [List.length_replicate]
    · have hm2:(m:Int)+((min m (n -m):Nat):Int)=((m+min m (n -m):Nat):Int):=by omega
      have hw:IntKind.wrap .i64 ((m:Int)+((min m (n -m):Nat):Int))=((m+min m (n -m):Nat):Int):=by
        rw [hm2];exact IntWalk.i64_in _ (by omega)
      unfold iR;refine dw ?_;simp -implicitDefEqProofs only [go_sem,↓reduceIte,Nat.reduceEqDiff,h7,h8,hw];refine hK _ _ (ih (m+min m (n -m)) _ _ (rest.drop (min m (n -m))) (by omega) (by omega) (by omega) ?_ ?_ ?_ (by rw [List.length_drop];omega) h1 ?_ h3)
      · simp only [mK,Nat.reduceEqDiff,↓reduceIte,h7]
      · simp only [mK,Nat.reduceEqDiff,↓reduceIte]
      · show(if id=id then some _ else _)=_
        rw [if_pos rfl]
      · intro i hi;show(if i=id then some _ else _)=_
        rw [if_neg hi];exact h2 i hi
section
variable {P:Program} {Q:Post} {σ:Nat->PV} {s:List Fm} {H:AH}
theorem aqw {d:Option Nat} {x y:AE} {l:List aV} {k k':IntKind} {n:Nat} (hx:x.ev σ= .int k n) (hy:y.ev σ= .int k' n) (hb:n<=1000000)
    (h:WO P l s Q (upd σ d (.dP H.next 0 n n 1)) (H.new (List.replicate n (.int .i64 0)))):WO P (⟨d,.d (.tu 1 8 [.int .i64 0] x y),none⟩::l) s Q σ H:=by
  show WD P (mQ (.tu 1 8 [.int .i64 0] x y) σ H) d l s Q σ
  simp only [mQ,hx,hy];rw [if_pos ⟨by omega,by omega,by omega,by omega,rfl,by decide⟩];rw [Int.toNat_natCast,wH];exact h
theorem adN {d:Option Nat} {x y:AE} {l:List aV} {id off len cap sz:Nat} {fs:List (List PV)} {cs:List PV} (hx:x.ev σ= .dP id off len cap sz) (hy:rowOf sz H (y.ev σ)=some fs) (ho:H.obj id=some cs)
    (hsz:qJ sz fs) (hle:off+len*sz<=cs.length)
    (h:WO P l s Q (upd σ d (.int .i64 (min fs.length len:Nat))) (H.put id (putCells cs off (fs.take len).flatten))):WO P (⟨d,.n (.copy sz x y),none⟩::l) s Q σ H:=by
  show dB P _ _ σ H
  rw [R9];simp only [nop,hx,hy,ho];rw [if_pos ⟨trivial,hsz,hle⟩];exact h
end
theorem ata (x:Int) (n:Int) (hn:0<=n/\n<=1000000):Ku Tryz.prog 94 [.aB [[.int .i64 x]] .exact,.int .i64 n] bI 1 (List.replicate n.toNat x):=by
  intro H;obtain⟨n,rfl⟩: ∃k:Nat,n=k:=⟨n.toNat,by omega⟩;refine aI avu (by simp) (aF ?_);unfold apg;have c1:decide ((n:Int)<0)=false:=decide_eq_false (by omega);have c2:IntKind.wrap .u64 1=1:=by decide
  have c3:IntKind.wrap .u64 (n:Int)=n:=IntWalk.u64_in _ (by omega);have c4:IntKind.wrap .i64 (n:Int)=n:=IntWalk.i64_in _ (by omega);have hm:Ol 1 n=some ((0:Int),(n:Int)):=by
    unfold Ol Oj;rw [if_pos ⟨⟨by omega,by omega⟩,by omega,by omega⟩];have e1:((1:Int).toNat*((n:Nat):Int).toNat/18446744073709551616:Nat)=0:=by
      rw [Int.toNat_natCast];show(1*n)/_=0;omega
    have e2:((1:Int).toNat*((n:Nat):Int).toNat% 18446744073709551616:Nat)=n:=by
      rw [Int.toNat_natCast];show(1*n)% _=n;omega
    rw [e1,e2];rfl
  have hc:=adM hm;have d1:decide ((n:Int)>9223372036854775807)=false:=decide_eq_false (by omega);unfold adv adw;simp -implicitDefEqProofs only [go_sem,↓reduceIte,Nat.reduceEqDiff,Nat.reduceAdd,List.length_cons,List.length_nil,c1,c2,c3,c4,d1];refine dS.mono (hc H) fun v H' hv=> ?_;obtain⟨rfl,rfl⟩:=hv;have d0:decide ((0:Int)>0)=false:=by decide
  simp -implicitDefEqProofs only [go_sem,↓reduceIte,Nat.reduceEqDiff,Nat.reduceAdd,List.length_cons,List.length_nil,c1,c2,c3,c4,d0,d1];refine aqw (k:= .i64) (k':= .i64) (n:=n) (by simp only [go_sem,↓reduceIte,Nat.reduceEqDiff]) (by simp only [go_sem,↓reduceIte,Nat.reduceEqDiff]) (by omega) ?_;have hob:(H'.new (List.replicate n (PV.int .i64 0))).obj H'.next=some (List.replicate n (PV.int .i64 0)):=by
    show(if H'.next=H'.next then some _ else _)=_
    rw [if_pos rfl]
  simp -implicitDefEqProofs only [go_sem,↓reduceIte,Nat.reduceEqDiff,Nat.reduceAdd]
  refine adN (id:=H'.next) (off:=0) (len:=n) (cap:=n) (fs:=[[.int .i64 x]]) (cs:=List.replicate n (.int .i64 0)) (by simp only [go_sem,↓reduceIte,Nat.reduceEqDiff]) (by simp only [go_sem,↓reduceIte,Nat.reduceEqDiff];rfl) hob
    (by intro cs hcs;rw [List.mem_singleton.1 hcs];exact⟨rfl,fun c hc=>by rw [List.mem_singleton.1 hc];rfl⟩) (by rw [List.length_replicate];omega) ?_
  have hput:putCells (List.replicate n (PV.int .i64 0)) 0 (([[PV.int .i64 x]]:List (List PV)).take n).flatten=List.replicate (min 1 n) (.int .i64 x)++List.replicate (n -min 1 n) (.int .i64 0):=by
    cases n with
    |zero=>rfl
    |succ n=>
      have e:min 1 (n+1)=1:=by omega
      rw [e,List.take_of_length_le (by simp)];simp [putCells,List.replicate_succ]
  rw [hput];have e1:(min ([[PV.int .i64 x]]:List (List PV)).length n:Nat)=min 1 n:=rfl;rw [e1];simp -implicitDefEqProofs only [go_sem,↓reduceIte,Nat.reduceEqDiff,Nat.reduceAdd];have ae7: ∀cs:List PV,(((H'.new (List.replicate n (PV.int .i64 0))).put H'.next cs).obj H'.next)=some cs:=fun cs=>by
    show(if H'.next=H'.next then some _ else _)=_
    rw [if_pos rfl]
  refine aqv x H'.next n ((H'.new (List.replicate n (PV.int .i64 0)))) _ (by omega) (fun σ' H2 k7 ko kn kob kl=> ?_) n (min 1 n) _ _ (List.replicate (n -min 1 n) (.int .i64 0)) (by omega) (by omega) (by omega) ?_ ?_ (ae7 _) (by rw [List.length_replicate]) rfl
    (fun i hi=> ?_) (fun k=>rfl)
  · show WE Tryz.prog (.exit 0) _ _ σ' H2
    simp -implicitDefEqProofs only [go_sem,↓reduceIte,Nat.reduceEqDiff,Nat.reduceAdd,k7];refine⟨[H'.next],.inr ⟨H'.next,n,[],rfl,by rw [List.length_replicate],by rw [List.length_replicate];omega,by rw [kn];exact Nat.lt_succ_self _,?_,?_⟩,fun i hi=> .inr (by rw [List.mem_singleton.1 hi];exact Nat.le_refl _),⟨by rw [kn];exact Nat.le_succ _,fun i hi _=> ?_⟩,fun c3 hc=> ?_⟩
    · rw [ko,List.append_nil,List.map_replicate];exact congrArg some (wH (PV.int .i64 x) n).symm
    · rw [List.length_replicate];simp
    · rw [kob i (by omega)];show(if i=H'.next then some _ else _)=_
      rw [if_neg (by omega)]
    · cases c3 with
      |unk=>exact hc
      |tok t=>exact⟨by rw [kl];exact hc.1,by rw [kn];exact Nat.lt_succ_of_lt hc.2⟩
      |nil=>trivial
      |exact=>trivial
  · simp only [mK,Nat.reduceEqDiff,↓reduceIte]
  · simp only [mK,Nat.reduceEqDiff,↓reduceIte]
  · show(if i=H'.next then some _ else _)=_
    rw [if_neg hi]
def Jw (l:List Int) (n:Int):List Int:=List.replicate n.toNat (l.headD 0)
theorem aqz (l:List Int) (n:Int) (h:l.length=1/\0<=n/\n<=1000000):Ku Tryz.prog 94 [.aB (l.map bI) .exact,.int .i64 n] bI 1 (Jw l n):=by
  match l,h with
  |[x],h=>exact ata x n h.2
end Go.VL
end
section
set_option maxRecDepth 8000
set_option maxHeartbeats 4000000
namespace Go.VL
open Go.Proofs
def nQ:Nat->(List Int)->(List Int)->Int->(List Int)->Int->Int->Option (((List Int)×(List Int)))
  |0,_,_,_,_,_,_=>none
  |k+1,vv,kE,gV,iq,jZ,gF=>
    cond (decide (gF<jZ)) (if 0<=gF then Option.bind (iq[gF.toNat]?) fun x21=>if 0<=x21 then Option.bind (vv[x21.toNat]?) fun x24=>Option.bind (kE[x21.toNat]?) fun x41=>nQ k (vv.set x21.toNat gV) (kE.set x21.toNat gF) gV iq jZ (IntKind.wrap .i64 (gF+1))else none else none) (some ((vv,kE)))
def Lc:List Nat:=[8,9]++List.range' 27 14
theorem WL: ∀(k:Nat) (rz:PV) (j3:List Nat) (kg:PV) (gM:List Nat) (M:List Nat) (vv:List Int) (kE:List Int) (gV:Int) (iq:List Int) (jZ:Int) (gF:Int) (aC σ:Nat->PV) (H0 H:AH) (f0:Fr Lc aC σ) (hf0:HF M H0 H) (sl:σ 4=rz/\σ 5=kg/\σ 6=(.int .i64 gV)/\σ 25=(.aB (iq.map bI) .unk)/\σ 26=(.int .i64 jZ)/\σ 27=(.int .i64 gF)) (rA:aS H bI 1 vv rz j3) (qR:Nw H0 M j3) (lF:aS H bI 1 kE kg gM) (kU:Nw H0 M gM) (gZ:Dj j3 gM) (o:((List Int)×(List Int))) (h:nQ k vv kE gV iq jZ gF=some o) (Q:Post) (q0: ∀(p:(List Int)×(List Int)) (v0:PV) (tY:List Nat) (v1:PV) (Rk:List Nat) (σ':Nat->PV) (H':AH),o=p->Fr Lc aC σ'->HF M H0 H'->(σ' 4=v0/\σ' 5=v1)->aS H' bI 1 p.1 v0 tY->Nw H0 M tY->aS H' bI 1 p.2 v1 Rk->Nw H0 M Rk->Dj tY Rk->Q (.exit 2) σ' H'),W Tryz.prog (.loop U4) Q σ H:=by
  intro k
  induction k with
  |zero=>intro rz j3 kg gM M vv kE gV iq jZ gF aC σ H0 H f0 hf0 sl rA qR lF kU gZ o h Q q0;simp only [nQ,reduceCtorEq]at h
  |succ k ih=>
    intro rz j3 kg gM M vv kE gV iq jZ gF aC σ H0 H f0 hf0 sl rA qR lF kU gZ o h Q q0;obtain⟨s4,s5,s6,O6,X5,X9⟩:=sl;have hle0:=hf0.1;unfold nQ at h;refine bA (fun K hK=>aF ?_);unfold U4;rcases au h with⟨e19,h⟩|⟨e19,h⟩
    ·obtain⟨e20,h⟩:=aD h;obtain⟨x21,e22,h⟩:=aj h;obtain⟨e23,h⟩:=aD h;obtain⟨x24,e25,h⟩:=aj h;obtain⟨w26,w27,aqA,hil,w28,hC,hL,hD,hI⟩:=aS.content rA e25;have w29:=ne_next hil;have w30:=aU hil;have w31:qG 1 rz (.int .i64 x21)=some (.ref w26 (x21.toNat)):=by simpa using hI .i64 x21 (by first|omega|decide) (by first|rfl|omega)
     have aza:w27[x21.toNat]? =some (.int .i64 x24):=by simpa using hC 0 _ rfl
     clear hC hL hD hI;try refine dA ?_
     refine zF (f:=bI) (id:=w26) (o:=x21.toNat) (i:=x21.toNat) (j:=0) (a:=x24) (y:=gV) (vs:=[(.int .i64 gV)]) fD aqA (by omega) (by repeat (first|exact rA|apply aS.new|refine aS.put ?_ (fun hm=>by have:=aS.lt rA _ hm;omega))) e25 fD rfl rfl (by first|decide|(simp only [List.length_cons,List.length_nil];omega)) rfl (fun H34 r35 I6 av4=> ?_);have le:=I6.1;try simp only [AH.aJ,AH.aK,AH.aL,AH.aM]at le
     have r39:=aS.hf (by repeat (first|exact lF|apply aS.new|refine aS.put ?_ (fun hm=>by have:=aS.lt lF _ hm;omega))) I6 (Dj.symm gZ);obtain⟨x41,e42,h⟩:=aj h;obtain⟨w43,w44,aqC,hil,w45,hC,hL,hD,hI⟩:=aS.content r39 e42;have w46:=ne_next hil;have w47:=aU hil;have w48:qG 1 kg (.int .i64 x21)=some (.ref w43 (x21.toNat)):=by simpa using hI .i64 x21 (by first|omega|decide) (by first|rfl|omega)
     have azb:w44[x21.toNat]? =some (.int .i64 x41):=by simpa using hC 0 _ rfl
     clear hC hL hD hI;try refine dA ?_
     refine zF (f:=bI) (id:=w43) (o:=x21.toNat) (i:=x21.toNat) (j:=0) (a:=x41) (y:=gF) (vs:=[(.int .i64 gF)]) fD aqC (by omega) (by repeat (first|exact r39|apply aS.new|refine aS.put ?_ (fun hm=>by have:=aS.lt r39 _ hm;omega))) e42 fD rfl rfl (by first|decide|(simp only [List.length_cons,List.length_nil];omega)) rfl (fun H51 r52 aiO ail=> ?_);have le:=aiO.1;try simp only [AH.aJ,AH.aK,AH.aL,AH.aM]at le
     have r56:=aS.hf (by repeat (first|exact r35|apply aS.new|refine aS.put ?_ (fun hm=>by have:=aS.lt r35 _ hm;omega))) aiO gZ;try refine dA ?_
     refine hK _ _ ?_;exact ih rz j3 kg gM M (vv.set x21.toNat gV) (kE.set x21.toNat gF) gV iq jZ (IntKind.wrap .i64 (gF+1)) _ _ _ _ aO (by repeat (first|exact hf0|refine HF.new ?_|refine HF.dR ?_|refine HF.used ?_|refine HF.put (by first|(right;omega)|(left;simp only [List.mem_cons,true_or,or_true])) ?_|refine HF.via I6 qR ?_|refine HF.via aiO kU ?_)) fD (by repeat (first|exact r56|apply aS.new|refine aS.put ?_ (fun hm=>by have:=aS.lt r56 _ hm;omega))) qR (by repeat (first|exact r52|apply aS.new|refine aS.put ?_ (fun hm=>by have:=aS.lt r52 _ hm;omega))) kU gZ _ h _ q0
    ·obtain rfl:=ak h;try refine dA ?_
     exact q0 _ rz j3 kg gM _ _ rfl aO (by repeat (first|exact hf0|refine HF.new ?_|refine HF.dR ?_|refine HF.used ?_|refine HF.put (by first|(right;omega)|(left;simp only [List.mem_cons,true_or,or_true])) ?_)) fD (by repeat (first|exact rA|apply aS.new|refine aS.put ?_ (fun hm=>by have:=aS.lt rA _ hm;omega))) qR (by repeat (first|exact lF|apply aS.new|refine aS.put ?_ (fun hm=>by have:=aS.lt lF _ hm;omega))) kU gZ
def nR:Nat->(List Int)->(List Int)->(List Nd)->Int->Int->Option (((List Int)×(List Int)))
  |0,_,_,_,_,_=>none
  |k+1,vv,kE,Kw,Ky,Cr=>
    cond (decide (Cr<Ky)) (if 0<=Cr then Option.bind (Kw[Cr.toNat]?) fun BR=>Option.bind (nQ k vv kE Cr BR.args (BR.args.length:Int) 0) (fun p60=>nR k p60.1 p60.2 Kw Ky (IntKind.wrap .i64 (Cr+1)))else none) (some ((vv,kE)))
def Ld:List Nat:=[6,7,8,9]++List.range' 19 23
theorem WM: ∀(k:Nat) (rz:PV) (j3:List Nat) (kg:PV) (gM:List Nat) (M:List Nat) (vv:List Int) (kE:List Int) (Kw:List Nd) (Ky:Int) (Cr:Int) (aC σ:Nat->PV) (H0 H:AH) (f0:Fr Ld aC σ) (hf0:HF M H0 H) (sl:σ 4=rz/\σ 5=kg/\σ 17=(.aB (Kw.map Nd.cells) .unk)/\σ 18=(.int .i64 Ky)/\σ 19=(.int .i64 Cr)) (rA:aS H bI 1 vv rz j3) (qR:Nw H0 M j3) (lF:aS H bI 1 kE kg gM) (kU:Nw H0 M gM) (gZ:Dj j3 gM) (o:((List Int)×(List Int))) (h:nR k vv kE Kw Ky Cr=some o) (Q:Post) (q0: ∀(p:(List Int)×(List Int)) (v0:PV) (tY:List Nat) (v1:PV) (Rk:List Nat) (σ':Nat->PV) (H':AH),o=p->Fr Ld aC σ'->HF M H0 H'->(σ' 4=v0/\σ' 5=v1)->aS H' bI 1 p.1 v0 tY->Nw H0 M tY->aS H' bI 1 p.2 v1 Rk->Nw H0 M Rk->Dj tY Rk->Q (.exit 0) σ' H'),W Tryz.prog (.loop U5) Q σ H:=by
  intro k
  induction k with
  |zero=>intro rz j3 kg gM M vv kE Kw Ky Cr aC σ H0 H f0 hf0 sl rA qR lF kU gZ o h Q q0;simp only [nR,reduceCtorEq]at h
  |succ k ih=>
    intro rz j3 kg gM M vv kE Kw Ky Cr aC σ H0 H f0 hf0 sl rA qR lF kU gZ o h Q q0;obtain⟨s4,s5,s17,pK,qH⟩:=sl;have hle0:=hf0.1;unfold nR at h;refine bA (fun K hK=>aF ?_);unfold U5;rcases au h with⟨e15,h⟩|⟨e15,h⟩
    ·obtain⟨e16,h⟩:=aD h;obtain⟨BR,e18,h⟩:=aj h;try refine dA ?_
     rw [J8];try refine dA ?_
     obtain⟨o58,h59,h⟩:=aj h;refine WL k rz j3 kg gM (j3++(gM++[])) vv kE Cr BR.args (BR.args.length:Int) 0 _ _ _ _ (Fr.refl _ _) (HF.refl _ _) fD (by repeat (first|exact rA|apply aS.new|refine aS.put ?_ (fun hm=>by have:=aS.lt rA _ hm;omega))) (fun i hi=>Or.inl (by simp only [List.mem_append,List.mem_cons,hi,true_or,or_true])) (by repeat (first|exact lF|apply aS.new|refine aS.put ?_ (fun hm=>by have:=aS.lt lF _ hm;omega))) (fun i hi=>Or.inl (by simp only [List.mem_append,List.mem_cons,hi,true_or,or_true])) gZ _ h59 _ ?_
     ·rintro p60 v64 atb v69 atc σ' H63 eo ae8 aqD ⟨s68,s73⟩ r66 av5 r71 av6 av7;rw [eo]at h;have s75:σ' 17=(.aB (Kw.map Nd.cells) .unk):=(ae8 17 (by decide)).trans fD;have s76:σ' 18=(.int .i64 Ky):=(ae8 18 (by decide)).trans fD;have s77:σ' 19=(.int .i64 Cr):=(ae8 19 (by decide)).trans fD;have le:=aqD.1;try simp only [AH.aJ,AH.aK,AH.aL,AH.aM]at le
      try refine dA ?_
      refine hK _ _ ?_;exact ih v64 atb v69 atc M p60.1 p60.2 Kw Ky (IntKind.wrap .i64 (Cr+1)) _ _ _ _ (by repeat (first|exact f0|refine Fr.upd (by decide) ?_|refine Fr.via ae8 (by decide) ?_)) (by repeat (first|exact hf0|refine HF.new ?_|refine HF.dR ?_|refine HF.used ?_|refine HF.put (by first|(right;omega)|(left;simp only [List.mem_cons,true_or,or_true])) ?_|refine HF.via aqD (List.forall_mem_append.2 ⟨qR,(List.forall_mem_append.2 ⟨kU,(fun _ h=>absurd h List.not_mem_nil)⟩)⟩) ?_)) fD (by repeat (first|exact r66|apply aS.new|refine aS.put ?_ (fun hm=>by have:=aS.lt r66 _ hm;omega))) (Nw.via (List.forall_mem_append.2 ⟨qR,(List.forall_mem_append.2 ⟨kU,(fun _ h=>absurd h List.not_mem_nil)⟩)⟩) bE av5) (by repeat (first|exact r71|apply aS.new|refine aS.put ?_ (fun hm=>by have:=aS.lt r71 _ hm;omega))) (Nw.via (List.forall_mem_append.2 ⟨qR,(List.forall_mem_append.2 ⟨kU,(fun _ h=>absurd h List.not_mem_nil)⟩)⟩) bE av6) av7 _ h _ q0
    ·obtain rfl:=ak h;try refine dA ?_
     exact q0 _ rz j3 kg gM _ _ rfl aO (by repeat (first|exact hf0|refine HF.new ?_|refine HF.dR ?_|refine HF.used ?_|refine HF.put (by first|(right;omega)|(left;simp only [List.mem_cons,true_or,or_true])) ?_)) fD (by repeat (first|exact rA|apply aS.new|refine aS.put ?_ (fun hm=>by have:=aS.lt rA _ hm;omega))) qR (by repeat (first|exact lF|apply aS.new|refine aS.put ?_ (fun hm=>by have:=aS.lt lF _ hm;omega))) kU gZ
def zH (k:Nat) (aH:List Nd):Option ((List Int)×(List Int)):=
  if [(-1)].length=1/\0<=(aH.length:Int)/\(aH.length:Int)<=1000000 then if 0<=(aH.length:Int)/\(aH.length:Int)<=1099511627776/\8*(aH.length:Int)<=1099511627776 then Option.bind (nR k (Jw [(-1)] (aH.length:Int):List Int) (List.replicate aH.length 0) aH (aH.length:Int) 0) (fun Av=>some (Av.1,Av.2))else none else none
theorem acN {k:Nat} {aH:List Nd} {c0:Ck} {r:(List Int)×(List Int)} (h:zH k aH=some r):aG Tryz.prog 50 [(.aB (aH.map Nd.cells) c0)] (.dN [(.aB (r.1.map bI) .unk),(.aB (r.2.map bI) .unk)]):=by
  refine aG.lw (.aB .nil) (aG.aR (bB.mem (.cons (bC Nd.pu _) .nil)) (aI au5 (by simp) (aF ?_)) (.dN _ (bB.mem (.cons (bC jg _) (.cons (bC jg _) .nil)))));unfold zH at h;unfold aoL;obtain⟨e13,h⟩:=aD h;obtain⟨e14,h⟩:=aD h;try refine dA ?_
  refine amQ (agN (a:=3) (b:=6) (f:=bI) (sz:=1) (xs:=(Jw [(-1)] (aH.length:Int):List Int)) (g:=bI) (sz2:=1) (ys:=(List.replicate aH.length 0)) (fun x y i=>match i with|0=>(.aB ([(-1)].map bI) .exact)|1=>(.aB (aH.map Nd.cells) .unk)|2=>(.int .i64 (aH.length:Int))|3=>x|4=>(.aB (aH.map Nd.cells) .unk)|5=>(.int .i64 (aH.length:Int))|6=>y|7=>x|_=>ud) rfl (by decide) rfl rfl (fun _ _=>rfl) (fun _ _=>rfl) (by
    intro x x' y i h1 h2;rcases i with _|i
    · first|rfl|exact absurd rfl h1|exact absurd h2 (by decide)
    rcases i with _|i
    · first|rfl|exact absurd rfl h1|exact absurd h2 (by decide)
    rcases i with _|i
    · first|rfl|exact absurd rfl h1|exact absurd h2 (by decide)
    rcases i with _|i
    · first|rfl|exact absurd rfl h1|exact absurd h2 (by decide)
    rcases i with _|i
    · first|rfl|exact absurd rfl h1|exact absurd h2 (by decide)
    rcases i with _|i
    · first|rfl|exact absurd rfl h1|exact absurd h2 (by decide)
    rcases i with _|i
    · first|rfl|exact absurd rfl h1|exact absurd h2 (by decide)
    rcases i with _|i
    · first|rfl|exact absurd rfl h1|exact absurd h2 (by decide)
    rfl) (by
    intro x y y' i h1 h2;rcases i with _|i
    · first|rfl|exact absurd rfl h1|exact absurd h2 (by decide)
    rcases i with _|i
    · first|rfl|exact absurd rfl h1|exact absurd h2 (by decide)
    rcases i with _|i
    · first|rfl|exact absurd rfl h1|exact absurd h2 (by decide)
    rcases i with _|i
    · first|rfl|exact absurd rfl h1|exact absurd h2 (by decide)
    rcases i with _|i
    · first|rfl|exact absurd rfl h1|exact absurd h2 (by decide)
    rcases i with _|i
    · first|rfl|exact absurd rfl h1|exact absurd h2 (by decide)
    rcases i with _|i
    · first|rfl|exact absurd rfl h1|exact absurd h2 (by decide)
    rcases i with _|i
    · first|rfl|exact absurd rfl h1|exact absurd h2 (by decide)
    rfl) (by
    intro x y;refine⟨.inr ⟨rfl,fun H=>by(try simp -implicitDefEqProofs only [jF,fU,evs,List.map,List.nil_append,List.append_nil,go_sem]);first|done|exact⟨rfl,rfl⟩⟩,?_⟩;refine⟨.inr ⟨rfl,fun H=>by(try simp -implicitDefEqProofs only [jF,fU,evs,List.map,List.nil_append,List.append_nil,go_sem]);first|done|exact⟨rfl,rfl⟩⟩,?_⟩;refine⟨.inr ⟨rfl,fun H=>by(try simp -implicitDefEqProofs only [jF,fU,evs,List.map,List.nil_append,List.append_nil,go_sem]);first|done|exact⟨rfl,rfl⟩⟩,?_⟩;refine⟨.inl rfl,?_⟩;refine⟨.inr ⟨rfl,fun H=>by(try simp -implicitDefEqProofs only [jF,fU,evs,List.map,List.nil_append,List.append_nil,go_sem]);first|done|exact⟨rfl,rfl⟩⟩,?_⟩;refine⟨.inr ⟨rfl,fun H=>by(try simp -implicitDefEqProofs only [jF,fU,evs,List.map,List.nil_append,List.append_nil,go_sem]);first|done|exact⟨rfl,rfl⟩⟩,?_⟩;refine⟨.inl rfl,?_⟩;refine⟨.inr ⟨rfl,fun H=>by(try simp -implicitDefEqProofs only [jF,fU,evs,List.map,List.nil_append,List.append_nil,go_sem]);first|done|exact⟨rfl,rfl⟩⟩,?_⟩;exact trivial) (fun y H=>⟨trivial,amP (aqz [(-1)] (aH.length:Int) e13) (by simp -implicitDefEqProofs only [fU,evs,List.map,List.nil_append,List.append_nil,go_sem])⟩) (fun x H=>⟨trivial,amO (f:=bI) (k:= .i64) (k':= .i64) (n:=(aH.length:Int)) 0 rfl (by simp -implicitDefEqProofs only [fU,evs,List.map,List.nil_append,List.append_nil,go_sem]) (by simp -implicitDefEqProofs only [fU,evs,List.map,List.nil_append,List.append_nil,go_sem]) e14 (by decide)⟩) (fun v1 v8 aqE aqF H3 r4 r10 av8 nw5 aAa hf6 ok7=> ?_))
  simp only [fU,List.length_cons,List.length_nil,Nat.reduceAdd];have le:=hf6.1;try simp only [AH.aJ,AH.aK,AH.aL,AH.aM]at le
  try refine dA ?_
  obtain⟨o78,h79,h⟩:=aj h;refine WM k v1 aqE v8 aqF (aqE++(aqF++[])) (Jw [(-1)] (aH.length:Int):List Int) (List.replicate aH.length 0) aH (aH.length:Int) 0 _ _ _ _ (Fr.refl _ _) (HF.refl _ _) fD (by repeat (first|exact r4|apply aS.new|refine aS.put ?_ (fun hm=>by have:=aS.lt r4 _ hm;omega))) (fun i hi=>Or.inl (by simp only [List.mem_append,List.mem_cons,hi,true_or,or_true])) (by repeat (first|exact r10|apply aS.new|refine aS.put ?_ (fun hm=>by have:=aS.lt r10 _ hm;omega))) (fun i hi=>Or.inl (by simp only [List.mem_append,List.mem_cons,hi,true_or,or_true])) av8 _ h79 _ ?_
  ·rintro Av v84 azc v89 azd σ' H83 eo Kz aiP ⟨s88,s93⟩ r86 aAb r91 aAc aAd;rw [eo]at h;have le:=aiP.1;try simp only [AH.aJ,AH.aK,AH.aL,AH.aM]at le
   obtain rfl:=ak h;try refine dA ?_
   exact(dG (.cons (aS.fz jg (by repeat (first|exact r86|apply aS.new|refine aS.put ?_ (fun hm=>by have:=aS.lt r86 _ hm;omega)))) (.cons (aS.fz jg (by repeat (first|exact r91|apply aS.new|refine aS.put ?_ (fun hm=>by have:=aS.lt r91 _ hm;omega)))) .nil)))
end Go.VL
end
section
namespace Go.VL
open Go.Proofs Go.RowKit
set_option maxRecDepth 100000
theorem agT:Enters Tryz.prog 141:=⟨_,Tryz.func141,rfl,by kernel_rfl⟩
theorem aiQ:Zj Tryz.prog 141 1 false:=by
  intro l m bx n J Jx W hn hc hY h0;refine callsIn_of_wp Tryz.func141 rfl trivial ?_ rfl;simp only [Tryz.ntmps141,List.size_toArray,List.length_cons,List.length_nil,Nat.reduceAdd,Nat.reduceSub,Array.replicate_succ,Array.replicate_zero,List.push_toArray,List.append_toArray,List.nil_append,List.cons_append];obtain⟨ad0,cap0,hc0⟩:=hc
  gi_wp2
  gi_loopw [3] (fun v3 wr=> ∃k:Nat,v3= .int .i64 ((k:Int) -1)/\k<=n/\J k wr) (fun v3 wr=>(RowKit.intOf v3+1).toNat)
  case atStart=>exact⟨n,rfl,Nat.le_refl _,h0⟩
  case round=>
    obtain⟨k,rfl,hk,hJ⟩:=hrel;cases k with
    |zero=>
      have c1: ¬(0:Int)<=((0:Nat):Int) -1:=by omega
      gi_wp2
      go_end0
      exact⟨⟨_,rfl⟩,.inl hJ⟩
    |succ k=>
      obtain⟨b,o,cap,vs,hb,hkn,hvs,hld,fn,tmps,assign,body,hy,hR⟩:=hY k wr hJ;have e1:((k+1:Nat):Int) -1=(k:Int):=by omega
      rw [e1];have c1:(0:Int)<=(k:Int):=by omega
      have c2:(k:Int)<(n:Int):=by omega
      have aAe:wr.cell? ⟨b,o+k,none⟩=some (elemV false vs):=by
        have:=hld 0 (elemV false vs) (by simp [elemV,hvs]);simpa using this
      clear hld;generalize elemV false vs=v at*
      gi_wp2
      refine⟨fun hd=>absurd hd (by simp [Fence.wide]),(acv hR).mono ?_⟩;rintro e W' (⟨rfl,hJ'⟩|⟨rfl,hJx⟩)
      · gi_wp2
        go_roundw
        case rel=>exact⟨k,rfl,by omega,hJ'⟩
        case measure=>simp [RowKit.intOf]
      · gi_wp2
        refine bodyPost_ret (results_none rfl _ _ _) rfl ?_;exact⟨⟨_,rfl⟩,.inr hJx⟩
end Go.VL
end
section
set_option maxRecDepth 8000
set_option maxHeartbeats 4000000
namespace Go.VL
open Go.Proofs
def wI (bJ:Int):Option Bool:=
  cond (bJ==1) (some ((bJ==1))) (some ((bJ==2)))
theorem WQ: ∀(bJ:Int) (aC σ:Nat->PV) (H:AH) (f0:Fr [15,16,17] aC σ) (sl:σ 11=(.int .i64 bJ)) (o:Bool) (h:wI bJ=some o) (Q:Post) (q0: ∀(p:Bool) (σ':Nat->PV),o=p->Fr [15,16,17] aC σ'->(σ' 15=(.bool p))->Q .normal σ' H),W Tryz.prog VE Q σ H:=by
  intro bJ aC σ H f0 sl o h Q q0;have s11:=sl;unfold wI at h;refine aF ?_;unfold VE;rcases au h with⟨e2,h⟩|⟨e2,h⟩
  ·obtain rfl:=ak h;try refine ah ?_
   exact q0 _ _ rfl aO av
  ·obtain rfl:=ak h;try refine ah ?_
   exact q0 _ _ rfl aO av
def AO (bJ:Int):Option Bool:=
  cond (bJ==4) (some ((bJ==4))) (some ((bJ==5)))
theorem WT: ∀(bJ:Int) (aC σ:Nat->PV) (H:AH) (f0:Fr [38,39,40] aC σ) (sl:σ 11=(.int .i64 bJ)) (o:Bool) (h:AO bJ=some o) (Q:Post) (q0: ∀(p:Bool) (σ':Nat->PV),o=p->Fr [38,39,40] aC σ'->(σ' 38=(.bool p))->Q .normal σ' H),W Tryz.prog VF Q σ H:=by
  intro bJ aC σ H f0 sl o h Q q0;have s11:=sl;unfold AO at h;refine aF ?_;unfold VF;rcases au h with⟨e20,h⟩|⟨e20,h⟩
  ·obtain rfl:=ak h;try refine ah ?_
   exact q0 _ _ rfl aO av
  ·obtain rfl:=ak h;try refine ah ?_
   exact q0 _ _ rfl aO av
def AP (bJ:Int):Option Bool:=
  cond (bJ==6) (some ((bJ==6))) (some ((bJ==12)))
theorem WU: ∀(bJ:Int) (aC σ:Nat->PV) (H:AH) (f0:Fr [43,44,45] aC σ) (sl:σ 11=(.int .i64 bJ)) (o:Bool) (h:AP bJ=some o) (Q:Post) (q0: ∀(p:Bool) (σ':Nat->PV),o=p->Fr [43,44,45] aC σ'->(σ' 43=(.bool p))->Q .normal σ' H),W Tryz.prog VG Q σ H:=by
  intro bJ aC σ H f0 sl o h Q q0;have s11:=sl;unfold AP at h;refine aF ?_;unfold VG;rcases au h with⟨e33,h⟩|⟨e33,h⟩
  ·obtain rfl:=ak h;try refine ah ?_
   exact q0 _ _ rfl aO av
  ·obtain rfl:=ak h;try refine ah ?_
   exact q0 _ _ rfl aO av
def AQ (bJ:Int):Option Bool:=
  cond (bJ==7) (some ((bJ==7))) (cond (bJ==8) (some ((bJ==8))) (cond (bJ==9) (some ((bJ==9))) (some ((bJ==13)))))
def Le:List Nat:=[48,49,50,51,52]
theorem WV: ∀(bJ:Int) (aC σ:Nat->PV) (H:AH) (f0:Fr Le aC σ) (sl:σ 11=(.int .i64 bJ)) (o:Bool) (h:AQ bJ=some o) (Q:Post) (q0: ∀(p:Bool) (σ':Nat->PV),o=p->Fr Le aC σ'->(σ' 48=(.bool p))->Q .normal σ' H),W Tryz.prog VH Q σ H:=by
  intro bJ aC σ H f0 sl o h Q q0;have s11:=sl;unfold AQ at h;refine aF ?_;unfold VH;rcases au h with⟨e48,h⟩|⟨e48,h⟩
  ·obtain rfl:=ak h;try refine ah ?_
   exact q0 _ _ rfl aO av
  ·rcases au h with⟨e49,h⟩|⟨e49,h⟩
   ·obtain rfl:=ak h;try refine ah ?_
    exact q0 _ _ rfl aO av
   ·rcases au h with⟨e50,h⟩|⟨e50,h⟩
    ·obtain rfl:=ak h;try refine ah ?_
     exact q0 _ _ rfl aO av
    ·obtain rfl:=ak h;try refine ah ?_
     exact q0 _ _ rfl aO av
def AU (bJ:Int):Option Bool:=
  cond (bJ==10) (some ((bJ==10))) (some ((bJ==11)))
theorem WW: ∀(bJ:Int) (aC σ:Nat->PV) (H:AH) (f0:Fr [60,61,62] aC σ) (sl:σ 11=(.int .i64 bJ)) (o:Bool) (h:AU bJ=some o) (Q:Post) (q0: ∀(p:Bool) (σ':Nat->PV),o=p->Fr [60,61,62] aC σ'->(σ' 60=(.bool p))->Q .normal σ' H),W Tryz.prog VI Q σ H:=by
  intro bJ aC σ H f0 sl o h Q q0;have s11:=sl;unfold AU at h;refine aF ?_;unfold VI;rcases au h with⟨e63,h⟩|⟨e63,h⟩
  ·obtain rfl:=ak h;try refine ah ?_
   exact q0 _ _ rfl aO av
  ·obtain rfl:=ak h;try refine ah ?_
   exact q0 _ _ rfl aO av
def AV (bJ:Int):Option Bool:=
  cond (bJ==16) (some ((bJ==16))) (some ((bJ==17)))
theorem WX: ∀(bJ:Int) (aC σ:Nat->PV) (H:AH) (f0:Fr [70,71,72] aC σ) (sl:σ 11=(.int .i64 bJ)) (o:Bool) (h:AV bJ=some o) (Q:Post) (q0: ∀(p:Bool) (σ':Nat->PV),o=p->Fr [70,71,72] aC σ'->(σ' 70=(.bool p))->Q .normal σ' H),W Tryz.prog VJ Q σ H:=by
  intro bJ aC σ H f0 sl o h Q q0;have s11:=sl;unfold AV at h;refine aF ?_;unfold VJ;rcases au h with⟨Ht,h⟩|⟨Ht,h⟩
  ·obtain rfl:=ak h;try refine ah ?_
   exact q0 _ _ rfl aO av
  ·obtain rfl:=ak h;try refine ah ?_
   exact q0 _ _ rfl aO av
def AX (bJ:Int):Option Bool:=
  cond (bJ==19) (some ((bJ==19))) (some ((bJ==21)))
theorem WY: ∀(bJ:Int) (aC σ:Nat->PV) (H:AH) (f0:Fr [82,83,84] aC σ) (sl:σ 11=(.int .i64 bJ)) (o:Bool) (h:AX bJ=some o) (Q:Post) (q0: ∀(p:Bool) (σ':Nat->PV),o=p->Fr [82,83,84] aC σ'->(σ' 82=(.bool p))->Q .normal σ' H),W Tryz.prog VK Q σ H:=by
  intro bJ aC σ H f0 sl o h Q q0;have s11:=sl;unfold AX at h;refine aF ?_;unfold VK;rcases au h with⟨Jj,h⟩|⟨Jj,h⟩
  ·obtain rfl:=ak h;try refine ah ?_
   exact q0 _ _ rfl aO av
  ·obtain rfl:=ak h;try refine ah ?_
   exact q0 _ _ rfl aO av
def zI (k:Nat) (aT:Nd):Option Shape:=
  cond (aT.kind==0) (some (Shape.mk (0,0) (0,0) false true)) (Option.bind (wI aT.kind) (fun p5=>cond p5 (some (Shape.mk (0,0) (0,0) true false)) (cond (aT.kind==3) (Option.bind (kI k aT.text) fun mR=>cond mR.2 (some (Shape.mk (0,0) ((aT.args.length:Int),(aT.args.length:Int)) true false)) (some (Shape.mk (0,0) (1,4) true false))) (Option.bind (AO aT.kind) (fun jL=>cond jL (some (Shape.mk (0,0) (0,30) false false)) (Option.bind (AP aT.kind) (fun p36=>cond p36 (Option.bind (uW 1 2) fun p47=>some p47) (Option.bind (AQ aT.kind) (fun p53=>cond p53 (some (Shape.mk (1,4) ((IntKind.wrap .i64 ((aT.names.length:Int)+1)),(IntKind.wrap .i64 ((aT.names.length:Int)+1))) false false)) (Option.bind (AU aT.kind) (fun p66=>cond p66 (some (Shape.mk (1,4) (1,1) false false)) (cond (aT.kind==14) (some (Shape.mk (0,0) (2,5) false false)) (Option.bind (AV aT.kind) (fun Av=>cond Av (some (Shape.mk (1,30) ((aT.names.length:Int),(aT.names.length:Int)) false false)) (cond (aT.kind==18) (some (Shape.mk (0,0) (1,1) true false)) (Option.bind (AX aT.kind) (fun X6=>cond X6 (Option.bind (uW 0 3) fun Ki=>some Ki) (cond (aT.kind==20) (some (Shape.mk (0,0) (0,0) false false)) (cond (aT.kind==22) (some (Shape.mk (0,0) (2,30) false false)) (cond (aT.kind==23) (some (Shape.mk (1,5) (2,2) false true)) (cond (aT.kind==24) (some (Shape.mk (1,4) (1,1) false false)) (Option.bind (uW 0 2) fun Gb=>some Gb))))))))))))))))))))))
theorem acO {k:Nat} {aT:Nd} {r:Shape} (h:zI k aT=some r):aG Tryz.prog 90 [(.agg (Nd.cells aT))] (.agg (Shape.cells r)):=by
  refine aG.aR (bB.mem (.cons (.agg _ (Nd.pu _)) .nil)) (aI avq (by simp) (aF ?_)) (.agg _ (Shape.pu _));unfold zI at h;unfold apc;rcases au h with⟨e1,h⟩|⟨e1,h⟩
  ·obtain rfl:=ak h;try refine ah ?_
   exact(dH (.cons (.pure _ (.int _ _)) (.cons (.pure _ (.int _ _)) (.cons (.pure _ (.int _ _)) (.cons (.pure _ (.int _ _)) (.cons (.pure _ (.bool _)) (.cons (.pure _ (.bool _)) .nil)))))))
  ·try refine ah ?_
   obtain⟨o3,h4,h⟩:=aj h;refine WQ aT.kind _ _ _ (Fr.refl _ _) av _ h4 _ ?_
   ·rintro p5 σ' eo fr6 s9;rw [eo]at h;have s10:σ' 1=(.ref (AH.empty.next) 0):=(fr6 1 (by decide)).trans av;have s11:σ' 2=(.ref (AH.empty.next+1) 0):=(fr6 2 (by decide)).trans av;have s12:σ' 3=(.fn (.func 140) [] []):=(fr6 3 (by decide)).trans av;have s13:σ' 4=(.int .i64 (aT.names.length:Int)):=(fr6 4 (by decide)).trans av;have s14:σ' 11=(.int .i64 aT.kind):=(fr6 11 (by decide)).trans av;rcases au h with⟨e15,h⟩|⟨e15,h⟩
    ·obtain rfl:=ak h;try refine ah ?_
     exact(dH (.cons (.pure _ (.int _ _)) (.cons (.pure _ (.int _ _)) (.cons (.pure _ (.int _ _)) (.cons (.pure _ (.int _ _)) (.cons (.pure _ (.bool _)) (.cons (.pure _ (.bool _)) .nil)))))))
    ·rcases au h with⟨e16,h⟩|⟨e16,h⟩
     ·obtain⟨mR,e17,h⟩:=aj h;try refine ah ?_
      refine aA (qj e17) ?_;rcases au h with⟨e19,h⟩|⟨e19,h⟩
      ·obtain rfl:=ak h;try refine ah ?_
       exact(dH (.cons (.pure _ (.int _ _)) (.cons (.pure _ (.int _ _)) (.cons (.pure _ (.int _ _)) (.cons (.pure _ (.int _ _)) (.cons (.pure _ (.bool _)) (.cons (.pure _ (.bool _)) .nil)))))))
      ·obtain rfl:=ak h;try refine ah ?_
       exact(dH (.cons (.pure _ (.int _ _)) (.cons (.pure _ (.int _ _)) (.cons (.pure _ (.int _ _)) (.cons (.pure _ (.int _ _)) (.cons (.pure _ (.bool _)) (.cons (.pure _ (.bool _)) .nil)))))))
     ·try refine ah ?_
      obtain⟨o21,h22,h⟩:=aj h;refine WT aT.kind _ _ _ (Fr.refl _ _) av _ h22 _ ?_
      ·rintro jL σ' eo M4 X9;rw [eo]at h;have s28:σ' 2=(.ref (AH.empty.next+1) 0):=(M4 2 (by decide)).trans av;have s29:σ' 3=(.fn (.func 140) [] []):=(M4 3 (by decide)).trans av;have s30:σ' 4=(.int .i64 (aT.names.length:Int)):=(M4 4 (by decide)).trans av;have s31:σ' 11=(.int .i64 aT.kind):=(M4 11 (by decide)).trans av;rcases au h with⟨e32,h⟩|⟨e32,h⟩
       ·obtain rfl:=ak h;try refine ah ?_
        exact(dH (.cons (.pure _ (.int _ _)) (.cons (.pure _ (.int _ _)) (.cons (.pure _ (.int _ _)) (.cons (.pure _ (.int _ _)) (.cons (.pure _ (.bool _)) (.cons (.pure _ (.bool _)) .nil)))))))
       ·try refine ah ?_
        obtain⟨o34,h35,h⟩:=aj h;refine WU aT.kind _ _ _ (Fr.refl _ _) av _ h35 _ ?_
        ·rintro p36 σ' eo ae9 s40;rw [eo]at h;have s41:σ' 2=(.ref (AH.empty.next+1) 0):=(ae9 2 (by decide)).trans av;have s42:σ' 3=(.fn (.func 140) [] []):=(ae9 3 (by decide)).trans av;have s43:σ' 4=(.int .i64 (aT.names.length:Int)):=(ae9 4 (by decide)).trans av;have s44:σ' 11=(.int .i64 aT.kind):=(ae9 11 (by decide)).trans av;rcases au h with⟨e45,h⟩|⟨e45,h⟩
         ·obtain⟨p47,e46,h⟩:=aj h;try refine ah ?_
          refine aA (Ej e46) ?_;obtain rfl:=ak h;try refine ah ?_
          exact(dH (.cons (.pure _ (.int _ _)) (.cons (.pure _ (.int _ _)) (.cons (.pure _ (.int _ _)) (.cons (.pure _ (.int _ _)) (.cons (.pure _ (.bool _)) (.cons (.pure _ (.bool _)) .nil)))))))
         ·try refine ah ?_
          obtain⟨o51,h52,h⟩:=aj h;refine WV aT.kind _ _ _ (Fr.refl _ _) av _ h52 _ ?_
          ·rintro p53 σ' eo Ke s57;rw [eo]at h;have s58:σ' 2=(.ref (AH.empty.next+1) 0):=(Ke 2 (by decide)).trans av;have s59:σ' 3=(.fn (.func 140) [] []):=(Ke 3 (by decide)).trans av;have s60:σ' 4=(.int .i64 (aT.names.length:Int)):=(Ke 4 (by decide)).trans av;have s61:σ' 11=(.int .i64 aT.kind):=(Ke 11 (by decide)).trans av;rcases au h with⟨e62,h⟩|⟨e62,h⟩
           ·obtain rfl:=ak h;try refine ah ?_
            exact(dH (.cons (.pure _ (.int _ _)) (.cons (.pure _ (.int _ _)) (.cons (.pure _ (.int _ _)) (.cons (.pure _ (.int _ _)) (.cons (.pure _ (.bool _)) (.cons (.pure _ (.bool _)) .nil)))))))
           ·try refine ah ?_
            obtain⟨o64,h65,h⟩:=aj h;refine WW aT.kind _ _ _ (Fr.refl _ _) av _ h65 _ ?_
            ·rintro p66 σ' eo M5 s70;rw [eo]at h;have s71:σ' 2=(.ref (AH.empty.next+1) 0):=(M5 2 (by decide)).trans av;have s72:σ' 3=(.fn (.func 140) [] []):=(M5 3 (by decide)).trans av;have s73:σ' 4=(.int .i64 (aT.names.length:Int)):=(M5 4 (by decide)).trans av;have s74:σ' 11=(.int .i64 aT.kind):=(M5 11 (by decide)).trans av;rcases au h with⟨Hr,h⟩|⟨Hr,h⟩
             ·obtain rfl:=ak h;try refine ah ?_
              exact(dH (.cons (.pure _ (.int _ _)) (.cons (.pure _ (.int _ _)) (.cons (.pure _ (.int _ _)) (.cons (.pure _ (.int _ _)) (.cons (.pure _ (.bool _)) (.cons (.pure _ (.bool _)) .nil)))))))
             ·rcases au h with⟨Hq,h⟩|⟨Hq,h⟩
              ·obtain rfl:=ak h;try refine ah ?_
               exact(dH (.cons (.pure _ (.int _ _)) (.cons (.pure _ (.int _ _)) (.cons (.pure _ (.int _ _)) (.cons (.pure _ (.int _ _)) (.cons (.pure _ (.bool _)) (.cons (.pure _ (.bool _)) .nil)))))))
              ·try refine ah ?_
               obtain⟨o78,h79,h⟩:=aj h;refine WX aT.kind _ _ _ (Fr.refl _ _) av _ h79 _ ?_
               ·rintro Av σ' eo Kz s84;rw [eo]at h;have s85:σ' 2=(.ref (AH.empty.next+1) 0):=(Kz 2 (by decide)).trans av;have s86:σ' 3=(.fn (.func 140) [] []):=(Kz 3 (by decide)).trans av;have s87:σ' 4=(.int .i64 (aT.names.length:Int)):=(Kz 4 (by decide)).trans av;have s88:σ' 11=(.int .i64 aT.kind):=(Kz 11 (by decide)).trans av;rcases au h with⟨Sj,h⟩|⟨Sj,h⟩
                ·obtain rfl:=ak h;try refine ah ?_
                 exact(dH (.cons (.pure _ (.int _ _)) (.cons (.pure _ (.int _ _)) (.cons (.pure _ (.int _ _)) (.cons (.pure _ (.int _ _)) (.cons (.pure _ (.bool _)) (.cons (.pure _ (.bool _)) .nil)))))))
                ·rcases au h with⟨Sk,h⟩|⟨Sk,h⟩
                 ·obtain rfl:=ak h;try refine ah ?_
                  exact(dH (.cons (.pure _ (.int _ _)) (.cons (.pure _ (.int _ _)) (.cons (.pure _ (.int _ _)) (.cons (.pure _ (.int _ _)) (.cons (.pure _ (.bool _)) (.cons (.pure _ (.bool _)) .nil)))))))
                 ·try refine ah ?_
                  obtain⟨o92,h93,h⟩:=aj h;refine WY aT.kind _ _ _ (Fr.refl _ _) av _ h93 _ ?_
                  ·rintro X6 σ' eo aiR s98;rw [eo]at h;have s99:σ' 2=(.ref (AH.empty.next+1) 0):=(aiR 2 (by decide)).trans av;have aiB:σ' 3=(.fn (.func 140) [] []):=(aiR 3 (by decide)).trans av;have avY:σ' 11=(.int .i64 aT.kind):=(aiR 11 (by decide)).trans av;rcases au h with⟨Kj,h⟩|⟨Kj,h⟩
                   ·obtain⟨Ki,Ea,h⟩:=aj h;try refine ah ?_
                    refine aA (Ej Ea) ?_;obtain rfl:=ak h;try refine ah ?_
                    exact(dH (.cons (.pure _ (.int _ _)) (.cons (.pure _ (.int _ _)) (.cons (.pure _ (.int _ _)) (.cons (.pure _ (.int _ _)) (.cons (.pure _ (.bool _)) (.cons (.pure _ (.bool _)) .nil)))))))
                   ·rcases au h with⟨Eb,h⟩|⟨Eb,h⟩
                    ·obtain rfl:=ak h;try refine ah ?_
                     exact(dH (.cons (.pure _ (.int _ _)) (.cons (.pure _ (.int _ _)) (.cons (.pure _ (.int _ _)) (.cons (.pure _ (.int _ _)) (.cons (.pure _ (.bool _)) (.cons (.pure _ (.bool _)) .nil)))))))
                    ·rcases au h with⟨Kk,h⟩|⟨Kk,h⟩
                     ·obtain rfl:=ak h;try refine ah ?_
                      exact(dH (.cons (.pure _ (.int _ _)) (.cons (.pure _ (.int _ _)) (.cons (.pure _ (.int _ _)) (.cons (.pure _ (.int _ _)) (.cons (.pure _ (.bool _)) (.cons (.pure _ (.bool _)) .nil)))))))
                     ·rcases au h with⟨Eo,h⟩|⟨Eo,h⟩
                      ·obtain rfl:=ak h;try refine ah ?_
                       exact(dH (.cons (.pure _ (.int _ _)) (.cons (.pure _ (.int _ _)) (.cons (.pure _ (.int _ _)) (.cons (.pure _ (.int _ _)) (.cons (.pure _ (.bool _)) (.cons (.pure _ (.bool _)) .nil)))))))
                      ·rcases au h with⟨e108,h⟩|⟨e108,h⟩
                       ·obtain rfl:=ak h;try refine ah ?_
                        exact(dH (.cons (.pure _ (.int _ _)) (.cons (.pure _ (.int _ _)) (.cons (.pure _ (.int _ _)) (.cons (.pure _ (.int _ _)) (.cons (.pure _ (.bool _)) (.cons (.pure _ (.bool _)) .nil)))))))
                       ·obtain⟨Gb,e109,h⟩:=aj h;try refine ah ?_
                        refine aA (Ej e109) ?_;obtain rfl:=ak h;try refine ah ?_
                        exact(dH (.cons (.pure _ (.int _ _)) (.cons (.pure _ (.int _ _)) (.cons (.pure _ (.int _ _)) (.cons (.pure _ (.int _ _)) (.cons (.pure _ (.bool _)) (.cons (.pure _ (.bool _)) .nil)))))))
def pU:Nat->(List Nd)->(List Int)->(List Int)->Int->Option (Unit⊕Bool)
  |0,_,_,_,_=>none
  |k+1,aH,wJ,l9,Hz=>
    if 0<=Hz then Option.bind (wJ[Hz.toNat]?) fun Yg=>cond (Yg !=(-1)) (if 0<=Yg then Option.bind (aH[Yg.toNat]?) fun x20=>cond (x20.kind==19) (Option.bind (l9[Hz.toNat]?) fun x23=>cond (x23==2) (some (.inr (false))) (pU k aH wJ l9 Yg)) (pU k aH wJ l9 Yg)else none) (some (.inl ()))else none
def Gc:List Nat:=[8,11]++List.range' 51 25
theorem Y2: ∀(k:Nat) (aH:List Nd) (wJ:List Int) (l9:List Int) (Hz:Int) (aC σ:Nat->PV) (H:AH) (f0:Fr Gc aC σ) (sl:σ 0=(.aB (aH.map Nd.cells) .unk)/\σ 2=(.aB (wJ.map bI) .unk)/\σ 3=(.aB (l9.map bI) .unk)/\σ 11=(.int .i64 Hz)) (o:Unit⊕Bool) (h:pU k aH wJ l9 Hz=some o) (Q:Post) (q0: ∀(p:Unit) (σ':Nat->PV),o= .inl p->Fr Gc aC σ'->Q (.exit 1) σ' H) (q1: ∀(p:Bool) (σ':Nat->PV),o= .inr (p)->Fr Gc aC σ'->(σ' 8=(.bool p))->Q .ret σ' H),W Tryz.prog (.loop U6) Q σ H:=by
  intro k
  induction k with
  |zero=>intro aH wJ l9 Hz aC σ H f0 sl o h Q q0 q1;simp only [pU,reduceCtorEq]at h
  |succ k ih=>
    intro aH wJ l9 Hz aC σ H f0 sl o h Q q0 q1;obtain⟨s0,s2,s3,s11⟩:=sl;unfold pU at h;refine bA (fun K hK=>aF ?_);unfold U6;obtain⟨e15,h⟩:=aD h;obtain⟨Yg,e17,h⟩:=aj h;rcases au h with⟨e18,h⟩|⟨e18,h⟩
    ·obtain⟨e19,h⟩:=aD h;obtain⟨x20,e21,h⟩:=aj h;rcases au h with⟨e22,h⟩|⟨e22,h⟩
     ·obtain⟨x23,e24,h⟩:=aj h;rcases au h with⟨e25,h⟩|⟨e25,h⟩
      ·obtain rfl:=ak h;try refine ah ?_
       exact q1 _ _ rfl aO av
      ·try refine ah ?_
       refine hK _ _ ?_;exact ih aH wJ l9 Yg _ _ _ aO av _ h _ q0 q1
     ·try refine ah ?_
      refine hK _ _ ?_;exact ih aH wJ l9 Yg _ _ _ aO av _ h _ q0 q1
    ·obtain rfl:=ak h;try refine ah ?_
     exact q0 _ _ rfl aO
def Gd (k:Nat) (aH:List Nd) (dO:Int) (wJ:List Int) (l9:List Int):Option Bool:=
  if 0<=dO then Option.bind (aH[dO.toNat]?) fun x2=>cond (x2.kind==24) (Option.bind (wJ[dO.toNat]?) fun x5=>cond (x5==(-1)) (some true) (if 0<=x5 then Option.bind (aH[x5.toNat]?) fun x9=>cond (x9.kind !=3) (some true) (Option.bind (kI k x9.text) fun xY=>some xY.2)else none)) (cond (x2.kind==20) (Option.bind (pU k aH wJ l9 dO) (fun o=>Sum.elim (fun p28=>some true) (fun p32=>some p32) o)) (some false))else none
theorem afa {k:Nat} {aH:List Nd} {dO:Int} {wJ:List Int} {l9:List Int} {c0 c2 c3:Ck} {r:Bool} (h:Gd k aH dO wJ l9=some r):aG Tryz.prog 51 [(.aB (aH.map Nd.cells) c0),(.int .i64 dO),(.aB (wJ.map bI) c2),(.aB (l9.map bI) c3)] (.bool r):=by
  refine aG.lw (.aB (.same (.aB (.aB .nil)))) (aG.aR (bB.mem (.cons (bC Nd.pu _) (.cons (.int _ _) (.cons (bC jg _) (.cons (bC jg _) .nil))))) (aI au6 (by simp) (aF ?_)) (.bool _));unfold Gd at h;unfold aoM;obtain⟨e1,h⟩:=aD h;obtain⟨x2,e3,h⟩:=aj h;rcases au h with⟨e4,h⟩|⟨e4,h⟩
  ·obtain⟨x5,e6,h⟩:=aj h;rcases au h with⟨e7,h⟩|⟨e7,h⟩
   ·obtain rfl:=ak h;try refine ah ?_
    exact(.pure _ (.bool _))
   ·obtain⟨e8,h⟩:=aD h;obtain⟨x9,e10,h⟩:=aj h;rcases au h with⟨e11,h⟩|⟨e11,h⟩
    ·obtain rfl:=ak h;try refine ah ?_
     exact(.pure _ (.bool _))
    ·obtain⟨xY,e12,h⟩:=aj h;try refine ah ?_
     refine aA (qj e12) ?_;obtain rfl:=ak h;try refine ah ?_
     exact(.pure _ (.bool _))
  ·rcases au h with⟨e14,h⟩|⟨e14,h⟩
   ·try refine ah ?_
    obtain⟨o26,h27,h⟩:=aj h;refine Y2 k aH wJ l9 dO _ _ _ (Fr.refl _ _) av _ h27 _ ?_ ?_
    ·rintro p28 σ' eo Mj;subst eo;rw [dD]at h;obtain rfl:=ak h;try refine ah ?_
     exact(.pure _ (.bool _))
    ·rintro p32 σ' eo vo s36;subst eo;rw [dK]at h;obtain rfl:=ak h;try refine ah ?_
     exact(.pure _ (.bool _))
   ·obtain rfl:=ak h;try refine ah ?_
    exact(.pure _ (.bool _))
def wM (k:Nat) (s_0:Str):Option Bool:=
  Option.bind (ou k s_0) fun p2=>some (!p2)
theorem WZ {k:Nat} {s_0:Str} {r:Bool} (h:wM k s_0=some r):aG Tryz.prog 145 [(.str s_0)] (.bool r):=by
  refine aG.aR (bB.mem (.cons (.str _) .nil)) (aI asz (by simp) (aF ?_)) (.bool _);unfold wM at h;unfold akL;obtain⟨p2,e1,h⟩:=aj h;try refine ah ?_
  refine aA (q8 e1) ?_;obtain rfl:=ak h;try refine ah ?_
  exact(.pure _ (.bool _))
def bN:Nat->(List Str)->Int->Int->Option (Unit⊕Int)
  |0,_,_,_=>none
  |k+1,s_0,j5,eY=>
    cond (decide (eY<j5)) (if 0<=eY then Option.bind (s_0[eY.toNat]?) fun x3=>Option.bind (wM k x3) fun p6=>cond p6 (some (.inr (eY))) (bN k s_0 j5 (IntKind.wrap .i64 (eY+1)))else none) (some (.inl ()))
def jO:List Nat:=[4,5]++List.range' 8 11
theorem wN: ∀(k:Nat) (s_0:List Str) (j5:Int) (eY:Int) (aC σ:Nat->PV) (H:AH) (f0:Fr jO aC σ) (sl:σ 0=(.aB (s_0.map aX) .unk)/\σ 1=(.fn (.func 145) [] [])/\σ 7=(.int .i64 j5)/\σ 8=(.int .i64 eY)) (o:Unit⊕Int) (h:bN k s_0 j5 eY=some o) (Q:Post) (q0: ∀(p:Unit) (σ':Nat->PV),o= .inl p->Fr jO aC σ'->Q (.exit 0) σ' H) (q1: ∀(p:Int) (σ':Nat->PV),o= .inr (p)->Fr jO aC σ'->(σ' 4=(.int .i64 p))->Q .ret σ' H),W Tryz.prog (.loop QX) Q σ H:=by
  intro k
  induction k with
  |zero=>intro s_0 j5 eY aC σ H f0 sl o h Q q0 q1;simp only [bN,reduceCtorEq]at h
  |succ k ih=>
    intro s_0 j5 eY aC σ H f0 sl o h Q q0 q1;obtain⟨s0,s1,s7,s8⟩:=sl;unfold bN at h;refine bA (fun K hK=>aF ?_);unfold QX;rcases au h with⟨e1,h⟩|⟨e1,h⟩
    ·obtain⟨e2,h⟩:=aD h;obtain⟨x3,e4,h⟩:=aj h;obtain⟨p6,e5,h⟩:=aj h;try refine ah ?_
     refine aA (WZ e5) ?_;rcases au h with⟨e7,h⟩|⟨e7,h⟩
     ·obtain rfl:=ak h;try refine ah ?_
      exact q1 _ _ rfl aO av
     ·try refine ah ?_
      refine hK _ _ ?_;exact ih s_0 j5 (IntKind.wrap .i64 (eY+1)) _ _ _ aO av _ h _ q0 q1
    ·obtain rfl:=ak h;try refine ah ?_
     exact q0 _ _ rfl aO
def gP (k:Nat) (s_0:List Str):Option Int:=
  Option.bind (bN k s_0 (s_0.length:Int) 0) (fun o=>Sum.elim (fun fE=>some (-1)) (fun ig=>some ig) o)
theorem yK {k:Nat} {s_0:List Str} {c0:Ck} {r:Int} (h:gP k s_0=some r):aG Tryz.prog 186 [(.aB (s_0.map aX) c0),(.fn (.func 145) [] [])] (.int .i64 r):=by
  refine aG.lw (.aB (.same .nil)) (aG.aR (bB.mem (.cons (bC cO _) (.cons (.fn _ _ _ (bB.mem .nil) (bB.mem .nil)) .nil))) (aI asV (by simp) (aF ?_)) (.int _ _));unfold gP at h;unfold ak7;try refine ah ?_
  obtain⟨o8,h9,h⟩:=aj h;refine wN k s_0 (s_0.length:Int) 0 _ _ _ (Fr.refl _ _) av _ h9 _ ?_ ?_
  ·rintro fE σ' eo V7;subst eo;rw [dD]at h;obtain rfl:=ak h;try refine ah ?_
   exact(.pure _ (.int _ _))
  ·rintro ig σ' eo vS pK;subst eo;rw [dK]at h;obtain rfl:=ak h;try refine ah ?_
   exact(.pure _ (.int _ _))
def gq (k:Nat) (s_0:List Str):Option Bool:=
  Option.bind (gP k s_0) fun p2=>some (decide (p2>=0))
theorem wO {k:Nat} {s_0:List Str} {c0:Ck} {r:Bool} (h:gq k s_0=some r):aG Tryz.prog 144 [(.aB (s_0.map aX) c0),(.fn (.func 145) [] [])] (.bool r):=by
  refine aG.lw (.aB (.same .nil)) (aG.aR (bB.mem (.cons (bC cO _) (.cons (.fn _ _ _ (bB.mem .nil) (bB.mem .nil)) .nil))) (aI asy (by simp) (aF ?_)) (.bool _));unfold gq at h;unfold akK;obtain⟨p2,e1,h⟩:=aj h;try refine ah ?_
  refine aA (yK e1) ?_;obtain rfl:=ak h;try refine ah ?_
  exact(.pure _ (.bool _))
def yO (k:Nat) (eD:Int) (fG:Int) (dZ:Str) (eP:List Str) (fu:List Int) (tZ:Bool):Option Bool:=
  cond tZ (some (true)) (Option.bind (Du dZ) fun p8=>cond p8 (some (false)) (Option.bind (xD k dZ) fun pI=>some ((!pI))))
def Jy:List Nat:=List.range' 25 11
theorem SS (k:Nat): ∀(fH:Nat) (eD:Int) (fG:Int) (dZ:Str) (eP:List Str) (fu:List Int) (tZ:Bool) (aC σ:Nat->PV) (H:AH) (f0:Fr Jy aC σ) (sl:σ 1=(.ref (fH) 0)/\σ 24=(.bool tZ)/\H.obj fH=some [(.int .i64 eD),(.int .i64 fG),(.str dZ),(.aB (eP.map aX) .unk),(.aB (fu.map bI) .unk)]) (iw:fH<H.next) (o:Bool) (h:yO k eD fG dZ eP fu tZ=some o) (Q:Post) (q0: ∀(p:Bool) (σ':Nat->PV),o=p->Fr Jy aC σ'->(σ' 35=(.bool p))->Q .normal σ' H),dB Tryz.prog VN (Q .normal) σ H:=by
  intro fH eD fG dZ eP fu tZ aC σ H f0 sl iw o h Q q0;obtain⟨s1,s24,Jz⟩:=sl;have JA:=ne_next iw;have JB:=aU iw;unfold yO at h;refine dw ?_;unfold VN;rcases au h with⟨e6,h⟩|⟨e6,h⟩
  ·obtain rfl:=ak h;try refine ah ?_
   exact q0 _ _ rfl aO av
  ·obtain⟨p8,e7,h⟩:=aj h;try refine ah ?_
   refine aA (Pq e7) ?_;rcases au h with⟨e9,h⟩|⟨e9,h⟩
   ·obtain rfl:=ak h;try refine ah ?_
    exact q0 _ _ rfl aO av
   ·obtain⟨pI,e10,h⟩:=aj h;try refine ah ?_
    refine aA (M0 e10) ?_;obtain rfl:=ak h;try refine ah ?_
    exact q0 _ _ rfl aO av
def yP (k:Nat) (eD:Int) (fG:Int) (dZ:Str) (eP:List Str) (fu:List Int) (iU:Bool) (aa6:Bool):Option Bool:=
  cond aa6 (some (true)) (cond iU (some (false)) (Option.bind (xD k dZ) fun p25=>some ((!p25))))
def JC:List Nat:=List.range' 40 9
theorem SV (k:Nat): ∀(fH:Nat) (eD:Int) (fG:Int) (dZ:Str) (eP:List Str) (fu:List Int) (iU:Bool) (aa6:Bool) (aC σ:Nat->PV) (H:AH) (f0:Fr JC aC σ) (sl:σ 1=(.ref (fH) 0)/\σ 5=(.bool iU)/\σ 39=(.bool aa6)/\H.obj fH=some [(.int .i64 eD),(.int .i64 fG),(.str dZ),(.aB (eP.map aX) .unk),(.aB (fu.map bI) .unk)]) (iw:fH<H.next) (o:Bool) (h:yP k eD fG dZ eP fu iU aa6=some o) (Q:Post) (q0: ∀(p:Bool) (σ':Nat->PV),o=p->Fr JC aC σ'->(σ' 48=(.bool p))->Q .normal σ' H),dB Tryz.prog VO (Q .normal) σ H:=by
  intro fH eD fG dZ eP fu iU aa6 aC σ H f0 sl iw o h Q q0;obtain⟨s1,s5,s39,Jz⟩:=sl;have JA:=ne_next iw;have JB:=aU iw;unfold yP at h;refine dw ?_;unfold VO;rcases au h with⟨e22,h⟩|⟨e22,h⟩
  ·obtain rfl:=ak h;try refine ah ?_
   exact q0 _ _ rfl aO av
  ·rcases au h with⟨e23,h⟩|⟨e23,h⟩
   ·obtain rfl:=ak h;try refine ah ?_
    exact q0 _ _ rfl aO av
   ·obtain⟨p25,e24,h⟩:=aj h;try refine ah ?_
    refine aA (M0 e24) ?_;obtain rfl:=ak h;try refine ah ?_
    exact q0 _ _ rfl aO av
def yQ (eD:Int) (fG:Int) (dZ:Str) (eP:List Str) (fu:List Int) (AY:Str) (AZ:Int) (A8:Int) (A9:Int) (Ba:Bool) (yR:Int) (yS:Int) (aa7:Bool):Option Bool:=
  cond aa7 (Option.bind (gU (fu.length:Int) yR yS) fun p38=>some ((!p38))) (some (false))
def JD:List Nat:=List.range' 51 10
theorem SX: ∀(fH:Nat) (xI:Nat) (eD:Int) (fG:Int) (dZ:Str) (eP:List Str) (fu:List Int) (AY:Str) (AZ:Int) (A8:Int) (A9:Int) (Ba:Bool) (yR:Int) (yS:Int) (aa7:Bool) (aC σ:Nat->PV) (H:AH) (f0:Fr JD aC σ) (sl:σ 1=(.ref (fH) 0)/\σ 4=(.ref (xI) 0)/\σ 50=(.bool aa7)/\H.obj fH=some [(.int .i64 eD),(.int .i64 fG),(.str dZ),(.aB (eP.map aX) .unk),(.aB (fu.map bI) .unk)]/\H.obj xI=some [(.str AY),(.int .i64 AZ),(.int .i64 A8),(.int .i64 A9),(.bool Ba),(.int .i64 yR),(.int .i64 yS)]) (iw:fH<H.next) (Ct:xI<H.next) (oz:fH≠xI) (o:Bool) (h:yQ eD fG dZ eP fu AY AZ A8 A9 Ba yR yS aa7=some o) (Q:Post) (q0: ∀(p:Bool) (σ':Nat->PV),o=p->Fr JD aC σ'->(σ' 60=(.bool p))->Q .normal σ' H),dB Tryz.prog VP (Q .normal) σ H:=by
  intro fH xI eD fG dZ eP fu AY AZ A8 A9 Ba yR yS aa7 aC σ H f0 sl iw Ct oz o h Q q0;obtain⟨s1,s4,s50,Jz,amR⟩:=sl;have JA:=ne_next iw;have JB:=aU iw;have amS:=ne_next Ct;have amT:=aU Ct;have Y3:=eq_false oz;have Y4:=eq_false (Ne.symm oz);unfold yQ at h;refine dw ?_;unfold VP;rcases au h with⟨e36,h⟩|⟨e36,h⟩
  ·obtain⟨p38,e37,h⟩:=aj h;try refine ah ?_
   refine aA (gW e37) ?_;obtain rfl:=ak h;try refine ah ?_
   exact q0 _ _ rfl aO av
  ·obtain rfl:=ak h;try refine ah ?_
   exact q0 _ _ rfl aO av
def yT (k:Nat) (eD:Int) (fG:Int) (dZ:Str) (eP:List Str) (fu:List Int) (aa8:Bool):Option Bool:=
  cond aa8 (some (true)) (Option.bind (ou k dZ) fun p51=>some ((!p51)))
def JE:List Nat:=[65,66,67,68,69]
theorem SY (k:Nat): ∀(fH:Nat) (eD:Int) (fG:Int) (dZ:Str) (eP:List Str) (fu:List Int) (aa8:Bool) (aC σ:Nat->PV) (H:AH) (f0:Fr JE aC σ) (sl:σ 1=(.ref (fH) 0)/\σ 64=(.bool aa8)/\H.obj fH=some [(.int .i64 eD),(.int .i64 fG),(.str dZ),(.aB (eP.map aX) .unk),(.aB (fu.map bI) .unk)]) (iw:fH<H.next) (o:Bool) (h:yT k eD fG dZ eP fu aa8=some o) (Q:Post) (q0: ∀(p:Bool) (σ':Nat->PV),o=p->Fr JE aC σ'->(σ' 69=(.bool p))->Q .normal σ' H),dB Tryz.prog VQ (Q .normal) σ H:=by
  intro fH eD fG dZ eP fu aa8 aC σ H f0 sl iw o h Q q0;obtain⟨s1,s64,Jz⟩:=sl;have JA:=ne_next iw;have JB:=aU iw;unfold yT at h;refine dw ?_;unfold VQ;rcases au h with⟨e49,h⟩|⟨e49,h⟩
  ·obtain rfl:=ak h;try refine ah ?_
   exact q0 _ _ rfl aO av
  ·obtain⟨p51,e50,h⟩:=aj h;try refine ah ?_
   refine aA (q8 e50) ?_;obtain rfl:=ak h;try refine ah ?_
   exact q0 _ _ rfl aO av
def yU (k:Nat) (eD:Int) (fG:Int) (dZ:Str) (eP:List Str) (fu:List Int) (Bb:Bool) (AY:Str) (AZ:Int) (A8:Int) (A9:Int) (Ba:Bool) (yR:Int) (yS:Int) (iU:Bool):Option ((Bool×Bool)):=
  cond (eD==2) (Option.bind (yO k eD fG dZ eP fu Bb) (fun ig=>some ((ig,false)))) (cond (eD==3) (Option.bind (yP k eD fG dZ eP fu iU Bb) (fun p28=>Option.bind (yQ eD fG dZ eP fu AY AZ A8 A9 Ba yR yS iU) (fun p41=>some ((p28,p41))))) (cond (eD==18) (Option.bind (yT k eD fG dZ eP fu Bb) (fun p54=>some ((p54,false)))) (some ((Bb,false)))))
def JF:List Nat:=[3,6]++List.range' 19 51
theorem S9 (k:Nat): ∀(fH:Nat) (xI:Nat) (eD:Int) (fG:Int) (dZ:Str) (eP:List Str) (fu:List Int) (Bb:Bool) (AY:Str) (AZ:Int) (A8:Int) (A9:Int) (Ba:Bool) (yR:Int) (yS:Int) (iU:Bool) (aC σ:Nat->PV) (H:AH) (f0:Fr JF aC σ) (sl:σ 1=(.ref (fH) 0)/\σ 3=(.bool Bb)/\σ 4=(.ref (xI) 0)/\σ 5=(.bool iU)/\σ 6=(.bool false)/\H.obj fH=some [(.int .i64 eD),(.int .i64 fG),(.str dZ),(.aB (eP.map aX) .unk),(.aB (fu.map bI) .unk)]/\H.obj xI=some [(.str AY),(.int .i64 AZ),(.int .i64 A8),(.int .i64 A9),(.bool Ba),(.int .i64 yR),(.int .i64 yS)]) (iw:fH<H.next) (Ct:xI<H.next) (oz:fH≠xI) (o:(Bool×Bool)) (h:yU k eD fG dZ eP fu Bb AY AZ A8 A9 Ba yR yS iU=some o) (Q:Post) (q0: ∀(p:Bool×Bool) (σ':Nat->PV),o=p->Fr JF aC σ'->(σ' 3=(.bool p.1)/\σ' 6=(.bool p.2))->Q .normal σ' H),W Tryz.prog VR Q σ H:=by
  intro fH xI eD fG dZ eP fu Bb AY AZ A8 A9 Ba yR yS iU aC σ H f0 sl iw Ct oz o h Q q0;obtain⟨s1,s3,s4,s5,s6,Jz,amR⟩:=sl;have JA:=ne_next iw;have JB:=aU iw;have amS:=ne_next Ct;have amT:=aU Ct;have Y3:=eq_false oz;have Y4:=eq_false (Ne.symm oz);unfold yU at h;refine aF ?_;unfold VR;rcases au h with⟨e5,h⟩|⟨e5,h⟩
  ·try refine ah ?_
   obtain⟨o12,Jk,h⟩:=aj h;refine SS k (fH) eD fG dZ eP fu Bb _ _ _ (Fr.refl _ _) av bE _ Jk _ ?_
   ·rintro ig σ' eo vS pK;rw [eo]at h;have qH:σ' 1=(.ref (fH) 0):=(vS 1 (by decide)).trans av;have s20:σ' 6=(.bool false):=(vS 6 (by decide)).trans av;obtain rfl:=ak h;try refine ah ?_
    exact q0 _ _ rfl (by repeat (first|exact f0|refine Fr.upd (by decide) ?_|refine Fr.via vS (by decide) ?_)) av
  ·rcases au h with⟨e21,h⟩|⟨e21,h⟩
   ·try refine ah ?_
    obtain⟨o26,h27,h⟩:=aj h;refine SV k (fH) eD fG dZ eP fu iU Bb _ _ _ (Fr.refl _ _) av bE _ h27 _ ?_
    ·rintro p28 σ' eo Mj s32;rw [eo]at h;have s33:σ' 1=(.ref (fH) 0):=(Mj 1 (by decide)).trans av;have s34:σ' 4=(.ref (xI) 0):=(Mj 4 (by decide)).trans av;have s35:σ' 5=(.bool iU):=(Mj 5 (by decide)).trans av;try refine ah ?_
     obtain⟨o39,Js,h⟩:=aj h;refine SX (fH) (xI) eD fG dZ eP fu AY AZ A8 A9 Ba yR yS iU _ _ _ (Fr.refl _ _) av bE bE bE _ Js _ ?_
     ·rintro p41 σ' eo Eh s45;rw [eo]at h;have s46:σ' 1=(.ref (fH) 0):=(Eh 1 (by decide)).trans av;have s47:σ' 3=(.bool p28):=(Eh 3 (by decide)).trans av;obtain rfl:=ak h;try refine ah ?_
      exact q0 _ _ rfl (by repeat (first|exact f0|refine Fr.upd (by decide) ?_|refine Fr.via Mj (by decide) ?_|refine Fr.via Eh (by decide) ?_)) av
   ·rcases au h with⟨e48,h⟩|⟨e48,h⟩
    ·try refine ah ?_
     obtain⟨o52,h53,h⟩:=aj h;refine SY k (fH) eD fG dZ eP fu Bb _ _ _ (Fr.refl _ _) av bE _ h53 _ ?_
     ·rintro p54 σ' eo aa2 s58;rw [eo]at h;have s59:σ' 1=(.ref (fH) 0):=(aa2 1 (by decide)).trans av;have s60:σ' 6=(.bool false):=(aa2 6 (by decide)).trans av;obtain rfl:=ak h;try refine ah ?_
      exact q0 _ _ rfl (by repeat (first|exact f0|refine Fr.upd (by decide) ?_|refine Fr.via aa2 (by decide) ?_)) av
    ·obtain rfl:=ak h;try refine ah ?_
     exact q0 _ _ rfl aO av
def iZ:Nat->Int->Int->Str->(List Str)->(List Int)->Bool->(List Str)->Int->Int->Option Bool
  |0,_,_,_,_,_,_,_,_,_=>none
  |k+1,eD,fG,dZ,eP,fu,Cu,I7,I8,rV=>
    cond (decide (rV<I8)) (if 0<=rV then Option.bind (I7[rV.toNat]?) fun x72=>cond Cu (iZ k eD fG dZ eP fu true I7 I8 (IntKind.wrap .i64 (rV+1))) (if 0<=rV/\rV.toNat<=eP.length then Option.bind (dV k (eP.take rV.toNat) x72) fun Ta=>iZ k eD fG dZ eP fu Ta I7 I8 (IntKind.wrap .i64 (rV+1))else none)else none) (some (Cu))
def JG:List Nat:=[7,8,9]++List.range' 73 15
theorem Tc: ∀(k:Nat) (fH:Nat) (eD:Int) (fG:Int) (dZ:Str) (eP:List Str) (fu:List Int) (Cu:Bool) (I7:List Str) (I8:Int) (rV:Int) (aC σ:Nat->PV) (H:AH) (f0:Fr JG aC σ) (sl:σ 1=(.ref (fH) 0)/\σ 7=(.bool Cu)/\σ 71=(.aB (I7.map aX) .unk)/\σ 72=(.int .i64 I8)/\σ 73=(.int .i64 rV)/\H.obj fH=some [(.int .i64 eD),(.int .i64 fG),(.str dZ),(.aB (eP.map aX) .unk),(.aB (fu.map bI) .unk)]) (iw:fH<H.next) (o:Bool) (h:iZ k eD fG dZ eP fu Cu I7 I8 rV=some o) (Q:Post) (q0: ∀(p:Bool) (σ':Nat->PV),o=p->Fr JG aC σ'->(σ' 7=(.bool p))->Q (.exit 1) σ' H),W Tryz.prog (.loop VT) Q σ H:=by
  intro k
  induction k with
  |zero=>intro fH eD fG dZ eP fu Cu I7 I8 rV aC σ H f0 sl iw o h Q q0;simp only [iZ,reduceCtorEq]at h
  |succ k ih=>
    intro fH eD fG dZ eP fu Cu I7 I8 rV aC σ H f0 sl iw o h Q q0;obtain⟨s1,s7,s71,s72,s73,Jz⟩:=sl;have JA:=ne_next iw;have JB:=aU iw;unfold iZ at h;refine bA (fun K hK=>aF ?_);unfold VT;rcases au h with⟨La,h⟩|⟨La,h⟩
    ·obtain⟨Pk,h⟩:=aD h;obtain⟨x72,Jo,h⟩:=aj h;rcases au h with⟨Pg,h⟩|⟨Pg,h⟩
     ·try refine ah ?_
      refine hK _ _ ?_;exact ih fH eD fG dZ eP fu true I7 I8 (IntKind.wrap .i64 (rV+1)) _ _ _ aO av bE _ h _ q0
     ·obtain⟨Hr,h⟩:=aD h;obtain⟨Ta,Hq,h⟩:=aj h;try refine ah ?_
      refine aA (kT Hq) ?_;try refine ah ?_
      refine hK _ _ ?_;exact ih fH eD fG dZ eP fu Ta I7 I8 (IntKind.wrap .i64 (rV+1)) _ _ _ aO av bE _ h _ q0
    ·obtain rfl:=ak h;try refine ah ?_
     exact q0 _ _ rfl aO av
def pq (k:Nat) (aT:Nd):Option Int:=
  Option.bind (gq k aT.names) fun p2=>Option.bind (kI k aT.text) fun p4=>Option.bind (yU k aT.kind aT.n aT.text aT.names aT.args p2 p4.1.text p4.1.fix p4.1.low p4.1.high p4.1.left p4.1.least p4.1.most p4.2) (fun p63=>Option.bind (iZ k aT.kind aT.n aT.text aT.names aT.args false aT.names (aT.names.length:Int) 0) (fun Av=>Option.bind (mM p63.1 7) fun p88=>Option.bind (mM p63.2 17) fun p90=>Option.bind (mM Av 12) fun Eu=>Option.bind (iJ k [p88,p90,Eu]) fun X6=>some X6))
theorem Bc {k:Nat} {aT:Nd} {r:Int} (h:pq k aT=some r):aG Tryz.prog 93 [(.agg (Nd.cells aT))] (.int .i64 r):=by
  refine aG.aR (bB.mem (.cons (.agg _ (Nd.pu _)) .nil)) (aI avt (by simp) (aF ?_)) (.int _ _);unfold pq at h;unfold apf;obtain⟨p2,e1,h⟩:=aj h;try refine ah ?_
  refine aA (wO e1) ?_;obtain⟨p4,e3,h⟩:=aj h;try refine ah ?_
  refine aA (qj e3) ?_;try refine ah ?_
  obtain⟨o61,h62,h⟩:=aj h;refine S9 k (AH.empty.next) (AH.empty.next+1) aT.kind aT.n aT.text aT.names aT.args p2 p4.1.text p4.1.fix p4.1.low p4.1.high p4.1.left p4.1.least p4.1.most p4.2 _ _ _ (Fr.refl _ _) av bE bE bE _ h62 _ ?_
  ·rintro p63 σ' eo IU ⟨s67,s68⟩;rw [eo]at h;have s69:σ' 1=(.ref (AH.empty.next) 0):=(IU 1 (by decide)).trans av;try refine ah ?_
   obtain⟨o78,h79,h⟩:=aj h;refine Tc k (AH.empty.next) aT.kind aT.n aT.text aT.names aT.args false aT.names (aT.names.length:Int) 0 _ _ _ (Fr.refl _ _) av bE _ h79 _ ?_
   ·rintro Av σ' eo Kz s84;rw [eo]at h;have s85:σ' 3=(.bool p63.1):=(Kz 3 (by decide)).trans av;have s86:σ' 6=(.bool p63.2):=(Kz 6 (by decide)).trans av;obtain⟨p88,e87,h⟩:=aj h;try refine ah ?_
    refine aA (mh e87) ?_;obtain⟨p90,Sj,h⟩:=aj h;try refine ah ?_
    refine aA (mh Sj) ?_;obtain⟨Eu,Jj,h⟩:=aj h;try refine ah ?_
    refine aA (mh Jj) ?_;obtain⟨X6,Jp,h⟩:=aj h;try refine ah ?_
    refine aA (mO Jp) ?_;obtain rfl:=ak h;try refine ah ?_
    exact(.pure _ (.int _ _))
def Bd (og:Int) (kr:Int) (nu:Str) (rY:List Str) (mF:List Int) (EI:Int) (EJ:Int) (C8:Int) (C9:Int) (EK:Bool) (Bf:Bool) (aa9:Bool):Option Bool:=
  cond aa9 (some (true)) (Option.bind (gU (mF.length:Int) C8 C9) fun xY=>some ((!xY)))
def Lf:List Nat:=List.range' 37 12
theorem W9: ∀(jP:Nat) (Bg:Nat) (og:Int) (kr:Int) (nu:Str) (rY:List Str) (mF:List Int) (EI:Int) (EJ:Int) (C8:Int) (C9:Int) (EK:Bool) (Bf:Bool) (aa9:Bool) (aC σ:Nat->PV) (H:AH) (f0:Fr Lf aC σ) (sl:σ 7=(.ref (jP) 0)/\σ 8=(.ref (Bg) 0)/\σ 36=(.bool aa9)/\H.obj jP=some [(.int .i64 og),(.int .i64 kr),(.str nu),(.aB (rY.map aX) .unk),(.aB (mF.map bI) .unk)]/\H.obj Bg=some [(.int .i64 EI),(.int .i64 EJ),(.int .i64 C8),(.int .i64 C9),(.bool EK),(.bool Bf)]) (sJ:jP<H.next) (Cv:Bg<H.next) (oD:jP≠Bg) (o:Bool) (h:Bd og kr nu rY mF EI EJ C8 C9 EK Bf aa9=some o) (Q:Post) (q0: ∀(p:Bool) (σ':Nat->PV),o=p->Fr Lf aC σ'->(σ' 48=(.bool p))->Q .normal σ' H),dB Tryz.prog U1 (Q .normal) σ H:=by
  intro jP Bg og kr nu rY mF EI EJ C8 C9 EK Bf aa9 aC σ H f0 sl sJ Cv oD o h Q q0;obtain⟨s7,s8,s36,adO,amU⟩:=sl;have adP:=ne_next sJ;have adQ:=aU sJ;have amV:=ne_next Cv;have amW:=aU Cv;have Y5:=eq_false oD;have Y6:=eq_false (Ne.symm oD);unfold Bd at h;refine dw ?_;unfold U1;rcases au h with⟨e11,h⟩|⟨e11,h⟩
  ·obtain rfl:=ak h;try refine ah ?_
   exact q0 _ _ rfl aO av
  ·obtain⟨xY,e12,h⟩:=aj h;try refine ah ?_
   refine aA (gW e12) ?_;obtain rfl:=ak h;try refine ah ?_
   exact q0 _ _ rfl aO av
def nS:Nat->(List Int)->Int->Bool->(List Int)->Option ((Int×Bool)⊕(Int×Bool))
  |0,iD,jA,eZ,oG=>some (.inr ((jA,eZ)))
  |m+1,iD,jA,eZ,oG=>
    Option.bind (oG[m]?) fun x27=>cond (x27 !=jA) (some (.inl (jA,false))) (cond (decide (jA<0)) (some (.inl (jA,false))) (if 0<=jA then Option.bind (iD[jA.toNat]?) fun x31=>nS m iD (IntKind.wrap .i64 (x31 -1)) eZ oG else none))
theorem Xa: ∀(m:Nat) (gG:Nat) (gJ:Nat) (bG:Nat) (rW:Nat) (iD:List Int) (jA:Int) (eZ:Bool) (oG:List Int) (aC σ:Nat->PV) (H0 H:AH) (f0:Fr [] aC σ) (hf0:HF [gJ,bG] H0 H) (sl:σ 5=(.ref (gG) 0)/\σ 9=(.ref (gJ) 0)/\σ 10=(.ref (bG) 0)/\σ 53=(.fn (.func 141) [] [(.ref (rW) 0)])/\H.obj gG=some [(.aB (iD.map bI) .unk)]/\H.obj gJ=some [(.int .i64 jA)]/\H.obj bG=some [(.bool eZ)]/\H.obj rW=some [(.aB (oG.map bI) .unk)]) (kJ:gG<H.next) (pV:gJ<H.next) (iN:bG<H.next) (xJ:rW<H.next) (fA:gG≠gJ) (dz:gG≠bG) (jB:gG≠rW) (dM:gJ≠bG) (lG:gJ≠rW) (iK:bG≠rW) (o:(Int×Bool)⊕(Int×Bool)) (h:nS m iD jA eZ oG=some o) (Q:Post) (q0: ∀(p:Int×Bool) (σ':Nat->PV) (H':AH),o= .inl p->Fr [] aC σ'->HF [gJ,bG] H0 H'->(H'.obj gJ=some [(.int .i64 p.1)]/\H'.obj bG=some [(.bool p.2)])->Q (.exit 0) σ' H') (q1: ∀(p:Int×Bool) (σ':Nat->PV) (H':AH),o= .inr (p)->Fr [] aC σ'->HF [gJ,bG] H0 H'->(H'.obj gJ=some [(.int .i64 p.1)]/\H'.obj bG=some [(.bool p.2)])->Q .normal σ' H'),G6 (fun Q' σ' H'=>W Tryz.prog Qh (J6 (fun zf jU=>W Tryz.prog Qi Q' zf jU)) σ' H') Q σ rW [(.aB (oG.map bI) .unk)] 54 55 ((oG.map bI).map (Ez false)) m H:=by
  intro m
  induction m with
  |zero=>
    intro gG gJ bG rW iD jA eZ oG aC σ H0 H f0 hf0 sl kJ pV iN xJ fA dz jB dM lG iK o h Q q0 q1;obtain⟨s5,s9,s10,s53,M6,Yh,HV,Td⟩:=sl;have M7:=ne_next kJ;have M8:=aU kJ;have Yi:=ne_next pV;have Yj:=aU pV;have HY:=ne_next iN;have HZ:=aU iN;have afb:=ne_next xJ;have afc:=aU xJ;have Bh:=eq_false fA;have Bj:=eq_false (Ne.symm fA);have uK:=eq_false dz;have uL:=eq_false (Ne.symm dz);have JH:=eq_false jB;have JI:=eq_false (Ne.symm jB);have yc:=eq_false dM;have yg:=eq_false (Ne.symm dM);have M9:=eq_false lG;have Na:=eq_false (Ne.symm lG);have Gf:=eq_false iK;have Gg:=eq_false (Ne.symm iK);have hle0:=hf0.1;rw [nS]at h;cases h;exact q1 _ _ _ rfl f0 hf0 av
  |succ m ih=>
    intro gG gJ bG rW iD jA eZ oG aC σ H0 H f0 hf0 sl kJ pV iN xJ fA dz jB dM lG iK o h Q q0 q1;obtain⟨s5,s9,s10,s53,M6,Yh,HV,Td⟩:=sl;have M7:=ne_next kJ;have M8:=aU kJ;have Yi:=ne_next pV;have Yj:=aU pV;have HY:=ne_next iN;have HZ:=aU iN;have afb:=ne_next xJ;have afc:=aU xJ;have Bh:=eq_false fA;have Bj:=eq_false (Ne.symm fA);have uK:=eq_false dz;have uL:=eq_false (Ne.symm dz);have JH:=eq_false jB;have JI:=eq_false (Ne.symm jB);have yc:=eq_false dM;have yg:=eq_false (Ne.symm dM);have M9:=eq_false lG;have Na:=eq_false (Ne.symm lG);have Gf:=eq_false iK;have Gg:=eq_false (Ne.symm iK);have hle0:=hf0.1;rw [nS]at h;cases erf:oG[m]?
    case none=>rw [z8 erf]at h;cases h
    case some x27=>
      rw [Aa erf]at h;refine⟨Td,Ez false (bI x27),by simp only [List.getElem?_map,erf,Option.map_some],aF ?_⟩;unfold Qh;try refine ah ?_
      refine aF ?_;unfold Qi;rcases au h with⟨e28,h⟩|⟨e28,h⟩
      ·obtain rfl:=ak h;try refine ah ?_
       exact q0 _ _ _ rfl aO (by repeat (first|exact hf0|refine HF.new ?_|refine HF.dR ?_|refine HF.used ?_|refine HF.put (by first|(right;omega)|(left;simp only [List.mem_cons,true_or,or_true])) ?_)) av
      ·rcases au h with⟨e29,h⟩|⟨e29,h⟩
       ·obtain rfl:=ak h;try refine ah ?_
        exact q0 _ _ _ rfl aO (by repeat (first|exact hf0|refine HF.new ?_|refine HF.dR ?_|refine HF.used ?_|refine HF.put (by first|(right;omega)|(left;simp only [List.mem_cons,true_or,or_true])) ?_)) av
       ·obtain⟨e30,h⟩:=aD h;obtain⟨x31,e32,h⟩:=aj h;try refine ah ?_
        exact ih gG gJ bG rW iD (IntKind.wrap .i64 (x31 -1)) eZ oG _ _ _ _ f0 (by repeat (first|exact hf0|refine HF.new ?_|refine HF.dR ?_|refine HF.used ?_|refine HF.put (by first|(right;omega)|(left;simp only [List.mem_cons,true_or,or_true])) ?_)) av bE bE bE bE bE bE bE bE bE bE _ h _ q0 q1
def wP (iD:List Int) (og:Int) (kr:Int) (nu:Str) (rY:List Str) (mF:List Int) (jA:Int) (eZ:Bool):Option ((Int×Bool)):=
  if mF.length<=1099511627776 then Option.bind (nS mF.length iD jA eZ mF) (fun o=>Sum.elim (fun p35=>some ((p35.1,p35.2))) (fun p49=>some ((p49.1,p49.2))) o)else none
def Lg:List Nat:=[12]++List.range' 51 17
theorem Xb: ∀(gG:Nat) (jP:Nat) (gJ:Nat) (bG:Nat) (iD:List Int) (og:Int) (kr:Int) (nu:Str) (rY:List Str) (mF:List Int) (jA:Int) (eZ:Bool) (aC σ:Nat->PV) (H0 H:AH) (f0:Fr Lg aC σ) (hf0:HF [gJ,bG] H0 H) (sl:σ 5=(.ref (gG) 0)/\σ 7=(.ref (jP) 0)/\σ 9=(.ref (gJ) 0)/\σ 10=(.ref (bG) 0)/\H.obj gG=some [(.aB (iD.map bI) .unk)]/\H.obj jP=some [(.int .i64 og),(.int .i64 kr),(.str nu),(.aB (rY.map aX) .unk),(.aB (mF.map bI) .unk)]/\H.obj gJ=some [(.int .i64 jA)]/\H.obj bG=some [(.bool eZ)]) (kJ:gG<H.next) (sJ:jP<H.next) (pV:gJ<H.next) (iN:bG<H.next) (wQ:gG≠jP) (fA:gG≠gJ) (dz:gG≠bG) (Bl:jP≠gJ) (sK:jP≠bG) (dM:gJ≠bG) (o:(Int×Bool)) (h:wP iD og kr nu rY mF jA eZ=some o) (Q:Post) (q0: ∀(p:Int×Bool) (σ':Nat->PV) (H':AH),o=p->Fr Lg aC σ'->HF [gJ,bG] H0 H'->(H'.obj gJ=some [(.int .i64 p.1)]/\H'.obj bG=some [(.bool p.2)])->Q .normal σ' H'),W Tryz.prog U2 Q σ H:=by
  intro gG jP gJ bG iD og kr nu rY mF jA eZ aC σ H0 H f0 hf0 sl kJ sJ pV iN wQ fA dz Bl sK dM o h Q q0;obtain⟨s5,s7,s9,s10,M6,adO,Yh,HV⟩:=sl;have M7:=ne_next kJ;have M8:=aU kJ;have adP:=ne_next sJ;have adQ:=aU sJ;have Yi:=ne_next pV;have Yj:=aU pV;have HY:=ne_next iN;have HZ:=aU iN;have agV:=eq_false wQ;have agW:=eq_false (Ne.symm wQ);have Bh:=eq_false fA;have Bj:=eq_false (Ne.symm fA);have uK:=eq_false dz;have uL:=eq_false (Ne.symm dz);have alB:=eq_false Bl;have alC:=eq_false (Ne.symm Bl);have adR:=eq_false sK;have adS:=eq_false (Ne.symm sK);have yc:=eq_false dM;have yg:=eq_false (Ne.symm dM);have hle0:=hf0.1;unfold wP at h;refine aF ?_;unfold U2;try refine ah ?_
  refine aI avr (by simp) (aF ?_);unfold apd;obtain⟨e63,h⟩:=aD h;try refine ah ?_
  obtain⟨o33,dX,h⟩:=aj h;refine arX (g:=141) (id:=H.next) (sz:=1) (agg:=false) (es:=mF.map bI) (c:= .unk) av agT aiQ (by decide) av (by rw [List.length_map];exact e63) (Mg (zh.len (f:=bI)) _) ?_;rw [List.length_map];refine Xa _ (gG) (gJ) (bG) (H.next) iD jA eZ mF _ _ _ _ (Fr.refl _ _) (HF.refl _ _) av bE bE bE bE bE bE bE bE bE bE _ dX _ ?_ ?_
  ·rintro p35 σ' Te eo Xc I6 ⟨g39,g40⟩;subst eo;rw [dD]at h;have s41:σ' 7=(.ref (jP) 0):=(Xc 7 (by decide)).trans av;have s42:σ' 10=(.ref (bG) 0):=(Xc 10 (by decide)).trans av;have le:=I6.1;try simp only [AH.aJ,AH.aK,AH.aL,AH.aM]at le
   have g43:Te.obj (jP)=some [(.int .i64 og),(.int .i64 kr),(.str nu),(.aB (rY.map aX) .unk),(.aB (mF.map bI) .unk)]:=(I6.2 _ bE (by first|exact List.not_mem_nil|(simp only [List.mem_cons,List.not_mem_nil,or_false,not_or];omega))).trans av;have n44:=ne_next (show jP<Te.next by first|omega|(simp only [AH.aJ,AH.aK,AH.aL,AH.aM];omega));have m45:=aU (show jP<Te.next by first|omega|(simp only [AH.aJ,AH.aK,AH.aL,AH.aM];omega));have n47:=ne_next (show bG<Te.next by first|omega|(simp only [AH.aJ,AH.aK,AH.aL,AH.aM];omega));have m48:=aU (show bG<Te.next by first|omega|(simp only [AH.aJ,AH.aK,AH.aL,AH.aM];omega));obtain rfl:=ak h;try refine ah ?_
   exact q0 _ _ _ rfl (by repeat (first|exact f0|refine Fr.upd (by decide) ?_|refine Fr.via Xc (by decide) ?_)) (by repeat (first|exact hf0|refine HF.new ?_|refine HF.dR ?_|refine HF.used ?_|refine HF.put (by first|(right;omega)|(left;simp only [List.mem_cons,true_or,or_true])) ?_|refine HF.via I6 (by first|exact fun i hi=>absurd hi List.not_mem_nil|(intro i hi;simp only [List.mem_cons,List.not_mem_nil,or_false]at hi⊢;first|exact .inl hi|omega)) ?_)) av
  ·rintro p49 σ' H52 eo MF abb ⟨g53,g54⟩;subst eo;rw [dK]at h;have s55:σ' 7=(.ref (jP) 0):=(MF 7 (by decide)).trans av;have s56:σ' 10=(.ref (bG) 0):=(MF 10 (by decide)).trans av;have le:=abb.1;try simp only [AH.aJ,AH.aK,AH.aL,AH.aM]at le
   have g57:H52.obj (jP)=some [(.int .i64 og),(.int .i64 kr),(.str nu),(.aB (rY.map aX) .unk),(.aB (mF.map bI) .unk)]:=(abb.2 _ bE (by first|exact List.not_mem_nil|(simp only [List.mem_cons,List.not_mem_nil,or_false,not_or];omega))).trans av;have n58:=ne_next (show jP<H52.next by first|omega|(simp only [AH.aJ,AH.aK,AH.aL,AH.aM];omega));have m59:=aU (show jP<H52.next by first|omega|(simp only [AH.aJ,AH.aK,AH.aL,AH.aM];omega));have n61:=ne_next (show bG<H52.next by first|omega|(simp only [AH.aJ,AH.aK,AH.aL,AH.aM];omega));have m62:=aU (show bG<H52.next by first|omega|(simp only [AH.aJ,AH.aK,AH.aL,AH.aM];omega));obtain rfl:=ak h;try refine ah ?_
   exact q0 _ _ _ rfl (by repeat (first|exact f0|refine Fr.upd (by decide) ?_|refine Fr.via MF (by decide) ?_)) (by repeat (first|exact hf0|refine HF.new ?_|refine HF.dR ?_|refine HF.used ?_|refine HF.put (by first|(right;omega)|(left;simp only [List.mem_cons,true_or,or_true])) ?_|refine HF.via abb (by first|exact fun i hi=>absurd hi List.not_mem_nil|(intro i hi;simp only [List.mem_cons,List.not_mem_nil,or_false]at hi⊢;first|exact .inl hi|omega)) ?_)) av
def Bn (og:Int) (kr:Int) (nu:Str) (rY:List Str) (mF:List Int) (EI:Int) (EJ:Int) (C8:Int) (C9:Int) (EK:Bool) (Bf:Bool) (uM:Bool) (rV:Bool):Option Bool:=
  cond rV (cond Bf (cond (og !=1) (cond uM (Option.bind (gU kr 0 1) fun Sy=>some (Sy)) (some (true))) (Option.bind (wC nu) fun mI=>cond mI (cond uM (Option.bind (gU kr 0 1) fun Sz=>some (Sz)) (some (true))) (some (false)))) (cond (kr==0) (cond (og !=1) (cond uM (Option.bind (gU kr 0 1) fun Kh=>some (Kh)) (some (true))) (Option.bind (wC nu) fun Rm=>cond Rm (cond uM (Option.bind (gU kr 0 1) fun Gi=>some (Gi)) (some (true))) (some (false)))) (some (false)))) (cond (nu==[]) (cond Bf (cond (og !=1) (cond uM (Option.bind (gU kr 0 1) fun KA=>some (KA)) (some (true))) (Option.bind (wC nu) fun aar=>cond aar (cond uM (Option.bind (gU kr 0 1) fun IK=>some (IK)) (some (true))) (some (false)))) (cond (kr==0) (cond (og !=1) (cond uM (Option.bind (gU kr 0 1) fun aqJ=>some (aqJ)) (some (true))) (Option.bind (wC nu) fun aqK=>cond aqK (cond uM (Option.bind (gU kr 0 1) fun Nb=>some (Nb)) (some (true))) (some (false)))) (some (false)))) (some (false)))
def Lh:List Nat:=List.range' 74 32
theorem Xd: ∀(jP:Nat) (Bg:Nat) (og:Int) (kr:Int) (nu:Str) (rY:List Str) (mF:List Int) (EI:Int) (EJ:Int) (C8:Int) (C9:Int) (EK:Bool) (Bf:Bool) (uM:Bool) (rV:Bool) (aC σ:Nat->PV) (H:AH) (f0:Fr Lh aC σ) (sl:σ 7=(.ref (jP) 0)/\σ 8=(.ref (Bg) 0)/\σ 13=(.bool uM)/\σ 73=(.bool rV)/\H.obj jP=some [(.int .i64 og),(.int .i64 kr),(.str nu),(.aB (rY.map aX) .unk),(.aB (mF.map bI) .unk)]/\H.obj Bg=some [(.int .i64 EI),(.int .i64 EJ),(.int .i64 C8),(.int .i64 C9),(.bool EK),(.bool Bf)]) (sJ:jP<H.next) (Cv:Bg<H.next) (oD:jP≠Bg) (o:Bool) (h:Bn og kr nu rY mF EI EJ C8 C9 EK Bf uM rV=some o) (Q:Post) (q0: ∀(p:Bool) (σ':Nat->PV),o=p->Fr Lh aC σ'->(σ' 105=(.bool p))->Q .normal σ' H),dB Tryz.prog U3 (Q .normal) σ H:=by
  intro jP Bg og kr nu rY mF EI EJ C8 C9 EK Bf uM rV aC σ H f0 sl sJ Cv oD o h Q q0;obtain⟨s7,s8,s13,s73,adO,amU⟩:=sl;have adP:=ne_next sJ;have adQ:=aU sJ;have amV:=ne_next Cv;have amW:=aU Cv;have Y5:=eq_false oD;have Y6:=eq_false (Ne.symm oD);unfold Bn at h;refine dw ?_;unfold U3;rcases au h with⟨e84,h⟩|⟨e84,h⟩
  ·rcases au h with⟨e85,h⟩|⟨e85,h⟩
   ·rcases au h with⟨Mq,h⟩|⟨Mq,h⟩
    ·rcases au h with⟨e87,h⟩|⟨e87,h⟩
     ·obtain⟨Sy,Mr,h⟩:=aj h;try refine ah ?_
      refine aA (gW Mr) ?_;obtain rfl:=ak h;try refine ah ?_
      exact q0 _ _ rfl aO av
     ·obtain rfl:=ak h;try refine ah ?_
      exact q0 _ _ rfl aO av
    ·obtain⟨mI,Sk,h⟩:=aj h;try refine ah ?_
     refine aA (EH Sk) ?_;rcases au h with⟨e92,h⟩|⟨e92,h⟩
     ·rcases au h with⟨Jp,h⟩|⟨Jp,h⟩
      ·obtain⟨Sz,SL,h⟩:=aj h;try refine ah ?_
       refine aA (gW SL) ?_;obtain rfl:=ak h;try refine ah ?_
       exact q0 _ _ rfl aO av
      ·obtain rfl:=ak h;try refine ah ?_
       exact q0 _ _ rfl aO av
     ·obtain rfl:=ak h;try refine ah ?_
      exact q0 _ _ rfl aO av
   ·rcases au h with⟨Pj,h⟩|⟨Pj,h⟩
    ·rcases au h with⟨e97,h⟩|⟨e97,h⟩
     ·rcases au h with⟨Sq,h⟩|⟨Sq,h⟩
      ·obtain⟨Kh,e99,h⟩:=aj h;try refine ah ?_
       refine aA (gW e99) ?_;obtain rfl:=ak h;try refine ah ?_
       exact q0 _ _ rfl aO av
      ·obtain rfl:=ak h;try refine ah ?_
       exact q0 _ _ rfl aO av
     ·obtain⟨Rm,D9,h⟩:=aj h;try refine ah ?_
      refine aA (EH D9) ?_;rcases au h with⟨Ea,h⟩|⟨Ea,h⟩
      ·rcases au h with⟨Ri,h⟩|⟨Ri,h⟩
       ·obtain⟨Gi,Eb,h⟩:=aj h;try refine ah ?_
        refine aA (gW Eb) ?_;obtain rfl:=ak h;try refine ah ?_
        exact q0 _ _ rfl aO av
       ·obtain rfl:=ak h;try refine ah ?_
        exact q0 _ _ rfl aO av
      ·obtain rfl:=ak h;try refine ah ?_
       exact q0 _ _ rfl aO av
    ·obtain rfl:=ak h;try refine ah ?_
     exact q0 _ _ rfl aO av
  ·rcases au h with⟨Eo,h⟩|⟨Eo,h⟩
   ·rcases au h with⟨e108,h⟩|⟨e108,h⟩
    ·rcases au h with⟨e109,h⟩|⟨e109,h⟩
     ·rcases au h with⟨IL,h⟩|⟨IL,h⟩
      ·obtain⟨KA,Kl,h⟩:=aj h;try refine ah ?_
       refine aA (gW Kl) ?_;obtain rfl:=ak h;try refine ah ?_
       exact q0 _ _ rfl aO av
      ·obtain rfl:=ak h;try refine ah ?_
       exact q0 _ _ rfl aO av
     ·obtain⟨aar,Mx,h⟩:=aj h;try refine ah ?_
      refine aA (EH Mx) ?_;rcases au h with⟨e115,h⟩|⟨e115,h⟩
      ·rcases au h with⟨e116,h⟩|⟨e116,h⟩
       ·obtain⟨IK,e117,h⟩:=aj h;try refine ah ?_
        refine aA (gW e117) ?_;obtain rfl:=ak h;try refine ah ?_
        exact q0 _ _ rfl aO av
       ·obtain rfl:=ak h;try refine ah ?_
        exact q0 _ _ rfl aO av
      ·obtain rfl:=ak h;try refine ah ?_
       exact q0 _ _ rfl aO av
    ·rcases au h with⟨e119,h⟩|⟨e119,h⟩
     ·rcases au h with⟨e120,h⟩|⟨e120,h⟩
      ·rcases au h with⟨abe,h⟩|⟨abe,h⟩
       ·obtain⟨aqJ,aau,h⟩:=aj h;try refine ah ?_
        refine aA (gW aau) ?_;obtain rfl:=ak h;try refine ah ?_
        exact q0 _ _ rfl aO av
       ·obtain rfl:=ak h;try refine ah ?_
        exact q0 _ _ rfl aO av
      ·obtain⟨aqK,Xe,h⟩:=aj h;try refine ah ?_
       refine aA (EH Xe) ?_;rcases au h with⟨e126,h⟩|⟨e126,h⟩
       ·rcases au h with⟨e127,h⟩|⟨e127,h⟩
        ·obtain⟨Nb,e128,h⟩:=aj h;try refine ah ?_
         refine aA (gW e128) ?_;obtain rfl:=ak h;try refine ah ?_
         exact q0 _ _ rfl aO av
        ·obtain rfl:=ak h;try refine ah ?_
         exact q0 _ _ rfl aO av
       ·obtain rfl:=ak h;try refine ah ?_
        exact q0 _ _ rfl aO av
     ·obtain rfl:=ak h;try refine ah ?_
      exact q0 _ _ rfl aO av
   ·obtain rfl:=ak h;try refine ah ?_
    exact q0 _ _ rfl aO av
def Dv (k:Nat) (aH:List Nd) (dO:Int) (rR:List Int):Option Int:=
  if 0<=dO then Option.bind (aH[dO.toNat]?) fun x2=>Option.bind (gU x2.kind 0 28) fun p5=>cond p5 (Option.bind (zI k x2) fun p8=>Option.bind (gU (x2.names.length:Int) p8.names.1 p8.names.2) fun fE=>Option.bind (Bd x2.kind x2.n x2.text x2.names x2.args p8.names.1 p8.names.2 p8.operands.1 p8.operands.2 p8.text p8.number (!fE)) (fun p16=>cond p16 (some 6) (Option.bind (wP rR x2.kind x2.n x2.text x2.names x2.args (IntKind.wrap .i64 (dO -1)) true) (fun p66=>Option.bind (Bn x2.kind x2.n x2.text x2.names x2.args p8.names.1 p8.names.2 p8.operands.1 p8.operands.2 p8.text p8.number (x2.kind==23) p8.text) (fun Xf=>cond p66.2 (Option.bind (mM (!Xf) 5) fun aiS=>cond (x2.kind==23) (Option.bind (mM false 3) fun aqL=>Option.bind (pq k x2) fun Xg=>Option.bind (iJ k [aiS,aqL,Xg]) fun aqM=>some aqM) (Option.bind (gU x2.n 0 10000) fun aqN=>Option.bind (mM (!aqN) 3) fun Ec=>Option.bind (pq k x2) fun aqO=>Option.bind (iJ k [aiS,Ec,aqO]) fun aqP=>some aqP)) (Option.bind (mM true 5) fun Nc=>cond (x2.kind==23) (Option.bind (mM false 3) fun aqQ=>Option.bind (pq k x2) fun aqR=>Option.bind (iJ k [Nc,aqQ,aqR]) fun KC=>some KC) (Option.bind (gU x2.n 0 10000) fun aav=>Option.bind (mM (!aav) 3) fun aqS=>Option.bind (pq k x2) fun Kn=>Option.bind (iJ k [Nc,aqS,Kn]) fun aqT=>some aqT))))))) (some 4)else none
theorem acP {k:Nat} {aH:List Nd} {dO:Int} {rR:List Int} {c0 c2:Ck} {r:Int} (h:Dv k aH dO rR=some r):aG Tryz.prog 48 [(.aB (aH.map Nd.cells) c0),(.int .i64 dO),(.aB (rR.map bI) c2)] (.int .i64 r):=by
  refine aG.lw (.aB (.same (.aB .nil))) (aG.aR (bB.mem (.cons (bC Nd.pu _) (.cons (.int _ _) (.cons (bC jg _) .nil)))) (aI au3 (by simp) (aF ?_)) (.int _ _));unfold Dv at h;unfold aoJ;obtain⟨e1,h⟩:=aD h;obtain⟨x2,e3,h⟩:=aj h;obtain⟨p5,e4,h⟩:=aj h;try refine ah ?_
  refine aA (gW e4) ?_;rcases au h with⟨e6,h⟩|⟨e6,h⟩
  ·obtain⟨p8,e7,h⟩:=aj h;try refine ah ?_
   refine aA (acO e7) ?_;obtain⟨fE,e9,h⟩:=aj h;try refine ah ?_
   refine aA (gW e9) ?_;try refine ah ?_
   obtain⟨o14,h15,h⟩:=aj h;refine W9 (AH.empty.next+1) (AH.empty.next+2) x2.kind x2.n x2.text x2.names x2.args p8.names.1 p8.names.2 p8.operands.1 p8.operands.2 p8.text p8.number (!fE) _ _ _ (Fr.refl _ _) av bE bE bE _ h15 _ ?_
   ·rintro p16 σ' eo aan s20;rw [eo]at h;have s21:σ' 1=(.int .i64 dO):=(aan 1 (by decide)).trans av;have s22:σ' 5=(.ref (AH.empty.next) 0):=(aan 5 (by decide)).trans av;have Z8:σ' 7=(.ref (AH.empty.next+1) 0):=(aan 7 (by decide)).trans av;have s24:σ' 8=(.ref (AH.empty.next+2) 0):=(aan 8 (by decide)).trans av;rcases au h with⟨e25,h⟩|⟨e25,h⟩
    ·obtain rfl:=ak h;try refine ah ?_
     exact(.pure _ (.int _ _))
    ·try refine ah ?_
     obtain⟨o64,h65,h⟩:=aj h;refine Xb (AH.empty.next) (AH.empty.next+1) (AH.empty.next+3) (AH.empty.next+4) rR x2.kind x2.n x2.text x2.names x2.args (IntKind.wrap .i64 (dO -1)) true _ _ _ _ (Fr.refl _ _) (HF.refl _ _) av bE bE bE bE bE bE bE bE bE bE _ h65 _ ?_
     ·rintro p66 σ' Yk eo M5 aiT ⟨g70,g71⟩;rw [eo]at h;have s72:σ' 7=(.ref (AH.empty.next+1) 0):=(M5 7 (by decide)).trans av;have s73:σ' 8=(.ref (AH.empty.next+2) 0):=(M5 8 (by decide)).trans av;have s74:σ' 10=(.ref (AH.empty.next+4) 0):=(M5 10 (by decide)).trans av;have le:=aiT.1;try simp only [AH.aJ,AH.aK,AH.aL,AH.aM]at le
      have g75:Yk.obj (AH.empty.next+1)=some [(.int .i64 x2.kind),(.int .i64 x2.n),(.str x2.text),(.aB (x2.names.map aX) .unk),(.aB (x2.args.map bI) .unk)]:=(aiT.2 _ bE (by first|exact List.not_mem_nil|(simp only [List.mem_cons,List.not_mem_nil,or_false,not_or];omega))).trans av;have n76:=ne_next (show AH.empty.next+1<Yk.next by first|omega|(simp only [AH.aJ,AH.aK,AH.aL,AH.aM];omega));have m77:=aU (show AH.empty.next+1<Yk.next by first|omega|(simp only [AH.aJ,AH.aK,AH.aL,AH.aM];omega));have g78:Yk.obj (AH.empty.next+2)=some [(.int .i64 p8.names.1),(.int .i64 p8.names.2),(.int .i64 p8.operands.1),(.int .i64 p8.operands.2),(.bool p8.text),(.bool p8.number)]:=(aiT.2 _ bE (by first|exact List.not_mem_nil|(simp only [List.mem_cons,List.not_mem_nil,or_false,not_or];omega))).trans av;have n79:=ne_next (show AH.empty.next+2<Yk.next by first|omega|(simp only [AH.aJ,AH.aK,AH.aL,AH.aM];omega));have m80:=aU (show AH.empty.next+2<Yk.next by first|omega|(simp only [AH.aJ,AH.aK,AH.aL,AH.aM];omega));have n82:=ne_next (show AH.empty.next+4<Yk.next by first|omega|(simp only [AH.aJ,AH.aK,AH.aL,AH.aM];omega));have m83:=aU (show AH.empty.next+4<Yk.next by first|omega|(simp only [AH.aJ,AH.aK,AH.aL,AH.aM];omega));try refine ah ?_
      obtain⟨aAf,av9,h⟩:=aj h;refine Xd (AH.empty.next+1) (AH.empty.next+2) x2.kind x2.n x2.text x2.names x2.args p8.names.1 p8.names.2 p8.operands.1 p8.operands.2 p8.text p8.number (x2.kind==23) p8.text _ _ _ (Fr.refl _ _) av bE bE bE _ av9 _ ?_
      ·rintro Xf σ' eo afd aAg;rw [eo]at h;have aAh:σ' 7=(.ref (AH.empty.next+1) 0):=(afd 7 (by decide)).trans av;have aqU:σ' 10=(.ref (AH.empty.next+4) 0):=(afd 10 (by decide)).trans av;have aqV:σ' 13=(.bool (x2.kind==23)):=(afd 13 (by decide)).trans av;try refine ah ?_
       refine bO ?_;rcases au h with⟨Q8,h⟩|⟨Q8,h⟩
       ·obtain⟨aiS,awc,h⟩:=aj h;try refine ah ?_
        refine PC.mk (mh awc) ?_;rcases au h with⟨e143,h⟩|⟨e143,h⟩
        ·obtain⟨aqL,aiU,h⟩:=aj h;try refine ah ?_
         refine PC.mk (mh aiU) ?_;obtain⟨Xg,Xh,h⟩:=aj h;try refine ah ?_
         refine aA (Bc Xh) ?_;obtain⟨aqM,afe,h⟩:=aj h;try refine ah ?_
         refine aA (mO afe) ?_;obtain rfl:=ak h;try refine ah ?_
         exact(.pure _ (.int _ _))
        ·obtain⟨aqN,aiz,h⟩:=aj h;try refine ah ?_
         refine PC.mk (gW aiz) ?_;obtain⟨Ec,e152,h⟩:=aj h;try refine ah ?_
         refine PC.mk (mh e152) ?_;obtain⟨aqO,e154,h⟩:=aj h;try refine ah ?_
         refine aA (Bc e154) ?_;obtain⟨aqP,awd,h⟩:=aj h;try refine ah ?_
         refine aA (mO awd) ?_;obtain rfl:=ak h;try refine ah ?_
         exact(.pure _ (.int _ _))
       ·obtain⟨Nc,abf,h⟩:=aj h;try refine ah ?_
        refine PC.mk (mh abf) ?_;rcases au h with⟨aiV,h⟩|⟨aiV,h⟩
        ·obtain⟨aqQ,aff,h⟩:=aj h;try refine ah ?_
         refine PC.mk (mh aff) ?_;obtain⟨aqR,aiv,h⟩:=aj h;try refine ah ?_
         refine aA (Bc aiv) ?_;obtain⟨KC,e165,h⟩:=aj h;try refine ah ?_
         refine aA (mO e165) ?_;obtain rfl:=ak h;try refine ah ?_
         exact(.pure _ (.int _ _))
        ·obtain⟨aav,e167,h⟩:=aj h;try refine ah ?_
         refine PC.mk (gW e167) ?_;obtain⟨aqS,e169,h⟩:=aj h;try refine ah ?_
         refine PC.mk (mh e169) ?_;obtain⟨Kn,abg,h⟩:=aj h;try refine ah ?_
         refine aA (Bc abg) ?_;obtain⟨aqT,aiW,h⟩:=aj h;try refine ah ?_
         refine aA (mO aiW) ?_;obtain rfl:=ak h;try refine ah ?_
         exact(.pure _ (.int _ _))
  ·obtain rfl:=ak h;try refine ah ?_
   exact(.pure _ (.int _ _))
end Go.VL
end
section
set_option maxRecDepth 8000
set_option maxHeartbeats 4000000
namespace Go.VL
open Go.Proofs
def jQ:Nat->(List Nd)->(List Int)->Int->Int->Option (List Int⊕(Int×Int))
  |0,_,_,_,_=>none
  |k+1,aH,mP,jZ,gF=>
    cond (decide (gF<jZ)) (Option.bind (Dv k aH gF mP) fun fE=>cond (fE !=0) (some (.inr ((gF,fE)))) (if(mP.length+1)*8<=1099511627776 then Option.bind (Oh aH gF (mP++[0])) fun qU=>if 0<=gF then Option.bind ((mP++[0])[gF.toNat]?) fun x23=>jQ k aH ((mP++[0]).set gF.toNat qU) jZ (IntKind.wrap .i64 (gF+1))else none else none)) (some (.inl mP))
def Bo:List Nat:=[2,3,5,6,7]++List.range' 27 22
theorem Rn: ∀(k:Nat) (xK:PV) (wR:List Nat) (M:List Nat) (aH:List Nd) (mP:List Int) (jZ:Int) (gF:Int) (aC σ:Nat->PV) (H0 H:AH) (f0:Fr Bo aC σ) (hf0:HF M H0 H) (sl:σ 0=(.aB (aH.map Nd.cells) .unk)/\σ 5=xK/\σ 26=(.int .i64 jZ)/\σ 27=(.int .i64 gF)) (rC:aS H bI 1 mP xK wR) (uY:Nw H0 M wR) (o:List Int⊕(Int×Int)) (h:jQ k aH mP jZ gF=some o) (Q:Post) (q0: ∀(p:List Int) (v0:PV) (tY:List Nat) (σ':Nat->PV) (H':AH),o= .inl p->Fr Bo aC σ'->HF M H0 H'->(σ' 5=v0)->aS H' bI 1 p v0 tY->Nw H0 M tY->Q (.exit 0) σ' H') (q1: ∀(p:Int×Int) (σ':Nat->PV) (H':AH),o= .inr (p)->Fr Bo aC σ'->HF M H0 H'->(σ' 2=(.int .i64 p.1)/\σ' 3=(.int .i64 p.2))->Q .ret σ' H'),W Tryz.prog (.loop UH) Q σ H:=by
  intro k
  induction k with
  |zero=>intro xK wR M aH mP jZ gF aC σ H0 H f0 hf0 sl rC uY o h Q q0 q1;simp only [jQ,reduceCtorEq]at h
  |succ k ih=>
    intro xK wR M aH mP jZ gF aC σ H0 H f0 hf0 sl rC uY o h Q q0 q1;obtain⟨s0,s5,X5,X9⟩:=sl;have hle0:=hf0.1;unfold jQ at h;refine bA (fun K hK=>aF ?_);unfold UH;rcases au h with⟨e8,h⟩|⟨e8,h⟩
    ·obtain⟨fE,e9,h⟩:=aj h;try refine dA ?_
     refine Mh (acP e9) (.cons (jr Nd.pu _ _) (.cons (.pure _ (.int _ _)) (.cons (aS.fz jg (by repeat (first|exact rC|apply aS.new|refine aS.put ?_ (fun hm=>by have:=aS.lt rC _ hm;omega)))) .nil))) (.cons (bC Nd.pu _) (.cons (.int _ _) (.cons (bC jg _) .nil))) (.int _ _) ?_;rcases au h with⟨e11,h⟩|⟨e11,h⟩
     ·obtain rfl:=ak h;try refine dA ?_
      exact q1 _ _ _ rfl aO (by repeat (first|exact hf0|refine HF.new ?_|refine HF.dR ?_|refine HF.used ?_|refine HF.put (by first|(right;omega)|(left;simp only [List.mem_cons,true_or,or_true])) ?_)) fD
     ·obtain⟨e12,h⟩:=aD h;try refine dA ?_
      refine MO (f:=bI) (v:=xK) Ji mP ([0]:List Int) .exact fD (by repeat (first|exact rC|apply aS.new|refine aS.put ?_ (fun hm=>by have:=aS.lt rC _ hm;omega))) fD (by decide) (by simp only [List.length_cons,List.length_nil];exact e12) (fun v13 atd H15 r16 aqW aqX aik=> ?_);have le:=aqX.1;try simp only [AH.aJ,AH.aK,AH.aL,AH.aM]at le
      obtain⟨qU,e20,h⟩:=aj h;try refine dA ?_
      refine Mh (agD e20) (.cons (jr Nd.pu _ _) (.cons (.pure _ (.int _ _)) (.cons (aS.fz jg (by repeat (first|exact r16|apply aS.new|refine aS.put ?_ (fun hm=>by have:=aS.lt r16 _ hm;omega)))) .nil))) (.cons (bC Nd.pu _) (.cons (.int _ _) (.cons (bC jg _) .nil))) (.int _ _) ?_;obtain⟨e22,h⟩:=aD h;obtain⟨x23,e24,h⟩:=aj h;obtain⟨w25,w26,aqY,hil,w27,hC,hL,hD,hI⟩:=aS.content r16 e24;have w28:=ne_next hil;have w29:=aU hil;have w30:qG 1 v13 (.int .i64 gF)=some (.ref w25 (gF.toNat)):=by simpa using hI .i64 gF (by first|omega|decide) (by first|rfl|omega)
      have aze:w26[gF.toNat]? =some (.int .i64 x23):=by simpa using hC 0 _ rfl
      clear hC hL hD hI;try refine dA ?_
      refine zF (f:=bI) (id:=w25) (o:=gF.toNat) (i:=gF.toNat) (j:=0) (a:=x23) (y:=qU) (vs:=[(.int .i64 qU)]) fD aqY (by omega) (by repeat (first|exact r16|apply aS.new|refine aS.put ?_ (fun hm=>by have:=aS.lt r16 _ hm;omega))) e24 fD rfl rfl (by first|decide|(simp only [List.length_cons,List.length_nil];omega)) rfl (fun H33 r34 aqZ aoE=> ?_);have le:=aqZ.1;try simp only [AH.aJ,AH.aK,AH.aL,AH.aM]at le
      try refine dA ?_
      refine hK _ _ ?_;exact ih v13 atd M aH ((mP++[0]).set gF.toNat qU) jZ (IntKind.wrap .i64 (gF+1)) _ _ _ _ aO (by repeat (first|exact hf0|refine HF.new ?_|refine HF.dR ?_|refine HF.used ?_|refine HF.put (by first|(right;omega)|(left;simp only [List.mem_cons,true_or,or_true])) ?_|refine HF.via aqX uY ?_|refine HF.via aqZ (Nw.trans uY bE aqW) ?_)) fD (by repeat (first|exact r34|apply aS.new|refine aS.put ?_ (fun hm=>by have:=aS.lt r34 _ hm;omega))) (Nw.trans uY bE aqW) _ h _ q0 q1
    ·obtain rfl:=ak h;try refine dA ?_
     exact q0 _ xK wR _ _ rfl aO (by repeat (first|exact hf0|refine HF.new ?_|refine HF.dR ?_|refine HF.used ?_|refine HF.put (by first|(right;omega)|(left;simp only [List.mem_cons,true_or,or_true])) ?_)) fD (by repeat (first|exact rC|apply aS.new|refine aS.put ?_ (fun hm=>by have:=aS.lt rC _ hm;omega))) uY
def jR:Nat->(List Nd)->(List Int)->(List Int)->Int->Int->Option (Unit⊕(Int×Int))
  |0,_,_,_,_,_=>none
  |k+1,aH,Nf,wS,Ng,I9=>
    cond (decide (I9<Ng)) (Option.bind (Gd k aH I9 Nf wS) fun p54=>cond p54 (some (.inr ((I9,30)))) (jR k aH Nf wS Ng (IntKind.wrap .i64 (I9+1)))) (some (.inl ()))
def Bp:List Nat:=[2,3,11]++List.range' 59 10
theorem Ro: ∀(k:Nat) (aH:List Nd) (Nf:List Int) (wS:List Int) (Ng:Int) (I9:Int) (aC σ:Nat->PV) (H:AH) (f0:Fr Bp aC σ) (sl:σ 0=(.aB (aH.map Nd.cells) .unk)/\σ 9=(.aB (Nf.map bI) .unk)/\σ 10=(.aB (wS.map bI) .unk)/\σ 58=(.int .i64 Ng)/\σ 59=(.int .i64 I9)) (o:Unit⊕(Int×Int)) (h:jR k aH Nf wS Ng I9=some o) (Q:Post) (q0: ∀(p:Unit) (σ':Nat->PV),o= .inl p->Fr Bp aC σ'->Q (.exit 2) σ' H) (q1: ∀(p:Int×Int) (σ':Nat->PV),o= .inr (p)->Fr Bp aC σ'->(σ' 2=(.int .i64 p.1)/\σ' 3=(.int .i64 p.2))->Q .ret σ' H),W Tryz.prog (.loop UJ) Q σ H:=by
  intro k
  induction k with
  |zero=>intro aH Nf wS Ng I9 aC σ H f0 sl o h Q q0 q1;simp only [jR,reduceCtorEq]at h
  |succ k ih=>
    intro aH Nf wS Ng I9 aC σ H f0 sl o h Q q0 q1;obtain⟨s0,s9,s10,s58,s59⟩:=sl;unfold jR at h;refine bA (fun K hK=>aF ?_);unfold UJ;rcases au h with⟨e52,h⟩|⟨e52,h⟩
    ·obtain⟨p54,e53,h⟩:=aj h;try refine dA ?_
     refine aA (afa e53) ?_;rcases au h with⟨e55,h⟩|⟨e55,h⟩
     ·obtain rfl:=ak h;try refine dA ?_
      exact q1 _ _ rfl aO fD
     ·try refine dA ?_
      refine hK _ _ ?_;exact ih aH Nf wS Ng (IntKind.wrap .i64 (I9+1)) _ _ _ aO fD _ h _ q0 q1
    ·obtain rfl:=ak h;try refine dA ?_
     exact q0 _ _ rfl aO
def ny (k:Nat) (aH:List Nd):Option (Int×Int):=
  Option.bind (mM ((aH.length:Int)==0) 1) fun p2=>Option.bind (mM (decide ((aH.length:Int)>160)) 2) fun p4=>Option.bind (iJ k [p2,p4]) fun p6=>cond (p6 !=0) (some (0,p6)) (Option.bind (jQ k aH ([]:List Int) (aH.length:Int) 0) (fun o=>Sum.elim (fun p40=>Option.bind (zH k aH) fun p51=>Option.bind (jR k aH p51.1 p51.2 (aH.length:Int) 0) (fun o=>Sum.elim (fun p58=>if 0<=(IntKind.wrap .i64 ((aH.length:Int) -1))then Option.bind (p40[(IntKind.wrap .i64 ((aH.length:Int) -1)).toNat]?) fun x65=>cond (x65 !=0) (some ((IntKind.wrap .i64 ((aH.length:Int) -1)),15)) (some (0,0))else none) (fun p74=>some (p74.1,p74.2)) o)) (fun Av=>some (Av.1,Av.2)) o))
theorem Li {k:Nat} {aH:List Nd} {c0:Ck} {r:Int×Int} (h:ny k aH=some r):aG Tryz.prog 14 [(.aB (aH.map Nd.cells) c0)] (.dN [(.int .i64 r.1),(.int .i64 r.2)]):=by
  refine aG.lw (.aB .nil) (aG.aR (bB.mem (.cons (bC Nd.pu _) .nil)) (aI auW (by simp) (aF ?_)) (.dN _ (bB.mem (.cons (.int _ _) (.cons (.int _ _) .nil)))));unfold ny at h;unfold aof;obtain⟨p2,e1,h⟩:=aj h;try refine dA ?_
  refine aA (mh e1) ?_;obtain⟨p4,e3,h⟩:=aj h;try refine dA ?_
  refine aA (mh e3) ?_;obtain⟨p6,e5,h⟩:=aj h;try refine dA ?_
  refine aA (mO e5) ?_;rcases au h with⟨e7,h⟩|⟨e7,h⟩
  ·obtain rfl:=ak h;try refine dA ?_
   exact(dG (.cons (.pure _ (.int _ _)) (.cons (.pure _ (.int _ _)) .nil)))
  ·try refine dA ?_
   obtain⟨o38,h39,h⟩:=aj h;refine Rn k (.aB [] .nil) [] ([]++[]) aH ([]:List Int) (aH.length:Int) 0 _ _ _ _ (Fr.refl _ _) (HF.refl _ _) fD (by repeat (first|exact aS.nil|apply aS.new|refine aS.put ?_ (fun hm=>by have:=aS.lt aS.nil _ hm;omega))) (fun i hi=>Or.inl (by simp only [List.mem_append,List.mem_cons,hi,true_or,or_true])) _ h39 _ ?_ ?_
   ·rintro p40 v44 azf σ' H43 eo aaK awe s48 r46 aAi;subst eo;rw [dD]at h;have s49:σ' 0=(.aB (aH.map Nd.cells) .unk):=(aaK 0 (by decide)).trans fD;have le:=awe.1;try simp only [AH.aJ,AH.aK,AH.aL,AH.aM]at le
    obtain⟨p51,e50,h⟩:=aj h;try refine dA ?_
    refine aA (acN e50) ?_;try refine dA ?_
    obtain⟨o56,h57,h⟩:=aj h;refine Ro k aH p51.1 p51.2 (aH.length:Int) 0 _ _ _ (Fr.refl _ _) fD _ h57 _ ?_ ?_
    ·rintro p58 σ' eo aiC;subst eo;rw [dD]at h;have s62:σ' 5=v44:=(aiC 5 (by decide)).trans fD;have s63:σ' 8=(.int .i64 (IntKind.wrap .i64 ((aH.length:Int) -1))):=(aiC 8 (by decide)).trans fD;obtain⟨e64,h⟩:=aD h;obtain⟨x65,e66,h⟩:=aj h;obtain⟨w67,w68,ayJ,hil,w69,hC,hL,hD,hI⟩:=aS.content r46 e66;have w70:=ne_next hil;have w71:=aU hil;have w72:qG 1 v44 (.int .i64 (IntKind.wrap .i64 ((aH.length:Int) -1)))=some (.ref w67 ((IntKind.wrap .i64 ((aH.length:Int) -1)).toNat)):=by simpa using hI .i64 (IntKind.wrap .i64 ((aH.length:Int) -1)) (by first|omega|decide) (by first|rfl|omega)
     have azg:w68[(IntKind.wrap .i64 ((aH.length:Int) -1)).toNat]? =some (.int .i64 x65):=by simpa using hC 0 _ rfl
     clear hC hL hD hI;rcases au h with⟨Jo,h⟩|⟨Jo,h⟩
     ·obtain rfl:=ak h;try refine dA ?_
      exact(dG (.cons (.pure _ (.int _ _)) (.cons (.pure _ (.int _ _)) .nil)))
     ·obtain rfl:=ak h;try refine dA ?_
      exact(dG (.cons (.pure _ (.int _ _)) (.cons (.pure _ (.int _ _)) .nil)))
    ·rintro p74 σ' eo aAj ⟨s78,s79⟩;subst eo;rw [dK]at h;obtain rfl:=ak h;try refine dA ?_
     exact(dG (.cons (.pure _ (.int _ _)) (.cons (.pure _ (.int _ _)) .nil)))
   ·rintro Av σ' H83 eo Kz aiP ⟨s84,s85⟩;subst eo;rw [dK]at h;have le:=aiP.1;try simp only [AH.aJ,AH.aK,AH.aL,AH.aM]at le
    obtain rfl:=ak h;try refine dA ?_
    exact(dG (.cons (.pure _ (.int _ _)) (.cons (.pure _ (.int _ _)) .nil)))
def zJ (k:Nat) (aH:List Nd):Option Int:=
  Option.bind (ny k aH) fun p2=>some p2.2
theorem PD {k:Nat} {aH:List Nd} {c0:Ck} {r:Int} (h:zJ k aH=some r):aG Tryz.prog 58 [(.aB (aH.map Nd.cells) c0)] (.int .i64 r):=by
  refine aG.lw (.aB .nil) (aG.aR (bB.mem (.cons (bC Nd.pu _) .nil)) (aI avb (by simp) (aF ?_)) (.int _ _));unfold zJ at h;unfold aoU;obtain⟨p2,e1,h⟩:=aj h;try refine ah ?_
  refine aA (Li e1) ?_;obtain rfl:=ak h;try refine ah ?_
  exact(.pure _ (.int _ _))
end Go.VL
end
section
namespace Go.VL
theorem amX (s p:Str):dW s p=some (decide (p.length<=s.length)&&decide (s.take p.length=p)):=by
  unfold dW qX;by_cases h:p.length<=s.length
  · have h':(s.length:Int)>=(p.length:Int):=by omega
    simp only [h,h',decide_true,cond_true,if_true,Option.bind_some,Bool.true_and,l8]
  · have h': ¬(s.length:Int)>=(p.length:Int):=by omega
    simp only [h,h',decide_false,cond_false,Option.bind_some,Bool.false_and]
theorem ate (s:Str) (a b c:UInt8):dW s [a,b,c]=some (decide (s.take 3=[a,b,c])):=by
  rw [amX];congr 1
  show(decide (3<=s.length)&&decide (s.take 3=[a,b,c]))=_
  by_cases h:s.take 3=[a,b,c]
  · have:=congrArg List.length h;rw [List.length_take]at this;have h3:3<=s.length:=by simp at this;omega
    simp [h,h3]
  · simp [h]
theorem aiX (s:Str):decide (s∈IZ)=(decide (s∈Pw)||tV s):=by
  have h1:IZ=Pw++[[66,79,79,76,69,65,78],[83,84,82,73,78,71]]:=by kernel_rfl
  have h2:([84,82,85,69]:Str)∈Pw:=by decide+kernel
  have h3:([70,65,76,83,69]:Str)∈Pw:=by decide+kernel
  rw [h1];unfold tV;by_cases a:s=[84,82,85,69]
  · subst a;simp [h2]
  by_cases b:s=[70,65,76,83,69]
  · subst b;simp [h3]
  by_cases c:s∈Pw<;>simp [a,b,c]
theorem aiY:IZ.length=52:=by kernel_rfl
theorem afg (s:Str):(su s).length=s.length:=by simp [su]
theorem afh (s:Str) {i:Nat} (h:i<s.length):(su s)[i]? =some (s[i].toNat:Int):=by simp [su,h]
theorem alD (c:UInt8):IntKind.wrap .i64 (c.toNat:Int)=(c.toNat:Int):=by have:=c.toNat_lt;exact wrap64 (by omega) (by omega)
def Nh (s:Str):Nat:=s.countP isLet
theorem aiZ (s:Str):decide ((Nh s:Int)>0)=s.any isLet:=by
  unfold Nh
  induction s with
  |nil=>rfl
  |cons c l ih=>
    rw [List.countP_cons,List.any_cons];by_cases h:isLet c=true
    · simp only [h,if_true,Bool.true_or,decide_eq_true_eq];omega
    · rw [if_neg h,Nat.add_zero,ih];simp [h]
theorem Xi (c:UInt8):(Option.bind (gU (c.toNat:Int) 97 122) fun p26=>yI (c.toNat:Int) p26)=some (isLet c):=by
  unfold yI;simp only [qZ,Option.bind_some,alD];unfold isLet;have e1:((97:Int)<=(c.toNat:Int)/\(c.toNat:Int)<=122)=(97<=c.toNat/\c.toNat<=122):=by rw [eq_iff_iff];omega
  have e2:((65:Int)<=(c.toNat:Int)/\(c.toNat:Int)<=90)=(65<=c.toNat/\c.toNat<=90):=by rw [eq_iff_iff];omega
  simp only [e1,e2];cases decide (97<=c.toNat/\c.toNat<=122)<;>rfl
theorem pW (s:Str):Ev (fun k=>ou k s) (rName s):=by
  unfold ou CY;simp only [qZ,Option.bind_some,ate];by_cases h1:1<=s.length/\s.length<=24
  · have e1:(decide ((1:Int)<=(s.length:Int)/\(s.length:Int)<=24))=true:=decide_eq_true (by omega);simp only [e1,Bool.not_true,cond_false];refine Ev.bind (x:=Yb s||decide (s∈IZ)) ?_ ?_
    · unfold Yb;cases decide (s.take 3=[87,70,95])
      · cases decide (s.take 3=[83,70,95])
        · exact Ev.bind (Em _ _ (by rw [aiY];omega)) (Ev.some' (by simp only [Bool.false_or]))
        · exact Ev.some
      · exact Ev.some
    · have hspec:rName s=(!(Yb s||decide (s∈IZ))&&s.all gX&&s.any isLet):=by
        rw [aiX];unfold rName bName;simp only [h1,and_self,decide_true,Bool.true_and];cases decide (s∈Pw)<;>cases tV s<;>cases Yb s<;>cases s.all gX<;>cases s.any isLet<;>rfl
      rw [hspec];cases(Yb s||decide (s∈IZ))
      · simp only [cond_false,Bool.not_false,Bool.true_and];have hb:s.length<=1099511627776:=by omega
        have key: ∀m:Nat,m<=0->Ev (fun k=>kH k (m:Int) (su s) (s.length:Int) ((0:Nat):Int)) (if(s.drop 0).all gX=true then .inl ((m+Nh (s.drop 0):Nat):Int)else .inr false):=by
          refine jD (len:=s.length) (p:=fun i=> ∀m:Nat,m<=i->Ev (fun k=>kH k (m:Int) (su s) (s.length:Int) (i:Int)) (if(s.drop i).all gX=true then .inl ((m+Nh (s.drop i):Nat):Int)else .inr false)) ?_ fun i hi ih m hm=> ?_
          · intro m hm;refine Ev.succ ?_;simp only [kH];exact Ev.cF (jl _) (Ev.some' (by simp only [List.drop_length,List.all_nil,if_true,Nh,List.countP_nil,Nat.add_zero]))
          · refine Ev.succ ?_;have hp1:=Xi s[i];simp only [qZ,Option.bind_some]at hp1;simp only [kH,Int.toNat_natCast,afh s hi,Option.bind_some,nn,if_true,kX hi,cond_true,dQ hi hb,qZ,alD];refine Ev.oP hp1 ?_;have hcount:Nh (s.drop i)=(if isLet s[i]=true then 1 else 0)+Nh (s.drop (i+1)):=by
              unfold Nh;rw [drop_cons hi,List.countP_cons,Nat.add_comm]
            rw [hcount];have hall:(s.drop i).all gX=(gX s[i]&&(s.drop (i+1)).all gX):=by rw [drop_cons hi,List.all_cons]
            rw [hall];by_cases h2:isLet s[i]=true
            · have hc:gX s[i]=true:=by unfold gX;rw [h2];rfl
              refine Ev.cT h2 ?_;rw [dQ (i:=m) (n:=i+1) (by omega) (by omega)];refine(ih (m+1) (by omega)).to ?_;simp only [hc,h2,if_true,Bool.true_and,Nat.add_assoc]
            · have h2':isLet s[i]=false:=by simpa using h2
              refine Ev.cF h2' ?_;simp only [h2',Bool.false_eq_true,if_false,Nat.zero_add];have e3:((48:Int)<=(s[i].toNat:Int)/\(s[i].toNat:Int)<=57)=(48<=s[i].toNat/\s[i].toNat<=57):=by rw [eq_iff_iff];omega
              by_cases h3:48<=s[i].toNat/\s[i].toNat<=57
              · have hc:gX s[i]=true:=by unfold gX CX;simp [h3]
                refine Ev.cT (decide_eq_true (e3▸h3)) ((ih m (by omega)).to ?_);simp only [hc,Bool.true_and]
              · refine Ev.cF (decide_eq_false (e3▸h3)) ?_;by_cases h4:s[i].toNat=95
                · have hc:gX s[i]=true:=by unfold gX;simp [h4]
                  refine Ev.cF (by rw [h4];rfl) ((ih m (by omega)).to ?_);simp only [hc,Bool.true_and]
                · have hc:gX s[i]=false:=by unfold gX CX;rw [h2'];simp [h4];omega
                  refine Ev.cT (by rw [bne_iff_ne];omega) (Ev.some' ?_);simp only [hc,Bool.false_and,Bool.false_eq_true,if_false]
        have aq0:=key 0 (Nat.le_refl _);rw [List.drop_zero,Nat.zero_add]at aq0;simp only [afg];refine Ev.bind aq0 ?_;by_cases h3:s.all gX=true
        · simp only [h3,if_true,dD,Bool.true_and];exact Ev.some' (aiZ s)
        · simp only [h3,if_false,dK];exact Ev.some' (by simp [h3])
      · exact Ev.some
  · have e1:(decide ((1:Int)<=(s.length:Int)/\(s.length:Int)<=24))=false:=decide_eq_false (by omega);simp only [e1,Bool.not_false,cond_true,Option.bind_some];exact Ev.some' (by simp [rName,bName,h1])
theorem Tf (s:Str):(Lib.indexByte s 33= -1/\bang s=none)\/ ∃i:Nat,Lib.indexByte s 33=(i:Int)/\i<s.length/\bang s=some (s.take i,s.drop (i+1)):=by
  induction s with
  |nil=>exact .inl ⟨rfl,rfl⟩
  |cons c l ih=>
    by_cases h:c=33
    · subst h;exact .inr ⟨0,rfl,by simp,by simp [bang]⟩
    · have hc:(c==33)=false:=beq_eq_false_iff_ne.2 h;rcases ih with⟨h1,h2⟩|⟨i,h1,h2,h3⟩
      · exact .inl ⟨by simp [Lib.indexByte,hc,h1],by simp [bang,h,h2]⟩
      · refine .inr ⟨i+1,?_,by simp;omega,by simp [bang,h,h3]⟩;have:((i:Int)== -1)=false:=by rw [beq_eq_false_iff_ne];omega
        simp [Lib.indexByte,hc,h1,this]
theorem Ni {s:Str} (h:rName s=true):s.length<=24:=by
  unfold rName bName at h;simp only [Bool.and_eq_true,decide_eq_true_eq]at h;exact h.1.1.1.1.1.2
theorem Lj (s:Str) (hb:s.length<=1000000):Ev (fun k=>xD k s) (jE s):=by
  unfold xD aaX;by_cases hl:s.length<=49
  · refine Ev.cF (decide_eq_false (by omega)) ?_;unfold jE;rcases Tf s with⟨h1,h2⟩|⟨i,h1,h2,h3⟩
    · simp only [h1,h2,Option.bind_some];refine Ev.cF (by decide) (Ev.bind (pW s) ?_);cases rName s<;>exact Ev.some
    · simp only [h1,h3,Option.bind_some];refine Ev.cT (decide_eq_true (by omega)) (Ev.aQ ⟨by omega,by omega⟩ ?_);rw [dQ h2 (by omega)];refine Ev.aQ ⟨by omega,by omega⟩ (Ev.bind (pW _) ?_);simp only [Int.toNat_natCast];cases rName (s.take i)
      · exact Ev.some
      · simp only [cond_true,Bool.true_and];exact Ev.bind (pW _) Ev.some
  · refine Ev.cT (decide_eq_true (by omega)) (Ev.some' ?_);unfold jE;rcases Tf s with⟨h1,h2⟩|⟨i,h1,h2,h3⟩
    · simp only [h2];cases h:rName s
      · rfl
      · exact absurd (Ni h) (by omega)
    · simp only [h3];cases h:rName (s.take i)
      · rfl
      · cases h':rName (s.drop (i+1))
        · rfl
        · have a:=Ni h;have b:=Ni h';rw [List.length_take]at a;rw [List.length_drop]at b;omega
theorem acQ (s:Str):wC s=some (wz s):=by
  unfold wC wz;have h:(!ae6 s)=s.all MN:=by
    unfold ae6
    induction s with
    |nil=>rfl
    |cons c l ih=>
      rw [List.any_cons,List.all_cons,Bool.not_or,ih];congr 1
      unfold Rj MN;generalize c.toNat=n;by_cases h1:32<=n<;>by_cases h2:n<=126<;>by_cases h3:n=34<;>by_cases h4:n=92<;>simp [h1,h2,h3,h4]
  rw [h];by_cases hl:s.length<=40
  · have:(s.length:Int)<=40:=by omega
    simp [hl,this]
  · have: ¬(s.length:Int)<=40:=by omega
    simp [hl,this]
theorem Nj {l:List Operator} {t:Str} (h: ¬t∈l.map (·.text)):bY l t=(yC,false):=by
  induction l with
  |nil=>rfl
  |cons o l ih=>
    simp only [List.map_cons,List.mem_cons,not_or]at h;rw [bY,if_neg (fun e=>h.1 e.symm),ih h.2]
theorem awf (t:Str):bY ow t=bY dF t:=by
  have h1:((ow.map (·.text)).all fun t=>decide (bY ow t=bY dF t))=true:=by kernel_rfl
  have h2:((dF.map (·.text)).all fun t=>decide (t∈ow.map (·.text)))=true:=by kernel_rfl
  by_cases h:t∈ow.map (·.text)
  · exact of_decide_eq_true (List.all_eq_true.1 h1 t h)
  · rw [Nj h,Nj (fun h'=>h (of_decide_eq_true (List.all_eq_true.1 h2 t h')))]
theorem ai0:ow.length=42:=by kernel_rfl
theorem rD (t:Str):Ev (fun k=>kI k t) (bY dF t):=by
  rw [<-awf];have hl:ow.length<=1099511627776:=by rw [ai0];omega
  have key: ∃o:Unit⊕Int,Ev (fun k=>bg k ow t (ow.length:Int) ((0:Nat):Int)) o/\((o= .inl ()/\bY (ow.drop 0) t=(yC,false))\/ ∃(j:Nat) (x:Operator),o= .inr (j:Int)/\ow[j]? =some x/\bY (ow.drop 0) t=(x,true)):=by
    refine jD (len:=ow.length) (p:=fun i=> ∃o:Unit⊕Int,Ev (fun k=>bg k ow t (ow.length:Int) (i:Int)) o/\((o= .inl ()/\bY (ow.drop i) t=(yC,false))\/ ∃(j:Nat) (x:Operator),o= .inr (j:Int)/\ow[j]? =some x/\bY (ow.drop i) t=(x,true))) ?_ fun i hi ⟨o,ih,ho⟩=> ?_
    · refine⟨.inl (),Ev.succ ?_,.inl ⟨rfl,by simp [bY]⟩⟩;simp only [bg];exact Ev.cF (jl _) Ev.some
    · by_cases h:ow[i].text=t
      · refine⟨.inr (i:Int),Ev.succ ?_,.inr ⟨i,ow[i],rfl,aZ hi,by rw [drop_cons hi,bY,if_pos h]⟩⟩;simp only [bg,sF,Int.toNat_natCast,aZ hi,Option.bind_some,nn,if_true,kX hi,cond_true,dQ hi hl];exact Ev.cT (by rw [beq_iff_eq];exact h) Ev.some
      · refine⟨o,Ev.succ ?_,by rw [drop_cons hi,bY,if_neg h];exact ho⟩;simp only [bg,sF,Int.toNat_natCast,aZ hi,Option.bind_some,nn,if_true,kX hi,cond_true,dQ hi hl];exact Ev.cF (by rw [beq_eq_false_iff_ne];exact h) ih
  obtain⟨o,h1,h2⟩:=key;rw [List.drop_zero]at h2;unfold kI fF;rcases h2 with⟨rfl,h2⟩|⟨j,x,rfl,h3,h2⟩
  · refine Ev.bind (x:= -1) (Ev.bind h1 Ev.some) ?_;rw [h2];exact Ev.cT (by decide) Ev.some
  · refine Ev.bind (x:=(j:Int)) (Ev.bind h1 Ev.some) ?_;rw [h2];simp only [Int.toNat_natCast,h3,Option.bind_some,nn,if_true];exact Ev.cF (decide_eq_false (by omega)) Ev.some
end Go.VL
end
section
namespace Go.VL
def Ll:List Int->Int
  |[]=>0
  |a::l=>if a=0 then Ll l else a
theorem JJ (l:List Int) (hl:l.length<=1099511627776):Ev (fun k=>iJ k l) (Ll l):=by
  have key:Ev (fun k=>iB k l (l.length:Int) ((0:Nat):Int)) (if Ll (l.drop 0)=0 then .inl ()else .inr (Ll (l.drop 0))):=by
    refine jD (len:=l.length) (p:=fun i=>Ev (fun k=>iB k l (l.length:Int) (i:Int)) (if Ll (l.drop i)=0 then .inl ()else .inr (Ll (l.drop i)))) ?_ fun i hi ih=> ?_
    · refine Ev.succ ?_;simp only [iB];exact Ev.cF (jl _) (Ev.some' (by simp [Ll]))
    · refine Ev.succ ?_;simp only [iB,Int.toNat_natCast,aZ hi,Option.bind_some,nn,if_true,kX hi,cond_true,dQ hi hl];rw [drop_cons hi,Ll];by_cases h:l[i]=0
      · refine Ev.cF (by rw [h];rfl) (ih.to ?_);simp only [h,if_true]
      · refine Ev.cT (by rw [bne_iff_ne];exact h) (Ev.some' ?_);simp only [h,if_false]
  unfold iJ;refine Ev.bind key ?_;rw [List.drop_zero];by_cases h:Ll l=0
  · simp only [h,if_true,dD];exact Ev.some
  · simp only [h,if_false,dK];exact Ev.some
theorem acR (l:List Str) (hl:l.length<=1099511627776):Ev (fun k=>gq k l) (!l.all rName):=by
  have key: ∃o:Unit⊕Int,Ev (fun k=>bN k l (l.length:Int) ((0:Nat):Int)) o/\((o= .inl ()/\(l.drop 0).all rName=true)\/(∃j:Nat,o= .inr (j:Int))/\(l.drop 0).all rName=false):=by
    refine jD (len:=l.length) (p:=fun i=> ∃o:Unit⊕Int,Ev (fun k=>bN k l (l.length:Int) (i:Int)) o/\((o= .inl ()/\(l.drop i).all rName=true)\/(∃j:Nat,o= .inr (j:Int))/\(l.drop i).all rName=false)) ?_ fun i hi ⟨o,ih,ho⟩=> ?_
    · refine⟨.inl (),Ev.succ ?_,.inl ⟨rfl,by simp⟩⟩;simp only [bN];exact Ev.cF (jl _) Ev.some
    · have hn:Ev (fun k=>wM k l[i]) (!rName l[i]):=by unfold wM;exact Ev.bind (pW _) Ev.some
      by_cases h:rName l[i]=true
      · refine⟨o,Ev.succ ?_,by rw [drop_cons hi,List.all_cons,h,Bool.true_and];exact ho⟩;simp only [bN,Int.toNat_natCast,aZ hi,Option.bind_some,nn,if_true,kX hi,cond_true,dQ hi hl];exact Ev.bind hn (Ev.cF (by rw [h];rfl) ih)
      · have h:rName l[i]=false:=by simpa using h
        refine⟨.inr (i:Int),Ev.succ ?_,.inr ⟨⟨i,rfl⟩,by rw [drop_cons hi,List.all_cons,h,Bool.false_and]⟩⟩;simp only [bN,Int.toNat_natCast,aZ hi,Option.bind_some,nn,if_true,kX hi,cond_true,dQ hi hl];exact Ev.bind hn (Ev.cT (by rw [h];rfl) Ev.some)
  obtain⟨o,h1,h2⟩:=key;rw [List.drop_zero]at h2;unfold gq;rcases h2 with⟨rfl,h2⟩|⟨⟨j,rfl⟩,h2⟩
  · refine Ev.bind (x:= -1) (by unfold gP;exact Ev.bind h1 Ev.some) (Ev.some' ?_);rw [h2];rfl
  · refine Ev.bind (x:=(j:Int)) (by unfold gP;exact Ev.bind h1 Ev.some) (Ev.some' ?_);rw [h2];simp
theorem ai1 (a b:Int) (c:Str) (l:List Str) (d:List Int) (hl:l.length<=1099511627776):Ev (fun k=>iZ k a b c l d false l (l.length:Int) 0) (wB [] l):=by
  have key: ∀x:Bool,Ev (fun k=>iZ k a b c l d x l (l.length:Int) ((0:Nat):Int)) (x||wB (l.take 0) (l.drop 0)):=by
    refine jD (len:=l.length) (p:=fun i=> ∀x:Bool,Ev (fun k=>iZ k a b c l d x l (l.length:Int) (i:Int)) (x||wB (l.take i) (l.drop i))) (fun x=> ?_) fun i hi ih x=> ?_
    · refine Ev.succ ?_;simp only [iZ];exact Ev.cF (jl _) (Ev.some' (by simp [wB]))
    · refine Ev.succ ?_;have h2:i<=l.length:=by omega
      simp only [iZ,Int.toNat_natCast,aZ hi,Option.bind_some,nn,if_true,kX hi,cond_true,dQ hi hl,true_and,h2];rw [drop_cons hi,wB,<-List.take_succ_eq_append_getElem hi];cases x
      · refine Ev.cF rfl (Ev.bind (Em _ _ (by rw [List.length_take];omega)) ?_);simp only [Bool.false_or];exact ih _
      · exact Ev.cT rfl ((ih true).to (by simp))
  exact key false
def abh (n:Nd):Bool:= !(n.names.all rName)||(decide (n.kind=2)&& !tV n.text&& !jE n.text)||(decide (n.kind=3)&& !(bY dF n.text).2&& !jE n.text)||(decide (n.kind=18)&& !rName n.text)
def arT (n:Nd):Bool:=decide (n.kind=3)&&(bY dF n.text).2&& !gN (n.args.length:Int) (bY dF n.text).1.least (bY dF n.text).1.most
def JK (n:Nd):Int:=if abh n=true then 7 else if arT n=true then 17 else if wB [] n.names=true then 12 else 0
theorem Y7 (n:Nd) (h1:n.text.length<=1000000) (h2:n.names.length<=1000000):Ev (fun k=>pq k n) (JK n):=by
  unfold pq;refine Ev.bind (acR _ (by omega)) (Ev.bind (rD _) (Ev.bind (x:=(abh n,arT n)) ?_ ?_))
  · unfold yU abh arT gN;by_cases a:n.kind=2
    · simp only [a];refine Ev.cT rfl (Ev.bind (x:= !(n.names.all rName)||(!tV n.text&& !jE n.text)) ?_ (Ev.some' (by simp)));unfold yO;cases n.names.all rName
      · exact Ev.some
      · refine Ev.cF rfl ?_;simp only [aaQ,Option.bind_some];cases tV n.text
        · exact Ev.bind (Lj _ h1) (Ev.some' (by simp))
        · exact Ev.some
    by_cases b:n.kind=3
    · simp only [b];refine Ev.cF rfl (Ev.cT rfl (Ev.bind (x:= !(n.names.all rName)||(!(bY dF n.text).2&& !jE n.text)) ?_ ?_))
      · unfold yP;cases n.names.all rName
        · exact Ev.some
        · refine Ev.cF rfl ?_;cases(bY dF n.text).2
          · exact Ev.bind (Lj _ h1) (Ev.some' (by simp))
          · exact Ev.some
      · unfold yQ;simp only [qZ,Option.bind_some];cases(bY dF n.text).2
        · exact Ev.some' (by simp)
        · exact Ev.some' (by simp)
    by_cases c:n.kind=18
    · simp only [c];refine Ev.cF rfl (Ev.cF rfl (Ev.cT rfl (Ev.bind (x:= !(n.names.all rName)|| !rName n.text) ?_ (Ev.some' (by simp)))));unfold yT;cases n.names.all rName
      · exact Ev.some
      · exact Ev.cF rfl (Ev.bind (pW _) (Ev.some' (by simp)))
    · refine Ev.cF (beq_eq_false_iff_ne.2 a) (Ev.cF (beq_eq_false_iff_ne.2 b) (Ev.cF (beq_eq_false_iff_ne.2 c) (Ev.some' ?_)));simp [a,b,c]
  · refine Ev.bind (ai1 _ _ _ n.names _ (by omega)) ?_;simp only [AJ,Option.bind_some];refine Ev.bind (JJ _ (by simp)) (Ev.some' ?_);unfold JK;cases abh n<;>cases arT n<;>cases wB [] n.names<;>rfl
def Dw (n:Nd):Shape:=
  if n.kind=0 then Shape.mk (0,0) (0,0) false true else
  if n.kind=1\/n.kind=2 then Shape.mk (0,0) (0,0) true false else
  if n.kind=3 then(if(bY dF n.text).2=true then Shape.mk (0,0) ((n.args.length:Int),(n.args.length:Int)) true false else Shape.mk (0,0) (1,4) true false)else
  if n.kind=4\/n.kind=5 then Shape.mk (0,0) (0,30) false false else
  if n.kind=6\/n.kind=12 then Shape.mk (1,1) (2,2) false false else
  if n.kind=7\/n.kind=8\/n.kind=9\/n.kind=13 then Shape.mk (1,4) ((n.names.length:Int)+1,(n.names.length:Int)+1) false false else
  if n.kind=10\/n.kind=11 then Shape.mk (1,4) (1,1) false false else
  if n.kind=14 then Shape.mk (0,0) (2,5) false false else
  if n.kind=16\/n.kind=17 then Shape.mk (1,30) ((n.names.length:Int),(n.names.length:Int)) false false else
  if n.kind=18 then Shape.mk (0,0) (1,1) true false else
  if n.kind=19\/n.kind=21 then Shape.mk (0,0) (3,3) false false else
  if n.kind=20 then Shape.mk (0,0) (0,0) false false else
  if n.kind=22 then Shape.mk (0,0) (2,30) false false else
  if n.kind=23 then Shape.mk (1,5) (2,2) false true else
  if n.kind=24 then Shape.mk (1,4) (1,1) false false else Shape.mk (0,0) (2,2) false false
theorem kinds {k:Int} (h:gN k 0 28=true):k=0\/k=1\/k=2\/k=3\/k=4\/k=5\/k=6\/k=7\/k=8\/k=9\/k=10\/k=11\/k=12\/k=13\/k=14\/k=15\/k=16\/k=17\/k=18\/k=19\/k=20\/k=21\/k=22\/k=23\/k=24\/k=25\/k=26\/k=27\/k=28:=by
  unfold gN at h;rw [decide_eq_true_eq]at h;omega
theorem abj (n:Nd) (hk:gN n.kind 0 28=true) (h2:n.names.length<=1000000):Ev (fun k=>zI k n) (Dw n):=by
  have hw:IntKind.wrap .i64 ((n.names.length:Int)+1)=(n.names.length:Int)+1:=wrap64 (by omega) (by omega);rcases kinds hk with h|h|h|h|h|h|h|h|h|h|h|h|h|h|h|h|h|h|h|h|h|h|h|h|h|h|h|h|h
  case' inr.inr.inr.inl=>
    unfold zI wI Dw;simp only [h];refine Ev.cF rfl ?_;refine Ev.cg (Ev.bind (rD n.text) (g:=fun k (mR:Operator×Bool)=>cond mR.2 (some (Shape.mk (0,0) ((n.args.length:Int),(n.args.length:Int)) true false)) (some (Shape.mk (0,0) (1,4) true false))) ?_) (fun k=>rfl);cases(bY dF n.text).2<;>exact Ev.some
  all_goals
    unfold zI wI AO AP AQ AU AV AX uW Dw;simp only [h,hw];exact Ev.some
end Go.VL
end
section
namespace Go.VL
theorem aq1 (n:Nd) (hk:gN n.kind 0 28=true):(gN (n.names.length:Int) (Dw n).names.1 (Dw n).names.2&&gN (n.args.length:Int) (Dw n).operands.1 (Dw n).operands.2)=nY n:=by
  have d {a b:Int} (P:Prop) [Decidable P] (h:a=b) (x y:Int):gN a x y=gN b x y:=by rw [h]
  rcases kinds hk with h|h|h|h|h|h|h|h|h|h|h|h|h|h|h|h|h|h|h|h|h|h|h|h|h|h|h|h|h
  case' inr.inr.inr.inl=>
    unfold Dw nY;simp only [h];cases(bY dF n.text).2
    · show(gN _ 0 0&&gN _ 1 4)=(gN _ 0 0&&gN _ 1 4)
      simp [aY,sD,tK]
    · show(gN _ 0 0&&gN _ _ _)=(gN _ 0 0&&gN _ 0 _)
      unfold gN;simp [aY,sD,tK]
  all_goals
    unfold Dw nY;simp only [h];unfold gN;rw [Bool.eq_iff_iff];simp [aY,sD,tK,Ah,Ai,Aj,Ak,Al,Am];try omega
def clT (n:Nd):Bool:=((Dw n).text||decide (n.text=[]))&&((Dw n).number||decide (n.n=0))&&(!decide (n.kind=1)||wz n.text)&&(!decide (n.kind=23)||gN n.n 0 1)
theorem aq2 (n:Nd) (hk:gN n.kind 0 28=true):clT n=mH n:=by
  rcases kinds hk with h|h|h|h|h|h|h|h|h|h|h|h|h|h|h|h|h|h|h|h|h|h|h|h|h|h|h|h|h
  case' inr.inr.inr.inl=>
    unfold clT mH Dw;simp only [h];cases(bY dF n.text).2<;>simp
  all_goals
    unfold clT mH Dw;simp only [h];simp [and_comm]
theorem ag1 (n:Nd):JK n=if qh n≠0 then qh n else if wB [] n.names=true then 12 else 0:=by
  unfold JK abh arT qh;cases n.names.all rName
  · simp
  by_cases a:n.kind=2
  · simp only [a];cases tV n.text<;>cases jE n.text<;>simp
  by_cases b:n.kind=3
  · simp only [b];cases(bY dF n.text).2<;>cases jE n.text<;>cases gN (n.args.length:Int) (bY dF n.text).1.least (bY dF n.text).1.most<;>simp
  by_cases c:n.kind=18
  · simp only [c];cases rName n.text<;>simp
  · simp [a,b,c]
theorem awg {e:List Nd} {i:Nat} {acc:List Int} (h:qK e i acc) (hi:i<=1000000) (l:List Int): ∀(m:Nat),m<=l.length-> ∀nx:Nat,nx<=i-> ∀tg:Bool,
    ∃z,nS m acc ((nx:Int) -1) tg l=some (if sV acc nx (l.take m).reverse=true then .inr (z,tg)else .inl (z,false)):=by
  intro m
  induction m with
  |zero=>intro _ nx _ tg;exact⟨(nx:Int) -1,by simp [nS,sV]⟩
  |succ m ih=>
    intro hm nx hnx tg;have hm':m<l.length:=by omega
    rw [nS,aZ hm',Option.bind_some,aaT hm',sV];by_cases h1:l[m]=(nx:Int) -1
    · rw [uI (by rw [h1];simp)];by_cases h2:nx<1
      · refine⟨(nx:Int) -1,?_⟩;rw [zZ (decide_eq_true (by omega))];have: ¬(1:Int)<=nx:=by omega
        simp [this]
      · obtain⟨j,rfl⟩: ∃j,nx=j+1:=⟨nx -1,by omega⟩;have e2:(((j+1:Nat):Int) -1)=(j:Int):=by omega
        rw [e2]at h1⊢;obtain⟨n',b,h3,h4,h5,h6,_⟩:=h.at_ j (by omega);obtain⟨b,rfl⟩: ∃b':Nat,b=b':=⟨b.toNat,by omega⟩;obtain⟨z,hz⟩:=ih (by omega) b (by omega) tg;refine⟨z,?_⟩;rw [uI (decide_eq_false (by omega)),if_pos (by omega),Int.toNat_natCast,h4,Option.bind_some,wrap64 (by omega) (by omega),hz];have e3:(1:Int)<=((j+1:Nat):Int):=by omega
        simp only [h1,e3,decide_true,Bool.true_and,Option.getD_some]
    · refine⟨(nx:Int) -1,?_⟩;rw [zZ (by rw [bne_iff_ne];exact h1)];simp [h1]
theorem abk {e:List Nd} {i:Nat} {acc:List Int} (h:qK e i acc) (hi:i<=1000000) {n:Nd} (hn:e[i]? =some n) (h1:n.text.length<=1000000) (h2:n.names.length<=1000000) (h3:n.args.length<=1000000):
    Ev (fun k=>Dv k e (i:Int) acc) (bX (sV acc i n.args.reverse) n):=by
  unfold Dv;simp only [Int.toNat_natCast,hn,Option.bind_some,nn,if_true,qZ,AJ];unfold bX;by_cases hk:gN n.kind 0 28=true
  case neg=>exact Ev.to (Ev.cF (by simpa [gN]using hk) Ev.some) (if_pos (by simpa using hk)).symm
  refine Ev.to ?_ (if_neg (by simp [hk])).symm;refine Ev.cT hk (Ev.bind (abj n hk h2) (Ev.oP (x:= !nY n) ?_ ?_))
  · rw [<-aq1 n hk];unfold Bd gN;simp only [qZ,Option.bind_some];cases decide ((Dw n).names.1<=(n.names.length:Int)/\(n.names.length:Int)<=(Dw n).names.2)
    · rfl
    · rfl
  cases hs:nY n
  · exact Ev.some
  simp only [Bool.not_true,cond_false,Bool.true_eq_false,if_false];obtain⟨z,hz⟩:=awg h hi n.args n.args.length (Nat.le_refl _) i (Nat.le_refl _) true;rw [List.take_length]at hz;generalize sV acc (i:Int) n.args.reverse=pl at hz⊢;have hj:wP acc n.kind n.n n.text n.names n.args (IntKind.wrap .i64 ((i:Int) -1)) true=some (z,pl):=by
    unfold wP;rw [if_pos (by omega),wrap64 (by omega) (by omega),hz];cases pl<;>rfl
  refine Ev.oP hj (Ev.oP (x:=mH n) ?_ ?_)
  · rw [<-aq2 n hk];unfold Bn clT gN;simp only [acQ,qZ,Option.bind_some,l8,bne];have e1:((n.n==0):Bool)=decide (n.n=0):=by by_cases h:n.n=0<;>simp [h]
    have e2:((n.kind==1):Bool)=decide (n.kind=1):=by by_cases h:n.kind=1<;>simp [h]
    have e3:((n.kind==23):Bool)=decide (n.kind=23):=by by_cases h:n.kind=23<;>simp [h]
    simp only [e1,e2,e3];cases(Dw n).text<;>cases(Dw n).number<;>cases decide (n.text=[])<;>cases decide (n.n=0)<;>cases decide (n.kind=1)<;>cases wz n.text<;>cases decide (n.kind=23)<;>rfl
  have fin:Ev (fun k=>Option.bind (pq k n) fun p=>Option.bind (iJ k [if(!(pl&&mH n))=true then 5 else 0,if(!decide (n.kind=23)&& !gN n.n 0 10000)=true then 3 else 0,p]) fun q=>some q) (Ll [if(!(pl&&mH n))=true then 5 else 0,if(!decide (n.kind=23)&& !gN n.n 0 10000)=true then 3 else 0,JK n]):=
    Ev.bind (Y7 n h1 h2) (Ev.bind (JJ _ (by simp)) Ev.some)
  have hval:Ll [if(!(pl&&mH n))=true then 5 else 0,if(!decide (n.kind=23)&& !gN n.n 0 10000)=true then 3 else 0,JK n]=
      if(pl&&mH n)=false then 5 else if(decide (n.kind=0)&& !gN n.n 0 10000)=true then 3 else if qh n≠0 then qh n else if wB [] n.names=true then 12 else 0:=by
    rw [<-ag1];cases hpc:(pl&&mH n)
    · rfl
    · have hcl:mH n=true:=by revert hpc;cases pl<;>simp
      have hrg:(!decide (n.kind=23)&& !gN n.n 0 10000)=(decide (n.kind=0)&& !gN n.n 0 10000):=by
        unfold mH at hcl;simp only [Bool.and_eq_true]at hcl;have hx:=hcl.1.1.2;by_cases a:n.kind=0
        · simp [a]
        by_cases b:n.kind=23
        · simp [b]
        have hx:n.n=0:=by simpa [a,b]using hx
        simp [a,b,hx,gN]
      simp only [Bool.not_true,Bool.false_eq_true,if_false,Bool.true_eq_false,Ll,if_true,hrg];cases(decide (n.kind=0)&& !gN n.n 0 10000)
      · simp only [Bool.false_eq_true,if_false,if_true];split
        · rename_i h;exact h.symm
        · rfl
      · rfl
  rw [<-hval];refine Ev.cg fin fun k=> ?_;cases pl
  · simp only [cond_false];by_cases hl:n.kind=23
    · simp only [hl];rfl
    · rw [uI (beq_eq_false_iff_ne.2 hl)];simp only [hl,decide_false,Bool.not_false,Bool.true_and,Bool.false_and];rfl
  · simp only [cond_true];by_cases hl:n.kind=23
    · simp only [hl];rfl
    · rw [uI (beq_eq_false_iff_ne.2 hl)];simp only [hl,decide_false,Bool.not_false,Bool.true_and];rfl
theorem OQ {e:List Nd} (hL:Cj e): ∀i,i<=e.length-> ∀acc,qK e i acc->Ev (fun k=>jQ k e acc (e.length:Int) (i:Int)) (nZ acc (e.drop i)):=by
  have hlen:=hL.len;refine down (fun acc h=> ?_) (fun i hi ih acc h=> ?_)
  · refine Ev.succ ?_;simp only [jQ];exact Ev.cF (jl _) (Ev.some' (by simp [nZ]))
  · refine Ev.succ ?_;obtain⟨h1,h2,h3⟩:=hL.nd i _ (aZ hi);simp only [jQ];refine Ev.cT (kX hi) (Ev.bind (abk h (by omega) (aZ hi) h1 h2 h3) ?_);rw [drop_cons hi,nZ,h.len];by_cases hc:bX (sV acc i e[i].args.reverse) e[i]=0
    · refine Ev.cF (by rw [hc];rfl) ?_;have afi:=h.len;have hp:=yD hc;have hok:=h.succ (aZ hi) hp;refine Ev.aQ (by omega) (Ev.oP (x:=zn acc e[i]) ?_ (Ev.aQ (nn i) (Ev.oP (x:=0) ?_ ?_)))
      · unfold Oh zn;simp only [Int.toNat_natCast,aZ hi,Option.bind_some,nn,if_true];cases hargs:e[i].args with
        |nil=>simp [afi]
        |cons a l=>
          have ha:=WC h _ i (Nat.le_refl _) hp a (by rw [hargs];simp);obtain⟨n',b,h4,h5,_⟩:=h.at_ a.toNat (by omega);rw [uI (by rw [beq_eq_false_iff_ne,List.length_cons];omega),List.getElem?_cons_zero,Option.bind_some,if_pos ha.1,List.getElem?_append_left (by omega),h5];simp only [h5,Option.getD_some,Option.bind_some]
      · rw [Int.toNat_natCast,List.getElem?_append_right (by omega),afi,Nat.sub_self];rfl
      · have e1:(acc++[0]).set ((i:Int).toNat) (zn acc e[i])=acc++[zn acc e[i]]:=by
          rw [Int.toNat_natCast,List.set_append_right _ _ (by omega),afi,Nat.sub_self];rfl
        rw [e1,dQ hi (by omega)];refine(ih _ hok).to ?_;simp only [hc,ne_eq,not_true_eq_false,if_false]
    · refine Ev.cT (by rw [bne_iff_ne];exact hc) (Ev.some' ?_);simp only [ne_eq,hc,not_false_eq_true,if_true]
end Go.VL
end
section
namespace Go.VL
inductive Tm where
  |mk (x:Nd) (cs:List Tm)
namespace Tm
mutual
def size:Tm->Nat
  | .mk _ cs=>sizes cs+1
def sizes:List Tm->Nat
  |[]=>0
  |c::cs=>size c+sizes cs
end
def roots:Nat->List Tm->List Int
  |_,[]=>[]
  |b,c::cs=>((b+c.size -1:Nat):Int)::roots (b+c.size) cs
def nd (x:Nd) (b:Nat) (cs:List Tm):Nd:={x with args:=roots b cs}
mutual
def flat (b:Nat):Tm->List Nd
  | .mk x cs=>eF b cs++[nd x b cs]
def eF (b:Nat):List Tm->List Nd
  |[]=>[]
  |c::cs=>flat b c++eF (b+c.size) cs
end
theorem zK {b:Nat} {x:Nd} {cs:List Tm}:flat b (.mk x cs)=eF b cs++[nd x b cs]:=by rw [flat]
theorem rE {b:Nat} {c:Tm} {cs:List Tm}:eF b (c::cs)=flat b c++eF (b+c.size) cs:=by rw [eF]
def root:Tm->Nd| .mk x _=>x
theorem size_pos: ∀t:Tm,0<t.size
  | .mk x cs=>by unfold size;omega
mutual
theorem iV (b:Nat): ∀t:Tm,(flat b t).length=t.size
  | .mk x cs=>by unfold flat size;rw [List.length_append,jk b cs];rfl
theorem jk (b:Nat): ∀cs:List Tm,(eF b cs).length=sizes cs
  |[]=>rfl
  |c::cs=>by unfold eF sizes;rw [List.length_append,iV b c,jk (b+c.size) cs]
end
theorem nT: ∀(b:Nat) (cs:List Tm),(roots b cs).length=cs.length
  |_,[]=>rfl
  |b,c::cs=>by unfold roots;rw [List.length_cons,List.length_cons,nT (b+c.size) cs]
theorem lX: ∀a b:List Tm,sizes (a++b)=sizes a+sizes b
  |[],b=>by simp [sizes]
  |c::a,b=>by simp only [List.cons_append,sizes,lX a b];omega
theorem Bq: ∀(b:Nat) (l m:List Tm),eF b (l++m)=eF b l++eF (b+sizes l) m
  |b,[],m=>by simp [eF,sizes]
  |b,c::l,m=>by simp only [List.cons_append,eF,sizes,Bq (b+c.size) l m,List.append_assoc,Nat.add_assoc]
theorem Gj: ∀(b:Nat) (l m:List Tm),roots b (l++m)=roots b l++roots (b+sizes l) m
  |b,[],m=>by simp [roots,sizes]
  |b,c::l,m=>by simp only [List.cons_append,roots,sizes,Gj (b+c.size) l m,Nat.add_assoc]
def Seg (e:List Nd) (b:Nat) (s:Tm):Prop:= ∃pre post,e=pre++(flat b s++post)/\pre.length=b
theorem Seg.whole (t:Tm):Seg (flat 0 t) 0 t:=⟨[],[],by simp,rfl⟩
theorem Seg.lt {e:List Nd} {b:Nat} {s:Tm} (h:Seg e b s):b+s.size<=e.length:=by
  obtain⟨pre,post,rfl,rfl⟩:=h;simp only [List.length_append,iV];omega
theorem Seg.node {e:List Nd} {b:Nat} {x:Nd} {cs:List Tm} (h:Seg e b (.mk x cs)):e[b+sizes cs]? =some (nd x b cs):=by
  obtain⟨pre,post,rfl,rfl⟩:=h;rw [List.getElem?_append_right (by omega),show pre.length+sizes cs -pre.length=sizes cs by omega];rw [zK,List.append_assoc,List.getElem?_append_right (by rw [jk];exact Nat.le_refl _),jk,Nat.sub_self];rfl
theorem Seg.kid {e:List Nd} {b:Nat} {x:Nd} {l m:List Tm} {c:Tm} (h:Seg e b (.mk x (l++c::m))):Seg e (b+sizes l) c:=by
  obtain⟨pre,post,rfl,rfl⟩:=h;refine⟨pre++eF pre.length l,eF (pre.length+sizes l+c.size) m++([nd x pre.length (l++c::m)]++post),?_,by rw [List.length_append,jk]⟩;rw [zK,Bq,rE];simp only [List.append_assoc]
theorem Nk {b:Nat} {l m:List Tm} {c:Tm}:(roots b (l++c::m))[l.length]? =some (((b+sizes l+c.size -1:Nat):Int)):=by
  rw [Gj,List.getElem?_append_right (by rw [nT];exact Nat.le_refl _),nT,Nat.sub_self];rfl
theorem aq3 {cs:List Tm} {i:Nat} (h:i<cs.length): ∃l c m,cs=l++c::m/\l.length=i/\cs[i]? =some c:=by
  refine⟨cs.take i,cs[i],cs.drop (i+1),?_,by rw [List.length_take];omega,by simp [h]⟩;rw [List.getElem_cons_drop,List.take_append_drop]
end Tm
end Go.VL
end
section
namespace Go.VL
namespace Tm
mutual
def bgT (b:Nat):Tm->List Int
  | .mk _ cs=>rX b cs++[(b:Int)]
def rX (b:Nat):List Tm->List Int
  |[]=>[]
  |c::cs=>bgT b c++rX (b+c.size) cs
end
theorem abl {b:Nat} {x:Nd} {cs:List Tm}:bgT b (.mk x cs)=rX b cs++[(b:Int)]:=by rw [bgT]
mutual
theorem adU (b:Nat): ∀t:Tm,(bgT b t).length=t.size
  | .mk x cs=>by rw [abl];unfold size;rw [List.length_append,wT b cs];rfl
theorem wT (b:Nat): ∀cs:List Tm,(rX b cs).length=sizes cs
  |[]=>rfl
  |c::cs=>by unfold rX sizes;rw [List.length_append,adU b c,wT (b+c.size) cs]
end
theorem yL: ∀(b:Nat) (l m:List Tm),rX b (l++m)=rX b l++rX (b+sizes l) m
  |b,[],m=>by simp [rX,sizes]
  |b,c::l,m=>by simp only [List.cons_append,rX,sizes,yL (b+c.size) l m,List.append_assoc,Nat.add_assoc]
theorem ai2 {b:Nat} {t:Tm}:(bgT b t)[t.size -1]? =some (b:Int):=by
  cases t with
  |mk x cs=>
    rw [abl];have:(mk x cs).size -1=sizes cs:=by unfold size;omega
    rw [this,List.getElem?_append_right (by rw [wT];exact Nat.le_refl _),wT,Nat.sub_self];rfl
theorem H7 (t:Tm):sizes [t]=t.size:=by simp [sizes]
theorem ag2 (b:Nat) (t:Tm):eF b [t]=flat b t:=by simp [eF]
theorem ai3 (b:Nat) (t:Tm):rX b [t]=bgT b t:=by simp [rX]
theorem ag3 (b:Nat) (t:Tm):roots b [t]=[((b+t.size -1:Nat):Int)]:=by simp [roots]
theorem Xj {b:Nat} {l m:List Tm} {t:Tm}:(rX b (l++t::m))[sizes l+t.size -1]? =some ((b+sizes l:Nat):Int):=by
  have hp:=t.size_pos;rw [yL,List.getElem?_append_right (by rw [wT];omega),wT];unfold rX;rw [List.getElem?_append_left (by rw [adU];omega),show sizes l+t.size -1 -sizes l=t.size -1 by omega,ai2]
theorem abm {ts:List Tm} {acc:List Int} (ha:acc=rX 0 ts): ∀(l:List Int) (t1 rest:List Tm),ts=t1++rest->sV acc ((sizes t1:Nat):Int) l=true-> ∃front mid,t1=front++mid/\l.reverse=roots (sizes front) mid
  |[],t1,rest,_,_=>⟨t1,[],by simp,by simp [roots]⟩
  |a::l,t1,rest,hts,hp=>by
    rw [sV,Bool.and_eq_true,Bool.and_eq_true,decide_eq_true_eq,decide_eq_true_eq]at hp;obtain⟨⟨h1,h2⟩,h3⟩:=hp;rcases List.eq_nil_or_concat t1 with rfl|⟨t2,t,rfl⟩
    · simp [sizes]at h2
    rw [List.concat_eq_append]at*;have hpos:=t.size_pos;have hsz:sizes (t2++[t])=sizes t2+t.size:=by rw [lX,H7]
    have hget:acc[(((sizes (t2++[t]):Nat):Int) -1).toNat]? =some ((sizes t2:Nat):Int):=by
      rw [ha,hts,List.append_assoc,hsz,show((((sizes t2+t.size:Nat):Int) -1).toNat)=sizes t2+t.size -1 by omega];have:=Xj (b:=0) (l:=t2) (m:=rest) (t:=t);rw [Nat.zero_add]at this;exact this
    rw [hget,Option.getD_some]at h3;obtain⟨front,mid,e1,e2⟩:=abm ha l t2 ([t]++rest) (by rw [hts,List.append_assoc]) h3;refine⟨front,mid++[t],by rw [e1,List.append_assoc],?_⟩;rw [List.reverse_cons,e2,Gj,ag3];congr 2
    rw [h1,hsz,e1,lX];omega
def bare (n:Nd):Nd:={n with args:=[]}
theorem amY {n:Nd} {b:Nat} {cs:List Tm} (h:n.args=roots b cs):nd (bare n) b cs=n:=by
  unfold nd bare;cases n;simp only at h⊢;rw [h]
theorem row_step {ts:List Tm} {acc:List Int} {n:Nd} (ha:acc=rX 0 ts) (hp:sV acc (acc.length:Int) n.args.reverse=true):
    ∃front last,ts=front++last/\n.args=roots (sizes front) last/\eF 0 (front++[.mk (bare n) last])=eF 0 ts++[n]/\rX 0 (front++[.mk (bare n) last])=acc++[zn acc n]:=by
  have hl:acc.length=sizes ts:=by rw [ha,wT]
  rw [hl]at hp;obtain⟨front,last,e1,e2⟩:=abm ha n.args.reverse ts [] (by simp) hp;rw [List.reverse_reverse]at e2;refine⟨front,last,e1,e2,?_,?_⟩
  · rw [Bq,ag2,zK,amY (by rw [Nat.zero_add];exact e2),e1,Bq,List.append_assoc]
  · rw [yL,ai3,abl,ha,e1,yL,List.append_assoc];congr 3
    rw [Nat.zero_add];unfold zn;rw [e2];cases last with
    |nil=>simp [roots,rX,wT]
    |cons c cs=>
      simp only [roots];have h1:=Xj (b:=0) (l:=front) (m:=cs) (t:=c);rw [Nat.zero_add,yL,Nat.zero_add]at h1;rw [Int.toNat_natCast,h1,Option.getD_some]
mutual
def Br (b:Nat) (p k:Int):Tm->List (Int×Int)
  | .mk _ cs=>iW b ((b+sizes cs:Nat):Int) 0 cs++[(p,k)]
def iW (b:Nat) (p:Int) (k:Nat):List Tm->List (Int×Int)
  |[]=>[]
  |c::cs=>Br b p k c++iW (b+c.size) p (k+1) cs
end
def bQ (b:Nat):List Tm->List (Int×Int)
  |[]=>[]
  |c::cs=>Br b (-1) 0 c++bQ (b+c.size) cs
theorem Cw {b:Nat} {p k:Int} {x:Nd} {cs:List Tm}:Br b p k (.mk x cs)=iW b ((b+sizes cs:Nat):Int) 0 cs++[(p,k)]:=by rw [Br]
mutual
theorem jm (b:Nat) (p k:Int): ∀t:Tm,(Br b p k t).length=t.size
  | .mk x cs=>by rw [Cw];unfold size;rw [List.length_append,lH];rfl
theorem lH (b:Nat) (p:Int) (k:Nat): ∀cs:List Tm,(iW b p k cs).length=sizes cs
  |[]=>rfl
  |c::cs=>by unfold iW sizes;rw [List.length_append,jm b p k c,lH (b+c.size) p (k+1) cs]
end
theorem wU: ∀(b:Nat) (cs:List Tm),(bQ b cs).length=sizes cs
  |_,[]=>rfl
  |b,c::cs=>by unfold bQ sizes;rw [List.length_append,jm,wU (b+c.size) cs]
theorem Gl: ∀(b:Nat) (l m:List Tm),bQ b (l++m)=bQ b l++bQ (b+sizes l) m
  |b,[],m=>by simp [bQ,sizes]
  |b,c::l,m=>by simp only [List.cons_append,bQ,sizes,Gl (b+c.size) l m,List.append_assoc,Nat.add_assoc]
theorem ag4 (b:Nat) (t:Tm):bQ b [t]=Br b (-1) 0 t:=by simp [bQ]
theorem Yl: ∀(b:Nat) (p:Int) (k:Nat) (cs:List Tm) (j:Nat) (a:Int),(roots b cs)[j]? =some a-> ∃r:Nat,a=((b+r:Nat):Int)/\r<sizes cs/\(iW b p k cs)[r]? =some (p,((k+j:Nat):Int))
  |b,p,k,[],j,a,h=>by simp [roots]at h
  |b,p,k,c::cs,j,a,h=>by
    have hpos:=c.size_pos;cases j with
    |zero=>
      simp only [roots,List.getElem?_cons_zero,Option.some.injEq]at h;refine⟨c.size -1,by rw [<-h];congr 1;omega,by simp only [sizes];omega,?_⟩;unfold iW;rw [List.getElem?_append_left (by rw [jm];omega)];cases c with
      |mk x ds=>
        rw [Cw,show(mk x ds).size -1=sizes ds by unfold size;omega,List.getElem?_append_right (by rw [lH];exact Nat.le_refl _),lH,Nat.sub_self];rfl
    |succ j=>
      simp only [roots,List.getElem?_cons_succ]at h;obtain⟨r,h1,h2,h3⟩:=Yl (b+c.size) p (k+1) cs j a h;refine⟨c.size+r,by rw [h1,Nat.add_assoc],by simp only [sizes];omega,?_⟩;unfold iW;rw [List.getElem?_append_right (by rw [jm];omega),jm,show c.size+r -c.size=r by omega,h3];congr 3
      omega
mutual
theorem adV: ∀(b:Nat) (p k:Int) (t:Tm) (q:Nat) (n:Nd) (j:Nat) (a:Int),(flat b t)[q]? =some n->n.args[j]? =some a-> ∃r:Nat,a=((b+r:Nat):Int)/\r<q/\(Br b p k t)[r]? =some (((b+q:Nat):Int),(j:Int))
  |b,p,k,.mk x cs,q,n,j,a,h1,h2=>by
    rw [zK]at h1;rw [Cw];by_cases hq:q<sizes cs
    · rw [List.getElem?_append_left (by rw [jk];exact hq)]at h1;obtain⟨r,h3,h4,h5⟩:=abn b ((b+sizes cs:Nat):Int) 0 cs q n j a h1 h2;exact⟨r,h3,h4,by rw [List.getElem?_append_left (by rw [lH];omega)];exact h5⟩
    · have hlt:=(List.getElem?_eq_some_iff.1 h1).1;rw [List.length_append,jk]at hlt;obtain rfl:q=sizes cs:=by simp at hlt;omega
      rw [List.getElem?_append_right (by rw [jk];exact Nat.le_refl _),jk,Nat.sub_self,List.getElem?_cons_zero,Option.some.injEq]at h1;subst h1;obtain⟨r,h3,h4,h5⟩:=Yl b ((b+sizes cs:Nat):Int) 0 cs j a h2;refine⟨r,h3,h4,?_⟩;rw [List.getElem?_append_left (by rw [lH];exact h4),h5,Nat.zero_add]
theorem abn: ∀(b:Nat) (p:Int) (k:Nat) (cs:List Tm) (q:Nat) (n:Nd) (j:Nat) (a:Int),(eF b cs)[q]? =some n->n.args[j]? =some a-> ∃r:Nat,a=((b+r:Nat):Int)/\r<q/\(iW b p k cs)[r]? =some (((b+q:Nat):Int),(j:Int))
  |b,p,k,[],q,n,j,a,h1,h2=>by simp [eF]at h1
  |b,p,k,c::cs,q,n,j,a,h1,h2=>by
    rw [rE]at h1;unfold iW;by_cases hq:q<c.size
    · rw [List.getElem?_append_left (by rw [iV];exact hq)]at h1;obtain⟨r,h3,h4,h5⟩:=adV b p k c q n j a h1 h2;exact⟨r,h3,h4,by rw [List.getElem?_append_left (by rw [jm];omega)];exact h5⟩
    · rw [List.getElem?_append_right (by rw [iV];omega),iV]at h1;obtain⟨r,h3,h4,h5⟩:=abn (b+c.size) p (k+1) cs (q -c.size) n j a h1 h2;refine⟨c.size+r,by rw [h3,Nat.add_assoc],by omega,?_⟩;rw [List.getElem?_append_right (by rw [jm];omega),jm,show c.size+r -c.size=r by omega,h5];congr 3
      omega
end
theorem abo: ∀(b:Nat) (cs:List Tm) (q:Nat) (n:Nd) (j:Nat) (a:Int),(eF b cs)[q]? =some n->n.args[j]? =some a-> ∃r:Nat,a=((b+r:Nat):Int)/\r<q/\(bQ b cs)[r]? =some (((b+q:Nat):Int),(j:Int))
  |b,[],q,n,j,a,h1,h2=>by simp [eF]at h1
  |b,c::cs,q,n,j,a,h1,h2=>by
    rw [rE]at h1;unfold bQ;by_cases hq:q<c.size
    · rw [List.getElem?_append_left (by rw [iV];exact hq)]at h1;obtain⟨r,h3,h4,h5⟩:=adV b (-1) 0 c q n j a h1 h2;exact⟨r,h3,h4,by rw [List.getElem?_append_left (by rw [jm];omega)];exact h5⟩
    · rw [List.getElem?_append_right (by rw [iV];omega),iV]at h1;obtain⟨r,h3,h4,h5⟩:=abo (b+c.size) cs (q -c.size) n j a h1 h2;refine⟨c.size+r,by rw [h3,Nat.add_assoc],by omega,?_⟩;rw [List.getElem?_append_right (by rw [jm];omega),jm,show c.size+r -c.size=r by omega,h5];congr 3
      omega
def Says (b:Nat) (l:List Nd) (r:Nat) (P j:Int):Prop:= ∃(q j':Nat) (n:Nd),P=((b+q:Nat):Int)/\j=(j':Int)/\r<q/\l[q]? =some n/\n.args[j']? =some ((b+r:Nat):Int)
theorem Nl {b:Nat} {l m:List Nd} {r:Nat} {P j:Int} (h:Says b l r P j):Says b (l++m) r P j:=by
  obtain⟨q,j',n,h1,h2,h3,h4,h5⟩:=h;exact⟨q,j',n,h1,h2,h3,by rw [List.getElem?_append_left (List.getElem?_eq_some_iff.1 h4).1];exact h4,h5⟩
theorem Tg {b:Nat} {l m:List Nd} {r:Nat} {P j:Int} (h:Says (b+l.length) m r P j):Says b (l++m) (l.length+r) P j:=by
  obtain⟨q,j',n,h1,h2,h3,h4,h5⟩:=h;exact⟨l.length+q,j',n,by rw [h1,Nat.add_assoc],h2,by omega,by rw [List.getElem?_append_right (by omega),show l.length+q -l.length=q by omega];exact h4,by rw [h5,Nat.add_assoc]⟩
theorem afj: ∀(b:Nat) (cs:List Tm) (k:Nat) (c:Tm) (l m:List Tm),cs=l++c::m->(roots b cs)[l.length]? =some ((b+(sizes l+c.size -1):Nat):Int):=by
  intro b cs k c l m h;have hp:=c.size_pos;rw [h,Nk];congr 2
  omega
mutual
theorem Ym: ∀(b:Nat) (p k:Int) (t:Tm) (r:Nat) (P j:Int),(Br b p k t)[r]? =some (P,j)->(r=t.size -1/\P=p/\j=k)\/Says b (flat b t) r P j
  |b,p,k,.mk x cs,r,P,j,h=>by
    rw [Cw]at h;by_cases hr:r<sizes cs
    · rw [List.getElem?_append_left (by rw [lH];exact hr)]at h;rw [zK];rcases Ti b ((b+sizes cs:Nat):Int) 0 cs r P j h with⟨l,c,m,e1,e2,e3,e4⟩|hs
      · right;refine⟨sizes cs,l.length,nd x b cs,e3,by rw [e4,Nat.zero_add],hr,?_,?_⟩
        · rw [List.getElem?_append_right (by rw [jk];exact Nat.le_refl _),jk,Nat.sub_self];rfl
        · show(roots b cs)[l.length]? =_
          rw [afj b cs 0 c l m e1,e2]
      · exact .inr (Nl hs)
    · have hlt:=(List.getElem?_eq_some_iff.1 h).1;rw [List.length_append,lH]at hlt;obtain rfl:r=sizes cs:=by simp at hlt;omega
      rw [List.getElem?_append_right (by rw [lH];exact Nat.le_refl _),lH,Nat.sub_self,List.getElem?_cons_zero]at h;cases h;left;exact⟨by unfold size;omega,rfl,rfl⟩
theorem Ti: ∀(b:Nat) (p:Int) (k:Nat) (cs:List Tm) (r:Nat) (P j:Int),(iW b p k cs)[r]? =some (P,j)->
    (∃l c m,cs=l++c::m/\r=sizes l+c.size -1/\P=p/\j=((k+l.length:Nat):Int))\/Says b (eF b cs) r P j
  |b,p,k,[],r,P,j,h=>by simp [iW]at h
  |b,p,k,c::cs,r,P,j,h=>by
    unfold iW at h;rw [rE];by_cases hr:r<c.size
    · rw [List.getElem?_append_left (by rw [jm];exact hr)]at h;rcases Ym b p k c r P j h with⟨e1,e2,e3⟩|hs
      · exact .inl ⟨[],c,cs,rfl,by simp [sizes,e1],e2,by simp [e3]⟩
      · exact .inr (Nl hs)
    · rw [List.getElem?_append_right (by rw [jm];omega),jm]at h;rcases Ti (b+c.size) p (k+1) cs (r -c.size) P j h with⟨l,d,m,e1,e2,e3,e4⟩|hs
      · refine .inl ⟨c::l,d,m,by rw [e1];rfl,?_,e3,by rw [e4,List.length_cons];omega⟩;have:=d.size_pos;simp only [sizes];omega
      · right;have h2:Says (b+(flat b c).length) (eF (b+c.size) cs) (r -c.size) P j:=by rw [iV];exact hs
        have:=Tg h2;rw [iV,show c.size+(r -c.size)=r by omega]at this;exact this
end
theorem KD: ∀(b:Nat) (cs:List Tm) (r:Nat) (P j:Int),(bQ b cs)[r]? =some (P,j)->(P= -1/\j=0)\/Says b (eF b cs) r P j
  |b,[],r,P,j,h=>by simp [bQ]at h
  |b,c::cs,r,P,j,h=>by
    unfold bQ at h;rw [rE];by_cases hr:r<c.size
    · rw [List.getElem?_append_left (by rw [jm];exact hr)]at h;rcases Ym b (-1) 0 c r P j h with⟨e1,e2,e3⟩|hs
      · exact .inl ⟨e2,e3⟩
      · exact .inr (Nl hs)
    · rw [List.getElem?_append_right (by rw [jm];omega),jm]at h;rcases KD (b+c.size) cs (r -c.size) P j h with hs|hs
      · exact .inl hs
      · right;have h2:Says (b+(flat b c).length) (eF (b+c.size) cs) (r -c.size) P j:=by rw [iV];exact hs
        have:=Tg h2;rw [iV,show c.size+(r -c.size)=r by omega]at this;exact this
end Tm
end Go.VL
end
section
namespace Go.VL
open Tm
theorem adW: ∀(l:List Nd) (acc acc':List Int),nZ acc l= .inl acc'-> ∀(i:Nat) n,l[i]? =some n->bX true n=0
  |[],_,_,_,i,n,hn=>by simp at hn
  |m::l,acc,acc',h,i,n,hn=>by
    rw [nZ]at h;by_cases hc:bX (sV acc acc.length m.args.reverse) m=0
    · rw [if_neg (fun k=>k hc)]at h;cases i with
      |zero=>
        simp only [List.getElem?_cons_zero,Option.some.injEq]at hn;subst hn;rw [yD hc]at hc;exact hc
      |succ i=>exact adW l _ acc' h i n (by simpa using hn)
    · rw [if_pos hc]at h;cases h
def JL (a:Int):List Int->Nat->Option Nat
  |[],_=>none
  |x::l,j=>if x=a then some j else JL a l (j+1)
def Ja (a:Int):List Nd->Nat->Option (Nat×Nat)
  |[],_=>none
  |n::l,k=>match JL a n.args 0 with
    |some j=>some (k,j)
    |none=>Ja a l (k+1)
theorem abp {a:Int}: ∀{l:List Int} {j j':Nat},JL a l j=some j'-> ∃d,j'=j+d/\l[d]? =some a
  |[],j,j',h=>by simp [JL]at h
  |x::l,j,j',h=>by
    rw [JL]at h;by_cases hx:x=a
    · rw [if_pos hx]at h;cases h;exact⟨0,rfl,by simp [hx]⟩
    · rw [if_neg hx]at h;obtain⟨d,e1,e2⟩:=abp h;exact⟨d+1,by omega,by simpa using e2⟩
theorem abq {a:Int}: ∀{l:List Int} {j:Nat},JL a l j=none-> ∀d:Nat,l[d]? ≠some a
  |[],j,h,d=>by simp
  |x::l,j,h,d=>by
    rw [JL]at h;by_cases hx:x=a
    · rw [if_pos hx]at h;cases h
    · rw [if_neg hx]at h;cases d with
      |zero=>simpa using hx
      |succ d=>simpa using abq h d
theorem Yn {a:Int}: ∀{l:List Nd} {k k' j:Nat},Ja a l k=some (k',j)-> ∃d n,k'=k+d/\l[d]? =some n/\n.args[j]? =some a
  |[],k,k',j,h=>by simp [Ja]at h
  |n::l,k,k',j,h=>by
    rw [Ja]at h;cases hf:JL a n.args 0 with
    |some j'=>
      rw [hf]at h;cases h;obtain⟨d,e1,e2⟩:=abp hf;exact⟨0,n,rfl,rfl,by rw [e1,Nat.zero_add];exact e2⟩
    |none=>
      rw [hf]at h;obtain⟨d,m,e1,e2,e3⟩:=Yn h;exact⟨d+1,m,by omega,by simpa using e2,e3⟩
theorem Yo {a:Int}: ∀{l:List Nd} {k:Nat},Ja a l k=none-> ∀(d:Nat) n (j:Nat),l[d]? =some n->n.args[j]? ≠some a
  |[],k,h,d,n,j,hn=>by simp at hn
  |m::l,k,h,d,n,j,hn=>by
    rw [Ja]at h;cases hf:JL a m.args 0 with
    |some j'=>rw [hf]at h;cases h
    |none=>
      rw [hf]at h;cases d with
      |zero=>simp only [List.getElem?_cons_zero,Option.some.injEq]at hn;subst hn;exact abq hf j
      |succ d=>exact Yo h d n j (by simpa using hn)
theorem Xk {e:List Nd} {k:Nat} {n:Nd} (hn:e[k]? =some n) (hl:n.args.length<=1000000) (a:Int): ∀j,j<=n.args.length->Ev (fun f=>pO f e a (k:Int) (j:Int)) (match JL a (n.args.drop j) j with|some j'=> .inr ((k:Int),(j':Int))|none=> .inl ()):=by
  refine down ?_ fun j hj ih=> ?_
  · refine Ev.succ ?_;simp only [pO,Int.toNat_natCast,hn,Option.bind_some,nn,if_true];exact Ev.cF (jl _) (Ev.some' (by simp [JL]))
  · refine Ev.succ ?_;simp only [pO,Int.toNat_natCast,hn,aZ hj,Option.bind_some,nn,if_true,kX hj,cond_true,dQ hj (show n.args.length<=1099511627776 by omega)];rw [drop_cons hj,JL];by_cases h:n.args[j]=a
    · refine Ev.cT (by rw [beq_iff_eq];exact h) (Ev.some' ?_);rw [if_pos h]
    · refine Ev.cF (by rw [beq_eq_false_iff_ne];exact h) ?_;rw [if_neg h];exact ih
theorem Xl {e:List Nd} (hL:Cj e) (a:Int): ∀k,k<=e.length->Ev (fun f=>pQ f e a (k:Int)) (match Ja a (e.drop k) k with|some (k',j)=> .inr ((k':Int),(j:Int))|none=> .inl ()):=by
  have hlen:=hL.len;refine down ?_ fun k hk ih=> ?_
  · refine Ev.succ ?_;simp only [pQ];exact Ev.cF (jl _) (Ev.some' (by simp [Ja]))
  · refine Ev.succ ?_;simp only [pQ];rw [dQ hk (by omega)];have h0:=Xk (aZ hk) (hL.nd k _ (aZ hk)).2.2 a 0 (Nat.zero_le _);rw [List.drop_zero]at h0;refine Ev.cT (kX hk) (Ev.bind h0 ?_);rw [drop_cons hk,Ja];cases JL a e[k].args 0 with
    |some j=>simp only [dK];exact Ev.some
    |none=>simp only [dD];exact ih
theorem PE {ts:List Tm} {e:List Nd} (he:e=eF 0 ts) (hL:Cj e) {i:Nat} {P j:Int} (hi:i<e.length) (hp:(bQ 0 ts)[i]? =some (P,j)):Ev (fun k=>Ch k e (i:Int)) (P,j):=by
  have hlen:=hL.len;unfold Ch;rw [dQ hi (by omega)];refine Ev.bind (Xl hL (i:Int) (i+1) (by omega)) ?_;cases hf:Ja (i:Int) (e.drop (i+1)) (i+1)with
  |some q=>
    obtain⟨k',j'⟩:=q;obtain⟨d,n,e1,e2,e3⟩:=Yn hf;rw [List.getElem?_drop]at e2;rw [he]at e2;obtain⟨r,h1,h2,h3⟩:=abo 0 ts (i+1+d) n j' (i:Int) e2 e3;obtain rfl:r=i:=by omega
    rw [hp]at h3;cases h3;simp only [dK];exact Ev.some' (by rw [e1,Nat.zero_add])
  |none=>
    simp only [dD];rcases KD 0 ts i P j hp with⟨rfl,rfl⟩|⟨q,j',n,h1,h2,h3,h4,h5⟩
    · exact Ev.some
    · exfalso;rw [<-he]at h4;have:=Yo hf (q -(i+1)) n j' (by rw [List.getElem?_drop,show i+1+(q -(i+1))=q by omega];exact h4);rw [Nat.zero_add]at h5;exact this h5
theorem ag5 {b:Nat} {p k p' k':Int} (t:Tm):(Br b p k t).set (t.size -1) (p',k')=Br b p' k' t:=by
  cases t with
  |mk x cs=>
    rw [Cw,Cw,show(mk x cs).size -1=sizes cs by unfold size;omega,List.set_append_right _ _ (by rw [lH];exact Nat.le_refl _),lH,Nat.sub_self];rfl
theorem Tj {i:Nat} {args:List Int} (hl:args.length<=1000000) (A B:List (Int×Int)) (last:List Tm) (ha:args=roots A.length last):
    ∀(rest:List Tm) (done:List Tm),last=done++rest->Ev (fun k=>nQ k ((A++iW A.length (i:Int) 0 done++bQ (A.length+sizes done) rest++B).map Prod.fst) ((A++iW A.length (i:Int) 0 done++bQ (A.length+sizes done) rest++B).map Prod.snd) (i:Int) args (args.length:Int) (done.length:Int))
      ((A++iW A.length (i:Int) 0 last++B).map Prod.fst,(A++iW A.length (i:Int) 0 last++B).map Prod.snd):=by
  intro rest
  induction rest with
  |nil=>
    intro done hd;rw [List.append_nil]at hd;subst hd;refine Ev.succ ?_;simp only [nQ];have:args.length=last.length:=by rw [ha,nT]
    rw [this];exact Ev.cF (jl _) (Ev.some' (by simp [bQ]))
  |cons c rest ih=>
    intro done hd;have hpos:=c.size_pos;have hal:args.length=last.length:=by rw [ha,nT]
    have hdl:done.length<args.length:=by rw [hal,hd];simp
    have hget:args[done.length]? =some ((A.length+sizes done+c.size -1:Nat):Int):=by rw [ha,hd];exact Nk
    refine Ev.succ ?_;simp only [nQ,Int.toNat_natCast,hget,Option.bind_some,nn,if_true,dQ hdl (show args.length<=1099511627776 by omega)];refine Ev.cT (kX hdl) ?_;have hL:(A++iW A.length (i:Int) 0 done).length=A.length+sizes done:=by rw [List.length_append,lH]
    have hset:(A++iW A.length (i:Int) 0 done++bQ (A.length+sizes done) (c::rest)++B).set (A.length+sizes done+c.size -1) ((i:Int),(done.length:Int))=A++iW A.length (i:Int) 0 (done++[c])++bQ (A.length+sizes (done++[c])) rest++B:=by
      have e1:iW A.length (i:Int) 0 (done++[c])=iW A.length (i:Int) 0 done++Br (A.length+sizes done) (i:Int) (done.length:Int) c:=by
        have gen: ∀(d:List Tm) (b k:Nat),iW b (i:Int) k (d++[c])=iW b (i:Int) k d++Br (b+sizes d) (i:Int) ((k+d.length:Nat):Int) c:=by
          intro d
          induction d with
          |nil=>intro b k;simp [iW,sizes]
          |cons x d ih=>
            intro b k;simp only [List.cons_append,iW,ih,List.append_assoc,sizes,Nat.add_assoc,List.length_cons];congr 4
            omega
        rw [gen,Nat.zero_add]
      rw [e1,lX,H7];show(A++iW A.length (i:Int) 0 done++(Br (A.length+sizes done) (-1) 0 c++bQ (A.length+sizes done+c.size) rest)++B).set _ _=_
      rw [List.append_assoc,List.set_append_right _ _ (by rw [hL];omega),hL,show A.length+sizes done+c.size -1 -(A.length+sizes done)=c.size -1 by omega];rw [List.append_assoc (Br (A.length+sizes done) (-1) 0 c),List.set_append_left _ _ (by rw [jm];omega),ag5];simp only [List.append_assoc,Nat.add_assoc]
    have hin:A.length+sizes done+c.size -1<(A++iW A.length (i:Int) 0 done++bQ (A.length+sizes done) (c::rest)++B).length:=by
      rw [List.length_append,List.length_append,hL,wU];simp only [sizes];omega
    rw [List.getElem?_map,List.getElem?_map,aZ hin];simp only [Option.map_some,Option.bind_some];have:=ih (done++[c]) (by rw [hd,List.append_assoc];rfl);rw [<-hset,List.map_set,List.map_set]at this;rw [List.length_append]at this;exact this
theorem Tk {e:List Nd} (hL:Cj e): ∀(l:List Nd) (acc:List Int) (ts:List Tm) (acc':List Int) (i:Nat),acc=rX 0 ts->sizes ts=i->l=e.drop i->i<=e.length->nZ acc l= .inl acc'->
    ∃ts',eF 0 ts'=eF 0 ts++l/\acc'=rX 0 ts'/\Ev (fun k=>nR k ((bQ 0 ts++List.replicate (e.length -i) ((-1:Int),(0:Int))).map Prod.fst) ((bQ 0 ts++List.replicate (e.length -i) ((-1:Int),(0:Int))).map Prod.snd) e (e.length:Int) (i:Int)) ((bQ 0 ts').map Prod.fst,(bQ 0 ts').map Prod.snd):=by
  have hlen:=hL.len;intro l
  induction l with
  |nil=>
    intro acc ts acc' i ha hs hl hi h;have:e.length<=i:=by
      have:=congrArg List.length hl;rw [List.length_drop,List.length_nil]at this;omega
    obtain rfl:i=e.length:=by omega
    refine⟨ts,by simp,by rw [nZ]at h;cases h;exact ha,Ev.succ ?_⟩;simp only [nR];exact Ev.cF (jl _) (Ev.some' (by simp))
  |cons n l ih=>
    intro acc ts acc' i ha hs hl hi h;have hlt:i<e.length:=by
      have:=congrArg List.length hl;rw [List.length_drop,List.length_cons]at this;omega
    rw [drop_cons hlt]at hl;obtain⟨rfl,rfl⟩:=List.cons.inj hl;rw [nZ]at h;have hc:bX (sV acc acc.length e[i].args.reverse) e[i]=0:=by
      by_cases hc:bX (sV acc acc.length e[i].args.reverse) e[i]=0
      · exact hc
      · rw [if_pos hc]at h;cases h
    rw [if_neg (fun k=>k hc)]at h;obtain⟨front,last,e1,e2,e3,e4⟩:=row_step ha (yD hc);have hsz:sizes (front++[.mk (bare e[i]) last])=i+1:=by
      rw [lX,H7];unfold size;rw [<-hs,e1,lX];omega
    obtain⟨ts',h1,hb,h2⟩:=ih _ _ acc' (i+1) e4.symm hsz rfl hlt h;refine⟨ts',by rw [h1,e3,List.append_assoc];rfl,hb,Ev.succ ?_⟩;simp only [nR,Int.toNat_natCast,aZ hlt,Option.bind_some,nn,if_true];rw [dQ hlt (by omega)];refine Ev.cT (kX hlt) ?_;have hrep:List.replicate (e.length -i) ((-1:Int),(0:Int))=((-1:Int),(0:Int))::List.replicate (e.length -(i+1)) ((-1:Int),(0:Int)):=by
      rw [show e.length -i=(e.length -(i+1))+1 by omega,List.replicate_succ]
    have hA:(bQ 0 front).length=sizes front:=wU 0 front;have key:=Tj (i:=i) (args:=e[i].args) (hL.nd i _ (aZ hlt)).2.2 (bQ 0 front) (List.replicate (e.length -i) ((-1:Int),(0:Int))) last (by rw [hA];exact e2) last [] rfl;have hstart:bQ 0 front++iW (bQ 0 front).length (i:Int) 0 []++bQ ((bQ 0 front).length+sizes []) last++List.replicate (e.length -i) ((-1:Int),(0:Int))=bQ 0 ts++List.replicate (e.length -i) ((-1:Int),(0:Int)):=by
      rw [hA,e1,Gl];simp [iW,sizes]
    rw [hstart]at key;refine Ev.bind key ?_;have hend:bQ 0 front++iW (bQ 0 front).length (i:Int) 0 last++List.replicate (e.length -i) ((-1:Int),(0:Int))=bQ 0 (front++[.mk (bare e[i]) last])++List.replicate (e.length -(i+1)) ((-1:Int),(0:Int)):=by
      rw [hA,Gl,ag4,Cw,hrep];have:sizes front+sizes last=i:=by rw [<-lX,<-e1,hs]
      simp [this]
    rw [hend];exact h2
end Go.VL
end
