/- Part 7 of the proof: what the theorem rests on. -/
import Derived.Test.YthebklihgmhgoaaGreatDoorKe6
import Derived.Lib.RowBridge
import Derived.Lib.SlicesCompact
set_option linter.unusedVariables false
set_option linter.unusedSectionVars false
set_option linter.unusedSimpArgs false
section
set_option maxRecDepth 8000
set_option maxHeartbeats 4000000
namespace Go.VL
open Go.Proofs
def pY:Nat->(List Nd)->Int->Int->Int->Int->Str->(List Str)->(List Int)->Int->Option ((Int×Int×Str×(List Str)×(List Int)))
  |0,_,_,_,_,_,_,_,_,_=>none
  |k+1,aH,kK,eU,Ij,Ik,Il,Im,Da,yh=>
    if 0<=eU then Option.bind (aH[eU.toNat]?) fun x10=>cond (decide (yh<(x10.args.length:Int))) (if 0<=yh then Option.bind (x10.args[yh.toNat]?) fun Yy=>if(Da.length+1)*8<=1099511627776 then pY k aH kK eU Ij Ik Il Im (Da++[(IntKind.wrap .i64 (Yy -kK))]) (IntKind.wrap .i64 (yh+1))else none else none) (some ((Ij,Ik,Il,Im,Da)))else none
def TS:List Nat:=[9]++List.range' 28 25
theorem acX: ∀(k:Nat) (BD:Nat) (aH:List Nd) (kK:Int) (eU:Int) (Ij:Int) (Ik:Int) (Il:Str) (Im:List Str) (Da:List Int) (yh:Int) (um:Ck) (lJ:Ck) (aC σ:Nat->PV) (H0 H:AH) (f0:Fr TS aC σ) (hf0:HF [BD] H0 H) (sl:σ 0=(.aB (aH.map Nd.cells) .unk)/\σ 5=(.int .i64 kK)/\σ 7=(.int .i64 eU)/\σ 8=(.ref (BD) 0)/\σ 9=(.int .i64 yh)/\H.obj BD=some [(.int .i64 Ij),(.int .i64 Ik),(.str Il),(.aB (Im.map aX) .unk),(.aB (Da.map bI) um)]) (OD:BD<H.next) (abT:d9 H um) (Io:d9 H lJ) (sP:qw um lJ) (o:(Int×Int×Str×(List Str)×(List Int))) (h:pY k aH kK eU Ij Ik Il Im Da yh=some o) (Q:Post) (q0: ∀(p:Int×Int×Str×(List Str)×(List Int)) (c4:Ck) (σ':Nat->PV) (H':AH),o=p->Fr TS aC σ'->HF [BD] H0 H'->(H'.obj BD=some [(.int .i64 p.1),(.int .i64 p.2.1),(.str p.2.2.1),(.aB (p.2.2.2.1.map aX) .unk),(.aB (p.2.2.2.2.map bI) c4)])->d9 H' lJ->Q (.exit 2) σ' H'),W Tryz.prog (.loop Vp) Q σ H:=by
  intro k
  induction k with
  |zero=>intro BD aH kK eU Ij Ik Il Im Da yh um lJ aC σ H0 H f0 hf0 sl OD abT Io sP o h Q q0;simp only [pY,reduceCtorEq]at h
  |succ k ih=>
    intro BD aH kK eU Ij Ik Il Im Da yh um lJ aC σ H0 H f0 hf0 sl OD abT Io sP o h Q q0;obtain⟨s0,s5,s7,s8,s9,axp⟩:=sl;have axq:=ne_next OD;have axr:=aU OD;have hle0:=hf0.1;unfold pY at h;refine bA (fun K hK=>aF ?_);unfold Vp;obtain⟨e9,h⟩:=aD h;obtain⟨x10,e11,h⟩:=aj h;rcases au h with⟨e12,h⟩|⟨e12,h⟩
    ·try refine ah ?_
     refine bO ?_;obtain⟨e13,h⟩:=aD h;obtain⟨Yy,e15,h⟩:=aj h;obtain⟨e20,h⟩:=aD h;try refine ah ?_
     refine jV (f:=bI) Ji Da ([(IntKind.wrap .i64 (Yy -kK))]:List Int) um .exact av av eO (by first|exact e20|(simp only [List.length_cons,List.length_nil];exact e20)) (fun c16 H17 aol le awD awE=> ?_);have awF:HF [] _ H17:=⟨le,fun i _ _=>awD i⟩;try simp only [AH.aJ,AH.aK,AH.aL,AH.aM]at le
     obtain⟨aoo,awG⟩:=awE lJ eO sP;have n25:=ne_next (show BD<H17.next by first|omega|(simp only [AH.aJ,AH.aK,AH.aL,AH.aM];omega));have m26:=aU (show BD<H17.next by first|omega|(simp only [AH.aJ,AH.aK,AH.aL,AH.aM];omega));try refine ah ?_
     refine hK _ _ ?_;exact ih BD aH kK eU Ij Ik Il Im (Da++[(IntKind.wrap .i64 (Yy -kK))]) (IntKind.wrap .i64 (yh+1)) c16 lJ _ _ _ _ aO (by repeat (first|exact hf0|refine HF.new ?_|refine HF.dR ?_|refine HF.used ?_|refine HF.put (by first|(right;omega)|(left;simp only [List.mem_cons,true_or,or_true])) ?_|refine HF.via awF (by first|exact fun i hi=>absurd hi List.not_mem_nil|(intro i hi;simp only [List.mem_cons,List.not_mem_nil,or_false]at hi⊢;first|exact .inl hi|omega)) ?_)) av bE eO eO awG _ h _ q0
    ·obtain rfl:=ak h;try refine ah ?_
     exact q0 _ um _ _ rfl aO (by repeat (first|exact hf0|refine HF.new ?_|refine HF.dR ?_|refine HF.used ?_|refine HF.put (by first|(right;omega)|(left;simp only [List.mem_cons,true_or,or_true])) ?_)) av eO
def rH:Nat->(List Nd)->Int->Int->(List Nd)->Int->Option (List Nd)
  |0,_,_,_,_,_=>none
  |k+1,aH,fV,kK,BF,eU=>
    cond (decide (eU<=fV)) (if 0<=eU then Option.bind (aH[eU.toNat]?) fun x5=>Option.bind (mY x5.names) fun p8=>Option.bind (pY k aH kK eU x5.kind x5.n x5.text p8 ([]:List Int) 0) (fun p29=>if(BF.length+1)*80<=1099511627776 then rH k aH fV kK (BF++[(Nd.mk p29.1 p29.2.1 p29.2.2.1 p29.2.2.2.1 p29.2.2.2.2)]) (IntKind.wrap .i64 (eU+1))else none)else none) (some (BF))
def TT:List Nat:=[6,7,8,9]++List.range' 14 43
theorem acY: ∀(k:Nat) (aH:List Nd) (fV:Int) (kK:Int) (BF:List Nd) (eU:Int) (rJ:Ck) (aC σ:Nat->PV) (H0 H:AH) (f0:Fr TT aC σ) (hf0:HF [] H0 H) (sl:σ 0=(.aB (aH.map Nd.cells) .unk)/\σ 1=(.int .i64 fV)/\σ 5=(.int .i64 kK)/\σ 6=(.aB (BF.map Nd.cells) rJ)/\σ 7=(.int .i64 eU)) (abU:d9 H rJ) (o:List Nd) (h:rH k aH fV kK BF eU=some o) (Q:Post) (q0: ∀(p:List Nd) (c0:Ck) (σ':Nat->PV) (H':AH),o=p->Fr TT aC σ'->HF [] H0 H'->(σ' 6=(.aB (p.map Nd.cells) c0))->Q (.exit 0) σ' H'),W Tryz.prog (.loop Vq) Q σ H:=by
  intro k
  induction k with
  |zero=>intro aH fV kK BF eU rJ aC σ H0 H f0 hf0 sl abU o h Q q0;simp only [rH,reduceCtorEq]at h
  |succ k ih=>
    intro aH fV kK BF eU rJ aC σ H0 H f0 hf0 sl abU o h Q q0;obtain⟨s0,s1,s5,s6,s7⟩:=sl;have hle0:=hf0.1;unfold rH at h;refine bA (fun K hK=>aF ?_);unfold Vq;rcases au h with⟨e3,h⟩|⟨e3,h⟩
    ·obtain⟨e4,h⟩:=aD h;obtain⟨x5,e6,h⟩:=aj h;obtain⟨p8,e7,h⟩:=aj h;try refine ah ?_
     refine aA (AB e7) ?_;try refine ah ?_
     obtain⟨o27,h28,h⟩:=aj h;refine acX k (H.next) aH kK eU x5.kind x5.n x5.text p8 ([]:List Int) 0 .nil rJ _ _ _ _ (Fr.refl _ _) (HF.refl _ _) av bE eO eO qw.nil _ h28 _ ?_
     ·rintro p29 c33 σ' H32 eo IG aro g34 aoC;rw [eo]at h;have s36:σ' 0=(.aB (aH.map Nd.cells) .unk):=(IG 0 (by decide)).trans av;have s37:σ' 1=(.int .i64 fV):=(IG 1 (by decide)).trans av;have s38:σ' 5=(.int .i64 kK):=(IG 5 (by decide)).trans av;have s39:σ' 6=(.aB (BF.map Nd.cells) rJ):=(IG 6 (by decide)).trans av;have s40:σ' 7=(.int .i64 eU):=(IG 7 (by decide)).trans av;have s41:σ' 8=(.ref (H.next) 0):=(IG 8 (by decide)).trans av;have le:=aro.1;try simp only [AH.aJ,AH.aK,AH.aL,AH.aM]at le
      have n43:=ne_next (show H.next<H32.next by first|omega|(simp only [AH.aJ,AH.aK,AH.aL,AH.aM];omega));have m44:=aU (show H.next<H32.next by first|omega|(simp only [AH.aJ,AH.aK,AH.aL,AH.aM];omega));obtain⟨e49,h⟩:=aD h;try refine ah ?_
      refine jV (f:=Nd.cells) Nd.row BF ([(Nd.mk p29.1 p29.2.1 p29.2.2.1 p29.2.2.2.1 p29.2.2.2.2)]:List Nd) rJ .exact av av eO (by first|exact e49|(simp only [List.length_cons,List.length_nil];exact e49)) (fun c45 H46 aoI le awH aAB=> ?_);have abb:HF [] _ H46:=⟨le,fun i _ _=>awH i⟩;try simp only [AH.aJ,AH.aK,AH.aL,AH.aM]at le
      have n52:=ne_next (show H.next<H46.next by first|omega|(simp only [AH.aJ,AH.aK,AH.aL,AH.aM];omega));have m53:=aU (show H.next<H46.next by first|omega|(simp only [AH.aJ,AH.aK,AH.aL,AH.aM];omega));try refine ah ?_
      refine hK _ _ ?_;exact ih aH fV kK (BF++[(Nd.mk p29.1 p29.2.1 p29.2.2.1 p29.2.2.2.1 p29.2.2.2.2)]) (IntKind.wrap .i64 (eU+1)) c45 _ _ _ _ (by repeat (first|exact f0|refine Fr.upd (by decide) ?_|refine Fr.via IG (by decide) ?_)) (by repeat (first|exact hf0|refine HF.new ?_|refine HF.dR ?_|refine HF.used ?_|refine HF.put (by first|(right;omega)|(left;simp only [List.mem_cons,true_or,or_true])) ?_|refine HF.via aro (by first|exact fun i hi=>absurd hi List.not_mem_nil|(intro i hi;simp only [List.mem_cons,List.not_mem_nil,or_false]at hi⊢;first|exact .inl hi|omega)) ?_|refine HF.via abb (by first|exact fun i hi=>absurd hi List.not_mem_nil|(intro i hi;simp only [List.mem_cons,List.not_mem_nil,or_false]at hi⊢;first|exact .inl hi|omega)) ?_)) av eO _ h _ q0
    ·obtain rfl:=ak h;try refine ah ?_
     exact q0 _ rJ _ _ rfl aO (by repeat (first|exact hf0|refine HF.new ?_|refine HF.dR ?_|refine HF.used ?_|refine HF.put (by first|(right;omega)|(left;simp only [List.mem_cons,true_or,or_true])) ?_)) av
def ND (k:Nat) (aH:List Nd) (fV:Int):Option (List Nd):=
  Option.bind (uS k aH fV) fun p2=>Option.bind (rH k aH fV p2 ([]:List Nd) p2) (fun p56=>some p56)
theorem ajz {k:Nat} {aH:List Nd} {fV:Int} {c0:Ck} {r:List Nd} (h:ND k aH fV=some r):aG Tryz.prog 62 [(.aB (aH.map Nd.cells) c0),(.int .i64 fV)] (.aB (r.map Nd.cells) .unk):=by
  refine aG.lw (.aB (.same .nil)) (aG.aR (bB.mem (.cons (bC Nd.pu _) (.cons (.int _ _) .nil))) (aI ave (by simp) (aF ?_)) (bC Nd.pu _));unfold ND at h;unfold aoX;obtain⟨p2,e1,h⟩:=aj h;try refine ah ?_
  refine aA (Ms e1) ?_;try refine ah ?_
  obtain⟨o54,h55,h⟩:=aj h;refine acY k aH fV p2 ([]:List Nd) p2 .nil _ _ _ _ (Fr.refl _ _) (HF.refl _ _) av eO _ h55 _ ?_
  ·rintro p56 c60 σ' H59 eo aAC ajA s61;rw [eo]at h;have le:=ajA.1;try simp only [AH.aJ,AH.aK,AH.aL,AH.aM]at le
   obtain rfl:=ak h;try refine ah ?_
   exact(jr Nd.pu _ _)
def DC (k:Nat) (aH:List Nd) (bH:Int):Option (List Nd):=
  Option.bind (wu aH) fun p2=>if 0<=bH then Option.bind (p2.args[bH.toNat]?) fun x4=>Option.bind (ND k aH x4) fun p7=>some p7 else none
theorem acZ {k:Nat} {aH:List Nd} {bH:Int} {c0:Ck} {r:List Nd} (h:DC k aH bH=some r):aG Tryz.prog 22 [(.aB (aH.map Nd.cells) c0),(.int .i64 bH)] (.aB (r.map Nd.cells) .unk):=by
  refine aG.lw (.aB (.same .nil)) (aG.aR (bB.mem (.cons (bC Nd.pu _) (.cons (.int _ _) .nil))) (aI aoq (by simp) (aF ?_)) (bC Nd.pu _));unfold DC at h;unfold aop;obtain⟨p2,e1,h⟩:=aj h;try refine ah ?_
  refine aA (F4 e1) ?_;obtain⟨e3,h⟩:=aD h;obtain⟨x4,e5,h⟩:=aj h;obtain⟨p7,e6,h⟩:=aj h;try refine ah ?_
  refine aA (ajz e6) ?_;obtain rfl:=ak h;try refine ah ?_
  exact(jr Nd.pu _ _)
def uo (k:Nat) (aH:List Nd):Option (Operator×Bool):=
  Option.bind (wu aH) fun p2=>cond (p2.kind !=3) (some ((Operator.mk [] 0 0 0 false 0 0),false)) (Option.bind (nM k p2.text) fun p5=>some (p5.1,p5.2))
theorem Gy {k:Nat} {aH:List Nd} {c0:Ck} {r:Operator×Bool} (h:uo k aH=some r):aG Tryz.prog 161 [(.aB (aH.map Nd.cells) c0)] (.dN [(.agg (Operator.cells r.1)),(.bool r.2)]):=by
  refine aG.lw (.aB .nil) (aG.aR (bB.mem (.cons (bC Nd.pu _) .nil)) (aI asN (by simp) (aF ?_)) (.dN _ (bB.mem (.cons (.agg _ (Operator.pu _)) (.cons (.bool _) .nil)))));unfold uo at h;unfold akZ;obtain⟨p2,e1,h⟩:=aj h;try refine ah ?_
  refine aA (F4 e1) ?_;rcases au h with⟨e3,h⟩|⟨e3,h⟩
  ·obtain rfl:=ak h;try refine ah ?_
   exact(dG (.cons (dH (.cons (.pure _ (.str _)) (.cons (.pure _ (.int _ _)) (.cons (.pure _ (.int _ _)) (.cons (.pure _ (.int _ _)) (.cons (.pure _ (.bool _)) (.cons (.pure _ (.int _ _)) (.cons (.pure _ (.int _ _)) .nil)))))))) (.cons (.pure _ (.bool _)) .nil)))
  ·obtain⟨p5,e4,h⟩:=aj h;try refine ah ?_
   refine aA (xA e4) ?_;obtain rfl:=ak h;try refine ah ?_
   exact(dG (.cons (dH (.cons (.pure _ (.str _)) (.cons (.pure _ (.int _ _)) (.cons (.pure _ (.int _ _)) (.cons (.pure _ (.int _ _)) (.cons (.pure _ (.bool _)) (.cons (.pure _ (.int _ _)) (.cons (.pure _ (.int _ _)) .nil)))))))) (.cons (.pure _ (.bool _)) .nil)))
def yM (s_0:Str) (cB:Int) (eY:Bool):Option Bool:=
  cond eY (if 0<=cB then Option.bind (s_0[cB.toNat]?) fun x3=>Option.bind (tH (x3.toNat:Int)) fun p6=>cond p6 (some (true)) (Option.bind (zy (x3.toNat:Int)) fun p9=>cond p9 (some (true)) (some (((x3.toNat:Int)==95))))else none) (some (false))
def NG:List Nat:=List.range' 9 17
theorem Zc: ∀(s_0:Str) (cB:Int) (eY:Bool) (aC σ:Nat->PV) (H:AH) (f0:Fr NG aC σ) (sl:σ 0=(.str s_0)/\σ 3=(.int .i64 cB)/\σ 8=(.bool eY)) (o:Bool) (h:yM s_0 cB eY=some o) (Q:Post) (q0: ∀(p:Bool) (σ':Nat->PV),o=p->Fr NG aC σ'->(σ' 25=(.bool p))->Q .normal σ' H),dB Tryz.prog QM (Q .normal) σ H:=by
  intro s_0 cB eY aC σ H f0 sl o h Q q0;obtain⟨s0,s3,s8⟩:=sl;unfold yM at h;refine dw ?_;unfold QM;rcases au h with⟨e1,h⟩|⟨e1,h⟩
  ·obtain⟨e2,h⟩:=aD h;obtain⟨x3,e4,h⟩:=aj h;obtain⟨p6,e5,h⟩:=aj h;try refine ah ?_
   refine aA (Ag e5) ?_;rcases au h with⟨e7,h⟩|⟨e7,h⟩
   ·obtain rfl:=ak h;try refine ah ?_
    exact q0 _ _ rfl aO av
   ·obtain⟨p9,e8,h⟩:=aj h;try refine ah ?_
    refine aA (O7 e8) ?_;rcases au h with⟨e10,h⟩|⟨e10,h⟩
    ·obtain rfl:=ak h;try refine ah ?_
     exact q0 _ _ rfl aO av
    ·obtain rfl:=ak h;try refine ah ?_
     exact q0 _ _ rfl aO av
  ·obtain rfl:=ak h;try refine ah ?_
   exact q0 _ _ rfl aO av
def qb:Nat->Str->Int->Option Int
  |0,_,_=>none
  |k+1,s_0,cB=>
    Option.bind (yM s_0 cB (decide (cB<(s_0.length:Int)))) (fun xY=>cond xY (qb k s_0 (IntKind.wrap .i64 (cB+1))) (some (cB)))
def NH:List Nat:=List.range' 3 25
theorem Zd: ∀(k:Nat) (s_0:Str) (cB:Int) (aC σ:Nat->PV) (H:AH) (f0:Fr NH aC σ) (sl:σ 0=(.str s_0)/\σ 3=(.int .i64 cB)) (o:Int) (h:qb k s_0 cB=some o) (Q:Post) (q0: ∀(p:Int) (σ':Nat->PV),o=p->Fr NH aC σ'->(σ' 3=(.int .i64 p))->Q (.exit 0) σ' H),W Tryz.prog (.loop QN) Q σ H:=by
  intro k
  induction k with
  |zero=>intro s_0 cB aC σ H f0 sl o h Q q0;simp only [qb,reduceCtorEq]at h
  |succ k ih=>
    intro s_0 cB aC σ H f0 sl o h Q q0;obtain⟨s0,s3⟩:=sl;unfold qb at h;refine bA (fun K hK=>aF ?_);unfold QN;try refine ah ?_
    obtain⟨o11,h12,h⟩:=aj h;refine Zc s_0 cB (decide (cB<(s_0.length:Int))) _ _ _ (Fr.refl _ _) av _ h12 _ ?_
    ·rintro xY σ' eo Wh s17;rw [eo]at h;have pK:σ' 0=(.str s_0):=(Wh 0 (by decide)).trans av;have qH:σ' 3=(.int .i64 cB):=(Wh 3 (by decide)).trans av;rcases au h with⟨e20,h⟩|⟨e20,h⟩
     ·try refine ah ?_
      refine hK _ _ ?_;exact ih s_0 (IntKind.wrap .i64 (cB+1)) _ _ _ (by repeat (first|exact f0|refine Fr.upd (by decide) ?_|refine Fr.via Wh (by decide) ?_)) av _ h _ q0
     ·obtain rfl:=ak h;try refine ah ?_
      exact q0 _ _ rfl (by repeat (first|exact f0|refine Fr.upd (by decide) ?_|refine Fr.via Wh (by decide) ?_)) av
def Gz (k:Nat) (s_0:Str):Option Bool:=
  Option.bind (qb k s_0 0) (fun jL=>if 0<=jL/\jL.toNat<=s_0.length then Option.bind (qx k (s_0.take jL.toNat)) fun p31=>cond p31 (cond (decide ((IntKind.wrap .i64 (jL+5))<=(s_0.length:Int))) (if 0<=jL/\jL<=(IntKind.wrap .i64 (jL+5))/\(IntKind.wrap .i64 (jL+5)).toNat<=s_0.length then some (((s_0.take (IntKind.wrap .i64 (jL+5)).toNat).drop jL.toNat)==([32,92,105,110,32]:Str))else none) (some false)) (cond ((s_0.take jL.toNat)==([66,79,79,76,69,65,78]:Str)) (cond (decide ((IntKind.wrap .i64 (jL+5))<=(s_0.length:Int))) (if 0<=jL/\jL<=(IntKind.wrap .i64 (jL+5))/\(IntKind.wrap .i64 (jL+5)).toNat<=s_0.length then some (((s_0.take (IntKind.wrap .i64 (jL+5)).toNat).drop jL.toNat)==([32,92,105,110,32]:Str))else none) (some false)) (cond ((s_0.take jL.toNat)==([83,84,82,73,78,71]:Str)) (cond (decide ((IntKind.wrap .i64 (jL+5))<=(s_0.length:Int))) (if 0<=jL/\jL<=(IntKind.wrap .i64 (jL+5))/\(IntKind.wrap .i64 (jL+5)).toNat<=s_0.length then some (((s_0.take (IntKind.wrap .i64 (jL+5)).toNat).drop jL.toNat)==([32,92,105,110,32]:Str))else none) (some false)) (some false)))else none)
theorem afr {k:Nat} {s_0:Str} {r:Bool} (h:Gz k s_0=some r):aG Tryz.prog 164 [(.str s_0)] (.bool r):=by
  refine aG.aR (bB.mem (.cons (.str _) .nil)) (aI asQ (by simp) (aF ?_)) (.bool _);unfold Gz at h;unfold ak2;try refine ah ?_
  obtain⟨o21,h22,h⟩:=aj h;refine Zd k s_0 0 _ _ _ (Fr.refl _ _) av _ h22 _ ?_
  ·rintro jL σ' eo M4 X9;rw [eo]at h;have s28:σ' 0=(.str s_0):=(M4 0 (by decide)).trans av;obtain⟨e29,h⟩:=aD h;obtain⟨p31,e30,h⟩:=aj h;try refine ah ?_
   refine aA (tJ e30) ?_;rcases au h with⟨e32,h⟩|⟨e32,h⟩
   ·rcases au h with⟨e33,h⟩|⟨e33,h⟩
    ·obtain⟨e34,h⟩:=aD h;obtain rfl:=ak h;try refine ah ?_
     exact(.pure _ (.bool _))
    ·obtain rfl:=ak h;try refine ah ?_
     exact(.pure _ (.bool _))
   ·rcases au h with⟨e35,h⟩|⟨e35,h⟩
    ·rcases au h with⟨e36,h⟩|⟨e36,h⟩
     ·obtain⟨e37,h⟩:=aD h;obtain rfl:=ak h;try refine ah ?_
      exact(.pure _ (.bool _))
     ·obtain rfl:=ak h;try refine ah ?_
      exact(.pure _ (.bool _))
    ·rcases au h with⟨e38,h⟩|⟨e38,h⟩
     ·rcases au h with⟨e39,h⟩|⟨e39,h⟩
      ·obtain⟨e40,h⟩:=aD h;obtain rfl:=ak h;try refine ah ?_
       exact(.pure _ (.bool _))
      ·obtain rfl:=ak h;try refine ah ?_
       exact(.pure _ (.bool _))
     ·obtain rfl:=ak h;try refine ah ?_
      exact(.pure _ (.bool _))
def DF (kL:Bool) (gy:Bool):Option Bool:=
  cond gy (some ((!kL))) (some (false))
theorem ac0: ∀(kL:Bool) (gy:Bool) (aC σ:Nat->PV) (H:AH) (f0:Fr [14,15,16] aC σ) (sl:σ 1=(.bool kL)/\σ 13=(.bool gy)) (o:Bool) (h:DF kL gy=some o) (Q:Post) (q0: ∀(p:Bool) (σ':Nat->PV),o=p->Fr [14,15,16] aC σ'->(σ' 16=(.bool p))->Q .normal σ' H),dB Tryz.prog Vn (Q .normal) σ H:=by
  intro kL gy aC σ H f0 sl o h Q q0;obtain⟨s1,s13⟩:=sl;unfold DF at h;refine dw ?_;unfold Vn;rcases au h with⟨e5,h⟩|⟨e5,h⟩
  ·obtain rfl:=ak h;try refine ah ?_
   exact q0 _ _ rfl aO av
  ·obtain rfl:=ak h;try refine ah ?_
   exact q0 _ _ rfl aO av
def qc:Nat->(List Nd)->Int->Int->Str->(List Str)->(List Int)->(List (List Nd))->Int->Option (List (List Nd))
  |0,_,_,_,_,_,_,_,_=>none
  |k+1,aH,bn,bM,bF,bP,bS,PO,eU=>
    cond (decide (eU<(bS.length:Int))) (Option.bind (DC k aH eU) fun jL=>if(PO.length+1)*24<=1099511627776 then qc k aH bn bM bF bP bS (PO++[jL]) (IntKind.wrap .i64 (eU+1))else none) (some (PO))
def TU:List Nat:=[6,7]++List.range' 21 13
theorem ac1: ∀(k:Nat) (bW:Nat) (aH:List Nd) (bn:Int) (bM:Int) (bF:Str) (bP:List Str) (bS:List Int) (PO:List (List Nd)) (eU:Int) (CK:Ck) (aC σ:Nat->PV) (H0 H:AH) (f0:Fr TU aC σ) (hf0:HF [] H0 H) (sl:σ 0=(.aB (aH.map Nd.cells) .unk)/\σ 5=(.ref (bW) 0)/\σ 6=(.aB (PO.map (oJ Nd.cells)) CK)/\σ 7=(.int .i64 eU)/\H.obj bW=some [(.int .i64 bn),(.int .i64 bM),(.str bF),(.aB (bP.map aX) .unk),(.aB (bS.map bI) .unk)]) (cu:bW<H.next) (ahq:d9 H CK) (o:List (List Nd)) (h:qc k aH bn bM bF bP bS PO eU=some o) (Q:Post) (q0: ∀(p:List (List Nd)) (c0:Ck) (σ':Nat->PV) (H':AH),o=p->Fr TU aC σ'->HF [] H0 H'->(σ' 6=(.aB (p.map (oJ Nd.cells)) c0))->Q (.exit 0) σ' H'),W Tryz.prog (.loop Vo) Q σ H:=by
  intro k
  induction k with
  |zero=>intro bW aH bn bM bF bP bS PO eU CK aC σ H0 H f0 hf0 sl cu ahq o h Q q0;simp only [qc,reduceCtorEq]at h
  |succ k ih=>
    intro bW aH bn bM bF bP bS PO eU CK aC σ H0 H f0 hf0 sl cu ahq o h Q q0;obtain⟨s0,s5,s6,s7,uT⟩:=sl;have uU:=ne_next cu;have uV:=aU cu;have hle0:=hf0.1;unfold qc at h;refine bA (fun K hK=>aF ?_);unfold Vo;rcases au h with⟨e21,h⟩|⟨e21,h⟩
    ·obtain⟨jL,e22,h⟩:=aj h;try refine ah ?_
     refine aA (acZ e22) ?_;obtain⟨e28,h⟩:=aD h;try refine ah ?_
     refine jV (f:=(oJ Nd.cells)) aoc PO ([jL]:List (List Nd)) CK .exact av av eO (by first|exact e28|(simp only [List.length_cons,List.length_nil];exact e28)) (fun c24 H25 aov le awI aAD=> ?_);have air:HF [] _ H25:=⟨le,fun i _ _=>awI i⟩;try simp only [AH.aJ,AH.aK,AH.aL,AH.aM]at le
     have n31:=ne_next (show bW<H25.next by first|omega|(simp only [AH.aJ,AH.aK,AH.aL,AH.aM];omega));have m32:=aU (show bW<H25.next by first|omega|(simp only [AH.aJ,AH.aK,AH.aL,AH.aM];omega));try refine ah ?_
     refine hK _ _ ?_;exact ih bW aH bn bM bF bP bS (PO++[jL]) (IntKind.wrap .i64 (eU+1)) c24 _ _ _ _ aO (by repeat (first|exact hf0|refine HF.new ?_|refine HF.dR ?_|refine HF.used ?_|refine HF.put (by first|(right;omega)|(left;simp only [List.mem_cons,true_or,or_true])) ?_|refine HF.via air (by first|exact fun i hi=>absurd hi List.not_mem_nil|(intro i hi;simp only [List.mem_cons,List.not_mem_nil,or_false]at hi⊢;first|exact .inl hi|omega)) ?_)) av bE eO _ h _ q0
    ·obtain rfl:=ak h;try refine ah ?_
     exact q0 _ CK _ _ rfl aO (by repeat (first|exact hf0|refine HF.new ?_|refine HF.dR ?_|refine HF.used ?_|refine HF.put (by first|(right;omega)|(left;simp only [List.mem_cons,true_or,or_true])) ?_)) av
def TV:List Nat:=List.range' 3 19
def xg (jH:Str) (kM:Int) (jX:Int) (jc:Int) (jY:Bool) (kN:Int) (kP:Int) (kQ:Int) (NI:Str) (TW:Int) (NJ:Int) (TY:Int) (T9:Bool) (Ua:Int) (Ub:Int) (abV:Bool):Option Bool:=
  cond abV (cond (decide (NJ<=jc)) (cond (kQ==0) (cond jY (some ((!(NI==jH)))) (some (true))) (some (true))) (some (false))) (some (false))
def LC:List Nat:=List.range' 52 22
theorem XE: ∀(jI:Nat) (NM:Nat) (jH:Str) (kM:Int) (jX:Int) (jc:Int) (jY:Bool) (kN:Int) (kP:Int) (kQ:Int) (NI:Str) (TW:Int) (NJ:Int) (TY:Int) (T9:Bool) (Ua:Int) (Ub:Int) (abV:Bool) (aC σ:Nat->PV) (H:AH) (f0:Fr LC aC σ) (sl:σ 7=(.ref (jI) 0)/\σ 10=(.int .i64 kQ)/\σ 11=(.ref (NM) 0)/\σ 51=(.bool abV)/\H.obj jI=some [(.str jH),(.int .i64 kM),(.int .i64 jX),(.int .i64 jc),(.bool jY),(.int .i64 kN),(.int .i64 kP)]/\H.obj NM=some [(.str NI),(.int .i64 TW),(.int .i64 NJ),(.int .i64 TY),(.bool T9),(.int .i64 Ua),(.int .i64 Ub)]) (oH:jI<H.next) (RA:NM<H.next) (BG:jI≠NM) (o:Bool) (h:xg jH kM jX jc jY kN kP kQ NI TW NJ TY T9 Ua Ub abV=some o) (Q:Post) (q0: ∀(p:Bool) (σ':Nat->PV),o=p->Fr LC aC σ'->(σ' 73=(.bool p))->Q .normal σ' H),dB Tryz.prog Qp (Q .normal) σ H:=by
  intro jI NM jH kM jX jc jY kN kP kQ NI TW NJ TY T9 Ua Ub abV aC σ H f0 sl oH RA BG o h Q q0;obtain⟨s7,s10,s11,s51,abW,awJ⟩:=sl;have abX:=ne_next oH;have abY:=aU oH;have awK:=ne_next RA;have awL:=aU RA;have alK:=eq_false BG;have alL:=eq_false (Ne.symm BG);unfold xg at h;refine dw ?_;unfold Qp;rcases au h with⟨e11,h⟩|⟨e11,h⟩
  ·rcases au h with⟨e12,h⟩|⟨e12,h⟩
   ·rcases au h with⟨e13,h⟩|⟨e13,h⟩
    ·rcases au h with⟨e14,h⟩|⟨e14,h⟩
     ·obtain rfl:=ak h;try refine ah ?_
      exact q0 _ _ rfl aO av
     ·obtain rfl:=ak h;try refine ah ?_
      exact q0 _ _ rfl aO av
    ·obtain rfl:=ak h;try refine ah ?_
     exact q0 _ _ rfl aO av
   ·obtain rfl:=ak h;try refine ah ?_
    exact q0 _ _ rfl aO av
  ·obtain rfl:=ak h;try refine ah ?_
   exact q0 _ _ rfl aO av
def BH (fQ:Int) (fT:Int) (fB:Str) (fK:List Str) (eT:List Int) (BI:Str) (kQ:Int):Option Str:=
  cond (decide (kQ>0)) (if BI.length+([32]:Str).length<=4611686018427387904 then if(BI++([32]:Str)).length+fB.length<=4611686018427387904 then if(BI++(32::fB)).length+([32]:Str).length<=4611686018427387904 then some ((BI++(32::(fB++([32]:Str)))))else none else none else none) (some (BI))
def LD:List Nat:=[9]++List.range' 74 8
theorem XF: ∀(eG:Nat) (fQ:Int) (fT:Int) (fB:Str) (fK:List Str) (eT:List Int) (BI:Str) (kQ:Int) (aC σ:Nat->PV) (H:AH) (f0:Fr LD aC σ) (sl:σ 3=(.ref (eG) 0)/\σ 9=(.str BI)/\σ 10=(.int .i64 kQ)/\H.obj eG=some [(.int .i64 fQ),(.int .i64 fT),(.str fB),(.aB (fK.map aX) .unk),(.aB (eT.map bI) .unk)]) (iL:eG<H.next) (o:Str) (h:BH fQ fT fB fK eT BI kQ=some o) (Q:Post) (q0: ∀(p:Str) (σ':Nat->PV),o=p->Fr LD aC σ'->(σ' 9=(.str p))->Q .normal σ' H),W Tryz.prog Qq Q σ H:=by
  intro eG fQ fT fB fK eT BI kQ aC σ H f0 sl iL o h Q q0;obtain⟨s3,s9,s10,Oy⟩:=sl;have Oz:=ne_next iL;have OA:=aU iL;unfold BH at h;refine aF ?_;unfold Qq;rcases au h with⟨e28,h⟩|⟨e28,h⟩
  ·obtain⟨e29,h⟩:=aD h;try refine ah ?_
   refine aN (aP e29) ?_;obtain⟨e30,h⟩:=aD h;try refine ah ?_
   refine aN (aP e30) ?_;obtain⟨e31,h⟩:=aD h;try refine ah ?_
   refine aN (aP e31) ?_;obtain rfl:=ak h;try refine ah ?_
   exact q0 _ _ rfl aO av
  ·obtain rfl:=ak h;try refine ah ?_
   exact q0 _ _ rfl aO av
def LG:List Nat:=[9,10,11,12,13]++List.range' 36 62
def sQ (jH:Str) (kM:Int) (jX:Int) (jc:Int) (jY:Bool) (kN:Int) (kP:Int) (NP:Str) (DI:Int) (DJ:Int) (Uc:Int) (Ud:Bool) (Ue:Int) (Uf:Int) (Ug:Bool):Option Bool:=
  cond Ug (cond (DI==0) (cond (decide (DJ<jX)) (some (true)) (cond (NP==([45,46]:Str)) (cond (jH==([45,46]:Str)) (some (true)) (cond (DI !=0) (some ((decide (DJ<=jc)))) (some (false)))) (cond (DI !=0) (some ((decide (DJ<=jc)))) (some (false))))) (cond (DI !=0) (some ((decide (DJ<=jc)))) (some (false)))) (some (false))
def LH:List Nat:=List.range' 124 33
theorem XG: ∀(jI:Nat) (NQ:Nat) (jH:Str) (kM:Int) (jX:Int) (jc:Int) (jY:Bool) (kN:Int) (kP:Int) (NP:Str) (DI:Int) (DJ:Int) (Uc:Int) (Ud:Bool) (Ue:Int) (Uf:Int) (Ug:Bool) (aC σ:Nat->PV) (H:AH) (f0:Fr LH aC σ) (sl:σ 7=(.ref (jI) 0)/\σ 14=(.ref (NQ) 0)/\σ 123=(.bool Ug)/\H.obj jI=some [(.str jH),(.int .i64 kM),(.int .i64 jX),(.int .i64 jc),(.bool jY),(.int .i64 kN),(.int .i64 kP)]/\H.obj NQ=some [(.str NP),(.int .i64 DI),(.int .i64 DJ),(.int .i64 Uc),(.bool Ud),(.int .i64 Ue),(.int .i64 Uf)]) (oH:jI<H.next) (RB:NQ<H.next) (BJ:jI≠NQ) (o:Bool) (h:sQ jH kM jX jc jY kN kP NP DI DJ Uc Ud Ue Uf Ug=some o) (Q:Post) (q0: ∀(p:Bool) (σ':Nat->PV),o=p->Fr LH aC σ'->(σ' 156=(.bool p))->Q .normal σ' H),dB Tryz.prog Qs (Q .normal) σ H:=by
  intro jI NQ jH kM jX jc jY kN kP NP DI DJ Uc Ud Ue Uf Ug aC σ H f0 sl oH RB BJ o h Q q0;obtain⟨s7,s14,awM,abW,awN⟩:=sl;have abX:=ne_next oH;have abY:=aU oH;have awO:=ne_next RB;have awP:=aU RB;have alM:=eq_false BJ;have alN:=eq_false (Ne.symm BJ);unfold sQ at h;refine dw ?_;unfold Qs;rcases au h with⟨Pk,h⟩|⟨Pk,h⟩
  ·rcases au h with⟨MU,h⟩|⟨MU,h⟩
   ·rcases au h with⟨Jo,h⟩|⟨Jo,h⟩
    ·obtain rfl:=ak h;try refine ah ?_
     exact q0 _ _ rfl aO av
    ·rcases au h with⟨Pg,h⟩|⟨Pg,h⟩
     ·rcases au h with⟨Hr,h⟩|⟨Hr,h⟩
      ·obtain rfl:=ak h;try refine ah ?_
       exact q0 _ _ rfl aO av
      ·rcases au h with⟨Hq,h⟩|⟨Hq,h⟩
       ·obtain rfl:=ak h;try refine ah ?_
        exact q0 _ _ rfl aO av
       ·obtain rfl:=ak h;try refine ah ?_
        exact q0 _ _ rfl aO av
     ·rcases au h with⟨Ht,h⟩|⟨Ht,h⟩
      ·obtain rfl:=ak h;try refine ah ?_
       exact q0 _ _ rfl aO av
      ·obtain rfl:=ak h;try refine ah ?_
       exact q0 _ _ rfl aO av
   ·rcases au h with⟨Mw,h⟩|⟨Mw,h⟩
    ·obtain rfl:=ak h;try refine ah ?_
     exact q0 _ _ rfl aO av
    ·obtain rfl:=ak h;try refine ah ?_
     exact q0 _ _ rfl aO av
  ·obtain rfl:=ak h;try refine ah ?_
   exact q0 _ _ rfl aO av
def BK (gT:Str) (cK:Int):Option Str:=
  cond (decide (cK>0)) (if gT.length+([32,91,93,32]:Str).length<=4611686018427387904 then some ((gT++([32,91,93,32]:Str)))else none) (some (gT))
def PS:List Nat:=[3,12,13,14,15]
theorem abZ: ∀(gT:Str) (cK:Int) (aC σ:Nat->PV) (H:AH) (f0:Fr PS aC σ) (sl:σ 3=(.str gT)/\σ 4=(.int .i64 cK)) (o:Str) (h:BK gT cK=some o) (Q:Post) (q0: ∀(p:Str) (σ':Nat->PV),o=p->Fr PS aC σ'->(σ' 3=(.str p))->Q .normal σ' H),W Tryz.prog Qu Q σ H:=by
  intro gT cK aC σ H f0 sl o h Q q0;obtain⟨s3,s4⟩:=sl;unfold BK at h;refine aF ?_;unfold Qu;rcases au h with⟨e2,h⟩|⟨e2,h⟩
  ·obtain⟨e3,h⟩:=aD h;try refine ah ?_
   refine aN (aP e3) ?_;obtain rfl:=ak h;try refine ah ?_
   exact q0 _ _ rfl aO av
  ·obtain rfl:=ak h;try refine ah ?_
   exact q0 _ _ rfl aO av
def PU:List Nat:=List.range' 3 33
def NR:List Nat:=List.range' 5 25
def xk:Nat->Int->Int->Str->(List Str)->(List Int)->Str->Int->Option Str
  |0,_,_,_,_,_,_,_=>none
  |k+1,fQ,fT,fB,fK,eT,uq,Yz=>
    cond (decide (Yz<(fK.length:Int))) (if uq.length+([44,32,95]:Str).length<=4611686018427387904 then xk k fQ fT fB fK eT (uq++([44,32,95]:Str)) (IntKind.wrap .i64 (Yz+1))else none) (some (uq))
def YA:List Nat:=[8,9]++List.range' 32 9
theorem afs: ∀(k:Nat) (eG:Nat) (fQ:Int) (fT:Int) (fB:Str) (fK:List Str) (eT:List Int) (uq:Str) (Yz:Int) (aC σ:Nat->PV) (H:AH) (f0:Fr YA aC σ) (sl:σ 3=(.ref (eG) 0)/\σ 8=(.str uq)/\σ 9=(.int .i64 Yz)/\H.obj eG=some [(.int .i64 fQ),(.int .i64 fT),(.str fB),(.aB (fK.map aX) .unk),(.aB (eT.map bI) .unk)]) (iL:eG<H.next) (o:Str) (h:xk k fQ fT fB fK eT uq Yz=some o) (Q:Post) (q0: ∀(p:Str) (σ':Nat->PV),o=p->Fr YA aC σ'->(σ' 8=(.str p))->Q (.exit 0) σ' H),W Tryz.prog (.loop QS) Q σ H:=by
  intro k
  induction k with
  |zero=>intro eG fQ fT fB fK eT uq Yz aC σ H f0 sl iL o h Q q0;simp only [xk,reduceCtorEq]at h
  |succ k ih=>
    intro eG fQ fT fB fK eT uq Yz aC σ H f0 sl iL o h Q q0;obtain⟨s3,s8,s9,Oy⟩:=sl;have Oz:=ne_next iL;have OA:=aU iL;unfold xk at h;refine bA (fun K hK=>aF ?_);unfold QS;rcases au h with⟨e11,h⟩|⟨e11,h⟩
    ·obtain⟨e12,h⟩:=aD h;try refine ah ?_
     refine aN (aP e12) ?_;try refine ah ?_
     refine hK _ _ ?_;exact ih eG fQ fT fB fK eT (uq++([44,32,95]:Str)) (IntKind.wrap .i64 (Yz+1)) _ _ _ aO av bE _ h _ q0
    ·obtain rfl:=ak h;try refine ah ?_
     exact q0 _ _ rfl aO av
def BL (k:Nat) (BM:Str):Option Str:=
  Option.bind (Gz k BM) fun xX=>cond xX (if([40]:Str).length+BM.length<=4611686018427387904 then if(40::BM).length+([41]:Str).length<=4611686018427387904 then some ((40::(BM++([41]:Str))))else none else none) (some (BM))
def LJ:List Nat:=[5,31,32,33,34,35]
theorem XH (k:Nat): ∀(BM:Str) (aC σ:Nat->PV) (H:AH) (f0:Fr LJ aC σ) (sl:σ 5=(.str BM)) (o:Str) (h:BL k BM=some o) (Q:Post) (q0: ∀(p:Str) (σ':Nat->PV),o=p->Fr LJ aC σ'->(σ' 5=(.str p))->Q .normal σ' H),W Tryz.prog Qw Q σ H:=by
  intro BM aC σ H f0 sl o h Q q0;have s5:=sl;unfold BL at h;refine aF ?_;unfold Qw;obtain⟨xX,e14,h⟩:=aj h;try refine ah ?_
  refine aA (afr e14) ?_;rcases au h with⟨e16,h⟩|⟨e16,h⟩
  ·obtain⟨e17,h⟩:=aD h;try refine ah ?_
   refine aN (aP e17) ?_;obtain⟨e18,h⟩:=aD h;try refine ah ?_
   refine aN (aP e18) ?_;obtain rfl:=ak h;try refine ah ?_
   exact q0 _ _ rfl aO av
  ·obtain rfl:=ak h;try refine ah ?_
   exact q0 _ _ rfl aO av
def xq (uw:Int) (vI:Int) (vJ:Str) (rM:List Str) (vK:List Int):Option Str:=
  cond (uw==17) (some (([32,58,32]:Str))) (some (([32,124,45,62,32]:Str)))
theorem XI: ∀(y7:Nat) (uw:Int) (vI:Int) (vJ:Str) (rM:List Str) (vK:List Int) (aC σ:Nat->PV) (H:AH) (f0:Fr [6,122,123,124] aC σ) (sl:σ 2=(.ref (y7) 0)/\σ 6=(.str ([32,124,45,62,32]:Str))/\H.obj y7=some [(.int .i64 uw),(.int .i64 vI),(.str vJ),(.aB (rM.map aX) .unk),(.aB (vK.map bI) .unk)]) (zO:y7<H.next) (o:Str) (h:xq uw vI vJ rM vK=some o) (Q:Post) (q0: ∀(p:Str) (σ':Nat->PV),o=p->Fr [6,122,123,124] aC σ'->(σ' 6=(.str p))->Q .normal σ' H),W Tryz.prog Qx Q σ H:=by
  intro y7 uw vI vJ rM vK aC σ H f0 sl zO o h Q q0;obtain⟨s2,s6,anb⟩:=sl;have anc:=ne_next zO;have ane:=aU zO;unfold xq at h;refine aF ?_;unfold Qx;rcases au h with⟨e84,h⟩|⟨e84,h⟩
  ·obtain rfl:=ak h;try refine ah ?_
   exact q0 _ _ rfl aO av
  ·obtain rfl:=ak h;try refine ah ?_
   exact q0 _ _ rfl aO av
def LK:List Nat:=[7,8]++List.range' 125 26
mutual
def eu:Nat->(List Nd)->Bool->Option Str
  |0,_,_=>none
  |k+1,aH,kL=>
    Option.bind (wu aH) fun p2=>Option.bind (F3 p2.kind) fun p4=>Option.bind (DF kL p4) (fun p8=>cond p8 (Option.bind (eu k aH true) fun mR=>if([40]:Str).length+mR.length<=4611686018427387904 then if(40::mR).length+([41]:Str).length<=4611686018427387904 then some (40::(mR++([41]:Str)))else none else none) (Option.bind (qc k aH p2.kind p2.n p2.text p2.names p2.args ([]:List (List Nd)) 0) (fun p35=>cond (p2.kind==0) (Option.bind (MJ k p2.n) fun p48=>some p48) (cond (p2.kind==1) (if([34]:Str).length+p2.text.length<=4611686018427387904 then if(34::p2.text).length+([34]:Str).length<=4611686018427387904 then some (34::(p2.text++([34]:Str)))else none else none) (cond (p2.kind==2) (some p2.text) (cond (p2.kind==20) (some ([64]:Str)) (cond (p2.kind==3) (Option.bind (zP k p2 p35 kL) fun p56=>some p56) (cond (p2.kind==4) (Option.bind (BN k p35) fun p59=>if([60,60]:Str).length+p59.length<=4611686018427387904 then if(60::60::p59).length+([62,62]:Str).length<=4611686018427387904 then some (60::60::(p59++([62,62]:Str)))else none else none) (cond (p2.kind==5) (Option.bind (BN k p35) fun p64=>if([123]:Str).length+p64.length<=4611686018427387904 then if(123::p64).length+([125]:Str).length<=4611686018427387904 then some (123::(p64++([125]:Str)))else none else none) (cond (p2.kind==21) (Option.bind (p35[0]?) fun x68=>Option.bind (eu k x68 true) fun p71=>if([73,70,32]:Str).length+p71.length<=4611686018427387904 then if(73::70::32::p71).length+([32,84,72,69,78,32]:Str).length<=4611686018427387904 then Option.bind (p35[1]?) fun x74=>Option.bind (eu k x74 true) fun Ta=>if(73::70::32::(p71++([32,84,72,69,78,32]:Str))).length+Ta.length<=4611686018427387904 then if(73::70::32::(p71++(32::84::72::69::78::32::Ta))).length+([32,69,76,83,69,32]:Str).length<=4611686018427387904 then Option.bind (p35[2]?) fun x80=>Option.bind (eu k x80 true) fun Lb=>if(73::70::32::(p71++(32::84::72::69::78::32::(Ta++([32,69,76,83,69,32]:Str))))).length+Lb.length<=4611686018427387904 then some (73::70::32::(p71++(32::84::72::69::78::32::(Ta++(32::69::76::83::69::32::Lb)))))else none else none else none else none else none) (cond (p2.kind==22) (Option.bind (Fh k p35) fun Aw=>some Aw) (cond (p2.kind==14) (Option.bind (p35[0]?) fun x89=>Option.bind (CO k x89) fun Eu=>if Eu.length+([91]:Str).length<=4611686018427387904 then if 1<=p35.length then Option.bind (BN k (p35.drop 1)) fun p96=>if(Eu++([91]:Str)).length+p96.length<=4611686018427387904 then if(Eu++(91::p96)).length+([93]:Str).length<=4611686018427387904 then some (Eu++(91::(p96++([93]:Str))))else none else none else none else none) (cond (p2.kind==18) (Option.bind (p35[0]?) fun x100=>Option.bind (CO k x100) fun aft=>if aft.length+([46]:Str).length<=4611686018427387904 then if(aft++([46]:Str)).length+p2.text.length<=4611686018427387904 then some (aft++(46::p2.text))else none else none) (cond (p2.kind==19) (Option.bind (p35[0]?) fun x107=>Option.bind (eu k x107 true) fun Gb=>if([91]:Str).length+Gb.length<=4611686018427387904 then if(91::Gb).length+([32,69,88,67,69,80,84,32,33,91]:Str).length<=4611686018427387904 then Option.bind (p35[1]?) fun x113=>Option.bind (eu k x113 true) fun XJ=>if(91::(Gb++([32,69,88,67,69,80,84,32,33,91]:Str))).length+XJ.length<=4611686018427387904 then if(91::(Gb++(32::69::88::67::69::80::84::32::33::91::XJ))).length+([93,32,61,32]:Str).length<=4611686018427387904 then Option.bind (p35[2]?) fun ajB=>Option.bind (eu k ajB true) fun afu=>if(91::(Gb++(32::69::88::67::69::80::84::32::33::91::(XJ++([93,32,61,32]:Str))))).length+afu.length<=4611686018427387904 then if(91::(Gb++(32::69::88::67::69::80::84::32::33::91::(XJ++(93::32::61::32::afu))))).length+([93]:Str).length<=4611686018427387904 then some (91::(Gb++(32::69::88::67::69::80::84::32::33::91::(XJ++(93::32::61::32::(afu++([93]:Str)))))))else none else none else none else none else none else none) (cond (p2.kind==25) (Option.bind (p35[0]?) fun ajC=>Option.bind (eu k ajC true) fun Nb=>if([91]:Str).length+Nb.length<=4611686018427387904 then if(91::Nb).length+([93,95]:Str).length<=4611686018427387904 then Option.bind (p35[1]?) fun ajD=>Option.bind (nJ k ajD) fun ajE=>if(91::(Nb++([93,95]:Str))).length+ajE.length<=4611686018427387904 then some (91::(Nb++(93::95::ajE)))else none else none else none) (cond (p2.kind==26) (Option.bind (p35[0]?) fun ajF=>Option.bind (eu k ajF true) fun Mv=>if([60,60]:Str).length+Mv.length<=4611686018427387904 then if(60::60::Mv).length+([62,62,95]:Str).length<=4611686018427387904 then Option.bind (p35[1]?) fun ajG=>Option.bind (nJ k ajG) fun Xg=>if(60::60::(Mv++([62,62,95]:Str))).length+Xg.length<=4611686018427387904 then some (60::60::(Mv++(62::62::95::Xg)))else none else none else none) (cond (p2.kind==27) (Option.bind (p35[1]?) fun x150=>Option.bind (nJ k x150) fun Ec=>if([87,70,95]:Str).length+Ec.length<=4611686018427387904 then if(87::70::95::Ec).length+([40]:Str).length<=4611686018427387904 then Option.bind (p35[0]?) fun ajH=>Option.bind (eu k ajH true) fun Nc=>if(87::70::95::(Ec++([40]:Str))).length+Nc.length<=4611686018427387904 then if(87::70::95::(Ec++(40::Nc))).length+([41]:Str).length<=4611686018427387904 then some (87::70::95::(Ec++(40::(Nc++([41]:Str)))))else none else none else none else none) (cond (p2.kind==28) (Option.bind (p35[1]?) fun ajI=>Option.bind (nJ k ajI) fun KC=>if([83,70,95]:Str).length+KC.length<=4611686018427387904 then if(83::70::95::KC).length+([40]:Str).length<=4611686018427387904 then Option.bind (p35[0]?) fun ajJ=>Option.bind (eu k ajJ true) fun Kn=>if(83::70::95::(KC++([40]:Str))).length+Kn.length<=4611686018427387904 then if(83::70::95::(KC++(40::Kn))).length+([41]:Str).length<=4611686018427387904 then some (83::70::95::(KC++(40::(Kn++([41]:Str)))))else none else none else none else none) (cond (p2.kind==15) (Option.bind (p35[0]?) fun ajK=>Option.bind (eu k ajK true) fun XK=>if([91]:Str).length+XK.length<=4611686018427387904 then if(91::XK).length+([32,45,62,32]:Str).length<=4611686018427387904 then Option.bind (p35[1]?) fun ajL=>Option.bind (eu k ajL true) fun afv=>if(91::(XK++([32,45,62,32]:Str))).length+afv.length<=4611686018427387904 then if(91::(XK++(32::45::62::32::afv))).length+([93]:Str).length<=4611686018427387904 then some (91::(XK++(32::45::62::32::(afv++([93]:Str)))))else none else none else none else none) (Option.bind (zQ k p2 p35) fun arv=>some arv))))))))))))))))))))
def qd:Nat->(List (List Nd))->Str->Int->Option Str
  |0,_,_,_=>none
  |k+1,bT,gT,cK=>
    cond (decide (cK<(bT.length:Int))) (cond (decide (cK>0)) (if gT.length+([44,32]:Str).length<=4611686018427387904 then if 0<=cK then Option.bind (bT[cK.toNat]?) fun x5=>Option.bind (eu k x5 true) fun p8=>if(gT++([44,32]:Str)).length+p8.length<=4611686018427387904 then qd k bT (gT++(44::32::p8)) (IntKind.wrap .i64 (cK+1))else none else none else none) (if 0<=cK then Option.bind (bT[cK.toNat]?) fun x11=>Option.bind (eu k x11 true) fun ig=>if gT.length+ig.length<=4611686018427387904 then qd k bT (gT++ig) (IntKind.wrap .i64 (cK+1))else none else none)) (some (gT))
def BN:Nat->(List (List Nd))->Option Str
  |0,_=>none
  |k+1,bT=>
    Option.bind (qd k bT ([]:Str) 0) (fun mR=>some mR)
def jo:Nat->(List Nd)->Bool->Bool->Option Str
  |0,_,_,_=>none
  |k+1,aH,Fj,eH=>
    cond Fj (Option.bind (eu k aH true) fun p3=>if([40]:Str).length+p3.length<=4611686018427387904 then if(40::p3).length+([41]:Str).length<=4611686018427387904 then some (40::(p3++([41]:Str)))else none else none) (Option.bind (eu k aH eH) fun p7=>some p7)
def jd:Nat->(List (List Nd))->Bool->Int->Int->Str->(List Str)->(List Int)->Str->Int->Int->Int->Bool->Int->Int->Str->Int->Option Str
  |0,_,_,_,_,_,_,_,_,_,_,_,_,_,_,_,_=>none
  |k+1,l_1,eH,fQ,fT,fB,fK,eT,jH,kM,jX,jc,jY,kN,kP,BI,kQ=>
    cond (decide (kQ<(l_1.length:Int))) (if 0<=kQ then Option.bind (l_1[kQ.toNat]?) fun x7=>Option.bind (uo k x7) fun fE=>Option.bind (xg jH kM jX jc jY kN kP kQ fE.1.text fE.1.fix fE.1.low fE.1.high fE.1.left fE.1.least fE.1.most fE.2) (fun yA=>Option.bind (BH fQ fT fB fK eT BI kQ) (fun p34=>cond eH (Option.bind (jo k x7 yA (kQ==(IntKind.wrap .i64 ((l_1.length:Int) -1)))) fun p47=>if p34.length+p47.length<=4611686018427387904 then jd k l_1 eH fQ fT fB fK eT jH kM jX jc jY kN kP (p34++p47) (IntKind.wrap .i64 (kQ+1))else none) (Option.bind (jo k x7 yA false) fun p50=>if p34.length+p50.length<=4611686018427387904 then jd k l_1 eH fQ fT fB fK eT jH kM jX jc jY kN kP (p34++p50) (IntKind.wrap .i64 (kQ+1))else none)))else none) (some (BI))
def zP:Nat->Nd->(List (List Nd))->Bool->Option Str
  |0,_,_,_=>none
  |k+1,aT,l_1,eH=>
    Option.bind (nM k aT.text) fun p2=>cond p2.2 (cond (p2.1.fix==1) (Option.bind (jd k l_1 eH aT.kind aT.n aT.text aT.names aT.args p2.1.text p2.1.fix p2.1.low p2.1.high p2.1.left p2.1.least p2.1.most ([]:Str) 0) (fun p54=>some p54)) (Option.bind (l_1[0]?) fun Ip=>Option.bind (uo k Ip) fun p62=>cond (p2.1.fix==2) (cond p62.2 (Option.bind (jo k Ip (!(p62.1.text==p2.1.text)) false) fun p66=>if p66.length+([39]:Str).length<=4611686018427387904 then some (p66++([39]:Str))else none) (Option.bind (jo k Ip false false) fun p69=>if p69.length+([39]:Str).length<=4611686018427387904 then some (p69++([39]:Str))else none)) (Option.bind (sQ p2.1.text p2.1.fix p2.1.low p2.1.high p2.1.left p2.1.least p2.1.most p62.1.text p62.1.fix p62.1.low p62.1.high p62.1.left p62.1.least p62.1.most p62.2) (fun xZ=>Option.bind (aT.text[0]?) fun x89=>Option.bind (tH (x89.toNat:Int)) fun Eu=>cond Eu (if aT.text.length+([32]:Str).length<=4611686018427387904 then cond ((aT.text++([32]:Str))==([45,46]:Str)) (Option.bind (jo k Ip xZ eH) fun p97=>if([45]:Str).length+p97.length<=4611686018427387904 then some (45::p97)else none) (Option.bind (jo k Ip xZ eH) fun Kh=>if(aT.text++([32]:Str)).length+Kh.length<=4611686018427387904 then some (aT.text++(32::Kh))else none)else none) (cond (aT.text==([45,46]:Str)) (Option.bind (jo k Ip xZ eH) fun Ki=>if([45]:Str).length+Ki.length<=4611686018427387904 then some (45::Ki)else none) (Option.bind (jo k Ip xZ eH) fun Wp=>if aT.text.length+Wp.length<=4611686018427387904 then some (aT.text++Wp)else none)))))) (if aT.text.length+([40]:Str).length<=4611686018427387904 then Option.bind (BN k l_1) fun KH=>if(aT.text++([40]:Str)).length+KH.length<=4611686018427387904 then if(aT.text++(40::KH)).length+([41]:Str).length<=4611686018427387904 then some (aT.text++(40::(KH++([41]:Str))))else none else none else none)
def pz:Nat->(List (List Nd))->Str->Int->Option Str
  |0,_,_,_=>none
  |k+1,bT,gT,cK=>
    cond (decide ((IntKind.wrap .i64 (cK+1))<(bT.length:Int))) (Option.bind (BK gT cK) (fun p6=>if 0<=cK then Option.bind (bT[cK.toNat]?) fun Yy=>Option.bind (eu k Yy true) fun yA=>if p6.length+yA.length<=4611686018427387904 then if(p6++yA).length+([32,45,62,32]:Str).length<=4611686018427387904 then if 0<=(IntKind.wrap .i64 (cK+1))then Option.bind (bT[(IntKind.wrap .i64 (cK+1)).toNat]?) fun x21=>Option.bind (eu k x21 (decide ((IntKind.wrap .i64 (cK+2))>=(bT.length:Int)))) fun lq=>if(p6++(yA++([32,45,62,32]:Str))).length+lq.length<=4611686018427387904 then pz k bT (p6++(yA++(32::45::62::32::lq))) (IntKind.wrap .i64 (cK+2))else none else none else none else none else none)) (some (gT))
def Fh:Nat->(List (List Nd))->Option Str
  |0,_=>none
  |k+1,bT=>
    Option.bind (pz k bT ([67,65,83,69,32]:Str) 0) (fun p28=>cond (((bT.length:Int).tmod 2)==1) (if p28.length+([32,91,93,32,79,84,72,69,82,32,45,62,32]:Str).length<=4611686018427387904 then if 0<=(IntKind.wrap .i64 ((bT.length:Int) -1))then Option.bind (bT[(IntKind.wrap .i64 ((bT.length:Int) -1)).toNat]?) fun x37=>Option.bind (eu k x37 true) fun p40=>if(p28++([32,91,93,32,79,84,72,69,82,32,45,62,32]:Str)).length+p40.length<=4611686018427387904 then some (p28++(32::91::93::32::79::84::72::69::82::32::45::62::32::p40))else none else none else none) (some p28))
def CO:Nat->(List Nd)->Option Str
  |0,_=>none
  |k+1,aH=>
    Option.bind (uo k aH) fun p2=>cond p2.2 (Option.bind (jo k aH true false) fun p5=>some p5) (Option.bind (wu aH) fun p7=>Option.bind (jo k aH (p7.kind==0) false) fun p9=>some p9)
def nJ:Nat->(List Nd)->Option Str
  |0,_=>none
  |k+1,aH=>
    Option.bind (wu aH) fun p2=>cond (p2.kind !=2) (Option.bind (jo k aH (p2.kind !=4) true) fun p5=>some p5) (Option.bind (qx k p2.text) fun p7=>cond p7 (Option.bind (jo k aH false true) fun fE=>some fE) (Option.bind (jo k aH (p2.kind !=4) true) fun jW=>some jW))
def lQ:Nat->(List Str)->(List (List Nd))->Str->Int->Option Str
  |0,_,_,_,_=>none
  |k+1,bT,l7,DL,gV=>
    cond (decide (gV<(bT.length:Int))) (cond (decide (gV>0)) (if DL.length+([44,32]:Str).length<=4611686018427387904 then if 0<=gV then Option.bind (bT[gV.toNat]?) fun x5=>if(DL++([44,32]:Str)).length+x5.length<=4611686018427387904 then if(DL++(44::32::x5)).length+([32,92,105,110,32]:Str).length<=4611686018427387904 then Option.bind (l7[gV.toNat]?) fun x9=>Option.bind (eu k x9 true) fun jW=>if(DL++(44::32::(x5++([32,92,105,110,32]:Str)))).length+jW.length<=4611686018427387904 then lQ k bT l7 (DL++(44::32::(x5++(32::92::105::110::32::jW)))) (IntKind.wrap .i64 (gV+1))else none else none else none else none else none) (if 0<=gV then Option.bind (bT[gV.toNat]?) fun NS=>if DL.length+NS.length<=4611686018427387904 then if(DL++NS).length+([32,92,105,110,32]:Str).length<=4611686018427387904 then Option.bind (l7[gV.toNat]?) fun x19=>Option.bind (eu k x19 true) fun zB=>if(DL++(NS++([32,92,105,110,32]:Str))).length+zB.length<=4611686018427387904 then lQ k bT l7 (DL++(NS++(32::92::105::110::32::zB))) (IntKind.wrap .i64 (gV+1))else none else none else none else none)) (some (DL))
def qD:Nat->(List Str)->(List (List Nd))->Option Str
  |0,_,_=>none
  |k+1,bT,l7=>
    Option.bind (lQ k bT l7 ([]:Str) 0) (fun p26=>some p26)
def OE:Nat->Nd->Str->Str->Option Str
  |0,_,_,_=>none
  |k+1,aT,fO,rO=>
    Option.bind (aT.names[0]?) fun x1=>cond (decide ((aT.names.length:Int)>1)) (if x1.length+([40]:Str).length<=4611686018427387904 then if 1<=aT.names.length then Option.bind (zD k (aT.names.drop 1)) fun p7=>if(x1++([40]:Str)).length+p7.length<=4611686018427387904 then if(x1++(40::p7)).length+([41]:Str).length<=4611686018427387904 then if x1.length+([40,95]:Str).length<=4611686018427387904 then Option.bind (xk k aT.kind aT.n aT.text aT.names aT.args (x1++([40,95]:Str)) 2) (fun xX=>if xX.length+([41]:Str).length<=4611686018427387904 then cond (aT.n==1) (if([82,69,67,85,82,83,73,86,69,32]:Str).length+(xX++([41]:Str)).length<=4611686018427387904 then if(82::69::67::85::82::83::73::86::69::32::(xX++([41]:Str))).length+([32]:Str).length<=4611686018427387904 then if(82::69::67::85::82::83::73::86::69::32::(xX++([41,32]:Str))).length+(x1++(40::(p7++([41]:Str)))).length<=4611686018427387904 then if([76,69,84,32]:Str).length+(82::69::67::85::82::83::73::86::69::32::(xX++(41::32::(x1++(40::(p7++([41]:Str))))))).length<=4611686018427387904 then if(76::69::84::32::82::69::67::85::82::83::73::86::69::32::(xX++(41::32::(x1++(40::(p7++([41]:Str))))))).length+([32,61,61,32]:Str).length<=4611686018427387904 then if(76::69::84::32::82::69::67::85::82::83::73::86::69::32::(xX++(41::32::(x1++(40::(p7++([41,32,61,61,32]:Str))))))).length+fO.length<=4611686018427387904 then if(76::69::84::32::82::69::67::85::82::83::73::86::69::32::(xX++(41::32::(x1++(40::(p7++(41::32::61::61::32::fO))))))).length+([32,73,78,32]:Str).length<=4611686018427387904 then if(76::69::84::32::82::69::67::85::82::83::73::86::69::32::(xX++(41::32::(x1++(40::(p7++(41::32::61::61::32::(fO++([32,73,78,32]:Str))))))))).length+rO.length<=4611686018427387904 then some (76::69::84::32::82::69::67::85::82::83::73::86::69::32::(xX++(41::32::(x1++(40::(p7++(41::32::61::61::32::(fO++(32::73::78::32::rO)))))))))else none else none else none else none else none else none else none else none) (if([76,69,84,32]:Str).length+(x1++(40::(p7++([41]:Str)))).length<=4611686018427387904 then if(76::69::84::32::(x1++(40::(p7++([41]:Str))))).length+([32,61,61,32]:Str).length<=4611686018427387904 then if(76::69::84::32::(x1++(40::(p7++([41,32,61,61,32]:Str))))).length+fO.length<=4611686018427387904 then if(76::69::84::32::(x1++(40::(p7++(41::32::61::61::32::fO))))).length+([32,73,78,32]:Str).length<=4611686018427387904 then if(76::69::84::32::(x1++(40::(p7++(41::32::61::61::32::(fO++([32,73,78,32]:Str))))))).length+rO.length<=4611686018427387904 then some (76::69::84::32::(x1++(40::(p7++(41::32::61::61::32::(fO++(32::73::78::32::rO)))))))else none else none else none else none else none)else none)else none else none else none else none else none) (cond (aT.n==1) (if([82,69,67,85,82,83,73,86,69,32]:Str).length+x1.length<=4611686018427387904 then if(82::69::67::85::82::83::73::86::69::32::x1).length+([32]:Str).length<=4611686018427387904 then if(82::69::67::85::82::83::73::86::69::32::(x1++([32]:Str))).length+x1.length<=4611686018427387904 then if([76,69,84,32]:Str).length+(82::69::67::85::82::83::73::86::69::32::(x1++(32::x1))).length<=4611686018427387904 then if(76::69::84::32::82::69::67::85::82::83::73::86::69::32::(x1++(32::x1))).length+([32,61,61,32]:Str).length<=4611686018427387904 then if(76::69::84::32::82::69::67::85::82::83::73::86::69::32::(x1++(32::(x1++([32,61,61,32]:Str))))).length+fO.length<=4611686018427387904 then if(76::69::84::32::82::69::67::85::82::83::73::86::69::32::(x1++(32::(x1++(32::61::61::32::fO))))).length+([32,73,78,32]:Str).length<=4611686018427387904 then if(76::69::84::32::82::69::67::85::82::83::73::86::69::32::(x1++(32::(x1++(32::61::61::32::(fO++([32,73,78,32]:Str))))))).length+rO.length<=4611686018427387904 then some (76::69::84::32::82::69::67::85::82::83::73::86::69::32::(x1++(32::(x1++(32::61::61::32::(fO++(32::73::78::32::rO)))))))else none else none else none else none else none else none else none else none) (if([76,69,84,32]:Str).length+x1.length<=4611686018427387904 then if(76::69::84::32::x1).length+([32,61,61,32]:Str).length<=4611686018427387904 then if(76::69::84::32::(x1++([32,61,61,32]:Str))).length+fO.length<=4611686018427387904 then if(76::69::84::32::(x1++(32::61::61::32::fO))).length+([32,73,78,32]:Str).length<=4611686018427387904 then if(76::69::84::32::(x1++(32::61::61::32::(fO++([32,73,78,32]:Str))))).length+rO.length<=4611686018427387904 then some (76::69::84::32::(x1++(32::61::61::32::(fO++(32::73::78::32::rO)))))else none else none else none else none else none))
def jJ:Nat->(List (List Nd))->Int->Int->Str->(List Str)->(List Int)->Str->Str->Int->Option Str
  |0,_,_,_,_,_,_,_,_,_=>none
  |k+1,l_1,uw,vI,vJ,rM,vK,nU,DN,DR=>
    cond (decide (DR<(rM.length:Int))) (cond (decide (DR>0)) (if DN.length+([44,32]:Str).length<=4611686018427387904 then if 0<=DR then Option.bind (rM[DR.toNat]?) fun x98=>if(DN++([44,32]:Str)).length+x98.length<=4611686018427387904 then if(DN++(44::32::x98)).length+nU.length<=4611686018427387904 then Option.bind (l_1[DR.toNat]?) fun x102=>Option.bind (eu k x102 true) fun afw=>if(DN++(44::32::(x98++nU))).length+afw.length<=4611686018427387904 then jJ k l_1 uw vI vJ rM vK nU (DN++(44::32::(x98++(nU++afw)))) (IntKind.wrap .i64 (DR+1))else none else none else none else none else none) (if 0<=DR then Option.bind (rM[DR.toNat]?) fun XL=>if DN.length+XL.length<=4611686018427387904 then if(DN++XL).length+nU.length<=4611686018427387904 then Option.bind (l_1[DR.toNat]?) fun x112=>Option.bind (eu k x112 true) fun afx=>if(DN++(XL++nU)).length+afx.length<=4611686018427387904 then jJ k l_1 uw vI vJ rM vK nU (DN++(XL++(nU++afx))) (IntKind.wrap .i64 (DR+1))else none else none else none else none)) (some (DN))
def zQ:Nat->Nd->(List (List Nd))->Option Str
  |0,_,_=>none
  |k+1,aT,l_1=>
    if 0<=(IntKind.wrap .i64 ((l_1.length:Int) -1))then Option.bind (l_1[(IntKind.wrap .i64 ((l_1.length:Int) -1)).toNat]?) fun x2=>Option.bind (eu k x2 true) fun p5=>cond (aT.kind==6) (Option.bind (qD k aT.names l_1) fun p8=>if([123]:Str).length+p8.length<=4611686018427387904 then if(123::p8).length+([32,58,32]:Str).length<=4611686018427387904 then if(123::(p8++([32,58,32]:Str))).length+p5.length<=4611686018427387904 then if(123::(p8++(32::58::32::p5))).length+([125]:Str).length<=4611686018427387904 then some (123::(p8++(32::58::32::(p5++([125]:Str)))))else none else none else none else none) (cond (aT.kind==7) (Option.bind (BL k p5) (fun qU=>if([123]:Str).length+qU.length<=4611686018427387904 then if(123::qU).length+([32,58,32]:Str).length<=4611686018427387904 then Option.bind (qD k aT.names l_1) fun p31=>if(123::(qU++([32,58,32]:Str))).length+p31.length<=4611686018427387904 then if(123::(qU++(32::58::32::p31))).length+([125]:Str).length<=4611686018427387904 then some (123::(qU++(32::58::32::(p31++([125]:Str)))))else none else none else none else none)) (cond (aT.kind==8) (Option.bind (qD k aT.names l_1) fun p36=>if([92,65,32]:Str).length+p36.length<=4611686018427387904 then if(92::65::32::p36).length+([32,58,32]:Str).length<=4611686018427387904 then if(92::65::32::(p36++([32,58,32]:Str))).length+p5.length<=4611686018427387904 then some (92::65::32::(p36++(32::58::32::p5)))else none else none else none) (cond (aT.kind==9) (Option.bind (qD k aT.names l_1) fun p42=>if([92,69,32]:Str).length+p42.length<=4611686018427387904 then if(92::69::32::p42).length+([32,58,32]:Str).length<=4611686018427387904 then if(92::69::32::(p42++([32,58,32]:Str))).length+p5.length<=4611686018427387904 then some (92::69::32::(p42++(32::58::32::p5)))else none else none else none) (cond (aT.kind==10) (Option.bind (zD k aT.names) fun p48=>if([92,65,32]:Str).length+p48.length<=4611686018427387904 then if(92::65::32::p48).length+([32,58,32]:Str).length<=4611686018427387904 then if(92::65::32::(p48++([32,58,32]:Str))).length+p5.length<=4611686018427387904 then some (92::65::32::(p48++(32::58::32::p5)))else none else none else none) (cond (aT.kind==11) (Option.bind (zD k aT.names) fun p54=>if([92,69,32]:Str).length+p54.length<=4611686018427387904 then if(92::69::32::p54).length+([32,58,32]:Str).length<=4611686018427387904 then if(92::69::32::(p54++([32,58,32]:Str))).length+p5.length<=4611686018427387904 then some (92::69::32::(p54++(32::58::32::p5)))else none else none else none) (cond (aT.kind==12) (Option.bind (qD k aT.names l_1) fun p60=>if([67,72,79,79,83,69,32]:Str).length+p60.length<=4611686018427387904 then if(67::72::79::79::83::69::32::p60).length+([32,58,32]:Str).length<=4611686018427387904 then if(67::72::79::79::83::69::32::(p60++([32,58,32]:Str))).length+p5.length<=4611686018427387904 then some (67::72::79::79::83::69::32::(p60++(32::58::32::p5)))else none else none else none) (cond (aT.kind==13) (Option.bind (qD k aT.names l_1) fun p66=>if([91]:Str).length+p66.length<=4611686018427387904 then if(91::p66).length+([32,124,45,62,32]:Str).length<=4611686018427387904 then if(91::(p66++([32,124,45,62,32]:Str))).length+p5.length<=4611686018427387904 then if(91::(p66++(32::124::45::62::32::p5))).length+([93]:Str).length<=4611686018427387904 then some (91::(p66++(32::124::45::62::32::(p5++([93]:Str)))))else none else none else none else none) (cond (aT.kind==24) (Option.bind (zD k aT.names) fun p73=>if([76,65,77,66,68,65,32]:Str).length+p73.length<=4611686018427387904 then if(76::65::77::66::68::65::32::p73).length+([32,58,32]:Str).length<=4611686018427387904 then if(76::65::77::66::68::65::32::(p73++([32,58,32]:Str))).length+p5.length<=4611686018427387904 then some (76::65::77::66::68::65::32::(p73++(32::58::32::p5)))else none else none else none) (cond (aT.kind==23) (Option.bind (l_1[0]?) fun x78=>Option.bind (eu k x78 true) fun xZ=>Option.bind (OE k aT xZ p5) fun Lb=>some Lb) (Option.bind (xq aT.kind aT.n aT.text aT.names aT.args) (fun Aw=>Option.bind (jJ k l_1 aT.kind aT.n aT.text aT.names aT.args Aw ([91]:Str) 0) (fun ajM=>if ajM.length+([93]:Str).length<=4611686018427387904 then some (ajM++([93]:Str))else none))))))))))))else none
end
mutual
theorem eX (k:Nat): ∀(aH:List Nd) (kL:Bool) (r:Str) (h:eu k aH kL=some r),aG Tryz.prog 60 [(.aB (aH.map Nd.cells) .unk),(.bool kL)] (.str r):=by
  match k with
  |0=>intro aH kL r h;rw [eu]at h;cases h
  |k+1=>
    intro aH kL r h;refine aG.aR (bB.mem (.cons (bC Nd.pu _) (.cons (.bool _) .nil))) (aI avd (by simp) (aF ?_)) (.str _);rw [eu]at h;unfold aoW;obtain⟨p2,e1,h⟩:=aj h;try refine ah ?_
    refine aA (F4 e1) ?_;obtain⟨p4,e3,h⟩:=aj h;try refine ah ?_
    refine aA (aeY e3) ?_;try refine ah ?_
    obtain⟨o6,h7,h⟩:=aj h;refine ac0 kL p4 _ _ _ (Fr.refl _ _) av _ h7 _ ?_
    ·rintro p8 σ' eo O4 s12;rw [eo]at h;have s13:σ' 0=(.aB (aH.map Nd.cells) .unk):=(O4 0 (by decide)).trans av;have s14:σ' 1=(.bool kL):=(O4 1 (by decide)).trans av;have s15:σ' 5=(.ref (AH.empty.next) 0):=(O4 5 (by decide)).trans av;rcases au h with⟨e16,h⟩|⟨e16,h⟩
     ·obtain⟨mR,e17,h⟩:=aj h;try refine ah ?_
      refine aA ((eX k aH true _ e17).wk (.aB (.same .nil))) ?_;obtain⟨e19,h⟩:=aD h;try refine ah ?_
      refine aN (aP e19) ?_;obtain⟨e20,h⟩:=aD h;try refine ah ?_
      refine aN (aP e20) ?_;obtain rfl:=ak h;try refine ah ?_
      exact(.pure _ (.str _))
     ·try refine ah ?_
      obtain⟨o33,dX,h⟩:=aj h;refine ac1 k (AH.empty.next) aH p2.kind p2.n p2.text p2.names p2.args ([]:List (List Nd)) 0 .nil _ _ _ _ (Fr.refl _ _) (HF.refl _ _) av bE eO _ dX _ ?_
      ·rintro p35 c39 σ' Te eo Xc I6 s40;rw [eo]at h;have s41:σ' 1=(.bool kL):=(Xc 1 (by decide)).trans av;have s42:σ' 5=(.ref (AH.empty.next) 0):=(Xc 5 (by decide)).trans av;have le:=I6.1;try simp only [AH.aJ,AH.aK,AH.aL,AH.aM]at le
       have g43:Te.obj (AH.empty.next)=some [(.int .i64 p2.kind),(.int .i64 p2.n),(.str p2.text),(.aB (p2.names.map aX) .unk),(.aB (p2.args.map bI) .unk)]:=(I6.2 _ bE (by first|exact List.not_mem_nil|(simp only [List.mem_cons,List.not_mem_nil,or_false,not_or];omega))).trans av;have n44:=ne_next (show AH.empty.next<Te.next by first|omega|(simp only [AH.aJ,AH.aK,AH.aL,AH.aM];omega));have m45:=aU (show AH.empty.next<Te.next by first|omega|(simp only [AH.aJ,AH.aK,AH.aL,AH.aM];omega));rcases au h with⟨e46,h⟩|⟨e46,h⟩
       ·obtain⟨p48,e47,h⟩:=aj h;try refine ah ?_
        refine aA (aiF e47) ?_;obtain rfl:=ak h;try refine ah ?_
        exact(.pure _ (.str _))
       ·rcases au h with⟨e49,h⟩|⟨e49,h⟩
        ·obtain⟨e50,h⟩:=aD h;try refine ah ?_
         refine aN (aP e50) ?_;obtain⟨e51,h⟩:=aD h;try refine ah ?_
         refine aN (aP e51) ?_;obtain rfl:=ak h;try refine ah ?_
         exact(.pure _ (.str _))
        ·rcases au h with⟨e52,h⟩|⟨e52,h⟩
         ·obtain rfl:=ak h;try refine ah ?_
          exact(.pure _ (.str _))
         ·rcases au h with⟨e53,h⟩|⟨e53,h⟩
          ·obtain rfl:=ak h;try refine ah ?_
           exact(.pure _ (.str _))
          ·rcases au h with⟨e54,h⟩|⟨e54,h⟩
           ·obtain⟨p56,e55,h⟩:=aj h;try refine ah ?_
            refine aA ((ac2 k p2 p35 kL _ e55).wk (.same (.aB (.same .nil)))) ?_;obtain rfl:=ak h;try refine ah ?_
            exact(.pure _ (.str _))
           ·rcases au h with⟨e57,h⟩|⟨e57,h⟩
            ·obtain⟨p59,e58,h⟩:=aj h;try refine ah ?_
             refine aA ((KR k p35 _ e58).wk (.aB .nil)) ?_;obtain⟨e60,h⟩:=aD h;try refine ah ?_
             refine aN (aP e60) ?_;obtain⟨e61,h⟩:=aD h;try refine ah ?_
             refine aN (aP e61) ?_;obtain rfl:=ak h;try refine ah ?_
             exact(.pure _ (.str _))
            ·rcases au h with⟨e62,h⟩|⟨e62,h⟩
             ·obtain⟨p64,e63,h⟩:=aj h;try refine ah ?_
              refine aA ((KR k p35 _ e63).wk (.aB .nil)) ?_;obtain⟨e65,h⟩:=aD h;try refine ah ?_
              refine aN (aP e65) ?_;obtain⟨e66,h⟩:=aD h;try refine ah ?_
              refine aN (aP e66) ?_;obtain rfl:=ak h;try refine ah ?_
              exact(.pure _ (.str _))
             ·rcases au h with⟨e67,h⟩|⟨e67,h⟩
              ·try refine ah ?_
               refine bO ?_;obtain⟨x68,e69,h⟩:=aj h;obtain⟨p71,La,h⟩:=aj h;try refine ah ?_
               refine PC.mk ((eX k x68 true _ La).wk (.aB (.same .nil))) ?_;obtain⟨MU,h⟩:=aD h;try refine ah ?_
               refine bf (aP MU) ?_;obtain⟨Jo,h⟩:=aD h;try refine ah ?_
               refine bf (aP Jo) ?_;obtain⟨x74,Hr,h⟩:=aj h;obtain⟨Ta,Hq,h⟩:=aj h;try refine ah ?_
               refine PC.mk ((eX k x74 true _ Hq).wk (.aB (.same .nil))) ?_;obtain⟨Mw,h⟩:=aD h;try refine ah ?_
               refine bf (aP Mw) ?_;obtain⟨e79,h⟩:=aD h;try refine ah ?_
               refine bf (aP e79) ?_;obtain⟨x80,e81,h⟩:=aj h;obtain⟨Lb,Ph,h⟩:=aj h;try refine ah ?_
               refine PC.mk ((eX k x80 true _ Ph).wk (.aB (.same .nil))) ?_;obtain⟨e84,h⟩:=aD h;try refine ah ?_
               refine aN (aP e84) ?_;obtain rfl:=ak h;try refine ah ?_
               exact(.pure _ (.str _))
              ·rcases au h with⟨e85,h⟩|⟨e85,h⟩
               ·obtain⟨Aw,Mq,h⟩:=aj h;try refine ah ?_
                refine aA ((ahr k p35 _ Mq).wk (.aB .nil)) ?_;obtain rfl:=ak h;try refine ah ?_
                exact(.pure _ (.str _))
               ·rcases au h with⟨Mr,h⟩|⟨Mr,h⟩
                ·try refine ah ?_
                 refine bO ?_;obtain⟨x89,Sk,h⟩:=aj h;obtain⟨Eu,Jj,h⟩:=aj h;try refine ah ?_
                 refine PC.mk ((YB k x89 _ Jj).wk (.aB .nil)) ?_;obtain⟨Jp,h⟩:=aD h;try refine ah ?_
                 refine bf (aP Jp) ?_;obtain⟨SL,h⟩:=aD h;obtain⟨p96,Sn,h⟩:=aj h;try refine ah ?_
                 refine PC.mk ((KR k (p35.drop 1) _ Sn).wk (.aB .nil)) ?_;obtain⟨e97,h⟩:=aD h;try refine ah ?_
                 refine aN (aP e97) ?_;obtain⟨Sq,h⟩:=aD h;try refine ah ?_
                 refine aN (aP Sq) ?_;obtain rfl:=ak h;try refine ah ?_
                 exact(.pure _ (.str _))
                ·rcases au h with⟨e99,h⟩|⟨e99,h⟩
                 ·try refine ah ?_
                  refine bO ?_;obtain⟨x100,D9,h⟩:=aj h;obtain⟨aft,Kj,h⟩:=aj h;try refine ah ?_
                  refine PC.mk ((YB k x100 _ Kj).wk (.aB .nil)) ?_;obtain⟨Ri,h⟩:=aD h;try refine ah ?_
                  refine bf (aP Ri) ?_;obtain⟨Eb,h⟩:=aD h;try refine ah ?_
                  refine aN (aP Eb) ?_;obtain rfl:=ak h;try refine ah ?_
                  exact(.pure _ (.str _))
                 ·rcases au h with⟨Kk,h⟩|⟨Kk,h⟩
                  ·try refine ah ?_
                   refine bO ?_;obtain⟨x107,e108,h⟩:=aj h;obtain⟨Gb,e109,h⟩:=aj h;try refine ah ?_
                   refine PC.mk ((eX k x107 true _ e109).wk (.aB (.same .nil))) ?_;obtain⟨Kl,h⟩:=aD h;try refine ah ?_
                   refine bf (aP Kl) ?_;obtain⟨aat,h⟩:=aD h;try refine ah ?_
                   refine bf (aP aat) ?_;obtain⟨x113,afo,h⟩:=aj h;obtain⟨XJ,e115,h⟩:=aj h;try refine ah ?_
                   refine PC.mk ((eX k x113 true _ e115).wk (.aB (.same .nil))) ?_;obtain⟨e117,h⟩:=aD h;try refine ah ?_
                   refine bf (aP e117) ?_;obtain⟨e118,h⟩:=aD h;try refine ah ?_
                   refine bf (aP e118) ?_;obtain⟨ajB,e120,h⟩:=aj h;obtain⟨afu,abe,h⟩:=aj h;try refine ah ?_
                   refine PC.mk ((eX k ajB true _ abe).wk (.aB (.same .nil))) ?_;obtain⟨aiu,h⟩:=aD h;try refine ah ?_
                   refine aN (aP aiu) ?_;obtain⟨Xe,h⟩:=aD h;try refine ah ?_
                   refine aN (aP Xe) ?_;obtain rfl:=ak h;try refine ah ?_
                   exact(.pure _ (.str _))
                  ·rcases au h with⟨e125,h⟩|⟨e125,h⟩
                   ·try refine ah ?_
                    refine bO ?_;obtain⟨ajC,e127,h⟩:=aj h;obtain⟨Nb,e128,h⟩:=aj h;try refine ah ?_
                    refine PC.mk ((eX k ajC true _ e128).wk (.aB (.same .nil))) ?_;obtain⟨aeN,h⟩:=aD h;try refine ah ?_
                    refine bf (aP aeN) ?_;obtain⟨ajm,h⟩:=aD h;try refine ah ?_
                    refine bf (aP ajm) ?_;obtain⟨ajD,aeO,h⟩:=aj h;obtain⟨ajE,ajn,h⟩:=aj h;try refine ah ?_
                    refine PC.mk ((y8 k ajD _ ajn).wk (.aB .nil)) ?_;obtain⟨aeP,h⟩:=aD h;try refine ah ?_
                    refine aN (aP aeP) ?_;obtain rfl:=ak h;try refine ah ?_
                    exact(.pure _ (.str _))
                   ·rcases au h with⟨e137,h⟩|⟨e137,h⟩
                    ·try refine ah ?_
                     refine bO ?_;obtain⟨ajF,aeQ,h⟩:=aj h;obtain⟨Mv,Q8,h⟩:=aj h;try refine ah ?_
                     refine PC.mk ((eX k ajF true _ Q8).wk (.aB (.same .nil))) ?_;obtain⟨arj,h⟩:=aD h;try refine ah ?_
                     refine bf (aP arj) ?_;obtain⟨e143,h⟩:=aD h;try refine ah ?_
                     refine bf (aP e143) ?_;obtain⟨ajG,aji,h⟩:=aj h;obtain⟨Xg,Xh,h⟩:=aj h;try refine ah ?_
                     refine PC.mk ((y8 k ajG _ Xh).wk (.aB .nil)) ?_;obtain⟨afe,h⟩:=aD h;try refine ah ?_
                     refine aN (aP afe) ?_;obtain rfl:=ak h;try refine ah ?_
                     exact(.pure _ (.str _))
                    ·rcases au h with⟨ajo,h⟩|⟨ajo,h⟩
                     ·try refine ah ?_
                      refine bO ?_;obtain⟨x150,aeR,h⟩:=aj h;obtain⟨Ec,e152,h⟩:=aj h;try refine ah ?_
                      refine PC.mk ((y8 k x150 _ e152).wk (.aB .nil)) ?_;obtain⟨e154,h⟩:=aD h;try refine ah ?_
                      refine bf (aP e154) ?_;obtain⟨ajp,h⟩:=aD h;try refine ah ?_
                      refine bf (aP ajp) ?_;obtain⟨ajH,ark,h⟩:=aj h;obtain⟨Nc,abf,h⟩:=aj h;try refine ah ?_
                      refine PC.mk ((eX k ajH true _ abf).wk (.aB (.same .nil))) ?_;obtain⟨aiV,h⟩:=aD h;try refine ah ?_
                      refine aN (aP aiV) ?_;obtain⟨aff,h⟩:=aD h;try refine ah ?_
                      refine aN (aP aff) ?_;obtain rfl:=ak h;try refine ah ?_
                      exact(.pure _ (.str _))
                     ·rcases au h with⟨aaw,h⟩|⟨aaw,h⟩
                      ·try refine ah ?_
                       refine bO ?_;obtain⟨ajI,aiw,h⟩:=aj h;obtain⟨KC,e165,h⟩:=aj h;try refine ah ?_
                       refine PC.mk ((y8 k ajI _ e165).wk (.aB .nil)) ?_;obtain⟨e167,h⟩:=aD h;try refine ah ?_
                       refine bf (aP e167) ?_;obtain⟨e168,h⟩:=aD h;try refine ah ?_
                       refine bf (aP e168) ?_;obtain⟨ajJ,e170,h⟩:=aj h;obtain⟨Kn,abg,h⟩:=aj h;try refine ah ?_
                       refine PC.mk ((eX k ajJ true _ abg).wk (.aB (.same .nil))) ?_;obtain⟨aiW,h⟩:=aD h;try refine ah ?_
                       refine aN (aP aiW) ?_;obtain⟨awQ,h⟩:=aD h;try refine ah ?_
                       refine aN (aP awQ) ?_;obtain rfl:=ak h;try refine ah ?_
                       exact(.pure _ (.str _))
                      ·rcases au h with⟨awR,h⟩|⟨awR,h⟩
                       ·try refine ah ?_
                        refine bO ?_;obtain⟨ajK,apZ,h⟩:=aj h;obtain⟨XK,awS,h⟩:=aj h;try refine ah ?_
                        refine PC.mk ((eX k ajK true _ awS).wk (.aB (.same .nil))) ?_;obtain⟨aix,h⟩:=aD h;try refine ah ?_
                        refine bf (aP aix) ?_;obtain⟨e181,h⟩:=aD h;try refine ah ?_
                        refine bf (aP e181) ?_;obtain⟨ajL,apP,h⟩:=aj h;obtain⟨afv,awT,h⟩:=aj h;try refine ah ?_
                        refine PC.mk ((eX k ajL true _ awT).wk (.aB (.same .nil))) ?_;obtain⟨aiy,h⟩:=aD h;try refine ah ?_
                        refine aN (aP aiy) ?_;obtain⟨e187,h⟩:=aD h;try refine ah ?_
                        refine aN (aP e187) ?_;obtain rfl:=ak h;try refine ah ?_
                        exact(.pure _ (.str _))
                       ·obtain⟨arv,awU,h⟩:=aj h;try refine ah ?_
                        refine aA ((ac3 k p2 p35 _ awU).wk (.same (.aB .nil))) ?_;obtain rfl:=ak h;try refine ah ?_
                        exact(.pure _ (.str _))
theorem PW (k:Nat): ∀(bT:List (List Nd)) (gT:Str) (cK:Int) (aC σ:Nat->PV) (H:AH) (f0:Fr TV aC σ) (sl:σ 0=(.aB (bT.map (oJ Nd.cells)) .unk)/\σ 3=(.str gT)/\σ 4=(.int .i64 cK)) (o:Str) (h:qd k bT gT cK=some o) (Q:Post) (q0: ∀(p:Str) (σ':Nat->PV),o=p->Fr TV aC σ'->(σ' 3=(.str p))->Q (.exit 0) σ' H),W Tryz.prog (.loop Qt) Q σ H:=by
  match k with
  |0=>intro bT gT cK aC σ H f0 sl o h Q q0;rw [qd]at h;cases h
  |k+1=>
    have ih:=PW k;intro bT gT cK aC σ H f0 sl o h Q q0;obtain⟨s0,s3,s4⟩:=sl;rw [qd]at h;refine bA (fun K hK=>aF ?_);unfold Qt;rcases au h with⟨e1,h⟩|⟨e1,h⟩
    ·rcases au h with⟨e2,h⟩|⟨e2,h⟩
     ·obtain⟨e3,h⟩:=aD h;try refine ah ?_
      refine aN (aP e3) ?_;obtain⟨e4,h⟩:=aD h;obtain⟨x5,e6,h⟩:=aj h;obtain⟨p8,e7,h⟩:=aj h;try refine ah ?_
      refine aA ((eX k x5 true _ e7).wk (.aB (.same .nil))) ?_;obtain⟨e9,h⟩:=aD h;try refine ah ?_
      refine aN (aP e9) ?_;try refine ah ?_
      refine hK _ _ ?_;exact ih bT (gT++(44::32::p8)) (IntKind.wrap .i64 (cK+1)) _ _ _ aO av _ h _ q0
     ·obtain⟨e10,h⟩:=aD h;obtain⟨x11,e12,h⟩:=aj h;obtain⟨ig,e13,h⟩:=aj h;try refine ah ?_
      refine aA ((eX k x11 true _ e13).wk (.aB (.same .nil))) ?_;obtain⟨e15,h⟩:=aD h;try refine ah ?_
      refine aN (aP e15) ?_;try refine ah ?_
      refine hK _ _ ?_;exact ih bT (gT++ig) (IntKind.wrap .i64 (cK+1)) _ _ _ aO av _ h _ q0
    ·obtain rfl:=ak h;try refine ah ?_
     exact q0 _ _ rfl aO av
theorem KR (k:Nat): ∀(bT:List (List Nd)) (r:Str) (h:BN k bT=some r),aG Tryz.prog 105 [(.aB (bT.map (oJ Nd.cells)) .unk)] (.str r):=by
  match k with
  |0=>intro bT r h;rw [BN]at h;cases h
  |k+1=>
    intro bT r h;refine aG.aR (bB.mem (.cons (bC (FI Nd.pu) _) .nil)) (aI akl (by simp) (aF ?_)) (.str _);rw [BN]at h;unfold akk;try refine ah ?_
    obtain⟨o16,h17,h⟩:=aj h;refine PW k bT ([]:Str) 0 _ _ _ (Fr.refl _ _) av _ h17 _ ?_
    ·rintro mR σ' eo aaj s22;rw [eo]at h;obtain rfl:=ak h;try refine ah ?_
     exact(.pure _ (.str _))
theorem jT (k:Nat): ∀(aH:List Nd) (Fj:Bool) (eH:Bool) (r:Str) (h:jo k aH Fj eH=some r),aG Tryz.prog 162 [(.aB (aH.map Nd.cells) .unk),(.bool Fj),(.bool eH)] (.str r):=by
  match k with
  |0=>intro aH Fj eH r h;rw [jo]at h;cases h
  |k+1=>
    intro aH Fj eH r h;refine aG.aR (bB.mem (.cons (bC Nd.pu _) (.cons (.bool _) (.cons (.bool _) .nil)))) (aI asO (by simp) (aF ?_)) (.str _);rw [jo]at h;unfold ak0;rcases au h with⟨e1,h⟩|⟨e1,h⟩
    ·obtain⟨p3,e2,h⟩:=aj h;try refine ah ?_
     refine aA ((eX k aH true _ e2).wk (.aB (.same .nil))) ?_;obtain⟨e4,h⟩:=aD h;try refine ah ?_
     refine aN (aP e4) ?_;obtain⟨e5,h⟩:=aD h;try refine ah ?_
     refine aN (aP e5) ?_;obtain rfl:=ak h;try refine ah ?_
     exact(.pure _ (.str _))
    ·obtain⟨p7,e6,h⟩:=aj h;try refine ah ?_
     refine aA ((eX k aH eH _ e6).wk (.aB (.same .nil))) ?_;obtain rfl:=ak h;try refine ah ?_
     exact(.pure _ (.str _))
theorem JU (k:Nat): ∀(eG:Nat) (jI:Nat) (l_1:List (List Nd)) (eH:Bool) (fQ:Int) (fT:Int) (fB:Str) (fK:List Str) (eT:List Int) (jH:Str) (kM:Int) (jX:Int) (jc:Int) (jY:Bool) (kN:Int) (kP:Int) (BI:Str) (kQ:Int) (aC σ:Nat->PV) (H0 H:AH) (f0:Fr LG aC σ) (hf0:HF [] H0 H) (sl:σ 1=(.aB (l_1.map (oJ Nd.cells)) .unk)/\σ 2=(.bool eH)/\σ 3=(.ref (eG) 0)/\σ 7=(.ref (jI) 0)/\σ 9=(.str BI)/\σ 10=(.int .i64 kQ)/\H.obj eG=some [(.int .i64 fQ),(.int .i64 fT),(.str fB),(.aB (fK.map aX) .unk),(.aB (eT.map bI) .unk)]/\H.obj jI=some [(.str jH),(.int .i64 kM),(.int .i64 jX),(.int .i64 jc),(.bool jY),(.int .i64 kN),(.int .i64 kP)]) (iL:eG<H.next) (oH:jI<H.next) (xQ:eG≠jI) (o:Str) (h:jd k l_1 eH fQ fT fB fK eT jH kM jX jc jY kN kP BI kQ=some o) (Q:Post) (q0: ∀(p:Str) (σ':Nat->PV) (H':AH),o=p->Fr LG aC σ'->HF [] H0 H'->(σ' 9=(.str p))->Q (.exit 0) σ' H'),W Tryz.prog (.loop Qr) Q σ H:=by
  match k with
  |0=>intro eG jI l_1 eH fQ fT fB fK eT jH kM jX jc jY kN kP BI kQ aC σ H0 H f0 hf0 sl iL oH xQ o h Q q0;rw [jd]at h;cases h
  |k+1=>
    have ih:=JU k;intro eG jI l_1 eH fQ fT fB fK eT jH kM jX jc jY kN kP BI kQ aC σ H0 H f0 hf0 sl iL oH xQ o h Q q0;obtain⟨s1,s2,s3,s7,s9,s10,Oy,abW⟩:=sl;have Oz:=ne_next iL;have OA:=aU iL;have abX:=ne_next oH;have abY:=aU oH;have anf:=eq_false xQ;have ang:=eq_false (Ne.symm xQ);have hle0:=hf0.1;rw [jd]at h;refine bA (fun K hK=>aF ?_);unfold Qr;rcases au h with⟨e5,h⟩|⟨e5,h⟩
    ·obtain⟨e6,h⟩:=aD h;obtain⟨x7,e8,h⟩:=aj h;obtain⟨fE,e9,h⟩:=aj h;try refine ah ?_
     refine aA (Gy e9) ?_;try refine ah ?_
     obtain⟨o15,h16,h⟩:=aj h;refine XE (jI) (H.next) jH kM jX jc jY kN kP kQ fE.1.text fE.1.fix fE.1.low fE.1.high fE.1.left fE.1.least fE.1.most fE.2 _ _ _ (Fr.refl _ _) av bE bE bE _ h16 _ ?_
     ·rintro yA σ' eo Kg s21;rw [eo]at h;have s22:σ' 1=(.aB (l_1.map (oJ Nd.cells)) .unk):=(Kg 1 (by decide)).trans av;have Z8:σ' 2=(.bool eH):=(Kg 2 (by decide)).trans av;have s24:σ' 3=(.ref (eG) 0):=(Kg 3 (by decide)).trans av;have O6:σ' 7=(.ref (jI) 0):=(Kg 7 (by decide)).trans av;have X5:σ' 9=(.str BI):=(Kg 9 (by decide)).trans av;have X9:σ' 10=(.int .i64 kQ):=(Kg 10 (by decide)).trans av;try refine ah ?_
      obtain⟨o32,h33,h⟩:=aj h;refine XF (eG) fQ fT fB fK eT BI kQ _ _ _ (Fr.refl _ _) av bE _ h33 _ ?_
      ·rintro p34 σ' eo CF s38;rw [eo]at h;have s39:σ' 1=(.aB (l_1.map (oJ Nd.cells)) .unk):=(CF 1 (by decide)).trans av;have s40:σ' 2=(.bool eH):=(CF 2 (by decide)).trans av;have s41:σ' 3=(.ref (eG) 0):=(CF 3 (by decide)).trans av;have s42:σ' 7=(.ref (jI) 0):=(CF 7 (by decide)).trans av;have s43:σ' 10=(.int .i64 kQ):=(CF 10 (by decide)).trans av;have s44:σ' 13=(.bool yA):=(CF 13 (by decide)).trans av;rcases au h with⟨e45,h⟩|⟨e45,h⟩
       ·obtain⟨p47,e46,h⟩:=aj h;try refine ah ?_
        refine aA ((jT k x7 yA (kQ==(IntKind.wrap .i64 ((l_1.length:Int) -1))) _ e46).wk (.aB (.same (.same .nil)))) ?_;obtain⟨e48,h⟩:=aD h;try refine ah ?_
        refine aN (aP e48) ?_;try refine ah ?_
        refine hK _ _ ?_;exact ih eG jI l_1 eH fQ fT fB fK eT jH kM jX jc jY kN kP (p34++p47) (IntKind.wrap .i64 (kQ+1)) _ _ _ _ (by repeat (first|exact f0|refine Fr.upd (by decide) ?_|refine Fr.via Kg (by decide) ?_|refine Fr.via CF (by decide) ?_)) (by repeat (first|exact hf0|refine HF.new ?_|refine HF.dR ?_|refine HF.used ?_|refine HF.put (by first|(right;omega)|(left;simp only [List.mem_cons,true_or,or_true])) ?_)) av bE bE bE _ h _ q0
       ·obtain⟨p50,e49,h⟩:=aj h;try refine ah ?_
        refine aA ((jT k x7 yA false _ e49).wk (.aB (.same (.same .nil)))) ?_;obtain⟨e51,h⟩:=aD h;try refine ah ?_
        refine aN (aP e51) ?_;try refine ah ?_
        refine hK _ _ ?_;exact ih eG jI l_1 eH fQ fT fB fK eT jH kM jX jc jY kN kP (p34++p50) (IntKind.wrap .i64 (kQ+1)) _ _ _ _ (by repeat (first|exact f0|refine Fr.upd (by decide) ?_|refine Fr.via Kg (by decide) ?_|refine Fr.via CF (by decide) ?_)) (by repeat (first|exact hf0|refine HF.new ?_|refine HF.dR ?_|refine HF.used ?_|refine HF.put (by first|(right;omega)|(left;simp only [List.mem_cons,true_or,or_true])) ?_)) av bE bE bE _ h _ q0
    ·obtain rfl:=ak h;try refine ah ?_
     exact q0 _ _ _ rfl aO (by repeat (first|exact hf0|refine HF.new ?_|refine HF.dR ?_|refine HF.used ?_|refine HF.put (by first|(right;omega)|(left;simp only [List.mem_cons,true_or,or_true])) ?_)) av
theorem ac2 (k:Nat): ∀(aT:Nd) (l_1:List (List Nd)) (eH:Bool) (r:Str) (h:zP k aT l_1 eH=some r),aG Tryz.prog 104 [(.agg (Nd.cells aT)),(.aB (l_1.map (oJ Nd.cells)) .unk),(.bool eH)] (.str r):=by
  match k with
  |0=>intro aT l_1 eH r h;rw [zP]at h;cases h
  |k+1=>
    intro aT l_1 eH r h;refine aG.aR (bB.mem (.cons (.agg _ (Nd.pu _)) (.cons (bC (FI Nd.pu) _) (.cons (.bool _) .nil)))) (aI ar9 (by simp) (aF ?_)) (.str _);rw [zP]at h;unfold akj;obtain⟨p2,e1,h⟩:=aj h;try refine ah ?_
    refine aA (xA e1) ?_;rcases au h with⟨e3,h⟩|⟨e3,h⟩
    ·rcases au h with⟨e4,h⟩|⟨e4,h⟩
     ·try refine ah ?_
      obtain⟨o52,h53,h⟩:=aj h;refine JU k (AH.empty.next) (AH.empty.next+1) l_1 eH aT.kind aT.n aT.text aT.names aT.args p2.1.text p2.1.fix p2.1.low p2.1.high p2.1.left p2.1.least p2.1.most ([]:Str) 0 _ _ _ _ (Fr.refl _ _) (HF.refl _ _) av bE bE bE _ h53 _ ?_
      ·rintro p54 σ' H57 eo aa2 awV s58;rw [eo]at h;have le:=awV.1;try simp only [AH.aJ,AH.aK,AH.aL,AH.aM]at le
       obtain rfl:=ak h;try refine ah ?_
       exact(.pure _ (.str _))
     ·obtain⟨Ip,e60,h⟩:=aj h;obtain⟨p62,e61,h⟩:=aj h;try refine ah ?_
      refine aA (Gy e61) ?_;rcases au h with⟨e63,h⟩|⟨e63,h⟩
      ·try refine ah ?_
       refine bO ?_;rcases au h with⟨e64,h⟩|⟨e64,h⟩
       ·obtain⟨p66,e65,h⟩:=aj h;try refine ah ?_
        refine aA ((jT k Ip (!(p62.1.text==p2.1.text)) false _ e65).wk (.aB (.same (.same .nil)))) ?_;obtain⟨e67,h⟩:=aD h;try refine ah ?_
        refine aN (aP e67) ?_;obtain rfl:=ak h;try refine ah ?_
        exact(.pure _ (.str _))
       ·obtain⟨p69,e68,h⟩:=aj h;try refine ah ?_
        refine aA ((jT k Ip false false _ e68).wk (.aB (.same (.same .nil)))) ?_;obtain⟨La,h⟩:=aD h;try refine ah ?_
        refine aN (aP La) ?_;obtain rfl:=ak h;try refine ah ?_
        exact(.pure _ (.str _))
      ·try refine ah ?_
       obtain⟨o79,h80,h⟩:=aj h;refine XG (AH.empty.next+1) (AH.empty.next+2) p2.1.text p2.1.fix p2.1.low p2.1.high p2.1.left p2.1.least p2.1.most p62.1.text p62.1.fix p62.1.low p62.1.high p62.1.left p62.1.least p62.1.most p62.2 _ _ _ (Fr.refl _ _) av bE bE bE _ h80 _ ?_
       ·rintro xZ σ' eo IX s85;rw [eo]at h;have s86:σ' 1=(.aB (l_1.map (oJ Nd.cells)) .unk):=(IX 1 (by decide)).trans av;have s87:σ' 2=(.bool eH):=(IX 2 (by decide)).trans av;have s88:σ' 3=(.ref (AH.empty.next) 0):=(IX 3 (by decide)).trans av;obtain⟨x89,Sk,h⟩:=aj h;obtain⟨Eu,Jj,h⟩:=aj h;try refine ah ?_
        refine aA (Ag Jj) ?_;rcases au h with⟨Jp,h⟩|⟨Jp,h⟩
        ·obtain⟨SL,h⟩:=aD h;try refine ah ?_
         refine aN (aP SL) ?_;rcases au h with⟨Sn,h⟩|⟨Sn,h⟩
         ·obtain⟨p97,Pj,h⟩:=aj h;try refine ah ?_
          refine aA ((jT k Ip xZ eH _ Pj).wk (.aB (.same (.same .nil)))) ?_;obtain⟨Sq,h⟩:=aD h;try refine ah ?_
          refine aN (aP Sq) ?_;obtain rfl:=ak h;try refine ah ?_
          exact(.pure _ (.str _))
         ·obtain⟨Kh,e99,h⟩:=aj h;try refine ah ?_
          refine aA ((jT k Ip xZ eH _ e99).wk (.aB (.same (.same .nil)))) ?_;obtain⟨D9,h⟩:=aD h;try refine ah ?_
          refine aN (aP D9) ?_;obtain rfl:=ak h;try refine ah ?_
          exact(.pure _ (.str _))
        ·rcases au h with⟨Kj,h⟩|⟨Kj,h⟩
         ·obtain⟨Ki,Ea,h⟩:=aj h;try refine ah ?_
          refine aA ((jT k Ip xZ eH _ Ea).wk (.aB (.same (.same .nil)))) ?_;obtain⟨Eb,h⟩:=aD h;try refine ah ?_
          refine aN (aP Eb) ?_;obtain rfl:=ak h;try refine ah ?_
          exact(.pure _ (.str _))
         ·obtain⟨Wp,Kk,h⟩:=aj h;try refine ah ?_
          refine aA ((jT k Ip xZ eH _ Kk).wk (.aB (.same (.same .nil)))) ?_;obtain⟨e108,h⟩:=aD h;try refine ah ?_
          refine aN (aP e108) ?_;obtain rfl:=ak h;try refine ah ?_
          exact(.pure _ (.str _))
    ·try refine ah ?_
     refine bO ?_;obtain⟨e109,h⟩:=aD h;try refine ah ?_
     refine bf (aP e109) ?_;obtain⟨KH,IL,h⟩:=aj h;try refine ah ?_
     refine PC.mk ((KR k l_1 _ IL).wk (.aB .nil)) ?_;obtain⟨aat,h⟩:=aD h;try refine ah ?_
     refine aN (aP aat) ?_;obtain⟨Mx,h⟩:=aD h;try refine ah ?_
     refine aN (aP Mx) ?_;obtain rfl:=ak h;try refine ah ?_
     exact(.pure _ (.str _))
theorem NT (k:Nat): ∀(bT:List (List Nd)) (gT:Str) (cK:Int) (aC σ:Nat->PV) (H:AH) (f0:Fr PU aC σ) (sl:σ 0=(.aB (bT.map (oJ Nd.cells)) .unk)/\σ 3=(.str gT)/\σ 4=(.int .i64 cK)) (o:Str) (h:pz k bT gT cK=some o) (Q:Post) (q0: ∀(p:Str) (σ':Nat->PV),o=p->Fr PU aC σ'->(σ' 3=(.str p))->Q (.exit 0) σ' H),W Tryz.prog (.loop Qv) Q σ H:=by
  match k with
  |0=>intro bT gT cK aC σ H f0 sl o h Q q0;rw [pz]at h;cases h
  |k+1=>
    have ih:=NT k;intro bT gT cK aC σ H f0 sl o h Q q0;obtain⟨s0,s3,s4⟩:=sl;rw [pz]at h;refine bA (fun K hK=>aF ?_);unfold Qv;rcases au h with⟨e1,h⟩|⟨e1,h⟩
    ·try refine ah ?_
     obtain⟨o4,h5,h⟩:=aj h;refine abZ gT cK _ _ _ (Fr.refl _ _) av _ h5 _ ?_
     ·rintro p6 σ' eo fr7 s10;rw [eo]at h;have s11:σ' 0=(.aB (bT.map (oJ Nd.cells)) .unk):=(fr7 0 (by decide)).trans av;have s12:σ' 4=(.int .i64 cK):=(fr7 4 (by decide)).trans av;try refine ah ?_
      refine bO ?_;obtain⟨e13,h⟩:=aD h;obtain⟨Yy,e15,h⟩:=aj h;obtain⟨yA,e16,h⟩:=aj h;try refine ah ?_
      refine PC.mk ((eX k Yy true _ e16).wk (.aB (.same .nil))) ?_;obtain⟨e18,h⟩:=aD h;try refine ah ?_
      refine bf (aP e18) ?_;obtain⟨e19,h⟩:=aD h;try refine ah ?_
      refine bf (aP e19) ?_;obtain⟨e20,h⟩:=aD h;obtain⟨x21,e22,h⟩:=aj h;obtain⟨lq,e23,h⟩:=aj h;try refine ah ?_
      refine PC.mk ((eX k x21 (decide ((IntKind.wrap .i64 (cK+2))>=(bT.length:Int))) _ e23).wk (.aB (.same .nil))) ?_;obtain⟨e25,h⟩:=aD h;try refine ah ?_
      refine aN (aP e25) ?_;try refine ah ?_
      refine hK _ _ ?_;exact ih bT (p6++(yA++(32::45::62::32::lq))) (IntKind.wrap .i64 (cK+2)) _ _ _ (by repeat (first|exact f0|refine Fr.upd (by decide) ?_|refine Fr.via fr7 (by decide) ?_)) av _ h _ q0
    ·obtain rfl:=ak h;try refine ah ?_
     exact q0 _ _ rfl aO av
theorem ahr (k:Nat): ∀(bT:List (List Nd)) (r:Str) (h:Fh k bT=some r),aG Tryz.prog 106 [(.aB (bT.map (oJ Nd.cells)) .unk)] (.str r):=by
  match k with
  |0=>intro bT r h;rw [Fh]at h;cases h
  |k+1=>
    intro bT r h;refine aG.aR (bB.mem (.cons (bC (FI Nd.pu) _) .nil)) (aI akn (by simp) (aF ?_)) (.str _);rw [Fh]at h;unfold akm;try refine ah ?_
    obtain⟨o26,h27,h⟩:=aj h;refine NT k bT ([67,65,83,69,32]:Str) 0 _ _ _ (Fr.refl _ _) av _ h27 _ ?_
    ·rintro p28 σ' eo Mj s32;rw [eo]at h;have s33:σ' 0=(.aB (bT.map (oJ Nd.cells)) .unk):=(Mj 0 (by decide)).trans av;rcases au h with⟨e34,h⟩|⟨e34,h⟩
     ·obtain⟨e35,h⟩:=aD h;try refine ah ?_
      refine aN (aP e35) ?_;obtain⟨e36,h⟩:=aD h;obtain⟨x37,e38,h⟩:=aj h;obtain⟨p40,e39,h⟩:=aj h;try refine ah ?_
      refine aA ((eX k x37 true _ e39).wk (.aB (.same .nil))) ?_;obtain⟨e41,h⟩:=aD h;try refine ah ?_
      refine aN (aP e41) ?_;obtain rfl:=ak h;try refine ah ?_
      exact(.pure _ (.str _))
     ·obtain rfl:=ak h;try refine ah ?_
      exact(.pure _ (.str _))
theorem YB (k:Nat): ∀(aH:List Nd) (r:Str) (h:CO k aH=some r),aG Tryz.prog 107 [(.aB (aH.map Nd.cells) .unk)] (.str r):=by
  match k with
  |0=>intro aH r h;rw [CO]at h;cases h
  |k+1=>
    intro aH r h;refine aG.aR (bB.mem (.cons (bC Nd.pu _) .nil)) (aI asa (by simp) (aF ?_)) (.str _);rw [CO]at h;unfold ako;obtain⟨p2,e1,h⟩:=aj h;try refine ah ?_
    refine aA (Gy e1) ?_;rcases au h with⟨e3,h⟩|⟨e3,h⟩
    ·obtain⟨p5,e4,h⟩:=aj h;try refine ah ?_
     refine aA ((jT k aH true false _ e4).wk (.aB (.same (.same .nil)))) ?_;obtain rfl:=ak h;try refine ah ?_
     exact(.pure _ (.str _))
    ·obtain⟨p7,e6,h⟩:=aj h;try refine ah ?_
     refine aA (F4 e6) ?_;obtain⟨p9,e8,h⟩:=aj h;try refine ah ?_
     refine aA ((jT k aH (p7.kind==0) false _ e8).wk (.aB (.same (.same .nil)))) ?_;obtain rfl:=ak h;try refine ah ?_
     exact(.pure _ (.str _))
theorem y8 (k:Nat): ∀(aH:List Nd) (r:Str) (h:nJ k aH=some r),aG Tryz.prog 108 [(.aB (aH.map Nd.cells) .unk)] (.str r):=by
  match k with
  |0=>intro aH r h;rw [nJ]at h;cases h
  |k+1=>
    intro aH r h;refine aG.aR (bB.mem (.cons (bC Nd.pu _) .nil)) (aI asb (by simp) (aF ?_)) (.str _);rw [nJ]at h;unfold akp;obtain⟨p2,e1,h⟩:=aj h;try refine ah ?_
    refine aA (F4 e1) ?_;rcases au h with⟨e3,h⟩|⟨e3,h⟩
    ·obtain⟨p5,e4,h⟩:=aj h;try refine ah ?_
     refine aA ((jT k aH (p2.kind !=4) true _ e4).wk (.aB (.same (.same .nil)))) ?_;obtain rfl:=ak h;try refine ah ?_
     exact(.pure _ (.str _))
    ·obtain⟨p7,e6,h⟩:=aj h;try refine ah ?_
     refine aA (tJ e6) ?_;rcases au h with⟨e8,h⟩|⟨e8,h⟩
     ·obtain⟨fE,e9,h⟩:=aj h;try refine ah ?_
      refine aA ((jT k aH false true _ e9).wk (.aB (.same (.same .nil)))) ?_;obtain rfl:=ak h;try refine ah ?_
      exact(.pure _ (.str _))
     ·obtain⟨jW,e11,h⟩:=aj h;try refine ah ?_
      refine aA ((jT k aH (p2.kind !=4) true _ e11).wk (.aB (.same (.same .nil)))) ?_;obtain rfl:=ak h;try refine ah ?_
      exact(.pure _ (.str _))
theorem LM (k:Nat): ∀(bT:List Str) (l7:List (List Nd)) (DL:Str) (gV:Int) (aC σ:Nat->PV) (H:AH) (f0:Fr NR aC σ) (sl:σ 0=(.aB (bT.map aX) .unk)/\σ 1=(.aB (l7.map (oJ Nd.cells)) .unk)/\σ 5=(.str DL)/\σ 6=(.int .i64 gV)) (o:Str) (h:lQ k bT l7 DL gV=some o) (Q:Post) (q0: ∀(p:Str) (σ':Nat->PV),o=p->Fr NR aC σ'->(σ' 5=(.str p))->Q (.exit 0) σ' H),W Tryz.prog (.loop QL) Q σ H:=by
  match k with
  |0=>intro bT l7 DL gV aC σ H f0 sl o h Q q0;rw [lQ]at h;cases h
  |k+1=>
    have ih:=LM k;intro bT l7 DL gV aC σ H f0 sl o h Q q0;obtain⟨s0,s1,s5,s6⟩:=sl;rw [lQ]at h;refine bA (fun K hK=>aF ?_);unfold QL;rcases au h with⟨e1,h⟩|⟨e1,h⟩
    ·rcases au h with⟨e2,h⟩|⟨e2,h⟩
     ·obtain⟨e3,h⟩:=aD h;try refine ah ?_
      refine aN (aP e3) ?_;try refine ah ?_
      refine bO ?_;obtain⟨e4,h⟩:=aD h;obtain⟨x5,e6,h⟩:=aj h;obtain⟨e7,h⟩:=aD h;try refine ah ?_
      refine bf (aP e7) ?_;obtain⟨e8,h⟩:=aD h;try refine ah ?_
      refine bf (aP e8) ?_;obtain⟨x9,e10,h⟩:=aj h;obtain⟨jW,e11,h⟩:=aj h;try refine ah ?_
      refine PC.mk ((eX k x9 true _ e11).wk (.aB (.same .nil))) ?_;obtain⟨e13,h⟩:=aD h;try refine ah ?_
      refine aN (aP e13) ?_;try refine ah ?_
      refine hK _ _ ?_;exact ih bT l7 (DL++(44::32::(x5++(32::92::105::110::32::jW)))) (IntKind.wrap .i64 (gV+1)) _ _ _ aO av _ h _ q0
     ·try refine ah ?_
      refine bO ?_;obtain⟨e14,h⟩:=aD h;obtain⟨NS,e16,h⟩:=aj h;obtain⟨e17,h⟩:=aD h;try refine ah ?_
      refine bf (aP e17) ?_;obtain⟨e18,h⟩:=aD h;try refine ah ?_
      refine bf (aP e18) ?_;obtain⟨x19,e20,h⟩:=aj h;obtain⟨zB,e21,h⟩:=aj h;try refine ah ?_
      refine PC.mk ((eX k x19 true _ e21).wk (.aB (.same .nil))) ?_;obtain⟨e23,h⟩:=aD h;try refine ah ?_
      refine aN (aP e23) ?_;try refine ah ?_
      refine hK _ _ ?_;exact ih bT l7 (DL++(NS++(32::92::105::110::32::zB))) (IntKind.wrap .i64 (gV+1)) _ _ _ aO av _ h _ q0
    ·obtain rfl:=ak h;try refine ah ?_
     exact q0 _ _ rfl aO av
theorem xR (k:Nat): ∀(bT:List Str) (l7:List (List Nd)) (r:Str) (h:qD k bT l7=some r),aG Tryz.prog 163 [(.aB (bT.map aX) .unk),(.aB (l7.map (oJ Nd.cells)) .unk)] (.str r):=by
  match k with
  |0=>intro bT l7 r h;rw [qD]at h;cases h
  |k+1=>
    intro bT l7 r h;refine aG.aR (bB.mem (.cons (bC cO _) (.cons (bC (FI Nd.pu) _) .nil))) (aI asP (by simp) (aF ?_)) (.str _);rw [qD]at h;unfold ak1;try refine ah ?_
    obtain⟨o24,h25,h⟩:=aj h;refine LM k bT l7 ([]:Str) 0 _ _ _ (Fr.refl _ _) av _ h25 _ ?_
    ·rintro p26 σ' eo Ko s30;rw [eo]at h;obtain rfl:=ak h;try refine ah ?_
     exact(.pure _ (.str _))
theorem anh (k:Nat): ∀(aT:Nd) (fO:Str) (rO:Str) (r:Str) (h:OE k aT fO rO=some r),aG Tryz.prog 166 [(.agg (Nd.cells aT)),(.str fO),(.str rO)] (.str r):=by
  match k with
  |0=>intro aT fO rO r h;rw [OE]at h;cases h
  |k+1=>
    intro aT fO rO r h;refine aG.aR (bB.mem (.cons (.agg _ (Nd.pu _)) (.cons (.str _) (.cons (.str _) .nil)))) (aI asS (by simp) (aF ?_)) (.str _);rw [OE]at h;unfold ak4;try refine ah ?_
    refine bO ?_;obtain⟨x1,e2,h⟩:=aj h;rcases au h with⟨e3,h⟩|⟨e3,h⟩
    ·obtain⟨e4,h⟩:=aD h;try refine ah ?_
     refine aN (aP e4) ?_;obtain⟨e5,h⟩:=aD h;obtain⟨p7,e6,h⟩:=aj h;try refine ah ?_
     refine aA (Hw e6) ?_;obtain⟨e8,h⟩:=aD h;try refine ah ?_
     refine aN (aP e8) ?_;obtain⟨e9,h⟩:=aD h;try refine ah ?_
     refine aN (aP e9) ?_;obtain⟨e10,h⟩:=aD h;try refine ah ?_
     refine aN (aP e10) ?_;try refine ah ?_
     obtain⟨o13,h14,h⟩:=aj h;refine afs k (AH.empty.next) aT.kind aT.n aT.text aT.names aT.args (x1++([40,95]:Str)) 2 _ _ _ (Fr.refl _ _) av bE _ h14 _ ?_
     ·rintro xX σ' eo Q7 qH;rw [eo]at h;have s20:σ' 1=(.str fO):=(Q7 1 (by decide)).trans av;have s21:σ' 2=(.str rO):=(Q7 2 (by decide)).trans av;have s22:σ' 3=(.ref (AH.empty.next) 0):=(Q7 3 (by decide)).trans av;have Z8:σ' 7=(.str (x1++(40::(p7++([41]:Str))))):=(Q7 7 (by decide)).trans av;obtain⟨e24,h⟩:=aD h;try refine ah ?_
      refine aN (aP e24) ?_;rcases au h with⟨e25,h⟩|⟨e25,h⟩
      ·obtain⟨e26,h⟩:=aD h;try refine ah ?_
       refine aN (aP e26) ?_;obtain⟨e27,h⟩:=aD h;try refine ah ?_
       refine aN (aP e27) ?_;obtain⟨e28,h⟩:=aD h;try refine ah ?_
       refine aN (aP e28) ?_;obtain⟨e29,h⟩:=aD h;try refine ah ?_
       refine aN (aP e29) ?_;obtain⟨e30,h⟩:=aD h;try refine ah ?_
       refine aN (aP e30) ?_;obtain⟨e31,h⟩:=aD h;try refine ah ?_
       refine aN (aP e31) ?_;obtain⟨e32,h⟩:=aD h;try refine ah ?_
       refine aN (aP e32) ?_;obtain⟨e33,h⟩:=aD h;try refine ah ?_
       refine aN (aP e33) ?_;obtain rfl:=ak h;try refine ah ?_
       exact(.pure _ (.str _))
      ·obtain⟨e34,h⟩:=aD h;try refine ah ?_
       refine aN (aP e34) ?_;obtain⟨e35,h⟩:=aD h;try refine ah ?_
       refine aN (aP e35) ?_;obtain⟨e36,h⟩:=aD h;try refine ah ?_
       refine aN (aP e36) ?_;obtain⟨e37,h⟩:=aD h;try refine ah ?_
       refine aN (aP e37) ?_;obtain⟨e38,h⟩:=aD h;try refine ah ?_
       refine aN (aP e38) ?_;obtain rfl:=ak h;try refine ah ?_
       exact(.pure _ (.str _))
    ·rcases au h with⟨e39,h⟩|⟨e39,h⟩
     ·obtain⟨e40,h⟩:=aD h;try refine ah ?_
      refine aN (aP e40) ?_;obtain⟨e41,h⟩:=aD h;try refine ah ?_
      refine aN (aP e41) ?_;obtain⟨e42,h⟩:=aD h;try refine ah ?_
      refine aN (aP e42) ?_;obtain⟨e43,h⟩:=aD h;try refine ah ?_
      refine aN (aP e43) ?_;obtain⟨e44,h⟩:=aD h;try refine ah ?_
      refine aN (aP e44) ?_;obtain⟨e45,h⟩:=aD h;try refine ah ?_
      refine aN (aP e45) ?_;obtain⟨e46,h⟩:=aD h;try refine ah ?_
      refine aN (aP e46) ?_;obtain⟨e47,h⟩:=aD h;try refine ah ?_
      refine aN (aP e47) ?_;obtain rfl:=ak h;try refine ah ?_
      exact(.pure _ (.str _))
     ·obtain⟨e48,h⟩:=aD h;try refine ah ?_
      refine aN (aP e48) ?_;obtain⟨e49,h⟩:=aD h;try refine ah ?_
      refine aN (aP e49) ?_;obtain⟨e50,h⟩:=aD h;try refine ah ?_
      refine aN (aP e50) ?_;obtain⟨e51,h⟩:=aD h;try refine ah ?_
      refine aN (aP e51) ?_;obtain⟨e52,h⟩:=aD h;try refine ah ?_
      refine aN (aP e52) ?_;obtain rfl:=ak h;try refine ah ?_
      exact(.pure _ (.str _))
theorem JV (k:Nat): ∀(y7:Nat) (l_1:List (List Nd)) (uw:Int) (vI:Int) (vJ:Str) (rM:List Str) (vK:List Int) (nU:Str) (DN:Str) (DR:Int) (aC σ:Nat->PV) (H:AH) (f0:Fr LK aC σ) (sl:σ 1=(.aB (l_1.map (oJ Nd.cells)) .unk)/\σ 2=(.ref (y7) 0)/\σ 6=(.str nU)/\σ 7=(.str DN)/\σ 8=(.int .i64 DR)/\H.obj y7=some [(.int .i64 uw),(.int .i64 vI),(.str vJ),(.aB (rM.map aX) .unk),(.aB (vK.map bI) .unk)]) (zO:y7<H.next) (o:Str) (h:jJ k l_1 uw vI vJ rM vK nU DN DR=some o) (Q:Post) (q0: ∀(p:Str) (σ':Nat->PV),o=p->Fr LK aC σ'->(σ' 7=(.str p))->Q (.exit 1) σ' H),W Tryz.prog (.loop Qy) Q σ H:=by
  match k with
  |0=>intro y7 l_1 uw vI vJ rM vK nU DN DR aC σ H f0 sl zO o h Q q0;rw [jJ]at h;cases h
  |k+1=>
    have ih:=JV k;intro y7 l_1 uw vI vJ rM vK nU DN DR aC σ H f0 sl zO o h Q q0;obtain⟨s1,s2,s6,s7,s8,anb⟩:=sl;have anc:=ne_next zO;have ane:=aU zO;rw [jJ]at h;refine bA (fun K hK=>aF ?_);unfold Qy;rcases au h with⟨SL,h⟩|⟨SL,h⟩
    ·rcases au h with⟨Sn,h⟩|⟨Sn,h⟩
     ·obtain⟨Pj,h⟩:=aD h;try refine ah ?_
      refine aN (aP Pj) ?_;try refine ah ?_
      refine bO ?_;obtain⟨e97,h⟩:=aD h;obtain⟨x98,e99,h⟩:=aj h;obtain⟨e100,h⟩:=aD h;try refine ah ?_
      refine bf (aP e100) ?_;obtain⟨D9,h⟩:=aD h;try refine ah ?_
      refine bf (aP D9) ?_;obtain⟨x102,Ea,h⟩:=aj h;obtain⟨afw,Ri,h⟩:=aj h;try refine ah ?_
      refine PC.mk ((eX k x102 true _ Ri).wk (.aB (.same .nil))) ?_;obtain⟨Kk,h⟩:=aD h;try refine ah ?_
      refine aN (aP Kk) ?_;try refine ah ?_
      refine hK _ _ ?_;exact ih y7 l_1 uw vI vJ rM vK nU (DN++(44::32::(x98++(nU++afw)))) (IntKind.wrap .i64 (DR+1)) _ _ _ aO av bE _ h _ q0
     ·try refine ah ?_
      refine bO ?_;obtain⟨Eo,h⟩:=aD h;obtain⟨XL,e109,h⟩:=aj h;obtain⟨IL,h⟩:=aD h;try refine ah ?_
      refine bf (aP IL) ?_;obtain⟨Kl,h⟩:=aD h;try refine ah ?_
      refine bf (aP Kl) ?_;obtain⟨x112,Mx,h⟩:=aj h;obtain⟨afx,afo,h⟩:=aj h;try refine ah ?_
      refine PC.mk ((eX k x112 true _ afo).wk (.aB (.same .nil))) ?_;obtain⟨e116,h⟩:=aD h;try refine ah ?_
      refine aN (aP e116) ?_;try refine ah ?_
      refine hK _ _ ?_;exact ih y7 l_1 uw vI vJ rM vK nU (DN++(XL++(nU++afx))) (IntKind.wrap .i64 (DR+1)) _ _ _ aO av bE _ h _ q0
    ·obtain rfl:=ak h;try refine ah ?_
     exact q0 _ _ rfl aO av
theorem ac3 (k:Nat): ∀(aT:Nd) (l_1:List (List Nd)) (r:Str) (h:zQ k aT l_1=some r),aG Tryz.prog 109 [(.agg (Nd.cells aT)),(.aB (l_1.map (oJ Nd.cells)) .unk)] (.str r):=by
  match k with
  |0=>intro aT l_1 r h;rw [zQ]at h;cases h
  |k+1=>
    intro aT l_1 r h;refine aG.aR (bB.mem (.cons (.agg _ (Nd.pu _)) (.cons (bC (FI Nd.pu) _) .nil))) (aI asc (by simp) (aF ?_)) (.str _);rw [zQ]at h;unfold akq;obtain⟨e1,h⟩:=aD h;obtain⟨x2,e3,h⟩:=aj h;obtain⟨p5,e4,h⟩:=aj h;try refine ah ?_
    refine aA ((eX k x2 true _ e4).wk (.aB (.same .nil))) ?_;rcases au h with⟨e6,h⟩|⟨e6,h⟩
    ·obtain⟨p8,e7,h⟩:=aj h;try refine ah ?_
     refine aA ((xR k aT.names l_1 _ e7).wk (.aB (.aB .nil))) ?_;obtain⟨e9,h⟩:=aD h;try refine ah ?_
     refine aN (aP e9) ?_;obtain⟨e10,h⟩:=aD h;try refine ah ?_
     refine aN (aP e10) ?_;obtain⟨e11,h⟩:=aD h;try refine ah ?_
     refine aN (aP e11) ?_;obtain⟨e12,h⟩:=aD h;try refine ah ?_
     refine aN (aP e12) ?_;obtain rfl:=ak h;try refine ah ?_
     exact(.pure _ (.str _))
    ·rcases au h with⟨e13,h⟩|⟨e13,h⟩
     ·try refine ah ?_
      obtain⟨o19,h20,h⟩:=aj h;refine XH k p5 _ _ _ (Fr.refl _ _) av _ h20 _ ?_
      ·rintro qU σ' eo ait O6;rw [eo]at h;have X5:σ' 1=(.aB (l_1.map (oJ Nd.cells)) .unk):=(ait 1 (by decide)).trans av;have X9:σ' 2=(.ref (AH.empty.next) 0):=(ait 2 (by decide)).trans av;obtain⟨e28,h⟩:=aD h;try refine ah ?_
       refine aN (aP e28) ?_;obtain⟨e29,h⟩:=aD h;try refine ah ?_
       refine aN (aP e29) ?_;obtain⟨p31,e30,h⟩:=aj h;try refine ah ?_
       refine aA ((xR k aT.names l_1 _ e30).wk (.aB (.aB .nil))) ?_;obtain⟨e32,h⟩:=aD h;try refine ah ?_
       refine aN (aP e32) ?_;obtain⟨e33,h⟩:=aD h;try refine ah ?_
       refine aN (aP e33) ?_;obtain rfl:=ak h;try refine ah ?_
       exact(.pure _ (.str _))
     ·rcases au h with⟨e34,h⟩|⟨e34,h⟩
      ·obtain⟨p36,e35,h⟩:=aj h;try refine ah ?_
       refine aA ((xR k aT.names l_1 _ e35).wk (.aB (.aB .nil))) ?_;obtain⟨e37,h⟩:=aD h;try refine ah ?_
       refine aN (aP e37) ?_;obtain⟨e38,h⟩:=aD h;try refine ah ?_
       refine aN (aP e38) ?_;obtain⟨e39,h⟩:=aD h;try refine ah ?_
       refine aN (aP e39) ?_;obtain rfl:=ak h;try refine ah ?_
       exact(.pure _ (.str _))
      ·rcases au h with⟨e40,h⟩|⟨e40,h⟩
       ·obtain⟨p42,e41,h⟩:=aj h;try refine ah ?_
        refine aA ((xR k aT.names l_1 _ e41).wk (.aB (.aB .nil))) ?_;obtain⟨e43,h⟩:=aD h;try refine ah ?_
        refine aN (aP e43) ?_;obtain⟨e44,h⟩:=aD h;try refine ah ?_
        refine aN (aP e44) ?_;obtain⟨e45,h⟩:=aD h;try refine ah ?_
        refine aN (aP e45) ?_;obtain rfl:=ak h;try refine ah ?_
        exact(.pure _ (.str _))
       ·rcases au h with⟨e46,h⟩|⟨e46,h⟩
        ·obtain⟨p48,e47,h⟩:=aj h;try refine ah ?_
         refine aA (Hw e47) ?_;obtain⟨e49,h⟩:=aD h;try refine ah ?_
         refine aN (aP e49) ?_;obtain⟨e50,h⟩:=aD h;try refine ah ?_
         refine aN (aP e50) ?_;obtain⟨e51,h⟩:=aD h;try refine ah ?_
         refine aN (aP e51) ?_;obtain rfl:=ak h;try refine ah ?_
         exact(.pure _ (.str _))
        ·rcases au h with⟨e52,h⟩|⟨e52,h⟩
         ·obtain⟨p54,e53,h⟩:=aj h;try refine ah ?_
          refine aA (Hw e53) ?_;obtain⟨e55,h⟩:=aD h;try refine ah ?_
          refine aN (aP e55) ?_;obtain⟨e56,h⟩:=aD h;try refine ah ?_
          refine aN (aP e56) ?_;obtain⟨e57,h⟩:=aD h;try refine ah ?_
          refine aN (aP e57) ?_;obtain rfl:=ak h;try refine ah ?_
          exact(.pure _ (.str _))
         ·rcases au h with⟨e58,h⟩|⟨e58,h⟩
          ·obtain⟨p60,e59,h⟩:=aj h;try refine ah ?_
           refine aA ((xR k aT.names l_1 _ e59).wk (.aB (.aB .nil))) ?_;obtain⟨e61,h⟩:=aD h;try refine ah ?_
           refine aN (aP e61) ?_;obtain⟨e62,h⟩:=aD h;try refine ah ?_
           refine aN (aP e62) ?_;obtain⟨e63,h⟩:=aD h;try refine ah ?_
           refine aN (aP e63) ?_;obtain rfl:=ak h;try refine ah ?_
           exact(.pure _ (.str _))
          ·rcases au h with⟨e64,h⟩|⟨e64,h⟩
           ·obtain⟨p66,e65,h⟩:=aj h;try refine ah ?_
            refine aA ((xR k aT.names l_1 _ e65).wk (.aB (.aB .nil))) ?_;obtain⟨e67,h⟩:=aD h;try refine ah ?_
            refine aN (aP e67) ?_;obtain⟨e68,h⟩:=aD h;try refine ah ?_
            refine aN (aP e68) ?_;obtain⟨e69,h⟩:=aD h;try refine ah ?_
            refine aN (aP e69) ?_;obtain⟨La,h⟩:=aD h;try refine ah ?_
            refine aN (aP La) ?_;obtain rfl:=ak h;try refine ah ?_
            exact(.pure _ (.str _))
           ·rcases au h with⟨Pk,h⟩|⟨Pk,h⟩
            ·obtain⟨p73,MU,h⟩:=aj h;try refine ah ?_
             refine aA (Hw MU) ?_;obtain⟨Pg,h⟩:=aD h;try refine ah ?_
             refine aN (aP Pg) ?_;obtain⟨Hr,h⟩:=aD h;try refine ah ?_
             refine aN (aP Hr) ?_;obtain⟨Hq,h⟩:=aD h;try refine ah ?_
             refine aN (aP Hq) ?_;obtain rfl:=ak h;try refine ah ?_
             exact(.pure _ (.str _))
            ·rcases au h with⟨Ht,h⟩|⟨Ht,h⟩
             ·try refine ah ?_
              refine bO ?_;obtain⟨x78,e79,h⟩:=aj h;obtain⟨xZ,e80,h⟩:=aj h;try refine ah ?_
              refine PC.mk ((eX k x78 true _ e80).wk (.aB (.same .nil))) ?_;obtain⟨Lb,Ph,h⟩:=aj h;try refine ah ?_
              refine aA ((anh k aT xZ p5 _ Ph).wk (.same (.same (.same .nil)))) ?_;obtain rfl:=ak h;try refine ah ?_
              exact(.pure _ (.str _))
             ·try refine ah ?_
              obtain⟨o85,h86,h⟩:=aj h;refine XI (AH.empty.next) aT.kind aT.n aT.text aT.names aT.args _ _ _ (Fr.refl _ _) av bE _ h86 _ ?_
              ·rintro Aw σ' eo arz s91;rw [eo]at h;have s92:σ' 1=(.aB (l_1.map (oJ Nd.cells)) .unk):=(arz 1 (by decide)).trans av;have s93:σ' 2=(.ref (AH.empty.next) 0):=(arz 2 (by decide)).trans av;try refine ah ?_
               obtain⟨aAE,awW,h⟩:=aj h;refine JV k (AH.empty.next) l_1 aT.kind aT.n aT.text aT.names aT.args Aw ([91]:Str) 0 _ _ _ (Fr.refl _ _) av bE _ awW _ ?_
               ·rintro ajM σ' eo azj awM;rw [eo]at h;obtain⟨Xe,h⟩:=aD h;try refine ah ?_
                refine aN (aP Xe) ?_;obtain rfl:=ak h;try refine ah ?_
                exact(.pure _ (.str _))
end
theorem ajN {k:Nat} {aH:List Nd} {kL:Bool} {c0:Ck} {r:Str} (h:eu k aH kL=some r):aG Tryz.prog 60 [(.aB (aH.map Nd.cells) c0),(.bool kL)] (.str r):=(eX k aH kL r h).wk (.aB (.same .nil))
def GA (k:Nat) (aH:List Nd):Option Str:=
  Option.bind (eu k aH true) fun p2=>some p2
theorem afy {k:Nat} {aH:List Nd} {c0:Ck} {r:Str} (h:GA k aH=some r):aG Tryz.prog 19 [(.aB (aH.map Nd.cells) c0)] (.str r):=by
  refine aG.lw (.aB .nil) (aG.aR (bB.mem (.cons (bC Nd.pu _) .nil)) (aI aik (by simp) (aF ?_)) (.str _));unfold GA at h;unfold aom;obtain⟨p2,e1,h⟩:=aj h;try refine ah ?_
  refine aA (ajN e1) ?_;obtain rfl:=ak h;try refine ah ?_
  exact(.pure _ (.str _))
end Go.VL
end
section
namespace Go.VL
open Tm
def shN (d:Int) (n:Nd):Nd:={n with args:=n.args.map (·-d)}
theorem ab0 (d:Nat): ∀(cs:List Tm) (b:Nat),(roots (b+d) cs).map (·-(d:Int))=roots b cs
  |[],b=>rfl
  |c::cs,b=>by
    have h:=ab0 d cs (b+c.size);have hp:=size_pos c;rw [roots,roots,List.map_cons,show b+d+c.size=b+c.size+d by omega,h];congr 1
    omega
theorem atj (d:Nat) (x:Nd) (b:Nat) (cs:List Tm):shN d (nd x (b+d) cs)=nd x b cs:=by
  unfold shN nd;simp only [ab0]
mutual
theorem XM (d:Nat): ∀(t:Tm) (b:Nat),(flat (b+d) t).map (shN d)=flat b t
  | .mk x cs,b=>by rw [zK,zK,List.map_append,ab1 d cs b,List.map_cons,List.map_nil,atj]
theorem ab1 (d:Nat): ∀(cs:List Tm) (b:Nat),(eF (b+d) cs).map (shN d)=eF b cs
  |[],b=>by rw [eF,eF];rfl
  |c::cs,b=>by
    rw [rE,rE,List.map_append,XM d c b,show b+d+c.size=b+c.size+d by omega,ab1 d cs (b+c.size)]
end
section
variable {e:List Nd} (hlen:e.length<=1000000)
include hlen
theorem Uh: ∀(t:Tm) (b:Nat),Seg e b t->Ev (fun k=>mW k e ((b+t.size -1:Nat):Int)) (.inl (b:Int))
  | .mk x [],b,h=>by
    have hn:=h.node;have e1:b+(Tm.mk x []).size -1=b:=by simp [size,sizes]
    simp only [sizes,Nat.add_zero]at hn;rw [e1];refine Ev.succ ?_;simp only [mW,nn,if_true,Int.toNat_natCast,hn,Option.bind_some];exact Ev.cF (by simp [nd,roots]) Ev.some
  | .mk x (c::cs),b,h=>by
    have hn:=h.node;have hlt:=h.lt;have hp:=size_pos c;have hk:Seg e (b+sizes []) c:=h.kid (l:=[]);simp only [sizes,Nat.add_zero]at hk;have ih:=Uh c b hk;have e1:b+(Tm.mk x (c::cs)).size -1=b+sizes (c::cs):=by simp only [size];omega
    have hs:sizes (c::cs)=c.size+sizes cs:=by simp only [sizes]
    simp only [size]at hlt;have e2:(nd x b (c::cs)).args=((b+c.size -1:Nat):Int)::roots (b+c.size) cs:=by unfold nd;simp only [roots]
    rw [e1];refine Ev.succ ?_;simp only [mW,nn,if_true,Int.toNat_natCast,hn,Option.bind_some,e2,List.getElem?_cons_zero,nP];refine Ev.cT (by simp<;>omega) (Ev.cT ?_ ih);rw [wrap64 (by omega) (by omega)];exact decide_eq_true ⟨trivial,by omega⟩
theorem ab2 {t:Tm} {b:Nat} (h:Seg e b t):Ev (fun k=>uS k e ((b+t.size -1:Nat):Int)) (b:Int):=by
  unfold uS;refine Ev.cF (decide_eq_false (by omega)) (Ev.bind (Uh hlen t b h) ?_);simp only [dD];exact Ev.some
theorem ab3 {Iq:Int} (hf:0<=Iq/\Iq<=1000000) {i:Nat} {n:Nd} (hn:e[i]? =some n) (ha:n.args.length<=1000) (hr: ∀a∈n.args,-1000000<=a/\a<=1000000) (nm:List Str):
    Ev (fun k=>pY k e Iq (i:Int) n.kind n.n n.text nm [] 0) (n.kind,n.n,n.text,nm,n.args.map (·-Iq)):=by
  have key:Ev (fun k=>pY k e Iq (i:Int) n.kind n.n n.text nm ((n.args.take 0).map (·-Iq)) ((0:Nat):Int)) (n.kind,n.n,n.text,nm,n.args.map (·-Iq)):=by
    refine jD (len:=n.args.length) (p:=fun j=>Ev (fun k=>pY k e Iq (i:Int) n.kind n.n n.text nm ((n.args.take j).map (·-Iq)) (j:Int)) (n.kind,n.n,n.text,nm,n.args.map (·-Iq))) ?_ fun j hj ih=> ?_
    · refine Ev.succ ?_;simp only [pY,nn,if_true,Int.toNat_natCast,hn,Option.bind_some];exact Ev.cF (jl _) (Ev.some' (by rw [List.take_length]))
    · have h1:=hr _ (List.getElem_mem hj);refine Ev.succ ?_;simp only [pY,nn,if_true,Int.toNat_natCast,hn,Option.bind_some,kX hj,cond_true,aZ hj,dQ hj (show n.args.length<=1099511627776 by omega)];rw [wrap64 (x:=n.args[j] -Iq) (by omega) (by omega)];refine Ev.aQ (by simp;omega) ?_
      have e1:(n.args.take (j+1)).map (·-Iq)=(n.args.take j).map (·-Iq)++[n.args[j] -Iq]:=by rw [List.take_succ_eq_append_getElem hj,List.map_append];rfl
      rw [<-e1];exact ih
  exact key
theorem ac5 (hnd: ∀(i:Nat) n,e[i]? =some n->n.names.length<=1000/\n.args.length<=1000/\ ∀a∈n.args,-1000000<=a/\a<=1000000) {t:Tm} {b:Nat} (h:Seg e b t):Ev (fun k=>ND k e ((b+t.size -1:Nat):Int)) (flat 0 t):=by
  have hlt:=h.lt;have hp:=size_pos t;obtain⟨pre,post,he,hpre⟩:=h;have hget: ∀j,j<t.size->e[b+j]? =(flat b t)[j]? :=fun j hj=>by
    rw [he,List.getElem?_append_right (by omega),hpre,show b+j -b=j by omega,List.getElem?_append_left (by rw [iV];exact hj)]
  have hfl:=XM b t 0;rw [Nat.zero_add]at hfl;have key:Ev (fun k=>rH k e ((b+t.size -1:Nat):Int) (b:Int) ((flat 0 t).take 0) ((b+0:Nat):Int)) (flat 0 t):=by
    refine jD (len:=t.size) (p:=fun j=>Ev (fun k=>rH k e ((b+t.size -1:Nat):Int) (b:Int) ((flat 0 t).take j) ((b+j:Nat):Int)) (flat 0 t)) ?_ fun j hj ih=> ?_
    · refine Ev.succ ?_;simp only [rH];exact Ev.cF (decide_eq_false (by omega)) (Ev.some' (by rw [List.take_of_length_le (by rw [iV];exact Nat.le_refl _)]))
    · have hj0:j<(flat 0 t).length:=by rw [iV];exact hj
      have hj1:j<(flat b t).length:=by rw [iV];exact hj
      have hn:e[b+j]? =some (flat b t)[j]:=by rw [hget j hj,aZ hj1]
      have e0:(flat 0 t)[j]=shN b (flat b t)[j]:=by
        have:=congrArg (·[j]?) hfl
        simp only [List.getElem?_map,aZ hj1,aZ hj0,Option.map_some,Option.some.injEq]at this;exact this.symm
      obtain⟨g1,g2,g3⟩:=hnd _ _ hn;have e2:mY (flat b t)[j].names=some (flat b t)[j].names:=by
        unfold mY;rw [if_pos (by simp;omega)];rfl
      have hw:IntKind.wrap .i64 (((b+j:Nat):Int)+1)=((b+(j+1):Nat):Int):=by rw [wrap64 (by omega) (by omega)];omega
      refine Ev.succ ?_;simp only [rH,hw];refine Ev.cT (decide_eq_true (by omega)) (Ev.aQ (by omega) ?_);simp only [Int.toNat_natCast,hn,Option.bind_some,e2];refine Ev.bind (ab3 hlen ⟨by omega,by omega⟩ hn g2 g3 _) (Ev.aQ (by rw [List.length_take];omega) ?_);rw [List.take_succ_eq_append_getElem hj0,e0]at ih;exact ih
  unfold ND;exact Ev.bind (ab2 hlen ⟨pre,post,he,hpre⟩) (Ev.bind key Ev.some)
end
theorem YC (x:Nd) (cs:List Tm) (h:sizes cs<=1000000):wu (flat 0 (.mk x cs))=some (nd x 0 cs):=by
  have hn:=(Seg.whole (.mk x cs)).node;rw [Nat.zero_add]at hn;have hl:(flat 0 (.mk x cs)).length=sizes cs+1:=by rw [iV];simp [size]
  unfold wu;have hw:IntKind.wrap .i64 (((flat 0 (.mk x cs)).length:Int) -1)=(sizes cs:Int):=by rw [hl,wrap64 (by omega) (by omega)];omega
  simp only [hw,nn,if_true,Int.toNat_natCast,hn,Option.bind_some]
theorem ab4: ∀(cs:List Tm) (b:Nat) (a:Int),a∈roots b cs->0<=a/\a<=b+sizes cs
  |[],b,a,h=>by rw [roots]at h;cases h
  |c::cs,b,a,h=>by
    rw [roots,List.mem_cons]at h;simp only [sizes];rcases h with rfl|h
    · omega
    · have:=ab4 cs _ a h;omega
mutual
theorem YD: ∀(t:Tm) (b:Nat) (n:Nd),n∈flat b t-> ∀a∈n.args,0<=a/\a<=b+t.size
  | .mk x cs,b,n,h,a,ha=>by
    rw [zK,List.mem_append,List.mem_singleton]at h;simp only [size];rcases h with h|rfl
    · have:=Ui cs b n h a ha;omega
    · have:=ab4 cs b a ha;omega
theorem Ui: ∀(cs:List Tm) (b:Nat) (n:Nd),n∈eF b cs-> ∀a∈n.args,0<=a/\a<=b+sizes cs
  |[],b,n,h,a,ha=>by rw [eF]at h;cases h
  |c::cs,b,n,h,a,ha=>by
    rw [rE,List.mem_append]at h;simp only [sizes];rcases h with h|h
    · have:=YD c b n h a ha;omega
    · have:=Ui cs _ n h a ha;omega
end
theorem ani {e:List Nd} {b:Nat} {t:Tm} (h:Seg e b t) (hnd: ∀(i:Nat) n,e[i]? =some n->n.names.length<=1000/\n.args.length<=1000) (hb:t.size<=1000):
    ∀(i:Nat) n,(flat 0 t)[i]? =some n->n.names.length<=1000/\n.args.length<=1000/\ ∀a∈n.args,-1000000<=a/\a<=1000000:=by
  intro i n hn;have hr:=YD t 0 n (List.mem_of_getElem? hn);have hfl:=XM b t 0;rw [Nat.zero_add]at hfl;rw [<-hfl,List.getElem?_map,Option.map_eq_some_iff]at hn;obtain⟨m,h1,rfl⟩:=hn;obtain⟨pre,post,he,hpre⟩:=h;have hi:=(List.getElem?_eq_some_iff.1 h1).1;obtain⟨g1,g2⟩:=hnd (b+i) m (by rw [he,List.getElem?_append_right (by omega),hpre,show b+i -b=i by omega,List.getElem?_append_left hi];exact h1);exact⟨g1,by simpa [shN]using g2,fun a ha=>by have:=hr a ha;omega⟩
theorem XO {x:Nd} {cs l m:List Tm} {c:Tm} (hcs:cs=l++c::m) (hs:sizes cs<=1000) (hnd: ∀(i:Nat) n,(flat 0 (.mk x cs))[i]? =some n->n.names.length<=1000/\n.args.length<=1000/\ ∀a∈n.args,-1000000<=a/\a<=1000000):
    Ev (fun k=>DC k (flat 0 (.mk x cs)) (l.length:Int)) (flat 0 c):=by
  subst hcs;have hk:Seg (flat 0 (.mk x (l++c::m))) (0+sizes l) c:=(Seg.whole _).kid;rw [Nat.zero_add]at hk;have ha:(nd x 0 (l++c::m)).args[l.length]? =some ((sizes l+c.size -1:Nat):Int):=by
    unfold nd;have:=Nk (b:=0) (l:=l) (m:=m) (c:=c);rw [Nat.zero_add]at this;exact this
  unfold DC;simp only [YC x _ (show sizes (l++c::m)<=1000000 by omega),Option.bind_some,nn,if_true,Int.toNat_natCast,ha];exact Ev.bind (ac5 (by rw [iV];simp only [size];omega) hnd hk) Ev.some
end Go.VL
end
section
namespace Go.VL
open Tm
theorem PX (n:Int):F3 n=some (mG n):=by
  unfold F3 CW mG
  by_cases a:n=8;·subst a;rfl
  by_cases b:n=9;·subst b;rfl
  by_cases c:n=10;·subst c;rfl
  by_cases d:n=11;·subst d;rfl
  by_cases f:n=12;·subst f;rfl
  by_cases g:n=21;·subst g;rfl
  by_cases h:n=22;·subst h;rfl
  by_cases i:n=23;·subst i;rfl
  by_cases j:n=24;·subst j;rfl
  simp [beq_eq_false_iff_ne.2 a,beq_eq_false_iff_ne.2 b,beq_eq_false_iff_ne.2 c,beq_eq_false_iff_ne.2 d,beq_eq_false_iff_ne.2 f,beq_eq_false_iff_ne.2 g,beq_eq_false_iff_ne.2 h,beq_eq_false_iff_ne.2 i,beq_eq_false_iff_ne.2 j,a,b,c,d,f,g,h,i,j]
theorem ahs:(List.range 10).all (fun d=>decide ((([48,49,50,51,52,53,54,55,56,57]:Str).take (d+1)).drop d=[UInt8.ofNat (48+d)]))=true:=by kernel_rfl
theorem aht {p:UInt8->Bool}: ∀{l:Str},l.all p=true->l.takeWhile p=l
  |[],h=>rfl
  |c::l,h=>by
    simp only [List.all_cons,Bool.and_eq_true]at h;rw [List.takeWhile_cons,if_pos h.1,aht h.2]
theorem ab5: ∀(m u:Nat) (s:Str),u<m->u<=10000->s.length+u<=1000000->Ev (fun k=>wo k (u:Int) s) (Lib.decDigits u++s):=by
  intro m
  induction m with
  |zero=>intro u s h1;omega
  |succ m ih=>
    intro u s h1 h2 h3;have e0:((u:Int)).tmod 10=((u% 10:Nat):Int):=by rw [Int.tmod_eq_emod_of_nonneg (by omega)];omega
    have e1:((u:Int)).tdiv 10=((u/10:Nat):Int):=by rw [Int.tdiv_eq_ediv_of_nonneg (by omega)];omega
    have e2:SG ((u% 10:Nat):Int)=some ((u% 10:Nat):Int):=by
      unfold SG;rw [decide_eq_false (by omega)];rfl
    have e3:IntKind.wrap .i64 (((u% 10:Nat):Int)+1)=((u% 10+1:Nat):Int):=by rw [wrap64 (by omega) (by omega)];omega
    have e4:IntKind.wrap .i64 ((u/10:Nat):Int)=((u/10:Nat):Int):=wrap64 (by omega) (by omega);have hd:=of_decide_eq_true (List.all_eq_true.1 ahs (u% 10) (List.mem_range.2 (by omega)));refine Ev.succ ?_;simp only [wo,e0,e1,e2,e3,e4,Option.bind_some,Int.toNat_natCast,hd];refine Ev.aQ (by omega) (Ev.aQ (by simp;omega) ?_);rw [Lib.decDigits];by_cases hu:u<10
    · rw [dif_pos hu];refine Ev.cT (by rw [beq_iff_eq];omega) (Ev.some' ?_);rw [show u% 10=u by omega]
    · rw [dif_neg hu];refine Ev.cF (by rw [beq_eq_false_iff_ne];omega) ?_;refine(ih (u/10) _ (by omega) (by omega) (by simp;omega)).to ?_;simp
theorem ahu {n:Int} (h:0<=n/\n<=10000):Ev (fun k=>MJ k n) (Lib.itoa n):=by
  obtain⟨u,rfl⟩: ∃u:Nat,n=(u:Int):=⟨n.toNat,by omega⟩;unfold MJ Lib.itoa;refine Ev.bind (ab5 (u+1) u [] (by omega) (by omega) (by simp;omega)) (Ev.cF (decide_eq_false (by omega)) (Ev.some' ?_));rw [if_neg (by omega)];simp
theorem join_step (l:List Str) (sep:Str) {i:Nat} (hi:i<l.length):Lib.join (l.take (i+1)) sep=if i=0 then l[i]else Lib.join (l.take i) sep++(sep++l[i]):=by
  rw [List.take_succ_eq_append_getElem hi];split
  · rename_i h;subst h;simp [Lib.join_one]
  · exact Yp _ _ _ (by intro e;have:=congrArg List.length e;rw [List.length_take,List.length_nil]at this;omega)
theorem DT {l:List Str} {sep:Str} (h:l.length<=40) (h2: ∀s∈l,s.length<=2000000100) (h3:sep.length<=1000) (i:Nat):(Lib.join (l.take i) sep).length<=100000000000:=
  om (by rw [List.length_take];omega) (fun s hs=>h2 s (List.mem_of_mem_take hs)) h3
theorem PY {l:List Str} (dX:l.length<=34) (hnm: ∀s∈l,s.length<=80):Ev (fun k=>zD k l) (Lib.join l [44,32]):=by
  have hj:=DT (l:=l) (sep:=[44,32]) (by omega) (fun s hs=>by have:=hnm s hs;omega) (by simp);have key:Ev (fun k=>mZ k l (Lib.join (l.take 0) [44,32]) ((0:Nat):Int)) (Lib.join l [44,32]):=by
    refine jD (len:=l.length) (p:=fun i=>Ev (fun k=>mZ k l (Lib.join (l.take i) [44,32]) (i:Int)) (Lib.join l [44,32])) ?_ fun i hi ih=> ?_
    · refine Ev.succ ?_;simp only [mZ];exact Ev.cF (jl _) (Ev.some' (by rw [List.take_length]))
    · have h1:=hnm _ (List.getElem_mem hi);have h2:=hj i;rw [join_step l _ hi]at ih;refine Ev.succ ?_;simp only [mZ,Int.toNat_natCast,aZ hi,Option.bind_some,nn,if_true,kX hi,cond_true,dQ hi (show l.length<=1099511627776 by omega)];by_cases h0:i=0
      · subst h0;rw [if_pos rfl]at ih;refine Ev.cF (by rfl) (Ev.aQ (by omega) ?_);simpa [Lib.join_nil]using ih
      · rw [if_neg h0]at ih;exact Ev.cT (decide_eq_true (by omega)) (Ev.aQ (by simp;omega) (Ev.aQ (by simp;omega) ih))
  unfold zD;refine Ev.bind (x:=Lib.join l [44,32]) ?_ Ev.some;simpa [Lib.join_nil]using key
theorem ac6 {s:Str} (hs:s.length<=100000000000):Ev (fun k=>Gz k s) (Ib s):=by
  have hp: ∀(i:Nat),yM s (i:Int) (decide ((i:Int)<(s.length:Int)))=some (match s[i]? with|some c=>gX c|none=>false):=by
    intro i;unfold yM;by_cases hi:i<s.length
    · rw [decide_eq_true (by omega),cond_true,if_pos (by omega)];simp only [Int.toNat_natCast,aZ hi,Option.bind_some,En,ML];unfold gX;cases isLet s[i]
      · cases CX s[i]
        · simp only [cond_false,Bool.false_or,Option.some.injEq];rw [Bool.eq_iff_iff];simp;omega
        · rfl
      · rfl
    · rw [decide_eq_false (by omega),cond_false,List.getElem?_eq_none (by omega)]
  have hloop: ∀(m i:Nat),s.length<=i+m->i<=s.length->(∀j c,j<i->s[j]? =some c->gX c=true)->Ev (fun k=>qb k s (i:Int)) (((s.takeWhile gX).length:Nat):Int):=by
    have htw: ∀i,i<=s.length->(∀j c,j<i->s[j]? =some c->gX c=true)->(∀c,s[i]? =some c->gX c=false)->(s.takeWhile gX).length=i:=by
      intro i hi h1 h2;have h3:(s.take i).all gX=true:=by
        rw [List.all_eq_true];intro c hc;obtain⟨j,hj⟩:=List.mem_iff_getElem?.1 hc;rw [List.getElem?_take]at hj;split at hj
        · rename_i hlt;exact h1 j c hlt hj
        · cases hj
      by_cases h4:i<s.length
      · have e1:=Rx (r:=s.drop (i+1)) h3 (h2 _ (aZ h4));rw [List.getElem_cons_drop,List.take_append_drop]at e1;rw [e1.1,List.length_take];omega
      · rw [List.take_of_length_le (by omega)]at h3;rw [aht h3];omega
    intro m
    induction m with
    |zero=>
      intro i h1 h2 h3;have e1:=htw i h2 h3 (fun c hc=>by rw [List.getElem?_eq_none (by omega)]at hc;cases hc);rw [e1];refine Ev.succ ?_;simp only [qb,hp,Option.bind_some];exact Ev.cF (by rw [List.getElem?_eq_none (by omega)]) Ev.some
    |succ m ih=>
      intro i h1 h2 h3;refine Ev.succ ?_;simp only [qb,hp,Option.bind_some];by_cases hi:i<s.length
      · rw [aZ hi];by_cases hc:gX s[i]=true
        · rw [wrap64 (x:=(i:Int)+1) (by omega) (by omega)];refine Ev.cT hc ((ih (i+1) (by omega) (by omega) fun j c hj hjc=> ?_).cg fun k=>rfl);by_cases hji:j=i
          · subst hji;rw [aZ hi]at hjc;cases hjc;exact hc
          · exact h3 j c (by omega) hjc
        · have hc:gX s[i]=false:=by simpa using hc
          rw [htw i h2 h3 (fun c h=>by rw [aZ hi]at h;cases h;exact hc)];exact Ev.cF hc Ev.some
      · rw [htw i h2 h3 (fun c hc=>by rw [List.getElem?_eq_none (by omega)]at hc;cases hc)];exact Ev.cF (by rw [List.getElem?_eq_none (by omega)]) Ev.some
  have h0:=hloop s.length 0 (by omega) (by omega) (fun j c hj=>by omega);have hle:(s.takeWhile gX).length<=s.length:=(List.takeWhile_sublist _).length_le;have ajO:s=s.takeWhile gX++s.dropWhile gX:=(List.takeWhile_append_dropWhile).symm;unfold Gz Ib;generalize s.takeWhile gX=a at h0 hle ajO⊢;generalize s.dropWhile gX=r at ajO⊢;subst ajO;have hta:(a++r).take a.length=a:=by simp
  have hw:IntKind.wrap .i64 ((a.length:Int)+5)=((a.length+5:Nat):Int):=by rw [wrap64 (by omega) (by omega)];omega
  refine Ev.bind h0 (Ev.aQ ⟨by omega,by simp⟩ ?_);simp only [Int.toNat_natCast,hta,hw];refine Ev.bind (rT a) ?_;have hX:(cond (decide (((a.length+5:Nat):Int)<=((a++r).length:Int))) (if 0<=(a.length:Int)/\(a.length:Int)<=((a.length+5:Nat):Int)/\a.length+5<=(a++r).length then some ((((a++r).take (a.length+5)).drop a.length)==([32,92,105,110,32]:Str))else none) (some false))=some (decide ([32,92,105,110,32]<+:r)):=by
    by_cases h5:5<=r.length
    · rw [decide_eq_true (by simp;omega),cond_true,if_pos ⟨by omega,by omega,by simp;omega⟩];rw [l8,Option.some.injEq,decide_eq_decide,List.prefix_iff_eq_take];have:((a++r).take (a.length+5)).drop a.length=r.take 5:=by
        rw [List.take_append,List.drop_append];simp
      rw [this];exact eq_comm
    · rw [decide_eq_false (by simp;omega),cond_false,Option.some.injEq,eq_comm,decide_eq_false_iff_not];intro hp;have:=hp.length_le;simp at this;omega
  simp only [hX];rw [XA a (some (decide ([32,92,105,110,32]<+:r)))];cases Gm a
  · exact Ev.some
  · exact Ev.some
end Go.VL
end
section
namespace Go.VL
open Tm
structure RI (x:List Nd) (c:bZ):Prop where
  root: ∃n,wu x=some n/\n.kind=c.kind/\n.text=c.text
  ev: ∀f,Ev (fun k=>eu k x (!f)) (c.out f)
  sm: ∀f,(c.out f).length<=1000000000
inductive RL:List (List Nd)->List bZ->Prop
  |nil:RL [] []
  |cons {x c xs ks} (h:RI x c) (t:RL xs ks):RL (x::xs) (c::ks)
theorem RL.len {xs:List (List Nd)} {ks:List bZ} (h:RL xs ks):xs.length=ks.length:=by
  induction h with
  |nil=>rfl
  |cons _ _ ih=>simp [ih]
theorem RL.get {xs:List (List Nd)} {ks:List bZ} (h:RL xs ks): ∀{i:Nat} {x c},xs[i]? =some x->ks[i]? =some c->RI x c:=by
  induction h with
  |nil=>intro i x c h;simp at h
  |cons h _ ih=>
    intro i x c h1 h2;cases i with
    |zero=>simp at h1 h2;subst h1;subst h2;exact h
    |succ i=>simp at h1 h2;exact ih h1 h2
theorem RL.sm {xs:List (List Nd)} {ks:List bZ} (h:RL xs ks) {c:bZ} (hc:c∈ks) (f:Bool):(c.out f).length<=1000000000:=by
  obtain⟨i,hi⟩:=List.mem_iff_getElem?.1 hc;have:=(List.getElem?_eq_some_iff.1 hi).1;exact(h.get (aZ (by rw [h.len];exact this)) hi).sm f
theorem RI.vL {x:List Nd} {c:bZ} (h:RI x c):Ev (fun k=>eu k x true) (c.out false):=h.ev false
theorem Er {x:List Nd} {c:bZ} (h:RI x c):Ev (fun k=>uo k x) c.op:=by
  obtain⟨n,hn,hk,ht⟩:=h.root;unfold uo bZ.op uf;simp only [hn,Option.bind_some,hk,ht];by_cases h3:c.kind=3
  · simp only [h3,bne_self_eq_false,cond_false,if_true];refine Ev.bind (vF _) (Ev.some' ?_);generalize bY dF c.text=q;rfl
  · refine Ev.cT (by rw [bne_iff_ne];exact h3) (Ev.some' ?_);rw [if_neg h3];rfl
theorem jK {x:List Nd} {c:bZ} (h:RI x c) (m f:Bool):Ev (fun k=>jo k x m (!f)) (sM c m f):=by
  have:=h.sm false;refine Ev.succ ?_;simp only [jo];cases m
  · exact Ev.bind (h.ev f) Ev.some
  · exact Ev.bind h.vL (Ev.aQ (by simp<;>omega) (Ev.aQ (by simp<;>omega) Ev.some))
section
variable {xs:List (List Nd)} {ks:List bZ} (h:RL xs ks) (dX:ks.length<=34)
include h dX
theorem Ir:Ev (fun k=>BN k xs) (yj ks):=by
  have hl:=h.len;have hll:(ks.map fun c=>c.out false).length=ks.length:=by simp
  have hj:=DT (l:=ks.map fun c=>c.out false) (sep:=[44,32]) (by simp;omega) (fun s hs=>by obtain⟨c,hc,rfl⟩:=List.mem_map.1 hs;have:=h.sm hc false;omega) (by simp);have key:Ev (fun k=>qd k xs (Lib.join ((ks.map fun c=>c.out false).take 0) [44,32]) ((0:Nat):Int)) (yj ks):=by
    refine jD (len:=xs.length) (p:=fun i=>Ev (fun k=>qd k xs (Lib.join ((ks.map fun c=>c.out false).take i) [44,32]) (i:Int)) (yj ks)) ?_ fun i hi ih=> ?_
    · refine Ev.succ ?_;simp only [qd];exact Ev.cF (jl _) (Ev.some' (by rw [hl,<-hll,List.take_length];rfl))
    · have hi':i<ks.length:=by omega
      have hc:=h.get (aZ hi) (aZ hi');have s1:=hc.sm false;have s2:=hj i;rw [join_step _ _ (show i<(ks.map fun c=>c.out false).length by omega),List.getElem_map]at ih;refine Ev.succ ?_;simp only [qd,Int.toNat_natCast,aZ hi,Option.bind_some,nn,if_true,kX hi,cond_true,dQ hi (show xs.length<=1099511627776 by omega)];by_cases h0:i=0
      · subst h0;rw [if_pos rfl]at ih;refine Ev.cF (by rfl) (Ev.bind hc.vL (Ev.aQ (by omega) ?_));simpa [Lib.join_nil]using ih
      · rw [if_neg h0]at ih;exact Ev.cT (decide_eq_true (by omega)) (Ev.aQ (by simp<;>omega) (Ev.bind hc.vL (Ev.aQ (by simp<;>omega) ih)))
  refine Ev.succ ?_;simp only [BN];refine Ev.bind (x:=yj ks) ?_ Ev.some;simpa [Lib.join_nil]using key
theorem ajP {sign:Str} {names:List Str} (hs:sign.length<=10) (hnm: ∀s∈names,s.length<=80): ∀s∈List.zipWith (fun s c=>s++(sign++bZ.out c false)) names ks,s.length<=2000000100:=by
  intro s hm;obtain⟨i,hi⟩:=List.mem_iff_getElem?.1 hm;rw [List.getElem?_zipWith]at hi;cases a:names[i]? with
  |none=>rw [a]at hi;simp at hi
  |some x=>
    rw [a]at hi;cases b:ks[i]? with
    |none=>rw [b]at hi;simp at hi
    |some c=>
      rw [b]at hi;simp only [Option.some.injEq]at hi;subst hi;have h1:=hnm x (List.mem_of_getElem? a);have h2:=h.sm (List.mem_of_getElem? b) false;simp;omega
theorem ac7 {names:List Str} (hle:names.length<=ks.length) (hnm: ∀s∈names,s.length<=80):Ev (fun k=>qD k names xs) (qz [32,92,105,110,32] names ks):=by
  have hl:=h.len;have hzl:(List.zipWith (fun s c=>s++([32,92,105,110,32]++bZ.out c false)) names ks).length=names.length:=by rw [List.length_zipWith];omega
  have hj:=DT (l:=List.zipWith (fun s c=>s++([32,92,105,110,32]++bZ.out c false)) names ks) (sep:=[44,32]) (by omega) (ajP h dX (by simp) hnm) (by simp);have key:Ev (fun k=>lQ k names xs (Lib.join ((List.zipWith (fun s c=>s++([32,92,105,110,32]++bZ.out c false)) names ks).take 0) [44,32]) ((0:Nat):Int)) (qz [32,92,105,110,32] names ks):=by
    refine jD (len:=names.length) (p:=fun i=>Ev (fun k=>lQ k names xs (Lib.join ((List.zipWith (fun s c=>s++([32,92,105,110,32]++bZ.out c false)) names ks).take i) [44,32]) (i:Int)) (qz [32,92,105,110,32] names ks)) ?_ fun i hi ih=> ?_
    · refine Ev.succ ?_;simp only [lQ];exact Ev.cF (jl _) (Ev.some' (by rw [<-hzl,List.take_length];rfl))
    · have hi':i<ks.length:=by omega
      have hi2:i<xs.length:=by omega
      have hc:=h.get (aZ hi2) (aZ hi');have s1:=hc.sm false;have s2:=hj i;have s3:=hnm _ (List.getElem_mem hi);rw [join_step _ _ (show i<_ by rw [hzl];exact hi),List.getElem_zipWith]at ih;refine Ev.succ ?_;simp only [lQ,Int.toNat_natCast,aZ hi,aZ hi2,Option.bind_some,nn,if_true,kX hi,cond_true,dQ hi (show names.length<=1099511627776 by omega)];by_cases h0:i=0
      · subst h0;rw [if_pos rfl]at ih;refine Ev.cF (by rfl) (Ev.aQ (by simp [Lib.join_nil];omega) (Ev.aQ (by simp [Lib.join_nil];omega) (Ev.bind hc.vL (Ev.aQ (by simp [Lib.join_nil];omega) ?_))));simpa [Lib.join_nil]using ih
      · rw [if_neg h0]at ih;generalize Lib.join (List.take i _) [44,32]=J at s2 ih⊢;refine Ev.cT (decide_eq_true (by omega)) (Ev.aQ (by simp<;>omega) (Ev.aQ (by simp<;>omega) (Ev.aQ (by simp<;>omega) (Ev.bind hc.vL (Ev.aQ (by simp<;>omega) ?_)))));simpa using ih
  refine Ev.succ ?_;simp only [qD];refine Ev.bind (x:=qz [32,92,105,110,32] names ks) ?_ Ev.some;simpa [Lib.join_nil]using key
theorem Iu {n:Nd} {sign:Str} (hs:sign.length<=10) (hle:n.names.length<=ks.length) (hnm: ∀s∈n.names,s.length<=80):Ev (fun k=>jJ k xs n.kind n.n n.text n.names n.args sign [91] 0) (91::qz sign n.names ks):=by
  have hl:=h.len;have hzl:(List.zipWith (fun s c=>s++(sign++bZ.out c false)) n.names ks).length=n.names.length:=by rw [List.length_zipWith];omega
  have hj:=DT (l:=List.zipWith (fun s c=>s++(sign++bZ.out c false)) n.names ks) (sep:=[44,32]) (by omega) (ajP h dX hs hnm) (by simp);have key:Ev (fun k=>jJ k xs n.kind n.n n.text n.names n.args sign (91::Lib.join ((List.zipWith (fun s c=>s++(sign++bZ.out c false)) n.names ks).take 0) [44,32]) ((0:Nat):Int)) (91::qz sign n.names ks):=by
    refine jD (len:=n.names.length) (p:=fun i=>Ev (fun k=>jJ k xs n.kind n.n n.text n.names n.args sign (91::Lib.join ((List.zipWith (fun s c=>s++(sign++bZ.out c false)) n.names ks).take i) [44,32]) (i:Int)) (91::qz sign n.names ks)) ?_ fun i hi ih=> ?_
    · refine Ev.succ ?_;simp only [jJ];exact Ev.cF (jl _) (Ev.some' (by rw [<-hzl,List.take_length];rfl))
    · have hi':i<ks.length:=by omega
      have hi2:i<xs.length:=by omega
      have hc:=h.get (aZ hi2) (aZ hi');have s1:=hc.sm false;have s2:=hj i;have s3:=hnm _ (List.getElem_mem hi);rw [join_step _ _ (show i<_ by rw [hzl];exact hi),List.getElem_zipWith]at ih;refine Ev.succ ?_;simp only [jJ,Int.toNat_natCast,aZ hi,aZ hi2,Option.bind_some,nn,if_true,kX hi,cond_true,dQ hi (show n.names.length<=1099511627776 by omega)];by_cases h0:i=0
      · subst h0;rw [if_pos rfl]at ih;refine Ev.cF (by rfl) (Ev.aQ (by simp [Lib.join_nil];omega) (Ev.aQ (by simp [Lib.join_nil];omega) (Ev.bind hc.vL (Ev.aQ (by simp [Lib.join_nil];omega) ?_))));simpa [Lib.join_nil]using ih
      · rw [if_neg h0]at ih;generalize Lib.join (List.take i _) [44,32]=J at s2 ih⊢;refine Ev.cT (decide_eq_true (by omega)) (Ev.aQ (by simp<;>omega) (Ev.aQ (by simp<;>omega) (Ev.aQ (by simp<;>omega) (Ev.bind hc.vL (Ev.aQ (by simp<;>omega) ?_)))));simpa using ih
  simpa [Lib.join_nil]using key
end
theorem Uj (o x:Operator) (i:Nat) (is:Bool):xg o.text o.fix o.low o.high o.left o.least o.most (i:Int) x.text x.fix x.low x.high x.left x.least x.most is=some (is&&decide (x.low<=o.high)&& !(decide (i=0)&&decide (x.text=o.text)&&o.left)):=by
  unfold xg;cases is
  · rfl
  cases decide (x.low<=o.high)
  · rfl
  by_cases h:i=0
  · subst h;by_cases h2:x.text=o.text
    · rw [h2];cases o.left<;>simp
    · have:(x.text==o.text)=false:=by rw [beq_eq_false_iff_ne];exact h2
      cases o.left<;>simp [this,h2]
  · have:((i:Int)==0)=false:=by rw [beq_eq_false_iff_ne];omega
    simp [this,h]
theorem Uk (o x:Operator) (is:Bool):sQ o.text o.fix o.low o.high o.left o.least o.most x.text x.fix x.low x.high x.left x.least x.most is=some (is&&((decide (x.fix=0)&&decide (x.low<o.low))||(!decide (x.fix=0)&&decide (x.low<=o.high))||(decide (x.fix=0)&&decide (x.text=[45,46])&&decide (o.text=[45,46])))):=by
  unfold sQ;have a1:(x.fix==0)=decide (x.fix=0):=rfl;have a2:(x.fix !=0)= !decide (x.fix=0):=rfl;have a3:(x.text==([45,46]:Str))=decide (x.text=[45,46]):=l8 _ _;have a4:(o.text==([45,46]:Str))=decide (o.text=[45,46]):=l8 _ _;rw [a1,a2,a3,a4];cases is<;>cases decide (x.fix=0)<;>cases decide (x.low<o.low)<;>cases decide (x.low<=o.high)<;>cases decide (x.text=[45,46])<;>cases decide (o.text=[45,46])<;>rfl
end Go.VL
end
section
namespace Go.VL
open Tm
theorem arB {c:bZ} (h:c.op.2=true):Yu c.op.1:=by
  unfold bZ.op uf at h⊢;by_cases h3:c.kind=3
  · rw [if_pos h3]at h⊢;exact opF h
  · rw [if_neg h3]at h;simp [yC]at h
theorem ajQ (o:Operator) (c:bZ):sQ o.text o.fix o.low o.high o.left o.least o.most c.op.1.text c.op.1.fix c.op.1.low c.op.1.high c.op.1.left c.op.1.least c.op.1.most c.op.2=some (KF o c):=by
  rw [Uk];unfold KF;cases h:c.op.2
  · rfl
  · have hn:=(arB h).neg;congr 1
    by_cases h1:c.op.1.text=[45,46]
    · simp [hn h1]
    · simp [h1]
def qM:List bZ->List Str
  |c::d::l=>(c.out false++(32::45::62::32::d.out (!l.isEmpty)))::qM l
  |_=>[]
theorem YE: ∀(ks:List bZ),lK ks=qM ks++(if ks.length% 2=1 then [79::84::72::69::82::32::45::62::32::nA ks]else [])
  |[]=>by simp [lK,qM]
  |[c]=>by simp [lK,qM,nA,iX]
  |c::d::l=>by
    rw [lK,qM,YE l,List.cons_append];congr 2
    have e1:(c::d::l).length% 2=l.length% 2:=by simp only [List.length_cons];omega
    rw [e1];split
    · rename_i h;have hl:l≠[]:=by intro e;rw [e]at h;simp at h
      have:nA (c::d::l)=nA l:=by
        obtain⟨m,x,rfl⟩: ∃m x,l=m++[x]:=⟨l.dropLast,l.getLast hl,(List.dropLast_concat_getLast _).symm⟩;unfold nA iX;simp
      rw [this]
    · rfl
theorem ab6: ∀l:List bZ,(qM l).length<=l.length
  |[]=>by simp [qM]
  |[c]=>by simp [qM]
  |c::d::l=>by have:=ab6 l;simp only [qM,List.length_cons];omega
section
variable {xs:List (List Nd)} {ks:List bZ} (h:RL xs ks) (dX:ks.length<=34)
include h dX
theorem aed: ∀(l:List bZ),(∀c∈l,c∈ks)-> ∀s∈qM l,s.length<=2000000100
  |[],_,s,hs=>by simp [qM]at hs
  |[c],hl,s,hs=>by simp [qM]at hs
  |c::d::l,hl,s,hs=>by
    simp only [qM,List.mem_cons]at hs;rcases hs with rfl|hs
    · have:=h.sm (hl c (by simp)) false;have:=h.sm (hl d (by simp)) (!l.isEmpty);simp;omega
    · exact aed l (fun x hx=>hl x (by simp [hx])) s hs
theorem Ze: ∀(m i:Nat) (s:Str),ks.length<=i+m->i<=ks.length->s.length+10000000000*(ks.length -i)<=1000000000000->
    Ev (fun k=>pz k xs s (i:Int)) (s++(if i=0 then Lib.join (qM (ks.drop i)) [32,91,93,32]else Lib.joinTail [32,91,93,32] (qM (ks.drop i)))):=by
  have hl:=h.len;have stop: ∀(i:Nat) (s:Str),i<=ks.length-> ¬i+1<ks.length->Ev (fun k=>pz k xs s (i:Int)) (s++(if i=0 then Lib.join (qM (ks.drop i)) [32,91,93,32]else Lib.joinTail [32,91,93,32] (qM (ks.drop i)))):=by
    intro i s hi0 hi;have e1:qM (ks.drop i)=[]:=by
      have:(ks.drop i).length<=1:=by rw [List.length_drop];omega
      match hq:ks.drop i with
      |[]=>rfl
      |[c]=>rfl
      |c::d::l=>rw [hq]at this;simp at this
    refine Ev.succ ?_;simp only [pz];refine Ev.cF (decide_eq_false (by rw [wrap64 (by omega) (by omega)];omega)) (Ev.some' ?_);rw [e1];simp [Lib.join_nil,Lib.joinTail]
  intro m
  induction m with
  |zero=>intro i s h1 h2 h3;exact stop i s h2 (by omega)
  |succ m ih=>
    intro i s h1 h2 h3;by_cases hi:i+1<ks.length
    · have hi1:i<ks.length:=by omega
      have hx1:i<xs.length:=by omega
      have hx2:i+1<xs.length:=by omega
      have hc:=h.get (aZ hx1) (aZ hi1);have hd:=h.get (aZ hx2) (aZ hi);have w1:IntKind.wrap .i64 ((i:Int)+1)=((i+1:Nat):Int):=dQ hi1 (by omega);have w2:IntKind.wrap .i64 ((i:Int)+2)=((i+2:Nat):Int):=by rw [wrap64 (by omega) (by omega)];omega
      have hq:decide (((i+2:Nat):Int)>=(xs.length:Int))= !(!(ks.drop (i+2)).isEmpty):=by
        rw [Bool.not_not,Bool.eq_iff_iff];simp;omega
      have s1:=hc.sm false;have s2:=hd.sm (!(ks.drop (i+2)).isEmpty);have hde:=hd.ev (!(ks.drop (i+2)).isEmpty);have e1:ks.drop i=ks[i]::ks[i+1]::ks.drop (i+2):=by rw [drop_cons hi1,drop_cons hi]
      obtain⟨s',p1,p2,p3⟩: ∃s',Ev (fun k=>BK s (i:Int)) s'/\s'.length<=s.length+4/\ ∀(x:Str) (l:List Str),s'++(x++Lib.joinTail [32,91,93,32] l)=s++(if i=0 then Lib.join (x::l) [32,91,93,32]else Lib.joinTail [32,91,93,32] (x::l)):=by
        unfold BK;by_cases h0:i=0
        · subst h0;exact⟨s,Ev.cF (by rfl) Ev.some,by omega,fun x l=>by rw [if_pos rfl,Bt]⟩
        · exact⟨_,Ev.cT (decide_eq_true (by omega)) (Ev.aQ (by simp<;>omega) Ev.some),by simp,fun x l=>by rw [if_neg h0];simp [Lib.joinTail]⟩
      rw [e1,qM,<-p3];have hih:=ih (i+2) (s'++(ks[i].out false++(32::45::62::32::ks[i+1].out (!(ks.drop (i+2)).isEmpty)))) (by omega) (by omega) (by simp only [List.length_append,List.length_cons];omega);rw [if_neg (by omega)]at hih;generalize ks[i+1].out (!(ks.drop (i+2)).isEmpty)=q at s2 hde hih⊢;refine Ev.succ ?_;simp only [pz,w1,w2];refine Ev.cT (decide_eq_true (by omega)) (Ev.bind p1 ?_);simp only [Int.toNat_natCast,nn,if_true,aZ hx1,aZ hx2,Option.bind_some];refine Ev.bind hc.vL (Ev.aQ (by omega) (Ev.aQ (by simp only [List.length_append,List.length_cons,List.length_nil];omega) ?_));rw [hq];refine Ev.bind hde (Ev.aQ (by simp only [List.length_append,List.length_cons,List.length_nil];omega) (hih.to ?_));simp
    · exact stop i s h2 hi
theorem afz (h2:2<=ks.length):Ev (fun k=>Fh k xs) (67::65::83::69::32::Lib.join (lK ks) [32,91,93,32]):=by
  have hl:=h.len;have key:=Ze h dX ks.length 0 [67,65,83,69,32] (by omega) (by omega) (by simp;omega);rw [if_pos rfl,List.drop_zero]at key;have hj:=om (l:=qM ks) (sep:=[32,91,93,32]) (by have:=ab6 ks;omega) (aed h dX ks fun c hc=>hc) (by simp);have hne:qM ks≠[]:=by
    match ks,h2 with
    |c::d::l,_=>simp [qM]
  refine Ev.succ ?_;simp only [Fh];refine Ev.bind key ?_;have hmod:((xs.length:Int).tmod 2==1)=decide (ks.length% 2=1):=by
    rw [Int.tmod_eq_emod_of_nonneg (by omega),Bool.eq_iff_iff];simp;omega
  rw [hmod,YE];by_cases hodd:ks.length% 2=1
  · have hx:xs.length -1<xs.length:=by omega
    have hk:xs.length -1<ks.length:=by omega
    have hc:=h.get (aZ hx) (aZ hk);have sc:=hc.sm false;have e1:nA ks=(ks[xs.length -1]'hk).out false:=by
      unfold nA iX;have:ks[ks.length -1]? =ks[xs.length -1]? :=by rw [hl]
      rw [this,aZ hk]
    have w:IntKind.wrap .i64 ((xs.length:Int) -1)=((xs.length -1:Nat):Int):=by rw [wrap64 (by omega) (by omega)];omega
    rw [if_pos hodd,Yp _ _ _ hne,e1];simp only [w,nn,if_true,Int.toNat_natCast,aZ hx,Option.bind_some];refine Ev.cT (decide_eq_true hodd) (Ev.aQ (by simp only [List.length_append,List.length_cons,List.length_nil];omega) (Ev.bind hc.vL (Ev.aQ (by simp only [List.length_append,List.length_cons,List.length_nil];omega) (Ev.some' ?_))));simp
  · rw [if_neg hodd,List.append_nil];exact Ev.cF (decide_eq_false hodd) (Ev.some' (by simp))
theorem Ul {n:Nd} {o:Operator} (hO:Yu o) (ht:n.text=o.text) (f:Bool):Ev (fun k=>jd k xs (!f) n.kind n.n n.text n.names n.args o.text o.fix o.low o.high o.left o.least o.most [] 0) (Lib.join (lY o f 0 ks) (32::(o.text++[32]))):=by
  have hl:=h.len;have hlen:=hO.len;have hw:IntKind.wrap .i64 ((xs.length:Int) -1)=(xs.length:Int) -1:=wrap64 (by omega) (by omega);have hil:(lY o f 0 ks).length=xs.length:=by rw [uj];omega
  have hj:=DT (l:=lY o f 0 ks) (sep:=32::(o.text++[32])) (by omega) (fun s hs=>by
    obtain⟨i,hi⟩:=List.mem_iff_getElem?.1 hs;have hlt:=(List.getElem?_eq_some_iff.1 hi).1;rw [uj]at hlt;rw [Gx o f ks 0 i _ (aZ hlt),Option.some.injEq]at hi;subst hi;have:=lg (c:=ks[i]) (fun f=>h.sm (List.getElem_mem hlt) f) (EM o (0+i) ks[i]) (f|| !decide (i+1=ks.length));omega) (by simp;omega)
  have key:Ev (fun k=>jd k xs (!f) n.kind n.n n.text n.names n.args o.text o.fix o.low o.high o.left o.least o.most (Lib.join ((lY o f 0 ks).take 0) (32::(o.text++[32]))) ((0:Nat):Int)) (Lib.join (lY o f 0 ks) (32::(o.text++[32]))):=by
    refine jD (len:=xs.length) (p:=fun i=>Ev (fun k=>jd k xs (!f) n.kind n.n n.text n.names n.args o.text o.fix o.low o.high o.left o.least o.most (Lib.join ((lY o f 0 ks).take i) (32::(o.text++[32]))) (i:Int)) (Lib.join (lY o f 0 ks) (32::(o.text++[32])))) ?_ fun i hi ih=> ?_
    · refine Ev.succ ?_;simp only [jd];exact Ev.cF (jl _) (Ev.some' (by rw [<-hil,List.take_length]))
    · have hi':i<ks.length:=by omega
      have hc:=h.get (aZ hi) (aZ hi');have hli:i<(lY o f 0 ks).length:=by omega
      have hg:=Gx o f ks 0 i _ (aZ hi');rw [Nat.zero_add,aZ hli,Option.some.injEq]at hg;rw [join_step _ _ hli,hg]at ih;have s2:=hj i;have sm:=lg hc.sm (EM o i ks[i]) (f|| !decide (i+1=ks.length));refine Ev.succ ?_;simp only [jd,Int.toNat_natCast,aZ hi,Option.bind_some,nn,if_true,kX hi,cond_true,dQ hi (show xs.length<=1099511627776 by omega),hw];refine Ev.bind (Er hc) (Ev.oP (Uj o _ i _) ?_);have hm:(ks[i].op.2&&decide (ks[i].op.1.low<=o.high)&& !(decide (i=0)&&decide (ks[i].op.1.text=o.text)&&o.left))=EM o i ks[i]:=rfl;rw [hm,ht];generalize hJ:Lib.join (List.take i _) (32::(o.text++[32]))=J at s2 ih⊢;refine Ev.bind (x:=if i=0 then J else J++(32::(o.text++[32]))) ?_ ?_
      · unfold BH;by_cases h0:i=0
        · subst h0;exact Ev.cF (by rfl) Ev.some
        · rw [if_neg h0];exact Ev.cT (decide_eq_true (by omega)) (Ev.aQ (by simp<;>omega) (Ev.aQ (by simp<;>omega) (Ev.aQ (by simp<;>omega) Ev.some)))
      · have hJl:(if i=0 then J else J++(32::(o.text++[32]))).length<=J.length+30:=by split<;>simp<;>omega
        have hih:Ev (fun k=>jd k xs (!f) n.kind n.n o.text n.names n.args o.text o.fix o.low o.high o.left o.least o.most ((if i=0 then J else J++(32::(o.text++[32])))++sM ks[i] (EM o i ks[i]) (f|| !decide (i+1=ks.length))) ((i+1:Nat):Int)) (Lib.join (lY o f 0 ks) (32::(o.text++[32]))):=by
          rw [ht]at ih;by_cases h0:i=0
          · subst h0;rw [if_pos rfl]at ih⊢;rw [List.take_zero,Lib.join_nil]at hJ;subst hJ;simpa using ih
          · rw [if_neg h0]at ih⊢;simpa using ih
        cases f with
        |false=>
          refine Ev.cT rfl ?_;have e1:((i:Int)==(xs.length:Int) -1)= !(false|| !decide (i+1=ks.length)):=by
            rw [Bool.false_or,Bool.not_not,Bool.eq_iff_iff];simp;omega
          rw [e1];exact Ev.bind (jK hc _ _) (Ev.aQ (by omega) hih)
        |true=>
          refine Ev.cF rfl ?_;have e1:(true|| !decide (i+1=ks.length))=true:=rfl;rw [e1]at hih sm;exact Ev.bind (jK hc _ true) (Ev.aQ (by omega) hih)
  simpa [Lib.join_nil]using key
theorem ab7 {n:Nd} (hne:ks≠[]) (hS:n.text.length<=80) (f:Bool):Ev (fun k=>zP k n xs (!f)) (if(bY dF n.text).2=true then Xn (bY dF n.text).1 ks f else n.text++(40::(yj ks++[41]))):=by
  refine Ev.succ ?_;simp only [zP];refine Ev.bind (vF _) ?_;cases hop:(bY dF n.text).2
  · rw [if_neg (by simp)];have abR:(yj ks).length<=100000000000:=om (by simp;omega) (fun s hs=>by obtain⟨c,hc,rfl⟩:=List.mem_map.1 hs;have:=h.sm hc false;omega) (by simp);exact Ev.cF rfl (Ev.aQ (by simp<;>omega) (Ev.bind (Ir h dX) (Ev.aQ (by simp<;>omega) (Ev.aQ (by simp<;>omega) Ev.some))))
  · rw [if_pos rfl];have hO:=opF hop;have ht:=(abL hop).2.symm;have hj:=fun f=>om (l:=lY (bY dF n.text).1 f 0 ks) (sep:=32::((bY dF n.text).1.text++[32]));generalize(bY dF n.text).1=o at hO ht hj⊢;have hlen:=hO.len;refine Ev.cT rfl ?_;cases hks:ks with
    |nil=>exact absurd hks hne
    |cons c l=>
      have h':=h;rw [hks]at h';obtain⟨x,xl,hx⟩: ∃x xl,xs=x::xl:=by cases h' with|cons _ _=>exact⟨_,_,rfl⟩
      have hc:RI x c:=h.get (i:=0) (by rw [hx];rfl) (by rw [hks];rfl);unfold Xn;by_cases f1:o.fix=1
      · simp only [show ¬o.fix=2 by omega,show ¬o.fix=0 by omega,if_false];refine Ev.cT (by rw [f1];rfl) (Ev.bind (x:=Lib.join (lY o f 0 (c::l)) (32::(o.text++[32]))) ?_ Ev.some);have:=Ul h dX (n:=n) hO ht f;rw [hks]at this;exact this
      · refine Ev.cF (by rw [beq_eq_false_iff_ne];exact f1) ?_;simp only [hx,List.getElem?_cons_zero,Option.bind_some];refine Ev.bind (Er hc) ?_;by_cases f2:o.fix=2
        · have hp:=hO.post f2;simp only [f2,if_true];have s1:=lg hc.sm (Oo o c) true;unfold Oo at s1⊢;refine Ev.cT (by rfl) ?_;rw [hp]at s1⊢;cases hco:c.op.2
          · have s3:=lg hc.sm false true;exact Ev.cF rfl (Ev.bind (jK hc false true) (Ev.aQ (by simp<;>omega) Ev.some))
          · rw [hco]at s1;exact Ev.cT rfl (Ev.bind (jK hc _ true) (Ev.aQ (by simp only [Bool.true_and]at s1;simp;omega) Ev.some))
        · have f0:o.fix=0:=by rcases hO.fix with h|h|h<;>omega
          simp only [f2,f0,if_true,if_false];have s1:=lg hc.sm (KF o c) f;obtain⟨d,dl,hd,hlet,hnot⟩:=hO.word f0;have hup:isLet d=decide (65<=d.toNat/\d.toNat<=90):=by rw [Bool.eq_iff_iff,hlet];simp
          have hmp:=ajQ o c;rw [f0]at hmp;refine Ev.cF (by rfl) (Ev.oP hmp ?_);unfold Oq;have hlen:(d::dl).length<=20:=hd▸hlen;rw [hd]at hnot;rw [ht,hd];simp only [List.getElem?_cons_zero,Option.bind_some,En,hup];by_cases hq:65<=d.toNat/\d.toNat<=90
          · have n1: ¬(d::dl)=[45,46]:=by
              intro e;simp only [List.cons.injEq]at e;obtain⟨rfl,_⟩:=e;revert hq;decide
            rw [if_neg n1];simp only [hq,and_self,decide_true,if_true];refine Ev.cT rfl (Ev.aQ (by simp at hlen⊢;omega) (Ev.cF (by rw [l8];exact decide_eq_false hnot) (Ev.bind (jK hc _ f) (Ev.aQ (by simp at hlen⊢;omega) (Ev.some' (by simp))))))
          · simp only [hq,decide_false,if_false];refine Ev.cF rfl ?_;rw [l8];by_cases n1:(d::dl)=[45,46]
            · rw [if_pos n1];exact Ev.cT (decide_eq_true n1) (Ev.bind (jK hc _ f) (Ev.aQ (by simp<;>omega) Ev.some))
            · rw [if_neg n1];exact Ev.cF (decide_eq_false n1) (Ev.bind (jK hc _ f) (Ev.aQ (by simp at hlen⊢;omega) Ev.some))
end
end Go.VL
end
section
namespace Go.VL
open Tm
theorem Um {x:List Nd} {c:bZ} (h:RI x c):Ev (fun k=>CO k x) (sM c (c.op.2||decide (c.kind=0)) true):=by
  obtain⟨n,hn,hk,ht⟩:=h.root;refine Ev.succ ?_;simp only [CO,hn,Option.bind_some];refine Ev.bind (Er h) ?_;cases c.op.2
  · refine Ev.cF rfl ?_;rw [hk];exact Ev.bind (jK h _ true) Ev.some
  · exact Ev.cT rfl (Ev.bind (jK h true true) Ev.some)
theorem XP {x:List Nd} {c:bZ} (h:RI x c):Ev (fun k=>nJ k x) (sM c (!(decide (c.kind=2)&&rName c.text)&& !decide (c.kind=4)) false):=by
  obtain⟨n,hn,hk,ht⟩:=h.root;have e4:(n.kind !=4)= !decide (c.kind=4):=by rw [hk];rfl
  refine Ev.succ ?_;simp only [nJ,hn,Option.bind_some,e4];by_cases h2:c.kind=2
  · refine Ev.cF (by rw [hk,h2];rfl) ?_;rw [ht];refine Ev.bind (rT _) ?_;cases hr:rName c.text
    · exact Ev.cF rfl (Ev.bind (jK h _ false) (Ev.some' (by simp)))
    · exact Ev.cT rfl (Ev.bind (jK h _ false) (Ev.some' (by simp [h2])))
  · exact Ev.cT (by rw [bne_iff_ne,hk];exact h2) (Ev.bind (jK h _ false) (Ev.some' (by simp [h2])))
theorem ajR (m:Nat):Lib.join (List.replicate (m+1) ([95]:Str)) [44,32]=95::(List.replicate m ([44,32,95]:Str)).flatten:=by
  rw [List.replicate_succ,Bt];simp [Lib.joinTail,List.map_replicate]
theorem ac8 {n:Nd} (dX:n.names.length<=34): ∀(m i:Nat) (s:Str),i+m=n.names.length->s.length<=1000+3*i->Ev (fun k=>xk k n.kind n.n n.text n.names n.args s (i:Int)) (s++(List.replicate m ([44,32,95]:Str)).flatten):=by
  intro m
  induction m with
  |zero=>
    intro i s h1 h2;refine Ev.succ ?_;simp only [xk];exact Ev.cF (decide_eq_false (by omega)) (Ev.some' (by simp))
  |succ m ih=>
    intro i s h1 h2;refine Ev.succ ?_;simp only [xk];rw [dQ (show i<n.names.length by omega) (by omega)];refine Ev.cT (decide_eq_true (by omega)) (Ev.aQ (by simp;omega) ((ih (i+1) _ (by omega) (by simp;omega)).to ?_));rw [List.replicate_succ];simp
theorem ajS {n:Nd} {a b:Str} (ha:a.length<=1000000000) (hb:b.length<=1000000000) (h1:1<=n.names.length) (dX:n.names.length<=34) (hnm: ∀s∈n.names,s.length<=80):Ev (fun k=>OE k n a b) (Xo n.n n.names a b):=by
  obtain⟨z,p,hp⟩:=Rz h1;refine Ev.succ ?_;have hz:=hnm z (by rw [hp];simp);simp only [OE,hp,List.getElem?_cons_zero,List.drop_succ_cons,List.drop_zero,Option.bind_some];unfold Xo;cases p with
  |nil=>
    refine Ev.cF (by rfl) ?_;by_cases hn:n.n=1
    · rw [if_pos hn];exact Ev.cT (by rw [hn];rfl) (Ev.aQ (by simp<;>omega) (Ev.aQ (by simp<;>omega) (Ev.aQ (by simp<;>omega) (Ev.aQ (by simp<;>omega) (Ev.aQ (by simp<;>omega) (Ev.aQ (by simp<;>omega) (Ev.aQ (by simp<;>omega) (Ev.aQ (by simp<;>omega) (Ev.some' (by simp [ug]))))))))))
    · rw [if_neg hn];exact Ev.cF (by rw [beq_eq_false_iff_ne];exact hn) (Ev.aQ (by simp<;>omega) (Ev.aQ (by simp<;>omega) (Ev.aQ (by simp<;>omega) (Ev.aQ (by simp<;>omega) (Ev.aQ (by simp<;>omega) (Ev.some' (by simp [ug])))))))
  |cons y p=>
    have hpn: ∀s∈y::p,s.length<=80:=fun s hs=>hnm s (by rw [hp];exact List.mem_cons_of_mem _ hs);have hpl:(y::p).length<=33:=by rw [hp]at dX;simpa using dX
    have h2:=om (l:=y::p) (sep:=[44,32]) (by omega) (fun s hs=>by have:=hpn s hs;omega) (by simp);have hlb:=ac8 dX p.length 2 (z++[40,95]) (by rw [hp];simp;omega) (by simp;omega);rw [hp]at hlb;have hfl:((List.replicate p.length ([44,32,95]:Str)).flatten).length<=1000:=by simp at hpl⊢;omega
    have hb':(ug (z::y::p)).2=z++(40::95::((List.replicate p.length ([44,32,95]:Str)).flatten++[41])):=by
      simp only [ug,List.length_cons,ajR];simp
    generalize(List.replicate p.length ([44,32,95]:Str)).flatten=q at hlb hfl hb';have hh:(ug (z::y::p)).1=z++(40::(Lib.join (y::p) [44,32]++[41])):=rfl;rw [hb',hh];generalize hJ:Lib.join (y::p) [44,32]=J at h2;have sS:=PY (l:=y::p) (by omega) hpn;rw [hJ]at sS;refine Ev.cT (by simp<;>omega) (Ev.aQ (by simp<;>omega) (Ev.aQ (by simp) (Ev.bind sS (Ev.aQ (by simp<;>omega) (Ev.aQ (by simp<;>omega) (Ev.aQ (by simp<;>omega) (Ev.bind hlb (Ev.aQ (by simp<;>omega) ?_))))))));by_cases hn:n.n=1
    · rw [if_pos hn];exact Ev.cT (by rw [hn];rfl) (Ev.aQ (by simp<;>omega) (Ev.aQ (by simp<;>omega) (Ev.aQ (by simp<;>omega) (Ev.aQ (by simp<;>omega) (Ev.aQ (by simp<;>omega) (Ev.aQ (by simp<;>omega) (Ev.aQ (by simp<;>omega) (Ev.aQ (by simp<;>omega) (Ev.some' (by simp))))))))))
    · rw [if_neg hn];exact Ev.cF (by rw [beq_eq_false_iff_ne];exact hn) (Ev.aQ (by simp<;>omega) (Ev.aQ (by simp<;>omega) (Ev.aQ (by simp<;>omega) (Ev.aQ (by simp<;>omega) (Ev.aQ (by simp<;>omega) (Ev.some' (by simp)))))))
section
variable {xs:List (List Nd)} {ks:List bZ} {n:Nd} (h:RL xs ks)
include h
theorem RL.two (hl:ks.length=2): ∃x y c d,xs=[x,y]/\ks=[c,d]/\RI x c/\RI y d:=by
  obtain⟨x,y,h1⟩:=len2 (l:=xs) (by rw [h.len];exact hl);obtain⟨c,d,h2⟩:=len2 hl;exact⟨x,y,c,d,h1,h2,h.get (i:=0) (by rw [h1];rfl) (by rw [h2];rfl),h.get (i:=1) (by rw [h1];rfl) (by rw [h2];rfl)⟩
theorem RL.three (hl:ks.length=3): ∃x y z c d f,xs=[x,y,z]/\ks=[c,d,f]/\RI x c/\RI y d/\RI z f:=by
  obtain⟨x,y,z,h1⟩:=abO (l:=xs) (by rw [h.len];exact hl);obtain⟨c,d,f,h2⟩:=abO hl;exact⟨x,y,z,c,d,f,h1,h2,h.get (i:=0) (by rw [h1];rfl) (by rw [h2];rfl),h.get (i:=1) (by rw [h1];rfl) (by rw [h2];rfl),h.get (i:=2) (by rw [h1];rfl) (by rw [h2];rfl)⟩
theorem RL.one (hl:1<=ks.length): ∃x xl c l,xs=x::xl/\ks=c::l/\RI x c/\RL xl l:=by
  obtain⟨x,xl,h1⟩:=Rz (l:=xs) (by rw [h.len];exact hl);obtain⟨c,l,h2⟩:=Rz hl;rw [h1,h2]at h;cases h with|cons a b=>exact⟨x,xl,c,l,h1,h2,a,b⟩
theorem RL.last (hl:1<=ks.length) (dX:ks.length<=34): ∃x c,IntKind.wrap .i64 ((xs.length:Int) -1)=((xs.length -1:Nat):Int)/\xs[xs.length -1]? =some x/\RI x c/\nA ks=c.out false:=by
  have hk:=h.len;refine⟨_,ks[xs.length -1]'(by omega),?_,aZ (by omega),h.get (aZ (by omega)) (aZ (by omega)),?_⟩
  · rw [wrap64 (by omega) (by omega)];omega
  · unfold nA iX;have e1:ks[xs.length -1]? =some (ks[xs.length -1]'(by omega)):=aZ (by omega);have e2:ks[ks.length -1]? =ks[xs.length -1]? :=by rw [hk]
    rw [e2,e1]
theorem ab8 (hS:Sml n) (hl:ks.length=n.args.length) (hV:bX true n=0) (hk:n.kind=6\/n.kind=7\/n.kind=8\/n.kind=9\/n.kind=10\/n.kind=11\/n.kind=12\/n.kind=13\/n.kind=16\/n.kind=17\/n.kind=23\/n.kind=24):
    Ev (fun k=>zQ k n xs) (yV n.kind n.n n.text n.names ks):=by
  obtain⟨hS1,hS2,qI,hS4,hS5⟩:=hS;have dX:ks.length<=34:=by omega
  have hzj: ∀sign:Str,sign.length<=10->(qz sign n.names ks).length<=100000000000:=fun sign hs=>om (by rw [List.length_zipWith];omega) (ajP h dX hs qI) (by simp);have hz:=hzj [32,92,105,110,32] (by simp);have Jh:=om (l:=n.names) (sep:=[44,32]) (by omega) (fun s hs=>by have:=qI s hs;omega) (by simp);have hnm:=PY hS2 qI;have fin: ∀{a b c d:Int} {m:Bool},aY n.kind=((a,b,c,d),m)->(a<=n.names.length/\(n.names.length:Int)<=b)/\c<=(n.args.length:Int) -n.names.length*(if m=true then 1 else 0)/\(n.args.length:Int) -n.names.length*(if m=true then 1 else 0)<=d:=fun hs=>kY hV hs (by omega);have h1:1<=ks.length/\(n.kind=6\/n.kind=7\/n.kind=8\/n.kind=9\/n.kind=12\/n.kind=13\/n.kind=16\/n.kind=17->n.names.length<=ks.length)/\(n.kind=23->ks.length=2/\1<=n.names.length):=by
    rcases hk with hk|hk|hk|hk|hk|hk|hk|hk|hk|hk|hk|hk
    · have:=fin (show aY n.kind=((1,1,2,2),false) by rw [hk];kernel_rfl);simp at this;omega
    · have:=fin (show aY n.kind=((1,4,1,1),true) by rw [hk];kernel_rfl);simp at this;omega
    · have:=fin (show aY n.kind=((1,4,1,1),true) by rw [hk];kernel_rfl);simp at this;omega
    · have:=fin (show aY n.kind=((1,4,1,1),true) by rw [hk];kernel_rfl);simp at this;omega
    · have:=fin (show aY n.kind=((1,4,1,1),false) by rw [hk];kernel_rfl);simp at this;omega
    · have:=fin (show aY n.kind=((1,4,1,1),false) by rw [hk];kernel_rfl);simp at this;omega
    · have:=fin (show aY n.kind=((1,1,2,2),false) by rw [hk];kernel_rfl);simp at this;omega
    · have:=fin (show aY n.kind=((1,4,1,1),true) by rw [hk];kernel_rfl);simp at this;omega
    · have:=fin (show aY n.kind=((1,30,0,0),true) by rw [hk];kernel_rfl);simp at this;omega
    · have:=fin (show aY n.kind=((1,30,0,0),true) by rw [hk];kernel_rfl);simp at this;omega
    · have:=fin (show aY n.kind=((1,5,2,2),false) by rw [hk];kernel_rfl);simp at this;omega
    · have:=fin (show aY n.kind=((1,4,1,1),false) by rw [hk];kernel_rfl);simp at this;omega
  obtain⟨hone,sS,hlet⟩:=h1;have hbn:=fun hle=>ac7 h dX (names:=n.names) hle qI;obtain⟨x,c,w,hx,hc,hlast⟩:=h.last hone dX;have sc:=hc.sm false;refine Ev.succ ?_;simp only [zQ,w,nn,if_true,Int.toNat_natCast,hx,Option.bind_some];refine Ev.bind hc.vL ?_;unfold yV;rcases hk with hk|hk|hk|hk|hk|hk|hk|hk|hk|hk|hk|hk<;>simp only [hk,Int.reduceBEq,Int.reduceEq,↓reduceIte,cond_true,cond_false,hlast]at sS hlet⊢ <;>try simp only [true_or,or_true,forall_const]at sS hlet
  · have:=fin (show aY n.kind=((1,1,2,2),false) by rw [hk];kernel_rfl);simp only [Bool.false_eq_true,if_false]at this;obtain⟨x',y,c',d,q1,rfl,k1,k2⟩:=h.two (by omega);have e1:iX [c',d] 1=c.out false:=hlast;rw [e1];exact Ev.bind (hbn sS) (Ev.aQ (by simp<;>omega) (Ev.aQ (by simp<;>omega) (Ev.aQ (by simp<;>omega) (Ev.aQ (by simp<;>omega) Ev.some))))
  · refine Ev.bind (x:=Np (c.out false)) ?_ ?_
    · unfold BL Np;refine Ev.bind (ac6 (by omega)) ?_;cases Ib (c.out false)
      · exact Ev.some
      · exact Ev.cT rfl (Ev.aQ (by simp<;>omega) (Ev.aQ (by simp<;>omega) Ev.some))
    · have hi:=Ry (c.out false);exact Ev.aQ (by simp<;>omega) (Ev.aQ (by simp<;>omega) (Ev.bind (hbn sS) (Ev.aQ (by simp<;>omega) (Ev.aQ (by simp<;>omega) Ev.some))))
  · exact Ev.bind (hbn sS) (Ev.aQ (by simp<;>omega) (Ev.aQ (by simp<;>omega) (Ev.aQ (by simp<;>omega) Ev.some)))
  · exact Ev.bind (hbn sS) (Ev.aQ (by simp<;>omega) (Ev.aQ (by simp<;>omega) (Ev.aQ (by simp<;>omega) Ev.some)))
  · exact Ev.bind hnm (Ev.aQ (by simp<;>omega) (Ev.aQ (by simp<;>omega) (Ev.aQ (by simp<;>omega) Ev.some)))
  · exact Ev.bind hnm (Ev.aQ (by simp<;>omega) (Ev.aQ (by simp<;>omega) (Ev.aQ (by simp<;>omega) Ev.some)))
  · exact Ev.bind (hbn sS) (Ev.aQ (by simp<;>omega) (Ev.aQ (by simp<;>omega) (Ev.aQ (by simp<;>omega) Ev.some)))
  · exact Ev.bind (hbn sS) (Ev.aQ (by simp<;>omega) (Ev.aQ (by simp<;>omega) (Ev.aQ (by simp<;>omega) (Ev.aQ (by simp<;>omega) Ev.some))))
  · have hz2:=hzj [32,124,45,62,32] (by simp);refine Ev.bind (x:=[32,124,45,62,32]) (by unfold xq;exact Ev.cF (by rfl) Ev.some) ?_;have:=Iu h dX (n:=n) (sign:=[32,124,45,62,32]) (by simp) sS qI;rw [hk]at this;exact Ev.bind this (Ev.aQ (by simp<;>omega) Ev.some)
  · have hz2:=hzj [32,58,32] (by simp);refine Ev.bind (x:=[32,58,32]) (by unfold xq;exact Ev.cT (by rfl) Ev.some) ?_;have:=Iu h dX (n:=n) (sign:=[32,58,32]) (by simp) sS qI;rw [hk]at this;exact Ev.bind this (Ev.aQ (by simp<;>omega) Ev.some)
  · obtain⟨x',y,c',d,q1,rfl,k1,k2⟩:=h.two hlet.1;have e1:iX [c',d] 1=c.out false:=hlast;have s1:=k1.sm false;rw [e1];simp only [q1,List.getElem?_cons_zero,Option.bind_some];exact Ev.bind k1.vL (Ev.bind (ajS s1 sc hlet.2 hS2 qI) Ev.some)
  · exact Ev.bind hnm (Ev.aQ (by simp<;>omega) (Ev.aQ (by simp<;>omega) (Ev.aQ (by simp<;>omega) Ev.some)))
end
end Go.VL
end
section
namespace Go.VL
open Tm
theorem ahv {x0:List Nd} {xs:List (List Nd)} {ks:List bZ} {n:Nd} (h:RL xs ks) (hS:Sml n) (hl:ks.length=n.args.length) (hV:bX true n=0) (hr:wu x0=some n)
    (hB:Ev (fun k=>qc k x0 n.kind n.n n.text n.names n.args [] 0) xs) (hlen: ∀f,(Ic n ks f).length<=1000000000) (f:Bool):Ev (fun k=>eu k x0 (!f)) (Ic n ks f):=by
  have hS':=hS;obtain⟨hS1,hS2,qI,hS4,hS5⟩:=hS;have dX:ks.length<=34:=by omega
  have hlj:(yj ks).length<=100000000000:=om (by simp;omega) (fun s hs=>by obtain⟨c,hc,rfl⟩:=List.mem_map.1 hs;have:=h.sm hc false;omega) (by simp);have hb:=XC hV;have hp: ∀f,DF (!f) (mG n.kind)=some (f&&mG n.kind):=by
    intro f;unfold DF;cases mG n.kind<;>cases f<;>rfl
  have key: ∀f:Bool,(f&&mG n.kind)=false->Ev (fun k=>eu k x0 (!f)) (Jb n.kind n.n n.text n.names ks f):=by
    intro f hf;refine Ev.succ ?_;simp only [eu,hr,Option.bind_some,PX,hp,hf];refine Ev.cF rfl (Ev.bind hB ?_);by_cases h3:n.kind=3
    · have hne:ks≠[]:=by
        intro e;rw [e]at hl;cases ho:(bY dF n.text).2
        · have:=awC hV h3 ho;simp at hl;omega
        · have:=abN hV h3 ho;have:=(opF ho).least;simp at hl;omega
      have hap:=ab7 h dX (n:=n) hne hS1 f;unfold Jb uf yV;simp only [h3,Int.reduceBEq,Int.reduceEq,↓reduceIte,cond_true,cond_false];exact Ev.bind hap Ev.some
    have hop:(uf n.kind n.text).2=false:=by unfold uf;rw [if_neg h3]
    have awX:Jb n.kind n.n n.text n.names ks f=yV n.kind n.n n.text n.names ks:=by
      unfold Jb;rw [hop,if_neg (by simp)]
    rw [awX];by_cases hbd:n.kind=6\/n.kind=7\/n.kind=8\/n.kind=9\/n.kind=10\/n.kind=11\/n.kind=12\/n.kind=13\/n.kind=16\/n.kind=17\/n.kind=23\/n.kind=24
    · have hbi:=ab8 h hS' hl hV hbd;have e: ∀m:Int,m≠6->m≠7->m≠8->m≠9->m≠10->m≠11->m≠12->m≠13->m≠16->m≠17->m≠23->m≠24->(n.kind==m)=false:=fun m _ _ _ _ _ _ _ _ _ _ _ _=>by rw [beq_eq_false_iff_ne];omega
      simp only [e 0 (by decide) (by decide) (by decide) (by decide) (by decide) (by decide) (by decide) (by decide) (by decide) (by decide) (by decide) (by decide),e 1 (by decide) (by decide) (by decide) (by decide) (by decide) (by decide) (by decide) (by decide) (by decide) (by decide) (by decide) (by decide),e 2 (by decide) (by decide) (by decide) (by decide) (by decide) (by decide) (by decide) (by decide) (by decide) (by decide) (by decide) (by decide),e 20 (by decide) (by decide) (by decide) (by decide) (by decide) (by decide) (by decide) (by decide) (by decide) (by decide) (by decide) (by decide),e 3 (by decide) (by decide) (by decide) (by decide) (by decide) (by decide) (by decide) (by decide) (by decide) (by decide) (by decide) (by decide),e 4 (by decide) (by decide) (by decide) (by decide) (by decide) (by decide) (by decide) (by decide) (by decide) (by decide) (by decide) (by decide),e 5 (by decide) (by decide) (by decide) (by decide) (by decide) (by decide) (by decide) (by decide) (by decide) (by decide) (by decide) (by decide),e 21 (by decide) (by decide) (by decide) (by decide) (by decide) (by decide) (by decide) (by decide) (by decide) (by decide) (by decide) (by decide),e 22 (by decide) (by decide) (by decide) (by decide) (by decide) (by decide) (by decide) (by decide) (by decide) (by decide) (by decide) (by decide),e 14 (by decide) (by decide) (by decide) (by decide) (by decide) (by decide) (by decide) (by decide) (by decide) (by decide) (by decide) (by decide),e 18 (by decide) (by decide) (by decide) (by decide) (by decide) (by decide) (by decide) (by decide) (by decide) (by decide) (by decide) (by decide),e 19 (by decide) (by decide) (by decide) (by decide) (by decide) (by decide) (by decide) (by decide) (by decide) (by decide) (by decide) (by decide),e 25 (by decide) (by decide) (by decide) (by decide) (by decide) (by decide) (by decide) (by decide) (by decide) (by decide) (by decide) (by decide),e 26 (by decide) (by decide) (by decide) (by decide) (by decide) (by decide) (by decide) (by decide) (by decide) (by decide) (by decide) (by decide),e 27 (by decide) (by decide) (by decide) (by decide) (by decide) (by decide) (by decide) (by decide) (by decide) (by decide) (by decide) (by decide),e 28 (by decide) (by decide) (by decide) (by decide) (by decide) (by decide) (by decide) (by decide) (by decide) (by decide) (by decide) (by decide),e 15 (by decide) (by decide) (by decide) (by decide) (by decide) (by decide) (by decide) (by decide) (by decide) (by decide) (by decide) (by decide),cond_false];exact Ev.bind hbi Ev.some
    have hall:n.kind=0\/n.kind=1\/n.kind=2\/n.kind=4\/n.kind=5\/n.kind=14\/n.kind=15\/n.kind=18\/n.kind=19\/n.kind=20\/n.kind=21\/n.kind=22\/n.kind=25\/n.kind=26\/n.kind=27\/n.kind=28:=by omega
    have fin: ∀{a b c d:Int},aY n.kind=((a,b,c,d),false)->c<=(ks.length:Int)/\(ks.length:Int)<=d:=fun hs=>by have:=kY hV hs h3;simp at this;omega
    unfold yV;rcases hall with hk|hk|hk|hk|hk|hk|hk|hk|hk|hk|hk|hk|hk|hk|hk|hk<;>simp only [hk,Int.reduceBEq,Int.reduceEq,↓reduceIte,cond_true,cond_false]
    · exact Ev.bind (ahu (abQ hV)) Ev.some
    · exact Ev.aQ (by simp<;>omega) (Ev.aQ (by simp<;>omega) Ev.some)
    · exact Ev.some
    · exact Ev.bind (Ir h dX) (Ev.aQ (by simp<;>omega) (Ev.aQ (by simp<;>omega) Ev.some))
    · exact Ev.bind (Ir h dX) (Ev.aQ (by simp<;>omega) (Ev.aQ (by simp<;>omega) Ev.some))
    · have:=fin (show aY n.kind=((0,0,2,5),false) by rw [hk];kernel_rfl);obtain⟨x,xl,c,l,rfl,rfl,k1,k2⟩:=h.one (by omega);have l34:l.length<=34:=by simp at dX;omega
      have s1:=lg k1.sm (c.op.2||decide (c.kind=0)) true;have hlj:(yj l).length<=100000000000:=om (by simp;omega) (fun s hs=>by obtain⟨c,hc,rfl⟩:=List.mem_map.1 hs;have:=k2.sm hc false;omega) (by simp);simp only [List.getElem?_cons_zero,Option.bind_some,List.drop_succ_cons,List.drop_zero,xP];exact Ev.bind (Um k1) (Ev.aQ (by simp<;>omega) (Ev.aQ (by simp) (Ev.bind (Ir k2 l34) (Ev.aQ (by simp<;>omega) (Ev.aQ (by simp<;>omega) Ev.some)))))
    · have:=fin (show aY n.kind=((0,0,2,2),false) by rw [hk];kernel_rfl);obtain⟨x,y,c,d,rfl,rfl,k1,k2⟩:=h.two (by omega);have s1:=k1.sm false;have s2:=k2.sm false;simp only [List.getElem?_cons_zero,List.getElem?_cons_succ,Option.bind_some,iX];exact Ev.bind k1.vL (Ev.aQ (by simp<;>omega) (Ev.aQ (by simp<;>omega) (Ev.bind k2.vL (Ev.aQ (by simp<;>omega) (Ev.aQ (by simp<;>omega) Ev.some)))))
    · have:=fin (show aY n.kind=((0,0,1,1),false) by rw [hk];kernel_rfl);obtain⟨x,xl,c,l,rfl,rfl,k1,k2⟩:=h.one (by omega);have s1:=lg k1.sm (c.op.2||decide (c.kind=0)) true;simp only [List.getElem?_cons_zero,Option.bind_some,xP];exact Ev.bind (Um k1) (Ev.aQ (by simp<;>omega) (Ev.aQ (by simp<;>omega) Ev.some))
    · have:=fin (show aY n.kind=((0,0,3,3),false) by rw [hk];kernel_rfl);obtain⟨x,y,z,c,d,g,rfl,rfl,k1,k2,k3⟩:=h.three (by omega);have s1:=k1.sm false;have s2:=k2.sm false;have s3:=k3.sm false;simp only [List.getElem?_cons_zero,List.getElem?_cons_succ,Option.bind_some,iX];exact Ev.bind k1.vL (Ev.aQ (by simp<;>omega) (Ev.aQ (by simp<;>omega) (Ev.bind k2.vL (Ev.aQ (by simp<;>omega) (Ev.aQ (by simp<;>omega) (Ev.bind k3.vL (Ev.aQ (by simp<;>omega) (Ev.aQ (by simp<;>omega) Ev.some))))))))
    · exact Ev.some
    · have:=fin (show aY n.kind=((0,0,3,3),false) by rw [hk];kernel_rfl);obtain⟨x,y,z,c,d,g,rfl,rfl,k1,k2,k3⟩:=h.three (by omega);have s1:=k1.sm false;have s2:=k2.sm false;have s3:=k3.sm false;simp only [List.getElem?_cons_zero,List.getElem?_cons_succ,Option.bind_some,iX];exact Ev.bind k1.vL (Ev.aQ (by simp<;>omega) (Ev.aQ (by simp<;>omega) (Ev.bind k2.vL (Ev.aQ (by simp<;>omega) (Ev.aQ (by simp<;>omega) (Ev.bind k3.vL (Ev.aQ (by simp<;>omega) Ev.some)))))))
    · have:=fin (show aY n.kind=((0,0,2,30),false) by rw [hk];kernel_rfl);exact Ev.bind (afz h dX (by omega)) Ev.some
    all_goals
      have:=fin (show aY n.kind=((0,0,2,2),false) by rw [hk];kernel_rfl);obtain⟨x,y,c,d,rfl,rfl,k1,k2⟩:=h.two (by omega);have s1:=k1.sm false;have hsub:=XP k2;simp only [List.getElem?_cons_zero,List.getElem?_cons_succ,Option.bind_some,iX,XD];generalize(!(decide (d.kind=2)&&rName d.text)&& !decide (d.kind=4))=m at hsub⊢;have s2:=lg k2.sm m false
    · exact Ev.bind k1.vL (Ev.aQ (by simp<;>omega) (Ev.aQ (by simp<;>omega) (Ev.bind hsub (Ev.aQ (by simp<;>omega) Ev.some))))
    · exact Ev.bind k1.vL (Ev.aQ (by simp<;>omega) (Ev.aQ (by simp<;>omega) (Ev.bind hsub (Ev.aQ (by simp<;>omega) Ev.some))))
    · exact Ev.bind hsub (Ev.aQ (by simp<;>omega) (Ev.aQ (by simp<;>omega) (Ev.bind k1.vL (Ev.aQ (by simp<;>omega) (Ev.aQ (by simp<;>omega) Ev.some)))))
    · exact Ev.bind hsub (Ev.aQ (by simp<;>omega) (Ev.aQ (by simp<;>omega) (Ev.bind k1.vL (Ev.aQ (by simp<;>omega) (Ev.aQ (by simp<;>omega) Ev.some)))))
  unfold Ic;cases hf:(f&&mG n.kind)
  · rw [if_neg (by simp)];exact key f hf
  · rw [if_pos rfl];have hl1:=hlen false;unfold Ic at hl1;rw [if_neg (by simp)]at hl1;refine Ev.succ ?_;simp only [eu,hr,Option.bind_some,PX,hp,hf];exact Ev.cT rfl (Ev.bind (key false rfl) (Ev.aQ (by simp<;>omega) (Ev.aQ (by simp<;>omega) Ev.some)))
theorem ac9 {x:Nd} {b b':Nat} {cs:List Tm}:bX true (nd x b cs)=bX true (nd x b' cs):=by
  have h:(nd x b cs).args.length=(nd x b' cs).args.length:=by unfold nd;simp only [nT]
  unfold bX nY mH qh;rw [h];rfl
section
variable {e:List Nd} (hG:Good e)
include hG
mutual
theorem ahw: ∀(t:Tm) (b:Nat),Seg e b t->RI (flat 0 t) ⟨t.root.kind,t.root.text,fm t⟩
  | .mk x cs,b,uN=>by
    have hn:=uN.node;obtain⟨hV,hS⟩:=hG.2 _ _ hn;have hlt:=uN.lt;have hlen:=hG.1;simp only [size]at hlt;have hroot:=YC x cs (by omega);have hV0:bX true (nd x 0 cs)=0:=by rw [ac9 (b':=b)];exact hV
    have hS0:Small (nd x 0 cs):=⟨hS.text,hS.names,hS.each,by have:=hS.args;unfold nd at this⊢;simp only [nT]at this⊢;exact this⟩;have hsm: ∀f,(fm (.mk x cs) f).length<=1000000000:=fun f=>by
      have:=abS hG (.mk x cs) b uN f;simp only [size]at this;omega
    have hks:=aee cs x [] b uN;have hkl:(BS cs).length=(nd x 0 cs).args.length:=by rw [Xp];exact(nT 0 cs).symm
    have hcl:cs.length<=34:=by have:=hS0.args;unfold nd at this;simp only [nT]at this;exact this
    refine⟨⟨_,hroot,rfl,rfl⟩,fun f=> ?_,hsm⟩;show Ev (fun k=>eu k (flat 0 (.mk x cs)) (!f)) (fm (.mk x cs) f)
    rw [Tp];refine ahv (n:=nd x 0 cs) (ks:=BS cs) hks (hS0.sml hV0) hkl hV0 hroot ?_ (fun f=>by have:=hsm f;rw [Tp]at this;exact this) f;have hnd:=ani uN (fun i n hi=>by
      obtain⟨_,g⟩:=hG.2 i n hi;exact⟨by have:=g.names;omega,by have:=g.args;omega⟩) (by simp only [size];omega)
    have hargs:(nd x 0 cs).args.length=cs.length:=nT 0 cs;have key:Ev (fun k=>qc k (flat 0 (.mk x cs)) (nd x 0 cs).kind (nd x 0 cs).n (nd x 0 cs).text (nd x 0 cs).names (nd x 0 cs).args ((cs.map (flat 0)).take 0) ((0:Nat):Int)) (cs.map (flat 0)):=by
      refine jD (len:=cs.length) (p:=fun i=>Ev (fun k=>qc k (flat 0 (.mk x cs)) (nd x 0 cs).kind (nd x 0 cs).n (nd x 0 cs).text (nd x 0 cs).names (nd x 0 cs).args ((cs.map (flat 0)).take i) (i:Int)) (cs.map (flat 0))) ?_ fun i hi ih=> ?_
      · refine Ev.succ ?_;simp only [qc];exact Ev.cF (by rw [hargs];exact jl _) (Ev.some' (by rw [List.take_of_length_le (by simp)]))
      · obtain⟨l,c,m,h1,h2,h3⟩:=aq3 hi;have hop:=XO (x:=x) h1 (by omega) hnd;rw [h2]at hop;have hi':i<(cs.map (flat 0)).length:=by simpa using hi
        rw [List.take_succ_eq_append_getElem hi']at ih;have e1:(cs.map (flat 0))[i]=flat 0 c:=by
          rw [List.getElem_map];rw [aZ hi]at h3;rw [Option.some.inj h3]
        rw [e1]at ih;refine Ev.succ ?_;simp only [qc];rw [hargs];refine Ev.cT (kX hi) (Ev.bind hop (Ev.aQ (by rw [List.length_take];omega) ?_));rw [dQ hi (by omega)];exact ih
    exact key
theorem aee: ∀(cs:List Tm) (x:Nd) (l:List Tm) (b:Nat),Seg e b (.mk x (l++cs))->RL (cs.map (flat 0)) (BS cs)
  |[],x,l,b,uN=>by rw [BS];exact .nil
  |c::cs,x,l,b,uN=>by
    rw [List.map_cons,KG];exact .cons (ahw c _ uN.kid) (aee cs x (l++[c]) b (by simpa using uN))
end
end
end Go.VL
end
section
namespace Go.VL
def XQ (n:Nd):Bool:=decide (n.args.length<=34)&&decide (n.names.length<=34)&&decide (n.text.length<=80)&&n.names.all fun s=>decide (s.length<=80)
def RD (e:List Nd):Bool:=(e.take 172).all XQ&&decide (e.length<=170)
theorem ada {e:List Nd} {i:Nat} {n:Nd} (hn:e[i]? =some n) (hl:n.names.length<=34):Ev (fun k=>tQ k e (i:Int) ((0:Nat):Int)) (if(n.names.drop 0).all (fun s=>decide (s.length<=80))=true then .inl ()else .inr false):=by
  refine jD (len:=n.names.length) (p:=fun j=>Ev (fun k=>tQ k e (i:Int) (j:Int)) (if(n.names.drop j).all (fun s=>decide (s.length<=80))=true then .inl ()else .inr false)) ?_ fun j hj ih=> ?_
  · refine Ev.succ ?_;simp only [tQ,Int.toNat_natCast,hn,Option.bind_some,nn,if_true];exact Ev.cF (jl _) (Ev.some' (by simp))
  · refine Ev.succ ?_;simp only [tQ,Int.toNat_natCast,hn,aZ hj,Option.bind_some,nn,if_true,kX hj,cond_true,dQ hj (show n.names.length<=1099511627776 by omega)];rw [drop_cons hj];simp only [List.all_cons,Bool.and_eq_true,decide_eq_true_eq];by_cases h:n.names[j].length<=80
    · refine Ev.cF (decide_eq_false (by omega)) (ih.to ?_);simp only [h,true_and]
    · refine Ev.cT (decide_eq_true (by omega)) (Ev.some' ?_);simp only [h,false_and,if_false]
theorem PZ (i:Nat) (m:Nat):FV (i:Int) (decide ((i:Int)<(m:Int)))=some (decide (i<m)&&decide (i<172)):=by
  unfold FV;by_cases h:i<m
  · rw [zZ (decide_eq_true (by omega)),decide_eq_true h,Bool.true_and];by_cases h2:i<172
    · rw [decide_eq_true h2,decide_eq_true (show(i:Int)<172 by omega)]
    · rw [decide_eq_false h2,decide_eq_false (show ¬(i:Int)<172 by omega)]
  · rw [uI (decide_eq_false (by omega)),decide_eq_false h,Bool.false_and]
theorem ajT (e:List Nd):Ev (fun k=>SB k e) (RD e):=by
  have hlen:(e.take 172).length=min 172 e.length:=List.length_take;have key:Ev (fun k=>tT k e ((0:Nat):Int)) (if((e.take 172).drop 0).all XQ=true then .inl ()else .inr false):=by
    refine jD (len:=(e.take 172).length) (p:=fun i=>Ev (fun k=>tT k e (i:Int)) (if((e.take 172).drop i).all XQ=true then .inl ()else .inr false)) ?_ fun i hi ih=> ?_
    · refine Ev.succ ?_;simp only [tT,PZ];refine Ev.oP rfl (Ev.cF ?_ (Ev.some' (by rw [List.drop_length];rfl)));rw [Bool.and_eq_false_iff,decide_eq_false_iff_not,decide_eq_false_iff_not];omega
    · have hie:i<e.length:=by omega
      have arC:i<172:=by omega
      have hget:(e.take 172)[i]'hi=e[i]:=by simp
      refine Ev.succ ?_;simp only [tT,PZ,Int.toNat_natCast,aZ hie,Option.bind_some,nn,if_true,decide_eq_true hie,decide_eq_true arC,Bool.and_self,cond_true];rw [drop_cons hi,hget,dQ arC (by omega),List.all_cons];have hp:FW e (i:Int) (decide ((e[i].args.length:Int)>34))=some (!(decide (e[i].args.length<=34)&&decide (e[i].names.length<=34)&&decide (e[i].text.length<=80))):=by
        unfold FW;simp only [Int.toNat_natCast,aZ hie,Option.bind_some,nn,if_true];by_cases a:e[i].args.length<=34
        · rw [uI (decide_eq_false (by omega))];by_cases b:e[i].names.length<=34
          · rw [uI (decide_eq_false (by omega))];by_cases c:e[i].text.length<=80
            · rw [decide_eq_false (by omega)];simp [a,b,c]
            · rw [decide_eq_true (by omega)];simp [a,b,c]
          · rw [zZ (decide_eq_true (by omega))];simp [a,b]
        · rw [zZ (decide_eq_true (by omega))];simp [a]
      refine Ev.oP hp ?_;unfold XQ;by_cases h3:(decide (e[i].args.length<=34)&&decide (e[i].names.length<=34)&&decide (e[i].text.length<=80))=true
      · rw [h3];simp only [Bool.and_eq_true,decide_eq_true_eq]at h3;have h0:=ada (aZ hie) h3.1.2;rw [List.drop_zero]at h0;refine Ev.cF rfl (Ev.bind h0 ?_);cases h4:e[i].names.all fun s=>decide (s.length<=80)
        · simp only [Bool.false_eq_true,if_false,dK];exact Ev.some' (by simp)
        · simp only [if_true,dD,Bool.true_and];exact ih
      · have h3:(decide (e[i].args.length<=34)&&decide (e[i].names.length<=34)&&decide (e[i].text.length<=80))=false:=by simpa using h3
        rw [h3];exact Ev.cT rfl (Ev.some' (by simp))
  unfold SB;refine Ev.bind key ?_;rw [List.drop_zero];unfold RD;cases(e.take 172).all XQ
  · simp only [Bool.false_eq_true,if_false,dK,Bool.false_and];exact Ev.some
  · simp only [if_true,dD,Bool.true_and];refine Ev.some' ?_;by_cases h:e.length<=170
    · rw [decide_eq_true h,decide_eq_true (show(e.length:Int)<=170 by omega)]
    · rw [decide_eq_false h,decide_eq_false (show ¬(e.length:Int)<=170 by omega)]
theorem ahx {e:List Nd} (h:RD e=true):e.length<=170/\ ∀(i:Nat) n,e[i]? =some n->n.args.length<=34/\n.names.length<=34/\n.text.length<=80/\ ∀s∈n.names,s.length<=80:=by
  unfold RD at h;rw [Bool.and_eq_true,decide_eq_true_eq]at h;refine⟨h.2,fun i n hn=> ?_⟩;rw [List.take_of_length_le (by omega)]at h;have:=List.all_eq_true.1 h.1 n (List.mem_of_getElem? hn);unfold XQ at this;simp only [Bool.and_eq_true,decide_eq_true_eq,List.all_eq_true]at this;exact⟨this.1.1.1,this.1.1.2,this.1.2,this.2⟩
theorem ajU {e:List Nd} (h:RD e=true):Cj e:=by
  obtain⟨h1,h2⟩:=ahx h;exact⟨by omega,fun i n hn=>by have:=h2 i n hn;omega⟩
theorem ab9 {e:List Nd} (hL:Cj e):Ev (fun k=>Dt k e) e:=by
  have hlen:=hL.len;have key: ∀i,i<=e.length->Ev (fun k=>nN k e (e.take i) (i:Int)) e:=by
    refine down ?_ fun i hi ih=> ?_
    · refine Ev.succ ?_;simp only [nN];exact Ev.cF (jl _) (Ev.some' (by simp))
    · refine Ev.succ ?_;obtain⟨h1,h2,h3⟩:=hL.nd i _ (aZ hi);have e1:mY e[i].names=some e[i].names:=by
        unfold mY;rw [if_pos (by simp;omega)];rfl
      have e2:Dr e[i].args=some e[i].args:=by
        unfold Dr;rw [if_pos (by simp;omega)];rfl
      have e3:((e.take i).length+1)*80<=1099511627776:=by rw [List.length_take];omega
      simp only [nN,Int.toNat_natCast,aZ hi,Option.bind_some,nn,if_true,kX hi,cond_true,dQ hi (show e.length<=1099511627776 by omega),e1,e2,if_pos e3];rw [<-List.take_succ_eq_append_getElem hi];exact ih
  unfold Dt;exact Ev.bind (key 0 (Nat.zero_le _)) Ev.some
end Go.VL
end
section
namespace Go.VL
inductive Lx:List PV->List PV->Prop where
  |nil:Lx [] []
  |same {p:PV} {l m:List PV} (h:Lx l m):Lx (p::l) (p::m)
  |aB {es:List (List PV)} {c:Ck} {l m:List PV} (h:Lx l m):Lx (.aB es c::l) (.aB es .unk::m)
  |agg {cs ds l m:List PV} (h0:Lx cs ds) (h:Lx l m):Lx (.agg cs::l) (.agg ds::m)
theorem Lx.get {l m:List PV} (h:Lx l m):l.length=m.length/\ ∀(j:Nat) (q:PV),m[j]? =some q-> ∃p,l[j]? =some p/\ ∀(G:Gh) (n:Nat) (v:Value),V G n p v->V G n q v:=by
  induction h with
  |nil=>exact⟨rfl,fun j q e=>by simp at e⟩
  |same _ ih=>
    refine⟨by simp [ih.1],fun j q e=> ?_⟩;cases j with
    |zero=>simp at e;subst e;exact⟨_,rfl,fun _ _ _ h=>h⟩
    |succ j=>simp at e;simpa using ih.2 j q e
  |aB _ ih=>
    refine⟨by simp [ih.1],fun j q e=> ?_⟩;cases j with
    |zero=>simp at e;subst e;exact⟨_,rfl,fun _ _ _ h=>h.wk⟩
    |succ j=>simp at e;simpa using ih.2 j q e
  | @agg cs ds _ _ _ _ ih0 ih=>
    refine⟨by simp [ih.1],fun j q e=> ?_⟩;cases j with
    |zero=>
      simp at e;subst e;refine⟨_,rfl,fun G n v h=> ?_⟩;generalize hp:PV.agg cs=p at h;cases h with
      |agg cs' vs h1 h2=>
        cases hp;refine .agg ds vs (h1.trans ih0.1) fun j c x hc hx=> ?_;obtain⟨p,e1,e2⟩:=ih0.2 j c hc;exact e2 _ _ _ (h2 j p x e1 hx)
      |_=>cases hp
    |succ j=>simp at e;simpa using ih.2 j q e
variable [Glob]
theorem dS.wx {P:Program} {H:AH} {f:FuncId} {args args':List PV} {k:PV->AH->Prop} (h:dS P f args H k) (hw:Lx args' args):dS P f args' H k:=by
  obtain⟨h1,h2⟩:=hw.get;refine⟨h.enters,fun B G w vs hU hM hv=>h.call B G w vs hU hM ⟨hv.1.trans h1,fun j c x hc hx=> ?_⟩⟩;obtain⟨p,e,hp⟩:=h2 j c hc;exact hp _ _ _ (hv.2 j p x e hx)
theorem aG.wx {P:Program} {f:FuncId} {args args':List PV} {r:PV} (h:aG P f args r) (hw:Lx args' args):aG P f args' r:=fun H=>(h H).wx hw
end Go.VL
end
section
set_option maxRecDepth 8000
set_option maxHeartbeats 4000000
namespace Go.VL
open Go.Proofs
def Iw (k:Nat) (aT:Nd):Option Bool:=
  Option.bind (kI k aT.text) fun p2=>cond (aT.kind==2) (Option.bind (Du aT.text) fun p5=>cond p5 (cond (aT.kind==3) (some (!p2.2)) (some false)) (some true)) (cond (aT.kind==3) (some (!p2.2)) (some false))
theorem adb {k:Nat} {aT:Nd} {r:Bool} (h:Iw k aT=some r):aG Tryz.prog 80 [(.agg (Nd.cells aT))] (.bool r):=by
  refine aG.aR (bB.mem (.cons (.agg _ (Nd.pu _)) .nil)) (aI aip (by simp) (aF ?_)) (.bool _);unfold Iw at h;unfold ao7;obtain⟨p2,e1,h⟩:=aj h;try refine ah ?_
  refine aA (qj e1) ?_;rcases au h with⟨e3,h⟩|⟨e3,h⟩
  ·obtain⟨p5,e4,h⟩:=aj h;try refine ah ?_
   refine aA (Pq e4) ?_;rcases au h with⟨e6,h⟩|⟨e6,h⟩
   ·rcases au h with⟨e7,h⟩|⟨e7,h⟩
    ·obtain rfl:=ak h;try refine ah ?_
     exact(.pure _ (.bool _))
    ·obtain rfl:=ak h;try refine ah ?_
     exact(.pure _ (.bool _))
   ·obtain rfl:=ak h;try refine ah ?_
    exact(.pure _ (.bool _))
  ·rcases au h with⟨e8,h⟩|⟨e8,h⟩
   ·obtain rfl:=ak h;try refine ah ?_
    exact(.pure _ (.bool _))
   ·obtain rfl:=ak h;try refine ah ?_
    exact(.pure _ (.bool _))
def GD (s_0:Str):Option (List Nd):=
  some [(Nd.mk 2 0 s_0 [] [])]
theorem KS {s_0:Str} {r:List Nd} (h:GD s_0=some r):aG Tryz.prog 89 [(.str s_0)] (.aB (r.map Nd.cells) .unk):=by
  refine aG.aR (bB.mem (.cons (.str _) .nil)) (aI avp (by simp) (aF ?_)) (bC Nd.pu _);unfold GD at h;unfold apb;obtain rfl:=ak h;try refine ah ?_
  exact(jr Nd.pu [(Nd.mk 2 0 s_0 [] [])] _)
def DU:Nat->Int->Int->Int->Str->(List Str)->(List Int)->(List Int)->Int->Option (List Int)
  |0,_,_,_,_,_,_,_,_=>none
  |k+1,kR,GH,GI,GJ,GK,BO,u6,Jc=>
    cond (decide (Jc<(BO.length:Int))) (if 0<=Jc then Option.bind (BO[Jc.toNat]?) fun NS=>if(u6.length+1)*8<=1099511627776 then DU k kR GH GI GJ GK BO (u6++[(IntKind.wrap .i64 (NS+kR))]) (IntKind.wrap .i64 (Jc+1))else none else none) (some (u6))
def Un:List Nat:=[11,12]++List.range' 47 17
theorem ade: ∀(k:Nat) (DV:Nat) (kR:Int) (GH:Int) (GI:Int) (GJ:Str) (GK:List Str) (BO:List Int) (u6:List Int) (Jc:Int) (nW:Ck) (lJ:Ck) (xS:Ck) (aC σ:Nat->PV) (H0 H:AH) (f0:Fr Un aC σ) (hf0:HF [] H0 H) (sl:σ 8=(.int .i64 kR)/\σ 10=(.ref (DV) 0)/\σ 11=(.aB (u6.map bI) nW)/\σ 12=(.int .i64 Jc)/\H.obj DV=some [(.int .i64 GH),(.int .i64 GI),(.str GJ),(.aB (GK.map aX) .unk),(.aB (BO.map bI) .unk)]) (KT:DV<H.next) (Uo:d9 H nW) (Io:d9 H lJ) (alP:d9 H xS) (qN:qw nW lJ) (qO:qw nW xS) (rP:qw lJ xS) (o:List Int) (h:DU k kR GH GI GJ GK BO u6 Jc=some o) (Q:Post) (q0: ∀(p:List Int) (c0:Ck) (σ':Nat->PV) (H':AH),o=p->Fr Un aC σ'->HF [] H0 H'->(σ' 11=(.aB (p.map bI) c0))->d9 H' lJ->d9 H' xS->qw lJ xS->Q (.exit 4) σ' H'),W Tryz.prog (.loop VA) Q σ H:=by
  intro k
  induction k with
  |zero=>intro DV kR GH GI GJ GK BO u6 Jc nW lJ xS aC σ H0 H f0 hf0 sl KT Uo Io alP qN qO rP o h Q q0;simp only [DU,reduceCtorEq]at h
  |succ k ih=>
    intro DV kR GH GI GJ GK BO u6 Jc nW lJ xS aC σ H0 H f0 hf0 sl KT Uo Io alP qN qO rP o h Q q0;obtain⟨s8,s10,s11,s12,awY⟩:=sl;have awZ:=ne_next KT;have aw0:=aU KT;have hle0:=hf0.1;unfold DU at h;refine bA (fun K hK=>aF ?_);unfold VA;rcases au h with⟨e13,h⟩|⟨e13,h⟩
    ·obtain⟨e14,h⟩:=aD h;obtain⟨NS,e16,h⟩:=aj h;obtain⟨e21,h⟩:=aD h;try refine ah ?_
     refine jV (f:=bI) Ji u6 ([(IntKind.wrap .i64 (NS+kR))]:List Int) nW .exact av av eO (by first|exact e21|(simp only [List.length_cons,List.length_nil];exact e21)) (fun c17 H18 aik le aw1 arE=> ?_);have aw2:HF [] _ H18:=⟨le,fun i _ _=>aw1 i⟩;try simp only [AH.aJ,AH.aK,AH.aL,AH.aM]at le
     obtain⟨aoq,aw3⟩:=arE lJ eO qN;obtain⟨aot,aw4⟩:=arE xS eO qO;have n28:=ne_next (show DV<H18.next by first|omega|(simp only [AH.aJ,AH.aK,AH.aL,AH.aM];omega));have m29:=aU (show DV<H18.next by first|omega|(simp only [AH.aJ,AH.aK,AH.aL,AH.aM];omega));try refine ah ?_
     refine hK _ _ ?_;exact ih DV kR GH GI GJ GK BO (u6++[(IntKind.wrap .i64 (NS+kR))]) (IntKind.wrap .i64 (Jc+1)) c17 lJ xS _ _ _ _ aO (by repeat (first|exact hf0|refine HF.new ?_|refine HF.dR ?_|refine HF.used ?_|refine HF.put (by first|(right;omega)|(left;simp only [List.mem_cons,true_or,or_true])) ?_|refine HF.via aw2 (by first|exact fun i hi=>absurd hi List.not_mem_nil|(intro i hi;simp only [List.mem_cons,List.not_mem_nil,or_false]at hi⊢;first|exact .inl hi|omega)) ?_)) av bE eO eO eO aw3 aw4 rP _ h _ q0
    ·obtain rfl:=ak h;try refine ah ?_
     exact q0 _ nW _ _ rfl aO (by repeat (first|exact hf0|refine HF.new ?_|refine HF.dR ?_|refine HF.used ?_|refine HF.put (by first|(right;omega)|(left;simp only [List.mem_cons,true_or,or_true])) ?_)) av eO eO rP
def DW:Nat->(List (List Nd))->(List Nd)->Int->Int->Int->Option (List Nd)
  |0,_,_,_,_,_=>none
  |k+1,bL,dh,eU,kR,yh=>
    if 0<=eU then Option.bind (bL[eU.toNat]?) fun x5=>cond (decide (yh<(x5.length:Int))) (if 0<=yh then Option.bind (x5[yh.toNat]?) fun x9=>Option.bind (mY x9.names) fun jW=>Option.bind (DU k kR x9.kind x9.n x9.text jW x9.args ([]:List Int) 0) (fun p32=>if(dh.length+1)*80<=1099511627776 then DW k bL (dh++[(Nd.mk x9.kind x9.n x9.text jW p32)]) eU kR (IntKind.wrap .i64 (yh+1))else none)else none) (some (dh))else none
def Uq:List Nat:=[5,9,10,11,12]++List.range' 27 43
theorem adf: ∀(k:Nat) (bL:List (List Nd)) (dh:List Nd) (eU:Int) (kR:Int) (yh:Int) (pE:Ck) (xU:Ck) (aC σ:Nat->PV) (H0 H:AH) (f0:Fr Uq aC σ) (hf0:HF [] H0 H) (sl:σ 1=(.aB (bL.map (oJ Nd.cells)) .unk)/\σ 5=(.aB (dh.map Nd.cells) pE)/\σ 7=(.int .i64 eU)/\σ 8=(.int .i64 kR)/\σ 9=(.int .i64 yh)) (l5:d9 H pE) (Io:d9 H xU) (oo:qw pE xU) (o:List Nd) (h:DW k bL dh eU kR yh=some o) (Q:Post) (q0: ∀(p:List Nd) (c0:Ck) (σ':Nat->PV) (H':AH),o=p->Fr Uq aC σ'->HF [] H0 H'->(σ' 5=(.aB (p.map Nd.cells) c0))->d9 H' c0->d9 H' xU->qw c0 xU->Q (.exit 2) σ' H'),W Tryz.prog (.loop VB) Q σ H:=by
  intro k
  induction k with
  |zero=>intro bL dh eU kR yh pE xU aC σ H0 H f0 hf0 sl l5 Io oo o h Q q0;simp only [DW,reduceCtorEq]at h
  |succ k ih=>
    intro bL dh eU kR yh pE xU aC σ H0 H f0 hf0 sl l5 Io oo o h Q q0;obtain⟨s1,s5,s7,s8,s9⟩:=sl;have hle0:=hf0.1;unfold DW at h;refine bA (fun K hK=>aF ?_);unfold VB;obtain⟨e4,h⟩:=aD h;obtain⟨x5,e6,h⟩:=aj h;rcases au h with⟨e7,h⟩|⟨e7,h⟩
    ·obtain⟨e8,h⟩:=aD h;obtain⟨x9,e10,h⟩:=aj h;obtain⟨jW,e11,h⟩:=aj h;try refine ah ?_
     refine aA (AB e11) ?_;try refine ah ?_
     obtain⟨o30,h31,h⟩:=aj h;refine ade k (H.next) kR x9.kind x9.n x9.text jW x9.args ([]:List Int) 0 .nil pE xU _ _ _ _ (Fr.refl _ _) (HF.refl _ _) av bE eO eO eO qw.nil qw.nil oo _ h31 _ ?_
     ·rintro p32 c36 σ' H35 eo vo abJ s37 av4 aAF aw5;rw [eo]at h;have s41:σ' 1=(.aB (bL.map (oJ Nd.cells)) .unk):=(vo 1 (by decide)).trans av;have s42:σ' 5=(.aB (dh.map Nd.cells) pE):=(vo 5 (by decide)).trans av;have s43:σ' 7=(.int .i64 eU):=(vo 7 (by decide)).trans av;have s44:σ' 8=(.int .i64 kR):=(vo 8 (by decide)).trans av;have s45:σ' 9=(.int .i64 yh):=(vo 9 (by decide)).trans av;have s46:σ' 10=(.ref (H.next) 0):=(vo 10 (by decide)).trans av;have le:=abJ.1;try simp only [AH.aJ,AH.aK,AH.aL,AH.aM]at le
      have g47:H35.obj (H.next)=some [(.int .i64 x9.kind),(.int .i64 x9.n),(.str x9.text),(.aB (jW.map aX) .unk),(.aB (x9.args.map bI) .unk)]:=(abJ.2 _ bE (by first|exact List.not_mem_nil|(simp only [List.mem_cons,List.not_mem_nil,or_false,not_or];omega))).trans av;have n48:=ne_next (show H.next<H35.next by first|omega|(simp only [AH.aJ,AH.aK,AH.aL,AH.aM];omega));have m49:=aU (show H.next<H35.next by first|omega|(simp only [AH.aJ,AH.aK,AH.aL,AH.aM];omega));obtain⟨e54,h⟩:=aD h;try refine ah ?_
      refine jV (f:=Nd.cells) Nd.row dh ([(Nd.mk x9.kind x9.n x9.text jW p32)]:List Nd) pE .exact av av eO (by first|exact e54|(simp only [List.length_cons,List.length_nil];exact e54)) (fun c50 H51 aoO le aw6 aw7=> ?_);have ajA:HF [] _ H51:=⟨le,fun i _ _=>aw6 i⟩;try simp only [AH.aJ,AH.aK,AH.aL,AH.aM]at le
      obtain⟨ail,aw8⟩:=aw7 xU eO aw5;have n59:=ne_next (show H.next<H51.next by first|omega|(simp only [AH.aJ,AH.aK,AH.aL,AH.aM];omega));have m60:=aU (show H.next<H51.next by first|omega|(simp only [AH.aJ,AH.aK,AH.aL,AH.aM];omega));try refine ah ?_
      refine hK _ _ ?_;exact ih bL (dh++[(Nd.mk x9.kind x9.n x9.text jW p32)]) eU kR (IntKind.wrap .i64 (yh+1)) c50 xU _ _ _ _ (by repeat (first|exact f0|refine Fr.upd (by decide) ?_|refine Fr.via vo (by decide) ?_)) (by repeat (first|exact hf0|refine HF.new ?_|refine HF.dR ?_|refine HF.used ?_|refine HF.put (by first|(right;omega)|(left;simp only [List.mem_cons,true_or,or_true])) ?_|refine HF.via abJ (by first|exact fun i hi=>absurd hi List.not_mem_nil|(intro i hi;simp only [List.mem_cons,List.not_mem_nil,or_false]at hi⊢;first|exact .inl hi|omega)) ?_|refine HF.via ajA (by first|exact fun i hi=>absurd hi List.not_mem_nil|(intro i hi;simp only [List.mem_cons,List.not_mem_nil,or_false]at hi⊢;first|exact .inl hi|omega)) ?_)) av eO eO aw8 _ h _ q0
    ·obtain rfl:=ak h;try refine ah ?_
     exact q0 _ pE _ _ rfl aO (by repeat (first|exact hf0|refine HF.new ?_|refine HF.dR ?_|refine HF.used ?_|refine HF.put (by first|(right;omega)|(left;simp only [List.mem_cons,true_or,or_true])) ?_)) av eO eO oo
def DX:Nat->(List (List Nd))->(List Nd)->Int->Int->Str->(List Str)->(List Int)->Int->Option (((List Nd)×Int×Int×Str×(List Str)×(List Int)))
  |0,_,_,_,_,_,_,_,_=>none
  |k+1,bL,dh,EP,ER,ES,ET,BP,eU=>
    cond (decide (eU<(bL.length:Int))) (Option.bind (DW k bL dh eU (dh.length:Int) 0) (fun p63=>if(BP.length+1)*8<=1099511627776 then DX k bL p63 EP ER ES ET (BP++[(IntKind.wrap .i64 ((p63.length:Int) -1))]) (IntKind.wrap .i64 (eU+1))else none)) (some ((dh,EP,ER,ES,ET,BP)))
def Ur:List Nat:=[5,7,8,9,10,11,12]++List.range' 19 59
theorem adg: ∀(k:Nat) (uz:Nat) (bL:List (List Nd)) (dh:List Nd) (EP:Int) (ER:Int) (ES:Str) (ET:List Str) (BP:List Int) (eU:Int) (uD:Ck) (pF:Ck) (aC σ:Nat->PV) (H0 H:AH) (f0:Fr Ur aC σ) (hf0:HF [uz] H0 H) (sl:σ 1=(.aB (bL.map (oJ Nd.cells)) .unk)/\σ 5=(.aB (dh.map Nd.cells) uD)/\σ 6=(.ref (uz) 0)/\σ 7=(.int .i64 eU)/\H.obj uz=some [(.int .i64 EP),(.int .i64 ER),(.str ES),(.aB (ET.map aX) .unk),(.aB (BP.map bI) pF)]) (OG:uz<H.next) (l5:d9 H uD) (acd:d9 H pF) (qE:qw uD pF) (o:((List Nd)×Int×Int×Str×(List Str)×(List Int))) (h:DX k bL dh EP ER ES ET BP eU=some o) (Q:Post) (q0: ∀(p:(List Nd)×Int×Int×Str×(List Str)×(List Int)) (c0:Ck) (c5:Ck) (σ':Nat->PV) (H':AH),o=p->Fr Ur aC σ'->HF [uz] H0 H'->(σ' 5=(.aB (p.1.map Nd.cells) c0)/\H'.obj uz=some [(.int .i64 p.2.1),(.int .i64 p.2.2.1),(.str p.2.2.2.1),(.aB (p.2.2.2.2.1.map aX) .unk),(.aB (p.2.2.2.2.2.map bI) c5)])->d9 H' c0->Q (.exit 0) σ' H'),W Tryz.prog (.loop VD) Q σ H:=by
  intro k
  induction k with
  |zero=>intro uz bL dh EP ER ES ET BP eU uD pF aC σ H0 H f0 hf0 sl OG l5 acd qE o h Q q0;simp only [DX,reduceCtorEq]at h
  |succ k ih=>
    intro uz bL dh EP ER ES ET BP eU uD pF aC σ H0 H f0 hf0 sl OG l5 acd qE o h Q q0;obtain⟨s1,s5,s6,s7,axt⟩:=sl;have axu:=ne_next OG;have axv:=aU OG;have hle0:=hf0.1;unfold DX at h;refine bA (fun K hK=>aF ?_);unfold VD;rcases au h with⟨e3,h⟩|⟨e3,h⟩
    ·try refine ah ?_
     obtain⟨o61,h62,h⟩:=aj h;refine adf k bL dh eU (dh.length:Int) 0 uD pF _ _ _ _ (Fr.refl _ _) (HF.refl _ _) av eO eO qE _ h62 _ ?_
     ·rintro p63 c67 σ' H66 eo IU ajV s69 ain aio aw9;rw [eo]at h;have s72:σ' 1=(.aB (bL.map (oJ Nd.cells)) .unk):=(IU 1 (by decide)).trans av;have s73:σ' 6=(.ref (uz) 0):=(IU 6 (by decide)).trans av;have s74:σ' 7=(.int .i64 eU):=(IU 7 (by decide)).trans av;have le:=ajV.1;try simp only [AH.aJ,AH.aK,AH.aL,AH.aM]at le
      have g75:H66.obj (uz)=some [(.int .i64 EP),(.int .i64 ER),(.str ES),(.aB (ET.map aX) .unk),(.aB (BP.map bI) pF)]:=(ajV.2 _ bE (by first|exact List.not_mem_nil|(simp only [List.mem_cons,List.not_mem_nil,or_false,not_or];omega))).trans av;have n76:=ne_next (show uz<H66.next by first|omega|(simp only [AH.aJ,AH.aK,AH.aL,AH.aM];omega));have m77:=aU (show uz<H66.next by first|omega|(simp only [AH.aJ,AH.aK,AH.aL,AH.aM];omega));obtain⟨Ph,h⟩:=aD h;try refine ah ?_
      refine jV (f:=bI) Ji BP ([(IntKind.wrap .i64 ((p63.length:Int) -1))]:List Int) pF .exact av av eO (by first|exact Ph|(simp only [List.length_cons,List.length_nil];exact Ph)) (fun c78 H79 aip le axa axb=> ?_);have axc:HF [] _ H79:=⟨le,fun i _ _=>axa i⟩;try simp only [AH.aJ,AH.aK,AH.aL,AH.aM]at le
      obtain⟨aAG,axd⟩:=axb c67 eO (qw.symm aw9);have n87:=ne_next (show uz<H79.next by first|omega|(simp only [AH.aJ,AH.aK,AH.aL,AH.aM];omega));have m88:=aU (show uz<H79.next by first|omega|(simp only [AH.aJ,AH.aK,AH.aL,AH.aM];omega));try refine ah ?_
      refine hK _ _ ?_;exact ih uz bL p63 EP ER ES ET (BP++[(IntKind.wrap .i64 ((p63.length:Int) -1))]) (IntKind.wrap .i64 (eU+1)) c67 c78 _ _ _ _ (by repeat (first|exact f0|refine Fr.upd (by decide) ?_|refine Fr.via IU (by decide) ?_)) (by repeat (first|exact hf0|refine HF.new ?_|refine HF.dR ?_|refine HF.used ?_|refine HF.put (by first|(right;omega)|(left;simp only [List.mem_cons,true_or,or_true])) ?_|refine HF.via ajV (by first|exact fun i hi=>absurd hi List.not_mem_nil|(intro i hi;simp only [List.mem_cons,List.not_mem_nil,or_false]at hi⊢;first|exact .inl hi|omega)) ?_|refine HF.via axc (by first|exact fun i hi=>absurd hi List.not_mem_nil|(intro i hi;simp only [List.mem_cons,List.not_mem_nil,or_false]at hi⊢;first|exact .inl hi|omega)) ?_)) av bE eO eO (qw.symm axd) _ h _ q0
    ·obtain rfl:=ak h;try refine ah ?_
     exact q0 _ uD pF _ _ rfl aO (by repeat (first|exact hf0|refine HF.new ?_|refine HF.dR ?_|refine HF.used ?_|refine HF.put (by first|(right;omega)|(left;simp only [List.mem_cons,true_or,or_true])) ?_)) av eO
def ace (k:Nat) (yN:Nd) (bL:List (List Nd)):Option (List Nd):=
  Option.bind (mY yN.names) fun p2=>Option.bind (DX k bL ([]:List Nd) yN.kind yN.n yN.text p2 ([]:List Int) 0) (fun mI=>if(mI.1.length+1)*80<=1099511627776 then some (mI.1++[(Nd.mk mI.2.1 mI.2.2.1 mI.2.2.2.1 mI.2.2.2.2.1 mI.2.2.2.2.2)])else none)
theorem ajW {k:Nat} {yN:Nd} {bL:List (List Nd)} {c1:Ck} {r:List Nd} (h:ace k yN bL=some r):aG Tryz.prog 84 [(.agg (Nd.cells yN)),(.aB (bL.map (oJ Nd.cells)) c1)] (.aB (r.map Nd.cells) .unk):=by
  refine aG.lw (.same (.aB .nil)) (aG.aR (bB.mem (.cons (.agg _ (Nd.pu _)) (.cons (bC (FI Nd.pu) _) .nil))) (aI avn (by simp) (aF ?_)) (bC Nd.pu _));unfold ace at h;unfold ao9;obtain⟨p2,e1,h⟩:=aj h;try refine ah ?_
  refine aA (AB e1) ?_;try refine ah ?_
  obtain⟨o89,h90,h⟩:=aj h;refine adg k (AH.empty.next+1) bL ([]:List Nd) yN.kind yN.n yN.text p2 ([]:List Int) 0 .nil .nil _ _ _ _ (Fr.refl _ _) (HF.refl _ _) av bE eO eO qw.nil _ h90 _ ?_
  ·rintro mI c95 c98 σ' H94 eo aiJ aiK ⟨s97,g99⟩ apk;rw [eo]at h;have aiB:σ' 6=(.ref (AH.empty.next+1) 0):=(aiJ 6 (by decide)).trans av;have le:=aiK.1;try simp only [AH.aJ,AH.aK,AH.aL,AH.aM]at le
   have n102:=ne_next (show AH.empty.next+1<H94.next by first|omega|(simp only [AH.aJ,AH.aK,AH.aL,AH.aM];omega));have aAH:=aU (show AH.empty.next+1<H94.next by first|omega|(simp only [AH.aJ,AH.aK,AH.aL,AH.aM];omega));obtain⟨e108,h⟩:=aD h;try refine ah ?_
   refine jV (f:=Nd.cells) Nd.row mI.1 ([(Nd.mk mI.2.1 mI.2.2.1 mI.2.2.2.1 mI.2.2.2.2.1 mI.2.2.2.2.2)]:List Nd) c95 .exact av av eO (by first|exact e108|(simp only [List.length_cons,List.length_nil];exact e108)) (fun aAI acf akn le atl azk=> ?_);have azl:HF [] _ acf:=⟨le,fun i _ _=>atl i⟩;try simp only [AH.aJ,AH.aK,AH.aL,AH.aM]at le
   have n111:=ne_next (show AH.empty.next<acf.next by first|omega|(simp only [AH.aJ,AH.aK,AH.aL,AH.aM];omega));have aAJ:=aU (show AH.empty.next<acf.next by first|omega|(simp only [AH.aJ,AH.aK,AH.aL,AH.aM];omega));have n113:=ne_next (show AH.empty.next+1<acf.next by first|omega|(simp only [AH.aJ,AH.aK,AH.aL,AH.aM];omega));have aAK:=aU (show AH.empty.next+1<acf.next by first|omega|(simp only [AH.aJ,AH.aK,AH.aL,AH.aM];omega));obtain rfl:=ak h;try refine ah ?_
   exact(jr Nd.pu _ _)
def OH (k:Nat) (EU:Str) (bL:List (List Nd)):Option (List Nd):=
  Option.bind (ace k (Nd.mk 3 0 EU [] []) bL) fun p2=>some p2
theorem YF {k:Nat} {EU:Str} {bL:List (List Nd)} {c1:Ck} {r:List Nd} (h:OH k EU bL=some r):aG Tryz.prog 88 [(.str EU),(.aB (bL.map (oJ Nd.cells)) c1)] (.aB (r.map Nd.cells) .unk):=by
  refine aG.lw (.same (.aB .nil)) (aG.aR (bB.mem (.cons (.str _) (.cons (bC (FI Nd.pu) _) .nil))) (aI avo (by simp) (aF ?_)) (bC Nd.pu _));unfold OH at h;unfold apa;obtain⟨p2,e1,h⟩:=aj h;try refine ah ?_
  refine aA (aG.wx (ajW e1) (.agg (.same (.same (.same (.aB (.aB .nil))))) (.same .nil))) ?_;obtain rfl:=ak h;try refine ah ?_
  exact(jr Nd.pu _ _)
def afA (k:Nat):Option (List Nd):=
  Option.bind (GD ([97]:Str)) fun p2=>Option.bind (GD ([98]:Str)) fun p4=>Option.bind (GD ([99]:Str)) fun p6=>Option.bind (OH k ([42]:Str) [p4,p6]) fun p8=>Option.bind (OH k ([43]:Str) [p2,p8]) fun fE=>some fE
theorem aef {k:Nat} {r:List Nd} (h:afA k=some r):aG Tryz.prog 45 [] (.aB (r.map Nd.cells) .unk):=by
  refine aG.aR (bB.mem .nil) (aI au1 (by simp) (aF ?_)) (bC Nd.pu _);unfold afA at h;unfold aoF;obtain⟨p2,e1,h⟩:=aj h;try refine ah ?_
  refine aA (KS e1) ?_;obtain⟨p4,e3,h⟩:=aj h;try refine ah ?_
  refine aA (KS e3) ?_;obtain⟨p6,e5,h⟩:=aj h;try refine ah ?_
  refine aA (KS e5) ?_;obtain⟨p8,e7,h⟩:=aj h;try refine ah ?_
  refine aA (YF e7) ?_;obtain⟨fE,e9,h⟩:=aj h;try refine ah ?_
  refine aA (YF e9) ?_;obtain rfl:=ak h;try refine ah ?_
  exact(jr Nd.pu _ _)
end Go.VL
end
section
set_option maxRecDepth 8000
namespace Go.VL
open Go.Proofs
def KU (k:Nat) (e:List Nd) (out:List Str) (at_:Int) (bound:List Str):Option (List Str):=
  if 0<=at_ then Option.bind (e[at_.toNat]?) fun n=>Option.bind (Iw k n) fun b=>cond b (Option.bind (dV k bound n.text) fun c=>cond c (some out) (if(out.length+1)*16<=1099511627776 then some (out++[n.text])else none)) (some out)else none
def alQ (e:List Nd) (o0 o1:Nat) (out:List Str) (H:AH):Prop:=o0<H.next/\o1<H.next/\o0≠o1/\H.obj o0=some [lU e]/\ ∃v ids,H.obj o1=some [v]/\aS H aX 1 out v ids/\o0∉ids/\o1∉ids
theorem afB (k:Nat) (e:List Nd) (o0 o1:Nat):Visit 118 [.ref o0 0,.ref o1 0] (alQ e o0 o1) (KU k e) where
  stable:=by
    rintro a H H' ⟨h1,h2,h3,h4,v,ids,h5,h6,h7,h8⟩ hn ho hc;exact⟨by omega,by omega,h3,(ho _).trans h4,v,ids,(ho _).trans h5,h6.hf (M:=[]) ⟨hn,fun i _ _=>ho i⟩ (fun _ _ h=>by cases h),h7,h8⟩
  call:=by
    rintro a at_ bound a' H ⟨h1,h2,h3,h4,v,ids,h5,h6,h7,h8⟩ h
    unfold KU at h;by_cases e1:0<=at_
    case neg=>rw [if_neg e1]at h;cases h
    rw [if_pos e1]at h;cases e2:e[at_.toNat]? with
    |none=>rw [z8 e2]at h;cases h
    |some n=>
    rw [Aa e2]at h;cases e3:Iw k n with
    |none=>rw [z8 e3]at h;cases h
    |some b=>
    rw [Aa e3]at h;refine aI asi (by simp) (aF ?_);unfold akx;simp -implicitDefEqProofs only [go_sem,↓reduceIte,Nat.reduceEqDiff,h4,e1,e2,List.getElem?_map,Option.map_some,Nat.reduceAdd];refine aA (adb e3) ?_;cases b with
    |false=>
      rw [uI rfl]at h;cases h;simp -implicitDefEqProofs only [go_sem,↓reduceIte,Nat.reduceEqDiff,h4,e1,e2,List.getElem?_map,Option.map_some,Nat.reduceAdd];exact⟨h1,h2,h3,h4,v,ids,h5,h6,h7,h8⟩
    |true=>
      rw [zZ rfl]at h;cases e4:dV k bound n.text with
      |none=>rw [z8 e4]at h;cases h
      |some c=>
      rw [Aa e4]at h;simp -implicitDefEqProofs only [go_sem,↓reduceIte,Nat.reduceEqDiff,h4,e1,e2,List.getElem?_map,Option.map_some,Nat.reduceAdd];refine aA (kT e4) ?_;cases c with
      |true=>
        rw [zZ rfl]at h;cases h;simp -implicitDefEqProofs only [go_sem,↓reduceIte,Nat.reduceEqDiff,h4,e1,e2,List.getElem?_map,Option.map_some,Nat.reduceAdd];exact⟨h1,h2,h3,h4,v,ids,h5,h6,h7,h8⟩
      |false=>
        rw [uI rfl]at h;by_cases e5:(a.length+1)*16<=1099511627776
        case neg=>rw [if_neg e5]at h;cases h
        rw [if_pos e5]at h;cases h;simp -implicitDefEqProofs only [go_sem,↓reduceIte,Nat.reduceEqDiff,h4,e1,e2,List.getElem?_map,Option.map_some,Nat.reduceAdd];refine bO ?_;simp -implicitDefEqProofs only [go_sem,↓reduceIte,Nat.reduceEqDiff,h4,h5,e1,e2,List.getElem?_map,Option.map_some,Nat.reduceAdd];refine MO (f:=aX) uR a [n.text] .exact (by simp -implicitDefEqProofs only [go_sem,↓reduceIte,Nat.reduceEqDiff]) h6 (by simp -implicitDefEqProofs only [go_sem,↓reduceIte,Nat.reduceEqDiff]) (by simp) (by simpa using e5) (fun v' zo H' g1 g2 g3 g4=> ?_);have k0:H'.obj o0=some [lU e]:=(g3.2 o0 h1 h7).trans h4;have k1:H'.obj o1=some [v]:=(g3.2 o1 h2 h8).trans h5;have n0: ¬o0∈zo:=fun hm=>by
          rcases g2 o0 hm with q|q
          · exact h7 q
          · omega
        have n1: ¬o1∈zo:=fun hm=>by
          rcases g2 o1 hm with q|q
          · exact h8 q
          · omega
        have g1':=g1;rcases g1 with⟨_,q,_⟩|⟨id,cap,junk,rfl,rfl,q1,q2,q3,q4⟩
        · simp at q
        · have hid:id≠o1:=fun e=>n1 (by rw [e];exact List.mem_singleton.2 rfl);simp -implicitDefEqProofs only [go_sem,J8,↓reduceIte,Nat.reduceEqDiff,k1,List.length_cons,List.length_nil,Nat.reduceAdd,Nat.le_refl];refine⟨Nat.lt_of_lt_of_le h1 g3.1,Nat.lt_of_lt_of_le h2 g3.1,h3,?_,_,[id],?_,g1'.put n1,n0,n1⟩
          · show(if o0=o1 then _ else H'.obj o0)=_
            rw [if_neg h3];exact k0
          · show(if o1=o1 then _ else H'.obj o1)=_
            rw [if_pos rfl]
end Go.VL
end
section
namespace Go.VL
open Go.Proofs Go.RowKit
section
variable {B:Nat->Prop} {G:Gh} {H:AH} {w w':World}
theorem HM.putRow (hM:HM B H G w) {id b:Nat} {cs cs':List PV} {arr:Array Value} {t:TypeId} (d:Array (List UInt8)) (n:Nat) (os:Array Obj) (ho:H.obj id=some cs) (hm:G.m id=some b) (hb:w.heap[b]? =some (.cells arr t (0,0)))
    (hV:Vs G H.next cs' (Sort.putCells encStr 0 d arr)):HM B (H.put id cs') G (Sort.grow (Sort.putRow encStr (Sort.ahead w n) b 0 d) os)/\Tr B w (Sort.grow (Sort.putRow encStr (Sort.ahead w n) b 0 d) os):=by
  obtain⟨h1,h2⟩:=hM.putObj ho hm hb hV;have hh:(Sort.putRow encStr (Sort.ahead w n) b 0 d).heap=(w.setRow b (Sort.putCells encStr 0 d arr)).heap:=by
    apply Array.ext_getElem?
    intro k;by_cases hk:k=b
    · subst hk;rw [setRow_heap w k arr _ t (0,0) hb];show(w.heap.modify k _)[k]? =_
      rw [Array.getElem?_modify,if_pos rfl,hb];rfl
    · rw [setRow_other w b k _ hk];show(w.heap.modify b _)[k]? =_
      rw [Array.getElem?_modify,if_neg (Ne.symm hk)]
  have hB:Below (w.setRow b (Sort.putCells encStr 0 d arr)).heap.size (w.setRow b (Sort.putCells encStr 0 d arr)) (Sort.grow (Sort.putRow encStr (Sort.ahead w n) b 0 d) os):=by
    refine⟨rfl,rfl,rfl,?_,fun k hk=> ?_⟩
    · rw [Sort.size_grow,hh];exact Nat.le_add_right _ _
    · rw [<-hh]at hk⊢;rw [Sort.heap_grow_old _ _ hk]
  exact⟨h1.below hB,(Tr.setRow h2 _).trans (Tr.below hB)⟩
theorem atm {n:Nat} {s:List UInt8} {v:Value} (h:V G n (.str s) v):v= .string ⟨s.toArray⟩:=by cases h;rfl
theorem alR {n id off len cap sz:Nat} {v:Value} (h:V G n (.dP id off len cap sz) v): ∃b,id<n/\G.m id=some b/\v= .slice (some ⟨b,off,none⟩) len cap:=by
  cases h with
  |dP _ _ _ _ _ b h1 h2=>exact⟨b,h1,h2,rfl⟩
theorem DY (l:List Str):(l.map aX).flatten=l.map PV.str:=by
  induction l with
  |nil=>rfl
  |cons s l ih=>rw [List.map_cons,List.flatten_cons,ih];rfl
theorem YG {l:List Str} {junk:List PV} {arr:Array Value} {b:Nat} {t:TypeId} (hb:w.heap[b]? =some (.cells arr t (0,0))) (hV:Vs G H.next ((l.map aX).flatten++junk) arr):Sort.Holds encStr w b 0 l.toArray:=by
  intro j hj;have hj':j<l.length:=by simpa using hj
  have hlt:j<arr.size:=by rw [hV.1,List.length_append,DY,List.length_map];omega
  have hv:=atm (hV.2 j (.str l[j]) arr[j] (by rw [DY,List.getElem?_append_left (by simpa using hj')];simp [hj']) (by simp [hlt]));refine⟨?_,?_⟩
  · have:arr[j]? =some arr[j]:=by simp [hlt]
    simp only [World.cell?,hb,Nat.zero_add,this,hv];simp [encStr,hj']
  · simp [World.frozen?,hb]
theorem ahy {n:Nat} {l m:List Str} {junk:List PV} {arr:Array Value} (hl:m.length=l.length) (hV:Vs G n ((l.map aX).flatten++junk) arr):Vs G n ((m.map aX).flatten++junk) (Sort.putCells encStr 0 m.toArray arr):=by
  rw [DY]at hV⊢;have hs:=hV.1;rw [List.length_append,List.length_map]at hs;refine⟨by simp [Sort.putCells,hs,hl],fun j c x hc hx=> ?_⟩;simp only [Sort.putCells,Array.getElem?_mapIdx,Option.map_eq_some_iff]at hx;obtain⟨y,hy,rfl⟩:=hx;by_cases hj:j<m.length
  · rw [List.getElem?_append_left (by simpa using hj)]at hc;simp [hj]at hc;subst hc;have h2:0<=j/\j<0+m.toArray.size:=by simpa using hj
    rw [if_pos h2];simp [encStr,hj];exact .str _
  · have h2: ¬(0<=j/\j<0+m.toArray.size):=by simp;omega
    rw [if_neg h2];rw [List.getElem?_append_right (by simp;omega),List.length_map,hl]at hc;refine hV.2 j c y ?_ hy;rw [List.getElem?_append_right (by simp;omega),List.length_map];exact hc
end
def Iy (l:List Str):List Str:=l.mergeSort fun x y=>decide (x<=y)
theorem arH {H:AH} {l:List Str} {v:PV} {ids:List Nat} (h:aS H aX 1 l v ids) (hl:l.length<4611686018427387904):dS Tryz.prog 66 [v] H fun _ H'=>aS H' aX 1 (Iy l) v ids/\HF ids H H'/\ ∀c,d9 H c->d9 H' c:=by
  refine⟨⟨_,Tryz.func66,rfl,by kernel_rfl⟩,fun B G w vs hU hM hv=> ?_⟩;obtain⟨u,rfl,hu⟩: ∃u,vs=#[u]/\V G H.next v u:=by
    obtain⟨h1,h2⟩:=hv
    match vs,h1,h2 with
    |⟨[u]⟩,_,h2=>exact⟨u,rfl,h2 0 v u rfl rfl⟩
  rcases h with⟨rfl,rfl,rfl⟩|⟨id,cap,junk,rfl,rfl,h2,h3,h4,h5⟩
  · rw [Zm hu];refine(Tryz.slices_Sort_string_none none 0 w).mono ?_;rintro e w' ⟨rfl,rfl⟩;exact⟨.dN [],_,H,G,rfl,Tr.refl _ _,Ext.refl _ _ _,Nat.le_refl _,hM,.dN [] #[] rfl (fun j c x e=>by simp at e),.inl ⟨rfl,by simp [Iy],rfl⟩,HF.refl _ _,fun _ h=>h⟩
  · obtain⟨b,_,hm,rfl⟩:=alR hu;obtain⟨_,b',arr,t,k1,k2,k3,k4,k5⟩:=hM.obj id _ h4;obtain rfl:b'=b:=by rw [hm]at k1;exact(Option.some.inj k1).symm
    have hlt:=hM.lt k3;refine(Tryz.slices_Sort_string b' 0 cap l w (YG k3 k4) hlt hl).mono ?_;rintro e w' ⟨rfl,n,os,rfl⟩;have hlen:(Iy l).length=l.length:=List.length_mergeSort _;obtain⟨e1,e2⟩:=hM.putRow (cs':=((Iy l).map aX).flatten++junk) (Iy l).toArray n os h4 hm k3 (ahy hlen k4);refine⟨.dN [],_,H.put id (((Iy l).map aX).flatten++junk),G,rfl,e2,Ext.refl _ _ _,Nat.le_refl _,e1,.dN [] #[] rfl (fun j c x e=>by simp at e),.inr ⟨id,cap,junk,rfl,by rw [hlen],by rw [hlen];exact h2,h3,?_,by rw [hlen];exact h5⟩,HF.put (.inl (List.mem_singleton.2 rfl)) (HF.refl _ _),fun c hc=>hc.put⟩;show(if id=id then some _ else _)=_
    rw [if_pos rfl]
theorem afC (l:List Str):(Lib.compact l).length<=l.length:=Lib.compact_length_le l
theorem afD {H:AH} {l:List Str} {v:PV} {ids:List Nat} (h:aS H aX 1 l v ids) (hl:l.length<4611686018427387904):dS Tryz.prog 119 [v] H fun r H'=>aS H' aX 1 (Lib.compact l) r ids/\HF ids H H'/\ ∀c,d9 H c->d9 H' c:=by
  refine⟨⟨_,Tryz.func119,rfl,by kernel_rfl⟩,fun B G w vs hU hM hv=> ?_⟩;obtain⟨u,rfl,hu⟩: ∃u,vs=#[u]/\V G H.next v u:=by
    obtain⟨h1,h2⟩:=hv
    match vs,h1,h2 with
    |⟨[u]⟩,_,h2=>exact⟨u,rfl,h2 0 v u rfl rfl⟩
  rcases h with⟨rfl,rfl,rfl⟩|⟨id,cap,junk,rfl,rfl,h2,h3,h4,h5⟩
  · rw [Zm hu];refine(Tryz.slices_Compact_string_empty none 0 w).mono ?_;rintro e w' ⟨rfl,rfl⟩;exact⟨.aB [] .nil,_,H,G,rfl,Tr.refl _ _,Ext.refl _ _ _,Nat.le_refl _,hM,Zm hu▸hu,.inl ⟨rfl,rfl,rfl⟩,HF.refl _ _,fun _ h=>h⟩
  · obtain⟨b,_,hm,rfl⟩:=alR hu;obtain⟨_,b',arr,t,k1,k2,k3,k4,k5⟩:=hM.obj id _ h4;obtain rfl:b'=b:=by rw [hm]at k1;exact(Option.some.inj k1).symm
    refine(Tryz.slices_Compact_string b' 0 cap l w (YG k3 k4) (by omega) h2).mono ?_;rintro e w' ⟨rfl,q,rfl⟩;have hc:=afC l;have hlen:(Lib.compact l++List.replicate (l.length -(Lib.compact l).length) []).length=l.length:=by rw [List.length_append,List.length_replicate];omega
    obtain⟨e1,e2⟩:=hM.putRow (cs':=((Lib.compact l++List.replicate (l.length -(Lib.compact l).length) []).map aX).flatten++junk) (Lib.compact l++List.replicate (l.length -(Lib.compact l).length) []).toArray q #[] h4 hm k3 (ahy hlen k4);rw [Sort.grow_empty]at e1 e2;refine⟨.dP id 0 (Lib.compact l).length cap 1,_,H.put id (((Lib.compact l++List.replicate (l.length -(Lib.compact l).length) []).map aX).flatten++junk),G,rfl,e2,Ext.refl _ _ _,Nat.le_refl _,e1,.dP _ _ _ _ _ b' h3 hm,.inr ⟨id,cap,(List.replicate (l.length -(Lib.compact l).length) ([]:Str)).map PV.str++junk,rfl,rfl,by omega,h3,?_,?_⟩,HF.put (.inl (List.mem_singleton.2 rfl)) (HF.refl _ _),fun c hc=>hc.put⟩
    · show(if id=id then some _ else _)=_
      rw [if_pos rfl,DY,List.map_append,DY,List.append_assoc]
    · rw [List.length_append,List.length_map,List.length_replicate,h5];omega
end Go.VL
end
section
namespace Go.VL
theorem NU: ∀a b:Str,strLt a b=true↔a<b
  |[],[]=>by simp [strLt]
  |a::x,[]=>by simp [strLt]
  |[],b::y=>by simp [strLt]
  |a::x,b::y=>by
    rw [strLt,List.cons_lt_cons_iff,Bool.or_eq_true,Bool.and_eq_true,decide_eq_true_eq,beq_iff_eq,NU x y]
theorem tri (a b:Str):a<b\/a=b\/b<a:=by
  rcases List.le_total a b with h|h
  · by_cases e:a=b
    · exact .inr (.inl e)
    · by_cases h2:a<b
      · exact .inl h2
      · exact absurd (List.le_antisymm h (List.not_lt.1 h2)) e
  · by_cases e:a=b
    · exact .inr (.inl e)
    · by_cases h2:b<a
      · exact .inr (.inr h2)
      · exact absurd (List.le_antisymm (List.not_lt.1 h2) h) e
def GL (s:Str):List Str->List Str
  |[]=>[s]
  |x::l=>if strLt x s=true then x::GL s l else if x=s then x::l else s::x::l
def XR (l:List Str):List Str:=l.foldl (fun a s=>GL s a) []
theorem RF {s y:Str}: ∀{l:List Str},y∈GL s l↔y=s\/y∈l
  |[]=>by simp [GL]
  |x::l=>by
    rw [GL];split
    · simp only [List.mem_cons,RF (l:=l)];constructor
      · rintro(h|h|h)<;>simp [h]
      · rintro(h|h|h)<;>simp [h]
    · split
      · rename_i h;subst h;simp
      · simp
theorem acg {s:Str}: ∀{l:List Str},l.Pairwise (·< ·)->(GL s l).Pairwise (·< ·)
  |[],_=>by simp [GL]
  |x::l,h=>by
    rw [GL];obtain⟨h1,h2⟩:=List.pairwise_cons.1 h;split
    · rename_i hx;refine List.pairwise_cons.2 ⟨fun y hy=> ?_,acg h2⟩;rcases RF.1 hy with rfl|hy
      · exact(NU _ _).1 hx
      · exact h1 y hy
    · rename_i hx;split
      · exact h
      · rename_i hne;have hlt:s<x:=by
          rcases tri s x with h|h|h
          · exact h
          · exact absurd h.symm hne
          · exact absurd ((NU _ _).2 h) hx
        refine List.pairwise_cons.2 ⟨fun y hy=> ?_,h⟩;rcases List.mem_cons.1 hy with rfl|hy
        · exact hlt
        · exact List.lt_trans hlt (h1 y hy)
theorem RG: ∀(l a:List Str),a.Pairwise (·< ·)->(l.foldl (fun a s=>GL s a) a).Pairwise (·< ·)/\ ∀y,y∈l.foldl (fun a s=>GL s a) a↔y∈l\/y∈a
  |[],a,h=>⟨h,fun y=>by simp⟩
  |s::l,a,h=>by
    obtain⟨h1,h2⟩:=RG l (GL s a) (acg h);refine⟨h1,fun y=> ?_⟩;rw [List.foldl_cons,h2 y,RF,List.mem_cons];constructor
    · rintro(h|h|h)<;>simp [h]
    · rintro((h|h)|h)<;>simp [h]
theorem ajX (l:List Str):(XR l).Pairwise (·< ·):=(RG l [] List.Pairwise.nil).1
theorem ajY {l:List Str} {y:Str}:y∈XR l↔y∈l:=by rw [XR,(RG l [] List.Pairwise.nil).2 y];simp
theorem ajZ {l m:List Str} (hl:l.Pairwise (·< ·)) (hm:m.Pairwise (·< ·)) (h: ∀y,y∈l↔y∈m):l=m:=by
  have nd: ∀{l:List Str},l.Pairwise (·< ·)->l.Nodup:=fun h=>h.imp (S:=fun a b=>a≠b) fun{a b} hab e=>List.lt_irrefl a (by rw [<-e]at hab;exact hab)
  have hp:l.Perm m:=(List.perm_ext_iff_of_nodup (nd hl) (nd hm)).2 h
  exact List.Perm.eq_of_pairwise (le:=(·< ·)) (fun a b _ _ h1 h2=>absurd (List.lt_trans h1 h2) (List.lt_irrefl a)) hl hm hp
theorem GN (d:Array Str) (hd: ∀i j,i<j->j<d.size->d[i]! <=d[j]!): ∀m,m<=d.size->(Lib.compactUpTo d m).Pairwise (·< ·)/\(∀x∈Lib.compactUpTo d m,∃j,j<m/\x=d[j]!)/\(∀j,j<m->d[j]! ∈Lib.compactUpTo d m)
  |0,_=>⟨List.Pairwise.nil,fun x h=>(by simp [Lib.compactUpTo]at h),fun j h=>absurd h (Nat.not_lt_zero _)⟩
  |m+1,hm=>by
    obtain⟨h1,h2,h3⟩:=GN d hd m (by omega);rw [Lib.compactUpTo_succ];cases hk:Lib.keeps d m with
    |true=>
      rw [if_pos rfl];refine⟨List.pairwise_append.2 ⟨h1,List.pairwise_singleton _ _,fun a ha b hb=> ?_⟩,fun x hx=> ?_,fun j hj=> ?_⟩
      · rw [List.mem_singleton]at hb;subst hb;obtain⟨j,hj,rfl⟩:=h2 a ha;have hne:d[m]! ≠d[m -1]! :=by
          unfold Lib.keeps at hk;rw [decide_eq_true_eq]at hk;rcases hk with h|h
          · omega
          · exact h
        have h4:d[j]! <=d[m -1]! :=by
          by_cases e:j=m -1
          · rw [e];exact List.le_refl _
          · exact hd j (m -1) (by omega) (by omega)
        have h5:d[m -1]! <=d[m]! :=hd (m -1) m (by omega) (by omega);have h6:d[m -1]! <d[m]! :=by
          rcases tri d[m -1]! d[m]! with h|h|h
          · exact h
          · exact absurd h.symm hne
          · exact absurd (List.le_antisymm h5 (List.le_of_lt h)).symm hne
        rcases tri d[j]! d[m]! with h|h|h
        · exact h
        · rw [h]at h4;exact absurd (List.le_antisymm h4 h5) hne
        · have h7:=List.lt_trans h6 h;exact absurd (List.le_antisymm h4 (List.le_of_lt h7)) (fun e=>List.lt_irrefl _ (e▸h7))
      · rcases List.mem_append.1 hx with hx|hx
        · obtain⟨j,hj,e⟩:=h2 x hx;exact⟨j,by omega,e⟩
        · rw [List.mem_singleton]at hx;exact⟨m,Nat.lt_succ_self _,hx⟩
      · by_cases e:j=m
        · subst e;exact List.mem_append_right _ (List.mem_singleton.2 rfl)
        · exact List.mem_append_left _ (h3 j (by omega))
    |false=>
      rw [if_neg (by simp),List.append_nil];refine⟨h1,fun x hx=> ?_,fun j hj=> ?_⟩
      · obtain⟨j,hj,e⟩:=h2 x hx;exact⟨j,by omega,e⟩
      · by_cases e:j=m
        · subst e;unfold Lib.keeps at hk;rw [decide_eq_false_iff_not,not_or,Decidable.not_not]at hk;rw [hk.2];exact h3 (j -1) (by omega)
        · exact h3 j (by omega)
theorem ach (l:List Str):Lib.compact (l.mergeSort fun x y=>decide (x<=y))=XR l:=by
  have tr: ∀a b c:Str,decide (a<=b)=true->decide (b<=c)=true->decide (a<=c)=true:=fun a b c h1 h2=>by simp only [decide_eq_true_eq]at*;exact List.le_trans h1 h2
  have tot: ∀a b:Str,(decide (a<=b)||decide (b<=a))=true:=fun a b=>by simp only [Bool.or_eq_true,decide_eq_true_eq];exact List.le_total a b
  have hs:=List.pairwise_mergeSort (le:=fun x y:Str=>decide (x<=y)) tr tot l;have hp:=List.mergeSort_perm l (fun x y:Str=>decide (x<=y));generalize(l.mergeSort fun x y=>decide (x<=y))=m at hs hp;have hd: ∀i j,i<j->j<m.toArray.size->m.toArray[i]! <=m.toArray[j]! :=fun i j hij hj=>by
    have hj':j<m.length:=by simpa using hj
    have:=List.pairwise_iff_getElem.1 hs i j (by omega) hj' hij;rw [decide_eq_true_eq]at this;simp [hj',show i<m.length by omega];exact this
  obtain⟨h1,h2,h3⟩:=GN m.toArray hd m.length (by simp);refine ajZ h1 (ajX l) fun y=> ?_;rw [ajY,<-hp.mem_iff];constructor
  · intro h;obtain⟨j,hj,rfl⟩:=h2 y h;simp [hj]
  · intro h;obtain⟨j,hj,rfl⟩:=List.getElem_of_mem h;have:=h3 j hj;unfold Lib.compact;simpa [hj]using this
end Go.VL
end
section
set_option maxRecDepth 8000
namespace Go.VL
open Go.Proofs
def aci (k:Nat) (e:List Nd):Option (List Str):=
  Option.bind (EL (KU k e) e k (IntKind.wrap .i64 ((e.length:Int) -1)) [] []) fun out=>if out.length<4611686018427387904 then some (XR out)else none
theorem aj0 (k:Nat) (e:List Nd) {c:Ck} {r:List Str} (h:aci k e=some r):aG Tryz.prog 68 [.aB (e.map Nd.cells) c] (.aB (r.map aX) .unk):=by
  refine aG.wk (args:=[lU e]) ?_ (.aB .nil);refine aG.aR (bB.mem (.cons (bC Nd.pu _) .nil)) (aI ain (by simp) (aF ?_)) (bC cO _);unfold aci at h;cases e1:EL (KU k e) e k (IntKind.wrap .i64 ((e.length:Int) -1)) [] []with
  |none=>rw [z8 e1]at h;cases h
  |some out=>
  rw [Aa e1]at h;by_cases e2:out.length<4611686018427387904
  case neg=>rw [if_neg e2]at h;cases h
  rw [if_pos e2]at h;have h:=Option.some.inj h;subst h;unfold ao1;simp -implicitDefEqProofs only [go_sem,↓reduceIte,Nat.reduceEqDiff,Nat.reduceAdd,List.length_map];have hS:alQ e (AH.empty.next) (AH.empty.next+1) [] ((AH.empty.new [lU e]).new [.aB [] .nil]):=by
    refine⟨(show 0<2 by omega),(show 1<2 by omega),by decide,rfl,.aB [] .nil,[],rfl,aS.nil,List.not_mem_nil,List.not_mem_nil⟩
  refine dS.mono (dS.wk (aq4 (afB k e _ _) e k _ [] [] out _ hS e1) (.same (.same (.aB (.same .nil))))) fun r H1 hS1=> ?_;obtain⟨h1,h2,h3,h4,v,ids,h5,h6,h7,h8⟩:=hS1;simp -implicitDefEqProofs only [go_sem,↓reduceIte,Nat.reduceEqDiff,h5];refine dS.mono (arH h6 e2) fun r2 H2 ⟨g1,g2,g3⟩=> ?_;have h5':H2.obj (AH.empty.next+1)=some [v]:=(g2.2 _ h2 h8).trans h5;simp -implicitDefEqProofs only [go_sem,↓reduceIte,Nat.reduceEqDiff,h5'];refine dS.mono (afD g1 (by rw [show(Iy out).length=out.length from List.length_mergeSort _];exact e2)) fun r3 H3 ⟨f1,f2,f3⟩=> ?_;simp -implicitDefEqProofs only [go_sem,↓reduceIte,Nat.reduceEqDiff];have hc:Lib.compact (Iy out)=XR out:=ach out;rw [<-hc];exact f1.fz cO
end Go.VL
end
section
set_option maxRecDepth 8000
set_option maxHeartbeats 4000000
namespace Go.VL
open Go.Proofs
def RH (k:Nat) (aH:List Nd):Option ((List Str)×Int):=
  Option.bind (zJ k aH) fun p2=>cond (p2 !=0) (some ([],p2)) (Option.bind (aci k aH) fun p5=>some (p5,0))
theorem afE {k:Nat} {aH:List Nd} {c0:Ck} {r:(List Str)×Int} (h:RH k aH=some r):aG Tryz.prog 32 [(.aB (aH.map Nd.cells) c0)] (.dN [(.aB (r.1.map aX) .unk),(.int .i64 r.2)]):=by
  refine aG.lw (.aB .nil) (aG.aR (bB.mem (.cons (bC Nd.pu _) .nil)) (aI ok32 (by simp) (aF ?_)) (.dN _ (bB.mem (.cons (bC cO _) (.cons (.int _ _) .nil)))));unfold RH at h;unfold aoA;obtain⟨p2,e1,h⟩:=aj h;try refine ah ?_
  refine aA (PD e1) ?_;rcases au h with⟨e3,h⟩|⟨e3,h⟩
  ·obtain rfl:=ak h;try refine ah ?_
   exact(dG (.cons (jr cO [] _) (.cons (.pure _ (.int _ _)) .nil)))
  ·obtain⟨p5,e4,h⟩:=aj h;try refine ah ?_
   refine aA (aj0 k aH e4) ?_;obtain rfl:=ak h;try refine ah ?_
   exact(dG (.cons (jr cO _ _) (.cons (.pure _ (.int _ _)) .nil)))
def XT (k:Nat):Option Bool:=
  Option.bind (afA k) fun p2=>Option.bind (qC k p2) fun p4=>Option.bind (RH k p2) fun p8=>Option.bind (Gn k ([92,99,100,111,116]:Str)) fun fE=>Option.bind (ny k [(Nd.mk 20 0 [] [] [])]) fun jW=>cond (p4.2==0) (cond (p4.1==([97,32,43,32,98,32,42,32,99]:Str)) (cond (p8.2==0) (Option.bind (FZ k p8.1 [([97]:Str),([98]:Str),([99]:Str)]) fun yA=>cond yA (cond (fE.2==0) (cond (fE.1.high==14) (cond fE.1.left (cond (jW.2==30) (some (jW.1==0)) (some false)) (some false)) (some false)) (some false)) (some false)) (some false)) (some false)) (some false)
theorem ahz {k:Nat} {r:Bool} (h:XT k=some r):aG Tryz.prog 12 [] (.bool r):=by
  refine aG.aR (bB.mem .nil) (aI auV (by simp) (aF ?_)) (.bool _);unfold XT at h;unfold aod;obtain⟨p2,e1,h⟩:=aj h;try refine ah ?_
  refine aA (aef e1) ?_;obtain⟨p4,e3,h⟩:=aj h;try refine ah ?_
  refine aA (JR e3) ?_;try refine ah ?_
  refine aA (aef e1) ?_;obtain⟨p8,e7,h⟩:=aj h;try refine ah ?_
  refine aA (afE e7) ?_;obtain⟨fE,e9,h⟩:=aj h;try refine ah ?_
  refine aA (Xq e9) ?_;obtain⟨jW,e11,h⟩:=aj h;try refine ah ?_
  refine aA (Li e11) ?_;rcases au h with⟨e13,h⟩|⟨e13,h⟩
  ·rcases au h with⟨e14,h⟩|⟨e14,h⟩
   ·rcases au h with⟨e15,h⟩|⟨e15,h⟩
    ·obtain⟨yA,e16,h⟩:=aj h;try refine ah ?_
     refine aA (Wz e16) ?_;rcases au h with⟨e18,h⟩|⟨e18,h⟩
     ·rcases au h with⟨e19,h⟩|⟨e19,h⟩
      ·rcases au h with⟨e20,h⟩|⟨e20,h⟩
       ·rcases au h with⟨e21,h⟩|⟨e21,h⟩
        ·rcases au h with⟨e22,h⟩|⟨e22,h⟩
         ·obtain rfl:=ak h;try refine ah ?_
          exact(.pure _ (.bool _))
         ·obtain rfl:=ak h;try refine ah ?_
          exact(.pure _ (.bool _))
        ·obtain rfl:=ak h;try refine ah ?_
         exact(.pure _ (.bool _))
       ·obtain rfl:=ak h;try refine ah ?_
        exact(.pure _ (.bool _))
      ·obtain rfl:=ak h;try refine ah ?_
       exact(.pure _ (.bool _))
     ·obtain rfl:=ak h;try refine ah ?_
      exact(.pure _ (.bool _))
    ·obtain rfl:=ak h;try refine ah ?_
     exact(.pure _ (.bool _))
   ·obtain rfl:=ak h;try refine ah ?_
    exact(.pure _ (.bool _))
  ·obtain rfl:=ak h;try refine ah ?_
   exact(.pure _ (.bool _))
end Go.VL
end
section
namespace Go.VL
open Go.Proofs
theorem afF:XT 100=some true:=by kernel_rfl
theorem anj:aG Tryz.prog 12 [] (.bool true):=ahz afF
end Go.VL
end
section
set_option maxRecDepth 8000
set_option maxHeartbeats 4000000
namespace Go.VL
open Go.Proofs
def uE (gT:Str) (iq:Bool):Option Bool:=
  cond iq (some ((gT==[]))) (some (false))
theorem NV: ∀(gT:Str) (iq:Bool) (aC σ:Nat->PV) (H:AH) (f0:Fr [26,27,28] aC σ) (sl:σ 3=(.str gT)/\σ 25=(.bool iq)) (o:Bool) (h:uE gT iq=some o) (Q:Post) (q0: ∀(p:Bool) (σ':Nat->PV),o=p->Fr [26,27,28] aC σ'->(σ' 28=(.bool p))->Q .normal σ' H),dB Tryz.prog Z0 (Q .normal) σ H:=by
  intro gT iq aC σ H f0 sl o h Q q0;obtain⟨s3,O6⟩:=sl;unfold uE at h;refine dw ?_;unfold Z0;rcases au h with⟨e11,h⟩|⟨e11,h⟩
  ·obtain rfl:=ak h;try refine ah ?_
   exact q0 _ _ rfl aO av
  ·obtain rfl:=ak h;try refine ah ?_
   exact q0 _ _ rfl aO av
def y9 (k:Nat) (aH:List Nd):Option Bool:=
  Option.bind (SB k aH) fun p2=>cond p2 (Option.bind (Dt k aH) fun p5=>Option.bind (qC k p5) fun p7=>Option.bind (SA k aH) fun p9=>cond (p9 !=0) (Option.bind (uE p7.1 (p7.2==p9)) (fun ig=>some ig)) (Option.bind (GA k aH) fun lu=>cond (decide ((lu.length:Int)>20000)) (cond (p7.2==2) (some (p7.1==[])) (some false)) (cond (p7.2==0) (some (p7.1==lu)) (some false)))) (some true)
theorem Us {k:Nat} {aH:List Nd} {c0:Ck} {r:Bool} (h:y9 k aH=some r):aG Tryz.prog 4 [(.aB (aH.map Nd.cells) c0)] (.bool r):=by
  refine aG.lw (.aB .nil) (aG.aR (bB.mem (.cons (bC Nd.pu _) .nil)) (aI ok4 (by simp) (aF ?_)) (.bool _));unfold y9 at h;unfold ac4;try refine ah ?_
  refine aA (anj) ?_;obtain⟨p2,e1,h⟩:=aj h;try refine ah ?_
  refine aA (amI e1) ?_;rcases au h with⟨e3,h⟩|⟨e3,h⟩
  ·obtain⟨p5,e4,h⟩:=aj h;try refine ah ?_
   refine aA (acI e4) ?_;obtain⟨p7,e6,h⟩:=aj h;try refine ah ?_
   refine aA (JR e6) ?_;obtain⟨p9,e8,h⟩:=aj h;try refine ah ?_
   refine aA (amH e8) ?_;rcases au h with⟨e10,h⟩|⟨e10,h⟩
   ·try refine ah ?_
    obtain⟨o12,Jk,h⟩:=aj h;refine NV p7.1 (p7.2==p9) _ _ _ (Fr.refl _ _) av _ Jk _ ?_
    ·rintro ig σ' eo vS pK;rw [eo]at h;obtain rfl:=ak h;try refine ah ?_
     exact(.pure _ (.bool _))
   ·obtain⟨lu,e19,h⟩:=aj h;try refine ah ?_
    refine aA (afy e19) ?_;rcases au h with⟨e21,h⟩|⟨e21,h⟩
    ·rcases au h with⟨e22,h⟩|⟨e22,h⟩
     ·obtain rfl:=ak h;try refine ah ?_
      exact(.pure _ (.bool _))
     ·obtain rfl:=ak h;try refine ah ?_
      exact(.pure _ (.bool _))
    ·rcases au h with⟨e23,h⟩|⟨e23,h⟩
     ·obtain rfl:=ak h;try refine ah ?_
      exact(.pure _ (.bool _))
     ·obtain rfl:=ak h;try refine ah ?_
      exact(.pure _ (.bool _))
  ·obtain rfl:=ak h;try refine ah ?_
   exact(.pure _ (.bool _))
end Go.VL
end
section
namespace Go.VL
open Tm
theorem aj1 {e:List Nd} (h:RD e=true) (hV:Valid e):Good e:=⟨hV.len,fun i n hn=>⟨hV.ok i n hn,by
  obtain⟨h1,h2,h3,h4⟩:=(ahx h).2 i n hn;exact⟨h3,h2,h4,h1⟩⟩⟩
theorem ahA {e:List Nd} (hG:Good e) (hV:Valid e): ∃s,Ev (fun k=>dY k ⟨e⟩ (IntKind.wrap .i64 ((e.length:Int) -1)) false) s/\Ev (fun k=>GA k e) s:=by
  obtain⟨t,he⟩:=hV.tree;have hp:=size_pos t;have hlen:=hV.len;have hl:e.length=t.size:=by rw [he,iV]
  have hS:Seg e 0 t:=by rw [he];exact Seg.whole t
  have h1:=ahp hG t 0 hS;have h2:=ahw hG t 0 hS;rw [<-he]at h2;refine⟨fm t false,?_,?_⟩
  · have hw:IntKind.wrap .i64 ((e.length:Int) -1)=((0+t.size -1:Nat):Int):=by rw [wrap64 (by omega) (by omega)];omega
    rw [hw];exact h1.ev false
  · unfold GA;exact Ev.bind h2.vL Ev.some
theorem RJ (e:List Nd):Ev (fun k=>y9 k e) true:=by
  unfold y9;refine Ev.bind (ajT e) ?_;cases hf:RD e with
  |false=>exact Ev.cF rfl Ev.some
  |true=>
  have hL:=ajU hf;obtain⟨r,ht,hr,hv⟩:=afk e hL;have afG:Ev (fun k=>zJ k e) r.2:=by unfold zJ;exact Ev.bind ht Ev.some
  have afH:Ev (fun k=>SA k e) r.2:=by unfold SA;exact Ev.bind hr Ev.some
  refine Ev.cT rfl (Ev.bind (ab9 hL) ?_);by_cases h0:r.2=0
  case neg=>
    have hne:(r.2 !=0)=true:=by rw [bne_iff_ne];exact h0
    refine Ev.bind (x:=([],r.2)) (by unfold qC;exact Ev.bind afG (Ev.cT hne Ev.some)) (Ev.bind afH (Ev.cT hne (Ev.oP (x:=true) ?_ Ev.some)));unfold uE;simp
  have hz:(r.2 !=0)=false:=by rw [h0];rfl
  have hV:=hv h0;obtain⟨s,h1,h2⟩:=ahA (aj1 hf hV) hV;by_cases hs:(s.length:Int)>20000
  · refine Ev.bind (x:=([],2)) (by unfold qC;exact Ev.bind afG (Ev.cF hz (Ev.bind h1 (Ev.cT (decide_eq_true hs) Ev.some)))) (Ev.bind afH (Ev.cF hz (Ev.bind h2 (Ev.cT (decide_eq_true hs) (Ev.cT rfl (Ev.some' (by simp)))))))
  · refine Ev.bind (x:=(s,0)) (by unfold qC;exact Ev.bind afG (Ev.cF hz (Ev.bind h1 (Ev.cF (decide_eq_false hs) Ev.some)))) (Ev.bind afH (Ev.cF hz (Ev.bind h2 (Ev.cF (decide_eq_false hs) (Ev.cT rfl (Ev.some' (by simp)))))))
end Go.VL
end
