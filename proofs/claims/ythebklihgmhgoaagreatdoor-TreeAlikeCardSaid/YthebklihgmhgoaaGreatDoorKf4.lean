/- Part 4 of the proof: what the theorem rests on. -/
import Derived.Test.YthebklihgmhgoaaGreatDoorKf3
import Derived.IntWalk
import Derived.KernelRfl
set_option linter.unusedVariables false
set_option linter.unusedSectionVars false
set_option linter.unusedSimpArgs false
section
set_option maxRecDepth 8000
set_option maxHeartbeats 4000000
namespace Go.VL
open Go.Proofs
def PE (IX:Bool):Option Int:=
  cond IX (some 1) (some 0)
theorem abK {IX:Bool} {r:Int} (h:PE IX=some r):aF Tryz.prog 23 [(.bool IX)] (.int .i64 r):=by
  refine aF.aQ (bf.mem (.cons (.bool _) .nil)) (aG auF (by simp) (aD ?_)) (.int _ _);unfold PE at h;unfold anb;rcases au h with⟨e1,h⟩|⟨e1,h⟩
  ·obtain rfl:=ak h;try refine ah ?_
   exact(.pure _ (.int _ _))
  ·obtain rfl:=ak h;try refine ah ?_
   exact(.pure _ (.int _ _))
def iJ (aY:Int) (Xj:Int) (PG:Int):Option Bool:=
  cond (decide (aY>=Xj)) (some (decide (aY<=PG))) (some false)
theorem iU {aY:Int} {Xj:Int} {PG:Int} {r:Bool} (h:iJ aY Xj PG=some r):aF Tryz.prog 35 [(.int .i64 aY),(.int .i64 Xj),(.int .i64 PG)] (.bool r):=by
  refine aF.aQ (bf.mem (.cons (.int _ _) (.cons (.int _ _) (.cons (.int _ _) .nil)))) (aG anm (by simp) (aD ?_)) (.bool _);unfold iJ at h;unfold anl;rcases au h with⟨e1,h⟩|⟨e1,h⟩
  ·obtain rfl:=ak h;try refine ah ?_
   exact(.pure _ (.bool _))
  ·obtain rfl:=ak h;try refine ah ?_
   exact(.pure _ (.bool _))
def j6:Nat->(List Str)->Str->Int->Option (Unit⊕Bool)
  |0,_,_,_=>none
  |k+1,dz,s_1,dR=>
    cond (decide (dR<(dz.length:Int))) (if 0<=dR then Option.bind (dz[dR.toNat]?) fun x3=>cond (x3==s_1) (some (.inr (true))) (j6 k dz s_1 (IntKind.wrap .i64 (dR+1)))else none) (some (.inl ()))
def Ba:List Nat:=List.range' 4 14
theorem PI: ∀(k:Nat) (dz:List Str) (s_1:Str) (dR:Int) (aC σ:Nat->PV) (H:AH) (f0:Fr Ba aC σ) (sl:σ 0=(.aA (dz.map aI) .unk)/\σ 1=(.str s_1)/\σ 5=(.int .i64 dR)) (o:Unit⊕Bool) (h:j6 k dz s_1 dR=some o) (Q:Post) (q0: ∀(p:Unit) (σ':Nat->PV),o= .inl p->Fr Ba aC σ'->Q (.exit 0) σ' H) (q1: ∀(p:Bool) (σ':Nat->PV),o= .inr (p)->Fr Ba aC σ'->(σ' 4=(.bool p))->Q .ret σ' H),W Tryz.prog (.loop RS) Q σ H:=by
  intro k
  induction k with
  |zero=>intro dz s_1 dR aC σ H f0 sl o h Q q0 q1;simp only [j6,reduceCtorEq]at h
  |succ k ih=>
    intro dz s_1 dR aC σ H f0 sl o h Q q0 q1;obtain⟨s0,s1,s5⟩:=sl;unfold j6 at h;refine aT (fun K hK=>aD ?_);unfold RS;rcases au h with⟨e1,h⟩|⟨e1,h⟩
    ·obtain⟨e2,h⟩:=aP h;obtain⟨x3,e4,h⟩:=aj h;rcases au h with⟨e5,h⟩|⟨e5,h⟩
     ·obtain rfl:=ak h;try refine ah ?_
      exact q1 _ _ rfl aJ av
     ·try refine ah ?_
      refine hK _ _ ?_;exact ih dz s_1 (IntKind.wrap .i64 (dR+1)) _ _ _ aJ av _ h _ q0 q1
    ·obtain rfl:=ak h;try refine ah ?_
     exact q0 _ _ rfl aJ
def l9 (k:Nat) (dz:List Str) (s_1:Str):Option Bool:=
  Option.bind (j6 k dz s_1 0) (fun o=>Sum.elim (fun p8=>some false) (fun lT=>some lT) o)
theorem za {k:Nat} {dz:List Str} {s_1:Str} {c0:Ck} {r:Bool} (h:l9 k dz s_1=some r):aF Tryz.prog 31 [(.aA (dz.map aI) c0),(.str s_1)] (.bool r):=by
  refine aF.lw (.aA (.same .nil)) (aF.aQ (bf.mem (.cons (aU bg _) (.cons (.str _) .nil))) (aG ani (by simp) (aD ?_)) (.bool _));unfold l9 at h;unfold anh;try refine ah ?_
  obtain⟨o6,h7,h⟩:=aj h;refine PI k dz s_1 0 _ _ _ (Fr.refl _ _) av _ h7 _ ?_ ?_
  ·rintro p8 σ' eo Hl;subst eo;rw [bL]at h;obtain rfl:=ak h;try refine ah ?_
   exact(.pure _ (.bool _))
  ·rintro lT σ' eo IY s16;subst eo;rw [bP]at h;obtain rfl:=ak h;try refine ah ?_
   exact(.pure _ (.bool _))
def mg:Nat->(List Operator)->(List Operator)->Int->Option (List Operator)
  |0,_,_,_=>none
  |k+1,uG,ze,dK=>
    cond (decide (dK<(ze.length:Int))) (if 0<=dK then Option.bind (ze[dK.toNat]?) fun x3=>Option.bind (PE (x3.fix==1)) fun p6=>cond (x3.text==([92,88]:Str)) (if(uG.length+1)*64<=1099511627776 then mg k (uG++[(Operator.mk x3.text x3.fix x3.low x3.high x3.left (IntKind.wrap .i64 (1+p6)) 4)]) ze (IntKind.wrap .i64 (dK+1))else none) (if(uG.length+1)*64<=1099511627776 then mg k (uG++[(Operator.mk x3.text x3.fix x3.low x3.high x3.left (IntKind.wrap .i64 (1+p6)) (IntKind.wrap .i64 (1+p6)))]) ze (IntKind.wrap .i64 (dK+1))else none)else none) (some (uG))
def MW:List Nat:=[1,3,4]++List.range' 48 27
theorem X5: ∀(k:Nat) (uG:List Operator) (ze:List Operator) (dK:Int) (sF:Ck) (zf:Ck) (aC σ:Nat->PV) (H0 H:AH) (f0:Fr MW aC σ) (hf0:HF [] H0 H) (sl:σ 1=(.aA (uG.map Operator.cells) sF)/\σ 2=(.aA (ze.map Operator.cells) zf)/\σ 3=(.int .i64 dK)) (X6:bn H sF) (o:List Operator) (h:mg k uG ze dK=some o) (Q:Post) (q0: ∀(p:List Operator) (c0:Ck) (σ':Nat->PV) (H':AH),o=p->Fr MW aC σ'->HF [] H0 H'->(σ' 1=(.aA (p.map Operator.cells) c0))->Q (.exit 0) σ' H'),W Tryz.prog (.loop SE) Q σ H:=by
  intro k
  induction k with
  |zero=>intro uG ze dK sF zf aC σ H0 H f0 hf0 sl X6 o h Q q0;simp only [mg,reduceCtorEq]at h
  |succ k ih=>
    intro uG ze dK sF zf aC σ H0 H f0 hf0 sl X6 o h Q q0;obtain⟨s1,s2,s3⟩:=sl;have hle0:=hf0.1;unfold mg at h;refine aT (fun K hK=>aD ?_);unfold SE;rcases au h with⟨e1,h⟩|⟨e1,h⟩
    ·obtain⟨e2,h⟩:=aP h;obtain⟨x3,e4,h⟩:=aj h;obtain⟨p6,e5,h⟩:=aj h;try refine ah ?_
     refine aB (abK e5) ?_;rcases au h with⟨e7,h⟩|⟨e7,h⟩
     ·obtain⟨e12,h⟩:=aP h;try refine ah ?_
      refine gu (f:=Operator.cells) Operator.row uG ([(Operator.mk x3.text x3.fix x3.low x3.high x3.left (IntKind.wrap .i64 (1+p6)) 4)]:List Operator) sF .exact av av fG (by first|exact e12|(simp only [List.length_cons,List.length_nil];exact e12)) (fun c8 H9 amV le avr az1=> ?_);have ahk:HF [] _ H9:=⟨le,fun i _ _=>avr i⟩;try simp only [AH.aK,AH.aL,AH.aM,AH.aN]at le
      have n22:=ne_next (show H.next<H9.next by first|omega|(simp only [AH.aK,AH.aL,AH.aM,AH.aN];omega));have m23:=aV (show H.next<H9.next by first|omega|(simp only [AH.aK,AH.aL,AH.aM,AH.aN];omega));try refine ah ?_
      refine hK _ _ ?_;exact ih (uG++[(Operator.mk x3.text x3.fix x3.low x3.high x3.left (IntKind.wrap .i64 (1+p6)) 4)]) ze (IntKind.wrap .i64 (dK+1)) c8 zf _ _ _ _ aJ (by repeat (first|exact hf0|refine HF.new ?_|refine HF.fI ?_|refine HF.used ?_|refine HF.put (by first|(right;omega)|(left;simp only [List.mem_cons,true_or,or_true])) ?_|refine HF.via ahk (by first|exact fun i hi=>absurd hi List.not_mem_nil|(intro i hi;simp only [List.mem_cons,List.not_mem_nil,or_false]at hi⊢;first|exact .inl hi|omega)) ?_)) av fG _ h _ q0
     ·obtain⟨e19,h⟩:=aP h;try refine ah ?_
      refine gu (f:=Operator.cells) Operator.row uG ([(Operator.mk x3.text x3.fix x3.low x3.high x3.left (IntKind.wrap .i64 (1+p6)) (IntKind.wrap .i64 (1+p6)))]:List Operator) sF .exact av av fG (by first|exact e19|(simp only [List.length_cons,List.length_nil];exact e19)) (fun c15 H16 am3 le avs az2=> ?_);have ahl:HF [] _ H16:=⟨le,fun i _ _=>avs i⟩;try simp only [AH.aK,AH.aL,AH.aM,AH.aN]at le
      have n24:=ne_next (show H.next<H16.next by first|omega|(simp only [AH.aK,AH.aL,AH.aM,AH.aN];omega));have m25:=aV (show H.next<H16.next by first|omega|(simp only [AH.aK,AH.aL,AH.aM,AH.aN];omega));try refine ah ?_
      refine hK _ _ ?_;exact ih (uG++[(Operator.mk x3.text x3.fix x3.low x3.high x3.left (IntKind.wrap .i64 (1+p6)) (IntKind.wrap .i64 (1+p6)))]) ze (IntKind.wrap .i64 (dK+1)) c15 zf _ _ _ _ aJ (by repeat (first|exact hf0|refine HF.new ?_|refine HF.fI ?_|refine HF.used ?_|refine HF.put (by first|(right;omega)|(left;simp only [List.mem_cons,true_or,or_true])) ?_|refine HF.via ahl (by first|exact fun i hi=>absurd hi List.not_mem_nil|(intro i hi;simp only [List.mem_cons,List.not_mem_nil,or_false]at hi⊢;first|exact .inl hi|omega)) ?_)) av fG _ h _ q0
    ·obtain rfl:=ak h;try refine ah ?_
     exact q0 _ sF _ _ rfl aJ (by repeat (first|exact hf0|refine HF.new ?_|refine HF.fI ?_|refine HF.used ?_|refine HF.put (by first|(right;omega)|(left;simp only [List.mem_cons,true_or,or_true])) ?_)) av
def DR (k:Nat):Option (List Operator):=
  Option.bind (mg k ([]:List Operator) [(Operator.mk ([126]:Str) 0 4 4 false 0 0),(Operator.mk ([69,78,65,66,76,69,68]:Str) 0 4 15 false 0 0),(Operator.mk ([85,78,67,72,65,78,71,69,68]:Str) 0 4 15 false 0 0),(Operator.mk ([91,93]:Str) 0 4 15 false 0 0),(Operator.mk ([60,62]:Str) 0 4 15 false 0 0),(Operator.mk ([83,85,66,83,69,84]:Str) 0 8 8 false 0 0),(Operator.mk ([85,78,73,79,78]:Str) 0 8 8 false 0 0),(Operator.mk ([68,79,77,65,73,78]:Str) 0 9 9 false 0 0),(Operator.mk ([45,46]:Str) 0 12 12 false 0 0),(Operator.mk ([61,62]:Str) 1 1 1 false 0 0),(Operator.mk ([60,61,62]:Str) 1 2 2 false 0 0),(Operator.mk ([126,62]:Str) 1 2 2 false 0 0),(Operator.mk ([47,92]:Str) 1 3 3 true 0 0),(Operator.mk ([92,47]:Str) 1 3 3 true 0 0),(Operator.mk ([61]:Str) 1 5 5 false 0 0),(Operator.mk ([35]:Str) 1 5 5 false 0 0),(Operator.mk ([60]:Str) 1 5 5 false 0 0),(Operator.mk ([60,61]:Str) 1 5 5 false 0 0),(Operator.mk ([62]:Str) 1 5 5 false 0 0),(Operator.mk ([62,61]:Str) 1 5 5 false 0 0),(Operator.mk ([92,105,110]:Str) 1 5 5 false 0 0),(Operator.mk ([92,110,111,116,105,110]:Str) 1 5 5 false 0 0),(Operator.mk ([92,115,117,98,115,101,116,101,113]:Str) 1 5 5 false 0 0),(Operator.mk ([92,115,113,115,117,98,115,101,116,101,113]:Str) 1 5 5 false 0 0),(Operator.mk ([64,64]:Str) 1 6 6 true 0 0),(Operator.mk ([58,62]:Str) 1 7 7 false 0 0),(Operator.mk ([92,99,100,111,116]:Str) 1 5 14 true 0 0),(Operator.mk ([92,99,117,112]:Str) 1 8 8 true 0 0),(Operator.mk ([92,99,97,112]:Str) 1 8 8 true 0 0),(Operator.mk ([92]:Str) 1 8 8 false 0 0),(Operator.mk ([46,46]:Str) 1 9 9 false 0 0),(Operator.mk ([43]:Str) 1 10 10 true 0 0),(Operator.mk ([40,43,41]:Str) 1 10 10 true 0 0),(Operator.mk ([37]:Str) 1 10 11 false 0 0),(Operator.mk ([92,88]:Str) 1 10 13 false 0 0),(Operator.mk ([45]:Str) 1 11 11 true 0 0),(Operator.mk ([40,45,41]:Str) 1 11 11 true 0 0),(Operator.mk ([42]:Str) 1 13 13 true 0 0),(Operator.mk ([92,100,105,118]:Str) 1 13 13 false 0 0),(Operator.mk ([92,111]:Str) 1 13 13 true 0 0),(Operator.mk ([94]:Str) 1 14 14 false 0 0),(Operator.mk ([39]:Str) 2 15 15 false 0 0)] 0) (fun p28=>some p28)
theorem ae0 {k:Nat} {r:List Operator} (h:DR k=some r):aF Tryz.prog 64 [] (.aA (r.map Operator.cells) .unk):=by
  refine aF.aQ (bf.mem .nil) (aG auZ (by simp) (aD ?_)) (aU Operator.pu _);unfold DR at h;unfold anO;try refine ah ?_
  obtain⟨o26,h27,h⟩:=aj h;refine X5 k ([]:List Operator) [(Operator.mk ([126]:Str) 0 4 4 false 0 0),(Operator.mk ([69,78,65,66,76,69,68]:Str) 0 4 15 false 0 0),(Operator.mk ([85,78,67,72,65,78,71,69,68]:Str) 0 4 15 false 0 0),(Operator.mk ([91,93]:Str) 0 4 15 false 0 0),(Operator.mk ([60,62]:Str) 0 4 15 false 0 0),(Operator.mk ([83,85,66,83,69,84]:Str) 0 8 8 false 0 0),(Operator.mk ([85,78,73,79,78]:Str) 0 8 8 false 0 0),(Operator.mk ([68,79,77,65,73,78]:Str) 0 9 9 false 0 0),(Operator.mk ([45,46]:Str) 0 12 12 false 0 0),(Operator.mk ([61,62]:Str) 1 1 1 false 0 0),(Operator.mk ([60,61,62]:Str) 1 2 2 false 0 0),(Operator.mk ([126,62]:Str) 1 2 2 false 0 0),(Operator.mk ([47,92]:Str) 1 3 3 true 0 0),(Operator.mk ([92,47]:Str) 1 3 3 true 0 0),(Operator.mk ([61]:Str) 1 5 5 false 0 0),(Operator.mk ([35]:Str) 1 5 5 false 0 0),(Operator.mk ([60]:Str) 1 5 5 false 0 0),(Operator.mk ([60,61]:Str) 1 5 5 false 0 0),(Operator.mk ([62]:Str) 1 5 5 false 0 0),(Operator.mk ([62,61]:Str) 1 5 5 false 0 0),(Operator.mk ([92,105,110]:Str) 1 5 5 false 0 0),(Operator.mk ([92,110,111,116,105,110]:Str) 1 5 5 false 0 0),(Operator.mk ([92,115,117,98,115,101,116,101,113]:Str) 1 5 5 false 0 0),(Operator.mk ([92,115,113,115,117,98,115,101,116,101,113]:Str) 1 5 5 false 0 0),(Operator.mk ([64,64]:Str) 1 6 6 true 0 0),(Operator.mk ([58,62]:Str) 1 7 7 false 0 0),(Operator.mk ([92,99,100,111,116]:Str) 1 5 14 true 0 0),(Operator.mk ([92,99,117,112]:Str) 1 8 8 true 0 0),(Operator.mk ([92,99,97,112]:Str) 1 8 8 true 0 0),(Operator.mk ([92]:Str) 1 8 8 false 0 0),(Operator.mk ([46,46]:Str) 1 9 9 false 0 0),(Operator.mk ([43]:Str) 1 10 10 true 0 0),(Operator.mk ([40,43,41]:Str) 1 10 10 true 0 0),(Operator.mk ([37]:Str) 1 10 11 false 0 0),(Operator.mk ([92,88]:Str) 1 10 13 false 0 0),(Operator.mk ([45]:Str) 1 11 11 true 0 0),(Operator.mk ([40,45,41]:Str) 1 11 11 true 0 0),(Operator.mk ([42]:Str) 1 13 13 true 0 0),(Operator.mk ([92,100,105,118]:Str) 1 13 13 false 0 0),(Operator.mk ([92,111]:Str) 1 13 13 true 0 0),(Operator.mk ([94]:Str) 1 14 14 false 0 0),(Operator.mk ([39]:Str) 2 15 15 false 0 0)] 0 .nil .exact _ _ _ _ (Fr.refl _ _) (HF.refl _ _) av fG _ h27 _ ?_
  ·rintro p28 c32 σ' H31 eo Oy ahm s33;rw [eo]at h;have le:=ahm.1;try simp only [AH.aK,AH.aL,AH.aM,AH.aN]at le
   obtain rfl:=ak h;try refine ah ?_
   exact(d9 Operator.pu _ _)
def jd:Nat->Str->Str->Int->Int->Int->Bool->Int->Int->(List Operator)->Int->Option ((Str×Int×Int×Int×Bool×Int×Int)⊕(Bool×Str×Int×Int×Int×Bool×Int×Int))
  |0,_,_,_,_,_,_,_,_,_,_=>none
  |k+1,je,FL,FM,FN,FP,FQ,FR,FT,dS,dR=>
    cond (decide (dR<(dS.length:Int))) (if 0<=dR then Option.bind (dS[dR.toNat]?) fun x5=>cond (x5.text==je) (some (.inr ((true,x5.text,x5.fix,x5.low,x5.high,x5.left,x5.least,x5.most)))) (jd k je FL FM FN FP FQ FR FT dS (IntKind.wrap .i64 (dR+1)))else none) (some (.inl (FL,FM,FN,FP,FQ,FR,FT)))
def xZ:List Nat:=[3,5]++List.range' 7 17
theorem Mw: ∀(k:Nat) (zh:Nat) (je:Str) (FL:Str) (FM:Int) (FN:Int) (FP:Int) (FQ:Bool) (FR:Int) (FT:Int) (dS:List Operator) (dR:Int) (aC σ:Nat->PV) (H0 H:AH) (f0:Fr xZ aC σ) (hf0:HF [zh] H0 H) (sl:σ 0=(.str je)/\σ 2=(.ref (zh) 0)/\σ 4=(.aA (dS.map Operator.cells) .unk)/\σ 5=(.int .i64 dR)/\H.obj zh=some [(.str FL),(.int .i64 FM),(.int .i64 FN),(.int .i64 FP),(.bool FQ),(.int .i64 FR),(.int .i64 FT)]) (L6:zh<H.next) (o:(Str×Int×Int×Int×Bool×Int×Int)⊕(Bool×Str×Int×Int×Int×Bool×Int×Int)) (h:jd k je FL FM FN FP FQ FR FT dS dR=some o) (Q:Post) (q0: ∀(p:Str×Int×Int×Int×Bool×Int×Int) (σ':Nat->PV) (H':AH),o= .inl p->Fr xZ aC σ'->HF [zh] H0 H'->(H'.obj zh=some [(.str p.1),(.int .i64 p.2.1),(.int .i64 p.2.2.1),(.int .i64 p.2.2.2.1),(.bool p.2.2.2.2.1),(.int .i64 p.2.2.2.2.2.1),(.int .i64 p.2.2.2.2.2.2)])->Q (.exit 0) σ' H') (q1: ∀(p:Bool×Str×Int×Int×Int×Bool×Int×Int) (σ':Nat->PV) (H':AH),o= .inr (p)->Fr xZ aC σ'->HF [zh] H0 H'->(σ' 3=(.bool p.1)/\H'.obj zh=some [(.str p.2.1),(.int .i64 p.2.2.1),(.int .i64 p.2.2.2.1),(.int .i64 p.2.2.2.2.1),(.bool p.2.2.2.2.2.1),(.int .i64 p.2.2.2.2.2.2.1),(.int .i64 p.2.2.2.2.2.2.2)])->Q .ret σ' H'),W Tryz.prog (.loop RP) Q σ H:=by
  intro k
  induction k with
  |zero=>intro zh je FL FM FN FP FQ FR FT dS dR aC σ H0 H f0 hf0 sl L6 o h Q q0 q1;simp only [jd,reduceCtorEq]at h
  |succ k ih=>
    intro zh je FL FM FN FP FQ FR FT dS dR aC σ H0 H f0 hf0 sl L6 o h Q q0 q1;obtain⟨s0,s2,s4,s5,axd⟩:=sl;have axe:=ne_next L6;have axf:=aV L6;have hle0:=hf0.1;unfold jd at h;refine aT (fun K hK=>aD ?_);unfold RP;rcases au h with⟨e3,h⟩|⟨e3,h⟩
    ·obtain⟨e4,h⟩:=aP h;obtain⟨x5,e6,h⟩:=aj h;rcases au h with⟨e7,h⟩|⟨e7,h⟩
     ·obtain rfl:=ak h;try refine ah ?_
      exact q1 _ _ _ rfl aJ (by repeat (first|exact hf0|refine HF.new ?_|refine HF.fI ?_|refine HF.used ?_|refine HF.put (by first|(right;omega)|(left;simp only [List.mem_cons,true_or,or_true])) ?_)) av
     ·try refine ah ?_
      refine hK _ _ ?_;exact ih zh je FL FM FN FP FQ FR FT dS (IntKind.wrap .i64 (dR+1)) _ _ _ _ aJ (by repeat (first|exact hf0|refine HF.new ?_|refine HF.fI ?_|refine HF.used ?_|refine HF.put (by first|(right;omega)|(left;simp only [List.mem_cons,true_or,or_true])) ?_)) av bQ _ h _ q0 q1
    ·obtain rfl:=ak h;try refine ah ?_
     exact q0 _ _ _ rfl aJ (by repeat (first|exact hf0|refine HF.new ?_|refine HF.fI ?_|refine HF.used ?_|refine HF.put (by first|(right;omega)|(left;simp only [List.mem_cons,true_or,or_true])) ?_)) av
def qY (k:Nat) (je:Str):Option (Operator×Bool):=
  Option.bind (DR k) fun p2=>Option.bind (jd k je ([]:Str) 0 0 0 false 0 0 p2 0) (fun o=>Sum.elim (fun iN=>some ((Operator.mk [] 0 0 0 false 0 0),false)) (fun wM=>some ((Operator.mk wM.2.1 wM.2.2.1 wM.2.2.2.1 wM.2.2.2.2.1 wM.2.2.2.2.2.1 wM.2.2.2.2.2.2.1 wM.2.2.2.2.2.2.2),wM.1)) o)
theorem Ho {k:Nat} {je:Str} {r:Operator×Bool} (h:qY k je=some r):aF Tryz.prog 27 [(.str je)] (.dM [(.agg (Operator.cells r.1)),(.bool r.2)]):=by
  refine aF.aQ (bf.mem (.cons (.str _) .nil)) (aG anf (by simp) (aD ?_)) (.dM _ (bf.mem (.cons (.agg _ (Operator.pu _)) (.cons (.bool _) .nil))));unfold qY at h;unfold ane;obtain⟨p2,e1,h⟩:=aj h;try refine ah ?_
  refine aB (ae0 e1) ?_;try refine ah ?_
  obtain⟨o8,h9,h⟩:=aj h;refine Mw k (AH.empty.next) je ([]:Str) 0 0 0 false 0 0 p2 0 _ _ _ _ (Fr.refl _ _) (HF.refl _ _) av bQ _ h9 _ ?_ ?_
  ·rintro iN σ' H13 eo Ky pQ g14;subst eo;rw [bL]at h;have s15:σ' 2=(.ref (AH.empty.next) 0):=(Ky 2 (by decide)).trans av;have le:=pQ.1;try simp only [AH.aK,AH.aL,AH.aM,AH.aN]at le
   have n17:=ne_next (show AH.empty.next<H13.next by first|omega|(simp only [AH.aK,AH.aL,AH.aM,AH.aN];omega));have m18:=aV (show AH.empty.next<H13.next by first|omega|(simp only [AH.aK,AH.aL,AH.aM,AH.aN];omega));obtain rfl:=ak h;try refine ah ?_
   exact(dn (.cons (dH (.cons (.pure _ (.str _)) (.cons (.pure _ (.int _ _)) (.cons (.pure _ (.int _ _)) (.cons (.pure _ (.int _ _)) (.cons (.pure _ (.bool _)) (.cons (.pure _ (.int _ _)) (.cons (.pure _ (.int _ _)) .nil)))))))) (.cons (.pure _ (.bool _)) .nil)))
  ·rintro wM σ' H22 eo ahn ahl ⟨s23,g24⟩;subst eo;rw [bP]at h;have s25:σ' 2=(.ref (AH.empty.next) 0):=(ahn 2 (by decide)).trans av;have le:=ahl.1;try simp only [AH.aK,AH.aL,AH.aM,AH.aN]at le
   have n27:=ne_next (show AH.empty.next<H22.next by first|omega|(simp only [AH.aK,AH.aL,AH.aM,AH.aN];omega));have m28:=aV (show AH.empty.next<H22.next by first|omega|(simp only [AH.aK,AH.aL,AH.aM,AH.aN];omega));obtain rfl:=ak h;try refine ah ?_
   exact(dn (.cons (dH (.cons (.pure _ (.str _)) (.cons (.pure _ (.int _ _)) (.cons (.pure _ (.int _ _)) (.cons (.pure _ (.int _ _)) (.cons (.pure _ (.bool _)) (.cons (.pure _ (.int _ _)) (.cons (.pure _ (.int _ _)) .nil)))))))) (.cons (.pure _ (.bool _)) .nil)))
def zi:Option (List Str):=
  some [([65,83,83,85,77,69]:Str),([65,83,83,85,77,80,84,73,79,78]:Str),([65,88,73,79,77]:Str),([66,89]:Str),([67,65,83,69]:Str),([67,72,79,79,83,69]:Str),([67,79,78,83,84,65,78,84]:Str),([67,79,78,83,84,65,78,84,83]:Str),([68,69,70]:Str),([68,69,70,73,78,69]:Str),([68,69,70,83]:Str),([68,79,77,65,73,78]:Str),([69,76,83,69]:Str),([69,78,65,66,76,69,68]:Str),([69,88,67,69,80,84]:Str),([69,88,84,69,78,68,83]:Str),([70,65,76,83,69]:Str),([72,65,86,69]:Str),([72,73,68,69]:Str),([73,70]:Str),([73,78]:Str),([73,78,83,84,65,78,67,69]:Str),([76,65,77,66,68,65]:Str),([76,69,77,77,65]:Str),([76,69,84]:Str),([76,79,67,65,76]:Str),([77,79,68,85,76,69]:Str),([78,69,87]:Str),([79,66,86,73,79,85,83]:Str),([79,77,73,84,84,69,68]:Str),([79,84,72,69,82]:Str),([80,73,67,75]:Str),([80,82,79,79,70]:Str),([80,82,79,80,79,83,73,84,73,79,78]:Str),([80,82,79,86,69]:Str),([81,69,68]:Str),([82,69,67,85,82,83,73,86,69]:Str),([83,85,66,83,69,84]:Str),([83,85,70,70,73,67,69,83]:Str),([84,65,75,69]:Str),([84,72,69,78]:Str),([84,72,69,79,82,69,77]:Str),([84,82,85,69]:Str),([85,78,67,72,65,78,71,69,68]:Str),([85,78,73,79,78]:Str),([85,83,69]:Str),([86,65,82,73,65,66,76,69]:Str),([86,65,82,73,65,66,76,69,83]:Str),([87,73,84,72]:Str),([87,73,84,78,69,83,83]:Str)]
theorem X7 {r:List Str} (h:zi=some r):aF Tryz.prog 122 [] (.aA (r.map aI) .unk):=by
  refine aF.aQ (bf.mem .nil) (aG arE (by simp) (aD ?_)) (aU bg _);unfold zi at h;unfold ai7;obtain rfl:=ak h;try refine ah ?_
  exact(d9 bg [([65,83,83,85,77,69]:Str),([65,83,83,85,77,80,84,73,79,78]:Str),([65,88,73,79,77]:Str),([66,89]:Str),([67,65,83,69]:Str),([67,72,79,79,83,69]:Str),([67,79,78,83,84,65,78,84]:Str),([67,79,78,83,84,65,78,84,83]:Str),([68,69,70]:Str),([68,69,70,73,78,69]:Str),([68,69,70,83]:Str),([68,79,77,65,73,78]:Str),([69,76,83,69]:Str),([69,78,65,66,76,69,68]:Str),([69,88,67,69,80,84]:Str),([69,88,84,69,78,68,83]:Str),([70,65,76,83,69]:Str),([72,65,86,69]:Str),([72,73,68,69]:Str),([73,70]:Str),([73,78]:Str),([73,78,83,84,65,78,67,69]:Str),([76,65,77,66,68,65]:Str),([76,69,77,77,65]:Str),([76,69,84]:Str),([76,79,67,65,76]:Str),([77,79,68,85,76,69]:Str),([78,69,87]:Str),([79,66,86,73,79,85,83]:Str),([79,77,73,84,84,69,68]:Str),([79,84,72,69,82]:Str),([80,73,67,75]:Str),([80,82,79,79,70]:Str),([80,82,79,80,79,83,73,84,73,79,78]:Str),([80,82,79,86,69]:Str),([81,69,68]:Str),([82,69,67,85,82,83,73,86,69]:Str),([83,85,66,83,69,84]:Str),([83,85,70,70,73,67,69,83]:Str),([84,65,75,69]:Str),([84,72,69,78]:Str),([84,72,69,79,82,69,77]:Str),([84,82,85,69]:Str),([85,78,67,72,65,78,71,69,68]:Str),([85,78,73,79,78]:Str),([85,83,69]:Str),([86,65,82,73,65,66,76,69]:Str),([86,65,82,73,65,66,76,69,83]:Str),([87,73,84,72]:Str),([87,73,84,78,69,83,83]:Str)] _)
def zk (wN:Int):Option Bool:=
  cond (decide (wN>=97)) (cond (decide (wN<=122)) (some true) (cond (decide (wN>=65)) (some (decide (wN<=90))) (some false))) (cond (decide (wN>=65)) (some (decide (wN<=90))) (some false))
theorem Kz {wN:Int} {r:Bool} (h:zk wN=some r):aF Tryz.prog 123 [(.int .u8 wN)] (.bool r):=by
  refine aF.aQ (bf.mem (.cons (.int _ _) .nil)) (aG arF (by simp) (aD ?_)) (.bool _);unfold zk at h;unfold ai8;rcases au h with⟨e1,h⟩|⟨e1,h⟩
  ·rcases au h with⟨e2,h⟩|⟨e2,h⟩
   ·obtain rfl:=ak h;try refine ah ?_
    exact(.pure _ (.bool _))
   ·rcases au h with⟨e3,h⟩|⟨e3,h⟩
    ·obtain rfl:=ak h;try refine ah ?_
     exact(.pure _ (.bool _))
    ·obtain rfl:=ak h;try refine ah ?_
     exact(.pure _ (.bool _))
  ·rcases au h with⟨e4,h⟩|⟨e4,h⟩
   ·obtain rfl:=ak h;try refine ah ?_
    exact(.pure _ (.bool _))
   ·obtain rfl:=ak h;try refine ah ?_
    exact(.pure _ (.bool _))
def Ce (wN:Int):Option Bool:=
  cond (decide (wN>=48)) (some (decide (wN<=57))) (some false)
theorem aaV {wN:Int} {r:Bool} (h:Ce wN=some r):aF Tryz.prog 124 [(.int .u8 wN)] (.bool r):=by
  refine aF.aQ (bf.mem (.cons (.int _ _) .nil)) (aG arG (by simp) (aD ?_)) (.bool _);unfold Ce at h;unfold ai9;rcases au h with⟨e1,h⟩|⟨e1,h⟩
  ·obtain rfl:=ak h;try refine ah ?_
   exact(.pure _ (.bool _))
  ·obtain rfl:=ak h;try refine ah ?_
   exact(.pure _ (.bool _))
def BH (k:Nat) (s_0:Str):Option (Unit⊕Bool):=
  Option.bind (iJ (s_0.length:Int) 1 24) fun p2=>cond p2 (Option.bind (zi) fun p5=>Option.bind (l9 k p5 s_0) fun p7=>cond p7 (some (.inr (false))) (some (.inl ()))) (some (.inr (false)))
def Ed:List Nat:=[2]++List.range' 5 9
theorem Wm (k:Nat): ∀(s_0:Str) (aC σ:Nat->PV) (H:AH) (f0:Fr Ed aC σ) (sl:σ 0=(.str s_0)) (o:Unit⊕Bool) (h:BH k s_0=some o) (Q:Post) (q0: ∀(p:Unit) (σ':Nat->PV),o= .inl p->Fr Ed aC σ'->Q .normal σ' H) (q1: ∀(p:Bool) (σ':Nat->PV),o= .inr (p)->Fr Ed aC σ'->(σ' 2=(.bool p))->Q .ret σ' H),W Tryz.prog SI Q σ H:=by
  intro s_0 aC σ H f0 sl o h Q q0 q1;have s0:=sl;unfold BH at h;refine aD ?_;unfold SI;obtain⟨p2,e1,h⟩:=aj h;try refine ah ?_
  refine aB (iU e1) ?_;rcases au h with⟨e3,h⟩|⟨e3,h⟩
  ·obtain⟨p5,e4,h⟩:=aj h;try refine ah ?_
   refine aB (X7 e4) ?_;obtain⟨p7,e6,h⟩:=aj h;try refine ah ?_
   refine aB (za e6) ?_;rcases au h with⟨e8,h⟩|⟨e8,h⟩
   ·obtain rfl:=ak h;try refine ah ?_
    exact q1 _ _ rfl aJ av
   ·obtain rfl:=ak h;try refine ah ?_
    exact q0 _ _ rfl aJ
  ·obtain rfl:=ak h;try refine ah ?_
   exact q1 _ _ rfl aJ av
def wY (s_0:Str) (gD:Int) (iW:Bool):Option Bool:=
  cond iW (if 0<=gD then Option.bind (s_0[gD.toNat]?) fun x24=>Option.bind (Ce (x24.toNat:Int)) fun p27=>cond p27 (some (false)) (some (((x24.toNat:Int) !=95)))else none) (some (false))
def KA:List Nat:=List.range' 26 12
theorem Wn: ∀(s_0:Str) (gD:Int) (iW:Bool) (aC σ:Nat->PV) (H:AH) (f0:Fr KA aC σ) (sl:σ 0=(.str s_0)/\σ 4=(.int .i64 gD)/\σ 25=(.bool iW)) (o:Bool) (h:wY s_0 gD iW=some o) (Q:Post) (q0: ∀(p:Bool) (σ':Nat->PV),o=p->Fr KA aC σ'->(σ' 37=(.bool p))->Q .normal σ' H),dF Tryz.prog SK (Q .normal) σ H:=by
  intro s_0 gD iW aC σ H f0 sl o h Q q0;obtain⟨s0,s4,s25⟩:=sl;unfold wY at h;refine eB ?_;unfold SK;rcases au h with⟨e22,h⟩|⟨e22,h⟩
  ·obtain⟨e23,h⟩:=aP h;obtain⟨x24,e25,h⟩:=aj h;obtain⟨p27,e26,h⟩:=aj h;try refine ah ?_
   refine aB (aaV e26) ?_;rcases au h with⟨e28,h⟩|⟨e28,h⟩
   ·obtain rfl:=ak h;try refine ah ?_
    exact q0 _ _ rfl aJ av
   ·obtain rfl:=ak h;try refine ah ?_
    exact q0 _ _ rfl aJ av
  ·obtain rfl:=ak h;try refine ah ?_
   exact q0 _ _ rfl aJ av
def kX:Nat->Str->Bool->Int->Option (Bool⊕Bool)
  |0,_,_,_=>none
  |k+1,s_0,uS,gD=>
    cond (decide (gD<(s_0.length:Int))) (if 0<=gD then Option.bind (s_0[gD.toNat]?) fun x18=>Option.bind (zk (x18.toNat:Int)) fun pI=>Option.bind (wY s_0 gD (!pI)) (fun p31=>cond p31 (some (.inr (false))) (cond uS (kX k s_0 true (IntKind.wrap .i64 (gD+1))) (kX k s_0 pI (IntKind.wrap .i64 (gD+1)))))else none) (some (.inl uS))
def Ee:List Nat:=[2,3,4]++List.range' 14 31
theorem Wo: ∀(k:Nat) (s_0:Str) (uS:Bool) (gD:Int) (aC σ:Nat->PV) (H:AH) (f0:Fr Ee aC σ) (sl:σ 0=(.str s_0)/\σ 3=(.bool uS)/\σ 4=(.int .i64 gD)) (o:Bool⊕Bool) (h:kX k s_0 uS gD=some o) (Q:Post) (q0: ∀(p:Bool) (σ':Nat->PV),o= .inl p->Fr Ee aC σ'->(σ' 3=(.bool p))->Q (.exit 0) σ' H) (q1: ∀(p:Bool) (σ':Nat->PV),o= .inr (p)->Fr Ee aC σ'->(σ' 2=(.bool p))->Q .ret σ' H),W Tryz.prog (.loop SL) Q σ H:=by
  intro k
  induction k with
  |zero=>intro s_0 uS gD aC σ H f0 sl o h Q q0 q1;simp only [kX,reduceCtorEq]at h
  |succ k ih=>
    intro s_0 uS gD aC σ H f0 sl o h Q q0 q1;obtain⟨s0,s3,s4⟩:=sl;unfold kX at h;refine aT (fun K hK=>aD ?_);unfold SL;rcases au h with⟨e16,h⟩|⟨e16,h⟩
    ·obtain⟨e17,h⟩:=aP h;obtain⟨x18,e19,h⟩:=aj h;obtain⟨pI,e20,h⟩:=aj h;try refine ah ?_
     refine aB (Kz e20) ?_;try refine ah ?_
     obtain⟨o29,h30,h⟩:=aj h;refine Wn s_0 gD (!pI) _ _ _ (Fr.refl _ _) av _ h30 _ ?_
     ·rintro p31 σ' eo Oz s35;rw [eo]at h;have s36:σ' 0=(.str s_0):=(Oz 0 (by decide)).trans av;have s37:σ' 3=(.bool uS):=(Oz 3 (by decide)).trans av;have s38:σ' 4=(.int .i64 gD):=(Oz 4 (by decide)).trans av;rcases au h with⟨e39,h⟩|⟨e39,h⟩
      ·obtain rfl:=ak h;try refine ah ?_
       exact q1 _ _ rfl (by repeat (first|exact f0|refine Fr.upd (by decide) ?_|refine Fr.via Oz (by decide) ?_)) av
      ·rcases au h with⟨e40,h⟩|⟨e40,h⟩
       ·try refine ah ?_
        refine hK _ _ ?_;exact ih s_0 true (IntKind.wrap .i64 (gD+1)) _ _ _ (by repeat (first|exact f0|refine Fr.upd (by decide) ?_|refine Fr.via Oz (by decide) ?_)) av _ h _ q0 q1
       ·try refine ah ?_
        refine aB (Kz e20) ?_;try refine ah ?_
        refine hK _ _ ?_;exact ih s_0 pI (IntKind.wrap .i64 (gD+1)) _ _ _ (by repeat (first|exact f0|refine Fr.upd (by decide) ?_|refine Fr.via Oz (by decide) ?_)) av _ h _ q0 q1
    ·obtain rfl:=ak h;try refine ah ?_
     exact q0 _ _ rfl aJ av
def Ef (k:Nat) (s_0:Str):Option Bool:=
  Option.bind (BH k s_0) (fun o=>Sum.elim (fun l6=>Option.bind (kX k s_0 false 0) (fun o=>Sum.elim (fun p45=>some p45) (fun p50=>some p50) o)) (fun p55=>some p55) o)
theorem adi {k:Nat} {s_0:Str} {r:Bool} (h:Ef k s_0=some r):aF Tryz.prog 75 [(.str s_0)] (.bool r):=by
  refine aF.aQ (bf.mem (.cons (.str _) .nil)) (aG au5 (by simp) (aD ?_)) (.bool _);unfold Ef at h;unfold anW;try refine ah ?_
  obtain⟨o9,h10,h⟩:=aj h;refine Wm k s_0 _ _ _ (Fr.refl _ _) av _ h10 _ ?_ ?_
  ·rintro l6 σ' eo oU;subst eo;rw [bL]at h;have s15:σ' 0=(.str s_0):=(oU 0 (by decide)).trans av;try refine ah ?_
   obtain⟨o43,h44,h⟩:=aj h;refine Wo k s_0 false 0 _ _ _ (Fr.refl _ _) av _ h44 _ ?_ ?_
   ·rintro p45 σ' eo az3 s49;subst eo;rw [bL]at h;obtain rfl:=ak h;try refine ah ?_
    exact(.pure _ (.bool _))
   ·rintro p50 σ' eo az4 s54;subst eo;rw [bP]at h;obtain rfl:=ak h;try refine ah ?_
    exact(.pure _ (.bool _))
  ·rintro p55 σ' eo aos s59;subst eo;rw [bP]at h;obtain rfl:=ak h;try refine ah ?_
   exact(.pure _ (.bool _))
def uT (s_0:Str):Option Bool:=
  cond (s_0==([84,82,85,69]:Str)) (some true) (cond (s_0==([70,65,76,83,69]:Str)) (some true) (cond (s_0==([66,79,79,76,69,65,78]:Str)) (some true) (some (s_0==([83,84,82,73,78,71]:Str)))))
theorem Gu {s_0:Str} {r:Bool} (h:uT s_0=some r):aF Tryz.prog 76 [(.str s_0)] (.bool r):=by
  refine aF.aQ (bf.mem (.cons (.str _) .nil)) (aG au6 (by simp) (aD ?_)) (.bool _);unfold uT at h;unfold anX;rcases au h with⟨e1,h⟩|⟨e1,h⟩
  ·obtain rfl:=ak h;try refine ah ?_
   exact(.pure _ (.bool _))
  ·rcases au h with⟨e2,h⟩|⟨e2,h⟩
   ·obtain rfl:=ak h;try refine ah ?_
    exact(.pure _ (.bool _))
   ·rcases au h with⟨e3,h⟩|⟨e3,h⟩
    ·obtain rfl:=ak h;try refine ah ?_
     exact(.pure _ (.bool _))
    ·obtain rfl:=ak h;try refine ah ?_
     exact(.pure _ (.bool _))
def sG (k:Nat) (s_0:Str):Option Bool:=
  Option.bind (Ef k s_0) fun p2=>cond p2 (Option.bind (uT s_0) fun p5=>cond p5 (some false) (cond (decide ((s_0.length:Int)>2)) (if 3<=s_0.length then cond ((s_0.take 3)==([87,70,95]:Str)) (some false) (some (!((s_0.take 3)==([83,70,95]:Str))))else none) (some true))) (some false)
theorem zl {k:Nat} {s_0:Str} {r:Bool} (h:sG k s_0=some r):aF Tryz.prog 37 [(.str s_0)] (.bool r):=by
  refine aF.aQ (bf.mem (.cons (.str _) .nil)) (aG anq (by simp) (aD ?_)) (.bool _);unfold sG at h;unfold anp;obtain⟨p2,e1,h⟩:=aj h;try refine ah ?_
  refine aB (adi e1) ?_;rcases au h with⟨e3,h⟩|⟨e3,h⟩
  ·obtain⟨p5,e4,h⟩:=aj h;try refine ah ?_
   refine aB (Gu e4) ?_;rcases au h with⟨e6,h⟩|⟨e6,h⟩
   ·obtain rfl:=ak h;try refine ah ?_
    exact(.pure _ (.bool _))
   ·rcases au h with⟨e7,h⟩|⟨e7,h⟩
    ·obtain⟨e8,h⟩:=aP h;rcases au h with⟨e9,h⟩|⟨e9,h⟩
     ·obtain rfl:=ak h;try refine ah ?_
      exact(.pure _ (.bool _))
     ·obtain rfl:=ak h;try refine ah ?_
      exact(.pure _ (.bool _))
    ·obtain rfl:=ak h;try refine ah ?_
     exact(.pure _ (.bool _))
  ·obtain rfl:=ak h;try refine ah ?_
   exact(.pure _ (.bool _))
def kY:Nat->Str->Int->Option (Unit⊕Bool)
  |0,_,_=>none
  |k+1,s_0,dK=>
    cond (decide (dK<(s_0.length:Int))) (if 0<=dK then Option.bind (s_0[dK.toNat]?) fun x3=>cond ((x3.toNat:Int)==33) (if 0<=dK/\dK.toNat<=s_0.length then Option.bind (sG k (s_0.take dK.toNat)) fun p8=>cond p8 (if 0<=(IntKind.wrap .i64 (dK+1))/\(IntKind.wrap .i64 (dK+1)).toNat<=s_0.length then Option.bind (sG k (s_0.drop (IntKind.wrap .i64 (dK+1)).toNat)) fun lT=>some (.inr (lT))else none) (some (.inr (false)))else none) (kY k s_0 (IntKind.wrap .i64 (dK+1)))else none) (some (.inl ()))
def Eh:List Nat:=List.range' 2 23
theorem Wp: ∀(k:Nat) (s_0:Str) (dK:Int) (aC σ:Nat->PV) (H:AH) (f0:Fr Eh aC σ) (sl:σ 0=(.str s_0)/\σ 3=(.int .i64 dK)) (o:Unit⊕Bool) (h:kY k s_0 dK=some o) (Q:Post) (q0: ∀(p:Unit) (σ':Nat->PV),o= .inl p->Fr Eh aC σ'->Q (.exit 0) σ' H) (q1: ∀(p:Bool) (σ':Nat->PV),o= .inr (p)->Fr Eh aC σ'->(σ' 2=(.bool p))->Q .ret σ' H),W Tryz.prog (.loop Sy) Q σ H:=by
  intro k
  induction k with
  |zero=>intro s_0 dK aC σ H f0 sl o h Q q0 q1;simp only [kY,reduceCtorEq]at h
  |succ k ih=>
    intro s_0 dK aC σ H f0 sl o h Q q0 q1;obtain⟨s0,s3⟩:=sl;unfold kY at h;refine aT (fun K hK=>aD ?_);unfold Sy;rcases au h with⟨e1,h⟩|⟨e1,h⟩
    ·obtain⟨e2,h⟩:=aP h;obtain⟨x3,e4,h⟩:=aj h;rcases au h with⟨e5,h⟩|⟨e5,h⟩
     ·obtain⟨e6,h⟩:=aP h;obtain⟨p8,e7,h⟩:=aj h;try refine ah ?_
      refine aB (zl e7) ?_;rcases au h with⟨e9,h⟩|⟨e9,h⟩
      ·obtain⟨e10,h⟩:=aP h;obtain⟨lT,e11,h⟩:=aj h;try refine ah ?_
       refine aB (zl e11) ?_;obtain rfl:=ak h;try refine ah ?_
       exact q1 _ _ rfl aJ av
      ·obtain rfl:=ak h;try refine ah ?_
       exact q1 _ _ rfl aJ av
     ·try refine ah ?_
      refine hK _ _ ?_;exact ih s_0 (IntKind.wrap .i64 (dK+1)) _ _ _ aJ av _ h _ q0 q1
    ·obtain rfl:=ak h;try refine ah ?_
     exact q0 _ _ rfl aJ
def sH (k:Nat) (s_0:Str):Option Bool:=
  Option.bind (kY k s_0 0) (fun o=>Sum.elim (fun zm=>Option.bind (sG k s_0) fun pI=>some pI) (fun Jt=>some Jt) o)
theorem zn {k:Nat} {s_0:Str} {r:Bool} (h:sH k s_0=some r):aF Tryz.prog 56 [(.str s_0)] (.bool r):=by
  refine aF.aQ (bf.mem (.cons (.str _) .nil)) (aG auT (by simp) (aD ?_)) (.bool _);unfold sH at h;unfold anG;try refine ah ?_
  obtain⟨o13,h14,h⟩:=aj h;refine Wp k s_0 0 _ _ _ (Fr.refl _ _) av _ h14 _ ?_ ?_
  ·rintro zm σ' eo TJ;subst eo;rw [bL]at h;have oW:σ' 0=(.str s_0):=(TJ 0 (by decide)).trans av;obtain⟨pI,e20,h⟩:=aj h;try refine ah ?_
   refine aB (zl e20) ?_;obtain rfl:=ak h;try refine ah ?_
   exact(.pure _ (.bool _))
  ·rintro Jt σ' eo TK s26;subst eo;rw [bP]at h;obtain rfl:=ak h;try refine ah ?_
   exact(.pure _ (.bool _))
def sI (dS:Int):Option Bool:=
  cond (dS==0) (some ((dS==0))) (cond (dS==1) (some ((dS==1))) (cond (dS==2) (some ((dS==2))) (some ((dS==20)))))
def MX:List Nat:=[5,6,7,8,9]
theorem X8: ∀(dS:Int) (aC σ:Nat->PV) (H:AH) (f0:Fr MX aC σ) (sl:σ 4=(.int .i64 dS)) (o:Bool) (h:sI dS=some o) (Q:Post) (q0: ∀(p:Bool) (σ':Nat->PV),o=p->Fr MX aC σ'->(σ' 5=(.bool p))->Q .normal σ' H),W Tryz.prog Tw Q σ H:=by
  intro dS aC σ H f0 sl o h Q q0;have s4:=sl;unfold sI at h;refine aD ?_;unfold Tw;rcases au h with⟨e1,h⟩|⟨e1,h⟩
  ·obtain rfl:=ak h;try refine ah ?_
   exact q0 _ _ rfl aJ av
  ·rcases au h with⟨e2,h⟩|⟨e2,h⟩
   ·obtain rfl:=ak h;try refine ah ?_
    exact q0 _ _ rfl aJ av
   ·rcases au h with⟨e3,h⟩|⟨e3,h⟩
    ·obtain rfl:=ak h;try refine ah ?_
     exact q0 _ _ rfl aJ av
    ·obtain rfl:=ak h;try refine ah ?_
     exact q0 _ _ rfl aJ av
def zo (dS:Int):Option Bool:=
  cond (dS==4) (some ((dS==4))) (some ((dS==5)))
theorem X9: ∀(dS:Int) (aC σ:Nat->PV) (H:AH) (f0:Fr [14,15,16] aC σ) (sl:σ 4=(.int .i64 dS)) (o:Bool) (h:zo dS=some o) (Q:Post) (q0: ∀(p:Bool) (σ':Nat->PV),o=p->Fr [14,15,16] aC σ'->(σ' 14=(.bool p))->Q .normal σ' H),W Tryz.prog Tx Q σ H:=by
  intro dS aC σ H f0 sl o h Q q0;have s4:=sl;unfold zo at h;refine aD ?_;unfold Tx;rcases au h with⟨e15,h⟩|⟨e15,h⟩
  ·obtain rfl:=ak h;try refine ah ?_
   exact q0 _ _ rfl aJ av
  ·obtain rfl:=ak h;try refine ah ?_
   exact q0 _ _ rfl aJ av
def zq (dS:Int):Option Bool:=
  cond (dS==6) (some ((dS==6))) (some ((dS==12)))
theorem Ya: ∀(dS:Int) (aC σ:Nat->PV) (H:AH) (f0:Fr [18,19,20] aC σ) (sl:σ 4=(.int .i64 dS)) (o:Bool) (h:zq dS=some o) (Q:Post) (q0: ∀(p:Bool) (σ':Nat->PV),o=p->Fr [18,19,20] aC σ'->(σ' 18=(.bool p))->Q .normal σ' H),W Tryz.prog Tz Q σ H:=by
  intro dS aC σ H f0 sl o h Q q0;have s4:=sl;unfold zq at h;refine aD ?_;unfold Tz;rcases au h with⟨e26,h⟩|⟨e26,h⟩
  ·obtain rfl:=ak h;try refine ah ?_
   exact q0 _ _ rfl aJ av
  ·obtain rfl:=ak h;try refine ah ?_
   exact q0 _ _ rfl aJ av
def zu (dS:Int):Option Bool:=
  cond (dS==7) (some ((dS==7))) (cond (dS==8) (some ((dS==8))) (cond (dS==9) (some ((dS==9))) (some ((dS==13)))))
def MZ:List Nat:=[22,23,24,25,26]
theorem Yb: ∀(dS:Int) (aC σ:Nat->PV) (H:AH) (f0:Fr MZ aC σ) (sl:σ 4=(.int .i64 dS)) (o:Bool) (h:zu dS=some o) (Q:Post) (q0: ∀(p:Bool) (σ':Nat->PV),o=p->Fr MZ aC σ'->(σ' 22=(.bool p))->Q .normal σ' H),W Tryz.prog TA Q σ H:=by
  intro dS aC σ H f0 sl o h Q q0;have s4:=sl;unfold zu at h;refine aD ?_;unfold TA;rcases au h with⟨e37,h⟩|⟨e37,h⟩
  ·obtain rfl:=ak h;try refine ah ?_
   exact q0 _ _ rfl aJ av
  ·rcases au h with⟨e38,h⟩|⟨e38,h⟩
   ·obtain rfl:=ak h;try refine ah ?_
    exact q0 _ _ rfl aJ av
   ·rcases au h with⟨e39,h⟩|⟨e39,h⟩
    ·obtain rfl:=ak h;try refine ah ?_
     exact q0 _ _ rfl aJ av
    ·obtain rfl:=ak h;try refine ah ?_
     exact q0 _ _ rfl aJ av
def zw (dS:Int):Option Bool:=
  cond (dS==10) (some ((dS==10))) (some ((dS==11)))
theorem Yc: ∀(dS:Int) (aC σ:Nat->PV) (H:AH) (f0:Fr [28,29,30] aC σ) (sl:σ 4=(.int .i64 dS)) (o:Bool) (h:zw dS=some o) (Q:Post) (q0: ∀(p:Bool) (σ':Nat->PV),o=p->Fr [28,29,30] aC σ'->(σ' 28=(.bool p))->Q .normal σ' H),W Tryz.prog TB Q σ H:=by
  intro dS aC σ H f0 sl o h Q q0;have s4:=sl;unfold zw at h;refine aD ?_;unfold TB;rcases au h with⟨e50,h⟩|⟨e50,h⟩
  ·obtain rfl:=ak h;try refine ah ?_
   exact q0 _ _ rfl aJ av
  ·obtain rfl:=ak h;try refine ah ?_
   exact q0 _ _ rfl aJ av
def zx (dS:Int):Option Bool:=
  cond (dS==15) (some ((dS==15))) (cond (dS==25) (some ((dS==25))) (cond (dS==26) (some ((dS==26))) (cond (dS==27) (some ((dS==27))) (some ((dS==28))))))
def M0:List Nat:=[35,36,37,38,39,40]
theorem Yd: ∀(dS:Int) (aC σ:Nat->PV) (H:AH) (f0:Fr M0 aC σ) (sl:σ 4=(.int .i64 dS)) (o:Bool) (h:zx dS=some o) (Q:Post) (q0: ∀(p:Bool) (σ':Nat->PV),o=p->Fr M0 aC σ'->(σ' 35=(.bool p))->Q .normal σ' H),W Tryz.prog TD Q σ H:=by
  intro dS aC σ H f0 sl o h Q q0;have s4:=sl;unfold zx at h;refine aD ?_;unfold TD;rcases au h with⟨e62,h⟩|⟨e62,h⟩
  ·obtain rfl:=ak h;try refine ah ?_
   exact q0 _ _ rfl aJ av
  ·rcases au h with⟨e63,h⟩|⟨e63,h⟩
   ·obtain rfl:=ak h;try refine ah ?_
    exact q0 _ _ rfl aJ av
   ·rcases au h with⟨e64,h⟩|⟨e64,h⟩
    ·obtain rfl:=ak h;try refine ah ?_
     exact q0 _ _ rfl aJ av
    ·rcases au h with⟨e65,h⟩|⟨e65,h⟩
     ·obtain rfl:=ak h;try refine ah ?_
      exact q0 _ _ rfl aJ av
     ·obtain rfl:=ak h;try refine ah ?_
      exact q0 _ _ rfl aJ av
def zy (dS:Int):Option Bool:=
  cond (dS==16) (some ((dS==16))) (some ((dS==17)))
theorem Ye: ∀(dS:Int) (aC σ:Nat->PV) (H:AH) (f0:Fr [42,43,44] aC σ) (sl:σ 4=(.int .i64 dS)) (o:Bool) (h:zy dS=some o) (Q:Post) (q0: ∀(p:Bool) (σ':Nat->PV),o=p->Fr [42,43,44] aC σ'->(σ' 42=(.bool p))->Q .normal σ' H),W Tryz.prog TF Q σ H:=by
  intro dS aC σ H f0 sl o h Q q0;have s4:=sl;unfold zy at h;refine aD ?_;unfold TF;rcases au h with⟨Vk,h⟩|⟨Vk,h⟩
  ·obtain rfl:=ak h;try refine ah ?_
   exact q0 _ _ rfl aJ av
  ·obtain rfl:=ak h;try refine ah ?_
   exact q0 _ _ rfl aJ av
def qZ (dI:Int):Option ((Int×Int×Int×Int)×Bool):=
  Option.bind (sI dI) (fun p6=>cond p6 (some ((0,0,0,0),false)) (cond (dI==3) (some ((0,0,1,4),false)) (Option.bind (zo dI) (fun wO=>cond wO (some ((0,0,0,30),false)) (Option.bind (zq dI) (fun p29=>cond p29 (some ((1,1,2,2),false)) (Option.bind (zu dI) (fun p42=>cond p42 (some ((1,4,1,1),true)) (Option.bind (zw dI) (fun p53=>cond p53 (some ((1,4,1,1),false)) (cond (dI==14) (some ((0,0,2,5),false)) (Option.bind (zx dI) (fun p68=>cond p68 (some ((0,0,2,2),false)) (Option.bind (zy dI) (fun p79=>cond p79 (some ((1,30,0,0),true)) (cond (dI==18) (some ((0,0,1,1),false)) (cond (dI==19) (some ((0,0,3,3),false)) (cond (dI==21) (some ((0,0,3,3),false)) (cond (dI==22) (some ((0,0,2,30),false)) (cond (dI==23) (some ((1,5,2,2),false)) (some ((1,4,1,1),false))))))))))))))))))))))
theorem ae4 {dI:Int} {r:(Int×Int×Int×Int)×Bool} (h:qZ dI=some r):aF Tryz.prog 95 [(.int .i64 dI)] (.dM [(.agg [(.int .i64 r.1.1),(.int .i64 r.1.2.1),(.int .i64 r.1.2.2.1),(.int .i64 r.1.2.2.2)]),(.bool r.2)]):=by
  refine aF.aQ (bf.mem (.cons (.int _ _) .nil)) (aG avk (by simp) (aD ?_)) (.dM _ (bf.mem (.cons (.agg _ (bf.mem (.cons (.int _ _) (.cons (.int _ _) (.cons (.int _ _) (.cons (.int _ _) .nil)))))) (.cons (.bool _) .nil))));unfold qZ at h;unfold aoc;try refine ah ?_
  obtain⟨o4,h5,h⟩:=aj h;refine X8 dI _ _ _ (Fr.refl _ _) av _ h5 _ ?_
  ·rintro p6 σ' eo fr7 s10;rw [eo]at h;have s11:σ' 2=(.ref (AH.empty.next) 0):=(fr7 2 (by decide)).trans av;have s12:σ' 4=(.int .i64 dI):=(fr7 4 (by decide)).trans av;rcases au h with⟨e13,h⟩|⟨e13,h⟩
   ·obtain rfl:=ak h;try refine ah ?_
    exact(dn (.cons (dH (.cons (.pure _ (.int _ _)) (.cons (.pure _ (.int _ _)) (.cons (.pure _ (.int _ _)) (.cons (.pure _ (.int _ _)) .nil))))) (.cons (.pure _ (.bool _)) .nil)))
   ·rcases au h with⟨e14,h⟩|⟨e14,h⟩
    ·obtain rfl:=ak h;try refine ah ?_
     exact(dn (.cons (dH (.cons (.pure _ (.int _ _)) (.cons (.pure _ (.int _ _)) (.cons (.pure _ (.int _ _)) (.cons (.pure _ (.int _ _)) .nil))))) (.cons (.pure _ (.bool _)) .nil)))
    ·try refine ah ?_
     obtain⟨o16,h17,h⟩:=aj h;refine X9 dI _ _ _ (Fr.refl _ _) av _ h17 _ ?_
     ·rintro wO σ' eo aho s22;rw [eo]at h;have s23:σ' 2=(.ref (AH.empty.next) 0):=(aho 2 (by decide)).trans av;have s24:σ' 4=(.int .i64 dI):=(aho 4 (by decide)).trans av;rcases au h with⟨e25,h⟩|⟨e25,h⟩
      ·obtain rfl:=ak h;try refine ah ?_
       exact(dn (.cons (dH (.cons (.pure _ (.int _ _)) (.cons (.pure _ (.int _ _)) (.cons (.pure _ (.int _ _)) (.cons (.pure _ (.int _ _)) .nil))))) (.cons (.pure _ (.bool _)) .nil)))
      ·try refine ah ?_
       obtain⟨o27,h28,h⟩:=aj h;refine Ya dI _ _ _ (Fr.refl _ _) av _ h28 _ ?_
       ·rintro p29 σ' eo yc s33;rw [eo]at h;have s34:σ' 2=(.ref (AH.empty.next) 0):=(yc 2 (by decide)).trans av;have s35:σ' 4=(.int .i64 dI):=(yc 4 (by decide)).trans av;rcases au h with⟨e36,h⟩|⟨e36,h⟩
        ·obtain rfl:=ak h;try refine ah ?_
         exact(dn (.cons (dH (.cons (.pure _ (.int _ _)) (.cons (.pure _ (.int _ _)) (.cons (.pure _ (.int _ _)) (.cons (.pure _ (.int _ _)) .nil))))) (.cons (.pure _ (.bool _)) .nil)))
        ·try refine ah ?_
         obtain⟨o40,h41,h⟩:=aj h;refine Yb dI _ _ _ (Fr.refl _ _) av _ h41 _ ?_
         ·rintro p42 σ' eo aot s46;rw [eo]at h;have s47:σ' 2=(.ref (AH.empty.next) 0):=(aot 2 (by decide)).trans av;have s48:σ' 4=(.int .i64 dI):=(aot 4 (by decide)).trans av;rcases au h with⟨e49,h⟩|⟨e49,h⟩
          ·obtain rfl:=ak h;try refine ah ?_
           exact(dn (.cons (dH (.cons (.pure _ (.int _ _)) (.cons (.pure _ (.int _ _)) (.cons (.pure _ (.int _ _)) (.cons (.pure _ (.int _ _)) .nil))))) (.cons (.pure _ (.bool _)) .nil)))
          ·try refine ah ?_
           obtain⟨o51,Yf,h⟩:=aj h;refine Yc dI _ _ _ (Fr.refl _ _) av _ Yf _ ?_
           ·rintro p53 σ' eo IZ s57;rw [eo]at h;have s58:σ' 2=(.ref (AH.empty.next) 0):=(IZ 2 (by decide)).trans av;have s59:σ' 4=(.int .i64 dI):=(IZ 4 (by decide)).trans av;rcases au h with⟨e60,h⟩|⟨e60,h⟩
            ·obtain rfl:=ak h;try refine ah ?_
             exact(dn (.cons (dH (.cons (.pure _ (.int _ _)) (.cons (.pure _ (.int _ _)) (.cons (.pure _ (.int _ _)) (.cons (.pure _ (.int _ _)) .nil))))) (.cons (.pure _ (.bool _)) .nil)))
            ·rcases au h with⟨e61,h⟩|⟨e61,h⟩
             ·obtain rfl:=ak h;try refine ah ?_
              exact(dn (.cons (dH (.cons (.pure _ (.int _ _)) (.cons (.pure _ (.int _ _)) (.cons (.pure _ (.int _ _)) (.cons (.pure _ (.int _ _)) .nil))))) (.cons (.pure _ (.bool _)) .nil)))
             ·try refine ah ?_
              obtain⟨o66,h67,h⟩:=aj h;refine Yd dI _ _ _ (Fr.refl _ _) av _ h67 _ ?_
              ·rintro p68 σ' eo aov s72;rw [eo]at h;have s73:σ' 2=(.ref (AH.empty.next) 0):=(aov 2 (by decide)).trans av;have s74:σ' 4=(.int .i64 dI):=(aov 4 (by decide)).trans av;rcases au h with⟨PK,h⟩|⟨PK,h⟩
               ·obtain rfl:=ak h;try refine ah ?_
                exact(dn (.cons (dH (.cons (.pure _ (.int _ _)) (.cons (.pure _ (.int _ _)) (.cons (.pure _ (.int _ _)) (.cons (.pure _ (.int _ _)) .nil))))) (.cons (.pure _ (.bool _)) .nil)))
               ·try refine ah ?_
                obtain⟨o77,h78,h⟩:=aj h;refine Ye dI _ _ _ (Fr.refl _ _) av _ h78 _ ?_
                ·rintro p79 σ' eo aow s83;rw [eo]at h;have s84:σ' 2=(.ref (AH.empty.next) 0):=(aow 2 (by decide)).trans av;have s85:σ' 4=(.int .i64 dI):=(aow 4 (by decide)).trans av;rcases au h with⟨PL,h⟩|⟨PL,h⟩
                 ·obtain rfl:=ak h;try refine ah ?_
                  exact(dn (.cons (dH (.cons (.pure _ (.int _ _)) (.cons (.pure _ (.int _ _)) (.cons (.pure _ (.int _ _)) (.cons (.pure _ (.int _ _)) .nil))))) (.cons (.pure _ (.bool _)) .nil)))
                 ·rcases au h with⟨e87,h⟩|⟨e87,h⟩
                  ·obtain rfl:=ak h;try refine ah ?_
                   exact(dn (.cons (dH (.cons (.pure _ (.int _ _)) (.cons (.pure _ (.int _ _)) (.cons (.pure _ (.int _ _)) (.cons (.pure _ (.int _ _)) .nil))))) (.cons (.pure _ (.bool _)) .nil)))
                  ·rcases au h with⟨PN,h⟩|⟨PN,h⟩
                   ·obtain rfl:=ak h;try refine ah ?_
                    exact(dn (.cons (dH (.cons (.pure _ (.int _ _)) (.cons (.pure _ (.int _ _)) (.cons (.pure _ (.int _ _)) (.cons (.pure _ (.int _ _)) .nil))))) (.cons (.pure _ (.bool _)) .nil)))
                   ·rcases au h with⟨PO,h⟩|⟨PO,h⟩
                    ·obtain rfl:=ak h;try refine ah ?_
                     exact(dn (.cons (dH (.cons (.pure _ (.int _ _)) (.cons (.pure _ (.int _ _)) (.cons (.pure _ (.int _ _)) (.cons (.pure _ (.int _ _)) .nil))))) (.cons (.pure _ (.bool _)) .nil)))
                    ·rcases au h with⟨Yg,h⟩|⟨Yg,h⟩
                     ·obtain rfl:=ak h;try refine ah ?_
                      exact(dn (.cons (dH (.cons (.pure _ (.int _ _)) (.cons (.pure _ (.int _ _)) (.cons (.pure _ (.int _ _)) (.cons (.pure _ (.int _ _)) .nil))))) (.cons (.pure _ (.bool _)) .nil)))
                     ·rcases au h with⟨PS,h⟩|⟨PS,h⟩
                      ·obtain rfl:=ak h;try refine ah ?_
                       exact(dn (.cons (dH (.cons (.pure _ (.int _ _)) (.cons (.pure _ (.int _ _)) (.cons (.pure _ (.int _ _)) (.cons (.pure _ (.int _ _)) .nil))))) (.cons (.pure _ (.bool _)) .nil)))
                      ·obtain rfl:=ak h;try refine ah ?_
                       exact(dn (.cons (dH (.cons (.pure _ (.int _ _)) (.cons (.pure _ (.int _ _)) (.cons (.pure _ (.int _ _)) (.cons (.pure _ (.int _ _)) .nil))))) (.cons (.pure _ (.bool _)) .nil)))
def mh:Nat->(List Nd)->Int->Option (Int⊕Int)
  |0,_,_=>none
  |k+1,aH,fB=>
    if 0<=fB then Option.bind (aH[fB.toNat]?) fun x3=>cond (decide ((x3.args.length:Int)>0)) (Option.bind (x3.args[0]?) fun x6=>Option.bind (iJ x6 0 (IntKind.wrap .i64 (fB -1))) fun p9=>cond p9 (mh k aH x6) (some (.inr ((-1))))) (some (.inl fB))else none
def Gv:List Nat:=[1,4,5]++List.range' 8 20
theorem Yh: ∀(k:Nat) (aH:List Nd) (fB:Int) (aC σ:Nat->PV) (H:AH) (f0:Fr Gv aC σ) (sl:σ 0=(.aA (aH.map Nd.cells) .unk)/\σ 1=(.int .i64 fB)) (o:Int⊕Int) (h:mh k aH fB=some o) (Q:Post) (q0: ∀(p:Int) (σ':Nat->PV),o= .inl p->Fr Gv aC σ'->(σ' 1=(.int .i64 p))->Q (.exit 0) σ' H) (q1: ∀(p:Int) (σ':Nat->PV),o= .inr (p)->Fr Gv aC σ'->(σ' 4=(.int .i64 p))->Q .ret σ' H),W Tryz.prog (.loop Sz) Q σ H:=by
  intro k
  induction k with
  |zero=>intro aH fB aC σ H f0 sl o h Q q0 q1;simp only [mh,reduceCtorEq]at h
  |succ k ih=>
    intro aH fB aC σ H f0 sl o h Q q0 q1;obtain⟨s0,s1⟩:=sl;unfold mh at h;refine aT (fun K hK=>aD ?_);unfold Sz;obtain⟨e2,h⟩:=aP h;obtain⟨x3,e4,h⟩:=aj h;rcases au h with⟨e5,h⟩|⟨e5,h⟩
    ·obtain⟨x6,e7,h⟩:=aj h;obtain⟨p9,e8,h⟩:=aj h;try refine ah ?_
     refine aB (iU e8) ?_;rcases au h with⟨e10,h⟩|⟨e10,h⟩
     ·try refine ah ?_
      refine hK _ _ ?_;exact ih aH x6 _ _ _ aJ av _ h _ q0 q1
     ·obtain rfl:=ak h;try refine ah ?_
      exact q1 _ _ rfl aJ av
    ·obtain rfl:=ak h;try refine ah ?_
     exact q0 _ _ rfl aJ av
def tX (k:Nat) (aH:List Nd) (fB:Int):Option Int:=
  cond (decide (fB<0)) (some (-1)) (Option.bind (mh k aH fB) (fun o=>Sum.elim (fun rR=>some rR) (fun wO=>some wO) o))
theorem KC {k:Nat} {aH:List Nd} {fB:Int} {c0:Ck} {r:Int} (h:tX k aH fB=some r):aF Tryz.prog 57 [(.aA (aH.map Nd.cells) c0),(.int .i64 fB)] (.int .i64 r):=by
  refine aF.lw (.aA (.same .nil)) (aF.aQ (bf.mem (.cons (aU Nd.pu _) (.cons (.int _ _) .nil))) (aG auU (by simp) (aD ?_)) (.int _ _));unfold tX at h;unfold anH;rcases au h with⟨e1,h⟩|⟨e1,h⟩
  ·obtain rfl:=ak h;try refine ah ?_
   exact(.pure _ (.int _ _))
  ·try refine ah ?_
   obtain⟨o11,h12,h⟩:=aj h;refine Yh k aH fB _ _ _ (Fr.refl _ _) av _ h12 _ ?_ ?_
   ·rintro rR σ' eo aoy tH;subst eo;rw [bL]at h;obtain rfl:=ak h;try refine ah ?_
    exact(.pure _ (.int _ _))
   ·rintro wO σ' eo aho s22;subst eo;rw [bP]at h;obtain rfl:=ak h;try refine ah ?_
    exact(.pure _ (.int _ _))
def nY:Nat->(List Nd)->Int->Int->Int->Option (Unit⊕Bool)
  |0,_,_,_,_=>none
  |k+1,aH,dA,Cg,nI=>
    cond (decide (nI>=0)) (if 0<=dA then Option.bind (aH[dA.toNat]?) fun x6=>if 0<=nI then Option.bind (x6.args[nI.toNat]?) fun x9=>cond (x9 !=(IntKind.wrap .i64 (Cg -1))) (some (.inr (false))) (cond (decide (Cg<1)) (some (.inr (false))) (Option.bind (tX k aH (IntKind.wrap .i64 (Cg -1))) fun kD=>nY k aH dA kD (IntKind.wrap .i64 (nI -1))))else none else none) (some (.inl ()))
def Ei:List Nat:=[4,5,6]++List.range' 15 23
theorem Wq: ∀(k:Nat) (aH:List Nd) (dA:Int) (Cg:Int) (nI:Int) (aC σ:Nat->PV) (H:AH) (f0:Fr Ei aC σ) (sl:σ 0=(.aA (aH.map Nd.cells) .unk)/\σ 1=(.int .i64 dA)/\σ 5=(.int .i64 Cg)/\σ 6=(.int .i64 nI)) (o:Unit⊕Bool) (h:nY k aH dA Cg nI=some o) (Q:Post) (q0: ∀(p:Unit) (σ':Nat->PV),o= .inl p->Fr Ei aC σ'->Q (.exit 0) σ' H) (q1: ∀(p:Bool) (σ':Nat->PV),o= .inr (p)->Fr Ei aC σ'->(σ' 4=(.bool p))->Q .ret σ' H),W Tryz.prog (.loop TG) Q σ H:=by
  intro k
  induction k with
  |zero=>intro aH dA Cg nI aC σ H f0 sl o h Q q0 q1;simp only [nY,reduceCtorEq]at h
  |succ k ih=>
    intro aH dA Cg nI aC σ H f0 sl o h Q q0 q1;obtain⟨s0,s1,s5,s6⟩:=sl;unfold nY at h;refine aT (fun K hK=>aD ?_);unfold TG;rcases au h with⟨e4,h⟩|⟨e4,h⟩
    ·obtain⟨e5,h⟩:=aP h;obtain⟨x6,e7,h⟩:=aj h;obtain⟨e8,h⟩:=aP h;obtain⟨x9,e10,h⟩:=aj h;rcases au h with⟨e11,h⟩|⟨e11,h⟩
     ·obtain rfl:=ak h;try refine ah ?_
      exact q1 _ _ rfl aJ av
     ·rcases au h with⟨e12,h⟩|⟨e12,h⟩
      ·obtain rfl:=ak h;try refine ah ?_
       exact q1 _ _ rfl aJ av
      ·obtain⟨kD,e13,h⟩:=aj h;try refine ah ?_
       refine aB (KC e13) ?_;try refine ah ?_
       refine hK _ _ ?_;exact ih aH dA kD (IntKind.wrap .i64 (nI -1)) _ _ _ aJ av _ h _ q0 q1
    ·obtain rfl:=ak h;try refine ah ?_
     exact q0 _ _ rfl aJ
def Bb (k:Nat) (aH:List Nd) (dA:Int):Option Bool:=
  if 0<=dA then Option.bind (aH[dA.toNat]?) fun x2=>Option.bind (nY k aH dA dA (IntKind.wrap .i64 ((x2.args.length:Int) -1))) (fun o=>Sum.elim (fun Hq=>some true) (fun pI=>some pI) o)else none
theorem adj {k:Nat} {aH:List Nd} {dA:Int} {c0:Ck} {r:Bool} (h:Bb k aH dA=some r):aF Tryz.prog 96 [(.aA (aH.map Nd.cells) c0),(.int .i64 dA)] (.bool r):=by
  refine aF.lw (.aA (.same .nil)) (aF.aQ (bf.mem (.cons (aU Nd.pu _) (.cons (.int _ _) .nil))) (aG aoe (by simp) (aD ?_)) (.bool _));unfold Bb at h;unfold aod;obtain⟨e1,h⟩:=aP h;obtain⟨x2,e3,h⟩:=aj h;try refine ah ?_
  obtain⟨o15,h16,h⟩:=aj h;refine Wq k aH dA dA (IntKind.wrap .i64 ((x2.args.length:Int) -1)) _ _ _ (Fr.refl _ _) av _ h16 _ ?_ ?_
  ·rintro Hq σ' eo aoz;subst eo;rw [bL]at h;obtain rfl:=ak h;try refine ah ?_
   exact(.pure _ (.bool _))
  ·rintro pI σ' eo az5 s25;subst eo;rw [bP]at h;obtain rfl:=ak h;try refine ah ?_
   exact(.pure _ (.bool _))
def lg:Nat->Str->Int->Option (Unit⊕Bool)
  |0,_,_=>none
  |k+1,s_0,dR=>
    cond (decide (dR<(s_0.length:Int))) (if 0<=dR then Option.bind (s_0[dR.toNat]?) fun x4=>cond (decide ((x4.toNat:Int)<32)) (some (.inr (false))) (cond (decide ((x4.toNat:Int)>126)) (some (.inr (false))) (lg k s_0 (IntKind.wrap .i64 (dR+1))))else none) (some (.inl ()))
def CG:List Nat:=[4,5]++List.range' 10 16
theorem TL: ∀(k:Nat) (s_0:Str) (dR:Int) (aC σ:Nat->PV) (H:AH) (f0:Fr CG aC σ) (sl:σ 0=(.str s_0)/\σ 5=(.int .i64 dR)) (o:Unit⊕Bool) (h:lg k s_0 dR=some o) (Q:Post) (q0: ∀(p:Unit) (σ':Nat->PV),o= .inl p->Fr CG aC σ'->Q (.exit 0) σ' H) (q1: ∀(p:Bool) (σ':Nat->PV),o= .inr (p)->Fr CG aC σ'->(σ' 4=(.bool p))->Q .ret σ' H),W Tryz.prog (.loop Om) Q σ H:=by
  intro k
  induction k with
  |zero=>intro s_0 dR aC σ H f0 sl o h Q q0 q1;simp only [lg,reduceCtorEq]at h
  |succ k ih=>
    intro s_0 dR aC σ H f0 sl o h Q q0 q1;obtain⟨s0,s5⟩:=sl;unfold lg at h;refine aT (fun K hK=>aD ?_);unfold Om;rcases au h with⟨e2,h⟩|⟨e2,h⟩
    ·obtain⟨e3,h⟩:=aP h;obtain⟨x4,e5,h⟩:=aj h;rcases au h with⟨e6,h⟩|⟨e6,h⟩
     ·obtain rfl:=ak h;try refine ah ?_
      exact q1 _ _ rfl aJ av
     ·rcases au h with⟨e7,h⟩|⟨e7,h⟩
      ·obtain rfl:=ak h;try refine ah ?_
       exact q1 _ _ rfl aJ av
      ·try refine ah ?_
       refine hK _ _ ?_;exact ih s_0 (IntKind.wrap .i64 (dR+1)) _ _ _ aJ av _ h _ q0 q1
    ·obtain rfl:=ak h;try refine ah ?_
     exact q0 _ _ rfl aJ
def Ch (k:Nat) (s_0:Str) (PU:Int):Option Bool:=
  cond (decide ((s_0.length:Int)>PU)) (some false) (Option.bind (lg k s_0 0) (fun o=>Sum.elim (fun iN=>some true) (fun kD=>some kD) o))
theorem aaW {k:Nat} {s_0:Str} {PU:Int} {r:Bool} (h:Ch k s_0 PU=some r):aF Tryz.prog 148 [(.str s_0),(.int .i64 PU)] (.bool r):=by
  refine aF.aQ (bf.mem (.cons (.str _) (.cons (.int _ _) .nil))) (aG ar1 (by simp) (aD ?_)) (.bool _);unfold Ch at h;unfold ajt;rcases au h with⟨e1,h⟩|⟨e1,h⟩
  ·obtain rfl:=ak h;try refine ah ?_
   exact(.pure _ (.bool _))
  ·try refine ah ?_
   obtain⟨o8,h9,h⟩:=aj h;refine TL k s_0 0 _ _ _ (Fr.refl _ _) av _ h9 _ ?_ ?_
   ·rintro iN σ' eo Ky;subst eo;rw [bL]at h;obtain rfl:=ak h;try refine ah ?_
    exact(.pure _ (.bool _))
   ·rintro kD σ' eo yg jw;subst eo;rw [bP]at h;obtain rfl:=ak h;try refine ah ?_
    exact(.pure _ (.bool _))
def nM:Nat->Str->Int->Option (Unit⊕Bool)
  |0,_,_=>none
  |k+1,s_0,dK=>
    cond (decide (dK<(s_0.length:Int))) (if 0<=dK then Option.bind (s_0[dK.toNat]?) fun x6=>cond ((x6.toNat:Int)==34) (some (.inr (false))) (cond ((x6.toNat:Int)==92) (some (.inr (false))) (nM k s_0 (IntKind.wrap .i64 (dK+1))))else none) (some (.inl ()))
def Gw:List Nat:=[2,3]++List.range' 7 16
theorem Yi: ∀(k:Nat) (s_0:Str) (dK:Int) (aC σ:Nat->PV) (H:AH) (f0:Fr Gw aC σ) (sl:σ 0=(.str s_0)/\σ 3=(.int .i64 dK)) (o:Unit⊕Bool) (h:nM k s_0 dK=some o) (Q:Post) (q0: ∀(p:Unit) (σ':Nat->PV),o= .inl p->Fr Gw aC σ'->Q (.exit 0) σ' H) (q1: ∀(p:Bool) (σ':Nat->PV),o= .inr (p)->Fr Gw aC σ'->(σ' 2=(.bool p))->Q .ret σ' H),W Tryz.prog (.loop TH) Q σ H:=by
  intro k
  induction k with
  |zero=>intro s_0 dK aC σ H f0 sl o h Q q0 q1;simp only [nM,reduceCtorEq]at h
  |succ k ih=>
    intro s_0 dK aC σ H f0 sl o h Q q0 q1;obtain⟨s0,s3⟩:=sl;unfold nM at h;refine aT (fun K hK=>aD ?_);unfold TH;rcases au h with⟨e4,h⟩|⟨e4,h⟩
    ·obtain⟨e5,h⟩:=aP h;obtain⟨x6,e7,h⟩:=aj h;rcases au h with⟨e8,h⟩|⟨e8,h⟩
     ·obtain rfl:=ak h;try refine ah ?_
      exact q1 _ _ rfl aJ av
     ·rcases au h with⟨e9,h⟩|⟨e9,h⟩
      ·obtain rfl:=ak h;try refine ah ?_
       exact q1 _ _ rfl aJ av
      ·try refine ah ?_
       refine hK _ _ ?_;exact ih s_0 (IntKind.wrap .i64 (dK+1)) _ _ _ aJ av _ h _ q0 q1
    ·obtain rfl:=ak h;try refine ah ?_
     exact q0 _ _ rfl aJ
def iE (k:Nat) (s_0:Str):Option Bool:=
  Option.bind (Ch k s_0 40) fun p2=>cond p2 (Option.bind (nM k s_0 0) (fun o=>Sum.elim (fun lT=>some true) (fun p16=>some p16) o)) (some false)
theorem lJ {k:Nat} {s_0:Str} {r:Bool} (h:iE k s_0=some r):aF Tryz.prog 97 [(.str s_0)] (.bool r):=by
  refine aF.aQ (bf.mem (.cons (.str _) .nil)) (aG avl (by simp) (aD ?_)) (.bool _);unfold iE at h;unfold aof;obtain⟨p2,e1,h⟩:=aj h;try refine ah ?_
  refine aB (aaW e1) ?_;rcases au h with⟨e3,h⟩|⟨e3,h⟩
  ·try refine ah ?_
   obtain⟨o10,h11,h⟩:=aj h;refine Yi k s_0 0 _ _ _ (Fr.refl _ _) av _ h11 _ ?_ ?_
   ·rintro lT σ' eo IY;subst eo;rw [bL]at h;obtain rfl:=ak h;try refine ah ?_
    exact(.pure _ (.bool _))
   ·rintro p16 σ' eo Yj s20;subst eo;rw [bP]at h;obtain rfl:=ak h;try refine ah ?_
    exact(.pure _ (.bool _))
  ·obtain rfl:=ak h;try refine ah ?_
   exact(.pure _ (.bool _))
def zA (bB:Int) (bM:Int) (bJ:Str) (bR:List Str) (bZ:List Int) (Yk:Bool):Option Bool:=
  cond Yk (some ((bB==3))) (some (false))
theorem TM: ∀(cO:Nat) (bB:Int) (bM:Int) (bJ:Str) (bR:List Str) (bZ:List Int) (Yk:Bool) (aC σ:Nat->PV) (H:AH) (f0:Fr [38,39,40,41] aC σ) (sl:σ 5=(.ref (cO) 0)/\σ 37=(.bool Yk)/\H.obj cO=some [(.int .i64 bB),(.int .i64 bM),(.str bJ),(.aA (bR.map aI) .unk),(.aA (bZ.map aX) .unk)]) (dw:cO<H.next) (o:Bool) (h:zA bB bM bJ bR bZ Yk=some o) (Q:Post) (q0: ∀(p:Bool) (σ':Nat->PV),o=p->Fr [38,39,40,41] aC σ'->(σ' 41=(.bool p))->Q .normal σ' H),dF Tryz.prog Sb (Q .normal) σ H:=by
  intro cO bB bM bJ bR bZ Yk aC σ H f0 sl dw o h Q q0;obtain⟨s5,s37,yE⟩:=sl;have yF:=ne_next dw;have yG:=aV dw;unfold zA at h;refine eB ?_;unfold Sb;rcases au h with⟨e11,h⟩|⟨e11,h⟩
  ·obtain rfl:=ak h;try refine ah ?_
   exact q0 _ _ rfl aJ av
  ·obtain rfl:=ak h;try refine ah ?_
   exact q0 _ _ rfl aJ av
def uU (k:Nat) (bB:Int) (bM:Int) (bJ:Str) (bR:List Str) (bZ:List Int) (zB:Int) (zC:Int) (zD:Int) (zF:Int):Option ((Int×Int×Int×Int)):=
  Option.bind (qY k bJ) fun iN=>Option.bind (zA bB bM bJ bR bZ iN.2) (fun kD=>cond kD (some ((zB,zC,0,(bZ.length:Int)))) (some ((zB,zC,zD,zF))))
def Ju:List Nat:=[8,9]++List.range' 30 17
theorem TN (k:Nat): ∀(cO:Nat) (sJ:Nat) (bB:Int) (bM:Int) (bJ:Str) (bR:List Str) (bZ:List Int) (zB:Int) (zC:Int) (zD:Int) (zF:Int) (aC σ:Nat->PV) (H0 H:AH) (f0:Fr Ju aC σ) (hf0:HF [sJ] H0 H) (sl:σ 5=(.ref (cO) 0)/\σ 6=(.ref (sJ) 0)/\H.obj cO=some [(.int .i64 bB),(.int .i64 bM),(.str bJ),(.aA (bR.map aI) .unk),(.aA (bZ.map aX) .unk)]/\H.obj sJ=some [(.int .i64 zB),(.int .i64 zC),(.int .i64 zD),(.int .i64 zF)]) (dw:cO<H.next) (Bc:sJ<H.next) (CJ:cO≠sJ) (o:(Int×Int×Int×Int)) (h:uU k bB bM bJ bR bZ zB zC zD zF=some o) (Q:Post) (q0: ∀(p:Int×Int×Int×Int) (σ':Nat->PV) (H':AH),o=p->Fr Ju aC σ'->HF [sJ] H0 H'->(H'.obj sJ=some [(.int .i64 p.1),(.int .i64 p.2.1),(.int .i64 p.2.2.1),(.int .i64 p.2.2.2)])->Q .normal σ' H'),W Tryz.prog Sd Q σ H:=by
  intro cO sJ bB bM bJ bR bZ zB zC zD zF aC σ H0 H f0 hf0 sl dw Bc CJ o h Q q0;obtain⟨s5,s6,yE,alm⟩:=sl;have yF:=ne_next dw;have yG:=aV dw;have aln:=ne_next Bc;have alo:=aV Bc;have al5:=eq_false CJ;have al6:=eq_false (Ne.symm CJ);have hle0:=hf0.1;unfold uU at h;refine aD ?_;unfold Sd;obtain⟨iN,e9,h⟩:=aj h;try refine ah ?_
  refine aB (Ho e9) ?_;try refine ah ?_
  obtain⟨o12,PW,h⟩:=aj h;refine TM (cO) bB bM bJ bR bZ iN.2 _ _ _ (Fr.refl _ _) av bQ _ PW _ ?_
  ·rintro kD σ' eo yg jw;rw [eo]at h;have oW:σ' 5=(.ref (cO) 0):=(yg 5 (by decide)).trans av;have s20:σ' 6=(.ref (sJ) 0):=(yg 6 (by decide)).trans av;rcases au h with⟨e21,h⟩|⟨e21,h⟩
   ·try refine ah ?_
    refine Rq (sJ) ?_;obtain rfl:=ak h;try refine ah ?_
    exact q0 _ _ _ rfl (by repeat (first|exact f0|refine Fr.upd (by decide) ?_|refine Fr.via yg (by decide) ?_)) (by repeat (first|exact hf0|refine HF.new ?_|refine HF.fI ?_|refine HF.used ?_|refine HF.put (by first|(right;omega)|(left;simp only [List.mem_cons,true_or,or_true])) ?_)) av
   ·obtain rfl:=ak h;try refine ah ?_
    exact q0 _ _ _ rfl (by repeat (first|exact f0|refine Fr.upd (by decide) ?_|refine Fr.via yg (by decide) ?_)) (by repeat (first|exact hf0|refine HF.new ?_|refine HF.fI ?_|refine HF.used ?_|refine HF.put (by first|(right;omega)|(left;simp only [List.mem_cons,true_or,or_true])) ?_)) av
def uV (zB:Int) (zC:Int) (zD:Int) (zF:Int) (Hr:Int) (Ej:Bool):Option Bool:=
  cond Ej (some (true)) (Option.bind (iJ Hr zD zF) fun p46=>some ((!p46)))
def Jv:List Nat:=List.range' 67 8
theorem TP: ∀(sJ:Nat) (zB:Int) (zC:Int) (zD:Int) (zF:Int) (Hr:Int) (Ej:Bool) (aC σ:Nat->PV) (H:AH) (f0:Fr Jv aC σ) (sl:σ 6=(.ref (sJ) 0)/\σ 10=(.int .i64 Hr)/\σ 66=(.bool Ej)/\H.obj sJ=some [(.int .i64 zB),(.int .i64 zC),(.int .i64 zD),(.int .i64 zF)]) (Bc:sJ<H.next) (o:Bool) (h:uV zB zC zD zF Hr Ej=some o) (Q:Post) (q0: ∀(p:Bool) (σ':Nat->PV),o=p->Fr Jv aC σ'->(σ' 74=(.bool p))->Q .normal σ' H),dF Tryz.prog Sg (Q .normal) σ H:=by
  intro sJ zB zC zD zF Hr Ej aC σ H f0 sl Bc o h Q q0;obtain⟨s6,s10,s66,alm⟩:=sl;have aln:=ne_next Bc;have alo:=aV Bc;unfold uV at h;refine eB ?_;unfold Sg;rcases au h with⟨e44,h⟩|⟨e44,h⟩
  ·obtain rfl:=ak h;try refine ah ?_
   exact q0 _ _ rfl aJ av
  ·obtain⟨p46,e45,h⟩:=aj h;try refine ah ?_
   refine aB (iU e45) ?_;obtain rfl:=ak h;try refine ah ?_
   exact q0 _ _ rfl aJ av
def uW (bB:Int) (bM:Int) (bJ:Str) (bR:List Str) (bZ:List Int) (Yl:Bool):Option Bool:=
  cond Yl (some (true)) (cond (bB==2) (some (true)) (cond (bB==3) (some (true)) (some ((bB==18)))))
def Jw:List Nat:=List.range' 79 14
theorem TQ: ∀(cO:Nat) (bB:Int) (bM:Int) (bJ:Str) (bR:List Str) (bZ:List Int) (Yl:Bool) (aC σ:Nat->PV) (H:AH) (f0:Fr Jw aC σ) (sl:σ 5=(.ref (cO) 0)/\σ 78=(.bool Yl)/\H.obj cO=some [(.int .i64 bB),(.int .i64 bM),(.str bJ),(.aA (bR.map aI) .unk),(.aA (bZ.map aX) .unk)]) (dw:cO<H.next) (o:Bool) (h:uW bB bM bJ bR bZ Yl=some o) (Q:Post) (q0: ∀(p:Bool) (σ':Nat->PV),o=p->Fr Jw aC σ'->(σ' 92=(.bool p))->Q .normal σ' H),dF Tryz.prog Si (Q .normal) σ H:=by
  intro cO bB bM bJ bR bZ Yl aC σ H f0 sl dw o h Q q0;obtain⟨s5,s78,yE⟩:=sl;have yF:=ne_next dw;have yG:=aV dw;unfold uW at h;refine eB ?_;unfold Si;rcases au h with⟨e58,h⟩|⟨e58,h⟩
  ·obtain rfl:=ak h;try refine ah ?_
   exact q0 _ _ rfl aJ av
  ·rcases au h with⟨e59,h⟩|⟨e59,h⟩
   ·obtain rfl:=ak h;try refine ah ?_
    exact q0 _ _ rfl aJ av
   ·rcases au h with⟨e60,h⟩|⟨e60,h⟩
    ·obtain rfl:=ak h;try refine ah ?_
     exact q0 _ _ rfl aJ av
    ·obtain rfl:=ak h;try refine ah ?_
     exact q0 _ _ rfl aJ av
def uX (k:Nat) (bB:Int) (bM:Int) (bJ:Str) (bR:List Str) (bZ:List Int) (Ht:Bool) (Ym:Bool):Option Bool:=
  cond Ym (some (true)) (cond Ht (cond (bB !=0) (cond (bB !=23) (cond (bM !=0) (some (true)) (cond (bB==23) (Option.bind (iJ bM 0 1) fun zG=>cond zG (cond (bB==1) (Option.bind (iE k bJ) fun p84=>some ((!p84))) (some (false))) (some (true))) (cond (bB==1) (Option.bind (iE k bJ) fun Jy=>some ((!Jy))) (some (false))))) (cond (bB==23) (Option.bind (iJ bM 0 1) fun p90=>cond p90 (cond (bB==1) (Option.bind (iE k bJ) fun Vl=>some ((!Vl))) (some (false))) (some (true))) (cond (bB==1) (Option.bind (iE k bJ) fun p97=>some ((!p97))) (some (false))))) (cond (bB==23) (Option.bind (iJ bM 0 1) fun Yn=>cond Yn (cond (bB==1) (Option.bind (iE k bJ) fun Yo=>some ((!Yo))) (some (false))) (some (true))) (cond (bB==1) (Option.bind (iE k bJ) fun aoA=>some ((!aoA))) (some (false))))) (cond (bJ==[]) (cond (bB !=0) (cond (bB !=23) (cond (bM !=0) (some (true)) (cond (bB==23) (Option.bind (iJ bM 0 1) fun Yp=>cond Yp (cond (bB==1) (Option.bind (iE k bJ) fun Gx=>some ((!Gx))) (some (false))) (some (true))) (cond (bB==1) (Option.bind (iE k bJ) fun aoB=>some ((!aoB))) (some (false))))) (cond (bB==23) (Option.bind (iJ bM 0 1) fun aoC=>cond aoC (cond (bB==1) (Option.bind (iE k bJ) fun aoD=>some ((!aoD))) (some (false))) (some (true))) (cond (bB==1) (Option.bind (iE k bJ) fun aoE=>some ((!aoE))) (some (false))))) (cond (bB==23) (Option.bind (iJ bM 0 1) fun aoF=>cond aoF (cond (bB==1) (Option.bind (iE k bJ) fun KD=>some ((!KD))) (some (false))) (some (true))) (cond (bB==1) (Option.bind (iE k bJ) fun aoG=>some ((!aoG))) (some (false))))) (some (true))))
def Jz:List Nat:=List.range' 98 45
theorem TS (k:Nat): ∀(cO:Nat) (bB:Int) (bM:Int) (bJ:Str) (bR:List Str) (bZ:List Int) (Ht:Bool) (Ym:Bool) (aC σ:Nat->PV) (H:AH) (f0:Fr Jz aC σ) (sl:σ 5=(.ref (cO) 0)/\σ 11=(.bool Ht)/\σ 97=(.bool Ym)/\H.obj cO=some [(.int .i64 bB),(.int .i64 bM),(.str bJ),(.aA (bR.map aI) .unk),(.aA (bZ.map aX) .unk)]) (dw:cO<H.next) (o:Bool) (h:uX k bB bM bJ bR bZ Ht Ym=some o) (Q:Post) (q0: ∀(p:Bool) (σ':Nat->PV),o=p->Fr Jz aC σ'->(σ' 142=(.bool p))->Q .normal σ' H),dF Tryz.prog Sj (Q .normal) σ H:=by
  intro cO bB bM bJ bR bZ Ht Ym aC σ H f0 sl dw o h Q q0;obtain⟨s5,s11,s97,yE⟩:=sl;have yF:=ne_next dw;have yG:=aV dw;unfold uX at h;refine eB ?_;unfold Sj;rcases au h with⟨PX,h⟩|⟨PX,h⟩
  ·obtain rfl:=ak h;try refine ah ?_
   exact q0 _ _ rfl aJ av
  ·rcases au h with⟨e74,h⟩|⟨e74,h⟩
   ·rcases au h with⟨PK,h⟩|⟨PK,h⟩
    ·rcases au h with⟨Vk,h⟩|⟨Vk,h⟩
     ·rcases au h with⟨M4,h⟩|⟨M4,h⟩
      ·obtain rfl:=ak h;try refine ah ?_
       exact q0 _ _ rfl aJ av
      ·rcases au h with⟨Yq,h⟩|⟨Yq,h⟩
       ·obtain⟨zG,e79,h⟩:=aj h;try refine ah ?_
        refine aB (iU e79) ?_;rcases au h with⟨e81,h⟩|⟨e81,h⟩
        ·rcases au h with⟨e82,h⟩|⟨e82,h⟩
         ·obtain⟨p84,e83,h⟩:=aj h;try refine ah ?_
          refine aB (lJ e83) ?_;obtain rfl:=ak h;try refine ah ?_
          exact q0 _ _ rfl aJ av
         ·obtain rfl:=ak h;try refine ah ?_
          exact q0 _ _ rfl aJ av
        ·obtain rfl:=ak h;try refine ah ?_
         exact q0 _ _ rfl aJ av
       ·rcases au h with⟨e85,h⟩|⟨e85,h⟩
        ·obtain⟨Jy,PL,h⟩:=aj h;try refine ah ?_
         refine aB (lJ PL) ?_;obtain rfl:=ak h;try refine ah ?_
         exact q0 _ _ rfl aJ av
        ·obtain rfl:=ak h;try refine ah ?_
         exact q0 _ _ rfl aJ av
     ·rcases au h with⟨PN,h⟩|⟨PN,h⟩
      ·obtain⟨p90,PO,h⟩:=aj h;try refine ah ?_
       refine aB (iU PO) ?_;rcases au h with⟨PS,h⟩|⟨PS,h⟩
       ·rcases au h with⟨e92,h⟩|⟨e92,h⟩
        ·obtain⟨Vl,PY,h⟩:=aj h;try refine ah ?_
         refine aB (lJ PY) ?_;obtain rfl:=ak h;try refine ah ?_
         exact q0 _ _ rfl aJ av
        ·obtain rfl:=ak h;try refine ah ?_
         exact q0 _ _ rfl aJ av
       ·obtain rfl:=ak h;try refine ah ?_
        exact q0 _ _ rfl aJ av
      ·rcases au h with⟨e95,h⟩|⟨e95,h⟩
       ·obtain⟨p97,e96,h⟩:=aj h;try refine ah ?_
        refine aB (lJ e96) ?_;obtain rfl:=ak h;try refine ah ?_
        exact q0 _ _ rfl aJ av
       ·obtain rfl:=ak h;try refine ah ?_
        exact q0 _ _ rfl aJ av
    ·rcases au h with⟨e98,h⟩|⟨e98,h⟩
     ·obtain⟨Yn,e99,h⟩:=aj h;try refine ah ?_
      refine aB (iU e99) ?_;rcases au h with⟨OA,h⟩|⟨OA,h⟩
      ·rcases au h with⟨Yr,h⟩|⟨Yr,h⟩
       ·obtain⟨Yo,I4,h⟩:=aj h;try refine ah ?_
        refine aB (lJ I4) ?_;obtain rfl:=ak h;try refine ah ?_
        exact q0 _ _ rfl aJ av
       ·obtain rfl:=ak h;try refine ah ?_
        exact q0 _ _ rfl aJ av
      ·obtain rfl:=ak h;try refine ah ?_
       exact q0 _ _ rfl aJ av
     ·rcases au h with⟨KE,h⟩|⟨KE,h⟩
      ·obtain⟨aoA,ahp,h⟩:=aj h;try refine ah ?_
       refine aB (lJ ahp) ?_;obtain rfl:=ak h;try refine ah ?_
       exact q0 _ _ rfl aJ av
      ·obtain rfl:=ak h;try refine ah ?_
       exact q0 _ _ rfl aJ av
   ·rcases au h with⟨e108,h⟩|⟨e108,h⟩
    ·rcases au h with⟨e109,h⟩|⟨e109,h⟩
     ·rcases au h with⟨TT,h⟩|⟨TT,h⟩
      ·rcases au h with⟨Yt,h⟩|⟨Yt,h⟩
       ·obtain rfl:=ak h;try refine ah ?_
        exact q0 _ _ rfl aJ av
       ·rcases au h with⟨avt,h⟩|⟨avt,h⟩
        ·obtain⟨Yp,Yu,h⟩:=aj h;try refine ah ?_
         refine aB (iU Yu) ?_;rcases au h with⟨e115,h⟩|⟨e115,h⟩
         ·rcases au h with⟨e116,h⟩|⟨e116,h⟩
          ·obtain⟨Gx,e117,h⟩:=aj h;try refine ah ?_
           refine aB (lJ e117) ?_;obtain rfl:=ak h;try refine ah ?_
           exact q0 _ _ rfl aJ av
          ·obtain rfl:=ak h;try refine ah ?_
           exact q0 _ _ rfl aJ av
         ·obtain rfl:=ak h;try refine ah ?_
          exact q0 _ _ rfl aJ av
        ·rcases au h with⟨e119,h⟩|⟨e119,h⟩
         ·obtain⟨aoB,e120,h⟩:=aj h;try refine ah ?_
          refine aB (lJ e120) ?_;obtain rfl:=ak h;try refine ah ?_
          exact q0 _ _ rfl aJ av
         ·obtain rfl:=ak h;try refine ah ?_
          exact q0 _ _ rfl aJ av
      ·rcases au h with⟨Yv,h⟩|⟨Yv,h⟩
       ·obtain⟨aoC,avu,h⟩:=aj h;try refine ah ?_
        refine aB (iU avu) ?_;rcases au h with⟨e125,h⟩|⟨e125,h⟩
        ·rcases au h with⟨e126,h⟩|⟨e126,h⟩
         ·obtain⟨aoD,e127,h⟩:=aj h;try refine ah ?_
          refine aB (lJ e127) ?_;obtain rfl:=ak h;try refine ah ?_
          exact q0 _ _ rfl aJ av
         ·obtain rfl:=ak h;try refine ah ?_
          exact q0 _ _ rfl aJ av
        ·obtain rfl:=ak h;try refine ah ?_
         exact q0 _ _ rfl aJ av
       ·rcases au h with⟨e129,h⟩|⟨e129,h⟩
        ·obtain⟨aoE,aoL,h⟩:=aj h;try refine ah ?_
         refine aB (lJ aoL) ?_;obtain rfl:=ak h;try refine ah ?_
         exact q0 _ _ rfl aJ av
        ·obtain rfl:=ak h;try refine ah ?_
         exact q0 _ _ rfl aJ av
     ·rcases au h with⟨avv,h⟩|⟨avv,h⟩
      ·obtain⟨aoF,ahq,h⟩:=aj h;try refine ah ?_
       refine aB (iU ahq) ?_;rcases au h with⟨avw,h⟩|⟨avw,h⟩
       ·rcases au h with⟨aoM,h⟩|⟨aoM,h⟩
        ·obtain⟨KD,e137,h⟩:=aj h;try refine ah ?_
         refine aB (lJ e137) ?_;obtain rfl:=ak h;try refine ah ?_
         exact q0 _ _ rfl aJ av
        ·obtain rfl:=ak h;try refine ah ?_
         exact q0 _ _ rfl aJ av
       ·obtain rfl:=ak h;try refine ah ?_
        exact q0 _ _ rfl aJ av
      ·rcases au h with⟨ahr,h⟩|⟨ahr,h⟩
       ·obtain⟨aoG,Yw,h⟩:=aj h;try refine ah ?_
        refine aB (lJ Yw) ?_;obtain rfl:=ak h;try refine ah ?_
        exact q0 _ _ rfl aJ av
       ·obtain rfl:=ak h;try refine ah ?_
        exact q0 _ _ rfl aJ av
    ·obtain rfl:=ak h;try refine ah ?_
     exact q0 _ _ rfl aJ av
def uY (bB:Int) (bM:Int) (bJ:Str) (bR:List Str) (bZ:List Int) (PZ:Bool):Option Bool:=
  cond PZ (Option.bind (iJ bM 0 10000) fun Yx=>some ((!Yx))) (some (false))
def JA:List Nat:=[147,148,149,150,151]
theorem TU: ∀(cO:Nat) (bB:Int) (bM:Int) (bJ:Str) (bR:List Str) (bZ:List Int) (PZ:Bool) (aC σ:Nat->PV) (H:AH) (f0:Fr JA aC σ) (sl:σ 5=(.ref (cO) 0)/\σ 146=(.bool PZ)/\H.obj cO=some [(.int .i64 bB),(.int .i64 bM),(.str bJ),(.aA (bR.map aI) .unk),(.aA (bZ.map aX) .unk)]) (dw:cO<H.next) (o:Bool) (h:uY bB bM bJ bR bZ PZ=some o) (Q:Post) (q0: ∀(p:Bool) (σ':Nat->PV),o=p->Fr JA aC σ'->(σ' 151=(.bool p))->Q .normal σ' H),dF Tryz.prog Sk (Q .normal) σ H:=by
  intro cO bB bM bJ bR bZ PZ aC σ H f0 sl dw o h Q q0;obtain⟨s5,az6,yE⟩:=sl;have yF:=ne_next dw;have yG:=aV dw;unfold uY at h;refine eB ?_;unfold Sk;rcases au h with⟨ahs,h⟩|⟨ahs,h⟩
  ·obtain⟨Yx,e152,h⟩:=aj h;try refine ah ?_
   refine aB (iU e152) ?_;obtain rfl:=ak h;try refine ah ?_
   exact q0 _ _ rfl aJ av
  ·obtain rfl:=ak h;try refine ah ?_
   exact q0 _ _ rfl aJ av
def lq:Nat->Int->Int->Str->(List Str)->(List Int)->Int->Option (Unit⊕Int)
  |0,_,_,_,_,_,_=>none
  |k+1,bB,bM,bJ,bR,bZ,Gy=>
    cond (decide (Gy<(bR.length:Int))) (if 0<=Gy then Option.bind (bR[Gy.toNat]?) fun aoN=>Option.bind (sG k aoN) fun Yy=>cond Yy (lq k bB bM bJ bR bZ (IntKind.wrap .i64 (Gy+1))) (some (.inr (7)))else none) (some (.inl ()))
def CK:List Nat:=[4,12]++List.range' 152 14
theorem TV: ∀(k:Nat) (cO:Nat) (bB:Int) (bM:Int) (bJ:Str) (bR:List Str) (bZ:List Int) (Gy:Int) (aC σ:Nat->PV) (H:AH) (f0:Fr CK aC σ) (sl:σ 5=(.ref (cO) 0)/\σ 12=(.int .i64 Gy)/\H.obj cO=some [(.int .i64 bB),(.int .i64 bM),(.str bJ),(.aA (bR.map aI) .unk),(.aA (bZ.map aX) .unk)]) (dw:cO<H.next) (o:Unit⊕Int) (h:lq k bB bM bJ bR bZ Gy=some o) (Q:Post) (q0: ∀(p:Unit) (σ':Nat->PV),o= .inl p->Fr CK aC σ'->Q (.exit 0) σ' H) (q1: ∀(p:Int) (σ':Nat->PV),o= .inr (p)->Fr CK aC σ'->(σ' 4=(.int .i64 p))->Q .ret σ' H),W Tryz.prog (.loop Sm) Q σ H:=by
  intro k
  induction k with
  |zero=>intro cO bB bM bJ bR bZ Gy aC σ H f0 sl dw o h Q q0 q1;simp only [lq,reduceCtorEq]at h
  |succ k ih=>
    intro cO bB bM bJ bR bZ Gy aC σ H f0 sl dw o h Q q0 q1;obtain⟨s5,s12,yE⟩:=sl;have yF:=ne_next dw;have yG:=aV dw;unfold lq at h;refine aT (fun K hK=>aD ?_);unfold Sm;rcases au h with⟨aht,h⟩|⟨aht,h⟩
    ·obtain⟨aoO,h⟩:=aP h;obtain⟨aoN,e166,h⟩:=aj h;obtain⟨Yy,e167,h⟩:=aj h;try refine ah ?_
     refine aB (zl e167) ?_;rcases au h with⟨e169,h⟩|⟨e169,h⟩
     ·try refine ah ?_
      refine hK _ _ ?_;exact ih cO bB bM bJ bR bZ (IntKind.wrap .i64 (Gy+1)) _ _ _ aJ av bQ _ h _ q0 q1
     ·obtain rfl:=ak h;try refine ah ?_
      exact q1 _ _ rfl aJ av
    ·obtain rfl:=ak h;try refine ah ?_
     exact q0 _ _ rfl aJ
def zH (k:Nat) (bB:Int) (bM:Int) (bJ:Str) (bR:List Str) (bZ:List Int) (P5:Bool):Option Bool:=
  cond P5 (Option.bind (sH k bJ) fun aoP=>some ((!aoP))) (some (false))
def JB:List Nat:=[197,198,199,200,201]
theorem TW (k:Nat): ∀(cO:Nat) (bB:Int) (bM:Int) (bJ:Str) (bR:List Str) (bZ:List Int) (P5:Bool) (aC σ:Nat->PV) (H:AH) (f0:Fr JB aC σ) (sl:σ 5=(.ref (cO) 0)/\σ 196=(.bool P5)/\H.obj cO=some [(.int .i64 bB),(.int .i64 bM),(.str bJ),(.aA (bR.map aI) .unk),(.aA (bZ.map aX) .unk)]) (dw:cO<H.next) (o:Bool) (h:zH k bB bM bJ bR bZ P5=some o) (Q:Post) (q0: ∀(p:Bool) (σ':Nat->PV),o=p->Fr JB aC σ'->(σ' 201=(.bool p))->Q .normal σ' H),dF Tryz.prog Sn (Q .normal) σ H:=by
  intro cO bB bM bJ bR bZ P5 aC σ H f0 sl dw o h Q q0;obtain⟨s5,az7,yE⟩:=sl;have yF:=ne_next dw;have yG:=aV dw;unfold zH at h;refine eB ?_;unfold Sn;rcases au h with⟨avx,h⟩|⟨avx,h⟩
  ·obtain⟨aoP,avy,h⟩:=aj h;try refine ah ?_
   refine aB (zn avy) ?_;obtain rfl:=ak h;try refine ah ?_
   exact q0 _ _ rfl aJ av
  ·obtain rfl:=ak h;try refine ah ?_
   exact q0 _ _ rfl aJ av
def uZ (k:Nat) (bB:Int) (bM:Int) (bJ:Str) (bR:List Str) (bZ:List Int) (L8:Str) (L9:Int) (Ma:Int) (Mc:Int) (Md:Bool) (Hu:Int) (Hw:Int) (FU:Bool):Option (Unit⊕Int):=
  cond (bB==2) (Option.bind (sH k bJ) fun aoQ=>cond aoQ (some (.inl ())) (Option.bind (uT bJ) fun aoR=>cond aoR (some (.inl ())) (some (.inr (7))))) (cond (bB==18) (Option.bind (sG k bJ) fun aoS=>cond aoS (some (.inl ())) (some (.inr (7)))) (cond (bB==3) (Option.bind (zH k bB bM bJ bR bZ (!FU)) (fun aoT=>cond aoT (some (.inr (7))) (cond FU (Option.bind (iJ (bZ.length:Int) Hu Hw) fun aoU=>cond aoU (some (.inl ())) (some (.inr (17)))) (some (.inl ()))))) (some (.inl ()))))
def CO:List Nat:=[4]++List.range' 172 42
theorem TY (k:Nat): ∀(cO:Nat) (DT:Nat) (bB:Int) (bM:Int) (bJ:Str) (bR:List Str) (bZ:List Int) (L8:Str) (L9:Int) (Ma:Int) (Mc:Int) (Md:Bool) (Hu:Int) (Hw:Int) (FU:Bool) (aC σ:Nat->PV) (H:AH) (f0:Fr CO aC σ) (sl:σ 5=(.ref (cO) 0)/\σ 13=(.ref (DT) 0)/\σ 14=(.bool FU)/\H.obj cO=some [(.int .i64 bB),(.int .i64 bM),(.str bJ),(.aA (bR.map aI) .unk),(.aA (bZ.map aX) .unk)]/\H.obj DT=some [(.str L8),(.int .i64 L9),(.int .i64 Ma),(.int .i64 Mc),(.bool Md),(.int .i64 Hu),(.int .i64 Hw)]) (dw:cO<H.next) (KF:DT<H.next) (zI:cO≠DT) (o:Unit⊕Int) (h:uZ k bB bM bJ bR bZ L8 L9 Ma Mc Md Hu Hw FU=some o) (Q:Post) (q0: ∀(p:Unit) (σ':Nat->PV),o= .inl p->Fr CO aC σ'->Q .normal σ' H) (q1: ∀(p:Int) (σ':Nat->PV),o= .inr (p)->Fr CO aC σ'->(σ' 4=(.int .i64 p))->Q .ret σ' H),W Tryz.prog Sq Q σ H:=by
  intro cO DT bB bM bJ bR bZ L8 L9 Ma Mc Md Hu Hw FU aC σ H f0 sl dw KF zI o h Q q0 q1;obtain⟨s5,s13,JC,yE,as7⟩:=sl;have yF:=ne_next dw;have yG:=aV dw;have as8:=ne_next KF;have as9:=aV KF;have ajO:=eq_false zI;have ajP:=eq_false (Ne.symm zI);unfold uZ at h;refine aD ?_;unfold Sq;rcases au h with⟨avz,h⟩|⟨avz,h⟩
  ·obtain⟨aoQ,avA,h⟩:=aj h;try refine ah ?_
   refine aB (zn avA) ?_;rcases au h with⟨avB,h⟩|⟨avB,h⟩
   ·obtain rfl:=ak h;try refine ah ?_
    exact q0 _ _ rfl aJ
   ·obtain⟨aoR,avC,h⟩:=aj h;try refine ah ?_
    refine aB (Gu avC) ?_;rcases au h with⟨e185,h⟩|⟨e185,h⟩
    ·obtain rfl:=ak h;try refine ah ?_
     exact q0 _ _ rfl aJ
    ·obtain rfl:=ak h;try refine ah ?_
     exact q1 _ _ rfl aJ av
  ·rcases au h with⟨avD,h⟩|⟨avD,h⟩
   ·obtain⟨aoS,e187,h⟩:=aj h;try refine ah ?_
    refine aB (zl e187) ?_;rcases au h with⟨e189,h⟩|⟨e189,h⟩
    ·obtain rfl:=ak h;try refine ah ?_
     exact q0 _ _ rfl aJ
    ·obtain rfl:=ak h;try refine ah ?_
     exact q1 _ _ rfl aJ av
   ·rcases au h with⟨e190,h⟩|⟨e190,h⟩
    ·try refine ah ?_
     obtain⟨az8,avE,h⟩:=aj h;refine TW k (cO) bB bM bJ bR bZ (!FU) _ _ _ (Fr.refl _ _) av bQ _ avE _ ?_
     ·rintro aoT σ' eo I5 az9;rw [eo]at h;have aAa:σ' 5=(.ref (cO) 0):=(I5 5 (by decide)).trans av;have aAb:σ' 13=(.ref (DT) 0):=(I5 13 (by decide)).trans av;have aAc:σ' 14=(.bool FU):=(I5 14 (by decide)).trans av;rcases au h with⟨e204,h⟩|⟨e204,h⟩
      ·obtain rfl:=ak h;try refine ah ?_
       exact q1 _ _ rfl (by repeat (first|exact f0|refine Fr.upd (by decide) ?_|refine Fr.via I5 (by decide) ?_)) av
      ·rcases au h with⟨avF,h⟩|⟨avF,h⟩
       ·obtain⟨aoU,e206,h⟩:=aj h;try refine ah ?_
        refine aB (iU e206) ?_;rcases au h with⟨e208,h⟩|⟨e208,h⟩
        ·obtain rfl:=ak h;try refine ah ?_
         exact q0 _ _ rfl (by repeat (first|exact f0|refine Fr.upd (by decide) ?_|refine Fr.via I5 (by decide) ?_))
        ·obtain rfl:=ak h;try refine ah ?_
         exact q1 _ _ rfl (by repeat (first|exact f0|refine Fr.upd (by decide) ?_|refine Fr.via I5 (by decide) ?_)) av
       ·obtain rfl:=ak h;try refine ah ?_
        exact q0 _ _ rfl (by repeat (first|exact f0|refine Fr.upd (by decide) ?_|refine Fr.via I5 (by decide) ?_))
    ·obtain rfl:=ak h;try refine ah ?_
     exact q0 _ _ rfl aJ
def jT:Nat->Int->Int->Str->(List Str)->(List Int)->Int->Option (Unit⊕Int)
  |0,_,_,_,_,_,_=>none
  |k+1,bB,bM,bJ,bR,bZ,Bd=>
    cond (decide (Bd<(bR.length:Int))) (if 0<=Bd/\Bd.toNat<=bR.length then if 0<=Bd then Option.bind (bR[Bd.toNat]?) fun aoV=>Option.bind (l9 k (bR.take Bd.toNat) aoV) fun aoW=>cond aoW (some (.inr (12))) (jT k bB bM bJ bR bZ (IntKind.wrap .i64 (Bd+1)))else none else none) (some (.inl ()))
def CP:List Nat:=[4,15]++List.range' 214 17
theorem T9: ∀(k:Nat) (cO:Nat) (bB:Int) (bM:Int) (bJ:Str) (bR:List Str) (bZ:List Int) (Bd:Int) (aC σ:Nat->PV) (H:AH) (f0:Fr CP aC σ) (sl:σ 5=(.ref (cO) 0)/\σ 15=(.int .i64 Bd)/\H.obj cO=some [(.int .i64 bB),(.int .i64 bM),(.str bJ),(.aA (bR.map aI) .unk),(.aA (bZ.map aX) .unk)]) (dw:cO<H.next) (o:Unit⊕Int) (h:jT k bB bM bJ bR bZ Bd=some o) (Q:Post) (q0: ∀(p:Unit) (σ':Nat->PV),o= .inl p->Fr CP aC σ'->Q (.exit 3) σ' H) (q1: ∀(p:Int) (σ':Nat->PV),o= .inr (p)->Fr CP aC σ'->(σ' 4=(.int .i64 p))->Q .ret σ' H),W Tryz.prog (.loop Sr) Q σ H:=by
  intro k
  induction k with
  |zero=>intro cO bB bM bJ bR bZ Bd aC σ H f0 sl dw o h Q q0 q1;simp only [jT,reduceCtorEq]at h
  |succ k ih=>
    intro cO bB bM bJ bR bZ Bd aC σ H f0 sl dw o h Q q0 q1;obtain⟨s5,s15,yE⟩:=sl;have yF:=ne_next dw;have yG:=aV dw;unfold jT at h;refine aT (fun K hK=>aD ?_);unfold Sr;rcases au h with⟨e216,h⟩|⟨e216,h⟩
    ·try refine ah ?_
     refine eO ?_;obtain⟨e217,h⟩:=aP h;obtain⟨aAd,h⟩:=aP h;obtain⟨aoV,e220,h⟩:=aj h;obtain⟨aoW,e221,h⟩:=aj h;try refine ah ?_
     refine aB (za e221) ?_;rcases au h with⟨e223,h⟩|⟨e223,h⟩
     ·obtain rfl:=ak h;try refine ah ?_
      exact q1 _ _ rfl aJ av
     ·try refine ah ?_
      refine hK _ _ ?_;exact ih cO bB bM bJ bR bZ (IntKind.wrap .i64 (Bd+1)) _ _ _ aJ av bQ _ h _ q0 q1
    ·obtain rfl:=ak h;try refine ah ?_
     exact q0 _ _ rfl aJ
def Ci (k:Nat) (aH:List Nd) (dA:Int):Option Int:=
  if 0<=dA then Option.bind (aH[dA.toNat]?) fun x2=>Option.bind (iJ x2.kind 0 28) fun p5=>cond p5 (Option.bind (qZ x2.kind) fun p8=>Option.bind (uU k x2.kind x2.n x2.text x2.names x2.args p8.1.1 p8.1.2.1 p8.1.2.2.1 p8.1.2.2.2) (fun wZ=>Option.bind (PE p8.2) fun p41=>Option.bind (iJ (x2.names.length:Int) wZ.1 wZ.2.1) fun p43=>Option.bind (uV wZ.1 wZ.2.1 wZ.2.2.1 wZ.2.2.2 (IntKind.wrap .i64 ((x2.args.length:Int) -(IntKind.wrap .i64 ((x2.names.length:Int)*p41)))) (!p43)) (fun p49=>cond p49 (some 6) (Option.bind (uW x2.kind x2.n x2.text x2.names x2.args (x2.kind==1)) (fun p63=>Option.bind (Bb k aH dA) fun p72=>Option.bind (uX k x2.kind x2.n x2.text x2.names x2.args p63 (!p72)) (fun Ua=>cond Ua (some 5) (Option.bind (uY x2.kind x2.n x2.text x2.names x2.args (x2.kind==0)) (fun OB=>cond OB (some 3) (Option.bind (lq k x2.kind x2.n x2.text x2.names x2.args 0) (fun o=>Sum.elim (fun adk=>Option.bind (qY k x2.text) fun u7=>Option.bind (uZ k x2.kind x2.n x2.text x2.names x2.args u7.1.text u7.1.fix u7.1.low u7.1.high u7.1.left u7.1.least u7.1.most u7.2) (fun o=>Sum.elim (fun avG=>Option.bind (jT k x2.kind x2.n x2.text x2.names x2.args 1) (fun o=>Sum.elim (fun avH=>some 0) (fun aoX=>some aoX) o)) (fun aoY=>some aoY) o)) (fun aoZ=>some aoZ) o)))))))))) (some 4)else none
theorem aaX {k:Nat} {aH:List Nd} {dA:Int} {c0:Ck} {r:Int} (h:Ci k aH dA=some r):aF Tryz.prog 54 [(.aA (aH.map Nd.cells) c0),(.int .i64 dA)] (.int .i64 r):=by
  refine aF.lw (.aA (.same .nil)) (aF.aQ (bf.mem (.cons (aU Nd.pu _) (.cons (.int _ _) .nil))) (aG anE (by simp) (aD ?_)) (.int _ _));unfold Ci at h;unfold anD;obtain⟨e1,h⟩:=aP h;obtain⟨x2,e3,h⟩:=aj h;obtain⟨p5,e4,h⟩:=aj h;try refine ah ?_
  refine aB (iU e4) ?_;rcases au h with⟨e6,h⟩|⟨e6,h⟩
  ·obtain⟨p8,e7,h⟩:=aj h;try refine ah ?_
   refine aB (ae4 e7) ?_;try refine ah ?_
   obtain⟨o22,h23,h⟩:=aj h;refine TN k (AH.empty.next) (AH.empty.next+1) x2.kind x2.n x2.text x2.names x2.args p8.1.1 p8.1.2.1 p8.1.2.2.1 p8.1.2.2.2 _ _ _ _ (Fr.refl _ _) (HF.refl _ _) av bQ bQ bQ _ h23 _ ?_
   ·rintro wZ σ' H27 eo Yz adl g28;rw [eo]at h;have s29:σ' 0=(.aA (aH.map Nd.cells) .unk):=(Yz 0 (by decide)).trans av;have s30:σ' 1=(.int .i64 dA):=(Yz 1 (by decide)).trans av;have s31:σ' 5=(.ref (AH.empty.next) 0):=(Yz 5 (by decide)).trans av;have s32:σ' 6=(.ref (AH.empty.next+1) 0):=(Yz 6 (by decide)).trans av;have s33:σ' 7=(.bool p8.2):=(Yz 7 (by decide)).trans av;have le:=adl.1;try simp only [AH.aK,AH.aL,AH.aM,AH.aN]at le
    have g34:H27.obj (AH.empty.next)=some [(.int .i64 x2.kind),(.int .i64 x2.n),(.str x2.text),(.aA (x2.names.map aI) .unk),(.aA (x2.args.map aX) .unk)]:=(adl.2 _ bQ (by first|exact List.not_mem_nil|(simp only [List.mem_cons,List.not_mem_nil,or_false,not_or];omega))).trans av;have n35:=ne_next (show AH.empty.next<H27.next by first|omega|(simp only [AH.aK,AH.aL,AH.aM,AH.aN];omega));have m36:=aV (show AH.empty.next<H27.next by first|omega|(simp only [AH.aK,AH.aL,AH.aM,AH.aN];omega));have n38:=ne_next (show AH.empty.next+1<H27.next by first|omega|(simp only [AH.aK,AH.aL,AH.aM,AH.aN];omega));have m39:=aV (show AH.empty.next+1<H27.next by first|omega|(simp only [AH.aK,AH.aL,AH.aM,AH.aN];omega));try refine ah ?_
    refine eO ?_;obtain⟨p41,e40,h⟩:=aj h;try refine ah ?_
    refine PC.mk (abK e40) ?_;obtain⟨p43,e42,h⟩:=aj h;try refine ah ?_
    refine aB (iU e42) ?_;try refine ah ?_
    obtain⟨o47,h48,h⟩:=aj h;refine TP (AH.empty.next+1) wZ.1 wZ.2.1 wZ.2.2.1 wZ.2.2.2 (IntKind.wrap .i64 ((x2.args.length:Int) -(IntKind.wrap .i64 ((x2.names.length:Int)*p41)))) (!p43) _ _ _ (Fr.refl _ _) av bQ _ h48 _ ?_
    ·rintro p49 σ' eo KG s53;rw [eo]at h;have s54:σ' 0=(.aA (aH.map Nd.cells) .unk):=(KG 0 (by decide)).trans av;have s55:σ' 1=(.int .i64 dA):=(KG 1 (by decide)).trans av;have s56:σ' 5=(.ref (AH.empty.next) 0):=(KG 5 (by decide)).trans av;rcases au h with⟨e57,h⟩|⟨e57,h⟩
     ·obtain rfl:=ak h;try refine ah ?_
      exact(.pure _ (.int _ _))
     ·try refine ah ?_
      obtain⟨o61,h62,h⟩:=aj h;refine TQ (AH.empty.next) x2.kind x2.n x2.text x2.names x2.args (x2.kind==1) _ _ _ (Fr.refl _ _) av bQ _ h62 _ ?_
      ·rintro p63 σ' eo Gz s67;rw [eo]at h;have s68:σ' 0=(.aA (aH.map Nd.cells) .unk):=(Gz 0 (by decide)).trans av;have s69:σ' 1=(.int .i64 dA):=(Gz 1 (by decide)).trans av;have s70:σ' 5=(.ref (AH.empty.next) 0):=(Gz 5 (by decide)).trans av;obtain⟨p72,e71,h⟩:=aj h;try refine ah ?_
       refine aB (adj e71) ?_;try refine ah ?_
       obtain⟨aAe,avI,h⟩:=aj h;refine TS k (AH.empty.next) x2.kind x2.n x2.text x2.names x2.args p63 (!p72) _ _ _ (Fr.refl _ _) av bQ _ avI _ ?_
       ·rintro Ua σ' eo asg aAf;rw [eo]at h;have aAg:σ' 5=(.ref (AH.empty.next) 0):=(asg 5 (by decide)).trans av;rcases au h with⟨ahu,h⟩|⟨ahu,h⟩
        ·obtain rfl:=ak h;try refine ah ?_
         exact(.pure _ (.int _ _))
        ·try refine ah ?_
         obtain⟨aAh,avJ,h⟩:=aj h;refine TU (AH.empty.next) x2.kind x2.n x2.text x2.names x2.args (x2.kind==0) _ _ _ (Fr.refl _ _) av bQ _ avJ _ ?_
         ·rintro OB σ' eo ash aAi;rw [eo]at h;have aAj:σ' 5=(.ref (AH.empty.next) 0):=(ash 5 (by decide)).trans av;rcases au h with⟨ahv,h⟩|⟨ahv,h⟩
          ·obtain rfl:=ak h;try refine ah ?_
           exact(.pure _ (.int _ _))
          ·try refine ah ?_
           obtain⟨aAk,avK,h⟩:=aj h;refine TV k (AH.empty.next) x2.kind x2.n x2.text x2.names x2.args 0 _ _ _ (Fr.refl _ _) av bQ _ avK _ ?_ ?_
           ·rintro adk σ' eo asi;subst eo;rw [bL]at h;have aAl:σ' 5=(.ref (AH.empty.next) 0):=(asi 5 (by decide)).trans av;obtain⟨u7,avL,h⟩:=aj h;try refine ah ?_
            refine aB (Ho avL) ?_;try refine ah ?_
            obtain⟨aAm,avM,h⟩:=aj h;refine TY k (AH.empty.next) (H27.next) x2.kind x2.n x2.text x2.names x2.args u7.1.text u7.1.fix u7.1.low u7.1.high u7.1.left u7.1.least u7.1.most u7.2 _ _ _ (Fr.refl _ _) av bQ bQ bQ _ avM _ ?_ ?_
            ·rintro avG σ' eo asj;subst eo;rw [bL]at h;have aAn:σ' 5=(.ref (AH.empty.next) 0):=(asj 5 (by decide)).trans av;try refine ah ?_
             obtain⟨aAo,avN,h⟩:=aj h;refine T9 k (AH.empty.next) x2.kind x2.n x2.text x2.names x2.args 1 _ _ _ (Fr.refl _ _) av bQ _ avN _ ?_ ?_
             ·rintro avH σ' eo azv;subst eo;rw [bL]at h;obtain rfl:=ak h;try refine ah ?_
              exact(.pure _ (.int _ _))
             ·rintro aoX σ' eo azw aAp;subst eo;rw [bP]at h;obtain rfl:=ak h;try refine ah ?_
              exact(.pure _ (.int _ _))
            ·rintro aoY σ' eo azx aAq;subst eo;rw [bP]at h;obtain rfl:=ak h;try refine ah ?_
             exact(.pure _ (.int _ _))
           ·rintro aoZ σ' eo azy aAr;subst eo;rw [bP]at h;obtain rfl:=ak h;try refine ah ?_
            exact(.pure _ (.int _ _))
  ·obtain rfl:=ak h;try refine ah ?_
   exact(.pure _ (.int _ _))
def nZ:Nat->(List Nd)->Int->Int->Int->Option (Unit⊕(Int×Int))
  |0,_,_,_,_=>none
  |k+1,aH,dA,nI,KH=>
    if 0<=nI then Option.bind (aH[nI.toNat]?) fun x3=>cond (decide (KH<(x3.args.length:Int))) (if 0<=KH then Option.bind (x3.args[KH.toNat]?) fun x7=>cond (x7==dA) (some (.inr ((nI,KH)))) (nZ k aH dA nI (IntKind.wrap .i64 (KH+1)))else none) (some (.inl ()))else none
def El:List Nat:=[4,5,7]++List.range' 16 22
theorem Ws: ∀(k:Nat) (aH:List Nd) (dA:Int) (nI:Int) (KH:Int) (aC σ:Nat->PV) (H:AH) (f0:Fr El aC σ) (sl:σ 0=(.aA (aH.map Nd.cells) .unk)/\σ 1=(.int .i64 dA)/\σ 6=(.int .i64 nI)/\σ 7=(.int .i64 KH)) (o:Unit⊕(Int×Int)) (h:nZ k aH dA nI KH=some o) (Q:Post) (q0: ∀(p:Unit) (σ':Nat->PV),o= .inl p->Fr El aC σ'->Q (.exit 2) σ' H) (q1: ∀(p:Int×Int) (σ':Nat->PV),o= .inr (p)->Fr El aC σ'->(σ' 4=(.int .i64 p.1)/\σ' 5=(.int .i64 p.2))->Q .ret σ' H),W Tryz.prog (.loop Sv) Q σ H:=by
  intro k
  induction k with
  |zero=>intro aH dA nI KH aC σ H f0 sl o h Q q0 q1;simp only [nZ,reduceCtorEq]at h
  |succ k ih=>
    intro aH dA nI KH aC σ H f0 sl o h Q q0 q1;obtain⟨s0,s1,s6,s7⟩:=sl;unfold nZ at h;refine aT (fun K hK=>aD ?_);unfold Sv;obtain⟨e2,h⟩:=aP h;obtain⟨x3,e4,h⟩:=aj h;rcases au h with⟨e5,h⟩|⟨e5,h⟩
    ·obtain⟨e6,h⟩:=aP h;obtain⟨x7,e8,h⟩:=aj h;rcases au h with⟨e9,h⟩|⟨e9,h⟩
     ·obtain rfl:=ak h;try refine ah ?_
      exact q1 _ _ rfl aJ av
     ·try refine ah ?_
      refine hK _ _ ?_;exact ih aH dA nI (IntKind.wrap .i64 (KH+1)) _ _ _ aJ av _ h _ q0 q1
    ·obtain rfl:=ak h;try refine ah ?_
     exact q0 _ _ rfl aJ
def og:Nat->(List Nd)->Int->Int->Option (Unit⊕(Int×Int))
  |0,_,_,_=>none
  |k+1,aH,dA,nI=>
    cond (decide (nI<(aH.length:Int))) (Option.bind (nZ k aH dA nI 0) (fun o=>Sum.elim (fun lT=>og k aH dA (IntKind.wrap .i64 (nI+1))) (fun wM=>some (.inr ((wM.1,wM.2)))) o)) (some (.inl ()))
def Em:List Nat:=[4,5,6,7]++List.range' 10 28
theorem Wt: ∀(k:Nat) (aH:List Nd) (dA:Int) (nI:Int) (aC σ:Nat->PV) (H:AH) (f0:Fr Em aC σ) (sl:σ 0=(.aA (aH.map Nd.cells) .unk)/\σ 1=(.int .i64 dA)/\σ 6=(.int .i64 nI)) (o:Unit⊕(Int×Int)) (h:og k aH dA nI=some o) (Q:Post) (q0: ∀(p:Unit) (σ':Nat->PV),o= .inl p->Fr Em aC σ'->Q (.exit 0) σ' H) (q1: ∀(p:Int×Int) (σ':Nat->PV),o= .inr (p)->Fr Em aC σ'->(σ' 4=(.int .i64 p.1)/\σ' 5=(.int .i64 p.2))->Q .ret σ' H),W Tryz.prog (.loop Sw) Q σ H:=by
  intro k
  induction k with
  |zero=>intro aH dA nI aC σ H f0 sl o h Q q0 q1;simp only [og,reduceCtorEq]at h
  |succ k ih=>
    intro aH dA nI aC σ H f0 sl o h Q q0 q1;obtain⟨s0,s1,s6⟩:=sl;unfold og at h;refine aT (fun K hK=>aD ?_);unfold Sw;rcases au h with⟨e1,h⟩|⟨e1,h⟩
    ·try refine ah ?_
     obtain⟨o10,h11,h⟩:=aj h;refine Ws k aH dA nI 0 _ _ _ (Fr.refl _ _) av _ h11 _ ?_ ?_
     ·rintro lT σ' eo IY;subst eo;rw [bL]at h;have s16:σ' 0=(.aA (aH.map Nd.cells) .unk):=(IY 0 (by decide)).trans av;have tH:σ' 1=(.int .i64 dA):=(IY 1 (by decide)).trans av;have jw:σ' 6=(.int .i64 nI):=(IY 6 (by decide)).trans av;try refine ah ?_
      refine hK _ _ ?_;exact ih aH dA (IntKind.wrap .i64 (nI+1)) _ _ _ (by repeat (first|exact f0|refine Fr.upd (by decide) ?_|refine Fr.via IY (by decide) ?_)) av _ h _ q0 q1
     ·rintro wM σ' eo ahn ⟨s23,s24⟩;subst eo;rw [bP]at h;obtain rfl:=ak h;try refine ah ?_
      exact q1 _ _ rfl (by repeat (first|exact f0|refine Fr.upd (by decide) ?_|refine Fr.via ahn (by decide) ?_)) av
    ·obtain rfl:=ak h;try refine ah ?_
     exact q0 _ _ rfl aJ
def sK (k:Nat) (aH:List Nd) (dA:Int):Option (Int×Int):=
  Option.bind (og k aH dA (IntKind.wrap .i64 (dA+1))) (fun o=>Sum.elim (fun p27=>some ((-1),0)) (fun p31=>some (p31.1,p31.2)) o)
theorem Dh {k:Nat} {aH:List Nd} {dA:Int} {c0:Ck} {r:Int×Int} (h:sK k aH dA=some r):aF Tryz.prog 55 [(.aA (aH.map Nd.cells) c0),(.int .i64 dA)] (.dM [(.int .i64 r.1),(.int .i64 r.2)]):=by
  refine aF.lw (.aA (.same .nil)) (aF.aQ (bf.mem (.cons (aU Nd.pu _) (.cons (.int _ _) .nil))) (aG ahc (by simp) (aD ?_)) (.dM _ (bf.mem (.cons (.int _ _) (.cons (.int _ _) .nil)))));unfold sK at h;unfold anF;try refine ah ?_
  obtain⟨o25,h26,h⟩:=aj h;refine Wt k aH dA (IntKind.wrap .i64 (dA+1)) _ _ _ (Fr.refl _ _) av _ h26 _ ?_ ?_
  ·rintro p27 σ' eo aAs;subst eo;rw [bL]at h;obtain rfl:=ak h;try refine ah ?_
   exact(dn (.cons (.pure _ (.int _ _)) (.cons (.pure _ (.int _ _)) .nil)))
  ·rintro p31 σ' eo Oz ⟨s35,s36⟩;subst eo;rw [bP]at h;obtain rfl:=ak h;try refine ah ?_
   exact(dn (.cons (.pure _ (.int _ _)) (.cons (.pure _ (.int _ _)) .nil)))
def nN:Nat->(List Nd)->Int->Option (Unit⊕(Int×Int))
  |0,_,_=>none
  |k+1,aH,gD=>
    cond (decide (gD<(aH.length:Int))) (Option.bind (Ci k aH gD) fun p5=>cond (p5 !=0) (some (.inr ((gD,p5)))) (nN k aH (IntKind.wrap .i64 (gD+1)))) (some (.inl ()))
def GA:List Nat:=[2,3,4,5]++List.range' 17 13
theorem YA: ∀(k:Nat) (aH:List Nd) (gD:Int) (aC σ:Nat->PV) (H:AH) (f0:Fr GA aC σ) (sl:σ 0=(.aA (aH.map Nd.cells) .unk)/\σ 4=(.int .i64 gD)) (o:Unit⊕(Int×Int)) (h:nN k aH gD=some o) (Q:Post) (q0: ∀(p:Unit) (σ':Nat->PV),o= .inl p->Fr GA aC σ'->Q (.exit 0) σ' H) (q1: ∀(p:Int×Int) (σ':Nat->PV),o= .inr (p)->Fr GA aC σ'->(σ' 2=(.int .i64 p.1)/\σ' 3=(.int .i64 p.2))->Q .ret σ' H),W Tryz.prog (.loop RG) Q σ H:=by
  intro k
  induction k with
  |zero=>intro aH gD aC σ H f0 sl o h Q q0 q1;simp only [nN,reduceCtorEq]at h
  |succ k ih=>
    intro aH gD aC σ H f0 sl o h Q q0 q1;obtain⟨s0,s4⟩:=sl;unfold nN at h;refine aT (fun K hK=>aD ?_);unfold RG;rcases au h with⟨e3,h⟩|⟨e3,h⟩
    ·obtain⟨p5,e4,h⟩:=aj h;try refine ah ?_
     refine aB (aaX e4) ?_;rcases au h with⟨e6,h⟩|⟨e6,h⟩
     ·obtain rfl:=ak h;try refine ah ?_
      exact q1 _ _ rfl aJ av
     ·try refine ah ?_
      refine hK _ _ ?_;exact ih aH (IntKind.wrap .i64 (gD+1)) _ _ _ aJ av _ h _ q0 q1
    ·obtain rfl:=ak h;try refine ah ?_
     exact q0 _ _ rfl aJ
def zJ (k:Nat) (aH:List Nd) (nO:Int) (YB:Bool):Option Bool:=
  cond YB (if 0<=nO then Option.bind (aH[nO.toNat]?) fun x19=>cond (x19.kind==3) (Option.bind (sH k x19.text) fun FV=>some (FV)) (some (false))else none) (some (false))
def M5:List Nat:=List.range' 45 15
theorem YC (k:Nat): ∀(aH:List Nd) (nO:Int) (YB:Bool) (aC σ:Nat->PV) (H:AH) (f0:Fr M5 aC σ) (sl:σ 0=(.aA (aH.map Nd.cells) .unk)/\σ 7=(.int .i64 nO)/\σ 44=(.bool YB)) (o:Bool) (h:zJ k aH nO YB=some o) (Q:Post) (q0: ∀(p:Bool) (σ':Nat->PV),o=p->Fr M5 aC σ'->(σ' 59=(.bool p))->Q .normal σ' H),dF Tryz.prog RH (Q .normal) σ H:=by
  intro aH nO YB aC σ H f0 sl o h Q q0;obtain⟨s0,s7,s44⟩:=sl;unfold zJ at h;refine eB ?_;unfold RH;rcases au h with⟨e17,h⟩|⟨e17,h⟩
  ·obtain⟨e18,h⟩:=aP h;obtain⟨x19,e20,h⟩:=aj h;rcases au h with⟨e21,h⟩|⟨e21,h⟩
   ·obtain⟨FV,e22,h⟩:=aj h;try refine ah ?_
    refine aB (zn e22) ?_;obtain rfl:=ak h;try refine ah ?_
    exact q0 _ _ rfl aJ av
   ·obtain rfl:=ak h;try refine ah ?_
    exact q0 _ _ rfl aJ av
  ·obtain rfl:=ak h;try refine ah ?_
   exact q0 _ _ rfl aJ av
def Di (En:Bool) (Ej:Bool):Option Bool:=
  cond Ej (some ((!En))) (some (false))
theorem YD: ∀(En:Bool) (Ej:Bool) (aC σ:Nat->PV) (H:AH) (f0:Fr [67,68,69] aC σ) (sl:σ 9=(.bool En)/\σ 66=(.bool Ej)) (o:Bool) (h:Di En Ej=some o) (Q:Post) (q0: ∀(p:Bool) (σ':Nat->PV),o=p->Fr [67,68,69] aC σ'->(σ' 69=(.bool p))->Q .normal σ' H),dF Tryz.prog RI (Q .normal) σ H:=by
  intro En Ej aC σ H f0 sl o h Q q0;obtain⟨s9,s66⟩:=sl;unfold Di at h;refine eB ?_;unfold RI;rcases au h with⟨e38,h⟩|⟨e38,h⟩
  ·obtain rfl:=ak h;try refine ah ?_
   exact q0 _ _ rfl aJ av
  ·obtain rfl:=ak h;try refine ah ?_
   exact q0 _ _ rfl aJ av
def Dk (aH:List Nd) (nO:Int) (oD:Int) (YE:Bool):Option Bool:=
  cond YE (some (true)) (if 0<=nO then Option.bind (aH[nO.toNat]?) fun x54=>cond (x54.kind==19) (some ((oD==2))) (some (false))else none)
def M6:List Nat:=List.range' 75 11
theorem YF: ∀(aH:List Nd) (nO:Int) (oD:Int) (YE:Bool) (aC σ:Nat->PV) (H:AH) (f0:Fr M6 aC σ) (sl:σ 0=(.aA (aH.map Nd.cells) .unk)/\σ 7=(.int .i64 nO)/\σ 8=(.int .i64 oD)/\σ 74=(.bool YE)) (o:Bool) (h:Dk aH nO oD YE=some o) (Q:Post) (q0: ∀(p:Bool) (σ':Nat->PV),o=p->Fr M6 aC σ'->(σ' 85=(.bool p))->Q .normal σ' H),dF Tryz.prog RJ (Q .normal) σ H:=by
  intro aH nO oD YE aC σ H f0 sl o h Q q0;obtain⟨s0,s7,s8,s74⟩:=sl;unfold Dk at h;refine eB ?_;unfold RJ;rcases au h with⟨e52,h⟩|⟨e52,h⟩
  ·obtain rfl:=ak h;try refine ah ?_
   exact q0 _ _ rfl aJ av
  ·obtain⟨e53,h⟩:=aP h;obtain⟨x54,e55,h⟩:=aj h;rcases au h with⟨e56,h⟩|⟨e56,h⟩
   ·obtain rfl:=ak h;try refine ah ?_
    exact q0 _ _ rfl aJ av
   ·obtain rfl:=ak h;try refine ah ?_
    exact q0 _ _ rfl aJ av
def qj:Nat->(List Nd)->Int->Int->Bool->Option Bool
  |0,_,_,_,_=>none
  |k+1,aH,nO,oD,Cj=>
    cond (decide (nO>=0)) (Option.bind (Dk aH nO oD Cj) (fun p59=>Option.bind (sK k aH nO) fun p67=>qj k aH p67.1 p67.2 p59)) (some (Cj))
def M7:List Nat:=[7,8,10]++List.range' 71 21
theorem YG: ∀(k:Nat) (aH:List Nd) (nO:Int) (oD:Int) (Cj:Bool) (aC σ:Nat->PV) (H:AH) (f0:Fr M7 aC σ) (sl:σ 0=(.aA (aH.map Nd.cells) .unk)/\σ 7=(.int .i64 nO)/\σ 8=(.int .i64 oD)/\σ 10=(.bool Cj)) (o:Bool) (h:qj k aH nO oD Cj=some o) (Q:Post) (q0: ∀(p:Bool) (σ':Nat->PV),o=p->Fr M7 aC σ'->(σ' 10=(.bool p))->Q (.exit 4) σ' H),W Tryz.prog (.loop RL) Q σ H:=by
  intro k
  induction k with
  |zero=>intro aH nO oD Cj aC σ H f0 sl o h Q q0;simp only [qj,reduceCtorEq]at h
  |succ k ih=>
    intro aH nO oD Cj aC σ H f0 sl o h Q q0;obtain⟨s0,s7,s8,s10⟩:=sl;unfold qj at h;refine aT (fun K hK=>aD ?_);unfold RL;rcases au h with⟨e51,h⟩|⟨e51,h⟩
    ·try refine ah ?_
     obtain⟨o57,h58,h⟩:=aj h;refine YF aH nO oD Cj _ _ _ (Fr.refl _ _) av _ h58 _ ?_
     ·rintro p59 σ' eo ahw s63;rw [eo]at h;have s64:σ' 0=(.aA (aH.map Nd.cells) .unk):=(ahw 0 (by decide)).trans av;have s65:σ' 7=(.int .i64 nO):=(ahw 7 (by decide)).trans av;obtain⟨p67,e66,h⟩:=aj h;try refine ah ?_
      refine aB (Dh e66) ?_;try refine ah ?_
      refine hK _ _ ?_;exact ih aH p67.1 p67.2 p59 _ _ _ (by repeat (first|exact f0|refine Fr.upd (by decide) ?_|refine Fr.via ahw (by decide) ?_)) av _ h _ q0
    ·obtain rfl:=ak h;try refine ah ?_
     exact q0 _ _ rfl aJ av
def mo:Nat->(List Nd)->Int->Option (Unit⊕(Int×Int))
  |0,_,_=>none
  |k+1,aH,kJ=>
    cond (decide (kJ<(aH.length:Int))) (Option.bind (sK k aH kJ) fun p16=>Option.bind (zJ k aH p16.1 (decide (p16.1>=0))) (fun p26=>if 0<=kJ then Option.bind (aH[kJ.toNat]?) fun x36=>Option.bind (Di p26 (x36.kind==24)) (fun p41=>cond p41 (some (.inr ((kJ,30)))) (Option.bind (qj k aH p16.1 p16.2 false) (fun p70=>cond (x36.kind==20) (cond p70 (mo k aH (IntKind.wrap .i64 (kJ+1))) (some (.inr ((kJ,30))))) (mo k aH (IntKind.wrap .i64 (kJ+1))))))else none)) (some (.inl ()))
def GD:List Nat:=[2,3,6,7,8,9,10]++List.range' 30 73
theorem YH: ∀(k:Nat) (aH:List Nd) (kJ:Int) (aC σ:Nat->PV) (H:AH) (f0:Fr GD aC σ) (sl:σ 0=(.aA (aH.map Nd.cells) .unk)/\σ 6=(.int .i64 kJ)) (o:Unit⊕(Int×Int)) (h:mo k aH kJ=some o) (Q:Post) (q0: ∀(p:Unit) (σ':Nat->PV),o= .inl p->Fr GD aC σ'->Q (.exit 2) σ' H) (q1: ∀(p:Int×Int) (σ':Nat->PV),o= .inr (p)->Fr GD aC σ'->(σ' 2=(.int .i64 p.1)/\σ' 3=(.int .i64 p.2))->Q .ret σ' H),W Tryz.prog (.loop RN) Q σ H:=by
  intro k
  induction k with
  |zero=>intro aH kJ aC σ H f0 sl o h Q q0 q1;simp only [mo,reduceCtorEq]at h
  |succ k ih=>
    intro aH kJ aC σ H f0 sl o h Q q0 q1;obtain⟨s0,s6⟩:=sl;unfold mo at h;refine aT (fun K hK=>aD ?_);unfold RN;rcases au h with⟨e14,h⟩|⟨e14,h⟩
    ·obtain⟨p16,e15,h⟩:=aj h;try refine ah ?_
     refine aB (Dh e15) ?_;try refine ah ?_
     obtain⟨o24,h25,h⟩:=aj h;refine YC k aH p16.1 (decide (p16.1>=0)) _ _ _ (Fr.refl _ _) av _ h25 _ ?_
     ·rintro p26 σ' eo KI s30;rw [eo]at h;have s31:σ' 0=(.aA (aH.map Nd.cells) .unk):=(KI 0 (by decide)).trans av;have s32:σ' 6=(.int .i64 kJ):=(KI 6 (by decide)).trans av;have s33:σ' 7=(.int .i64 p16.1):=(KI 7 (by decide)).trans av;have s34:σ' 8=(.int .i64 p16.2):=(KI 8 (by decide)).trans av;obtain⟨e35,h⟩:=aP h;obtain⟨x36,e37,h⟩:=aj h;try refine ah ?_
      obtain⟨o39,h40,h⟩:=aj h;refine YD p26 (x36.kind==24) _ _ _ (Fr.refl _ _) av _ h40 _ ?_
      ·rintro p41 σ' eo CQ s45;rw [eo]at h;have s46:σ' 0=(.aA (aH.map Nd.cells) .unk):=(CQ 0 (by decide)).trans av;have s47:σ' 6=(.int .i64 kJ):=(CQ 6 (by decide)).trans av;have s48:σ' 7=(.int .i64 p16.1):=(CQ 7 (by decide)).trans av;have s49:σ' 8=(.int .i64 p16.2):=(CQ 8 (by decide)).trans av;rcases au h with⟨e50,h⟩|⟨e50,h⟩
       ·obtain rfl:=ak h;try refine ah ?_
        exact q1 _ _ rfl (by repeat (first|exact f0|refine Fr.upd (by decide) ?_|refine Fr.via KI (by decide) ?_|refine Fr.via CQ (by decide) ?_)) av
       ·try refine ah ?_
        obtain⟨o68,h69,h⟩:=aj h;refine YG k aH p16.1 p16.2 false _ _ _ (Fr.refl _ _) av _ h69 _ ?_
        ·rintro p70 σ' eo YI s74;rw [eo]at h;have s75:σ' 0=(.aA (aH.map Nd.cells) .unk):=(YI 0 (by decide)).trans av;have s76:σ' 6=(.int .i64 kJ):=(YI 6 (by decide)).trans av;rcases au h with⟨M4,h⟩|⟨M4,h⟩
         ·rcases au h with⟨Yq,h⟩|⟨Yq,h⟩
          ·try refine ah ?_
           refine hK _ _ ?_;exact ih aH (IntKind.wrap .i64 (kJ+1)) _ _ _ (by repeat (first|exact f0|refine Fr.upd (by decide) ?_|refine Fr.via KI (by decide) ?_|refine Fr.via CQ (by decide) ?_|refine Fr.via YI (by decide) ?_)) av _ h _ q0 q1
          ·obtain rfl:=ak h;try refine ah ?_
           exact q1 _ _ rfl (by repeat (first|exact f0|refine Fr.upd (by decide) ?_|refine Fr.via KI (by decide) ?_|refine Fr.via CQ (by decide) ?_|refine Fr.via YI (by decide) ?_)) av
         ·try refine ah ?_
          refine hK _ _ ?_;exact ih aH (IntKind.wrap .i64 (kJ+1)) _ _ _ (by repeat (first|exact f0|refine Fr.upd (by decide) ?_|refine Fr.via KI (by decide) ?_|refine Fr.via CQ (by decide) ?_|refine Fr.via YI (by decide) ?_)) av _ h _ q0 q1
    ·obtain rfl:=ak h;try refine ah ?_
     exact q0 _ _ rfl aJ
def yH (k:Nat) (aH:List Nd):Option (Int×Int):=
  cond ((aH.length:Int)==0) (some (0,1)) (cond (decide ((aH.length:Int)>160)) (some (0,2)) (Option.bind (nN k aH 0) (fun o=>Sum.elim (fun p9=>Option.bind (mo k aH 0) (fun o=>Sum.elim (fun Vm=>Option.bind (tX k aH (IntKind.wrap .i64 ((aH.length:Int) -1))) fun Jy=>cond (Jy !=0) (some ((IntKind.wrap .i64 ((aH.length:Int) -1)),15)) (some (0,0))) (fun P6=>some (P6.1,P6.2)) o)) (fun P7=>some (P7.1,P7.2)) o)))
theorem afg {k:Nat} {aH:List Nd} {c0:Ck} {r:Int×Int} (h:yH k aH=some r):aF Tryz.prog 16 [(.aA (aH.map Nd.cells) c0)] (.dM [(.int .i64 r.1),(.int .i64 r.2)]):=by
  refine aF.lw (.aA .nil) (aF.aQ (bf.mem (.cons (aU Nd.pu _) .nil)) (aG ok16 (by simp) (aD ?_)) (.dM _ (bf.mem (.cons (.int _ _) (.cons (.int _ _) .nil)))));unfold yH at h;unfold am1;rcases au h with⟨e1,h⟩|⟨e1,h⟩
  ·obtain rfl:=ak h;try refine ah ?_
   exact(dn (.cons (.pure _ (.int _ _)) (.cons (.pure _ (.int _ _)) .nil)))
  ·rcases au h with⟨e2,h⟩|⟨e2,h⟩
   ·obtain rfl:=ak h;try refine ah ?_
    exact(dn (.cons (.pure _ (.int _ _)) (.cons (.pure _ (.int _ _)) .nil)))
   ·try refine ah ?_
    obtain⟨o7,h8,h⟩:=aj h;refine YA k aH 0 _ _ _ (Fr.refl _ _) av _ h8 _ ?_ ?_
    ·rintro p9 σ' eo YJ;subst eo;rw [bL]at h;have s13:σ' 0=(.aA (aH.map Nd.cells) .unk):=(YJ 0 (by decide)).trans av;try refine ah ?_
     obtain⟨o79,h80,h⟩:=aj h;refine YH k aH 0 _ _ _ (Fr.refl _ _) av _ h80 _ ?_ ?_
     ·rintro Vm σ' eo Ub;subst eo;rw [bL]at h;have s85:σ' 0=(.aA (aH.map Nd.cells) .unk):=(Ub 0 (by decide)).trans av;obtain⟨Jy,PL,h⟩:=aj h;try refine ah ?_
      refine aB (KC PL) ?_;rcases au h with⟨PN,h⟩|⟨PN,h⟩
      ·obtain rfl:=ak h;try refine ah ?_
       exact(dn (.cons (.pure _ (.int _ _)) (.cons (.pure _ (.int _ _)) .nil)))
      ·obtain rfl:=ak h;try refine ah ?_
       exact(dn (.cons (.pure _ (.int _ _)) (.cons (.pure _ (.int _ _)) .nil)))
     ·rintro P6 σ' eo aAt ⟨s93,s94⟩;subst eo;rw [bP]at h;obtain rfl:=ak h;try refine ah ?_
      exact(dn (.cons (.pure _ (.int _ _)) (.cons (.pure _ (.int _ _)) .nil)))
    ·rintro P7 σ' eo aAu ⟨s99,ahx⟩;subst eo;rw [bP]at h;obtain rfl:=ak h;try refine ah ?_
     exact(dn (.cons (.pure _ (.int _ _)) (.cons (.pure _ (.int _ _)) .nil)))
def Me (k:Nat) (aH:List Nd):Option Int:=
  Option.bind (yH k aH) fun p2=>some p2.2
theorem abV {k:Nat} {aH:List Nd} {c0:Ck} {r:Int} (h:Me k aH=some r):aF Tryz.prog 18 [(.aA (aH.map Nd.cells) c0)] (.int .i64 r):=by
  refine aF.lw (.aA .nil) (aF.aQ (bf.mem (.cons (aU Nd.pu _) .nil)) (aG am5 (by simp) (aD ?_)) (.int _ _));unfold Me at h;unfold am4;obtain⟨p2,e1,h⟩:=aj h;try refine ah ?_
  refine aB (afg e1) ?_;obtain rfl:=ak h;try refine ah ?_
  exact(.pure _ (.int _ _))
def Eo (dK:Int) (FW:Bool):Option Bool:=
  cond FW (some ((decide (dK<172)))) (some (false))
theorem adn: ∀(dK:Int) (FW:Bool) (aC σ:Nat->PV) (H:AH) (f0:Fr [10,11,12] aC σ) (sl:σ 3=(.int .i64 dK)/\σ 9=(.bool FW)) (o:Bool) (h:Eo dK FW=some o) (Q:Post) (q0: ∀(p:Bool) (σ':Nat->PV),o=p->Fr [10,11,12] aC σ'->(σ' 12=(.bool p))->Q .normal σ' H),dF Tryz.prog Rx (Q .normal) σ H:=by
  intro dK FW aC σ H f0 sl o h Q q0;obtain⟨s3,s9⟩:=sl;unfold Eo at h;refine eB ?_;unfold Rx;rcases au h with⟨e1,h⟩|⟨e1,h⟩
  ·obtain rfl:=ak h;try refine ah ?_
   exact q0 _ _ rfl aJ av
  ·obtain rfl:=ak h;try refine ah ?_
   exact q0 _ _ rfl aJ av
def Ep (aH:List Nd) (dK:Int) (YK:Bool):Option Bool:=
  cond YK (some (true)) (if 0<=dK then Option.bind (aH[dK.toNat]?) fun Cm=>cond (decide ((Cm.names.length:Int)>34)) (some (true)) (some ((decide ((Cm.text.length:Int)>80))))else none)
def Vn:List Nat:=List.range' 23 17
theorem ado: ∀(aH:List Nd) (dK:Int) (YK:Bool) (aC σ:Nat->PV) (H:AH) (f0:Fr Vn aC σ) (sl:σ 0=(.aA (aH.map Nd.cells) .unk)/\σ 3=(.int .i64 dK)/\σ 22=(.bool YK)) (o:Bool) (h:Ep aH dK YK=some o) (Q:Post) (q0: ∀(p:Bool) (σ':Nat->PV),o=p->Fr Vn aC σ'->(σ' 39=(.bool p))->Q .normal σ' H),dF Tryz.prog Ry (Q .normal) σ H:=by
  intro aH dK YK aC σ H f0 sl o h Q q0;obtain⟨s0,s3,s22⟩:=sl;unfold Ep at h;refine eB ?_;unfold Ry;rcases au h with⟨e15,h⟩|⟨e15,h⟩
  ·obtain rfl:=ak h;try refine ah ?_
   exact q0 _ _ rfl aJ av
  ·obtain⟨e16,h⟩:=aP h;obtain⟨Cm,e18,h⟩:=aj h;rcases au h with⟨e19,h⟩|⟨e19,h⟩
   ·obtain rfl:=ak h;try refine ah ?_
    exact q0 _ _ rfl aJ av
   ·obtain rfl:=ak h;try refine ah ?_
    exact q0 _ _ rfl aJ av
def sM:Nat->(List Nd)->Int->Int->Option (Unit⊕Bool)
  |0,_,_,_=>none
  |k+1,aH,dK,M8=>
    if 0<=dK then Option.bind (aH[dK.toNat]?) fun x31=>cond (decide (M8<(x31.names.length:Int))) (if 0<=M8 then Option.bind (x31.names[M8.toNat]?) fun x35=>cond (decide ((x35.length:Int)>80)) (some (.inr (false))) (sM k aH dK (IntKind.wrap .i64 (M8+1)))else none) (some (.inl ()))else none
def KJ:List Nat:=[2,4]++List.range' 40 20
theorem adp: ∀(k:Nat) (aH:List Nd) (dK:Int) (M8:Int) (aC σ:Nat->PV) (H:AH) (f0:Fr KJ aC σ) (sl:σ 0=(.aA (aH.map Nd.cells) .unk)/\σ 3=(.int .i64 dK)/\σ 4=(.int .i64 M8)) (o:Unit⊕Bool) (h:sM k aH dK M8=some o) (Q:Post) (q0: ∀(p:Unit) (σ':Nat->PV),o= .inl p->Fr KJ aC σ'->Q (.exit 2) σ' H) (q1: ∀(p:Bool) (σ':Nat->PV),o= .inr (p)->Fr KJ aC σ'->(σ' 2=(.bool p))->Q .ret σ' H),W Tryz.prog (.loop Rz) Q σ H:=by
  intro k
  induction k with
  |zero=>intro aH dK M8 aC σ H f0 sl o h Q q0 q1;simp only [sM,reduceCtorEq]at h
  |succ k ih=>
    intro aH dK M8 aC σ H f0 sl o h Q q0 q1;obtain⟨s0,s3,s4⟩:=sl;unfold sM at h;refine aT (fun K hK=>aD ?_);unfold Rz;obtain⟨e30,h⟩:=aP h;obtain⟨x31,e32,h⟩:=aj h;rcases au h with⟨e33,h⟩|⟨e33,h⟩
    ·obtain⟨e34,h⟩:=aP h;obtain⟨x35,e36,h⟩:=aj h;rcases au h with⟨e37,h⟩|⟨e37,h⟩
     ·obtain rfl:=ak h;try refine ah ?_
      exact q1 _ _ rfl aJ av
     ·try refine ah ?_
      refine hK _ _ ?_;exact ih aH dK (IntKind.wrap .i64 (M8+1)) _ _ _ aJ av _ h _ q0 q1
    ·obtain rfl:=ak h;try refine ah ?_
     exact q0 _ _ rfl aJ
def sN:Nat->(List Nd)->Int->Option (Unit⊕Bool)
  |0,_,_=>none
  |k+1,aH,dK=>
    Option.bind (Eo dK (decide (dK<(aH.length:Int)))) (fun p4=>cond p4 (if 0<=dK then Option.bind (aH[dK.toNat]?) fun x13=>Option.bind (Ep aH dK (decide ((x13.args.length:Int)>34))) (fun Jt=>cond Jt (some (.inr (false))) (Option.bind (sM k aH dK 0) (fun o=>Sum.elim (fun p40=>sN k aH (IntKind.wrap .i64 (dK+1))) (fun p46=>some (.inr (p46))) o)))else none) (some (.inl ())))
def KL:List Nat:=List.range' 2 58
theorem adq: ∀(k:Nat) (aH:List Nd) (dK:Int) (aC σ:Nat->PV) (H:AH) (f0:Fr KL aC σ) (sl:σ 0=(.aA (aH.map Nd.cells) .unk)/\σ 3=(.int .i64 dK)) (o:Unit⊕Bool) (h:sN k aH dK=some o) (Q:Post) (q0: ∀(p:Unit) (σ':Nat->PV),o= .inl p->Fr KL aC σ'->Q (.exit 0) σ' H) (q1: ∀(p:Bool) (σ':Nat->PV),o= .inr (p)->Fr KL aC σ'->(σ' 2=(.bool p))->Q .ret σ' H),W Tryz.prog (.loop RA) Q σ H:=by
  intro k
  induction k with
  |zero=>intro aH dK aC σ H f0 sl o h Q q0 q1;simp only [sN,reduceCtorEq]at h
  |succ k ih=>
    intro aH dK aC σ H f0 sl o h Q q0 q1;obtain⟨s0,s3⟩:=sl;unfold sN at h;refine aT (fun K hK=>aD ?_);unfold RA;try refine ah ?_
    obtain⟨o2,h3,h⟩:=aj h;refine adn dK (decide (dK<(aH.length:Int))) _ _ _ (Fr.refl _ _) av _ h3 _ ?_
    ·rintro p4 σ' eo Hy s8;rw [eo]at h;have s9:σ' 0=(.aA (aH.map Nd.cells) .unk):=(Hy 0 (by decide)).trans av;have s10:σ' 3=(.int .i64 dK):=(Hy 3 (by decide)).trans av;rcases au h with⟨e11,h⟩|⟨e11,h⟩
     ·obtain⟨e12,h⟩:=aP h;obtain⟨x13,e14,h⟩:=aj h;try refine ah ?_
      obtain⟨o20,h21,h⟩:=aj h;refine ado aH dK (decide ((x13.args.length:Int)>34)) _ _ _ (Fr.refl _ _) av _ h21 _ ?_
      ·rintro Jt σ' eo TK s26;rw [eo]at h;have s27:σ' 0=(.aA (aH.map Nd.cells) .unk):=(TK 0 (by decide)).trans av;have s28:σ' 3=(.int .i64 dK):=(TK 3 (by decide)).trans av;rcases au h with⟨e29,h⟩|⟨e29,h⟩
       ·obtain rfl:=ak h;try refine ah ?_
        exact q1 _ _ rfl (by repeat (first|exact f0|refine Fr.upd (by decide) ?_|refine Fr.via Hy (by decide) ?_|refine Fr.via TK (by decide) ?_)) av
       ·try refine ah ?_
        obtain⟨o38,h39,h⟩:=aj h;refine adp k aH dK 0 _ _ _ (Fr.refl _ _) av _ h39 _ ?_ ?_
        ·rintro p40 σ' eo YL;subst eo;rw [bL]at h;have s44:σ' 0=(.aA (aH.map Nd.cells) .unk):=(YL 0 (by decide)).trans av;have s45:σ' 3=(.int .i64 dK):=(YL 3 (by decide)).trans av;try refine ah ?_
         refine hK _ _ ?_;exact ih aH (IntKind.wrap .i64 (dK+1)) _ _ _ (by repeat (first|exact f0|refine Fr.upd (by decide) ?_|refine Fr.via Hy (by decide) ?_|refine Fr.via TK (by decide) ?_|refine Fr.via YL (by decide) ?_)) av _ h _ q0 q1
        ·rintro p46 σ' eo avO s50;subst eo;rw [bP]at h;obtain rfl:=ak h;try refine ah ?_
         exact q1 _ _ rfl (by repeat (first|exact f0|refine Fr.upd (by decide) ?_|refine Fr.via Hy (by decide) ?_|refine Fr.via TK (by decide) ?_|refine Fr.via avO (by decide) ?_)) av
     ·obtain rfl:=ak h;try refine ah ?_
      exact q0 _ _ rfl (by repeat (first|exact f0|refine Fr.upd (by decide) ?_|refine Fr.via Hy (by decide) ?_))
def Mf (k:Nat) (aH:List Nd):Option Bool:=
  Option.bind (sN k aH 0) (fun o=>Sum.elim (fun p53=>some (decide ((aH.length:Int)<=170))) (fun p58=>some p58) o)
theorem abW {k:Nat} {aH:List Nd} {c0:Ck} {r:Bool} (h:Mf k aH=some r):aF Tryz.prog 13 [(.aA (aH.map Nd.cells) c0)] (.bool r):=by
  refine aF.lw (.aA .nil) (aF.aQ (bf.mem (.cons (aU Nd.pu _) .nil)) (aG auB (by simp) (aD ?_)) (.bool _));unfold Mf at h;unfold amY;try refine ah ?_
  obtain⟨o51,Yf,h⟩:=aj h;refine adq k aH 0 _ _ _ (Fr.refl _ _) av _ Yf _ ?_ ?_
  ·rintro p53 σ' eo IZ;subst eo;rw [bL]at h;have s57:σ' 0=(.aA (aH.map Nd.cells) .unk):=(IZ 0 (by decide)).trans av;obtain rfl:=ak h;try refine ah ?_
   exact(.pure _ (.bool _))
  ·rintro p58 σ' eo ahy s62;subst eo;rw [bP]at h;obtain rfl:=ak h;try refine ah ?_
   exact(.pure _ (.bool _))
def Co (dz:List Int):Option (List Int):=
  if(([]:List Int).length+dz.length)*8<=1099511627776 then some (([]:List Int)++dz)else none
theorem aaY {dz:List Int} {c0:Ck} {r:List Int} (h:Co dz=some r):aF Tryz.prog 53 [(.aA (dz.map aX) c0)] (.aA (r.map aX) .unk):=by
  refine aF.lw (.aA .nil) (aF.aQ (bf.mem (.cons (aU fH _) .nil)) (aG auS (by simp) (aD ?_)) (aU fH _));unfold Co at h;unfold anC;obtain⟨e5,h⟩:=aP h;try refine ah ?_
  refine gu (f:=aX) He ([]:List Int) (dz:List Int) .exact .unk av av fG (by first|exact e5|(simp only [List.length_cons,List.length_nil];exact e5)) (fun c1 H2 YM le ob6 rl4=> ?_);have hf7:HF [] _ H2:=⟨le,fun i _ _=>ob6 i⟩;try simp only [AH.aK,AH.aL,AH.aM,AH.aN]at le
  obtain rfl:=ak h;try refine ah ?_
  exact(d9 fH _ _)
def kg (dz:List Str):Option (List Str):=
  if(([]:List Str).length+dz.length)*16<=1099511627776 then some (([]:List Str)++dz)else none
theorem zK {dz:List Str} {c0:Ck} {r:List Str} (h:kg dz=some r):aF Tryz.prog 52 [(.aA (dz.map aI) c0)] (.aA (r.map aI) .unk):=by
  refine aF.lw (.aA .nil) (aF.aQ (bf.mem (.cons (aU bg _) .nil)) (aG R9 (by simp) (aD ?_)) (aU bg _));unfold kg at h;unfold R8;obtain⟨e5,h⟩:=aP h;try refine ah ?_
  refine gu (f:=aI) jg ([]:List Str) (dz:List Str) .exact .unk av av fG (by first|exact e5|(simp only [List.length_cons,List.length_nil];exact e5)) (fun c1 H2 YM le ob6 rl4=> ?_);have hf7:HF [] _ H2:=⟨le,fun i _ _=>ob6 i⟩;try simp only [AH.aK,AH.aL,AH.aM,AH.aN]at le
  obtain rfl:=ak h;try refine ah ?_
  exact(d9 bg _ _)
def mM:Nat->(List Nd)->(List Nd)->Int->Option (List Nd)
  |0,_,_,_=>none
  |k+1,aH,gN,gD=>
    cond (decide (gD<(aH.length:Int))) (if 0<=gD then Option.bind (aH[gD.toNat]?) fun x3=>Option.bind (kg x3.names) fun p6=>Option.bind (Co x3.args) fun p8=>if(gN.length+1)*80<=1099511627776 then mM k aH (gN++[(Nd.mk x3.kind x3.n x3.text p6 p8)]) (IntKind.wrap .i64 (gD+1))else none else none) (some (gN))
def JD:List Nat:=List.range' 3 25
theorem Uc: ∀(k:Nat) (aH:List Nd) (gN:List Nd) (gD:Int) (jB:Ck) (aC σ:Nat->PV) (H0 H:AH) (f0:Fr JD aC σ) (hf0:HF [] H0 H) (sl:σ 0=(.aA (aH.map Nd.cells) .unk)/\σ 3=(.aA (gN.map Nd.cells) jB)/\σ 4=(.int .i64 gD)) (YN:bn H jB) (o:List Nd) (h:mM k aH gN gD=some o) (Q:Post) (q0: ∀(p:List Nd) (c0:Ck) (σ':Nat->PV) (H':AH),o=p->Fr JD aC σ'->HF [] H0 H'->(σ' 3=(.aA (p.map Nd.cells) c0))->Q (.exit 0) σ' H'),W Tryz.prog (.loop RF) Q σ H:=by
  intro k
  induction k with
  |zero=>intro aH gN gD jB aC σ H0 H f0 hf0 sl YN o h Q q0;simp only [mM,reduceCtorEq]at h
  |succ k ih=>
    intro aH gN gD jB aC σ H0 H f0 hf0 sl YN o h Q q0;obtain⟨s0,s3,s4⟩:=sl;have hle0:=hf0.1;unfold mM at h;refine aT (fun K hK=>aD ?_);unfold RF;rcases au h with⟨e1,h⟩|⟨e1,h⟩
    ·obtain⟨e2,h⟩:=aP h;obtain⟨x3,e4,h⟩:=aj h;try refine ah ?_
     refine eO ?_;obtain⟨p6,e5,h⟩:=aj h;try refine ah ?_
     refine PC.mk (zK e5) ?_;obtain⟨p8,e7,h⟩:=aj h;try refine ah ?_
     refine PC.mk (aaY e7) ?_;obtain⟨e13,h⟩:=aP h;try refine ah ?_
     refine gu (f:=Nd.cells) Nd.row gN ([(Nd.mk x3.kind x3.n x3.text p6 p8)]:List Nd) jB .exact av av fG (by first|exact e13|(simp only [List.length_cons,List.length_nil];exact e13)) (fun c9 H10 aAv le avP aAw=> ?_);have KM:HF [] _ H10:=⟨le,fun i _ _=>avP i⟩;try simp only [AH.aK,AH.aL,AH.aM,AH.aN]at le
     have n16:=ne_next (show H.next<H10.next by first|omega|(simp only [AH.aK,AH.aL,AH.aM,AH.aN];omega));have m17:=aV (show H.next<H10.next by first|omega|(simp only [AH.aK,AH.aL,AH.aM,AH.aN];omega));try refine ah ?_
     refine hK _ _ ?_;exact ih aH (gN++[(Nd.mk x3.kind x3.n x3.text p6 p8)]) (IntKind.wrap .i64 (gD+1)) c9 _ _ _ _ aJ (by repeat (first|exact hf0|refine HF.new ?_|refine HF.fI ?_|refine HF.used ?_|refine HF.put (by first|(right;omega)|(left;simp only [List.mem_cons,true_or,or_true])) ?_|refine HF.via KM (by first|exact fun i hi=>absurd hi List.not_mem_nil|(intro i hi;simp only [List.mem_cons,List.not_mem_nil,or_false]at hi⊢;first|exact .inl hi|omega)) ?_)) av fG _ h _ q0
    ·obtain rfl:=ak h;try refine ah ?_
     exact q0 _ jB _ _ rfl aJ (by repeat (first|exact hf0|refine HF.new ?_|refine HF.fI ?_|refine HF.used ?_|refine HF.put (by first|(right;omega)|(left;simp only [List.mem_cons,true_or,or_true])) ?_)) av
def yI (k:Nat) (aH:List Nd):Option (List Nd):=
  Option.bind (mM k aH ([]:List Nd) 0) (fun q8=>some q8)
theorem M9 {k:Nat} {aH:List Nd} {c0:Ck} {r:List Nd} (h:yI k aH=some r):aF Tryz.prog 15 [(.aA (aH.map Nd.cells) c0)] (.aA (r.map Nd.cells) .unk):=by
  refine aF.lw (.aA .nil) (aF.aQ (bf.mem (.cons (aU Nd.pu _) .nil)) (aG auD (by simp) (aD ?_)) (aU Nd.pu _));unfold yI at h;unfold am0;try refine ah ?_
  obtain⟨o18,h19,h⟩:=aj h;refine Uc k aH ([]:List Nd) 0 .nil _ _ _ _ (Fr.refl _ _) (HF.refl _ _) av fG _ h19 _ ?_
  ·rintro q8 c24 σ' H23 eo aAx avQ s25;rw [eo]at h;have le:=avQ.1;try simp only [AH.aK,AH.aL,AH.aM,AH.aN]at le
   obtain rfl:=ak h;try refine ah ?_
   exact(d9 Nd.pu _ _)
end Go.VL
end
section
set_option maxRecDepth 8000
set_option maxHeartbeats 4000000
namespace Go.VL
open Go.Proofs
def gF (aY:Int) (P8:Int) (adr:Int):Option Bool:=
  cond (decide (P8<=aY)) (some (decide (aY<=adr))) (some false)
theorem gH {aY:Int} {P8:Int} {adr:Int} {r:Bool} (h:gF aY P8 adr=some r):aF Tryz.prog 69 [(.int .i64 aY),(.int .i64 P8),(.int .i64 adr)] (.bool r):=by
  refine aF.aQ (bf.mem (.cons (.int _ _) (.cons (.int _ _) (.cons (.int _ _) .nil)))) (aG au2 (by simp) (aD ?_)) (.bool _);unfold gF at h;unfold anS;rcases au h with⟨e1,h⟩|⟨e1,h⟩
  ·obtain rfl:=ak h;try refine ah ?_
   exact(.pure _ (.bool _))
  ·obtain rfl:=ak h;try refine ah ?_
   exact(.pure _ (.bool _))
def lY (IX:Bool) (P9:Int):Option Int:=
  cond IX (some P9) (some 0)
theorem lK {IX:Bool} {P9:Int} {r:Int} (h:lY IX P9=some r):aF Tryz.prog 47 [(.bool IX),(.int .i64 P9)] (.int .i64 r):=by
  refine aF.aQ (bf.mem (.cons (.bool _) (.cons (.int _ _) .nil))) (aG ahb (by simp) (aD ?_)) (.int _ _);unfold lY at h;unfold anw;rcases au h with⟨e1,h⟩|⟨e1,h⟩
  ·obtain rfl:=ak h;try refine ah ?_
   exact(.pure _ (.int _ _))
  ·obtain rfl:=ak h;try refine ah ?_
   exact(.pure _ (.int _ _))
def gZ:Nat->(List Int)->Int->Int->Option (Unit⊕Int)
  |0,_,_,_=>none
  |k+1,pJ,jM,gL=>
    cond (decide (gL<jM)) (if 0<=gL then Option.bind (pJ[gL.toNat]?) fun x3=>cond (x3 !=0) (some (.inr (x3))) (gZ k pJ jM (IntKind.wrap .i64 (gL+1)))else none) (some (.inl ()))
def vg:List Nat:=[2,5]++List.range' 8 9
theorem J3: ∀(k:Nat) (pJ:List Int) (jM:Int) (gL:Int) (aC σ:Nat->PV) (H:AH) (f0:Fr vg aC σ) (sl:σ 3=(.int .i64 0)/\σ 6=(.aA (pJ.map aX) .unk)/\σ 7=(.int .i64 jM)/\σ 8=(.int .i64 gL)) (o:Unit⊕Int) (h:gZ k pJ jM gL=some o) (Q:Post) (q0: ∀(p:Unit) (σ':Nat->PV),o= .inl p->Fr vg aC σ'->Q (.exit 0) σ' H) (q1: ∀(p:Int) (σ':Nat->PV),o= .inr (p)->Fr vg aC σ'->(σ' 2=(.int .i64 p))->Q .ret σ' H),W Tryz.prog (.loop RY) Q σ H:=by
  intro k
  induction k with
  |zero=>intro pJ jM gL aC σ H f0 sl o h Q q0 q1;simp only [gZ,reduceCtorEq]at h
  |succ k ih=>
    intro pJ jM gL aC σ H f0 sl o h Q q0 q1;obtain⟨s3,s6,s7,s8⟩:=sl;unfold gZ at h;refine aT (fun K hK=>aD ?_);unfold RY;rcases au h with⟨e1,h⟩|⟨e1,h⟩
    ·obtain⟨e2,h⟩:=aP h;obtain⟨x3,e4,h⟩:=aj h;rcases au h with⟨e5,h⟩|⟨e5,h⟩
     ·obtain rfl:=ak h;try refine ah ?_
      exact q1 _ _ rfl aJ av
     ·try refine ah ?_
      refine hK _ _ ?_;exact ih pJ jM (IntKind.wrap .i64 (gL+1)) _ _ _ aJ av _ h _ q0 q1
    ·obtain rfl:=ak h;try refine ah ?_
     exact q0 _ _ rfl aJ
def gG (k:Nat) (Er:List Int):Option Int:=
  Option.bind (gZ k Er (Er.length:Int) 0) (fun o=>Sum.elim (fun p8=>some 0) (fun rR=>some rR) o)
theorem kF {k:Nat} {Er:List Int} {c0:Ck} {r:Int} (h:gG k Er=some r):aF Tryz.prog 46 [(.aA (Er.map aX) c0)] (.int .i64 r):=by
  refine aF.lw (.aA .nil) (aF.aQ (bf.mem (.cons (aU fH _) .nil)) (aG auN (by simp) (aD ?_)) (.int _ _));unfold gG at h;unfold anv;try refine ah ?_
  obtain⟨o6,h7,h⟩:=aj h;refine J3 k Er (Er.length:Int) 0 _ _ _ (Fr.refl _ _) av _ h7 _ ?_ ?_
  ·rintro p8 σ' eo Hl;subst eo;rw [bL]at h;have s12:σ' 3=(.int .i64 0):=(Hl 3 (by decide)).trans av;obtain rfl:=ak h;try refine ah ?_
   exact(.pure _ (.int _ _))
  ·rintro rR σ' eo aoy tH;subst eo;rw [bP]at h;obtain rfl:=ak h;try refine ah ?_
   exact(.pure _ (.int _ _))
def q9 (o_0:Operator) (t_1:Str):Option Bool:=
  some (o_0.text==t_1)
theorem OC {o_0:Operator} {t_1:Str} {r:Bool} (h:q9 o_0 t_1=some r):aF Tryz.prog 112 [(.agg (Operator.cells o_0)),(.dX [(.str t_1)] 0)] (.bool r):=by
  refine aF.aQ (bf.mem (.cons (.agg _ (Operator.pu _)) (.cons (.dX _ _ (bf.mem (.cons (.str _) .nil))) .nil))) (aG arA (by simp) (aD ?_)) (.bool _);unfold q9 at h;unfold aiZ;obtain rfl:=ak h;try refine ah ?_
  exact(.pure _ (.bool _))
def aW:Nat->(List Operator)->Str->Int->Int->Option (Unit⊕Int)
  |0,_,_,_,_=>none
  |k+1,s_0,uH,jM,gL=>
    cond (decide (gL<jM)) (if 0<=gL then Option.bind (s_0[gL.toNat]?) fun x3=>Option.bind (q9 x3 uH) fun p6=>cond p6 (some (.inr (gL))) (aW k s_0 uH jM (IntKind.wrap .i64 (gL+1)))else none) (some (.inl ()))
def fV:List Nat:=[4,5]++List.range' 8 11
theorem oZ: ∀(k:Nat) (s_0:List Operator) (uH:Str) (jM:Int) (gL:Int) (aC σ:Nat->PV) (H:AH) (f0:Fr fV aC σ) (sl:σ 0=(.aA (s_0.map Operator.cells) .unk)/\σ 1=(.fn (.func 112) [] [(.dX [(.str uH)] 0)])/\σ 7=(.int .i64 jM)/\σ 8=(.int .i64 gL)) (o:Unit⊕Int) (h:aW k s_0 uH jM gL=some o) (Q:Post) (q0: ∀(p:Unit) (σ':Nat->PV),o= .inl p->Fr fV aC σ'->Q (.exit 0) σ' H) (q1: ∀(p:Int) (σ':Nat->PV),o= .inr (p)->Fr fV aC σ'->(σ' 4=(.int .i64 p))->Q .ret σ' H),W Tryz.prog (.loop NZ) Q σ H:=by
  intro k
  induction k with
  |zero=>intro s_0 uH jM gL aC σ H f0 sl o h Q q0 q1;simp only [aW,reduceCtorEq]at h
  |succ k ih=>
    intro s_0 uH jM gL aC σ H f0 sl o h Q q0 q1;obtain⟨s0,s1,s7,s8⟩:=sl;unfold aW at h;refine aT (fun K hK=>aD ?_);unfold NZ;rcases au h with⟨e1,h⟩|⟨e1,h⟩
    ·obtain⟨e2,h⟩:=aP h;obtain⟨x3,e4,h⟩:=aj h;obtain⟨p6,e5,h⟩:=aj h;try refine ah ?_
     refine aB (OC e5) ?_;rcases au h with⟨e7,h⟩|⟨e7,h⟩
     ·obtain rfl:=ak h;try refine ah ?_
      exact q1 _ _ rfl aJ av
     ·try refine ah ?_
      refine hK _ _ ?_;exact ih s_0 uH jM (IntKind.wrap .i64 (gL+1)) _ _ _ aJ av _ h _ q0 q1
    ·obtain rfl:=ak h;try refine ah ?_
     exact q0 _ _ rfl aJ
def eT (k:Nat) (s_0:List Operator) (uH:Str):Option Int:=
  Option.bind (aW k s_0 uH (s_0.length:Int) 0) (fun o=>Sum.elim (fun iN=>some (-1)) (fun kD=>some kD) o)
theorem ql {k:Nat} {s_0:List Operator} {uH:Str} {c0:Ck} {r:Int} (h:eT k s_0 uH=some r):aF Tryz.prog 111 [(.aA (s_0.map Operator.cells) c0),(.fn (.func 112) [] [(.dX [(.str uH)] 0)])] (.int .i64 r):=by
  refine aF.lw (.aA (.same .nil)) (aF.aQ (bf.mem (.cons (aU Operator.pu _) (.cons (.fn _ _ _ (bf.mem .nil) (bf.mem (.cons (.dX _ _ (bf.mem (.cons (.str _) .nil))) .nil))) .nil))) (aG arz (by simp) (aD ?_)) (.int _ _));unfold eT at h;unfold aiY;try refine ah ?_
  obtain⟨o8,h9,h⟩:=aj h;refine oZ k s_0 uH (s_0.length:Int) 0 _ _ _ (Fr.refl _ _) av _ h9 _ ?_ ?_
  ·rintro iN σ' eo Ky;subst eo;rw [bL]at h;obtain rfl:=ak h;try refine ah ?_
   exact(.pure _ (.int _ _))
  ·rintro kD σ' eo yg jw;subst eo;rw [bP]at h;obtain rfl:=ak h;try refine ah ?_
   exact(.pure _ (.int _ _))
def Dl (wN:Int):Option Bool:=
  Option.bind (gF (IntKind.wrap .i64 wN) 32 126) fun p2=>cond p2 (cond (wN==34) (some true) (some (wN==92))) (some true)
theorem YO {wN:Int} {r:Bool} (h:Dl wN=some r):aF Tryz.prog 142 [(.int .i32 wN)] (.bool r):=by
  refine aF.aQ (bf.mem (.cons (.int _ _) .nil)) (aG arW (by simp) (aD ?_)) (.bool _);unfold Dl at h;unfold ajo;obtain⟨p2,e1,h⟩:=aj h;try refine ah ?_
  refine aB (gH e1) ?_;rcases au h with⟨e3,h⟩|⟨e3,h⟩
  ·rcases au h with⟨e4,h⟩|⟨e4,h⟩
   ·obtain rfl:=ak h;try refine ah ?_
    exact(.pure _ (.bool _))
   ·obtain rfl:=ak h;try refine ah ?_
    exact(.pure _ (.bool _))
  ·obtain rfl:=ak h;try refine ah ?_
   exact(.pure _ (.bool _))
def dB:Nat->(List Str)->Str->Int->Int->Option (Unit⊕Int)
  |0,_,_,_,_=>none
  |k+1,s_0,v_1,jM,gL=>
    cond (decide (gL<jM)) (if 0<=gL then Option.bind (s_0[gL.toNat]?) fun x3=>cond (v_1==x3) (some (.inr (gL))) (dB k s_0 v_1 jM (IntKind.wrap .i64 (gL+1)))else none) (some (.inl ()))
def nP:List Nat:=[4,5]++List.range' 8 11
theorem CS: ∀(k:Nat) (s_0:List Str) (v_1:Str) (jM:Int) (gL:Int) (aC σ:Nat->PV) (H:AH) (f0:Fr nP aC σ) (sl:σ 0=(.aA (s_0.map aI) .unk)/\σ 1=(.str v_1)/\σ 7=(.int .i64 jM)/\σ 8=(.int .i64 gL)) (o:Unit⊕Int) (h:dB k s_0 v_1 jM gL=some o) (Q:Post) (q0: ∀(p:Unit) (σ':Nat->PV),o= .inl p->Fr nP aC σ'->Q (.exit 0) σ' H) (q1: ∀(p:Int) (σ':Nat->PV),o= .inr (p)->Fr nP aC σ'->(σ' 4=(.int .i64 p))->Q .ret σ' H),W Tryz.prog (.loop Oc) Q σ H:=by
  intro k
  induction k with
  |zero=>intro s_0 v_1 jM gL aC σ H f0 sl o h Q q0 q1;simp only [dB,reduceCtorEq]at h
  |succ k ih=>
    intro s_0 v_1 jM gL aC σ H f0 sl o h Q q0 q1;obtain⟨s0,s1,s7,s8⟩:=sl;unfold dB at h;refine aT (fun K hK=>aD ?_);unfold Oc;rcases au h with⟨e1,h⟩|⟨e1,h⟩
    ·obtain⟨e2,h⟩:=aP h;obtain⟨x3,e4,h⟩:=aj h;rcases au h with⟨e5,h⟩|⟨e5,h⟩
     ·obtain rfl:=ak h;try refine ah ?_
      exact q1 _ _ rfl aJ av
     ·try refine ah ?_
      refine hK _ _ ?_;exact ih s_0 v_1 jM (IntKind.wrap .i64 (gL+1)) _ _ _ aJ av _ h _ q0 q1
    ·obtain rfl:=ak h;try refine ah ?_
     exact q0 _ _ rfl aJ
def kK (k:Nat) (s_0:List Str) (v_1:Str):Option Int:=
  Option.bind (dB k s_0 v_1 (s_0.length:Int) 0) (fun o=>Sum.elim (fun p8=>some (-1)) (fun lT=>some lT) o)
theorem Fq {k:Nat} {s_0:List Str} {v_1:Str} {c0:Ck} {r:Int} (h:kK k s_0 v_1=some r):aF Tryz.prog 130 [(.aA (s_0.map aI) c0),(.str v_1)] (.int .i64 r):=by
  refine aF.lw (.aA (.same .nil)) (aF.aQ (bf.mem (.cons (aU bg _) (.cons (.str _) .nil))) (aG arL (by simp) (aD ?_)) (.int _ _));unfold kK at h;unfold aje;try refine ah ?_
  obtain⟨o6,h7,h⟩:=aj h;refine CS k s_0 v_1 (s_0.length:Int) 0 _ _ _ (Fr.refl _ _) av _ h7 _ ?_ ?_
  ·rintro p8 σ' eo Hl;subst eo;rw [bL]at h;obtain rfl:=ak h;try refine ah ?_
   exact(.pure _ (.int _ _))
  ·rintro lT σ' eo IY s16;subst eo;rw [bP]at h;obtain rfl:=ak h;try refine ah ?_
   exact(.pure _ (.int _ _))
def bX (k:Nat) (s_0:List Str) (v_1:Str):Option Bool:=
  Option.bind (kK k s_0 v_1) fun p2=>some (decide (p2>=0))
theorem kr {k:Nat} {s_0:List Str} {v_1:Str} {c0:Ck} {r:Bool} (h:bX k s_0 v_1=some r):aF Tryz.prog 81 [(.aA (s_0.map aI) c0),(.str v_1)] (.bool r):=by
  refine aF.lw (.aA (.same .nil)) (aF.aQ (bf.mem (.cons (aU bg _) (.cons (.str _) .nil))) (aG au8 (by simp) (aD ?_)) (.bool _));unfold bX at h;unfold an0;obtain⟨p2,e1,h⟩:=aj h;try refine ah ?_
  refine aB (Fq e1) ?_;obtain rfl:=ak h;try refine ah ?_
  exact(.pure _ (.bool _))
def uI (s_0:Str) (ny:Str):Option Bool:=
  cond (decide ((s_0.length:Int)>=(ny.length:Int))) (if ny.length<=s_0.length then some ((s_0.take ny.length)==ny)else none) (some false)
theorem Mx {s_0:Str} {ny:Str} {r:Bool} (h:uI s_0 ny=some r):aF Tryz.prog 179 [(.str s_0),(.str ny)] (.bool r):=by
  refine aF.aQ (bf.mem (.cons (.str _) (.cons (.str _) .nil))) (aG ar5 (by simp) (aD ?_)) (.bool _);unfold uI at h;unfold ajz;rcases au h with⟨e1,h⟩|⟨e1,h⟩
  ·obtain⟨e2,h⟩:=aP h;obtain rfl:=ak h;try refine ah ?_
   exact(.pure _ (.bool _))
  ·obtain rfl:=ak h;try refine ah ?_
   exact(.pure _ (.bool _))
def lu (s_0:Str) (ny:Str):Option Bool:=
  Option.bind (uI s_0 ny) fun p2=>some p2
theorem C9 {s_0:Str} {ny:Str} {r:Bool} (h:lu s_0 ny=some r):aF Tryz.prog 125 [(.str s_0),(.str ny)] (.bool r):=by
  refine aF.aQ (bf.mem (.cons (.str _) (.cons (.str _) .nil))) (aG arH (by simp) (aD ?_)) (.bool _);unfold lu at h;unfold aja;obtain⟨p2,e1,h⟩:=aj h;try refine ah ?_
  refine aB (Mx e1) ?_;obtain rfl:=ak h;try refine ah ?_
  exact(.pure _ (.bool _))
def Cq (s_0:Str):Option Bool:=
  cond (s_0==([84,82,85,69]:Str)) (some true) (cond (s_0==([70,65,76,83,69]:Str)) (some true) (cond (s_0==([66,79,79,76,69,65,78]:Str)) (some true) (some (s_0==([83,84,82,73,78,71]:Str)))))
theorem Na {s_0:Str} {r:Bool} (h:Cq s_0=some r):aF Tryz.prog 129 [(.str s_0)] (.bool r):=by
  refine aF.aQ (bf.mem (.cons (.str _) .nil)) (aG arK (by simp) (aD ?_)) (.bool _);unfold Cq at h;unfold ajd;rcases au h with⟨e1,h⟩|⟨e1,h⟩
  ·obtain rfl:=ak h;try refine ah ?_
   exact(.pure _ (.bool _))
  ·rcases au h with⟨e2,h⟩|⟨e2,h⟩
   ·obtain rfl:=ak h;try refine ah ?_
    exact(.pure _ (.bool _))
   ·rcases au h with⟨e3,h⟩|⟨e3,h⟩
    ·obtain rfl:=ak h;try refine ah ?_
     exact(.pure _ (.bool _))
    ·obtain rfl:=ak h;try refine ah ?_
     exact(.pure _ (.bool _))
def Mg (aH:List Nd) (dA:Int) (qM:List Int):Option Int:=
  if 0<=dA then Option.bind (aH[dA.toNat]?) fun x2=>cond ((x2.args.length:Int)==0) (some dA) (Option.bind (x2.args[0]?) fun x5=>if 0<=x5 then Option.bind (qM[x5.toNat]?) fun x8=>some x8 else none)else none
theorem afh {aH:List Nd} {dA:Int} {qM:List Int} {c0 c2:Ck} {r:Int} (h:Mg aH dA qM=some r):aF Tryz.prog 49 [(.aA (aH.map Nd.cells) c0),(.int .i64 dA),(.aA (qM.map aX) c2)] (.int .i64 r):=by
  refine aF.lw (.aA (.same (.aA .nil))) (aF.aQ (bf.mem (.cons (aU Nd.pu _) (.cons (.int _ _) (.cons (aU fH _) .nil)))) (aG auP (by simp) (aD ?_)) (.int _ _));unfold Mg at h;unfold anz;obtain⟨e1,h⟩:=aP h;obtain⟨x2,e3,h⟩:=aj h;rcases au h with⟨e4,h⟩|⟨e4,h⟩
  ·obtain rfl:=ak h;try refine ah ?_
   exact(.pure _ (.int _ _))
  ·obtain⟨x5,e6,h⟩:=aj h;obtain⟨e7,h⟩:=aP h;obtain⟨x8,e9,h⟩:=aj h;obtain rfl:=ak h;try refine ah ?_
   exact(.pure _ (.int _ _))
def tY (Hz:Int) (bF:Int):Option Shape:=
  some (Shape.mk (Hz,Hz) (bF,bF) false false)
theorem CU {Hz:Int} {bF:Int} {r:Shape} (h:tY Hz bF=some r):aF Tryz.prog 140 [(.int .i64 Hz),(.int .i64 bF)] (.agg (Shape.cells r)):=by
  refine aF.aQ (bf.mem (.cons (.int _ _) (.cons (.int _ _) .nil))) (aG arV (by simp) (aD ?_)) (.agg _ (Shape.pu _));unfold tY at h;unfold ajn;obtain rfl:=ak h;try refine ah ?_
  exact(dH (.cons (.pure _ (.int _ _)) (.cons (.pure _ (.int _ _)) (.cons (.pure _ (.int _ _)) (.cons (.pure _ (.int _ _)) (.cons (.pure _ (.bool _)) (.cons (.pure _ (.bool _)) .nil)))))))
def mO:Nat->(List Int)->Int->Int->Int->Option (Unit⊕Int)
  |0,_,_,_,_=>none
  |k+1,s_0,v_1,jM,gL=>
    cond (decide (gL<jM)) (if 0<=gL then Option.bind (s_0[gL.toNat]?) fun x3=>cond (v_1==x3) (some (.inr (gL))) (mO k s_0 v_1 jM (IntKind.wrap .i64 (gL+1)))else none) (some (.inl ()))
def um:List Nat:=[4,5]++List.range' 8 11
theorem I6: ∀(k:Nat) (s_0:List Int) (v_1:Int) (jM:Int) (gL:Int) (aC σ:Nat->PV) (H:AH) (f0:Fr um aC σ) (sl:σ 0=(.aA (s_0.map aX) .unk)/\σ 1=(.int .i64 v_1)/\σ 7=(.int .i64 jM)/\σ 8=(.int .i64 gL)) (o:Unit⊕Int) (h:mO k s_0 v_1 jM gL=some o) (Q:Post) (q0: ∀(p:Unit) (σ':Nat->PV),o= .inl p->Fr um aC σ'->Q (.exit 0) σ' H) (q1: ∀(p:Int) (σ':Nat->PV),o= .inr (p)->Fr um aC σ'->(σ' 4=(.int .i64 p))->Q .ret σ' H),W Tryz.prog (.loop Ox) Q σ H:=by
  intro k
  induction k with
  |zero=>intro s_0 v_1 jM gL aC σ H f0 sl o h Q q0 q1;simp only [mO,reduceCtorEq]at h
  |succ k ih=>
    intro s_0 v_1 jM gL aC σ H f0 sl o h Q q0 q1;obtain⟨s0,s1,s7,s8⟩:=sl;unfold mO at h;refine aT (fun K hK=>aD ?_);unfold Ox;rcases au h with⟨e1,h⟩|⟨e1,h⟩
    ·obtain⟨e2,h⟩:=aP h;obtain⟨x3,e4,h⟩:=aj h;rcases au h with⟨e5,h⟩|⟨e5,h⟩
     ·obtain rfl:=ak h;try refine ah ?_
      exact q1 _ _ rfl aJ av
     ·try refine ah ?_
      refine hK _ _ ?_;exact ih s_0 v_1 jM (IntKind.wrap .i64 (gL+1)) _ _ _ aJ av _ h _ q0 q1
    ·obtain rfl:=ak h;try refine ah ?_
     exact q0 _ _ rfl aJ
def zL (k:Nat) (s_0:List Int) (v_1:Int):Option Int:=
  Option.bind (mO k s_0 v_1 (s_0.length:Int) 0) (fun o=>Sum.elim (fun p8=>some (-1)) (fun lT=>some lT) o)
theorem MB {k:Nat} {s_0:List Int} {v_1:Int} {c0:Ck} {r:Int} (h:zL k s_0 v_1=some r):aF Tryz.prog 190 [(.aA (s_0.map aX) c0),(.int .i64 v_1)] (.int .i64 r):=by
  refine aF.lw (.aA (.same .nil)) (aF.aQ (bf.mem (.cons (aU fH _) (.cons (.int _ _) .nil))) (aG ase (by simp) (aD ?_)) (.int _ _));unfold zL at h;unfold ajH;try refine ah ?_
  obtain⟨o6,h7,h⟩:=aj h;refine I6 k s_0 v_1 (s_0.length:Int) 0 _ _ _ (Fr.refl _ _) av _ h7 _ ?_ ?_
  ·rintro p8 σ' eo Hl;subst eo;rw [bL]at h;obtain rfl:=ak h;try refine ah ?_
   exact(.pure _ (.int _ _))
  ·rintro lT σ' eo IY s16;subst eo;rw [bP]at h;obtain rfl:=ak h;try refine ah ?_
   exact(.pure _ (.int _ _))
def vk (k:Nat) (s_0:List Int) (v_1:Int):Option Bool:=
  Option.bind (zL k s_0 v_1) fun p2=>some (decide (p2>=0))
theorem I7 {k:Nat} {s_0:List Int} {v_1:Int} {c0:Ck} {r:Bool} (h:vk k s_0 v_1=some r):aF Tryz.prog 149 [(.aA (s_0.map aX) c0),(.int .i64 v_1)] (.bool r):=by
  refine aF.lw (.aA (.same .nil)) (aF.aQ (bf.mem (.cons (aU fH _) (.cons (.int _ _) .nil))) (aG ar2 (by simp) (aD ?_)) (.bool _));unfold vk at h;unfold aju;obtain⟨p2,e1,h⟩:=aj h;try refine ah ?_
  refine aB (MB e1) ?_;obtain rfl:=ak h;try refine ah ?_
  exact(.pure _ (.bool _))
def OD (k:Nat) (dI:Int):Option Bool:=
  Option.bind (vk k [8,9,10,11,12,21,22,23,24] dI) fun p2=>some p2
theorem ads {k:Nat} {dI:Int} {r:Bool} (h:OD k dI=some r):aF Tryz.prog 98 [(.int .i64 dI)] (.bool r):=by
  refine aF.aQ (bf.mem (.cons (.int _ _) .nil)) (aG avm (by simp) (aD ?_)) (.bool _);unfold OD at h;unfold aog;obtain⟨p2,e1,h⟩:=aj h;try refine ah ?_
  refine aB (I7 e1) ?_;obtain rfl:=ak h;try refine ah ?_
  exact(.pure _ (.bool _))
def jf:Nat->(List Str)->(List Str)->Int->Option (Unit⊕Bool)
  |0,_,_,_=>none
  |k+1,a_0,b_1,dR=>
    cond (decide (dR<(a_0.length:Int))) (if 0<=dR then Option.bind (a_0[dR.toNat]?) fun x4=>Option.bind (b_1[dR.toNat]?) fun x6=>cond (x4==x6) (jf k a_0 b_1 (IntKind.wrap .i64 (dR+1))) (some (.inr (false)))else none) (some (.inl ()))
def yh:List Nat:=[4,5]++List.range' 11 15
theorem ME: ∀(k:Nat) (a_0:List Str) (b_1:List Str) (dR:Int) (aC σ:Nat->PV) (H:AH) (f0:Fr yh aC σ) (sl:σ 0=(.aA (a_0.map aI) .unk)/\σ 1=(.aA (b_1.map aI) .unk)/\σ 5=(.int .i64 dR)) (o:Unit⊕Bool) (h:jf k a_0 b_1 dR=some o) (Q:Post) (q0: ∀(p:Unit) (σ':Nat->PV),o= .inl p->Fr yh aC σ'->Q (.exit 0) σ' H) (q1: ∀(p:Bool) (σ':Nat->PV),o= .inr (p)->Fr yh aC σ'->(σ' 4=(.bool p))->Q .ret σ' H),W Tryz.prog (.loop RQ) Q σ H:=by
  intro k
  induction k with
  |zero=>intro a_0 b_1 dR aC σ H f0 sl o h Q q0 q1;simp only [jf,reduceCtorEq]at h
  |succ k ih=>
    intro a_0 b_1 dR aC σ H f0 sl o h Q q0 q1;obtain⟨s0,s1,s5⟩:=sl;unfold jf at h;refine aT (fun K hK=>aD ?_);unfold RQ;rcases au h with⟨e2,h⟩|⟨e2,h⟩
    ·try refine ah ?_
     refine eO ?_;obtain⟨e3,h⟩:=aP h;obtain⟨x4,e5,h⟩:=aj h;obtain⟨x6,e7,h⟩:=aj h;rcases au h with⟨e8,h⟩|⟨e8,h⟩
     ·try refine ah ?_
      refine hK _ _ ?_;exact ih a_0 b_1 (IntKind.wrap .i64 (dR+1)) _ _ _ aJ av _ h _ q0 q1
     ·obtain rfl:=ak h;try refine ah ?_
      exact q1 _ _ rfl aJ av
    ·obtain rfl:=ak h;try refine ah ?_
     exact q0 _ _ rfl aJ
def ru (k:Nat) (a_0:List Str) (b_1:List Str):Option Bool:=
  cond ((a_0.length:Int) !=(b_1.length:Int)) (some false) (Option.bind (jf k a_0 b_1 0) (fun o=>Sum.elim (fun l6=>some true) (fun zm=>some zm) o))
theorem HV {k:Nat} {a_0:List Str} {b_1:List Str} {c0 c1:Ck} {r:Bool} (h:ru k a_0 b_1=some r):aF Tryz.prog 29 [(.aA (a_0.map aI) c0),(.aA (b_1.map aI) c1)] (.bool r):=by
  refine aF.lw (.aA (.aA .nil)) (aF.aQ (bf.mem (.cons (aU bg _) (.cons (aU bg _) .nil))) (aG auH (by simp) (aD ?_)) (.bool _));unfold ru at h;unfold ang;rcases au h with⟨e1,h⟩|⟨e1,h⟩
  ·obtain rfl:=ak h;try refine ah ?_
   exact(.pure _ (.bool _))
  ·try refine ah ?_
   obtain⟨o9,h10,h⟩:=aj h;refine ME k a_0 b_1 0 _ _ _ (Fr.refl _ _) av _ h10 _ ?_ ?_
   ·rintro l6 σ' eo oU;subst eo;rw [bL]at h;obtain rfl:=ak h;try refine ah ?_
    exact(.pure _ (.bool _))
   ·rintro zm σ' eo TJ oW;subst eo;rw [bP]at h;obtain rfl:=ak h;try refine ah ?_
    exact(.pure _ (.bool _))
def Qa (aY:Int):Option Int:=
  cond (decide (aY<0)) (some (IntKind.wrap .i64 (0 -aY))) (some aY)
theorem alp {aY:Int} {r:Int} (h:Qa aY=some r):aF Tryz.prog 160 [(.int .i64 aY)] (.int .i64 r):=by
  refine aF.aQ (bf.mem (.cons (.int _ _) .nil)) (aG ar4 (by simp) (aD ?_)) (.int _ _);unfold Qa at h;unfold ajy;rcases au h with⟨e1,h⟩|⟨e1,h⟩
  ·obtain rfl:=ak h;try refine ah ?_
   exact(.pure _ (.int _ _))
  ·obtain rfl:=ak h;try refine ah ?_
   exact(.pure _ (.int _ _))
def vo:Nat->Int->Str->Option Str
  |0,_,_=>none
  |k+1,aY,Qb=>
    Option.bind (Qa (aY.tmod 10)) fun p2=>if 0<=p2/\p2<=(IntKind.wrap .i64 (p2+1))/\(IntKind.wrap .i64 (p2+1)).toNat<=10 then if((([48,49,50,51,52,53,54,55,56,57]:Str).take (IntKind.wrap .i64 (p2+1)).toNat).drop p2.toNat).length+Qb.length<=4611686018427387904 then cond ((IntKind.wrap .i64 (aY.tdiv 10))==0) (some ((((([48,49,50,51,52,53,54,55,56,57]:Str).take (IntKind.wrap .i64 (p2+1)).toNat).drop p2.toNat)++Qb))) (vo k (IntKind.wrap .i64 (aY.tdiv 10)) (((([48,49,50,51,52,53,54,55,56,57]:Str).take (IntKind.wrap .i64 (p2+1)).toNat).drop p2.toNat)++Qb))else none else none
def Qc:List Nat:=[0,3,5]++List.range' 8 13
theorem aaZ: ∀(k:Nat) (aY:Int) (Qb:Str) (aC σ:Nat->PV) (H:AH) (f0:Fr Qc aC σ) (sl:σ 0=(.int .i64 aY)/\σ 3=(.str Qb)) (o:Str) (h:vo k aY Qb=some o) (Q:Post) (q0: ∀(p:Str) (σ':Nat->PV),o=p->Fr Qc aC σ'->(σ' 3=(.str p))->Q (.exit 0) σ' H),W Tryz.prog (.loop NW) Q σ H:=by
  intro k
  induction k with
  |zero=>intro aY Qb aC σ H f0 sl o h Q q0;simp only [vo,reduceCtorEq]at h
  |succ k ih=>
    intro aY Qb aC σ H f0 sl o h Q q0;obtain⟨s0,s3⟩:=sl;unfold vo at h;refine aT (fun K hK=>aD ?_);unfold NW;obtain⟨p2,e1,h⟩:=aj h;try refine ah ?_
    refine aB (alp e1) ?_;obtain⟨e3,h⟩:=aP h;obtain⟨e4,h⟩:=aP h;try refine ah ?_
    refine dx (dG e4) ?_;rcases au h with⟨e5,h⟩|⟨e5,h⟩
    ·obtain rfl:=ak h;try refine ah ?_
     exact q0 _ _ rfl aJ av
    ·try refine ah ?_
     refine hK _ _ ?_;exact ih (IntKind.wrap .i64 (aY.tdiv 10)) (((([48,49,50,51,52,53,54,55,56,57]:Str).take (IntKind.wrap .i64 (p2+1)).toNat).drop p2.toNat)++Qb) _ _ _ aJ av _ h _ q0
def Es (k:Nat) (aY:Int):Option Str:=
  Option.bind (vo k aY ([]:Str)) (fun p8=>cond (decide (aY<0)) (if([45]:Str).length+p8.length<=4611686018427387904 then some (45::p8)else none) (some p8))
theorem ahz {k:Nat} {aY:Int} {r:Str} (h:Es k aY=some r):aF Tryz.prog 103 [(.int .i64 aY)] (.str r):=by
  refine aF.aQ (bf.mem (.cons (.int _ _) .nil)) (aG arx (by simp) (aD ?_)) (.str _);unfold Es at h;unfold aiV;try refine ah ?_
  obtain⟨o6,h7,h⟩:=aj h;refine aaZ k aY ([]:Str) _ _ _ (Fr.refl _ _) av _ h7 _ ?_
  ·rintro p8 σ' eo Hl s12;rw [eo]at h;have s13:σ' 4=(.bool (decide (aY<0))):=(Hl 4 (by decide)).trans av;rcases au h with⟨e14,h⟩|⟨e14,h⟩
   ·obtain⟨e15,h⟩:=aP h;try refine ah ?_
    refine dx (dG e15) ?_;obtain rfl:=ak h;try refine ah ?_
    exact(.pure _ (.str _))
   ·obtain rfl:=ak h;try refine ah ?_
    exact(.pure _ (.str _))
def jC:Nat->(List Int)->(List Int)->Int->Option (Unit⊕Bool)
  |0,_,_,_=>none
  |k+1,a_0,b_1,dR=>
    cond (decide (dR<(a_0.length:Int))) (if 0<=dR then Option.bind (a_0[dR.toNat]?) fun x4=>Option.bind (b_1[dR.toNat]?) fun x6=>cond (x4 !=x6) (some (.inr (false))) (jC k a_0 b_1 (IntKind.wrap .i64 (dR+1)))else none) (some (.inl ()))
def zM:List Nat:=[4,5]++List.range' 11 15
theorem OE: ∀(k:Nat) (a_0:List Int) (b_1:List Int) (dR:Int) (aC σ:Nat->PV) (H:AH) (f0:Fr zM aC σ) (sl:σ 0=(.aA (a_0.map aX) .unk)/\σ 1=(.aA (b_1.map aX) .unk)/\σ 5=(.int .i64 dR)) (o:Unit⊕Bool) (h:jC k a_0 b_1 dR=some o) (Q:Post) (q0: ∀(p:Unit) (σ':Nat->PV),o= .inl p->Fr zM aC σ'->Q (.exit 0) σ' H) (q1: ∀(p:Bool) (σ':Nat->PV),o= .inr (p)->Fr zM aC σ'->(σ' 4=(.bool p))->Q .ret σ' H),W Tryz.prog (.loop NY) Q σ H:=by
  intro k
  induction k with
  |zero=>intro a_0 b_1 dR aC σ H f0 sl o h Q q0 q1;simp only [jC,reduceCtorEq]at h
  |succ k ih=>
    intro a_0 b_1 dR aC σ H f0 sl o h Q q0 q1;obtain⟨s0,s1,s5⟩:=sl;unfold jC at h;refine aT (fun K hK=>aD ?_);unfold NY;rcases au h with⟨e2,h⟩|⟨e2,h⟩
    ·try refine ah ?_
     refine eO ?_;obtain⟨e3,h⟩:=aP h;obtain⟨x4,e5,h⟩:=aj h;obtain⟨x6,e7,h⟩:=aj h;rcases au h with⟨e8,h⟩|⟨e8,h⟩
     ·obtain rfl:=ak h;try refine ah ?_
      exact q1 _ _ rfl aJ av
     ·try refine ah ?_
      refine hK _ _ ?_;exact ih a_0 b_1 (IntKind.wrap .i64 (dR+1)) _ _ _ aJ av _ h _ q0 q1
    ·obtain rfl:=ak h;try refine ah ?_
     exact q0 _ _ rfl aJ
def xg (k:Nat) (a_0:List Int) (b_1:List Int):Option Bool:=
  cond ((a_0.length:Int) !=(b_1.length:Int)) (some false) (Option.bind (jC k a_0 b_1 0) (fun o=>Sum.elim (fun l6=>some true) (fun zm=>some zm) o))
theorem Wu {k:Nat} {a_0:List Int} {b_1:List Int} {c0 c1:Ck} {r:Bool} (h:xg k a_0 b_1=some r):aF Tryz.prog 110 [(.aA (a_0.map aX) c0),(.aA (b_1.map aX) c1)] (.bool r):=by
  refine aF.lw (.aA (.aA .nil)) (aF.aQ (bf.mem (.cons (aU fH _) (.cons (aU fH _) .nil))) (aG aiX (by simp) (aD ?_)) (.bool _));unfold xg at h;unfold aiW;rcases au h with⟨e1,h⟩|⟨e1,h⟩
  ·obtain rfl:=ak h;try refine ah ?_
   exact(.pure _ (.bool _))
  ·try refine ah ?_
   obtain⟨o9,h10,h⟩:=aj h;refine OE k a_0 b_1 0 _ _ _ (Fr.refl _ _) av _ h10 _ ?_ ?_
   ·rintro l6 σ' eo oU;subst eo;rw [bL]at h;obtain rfl:=ak h;try refine ah ?_
    exact(.pure _ (.bool _))
   ·rintro zm σ' eo TJ oW;subst eo;rw [bP]at h;obtain rfl:=ak h;try refine ah ?_
    exact(.pure _ (.bool _))
def zN (k:Nat) (a_0:Nd) (b_1:Nd):Option Bool:=
  cond (a_0.kind==b_1.kind) (cond (a_0.n==b_1.n) (cond (a_0.text==b_1.text) (Option.bind (ru k a_0.names b_1.names) fun p5=>cond p5 (Option.bind (xg k a_0.args b_1.args) fun p8=>some p8) (some false)) (some false)) (some false)) (some false)
theorem YP {k:Nat} {a_0:Nd} {b_1:Nd} {r:Bool} (h:zN k a_0 b_1=some r):aF Tryz.prog 61 [(.agg (Nd.cells a_0)),(.agg (Nd.cells b_1))] (.bool r):=by
  refine aF.aQ (bf.mem (.cons (.agg _ (Nd.pu _)) (.cons (.agg _ (Nd.pu _)) .nil))) (aG anL (by simp) (aD ?_)) (.bool _);unfold zN at h;unfold anK;rcases au h with⟨e1,h⟩|⟨e1,h⟩
  ·rcases au h with⟨e2,h⟩|⟨e2,h⟩
   ·rcases au h with⟨e3,h⟩|⟨e3,h⟩
    ·obtain⟨p5,e4,h⟩:=aj h;try refine ah ?_
     refine aB (HV e4) ?_;rcases au h with⟨e6,h⟩|⟨e6,h⟩
     ·obtain⟨p8,e7,h⟩:=aj h;try refine ah ?_
      refine aB (Wu e7) ?_;obtain rfl:=ak h;try refine ah ?_
      exact(.pure _ (.bool _))
     ·obtain rfl:=ak h;try refine ah ?_
      exact(.pure _ (.bool _))
    ·obtain rfl:=ak h;try refine ah ?_
     exact(.pure _ (.bool _))
   ·obtain rfl:=ak h;try refine ah ?_
    exact(.pure _ (.bool _))
  ·obtain rfl:=ak h;try refine ah ?_
   exact(.pure _ (.bool _))
def ku:Nat->(List Nd)->(List Nd)->Int->Option (Unit⊕Bool)
  |0,_,_,_=>none
  |k+1,a_0,b_1,dR=>
    cond (decide (dR<(a_0.length:Int))) (if 0<=dR then Option.bind (a_0[dR.toNat]?) fun x4=>Option.bind (b_1[dR.toNat]?) fun x6=>Option.bind (zN k x4 x6) fun p9=>cond p9 (ku k a_0 b_1 (IntKind.wrap .i64 (dR+1))) (some (.inr (false)))else none) (some (.inl ()))
def Bf:List Nat:=[4,5]++List.range' 11 16
theorem Qd: ∀(k:Nat) (a_0:List Nd) (b_1:List Nd) (dR:Int) (aC σ:Nat->PV) (H:AH) (f0:Fr Bf aC σ) (sl:σ 0=(.aA (a_0.map Nd.cells) .unk)/\σ 1=(.aA (b_1.map Nd.cells) .unk)/\σ 5=(.int .i64 dR)) (o:Unit⊕Bool) (h:ku k a_0 b_1 dR=some o) (Q:Post) (q0: ∀(p:Unit) (σ':Nat->PV),o= .inl p->Fr Bf aC σ'->Q (.exit 0) σ' H) (q1: ∀(p:Bool) (σ':Nat->PV),o= .inr (p)->Fr Bf aC σ'->(σ' 4=(.bool p))->Q .ret σ' H),W Tryz.prog (.loop RO) Q σ H:=by
  intro k
  induction k with
  |zero=>intro a_0 b_1 dR aC σ H f0 sl o h Q q0 q1;simp only [ku,reduceCtorEq]at h
  |succ k ih=>
    intro a_0 b_1 dR aC σ H f0 sl o h Q q0 q1;obtain⟨s0,s1,s5⟩:=sl;unfold ku at h;refine aT (fun K hK=>aD ?_);unfold RO;rcases au h with⟨e2,h⟩|⟨e2,h⟩
    ·try refine ah ?_
     refine eO ?_;obtain⟨e3,h⟩:=aP h;obtain⟨x4,e5,h⟩:=aj h;obtain⟨x6,e7,h⟩:=aj h;obtain⟨p9,e8,h⟩:=aj h;try refine ah ?_
     refine aB (YP e8) ?_;rcases au h with⟨e10,h⟩|⟨e10,h⟩
     ·try refine ah ?_
      refine hK _ _ ?_;exact ih a_0 b_1 (IntKind.wrap .i64 (dR+1)) _ _ _ aJ av _ h _ q0 q1
     ·obtain rfl:=ak h;try refine ah ?_
      exact q1 _ _ rfl aJ av
    ·obtain rfl:=ak h;try refine ah ?_
     exact q0 _ _ rfl aJ
def zO (k:Nat) (a_0:List Nd) (b_1:List Nd):Option Bool:=
  cond ((a_0.length:Int) !=(b_1.length:Int)) (some false) (Option.bind (ku k a_0 b_1 0) (fun o=>Sum.elim (fun rR=>some true) (fun Hq=>some Hq) o))
theorem YQ {k:Nat} {a_0:List Nd} {b_1:List Nd} {c0 c1:Ck} {r:Bool} (h:zO k a_0 b_1=some r):aF Tryz.prog 20 [(.aA (a_0.map Nd.cells) c0),(.aA (b_1.map Nd.cells) c1)] (.bool r):=by
  refine aF.lw (.aA (.aA .nil)) (aF.aQ (bf.mem (.cons (aU Nd.pu _) (.cons (aU Nd.pu _) .nil))) (aG auE (by simp) (aD ?_)) (.bool _));unfold zO at h;unfold am6;rcases au h with⟨e1,h⟩|⟨e1,h⟩
  ·obtain rfl:=ak h;try refine ah ?_
   exact(.pure _ (.bool _))
  ·try refine ah ?_
   obtain⟨o11,h12,h⟩:=aj h;refine Qd k a_0 b_1 0 _ _ _ (Fr.refl _ _) av _ h12 _ ?_ ?_
   ·rintro rR σ' eo aoy;subst eo;rw [bL]at h;obtain rfl:=ak h;try refine ah ?_
    exact(.pure _ (.bool _))
   ·rintro Hq σ' eo aoz s21;subst eo;rw [bP]at h;obtain rfl:=ak h;try refine ah ?_
    exact(.pure _ (.bool _))
def dU:Nat->(List Str)->(List Str)->Int->Int->Option (Unit⊕Bool)
  |0,_,_,_,_=>none
  |k+1,jq,kG,iX,dO=>
    cond (decide (dO<iX)) (if 0<=dO then Option.bind (jq[dO.toNat]?) fun x4=>Option.bind (kG[dO.toNat]?) fun x6=>cond (x4==x6) (dU k jq kG iX (IntKind.wrap .i64 (dO+1))) (some (.inr (false)))else none) (some (.inl ()))
def nQ:List Nat:=[4,5]++List.range' 13 13
theorem CV: ∀(k:Nat) (jq:List Str) (kG:List Str) (iX:Int) (dO:Int) (aC σ:Nat->PV) (H:AH) (f0:Fr nQ aC σ) (sl:σ 0=(.aA (jq.map aI) .unk)/\σ 1=(.aA (kG.map aI) .unk)/\σ 12=(.int .i64 iX)/\σ 13=(.int .i64 dO)) (o:Unit⊕Bool) (h:dU k jq kG iX dO=some o) (Q:Post) (q0: ∀(p:Unit) (σ':Nat->PV),o= .inl p->Fr nQ aC σ'->Q (.exit 0) σ' H) (q1: ∀(p:Bool) (σ':Nat->PV),o= .inr (p)->Fr nQ aC σ'->(σ' 4=(.bool p))->Q .ret σ' H),W Tryz.prog (.loop Od) Q σ H:=by
  intro k
  induction k with
  |zero=>intro jq kG iX dO aC σ H f0 sl o h Q q0 q1;simp only [dU,reduceCtorEq]at h
  |succ k ih=>
    intro jq kG iX dO aC σ H f0 sl o h Q q0 q1;obtain⟨s0,s1,s12,s13⟩:=sl;unfold dU at h;refine aT (fun K hK=>aD ?_);unfold Od;rcases au h with⟨e2,h⟩|⟨e2,h⟩
    ·try refine ah ?_
     refine eO ?_;obtain⟨e3,h⟩:=aP h;obtain⟨x4,e5,h⟩:=aj h;obtain⟨x6,e7,h⟩:=aj h;rcases au h with⟨e8,h⟩|⟨e8,h⟩
     ·try refine ah ?_
      refine hK _ _ ?_;exact ih jq kG iX (IntKind.wrap .i64 (dO+1)) _ _ _ aJ av _ h _ q0 q1
     ·obtain rfl:=ak h;try refine ah ?_
      exact q1 _ _ rfl aJ av
    ·obtain rfl:=ak h;try refine ah ?_
     exact q0 _ _ rfl aJ
def kL (k:Nat) (jq:List Str) (kG:List Str):Option Bool:=
  cond ((jq.length:Int) !=(kG.length:Int)) (some false) (Option.bind (dU k jq kG (jq.length:Int) 0) (fun o=>Sum.elim (fun l6=>some true) (fun zm=>some zm) o))
theorem Fu {k:Nat} {jq:List Str} {kG:List Str} {c0 c1:Ck} {r:Bool} (h:kL k jq kG=some r):aF Tryz.prog 134 [(.aA (jq.map aI) c0),(.aA (kG.map aI) c1)] (.bool r):=by
  refine aF.lw (.aA (.aA .nil)) (aF.aQ (bf.mem (.cons (aU bg _) (.cons (aU bg _) .nil))) (aG arO (by simp) (aD ?_)) (.bool _));unfold kL at h;unfold ajh;rcases au h with⟨e1,h⟩|⟨e1,h⟩
  ·obtain rfl:=ak h;try refine ah ?_
   exact(.pure _ (.bool _))
  ·try refine ah ?_
   obtain⟨o9,h10,h⟩:=aj h;refine CV k jq kG (jq.length:Int) 0 _ _ _ (Fr.refl _ _) av _ h10 _ ?_ ?_
   ·rintro l6 σ' eo oU;subst eo;rw [bL]at h;obtain rfl:=ak h;try refine ah ?_
    exact(.pure _ (.bool _))
   ·rintro zm σ' eo TJ oW;subst eo;rw [bP]at h;obtain rfl:=ak h;try refine ah ?_
    exact(.pure _ (.bool _))
def gI:Nat->(List Int)->(List Int)->Int->Int->Option (Unit⊕Bool)
  |0,_,_,_,_=>none
  |k+1,jq,kG,iX,dO=>
    cond (decide (dO<iX)) (if 0<=dO then Option.bind (jq[dO.toNat]?) fun x4=>Option.bind (kG[dO.toNat]?) fun x6=>cond (x4 !=x6) (some (.inr (false))) (gI k jq kG iX (IntKind.wrap .i64 (dO+1)))else none) (some (.inl ()))
def uo:List Nat:=[4,5]++List.range' 13 13
theorem I8: ∀(k:Nat) (jq:List Int) (kG:List Int) (iX:Int) (dO:Int) (aC σ:Nat->PV) (H:AH) (f0:Fr uo aC σ) (sl:σ 0=(.aA (jq.map aX) .unk)/\σ 1=(.aA (kG.map aX) .unk)/\σ 12=(.int .i64 iX)/\σ 13=(.int .i64 dO)) (o:Unit⊕Bool) (h:gI k jq kG iX dO=some o) (Q:Post) (q0: ∀(p:Unit) (σ':Nat->PV),o= .inl p->Fr uo aC σ'->Q (.exit 0) σ' H) (q1: ∀(p:Bool) (σ':Nat->PV),o= .inr (p)->Fr uo aC σ'->(σ' 4=(.bool p))->Q .ret σ' H),W Tryz.prog (.loop Oe) Q σ H:=by
  intro k
  induction k with
  |zero=>intro jq kG iX dO aC σ H f0 sl o h Q q0 q1;simp only [gI,reduceCtorEq]at h
  |succ k ih=>
    intro jq kG iX dO aC σ H f0 sl o h Q q0 q1;obtain⟨s0,s1,s12,s13⟩:=sl;unfold gI at h;refine aT (fun K hK=>aD ?_);unfold Oe;rcases au h with⟨e2,h⟩|⟨e2,h⟩
    ·try refine ah ?_
     refine eO ?_;obtain⟨e3,h⟩:=aP h;obtain⟨x4,e5,h⟩:=aj h;obtain⟨x6,e7,h⟩:=aj h;rcases au h with⟨e8,h⟩|⟨e8,h⟩
     ·obtain rfl:=ak h;try refine ah ?_
      exact q1 _ _ rfl aJ av
     ·try refine ah ?_
      refine hK _ _ ?_;exact ih jq kG iX (IntKind.wrap .i64 (dO+1)) _ _ _ aJ av _ h _ q0 q1
    ·obtain rfl:=ak h;try refine ah ?_
     exact q0 _ _ rfl aJ
def qm (k:Nat) (jq:List Int) (kG:List Int):Option Bool:=
  cond ((jq.length:Int) !=(kG.length:Int)) (some false) (Option.bind (gI k jq kG (jq.length:Int) 0) (fun o=>Sum.elim (fun l6=>some true) (fun zm=>some zm) o))
theorem MF {k:Nat} {jq:List Int} {kG:List Int} {c0 c1:Ck} {r:Bool} (h:qm k jq kG=some r):aF Tryz.prog 135 [(.aA (jq.map aX) c0),(.aA (kG.map aX) c1)] (.bool r):=by
  refine aF.lw (.aA (.aA .nil)) (aF.aQ (bf.mem (.cons (aU fH _) (.cons (aU fH _) .nil))) (aG arP (by simp) (aD ?_)) (.bool _));unfold qm at h;unfold aji;rcases au h with⟨e1,h⟩|⟨e1,h⟩
  ·obtain rfl:=ak h;try refine ah ?_
   exact(.pure _ (.bool _))
  ·try refine ah ?_
   obtain⟨o9,h10,h⟩:=aj h;refine I8 k jq kG (jq.length:Int) 0 _ _ _ (Fr.refl _ _) av _ h10 _ ?_ ?_
   ·rintro l6 σ' eo oU;subst eo;rw [bL]at h;obtain rfl:=ak h;try refine ah ?_
    exact(.pure _ (.bool _))
   ·rintro zm σ' eo TJ oW;subst eo;rw [bP]at h;obtain rfl:=ak h;try refine ah ?_
    exact(.pure _ (.bool _))
def Et (k:Nat) (x_0:Nd) (y_1:Nd):Option Bool:=
  cond (x_0.kind==y_1.kind) (cond (x_0.n==y_1.n) (cond (x_0.text==y_1.text) (Option.bind (kL k x_0.names y_1.names) fun p5=>cond p5 (Option.bind (qm k x_0.args y_1.args) fun p8=>some p8) (some false)) (some false)) (some false)) (some false)
theorem adt {k:Nat} {x_0:Nd} {y_1:Nd} {r:Bool} (h:Et k x_0 y_1=some r):aF Tryz.prog 133 [(.agg (Nd.cells x_0)),(.agg (Nd.cells y_1))] (.bool r):=by
  refine aF.aQ (bf.mem (.cons (.agg _ (Nd.pu _)) (.cons (.agg _ (Nd.pu _)) .nil))) (aG arN (by simp) (aD ?_)) (.bool _);unfold Et at h;unfold ajg;rcases au h with⟨e1,h⟩|⟨e1,h⟩
  ·rcases au h with⟨e2,h⟩|⟨e2,h⟩
   ·rcases au h with⟨e3,h⟩|⟨e3,h⟩
    ·obtain⟨p5,e4,h⟩:=aj h;try refine ah ?_
     refine aB (Fu e4) ?_;rcases au h with⟨e6,h⟩|⟨e6,h⟩
     ·obtain⟨p8,e7,h⟩:=aj h;try refine ah ?_
      refine aB (MF e7) ?_;obtain rfl:=ak h;try refine ah ?_
      exact(.pure _ (.bool _))
     ·obtain rfl:=ak h;try refine ah ?_
      exact(.pure _ (.bool _))
    ·obtain rfl:=ak h;try refine ah ?_
     exact(.pure _ (.bool _))
   ·obtain rfl:=ak h;try refine ah ?_
    exact(.pure _ (.bool _))
  ·obtain rfl:=ak h;try refine ah ?_
   exact(.pure _ (.bool _))
def Eu (aH:List Nd):Option Nd:=
  if 0<=(IntKind.wrap .i64 ((aH.length:Int) -1))then Option.bind (aH[(IntKind.wrap .i64 ((aH.length:Int) -1)).toNat]?) fun x2=>some x2 else none
theorem YR {aH:List Nd} {c0:Ck} {r:Nd} (h:Eu aH=some r):aF Tryz.prog 21 [(.aA (aH.map Nd.cells) c0)] (.agg (Nd.cells r)):=by
  refine aF.lw (.aA .nil) (aF.aQ (bf.mem (.cons (aU Nd.pu _) .nil)) (aG am8 (by simp) (aD ?_)) (.agg _ (Nd.pu _)));unfold Eu at h;unfold am7;obtain⟨e1,h⟩:=aP h;obtain⟨x2,e3,h⟩:=aj h;obtain rfl:=ak h;try refine ah ?_
  exact(dH (.cons (.pure _ (.int _ _)) (.cons (.pure _ (.int _ _)) (.cons (.pure _ (.str _)) (.cons (d9 bg _ _) (.cons (d9 fH _ _) .nil))))))
def yJ (k:Nat) (aY:Nd):Option Bool:=
  cond (aY.kind==2) (Option.bind (uT aY.text) fun p3=>cond p3 (cond (aY.kind==3) (Option.bind (sH k aY.text) fun p7=>some p7) (some false)) (some true)) (cond (aY.kind==3) (Option.bind (sH k aY.text) fun iN=>some iN) (some false))
theorem Vo {k:Nat} {aY:Nd} {r:Bool} (h:yJ k aY=some r):aF Tryz.prog 73 [(.agg (Nd.cells aY))] (.bool r):=by
  refine aF.aQ (bf.mem (.cons (.agg _ (Nd.pu _)) .nil)) (aG au3 (by simp) (aD ?_)) (.bool _);unfold yJ at h;unfold anU;rcases au h with⟨e1,h⟩|⟨e1,h⟩
  ·obtain⟨p3,e2,h⟩:=aj h;try refine ah ?_
   refine aB (Gu e2) ?_;rcases au h with⟨e4,h⟩|⟨e4,h⟩
   ·rcases au h with⟨e5,h⟩|⟨e5,h⟩
    ·obtain⟨p7,e6,h⟩:=aj h;try refine ah ?_
     refine aB (zn e6) ?_;obtain rfl:=ak h;try refine ah ?_
     exact(.pure _ (.bool _))
    ·obtain rfl:=ak h;try refine ah ?_
     exact(.pure _ (.bool _))
   ·obtain rfl:=ak h;try refine ah ?_
    exact(.pure _ (.bool _))
  ·rcases au h with⟨e8,h⟩|⟨e8,h⟩
   ·obtain⟨iN,e9,h⟩:=aj h;try refine ah ?_
    refine aB (zn e9) ?_;obtain rfl:=ak h;try refine ah ?_
    exact(.pure _ (.bool _))
   ·obtain rfl:=ak h;try refine ah ?_
    exact(.pure _ (.bool _))
def I9 (pJ:Int):Option Bool:=
  cond (pJ==6) (some ((pJ==6))) (cond (pJ==12) (some ((pJ==12))) (cond (pJ==7) (some ((pJ==7))) (cond (pJ==8) (some ((pJ==8))) (cond (pJ==9) (some ((pJ==9))) (cond (pJ==13) (some ((pJ==13))) (cond (pJ==10) (some ((pJ==10))) (cond (pJ==11) (some ((pJ==11))) (some ((pJ==24))))))))))
def Nb:List Nat:=List.range' 7 10
theorem YS: ∀(pJ:Int) (aC σ:Nat->PV) (H:AH) (f0:Fr Nb aC σ) (sl:σ 6=(.int .i64 pJ)) (o:Bool) (h:I9 pJ=some o) (Q:Post) (q0: ∀(p:Bool) (σ':Nat->PV),o=p->Fr Nb aC σ'->(σ' 7=(.bool p))->Q .normal σ' H),W Tryz.prog SH Q σ H:=by
  intro pJ aC σ H f0 sl o h Q q0;have s6:=sl;unfold I9 at h;refine aD ?_;unfold SH;rcases au h with⟨e1,h⟩|⟨e1,h⟩
  ·obtain rfl:=ak h;try refine ah ?_
   exact q0 _ _ rfl aJ av
  ·rcases au h with⟨e2,h⟩|⟨e2,h⟩
   ·obtain rfl:=ak h;try refine ah ?_
    exact q0 _ _ rfl aJ av
   ·rcases au h with⟨e3,h⟩|⟨e3,h⟩
    ·obtain rfl:=ak h;try refine ah ?_
     exact q0 _ _ rfl aJ av
    ·rcases au h with⟨e4,h⟩|⟨e4,h⟩
     ·obtain rfl:=ak h;try refine ah ?_
      exact q0 _ _ rfl aJ av
     ·rcases au h with⟨e5,h⟩|⟨e5,h⟩
      ·obtain rfl:=ak h;try refine ah ?_
       exact q0 _ _ rfl aJ av
      ·rcases au h with⟨e6,h⟩|⟨e6,h⟩
       ·obtain rfl:=ak h;try refine ah ?_
        exact q0 _ _ rfl aJ av
       ·rcases au h with⟨e7,h⟩|⟨e7,h⟩
        ·obtain rfl:=ak h;try refine ah ?_
         exact q0 _ _ rfl aJ av
        ·rcases au h with⟨e8,h⟩|⟨e8,h⟩
         ·obtain rfl:=ak h;try refine ah ?_
          exact q0 _ _ rfl aJ av
         ·obtain rfl:=ak h;try refine ah ?_
          exact q0 _ _ rfl aJ av
def tZ (aY:Nd) (oG:Int):Option (List Str):=
  Option.bind (I9 aY.kind) (fun l6=>cond l6 (cond (oG==(IntKind.wrap .i64 ((aY.args.length:Int) -1))) (some aY.names) (some [])) (cond (aY.kind==23) (cond (oG==1) (if 1<=aY.names.length then some (aY.names.take 1)else none) (cond (aY.n==1) (some aY.names) (if 1<=aY.names.length then some (aY.names.drop 1)else none))) (some [])))
theorem Vp {aY:Nd} {oG:Int} {r:List Str} (h:tZ aY oG=some r):aF Tryz.prog 74 [(.agg (Nd.cells aY)),(.int .i64 oG)] (.aA (r.map aI) .unk):=by
  refine aF.aQ (bf.mem (.cons (.agg _ (Nd.pu _)) (.cons (.int _ _) .nil))) (aG au4 (by simp) (aD ?_)) (aU bg _);unfold tZ at h;unfold anV;try refine ah ?_
  obtain⟨o9,h10,h⟩:=aj h;refine YS aY.kind _ _ _ (Fr.refl _ _) av _ h10 _ ?_
  ·rintro l6 σ' eo oU s15;rw [eo]at h;have s16:σ' 1=(.int .i64 oG):=(oU 1 (by decide)).trans av;have tH:σ' 2=(.ref (AH.empty.next) 0):=(oU 2 (by decide)).trans av;have jw:σ' 6=(.int .i64 aY.kind):=(oU 6 (by decide)).trans av;rcases au h with⟨e19,h⟩|⟨e19,h⟩
   ·rcases au h with⟨e20,h⟩|⟨e20,h⟩
    ·obtain rfl:=ak h;try refine ah ?_
     exact(d9 bg _ _)
    ·obtain rfl:=ak h;try refine ah ?_
     exact(d9 bg [] _)
   ·rcases au h with⟨e21,h⟩|⟨e21,h⟩
    ·rcases au h with⟨e22,h⟩|⟨e22,h⟩
     ·obtain⟨e23,h⟩:=aP h;obtain rfl:=ak h;try refine ah ?_
      exact(d9 bg _ _)
     ·rcases au h with⟨e24,h⟩|⟨e24,h⟩
      ·obtain rfl:=ak h;try refine ah ?_
       exact(d9 bg _ _)
      ·obtain⟨e25,h⟩:=aP h;obtain rfl:=ak h;try refine ah ?_
       exact(d9 bg _ _)
    ·obtain rfl:=ak h;try refine ah ?_
     exact(d9 bg [] _)
def jD (dO:Int):Option Bool:=
  cond (dO==6) (some ((dO==6))) (cond (dO==12) (some ((dO==12))) (cond (dO==7) (some ((dO==7))) (cond (dO==8) (some ((dO==8))) (cond (dO==9) (some ((dO==9))) (cond (dO==13) (some ((dO==13))) (cond (dO==10) (some ((dO==10))) (cond (dO==11) (some ((dO==11))) (some ((dO==24))))))))))
def Nc:List Nat:=List.range' 14 10
theorem Ew: ∀(dO:Int) (aC σ:Nat->PV) (H:AH) (f0:Fr Nc aC σ) (sl:σ 13=(.int .i64 dO)) (o:Bool) (h:jD dO=some o) (Q:Post) (q0: ∀(p:Bool) (σ':Nat->PV),o=p->Fr Nc aC σ'->(σ' 14=(.bool p))->Q .normal σ' H),W Tryz.prog Ob Q σ H:=by
  intro dO aC σ H f0 sl o h Q q0;have s13:=sl;unfold jD at h;refine aD ?_;unfold Ob;rcases au h with⟨e1,h⟩|⟨e1,h⟩
  ·obtain rfl:=ak h;try refine ah ?_
   exact q0 _ _ rfl aJ av
  ·rcases au h with⟨e2,h⟩|⟨e2,h⟩
   ·obtain rfl:=ak h;try refine ah ?_
    exact q0 _ _ rfl aJ av
   ·rcases au h with⟨e3,h⟩|⟨e3,h⟩
    ·obtain rfl:=ak h;try refine ah ?_
     exact q0 _ _ rfl aJ av
    ·rcases au h with⟨e4,h⟩|⟨e4,h⟩
     ·obtain rfl:=ak h;try refine ah ?_
      exact q0 _ _ rfl aJ av
     ·rcases au h with⟨e5,h⟩|⟨e5,h⟩
      ·obtain rfl:=ak h;try refine ah ?_
       exact q0 _ _ rfl aJ av
      ·rcases au h with⟨e6,h⟩|⟨e6,h⟩
       ·obtain rfl:=ak h;try refine ah ?_
        exact q0 _ _ rfl aJ av
       ·rcases au h with⟨e7,h⟩|⟨e7,h⟩
        ·obtain rfl:=ak h;try refine ah ?_
         exact q0 _ _ rfl aJ av
        ·rcases au h with⟨e8,h⟩|⟨e8,h⟩
         ·obtain rfl:=ak h;try refine ah ?_
          exact q0 _ _ rfl aJ av
         ·obtain rfl:=ak h;try refine ah ?_
          exact q0 _ _ rfl aJ av
def gP (aY:Nd) (oG:Int):Option (List Str):=
  Option.bind (jD aY.kind) (fun l6=>cond l6 (cond (oG==(IntKind.wrap .i64 ((aY.args.length:Int) -1))) (some aY.names) (some [])) (cond (aY.kind==23) (cond (oG==(IntKind.wrap .i64 ((aY.args.length:Int) -1))) (if 1<=aY.names.length then some (aY.names.take 1)else none) (cond (aY.n==1) (some aY.names) (if 1<=aY.names.length then some (aY.names.drop 1)else none))) (some [])))
theorem afi {aY:Nd} {oG:Int} {r:List Str} (h:gP aY oG=some r):aF Tryz.prog 121 [(.agg (Nd.cells aY)),(.int .i64 oG)] (.aA (r.map aI) .unk):=by
  refine aF.aQ (bf.mem (.cons (.agg _ (Nd.pu _)) (.cons (.int _ _) .nil))) (aG ac8 (by simp) (aD ?_)) (aU bg _);unfold gP at h;unfold Xi;try refine ah ?_
  obtain⟨o9,h10,h⟩:=aj h;refine Ew aY.kind _ _ _ (Fr.refl _ _) av _ h10 _ ?_
  ·rintro l6 σ' eo oU s15;rw [eo]at h;have s16:σ' 2=(.ref (AH.empty.next) 0):=(oU 2 (by decide)).trans av;have tH:σ' 5=(.bool (oG==(IntKind.wrap .i64 ((aY.args.length:Int) -1)))):=(oU 5 (by decide)).trans av;have jw:σ' 13=(.int .i64 aY.kind):=(oU 13 (by decide)).trans av;rcases au h with⟨e19,h⟩|⟨e19,h⟩
   ·rcases au h with⟨e20,h⟩|⟨e20,h⟩
    ·obtain rfl:=ak h;try refine ah ?_
     exact(d9 bg _ _)
    ·obtain rfl:=ak h;try refine ah ?_
     exact(d9 bg [] _)
   ·rcases au h with⟨e21,h⟩|⟨e21,h⟩
    ·rcases au h with⟨e22,h⟩|⟨e22,h⟩
     ·obtain⟨e23,h⟩:=aP h;obtain rfl:=ak h;try refine ah ?_
      exact(d9 bg _ _)
     ·rcases au h with⟨e24,h⟩|⟨e24,h⟩
      ·obtain rfl:=ak h;try refine ah ?_
       exact(d9 bg _ _)
      ·obtain⟨e25,h⟩:=aP h;obtain rfl:=ak h;try refine ah ?_
       exact(d9 bg _ _)
    ·obtain rfl:=ak h;try refine ah ?_
     exact(d9 bg [] _)
end Go.VL
end
section
set_option maxRecDepth 8000
namespace Go.VL
open Go.Proofs Go.RowKit
theorem abX {H:AH} {id:Nat} {a b:List PV}:(H.put id a).put id b=H.put id b:=by
  unfold AH.put;simp only [AH.mk.injEq,true_and,and_true]
  funext i
  by_cases h:i=id<;>simp [h]
def KN (n:Int):Str:=98::95::Lib.itoa n
def zP (left:List Str):Nat->Int->Option (Str×Int)
  |0,_=>none
  |k+1,c=>if 0<=c/\c<=9000 then Option.bind (bX k left (KN (c+1))) fun b=>cond b (zP left k (c+1)) (some (KN (c+1),c+1))else none
theorem YT: ∀(m u:Nat),u<=m->(Lib.decDigits u).length<=u+1
  |0,u,h=>by rw [Lib.decDigits,dif_pos (by omega)];simp
  |m+1,u,h=>by
    rw [Lib.decDigits];split
    · simp
    · have:=YT m (u/10) (by omega);simp;omega
theorem afj {n:Int} (h:0<=n/\n<=10000):(Lib.itoa n).length<=10001:=by
  unfold Lib.itoa;rw [if_neg (by omega)];have:=YT n.toNat n.toNat (Nat.le_refl _);omega
theorem adu (left:List Str) (o:Nat) (ev:PV): ∀(k:Nat) (c:Int) (s:Str) (c':Int) (σ:Nat->PV) (H:AH) (cl:Ck) (Q:Post),zP left k c=some (s,c')->σ 0= .ref o 0->H.obj o=some [ev,.aA (left.map aI) cl,.int .i64 c]->
    (∀σ',σ' 2= .str s->Q .ret σ' (H.put o [ev,.aA (left.map aI) cl,.int .i64 c']))->W Tryz.prog (.loop Ov) Q σ H:=by
  intro k
  induction k with
  |zero=>intro c s c' σ H cl Q h;cases h
  |succ k ih=>
    intro c s c' σ H cl Q h s0 ho q0;rw [zP]at h;obtain⟨hc,h⟩:=aP h;obtain⟨b,hb,h⟩:=aj h;have hlen:=afj (n:=c+1) (by omega);have hw:IntKind.wrap .i64 (c+1)=c+1:=by rw [IntKind.wrap_i64];omega
    have hg:([98,95]:Str).length+(Lib.itoa (c+1)).length<=4611686018427387904:=by simp;omega
    refine aT (fun K hK=>aD ?_);unfold Ov;simp -implicitDefEqProofs only [go_sem,dJ,↓reduceIte,Nat.reduceEqDiff,s0,ho,hw,List.length_cons,List.length_nil,Nat.reduceAdd,Nat.le_refl];refine aB (aon (c+1) (by omega)) ?_;simp -implicitDefEqProofs only [go_sem,dJ,↓reduceIte,Nat.reduceEqDiff,List.length_cons,List.length_nil,Nat.reduceAdd,Nat.le_refl];refine dx hg ?_;have zQ:(H.put o [ev,.aA (left.map aI) cl,.int .i64 (c+1)]).obj o=some [ev,.aA (left.map aI) cl,.int .i64 (c+1)]:=by
      show(if o=o then _ else _)=_
      rw [if_pos rfl]
    simp -implicitDefEqProofs only [go_sem,dJ,↓reduceIte,Nat.reduceEqDiff,s0,zQ,List.length_cons,List.length_nil,Nat.reduceAdd,Nat.le_refl];refine aB (kr hb) ?_;rcases au h with⟨e1,h⟩|⟨e1,h⟩
    · subst e1;simp -implicitDefEqProofs only [go_sem,dJ,↓reduceIte,Nat.reduceEqDiff,List.length_cons,List.length_nil,Nat.reduceAdd,Nat.le_refl];refine hK _ _ (ih (c+1) s c' _ _ cl Q h (by simp -implicitDefEqProofs only [go_sem,↓reduceIte,Nat.reduceEqDiff,s0]) zQ fun σ' h2=> ?_);rw [abX];exact q0 σ' h2
    · subst e1;cases ak h;simp -implicitDefEqProofs only [go_sem,dJ,↓reduceIte,Nat.reduceEqDiff,List.length_cons,List.length_nil,Nat.reduceAdd,Nat.le_refl];exact q0 _ (by simp -implicitDefEqProofs only [go_sem,↓reduceIte,Nat.reduceEqDiff];rfl)
theorem adv {left:List Str} {o:Nat} {ev:PV} {k:Nat} {c:Int} {s:Str} {c':Int} {H:AH} {cl:Ck} (h:zP left k c=some (s,c')) (ho:H.obj o=some [ev,.aA (left.map aI) cl,.int .i64 c]):
    bC Tryz.prog 183 [.ref o 0] H fun v H'=>v= .str s/\H'=H.put o [ev,.aA (left.map aI) cl,.int .i64 c']:=by
  refine aG ar9 (by simp) (aD ?_);unfold ajD;simp -implicitDefEqProofs only [go_sem];refine adu left o ev k c s c' _ H cl _ h (by simp -implicitDefEqProofs only [go_sem,↓reduceIte,Nat.reduceEqDiff]) ho fun σ' h2=> ?_;simp -implicitDefEqProofs only [go_sem,h2,and_self]
end Go.VL
end
section
namespace Go.VL
def Ev {α:Type} (f:Nat->Option α) (v:α):Prop:= ∃K,∀k,K<=k->f k=some v
section
variable {α β:Type} {f:Nat->Option α} {v w:α}
theorem Ev.of_eq {o:Option α} (h:o=some v):Ev (fun _=>o) v:=⟨0,fun _ _=>h⟩
theorem Ev.all (h: ∀k,f k=some v):Ev f v:=⟨0,fun k _=>h k⟩
theorem Ev.some:Ev (fun _=>Option.some v) v:=⟨0,fun _ _=>rfl⟩
theorem Ev.some' (h:w=v):Ev (fun _=>Option.some w) v:=h▸Ev.some
theorem Ev.succ (h:Ev (fun k=>f (k+1)) v):Ev f v:=by
  obtain⟨K,h⟩:=h;refine⟨K+1,fun k hk=> ?_⟩;obtain⟨k,rfl⟩: ∃j,k=j+1:=⟨k -1,by omega⟩;exact h k (by omega)
theorem Ev.bind {f:Nat->Option β} {g:Nat->β->Option α} {x:β} (hf:Ev f x) (hg:Ev (fun k=>g k x) v):Ev (fun k=>Option.bind (f k) (g k)) v:=by
  obtain⟨K,hK⟩:=hf;obtain⟨L,hL⟩:=hg;refine⟨max K L,fun k hk=> ?_⟩;show Option.bind (f k) (g k)=_
  rw [hK k (by omega)];exact hL k (by omega)
theorem Ev.mq {o:Option β} {g:Nat->β->Option α} {x:β} (hf:o=Option.some x) (hg:Ev (fun k=>g k x) v):Ev (fun k=>Option.bind o (g k)) v:=Ev.bind (Ev.of_eq hf) hg
theorem Ev.mZ {p:Prop} [Decidable p] {g:Nat->Option α} (hp:p) (hg:Ev g v):Ev (fun k=>if p then g k else none) v:=by
  obtain⟨K,hK⟩:=hg;exact⟨K,fun k hk=>(if_pos hp).trans (hK k hk)⟩
theorem Ev.cT {b:Bool} {g g':Nat->Option α} (hb:b=true) (hg:Ev g v):Ev (fun k=>cond b (g k) (g' k)) v:=by subst hb;exact hg
theorem Ev.cF {b:Bool} {g g':Nat->Option α} (hb:b=false) (hg:Ev g' v):Ev (fun k=>cond b (g k) (g' k)) v:=by subst hb;exact hg
theorem Ev.to (h:Ev f v) (e:v=w):Ev f w:=e▸h
theorem Ev.cg {f g:Nat->Option α} (h:Ev f v) (e: ∀k,g k=f k):Ev g v:=by
  obtain⟨K,hK⟩:=h;exact⟨K,fun k hk=>(e k).trans (hK k hk)⟩
theorem Ev.uniq (h:Ev f v) (h':Ev f w):v=w:=by
  obtain⟨K,hK⟩:=h;obtain⟨L,hL⟩:=h';have a:=hK (max K L) (by omega);have b:=hL (max K L) (by omega);rw [a]at b;exact Option.some.inj b
theorem Ev.get (h:Ev f v): ∃k,f k=Option.some v:=by
  obtain⟨K,hK⟩:=h;exact⟨K,hK K (Nat.le_refl _)⟩
end
theorem wrap64 {x:Int} (h1: -9223372036854775808<=x) (h2:x<=9223372036854775807):IntKind.wrap .i64 x=x:=by rw [IntKind.wrap_i64];omega
theorem bG {α:Type} {l:List α} {i:Nat} (h:i<l.length):l[i]? =some l[i]:=List.getElem?_eq_getElem h
end Go.VL
end
section
namespace Go.VL
theorem down {p:Nat->Prop} {len:Nat} (h0:p len) (h1: ∀i,i<len->p (i+1)->p i): ∀i,i<=len->p i:=by
  intro i hi;obtain⟨n,rfl⟩: ∃n,len=i+n:=⟨len -i,by omega⟩
  induction n generalizing i with
  |zero=>exact h0
  |succ n ih=>exact h1 i (by omega) (ih (i+1) (by rw [Nat.add_right_comm];exact h0) (by rw [Nat.add_right_comm];exact h1) (by omega))
theorem lC {p:Nat->Prop} {len:Nat} (h0:p len) (h1: ∀i,i<len->p (i+1)->p i):p 0:=down h0 h1 0 (Nat.zero_le _)
theorem eF {i n:Nat} (hi:i<n) (hn:n<=1099511627776):IntKind.wrap .i64 ((i:Int)+1)=((i+1:Nat):Int):=by rw [wrap64 (by omega) (by omega)];omega
theorem kW {i n:Nat} (h:i<n):decide ((i:Int)<(n:Int))=true:=decide_eq_true (by omega)
theorem jJ (n:Nat):decide ((n:Int)<(n:Int))=false:=decide_eq_false (by omega)
theorem nn (i:Nat):(0:Int)<=(i:Int):=by omega
theorem YU (b:Bool):PE b=some (if b=true then 1 else 0):=by cases b<;>rfl
theorem mP (n lo hi:Int):iJ n lo hi=some (decide (lo<=n/\n<=hi)):=by
  unfold iJ;by_cases h:lo<=n
  · simp [h,ge_iff_le]
  · simp [h,ge_iff_le]
theorem qo (n lo hi:Int):gF n lo hi=some (decide (lo<=n/\n<=hi)):=by
  unfold gF;by_cases h:lo<=n
  · simp [h]
  · simp [h]
theorem zR (b:Bool) (c:Int):lY b c=some (if b=true then c else 0):=by cases b<;>rfl
theorem Ja {α:Type} {l:List α} {i:Nat} (h:i<l.length) {s:α}:s∈l.drop i↔l[i]=s\/s∈l.drop (i+1):=by
  rw [List.drop_eq_getElem_cons h,List.mem_cons];exact or_congr_left eq_comm
theorem pY (l:List Str) (s:Str) (hl:l.length<=1099511627776):Ev (fun k=>l9 k l s) (decide (s∈l)):=by
  have key:Ev (fun k=>j6 k l s ((0:Nat):Int)) (if s∈l.drop 0 then .inr true else .inl ()):=by
    refine lC (len:=l.length) (p:=fun i=>Ev (fun k=>j6 k l s (i:Int)) (if s∈l.drop i then .inr true else .inl ())) ?_ fun i hi ih=> ?_
    · refine Ev.succ ?_;simp only [j6];refine Ev.cF (jJ _) (Ev.some' ?_);simp
    · refine Ev.succ ?_;simp only [j6,Int.toNat_natCast,bG hi,Option.bind_some,nn,if_true,kW hi,cond_true,eF hi hl];by_cases h:l[i]=s
      · refine Ev.cT (by rw [beq_iff_eq];exact h) (Ev.some' ?_);rw [if_pos ((Ja hi).2 (.inl h))]
      · refine Ev.cF (by rw [beq_eq_false_iff_ne];exact h) (ih.to ?_);simp only [Ja hi,h,false_or]
  unfold l9;refine Ev.bind key ?_;rw [List.drop_zero];by_cases h:s∈l
  · simp only [h,if_true,bP,decide_true];exact Ev.some
  · simp only [h,if_false,bL,decide_false];exact Ev.some
theorem xM (l:List Str) (s:Str) (hl:l.length<=1099511627776):Ev (fun k=>bX k l s) (decide (s∈l)):=by
  have key: ∃o:Unit⊕Int,Ev (fun k=>dB k l s (l.length:Int) ((0:Nat):Int)) o/\((o= .inl ()/\ ¬s∈l.drop 0)\/(∃j:Nat,o= .inr (j:Int))/\s∈l.drop 0):=by
    refine lC (len:=l.length) (p:=fun i=> ∃o:Unit⊕Int,Ev (fun k=>dB k l s (l.length:Int) (i:Int)) o/\((o= .inl ()/\ ¬s∈l.drop i)\/(∃j:Nat,o= .inr (j:Int))/\s∈l.drop i)) ?_ fun i hi ⟨o,ih,ho⟩=> ?_
    · refine⟨.inl (),Ev.succ ?_,.inl ⟨rfl,by simp⟩⟩;simp only [dB];exact Ev.cF (jJ _) Ev.some
    · by_cases h:l[i]=s
      · refine⟨.inr (i:Int),Ev.succ ?_,.inr ⟨⟨i,rfl⟩,(Ja hi).2 (.inl h)⟩⟩;simp only [dB,Int.toNat_natCast,bG hi,Option.bind_some,nn,if_true,kW hi,cond_true,eF hi hl];exact Ev.cT (by rw [beq_iff_eq];exact h.symm) Ev.some
      · refine⟨o,Ev.succ ?_,by simp only [Ja hi,h,false_or];exact ho⟩;simp only [dB,Int.toNat_natCast,bG hi,Option.bind_some,nn,if_true,kW hi,cond_true,eF hi hl];exact Ev.cF (by rw [beq_eq_false_iff_ne];exact fun e=>h e.symm) ih
  obtain⟨o,h1,h2⟩:=key;rw [List.drop_zero]at h2;unfold bX;rcases h2 with⟨rfl,h2⟩|⟨⟨j,rfl⟩,h2⟩
  · refine Ev.bind (x:= -1) (by unfold kK;exact Ev.bind h1 Ev.some) (Ev.some' ?_);simp [h2]
  · refine Ev.bind (x:=(j:Int)) (by unfold kK;exact Ev.bind h1 Ev.some) (Ev.some' ?_);simp [h2]
theorem Qe (a b:List Str) (hl:a.length<=1099511627776):Ev (fun k=>ru k a b) (decide (a=b)):=by
  unfold ru;by_cases hab:a.length=b.length
  · refine Ev.cF (by simp [hab]) ?_;have key:Ev (fun k=>jf k a b ((0:Nat):Int)) (if a.drop 0=b.drop 0 then .inl ()else .inr false):=by
      refine lC (len:=a.length) (p:=fun i=>Ev (fun k=>jf k a b (i:Int)) (if a.drop i=b.drop i then .inl ()else .inr false)) ?_ fun i hi ih=> ?_
      · refine Ev.succ ?_;simp only [jf];refine Ev.cF (jJ _) (Ev.some' ?_);simp [hab]
      · have hi':i<b.length:=hab▸hi;refine Ev.succ ?_;simp only [jf,Int.toNat_natCast,bG hi,bG hi',Option.bind_some,nn,if_true,kW hi,cond_true,eF hi hl];by_cases h:a[i]=b[i]
        · refine Ev.cT (by rw [beq_iff_eq];exact h) (ih.to ?_);have:List.drop i a=a[i]::List.drop (i+1) a:=List.drop_eq_getElem_cons hi;have:List.drop i b=b[i]::List.drop (i+1) b:=List.drop_eq_getElem_cons hi';simp only [*,List.cons.injEq,true_and]
        · refine Ev.cF (by rw [beq_eq_false_iff_ne];exact h) (Ev.some' ?_);have e1:List.drop i a=a[i]::List.drop (i+1) a:=List.drop_eq_getElem_cons hi;have e2:List.drop i b=b[i]::List.drop (i+1) b:=List.drop_eq_getElem_cons hi';rw [if_neg];intro e;rw [e1,e2,List.cons.injEq]at e;exact h e.1
    refine Ev.bind key ?_;by_cases h:a=b
    · subst h;simp only [if_true,bL,decide_true];exact Ev.some
    · simp only [List.drop_zero,h,if_false,bP,decide_false];exact Ev.some
  · refine Ev.cT (by simp;omega) (Ev.some' ?_);exact(decide_eq_false fun e=>hab (by rw [e])).symm
def HY:Operator:=Operator.mk [] 0 0 0 false 0 0
def dP (l:List Operator) (t:Str):Operator×Bool:=match l with
  |[]=>(HY,false)
  |o::l=>if o.text=t then(o,true)else dP l t
def adw (x:Operator):Operator:=Operator.mk x.text x.fix x.low x.high x.left (if x.fix=1 then 2 else 1) (if x.text=[92,88]then 4 else if x.fix=1 then 2 else 1)
theorem Wv (add:List Operator) (hl:add.length<=1000): ∀i,i<=add.length-> ∀out:List Operator,out.length=i->Ev (fun k=>mg k out add (i:Int)) (out++(add.drop i).map adw):=by
  refine down (p:=fun i=> ∀out:List Operator,out.length=i->Ev (fun k=>mg k out add (i:Int)) (out++(add.drop i).map adw)) ?_ fun i hi ih out ho=> ?_
  · intro out ho;refine Ev.succ ?_;simp only [mg];refine Ev.cF (jJ _) (Ev.some' ?_);simp
  · refine Ev.succ ?_;simp only [mg,Int.toNat_natCast,bG hi,Option.bind_some,nn,if_true,kW hi,cond_true,eF hi (by omega),YU];have e1:(out.length+1)*64<=1099511627776:=by omega
    have e2:IntKind.wrap .i64 (1+if(add[i].fix==1)=true then 1 else 0)=if add[i].fix=1 then 2 else 1:=by
      by_cases h:add[i].fix=1
      · simp [h];rfl
      · simp [h];rfl
    simp only [if_pos e1,e2];by_cases h:add[i].text=[92,88]
    · refine Ev.cT (by rw [beq_iff_eq];exact h) ((ih _ (by simp [ho])).to ?_);rw [List.drop_eq_getElem_cons hi,List.map_cons,List.append_assoc];simp [adw,h]
    · refine Ev.cF (by rw [beq_eq_false_iff_ne];exact h) ((ih _ (by simp [ho])).to ?_);rw [List.drop_eq_getElem_cons hi,List.map_cons,List.append_assoc];simp [adw,h]
def fJ:List Operator:=(DR 60).getD []
theorem adx:Ev (fun k=>DR k) fJ:=by
  unfold DR;exact Ev.bind (Wv _ (by simp) 0 (Nat.zero_le _) [] rfl) (Ev.some' (by kernel_rfl))
theorem FX (t:Str):Ev (fun k=>qY k t) (dP fJ t):=by
  have hlen:fJ.length≤1099511627776:=by
    have:fJ.length=42:=by kernel_rfl
    omega
  have key: ∀(l:List Operator),l.length<=1099511627776->Ev (fun k=>jd k t ([]:Str) 0 0 0 false 0 0 l ((0:Nat):Int)) (match dP (l.drop 0) t with|(o,true)=> .inr (true,o.text,o.fix,o.low,o.high,o.left,o.least,o.most)|(_,false)=> .inl (([]:Str),0,0,0,false,0,0)):=by
    intro l hl;refine lC (len:=l.length) (p:=fun i=>Ev (fun k=>jd k t ([]:Str) 0 0 0 false 0 0 l (i:Int)) (match dP (l.drop i) t with|(o,true)=> .inr (true,o.text,o.fix,o.low,o.high,o.left,o.least,o.most)|(_,false)=> .inl (([]:Str),0,0,0,false,0,0))) ?_ fun i hi ih=> ?_
    · refine Ev.succ ?_;simp only [jd];refine Ev.cF (jJ _) (Ev.some' ?_);simp [dP]
    · refine Ev.succ ?_;simp only [jd,Int.toNat_natCast,bG hi,Option.bind_some,nn,if_true,kW hi,cond_true,eF hi hl];have e1:List.drop i l=l[i]::List.drop (i+1) l:=List.drop_eq_getElem_cons hi;by_cases h:l[i].text=t
      · refine Ev.cT (by rw [beq_iff_eq];exact h) (Ev.some' ?_);rw [e1,dP,if_pos h]
      · refine Ev.cF (by rw [beq_eq_false_iff_ne];exact h) (ih.to ?_);rw [e1,dP,if_neg h]
  have hk:=key fJ hlen;rw [List.drop_zero]at hk;unfold qY;refine Ev.bind adx (Ev.bind hk ?_);have hno: ∀l:List Operator,(dP l t).2=false->(dP l t).1=HY:=by
    intro l
    induction l with
    |nil=>intro _;rfl
    |cons o l ih=>
      intro h;rw [dP]at h⊢;by_cases e:o.text=t
      · rw [if_pos e]at h;cases h
      · rw [if_neg e]at h⊢;exact ih h
  have:=hno fJ;generalize dP fJ t=r at this;obtain⟨o,b⟩:=r;cases b with
  |true=>simp only [bP];exact Ev.some
  |false=>simp only [bL];exact Ev.some' (by rw [show o=HY from this rfl];rfl)
end Go.VL
end
section
namespace Go.VL
def isLet (c:UInt8):Bool:=decide (97<=c.toNat/\c.toNat<=122)||decide (65<=c.toNat/\c.toNat<=90)
def Dm (c:UInt8):Bool:=decide (48<=c.toNat/\c.toNat<=57)
def pq (c:UInt8):Bool:=isLet c||Dm c||decide (c.toNat=95)
def Nf:List Str:=zi.getD []
theorem Ww:zi=some Nf:=rfl
theorem abY:Nf.length=50:=by kernel_rfl
def bName (s:Str):Bool:=decide (1<=s.length/\s.length<=24)&& !decide (s∈Nf)&&s.all pq&&s.any isLet
def rz (s:Str):Bool:=decide (s=[84,82,85,69])||decide (s=[70,65,76,83,69])||decide (s=[66,79,79,76,69,65,78])||decide (s=[83,84,82,73,78,71])
def Vq (s:Str):Bool:=decide (s.take 3=[87,70,95])||decide (s.take 3=[83,70,95])
def rName (s:Str):Bool:=bName s&& !rz s&& !Vq s
def bang:Str->Option (Str×Str)
  |[]=>none
  |c::s=>if c=33 then some ([],s)else(bang s).map fun p=>(c::p.1,p.2)
def jm (s:Str):Bool:=match bang s with
  |some (a,b)=>rName a&&rName b
  |none=>rName s
theorem Wx (c:UInt8):zk (c.toNat:Int)=some (isLet c):=by
  unfold zk isLet;generalize c.toNat=n;by_cases h1:97<=n<;>by_cases h2:n<=122<;>by_cases h3:65<=n<;>by_cases h4:n<=90<;>simp [h1,h2,h3,h4,ge_iff_le,show((97:Int)<=n)=(97<=n) by rw [eq_iff_iff];omega,show((n:Int)<=122)=(n<=122) by rw [eq_iff_iff];omega,show((65:Int)<=n)=(65<=n) by rw [eq_iff_iff];omega,show((n:Int)<=90)=(n<=90) by rw [eq_iff_iff];omega]
theorem YV (c:UInt8):Ce (c.toNat:Int)=some (Dm c):=by
  unfold Ce Dm;generalize c.toNat=n;by_cases h1:48<=n<;>by_cases h2:n<=57<;>simp [h1,h2,ge_iff_le,show((48:Int)<=n)=(48<=n) by rw [eq_iff_iff];omega,show((n:Int)<=57)=(n<=57) by rw [eq_iff_iff];omega]
theorem drop_cons {α:Type} {l:List α} {i:Nat} (h:i<l.length):List.drop i l=l[i]::List.drop (i+1) l:=List.drop_eq_getElem_cons h
theorem Ud (s:Str) (i:Nat) (h:i<s.length) (t:Bool):wY s (i:Int) t=some (t&& !Dm s[i]&& !decide (s[i].toNat=95)):=by
  unfold wY;simp only [Int.toNat_natCast,bG h,Option.bind_some,nn,if_true,YV];cases t
  · rfl
  · cases Dm s[i]
    · simp only [cond_true,cond_false,Bool.true_and,Bool.not_false];congr 1
      by_cases e:s[i].toNat=95
      · simp [e]
      · simp only [e,decide_false,Bool.not_false,bne_iff_ne,ne_eq];omega
    · rfl
theorem aa0 (s:Str):Ev (fun k=>Ef k s) (bName s):=by
  unfold Ef BH;simp only [mP,Ww,Option.bind_some];by_cases h1:1<=s.length/\s.length<=24
  · have e1:(decide ((1:Int)<=(s.length:Int)/\(s.length:Int)<=24))=true:=decide_eq_true (by omega);simp only [e1,cond_true];by_cases h2:s∈Nf
    · refine Ev.bind (x:= .inr false) (Ev.bind (pY _ _ (by rw [abY];omega)) (Ev.cT (decide_eq_true h2) Ev.some)) ?_;simp only [bP];exact Ev.some' (by simp [bName,h2])
    · refine Ev.bind (x:= .inl ()) (Ev.bind (pY _ _ (by rw [abY];omega)) (Ev.cF (decide_eq_false h2) Ev.some)) ?_;simp only [bL];have hb:s.length<=1099511627776:=by omega
      have key: ∀l:Bool,Ev (fun k=>kX k s l ((0:Nat):Int)) (if(s.drop 0).all pq=true then .inl (l||(s.drop 0).any isLet)else .inr false):=by
        refine lC (len:=s.length) (p:=fun i=> ∀l:Bool,Ev (fun k=>kX k s l (i:Int)) (if(s.drop i).all pq=true then .inl (l||(s.drop i).any isLet)else .inr false)) ?_ fun i hi ih l=> ?_
        · intro l;refine Ev.succ ?_;simp only [kX];refine Ev.cF (jJ _) (Ev.some' ?_);simp
        · refine Ev.succ ?_;simp only [kX,Int.toNat_natCast,bG hi,Option.bind_some,nn,if_true,kW hi,cond_true,eF hi hb,Wx,Ud s i hi];rw [drop_cons hi];simp only [List.all_cons,List.any_cons];by_cases hc:pq s[i]=true
          · refine Ev.cF ?_ ?_
            · unfold pq at hc;revert hc;cases isLet s[i]<;>cases Dm s[i]<;>cases decide (s[i].toNat=95)<;>simp
            · simp only [hc,Bool.true_and];cases l
              · simp only [cond_false,Bool.false_or];exact ih _
              · simp only [cond_true,Bool.true_or];exact(ih true).to (by simp)
          · refine Ev.cT ?_ (Ev.some' ?_)
            · unfold pq at hc;revert hc;cases isLet s[i]<;>cases Dm s[i]<;>cases decide (s[i].toNat=95)<;>simp
            · simp [hc]
      refine Ev.bind (key false) ?_;rw [List.drop_zero];by_cases h3:s.all pq=true
      · simp only [h3,if_true,bL];exact Ev.some' (by simp [bName,h1,h2,h3])
      · simp only [h3,bP];exact Ev.some' (by simp [bName,h3])
  · have e1:(decide ((1:Int)<=(s.length:Int)/\(s.length:Int)<=24))=false:=decide_eq_false (by omega);simp only [e1,cond_false,Option.bind_some,bP];exact Ev.some' (by simp [bName,h1])
theorem HZ (a b:Str):(a==b)=decide (a=b):=by
  by_cases h:a=b
  · simp [h]
  · simp [h]
theorem zS (s:Str):uT s=some (rz s):=by
  unfold uT rz;simp only [HZ];cases decide (s=[84,82,85,69])<;>cases decide (s=[70,65,76,83,69])<;>cases decide (s=[66,79,79,76,69,65,78])<;>rfl
theorem KO (s:Str):Cq s=some (rz s):=zS s
theorem xk (s:Str):Ev (fun k=>sG k s) (rName s):=by
  unfold sG;refine Ev.bind (aa0 s) ?_;simp only [zS,Option.bind_some,HZ];unfold rName;cases bName s
  · exact Ev.some
  · simp only [cond_true,Bool.true_and];cases rz s
    · simp only [cond_false,Bool.not_false,Bool.true_and];by_cases h:3<=s.length
      · refine Ev.cT (decide_eq_true (by omega)) (Ev.mZ h ?_);unfold Vq;cases decide (s.take 3=[87,70,95])<;>exact Ev.some
      · refine Ev.cF (decide_eq_false (by omega)) (Ev.some' ?_);unfold Vq;have e1: ¬s.take 3=[87,70,95]:=fun e=>h (by have:=congrArg List.length e;rw [List.length_take]at this;simp at this;omega);have e2: ¬s.take 3=[83,70,95]:=fun e=>h (by have:=congrArg List.length e;rw [List.length_take]at this;simp at this;omega);simp [e1,e2]
    · exact Ev.some
theorem afk (s:Str) (i:Nat) (h:i<s.length):bang (s.drop i)=if s[i]=33 then some ([],s.drop (i+1))else(bang (s.drop (i+1))).map fun p=>(s[i]::p.1,p.2):=by
  rw [drop_cons h,bang]
theorem BI (s:Str) (hb:s.length<=1099511627776):Ev (fun k=>sH k s) (jm s):=by
  have key: ∃o:Unit⊕Bool,Ev (fun k=>kY k s ((0:Nat):Int)) o/\(match bang (s.drop 0)with|some (a,b)=>o= .inr (rName (s.take 0++a)&&rName b)|none=>o= .inl ()):=by
    refine lC (len:=s.length) (p:=fun i=> ∃o:Unit⊕Bool,Ev (fun k=>kY k s (i:Int)) o/\(match bang (s.drop i)with|some (a,b)=>o= .inr (rName (s.take i++a)&&rName b)|none=>o= .inl ())) ?_ fun i hi ⟨o,ih,ho⟩=> ?_
    · refine⟨.inl (),Ev.succ ?_,by simp [bang]⟩;simp only [kY];exact Ev.cF (jJ _) Ev.some
    · rw [afk s i hi];by_cases h:s[i]=33
      · refine⟨.inr (rName (s.take i)&&rName (s.drop (i+1))),Ev.succ ?_,by simp [h]⟩;simp only [kY,Int.toNat_natCast,bG hi,Option.bind_some,nn,if_true,kW hi,cond_true,eF hi hb,true_and];refine Ev.cT (by rw [h];rfl) (Ev.mZ (by omega) (Ev.bind (xk _) ?_));cases rName (s.take i)
        · exact Ev.some
        · simp only [cond_true,Bool.true_and];exact Ev.mZ (by omega) (Ev.bind (xk _) Ev.some)
      · refine⟨o,Ev.succ ?_,?_⟩
        · simp only [kY,Int.toNat_natCast,bG hi,Option.bind_some,nn,if_true,kW hi,cond_true,eF hi hb,true_and];refine Ev.cF ?_ ih;rw [beq_eq_false_iff_ne];intro e;refine h (UInt8.toNat_inj.1 ?_);show s[i].toNat=33
          omega
        · rw [if_neg h];revert ho;cases bang (s.drop (i+1))with
          |none=>exact id
          |some p=>
            obtain⟨a,b⟩:=p;simp only [Option.map_some];rw [List.take_succ_eq_append_getElem hi,List.append_assoc];exact id
  obtain⟨o,h1,h2⟩:=key;unfold sH;refine Ev.bind h1 ?_;unfold jm;rw [List.drop_zero]at h2;revert h2;cases bang s with
  |none=>intro h2;subst h2;simp only [bL];exact Ev.bind (xk s) Ev.some
  |some p=>
    obtain⟨a,b⟩:=p;intro h2;simp only [List.take_zero,List.nil_append]at h2;subst h2;simp only [bP];exact Ev.some
end Go.VL
end
section
namespace Go.VL
def gV (n lo hi:Int):Bool:=decide (lo<=n/\n<=hi)
def KP (c:UInt8):Bool:=decide (32<=c.toNat/\c.toNat<=126)&& !decide (c.toNat=34)&& !decide (c.toNat=92)
def vv (s:Str):Bool:=decide (s.length<=40)&&s.all KP
theorem YW (s:Str) (m:Int) (hm:m<=1099511627776):Ev (fun k=>Ch k s m) (decide ((s.length:Int)<=m)&&s.all fun c=>decide (32<=c.toNat/\c.toNat<=126)):=by
  unfold Ch;by_cases h:(s.length:Int)<=m
  · refine Ev.cF (decide_eq_false (by omega)) ?_;have hb:s.length<=1099511627776:=by omega
    have key:Ev (fun k=>lg k s ((0:Nat):Int)) (if(s.drop 0).all (fun c=>decide (32<=c.toNat/\c.toNat<=126))=true then .inl ()else .inr false):=by
      refine lC (len:=s.length) (p:=fun i=>Ev (fun k=>lg k s (i:Int)) (if(s.drop i).all (fun c=>decide (32<=c.toNat/\c.toNat<=126))=true then .inl ()else .inr false)) ?_ fun i hi ih=> ?_
      · refine Ev.succ ?_;simp only [lg];exact Ev.cF (jJ _) (Ev.some' (by simp))
      · refine Ev.succ ?_;simp only [lg,Int.toNat_natCast,bG hi,Option.bind_some,nn,if_true,kW hi,cond_true,eF hi hb];rw [drop_cons hi];simp only [List.all_cons,Bool.and_eq_true,decide_eq_true_eq];by_cases h1:32<=s[i].toNat
        · refine Ev.cF (decide_eq_false (by omega)) ?_;by_cases h2:s[i].toNat<=126
          · refine Ev.cF (decide_eq_false (by omega)) (ih.to ?_);simp only [h1,h2,true_and]
          · refine Ev.cT (decide_eq_true (by omega)) (Ev.some' ?_);simp only [h1,h2,and_false,false_and,if_false]
        · refine Ev.cT (decide_eq_true (by omega)) (Ev.some' ?_);simp only [h1,false_and,if_false]
    refine Ev.bind key ?_;rw [List.drop_zero];by_cases h3:(s.all fun c=>decide (32<=c.toNat/\c.toNat<=126))=true
    · simp only [h3,if_true,bL];exact Ev.some' (by simp [h])
    · simp only [h3,if_false,bP];exact Ev.some' (by simp)
  · refine Ev.cT (decide_eq_true (by omega)) (Ev.some' ?_);simp [h]
theorem ady (s:Str):Ev (fun k=>iE k s) (vv s):=by
  unfold iE;refine Ev.bind (YW s 40 (by omega)) ?_;by_cases h0:s.length<=40
  · have h0':(s.length:Int)<=40:=by omega
    have hb:s.length<=1099511627776:=by omega
    have key:Ev (fun k=>nM k s ((0:Nat):Int)) (if(s.drop 0).all (fun c=> !decide (c.toNat=34)&& !decide (c.toNat=92))=true then .inl ()else .inr false):=by
      refine lC (len:=s.length) (p:=fun i=>Ev (fun k=>nM k s (i:Int)) (if(s.drop i).all (fun c=> !decide (c.toNat=34)&& !decide (c.toNat=92))=true then .inl ()else .inr false)) ?_ fun i hi ih=> ?_
      · refine Ev.succ ?_;simp only [nM];exact Ev.cF (jJ _) (Ev.some' (by simp))
      · refine Ev.succ ?_;simp only [nM,Int.toNat_natCast,bG hi,Option.bind_some,nn,if_true,kW hi,cond_true,eF hi hb];rw [drop_cons hi];simp only [List.all_cons,Bool.and_eq_true,Bool.not_eq_true',decide_eq_false_iff_not];by_cases h1:s[i].toNat=34
        · refine Ev.cT (by rw [h1];rfl) (Ev.some' ?_);simp [h1]
        · refine Ev.cF (by rw [beq_eq_false_iff_ne];omega) ?_;by_cases h2:s[i].toNat=92
          · refine Ev.cT (by rw [h2];rfl) (Ev.some' ?_);simp [h2]
          · refine Ev.cF (by rw [beq_eq_false_iff_ne];omega) (ih.to ?_);simp [h1,h2]
    have hsplit:vv s=((s.all fun c=>decide (32<=c.toNat/\c.toNat<=126))&&s.all fun c=> !decide (c.toNat=34)&& !decide (c.toNat=92)):=by
      unfold vv;rw [decide_eq_true h0,Bool.true_and]
      induction s with
      |nil=>rfl
      |cons c l ih=>
        have: ∀a b c d:Bool,(a&&b&&(c&&d))=(a&&c&&(b&&d)):=by decide
        have e1: ∀l:Str,l.all KP=((l.all fun c=>decide (32<=c.toNat/\c.toNat<=126))&&l.all fun c=> !decide (c.toNat=34)&& !decide (c.toNat=92)):=by
          intro l
          induction l with
          |nil=>rfl
          |cons c l ih=>simp only [List.all_cons,ih,KP,Bool.and_assoc];cases decide (32<=c.toNat/\c.toNat<=126)<;>cases decide (c.toNat=34)<;>cases decide (c.toNat=92)<;>simp
        exact e1 _
    rw [hsplit];simp only [decide_eq_true h0',Bool.true_and];cases(s.all fun c=>decide (32<=c.toNat/\c.toNat<=126))
    · exact Ev.some
    · simp only [cond_true,Bool.true_and];refine Ev.bind key ?_;rw [List.drop_zero];cases h3:(s.all fun c=> !decide (c.toNat=34)&& !decide (c.toNat=92))
      · simp only [Bool.false_eq_true,if_false,bP];exact Ev.some
      · simp only [if_true,bL];exact Ev.some
  · have h0': ¬(s.length:Int)<=40:=by omega
    simp only [decide_eq_false h0',Bool.false_and,cond_false];exact Ev.some' (by simp [vv,h0])
def gW (kind:Int):(Int×Int×Int×Int)×Bool:=(qZ kind).getD ((0,0,0,0),false)
theorem adz (kind:Int):qZ kind=some (gW kind):=by
  have:(qZ kind).isSome=true:=by
    unfold qZ sI zo zq zu zw zx zy
    repeat' first
      |rfl
      |(generalize(kind==_)=b;cases b<;>simp only [cond_true,cond_false,Option.bind_some])
  unfold gW;cases h:qZ kind with
  |none=>rw [h]at this;cases this
  |some v=>rfl
def qb (n:Nd):Bool:=
  let s:=gW n.kind
  let o:=(dP fJ n.text).2&&decide (n.kind=3)
  let lo:=if o=true then 0 else s.1.2.2.1
  let hi:=if o=true then(n.args.length:Int)else s.1.2.2.2
  gV (n.names.length:Int) s.1.1 s.1.2.1&&gV ((n.args.length:Int) -(n.names.length:Int)*(if s.2=true then 1 else 0)) lo hi
def nJ (n:Nd):Bool:=
  (decide (n.kind=1)||decide (n.kind=2)||decide (n.kind=3)||decide (n.kind=18)||decide (n.text=[]))&&
  (decide (n.kind=0)||decide (n.kind=23)||decide (n.n=0))&&(!decide (n.kind=23)||gV n.n 0 1)&&(!decide (n.kind=1)||vv n.text)
def rA:List Str->List Str->Bool
  |_,[]=>false
  |acc,s::l=>decide (s∈acc)||rA (acc++[s]) l
def rC (n:Nd):Int:=
  if(n.names.all rName)=false then 7 else
  if n.kind=2 then(if(jm n.text||rz n.text)=true then 0 else 7)else
  if n.kind=18 then(if rName n.text=true then 0 else 7)else
  if n.kind=3 then(if((dP fJ n.text).2||jm n.text)=true then(if((dP fJ n.text).2&& !gV (n.args.length:Int) (dP fJ n.text).1.least (dP fJ n.text).1.most)=true then 17 else 0)else 7)else 0
def cZ (pl:Bool) (n:Nd):Int:=
  if gV n.kind 0 28=false then 4 else
  if qb n=false then 6 else
  if(pl&&nJ n)=false then 5 else
  if(decide (n.kind=0)&& !gV n.n 0 10000)=true then 3 else
  if rC n≠0 then rC n else
  if rA [] n.names=true then 12 else 0
end Go.VL
end
section
namespace Go.VL
theorem adA (a b:Int) (c:Str) (l:List Str) (d:List Int) (hl:l.length<=1099511627776):Ev (fun k=>lq k a b c l d ((0:Nat):Int)) (if(l.drop 0).all rName=true then .inl ()else .inr 7):=by
  refine lC (len:=l.length) (p:=fun i=>Ev (fun k=>lq k a b c l d (i:Int)) (if(l.drop i).all rName=true then .inl ()else .inr 7)) ?_ fun i hi ih=> ?_
  · refine Ev.succ ?_;simp only [lq];exact Ev.cF (jJ _) (Ev.some' (by simp))
  · refine Ev.succ ?_;simp only [lq,Int.toNat_natCast,bG hi,Option.bind_some,nn,if_true,kW hi,cond_true,eF hi hl];refine Ev.bind (xk _) ?_;rw [drop_cons hi];simp only [List.all_cons];by_cases hb:rName l[i]=true
    · exact Ev.cT hb (ih.to (by simp only [hb,Bool.true_and]))
    · have hb:rName l[i]=false:=by simpa using hb
      exact Ev.cF hb (Ev.some' (by simp only [hb,Bool.false_and];rfl))
theorem ahA (a b:Int) (c:Str) (l:List Str) (d:List Int) (hl:l.length<=1099511627776):Ev (fun k=>jT k a b c l d 1) (if rA [] l=true then .inr 12 else .inl ()):=by
  have key: ∀i,i<=l.length->Ev (fun k=>jT k a b c l d (i:Int)) (if rA (l.take i) (l.drop i)=true then .inr 12 else .inl ()):=by
    refine down ?_ fun i hi ih=> ?_
    · refine Ev.succ ?_;simp only [jT];exact Ev.cF (jJ _) (Ev.some' (by simp [rA]))
    · refine Ev.succ ?_;have h2:i<=l.length:=by omega
      simp only [jT,Int.toNat_natCast,bG hi,Option.bind_some,nn,if_true,kW hi,cond_true,eF hi hl,true_and,h2];refine Ev.bind (pY _ _ (by rw [List.length_take];omega)) ?_;rw [drop_cons hi,rA,<-List.take_succ_eq_append_getElem hi];cases decide (l[i]∈l.take i)
      · simp only [cond_false,Bool.false_or];exact ih
      · exact Ev.some
  cases l with
  |nil=>
    refine Ev.succ ?_;simp only [jT];exact Ev.cF (by rfl) Ev.some
  |cons x l=>
    have:=key 1 (by simp);exact this.to (by simp [rA])
theorem YX (e:List Nd) (i:Nat) (n:Nd) (pl:Bool) (hn:e[i]? =some n) (hpl:Ev (fun k=>Bb k e (i:Int)) pl) (h1:n.text.length<=1000000) (h2:n.names.length<=1000000) (h3:n.args.length<=1000000):
    Ev (fun k=>Ci k e (i:Int)) (cZ pl n):=by
  unfold Ci;simp only [Int.toNat_natCast,hn,Option.bind_some,nn,if_true,mP,adz,YU];unfold cZ;by_cases hk:gV n.kind 0 28=true
  case neg=>
    refine Ev.to (Ev.cF (by simpa [gV]using hk) Ev.some) (if_pos (by simpa using hk)).symm
  refine Ev.to ?_ (if_neg (by simp [hk])).symm;refine Ev.cT hk ?_
  have hj:Ev (fun k=>uU k n.kind n.n n.text n.names n.args (gW n.kind).1.1 (gW n.kind).1.2.1 (gW n.kind).1.2.2.1 (gW n.kind).1.2.2.2)
      ((gW n.kind).1.1,(gW n.kind).1.2.1,if((dP fJ n.text).2&&decide (n.kind=3))=true then 0 else(gW n.kind).1.2.2.1,if((dP fJ n.text).2&&decide (n.kind=3))=true then(n.args.length:Int)else(gW n.kind).1.2.2.2):=by
    unfold uU zA;refine Ev.bind (FX _) ?_;cases(dP fJ n.text).2
    · exact Ev.some
    · simp only [cond_true,Option.bind_some,Bool.true_and];by_cases h:n.kind=3
      · simp only [h,beq_self_eq_true,cond_true,decide_true,if_true];exact Ev.some
      · rw [show(n.kind==3)=false from beq_eq_false_iff_ne.2 h];simp only [cond_false,h,decide_false,Bool.false_eq_true,if_false];exact Ev.some
  refine Ev.bind hj ?_;have hm:IntKind.wrap .i64 ((n.names.length:Int)*if(gW n.kind).2=true then 1 else 0)=(n.names.length:Int)*if(gW n.kind).2=true then 1 else 0:=by
    split
    · exact wrap64 (by omega) (by omega)
    · exact wrap64 (by omega) (by omega)
  have hm2:IntKind.wrap .i64 ((n.args.length:Int) -((n.names.length:Int)*if(gW n.kind).2=true then 1 else 0))=(n.args.length:Int) -((n.names.length:Int)*if(gW n.kind).2=true then 1 else 0):=by
    split
    · exact wrap64 (by omega) (by omega)
    · exact wrap64 (by omega) (by omega)
  simp only [hm,hm2]
  have hsh: ∀(t:Bool),uV (gW n.kind).1.1 (gW n.kind).1.2.1 (if((dP fJ n.text).2&&decide (n.kind=3))=true then 0 else(gW n.kind).1.2.2.1) (if((dP fJ n.text).2&&decide (n.kind=3))=true then(n.args.length:Int)else(gW n.kind).1.2.2.2)
      ((n.args.length:Int) -((n.names.length:Int)*if(gW n.kind).2=true then 1 else 0)) (!gV (n.names.length:Int) (gW n.kind).1.1 (gW n.kind).1.2.1)=some (!qb n):=by
    intro t;unfold uV qb;simp only [mP,Option.bind_some];cases gV (n.names.length:Int) (gW n.kind).1.1 (gW n.kind).1.2.1
    · rfl
    · simp only [Bool.not_true,cond_false,Bool.true_and];rfl
  have ao9:=hsh true;unfold gV at ao9;refine Ev.mq ao9 ?_;cases hs:qb n
  · exact Ev.some
  simp only [Bool.not_true,cond_false,Bool.true_eq_false,if_false];have h3p:uW n.kind n.n n.text n.names n.args (n.kind==1)=some (decide (n.kind=1)||decide (n.kind=2)||decide (n.kind=3)||decide (n.kind=18)):=by
    unfold uW;by_cases a:n.kind=1
    · simp [a]
    by_cases b:n.kind=2
    · simp [b]
    by_cases c:n.kind=3
    · simp [c]
    by_cases d:n.kind=18
    · simp [d]
    simp [a,b,c,d,beq_eq_false_iff_ne.2 a,beq_eq_false_iff_ne.2 b,beq_eq_false_iff_ne.2 c,beq_eq_false_iff_ne.2 d]
  refine Ev.mq h3p (Ev.bind hpl ?_);have h4:Ev (fun k=>uX k n.kind n.n n.text n.names n.args (decide (n.kind=1)||decide (n.kind=2)||decide (n.kind=3)||decide (n.kind=18)) (!pl)) (!(pl&&nJ n)):=by
    cases pl
    · exact Ev.some
    unfold uX nJ;simp only [Bool.not_true,cond_false,Bool.true_and,mP,Option.bind_some];have hp:Ev (fun k=>Option.bind (iE k n.text) fun p=>some (!p)) (!vv n.text):=Ev.bind (ady _) Ev.some
    have key: ∀T0 T3 T2:Bool,T0=decide (n.n=0)->T2=gV n.n 0 1->
        Ev (fun k=>cond (n.kind !=0) (cond (n.kind !=23) (cond (n.n !=0) (some true) (cond (n.kind==23) (cond (decide (0<=n.n/\n.n<=1)) (cond (n.kind==1) (Option.bind (iE k n.text) fun p=>some (!p)) (some false)) (some true)) (cond (n.kind==1) (Option.bind (iE k n.text) fun p=>some (!p)) (some false))))
          (cond (n.kind==23) (cond (decide (0<=n.n/\n.n<=1)) (cond (n.kind==1) (Option.bind (iE k n.text) fun p=>some (!p)) (some false)) (some true)) (cond (n.kind==1) (Option.bind (iE k n.text) fun p=>some (!p)) (some false))))
          (cond (n.kind==23) (cond (decide (0<=n.n/\n.n<=1)) (cond (n.kind==1) (Option.bind (iE k n.text) fun p=>some (!p)) (some false)) (some true)) (cond (n.kind==1) (Option.bind (iE k n.text) fun p=>some (!p)) (some false))))
        (!((decide (n.kind=0)||decide (n.kind=23)||decide (n.n=0))&&(!decide (n.kind=23)||gV n.n 0 1)&&(!decide (n.kind=1)||vv n.text))):=by
      intro T0 T3 T2 _ _;unfold gV;by_cases a:n.kind=0
      · simp only [a];exact Ev.some
      by_cases b:n.kind=23
      · simp only [b];by_cases c:0<=n.n/\n.n<=1
        · simp only [c,and_self,decide_true];exact Ev.some
        · simp only [c,decide_false];exact Ev.some
      by_cases c:n.n=0
      · by_cases d:n.kind=1
        · simp only [c,d];exact hp
        · simp only [a,b,c,d,bne_iff_ne,beq_eq_false_iff_ne.2 a,beq_eq_false_iff_ne.2 b,beq_eq_false_iff_ne.2 d,bne,Bool.not_false,cond_true,cond_false,decide_false,decide_true];exact Ev.some
      · simp only [a,b,c,beq_eq_false_iff_ne.2 a,beq_eq_false_iff_ne.2 b,beq_eq_false_iff_ne.2 c,bne,Bool.not_false,cond_true,decide_false];exact Ev.some
    have key':=key _ false _ rfl rfl;cases(decide (n.kind=1)||decide (n.kind=2)||decide (n.kind=3)||decide (n.kind=18))
    · simp only [cond_false,Bool.false_or,HZ];cases decide (n.text=[])
      · exact Ev.some
      · simp only [cond_true,Bool.true_and];exact key'
    · simp only [cond_true,Bool.true_or,Bool.true_and];exact key'
  refine Ev.bind h4 ?_;cases hc:(pl&&nJ n)
  · exact Ev.some
  simp only [Bool.not_true,cond_false,Bool.true_eq_false,if_false];have h5:uY n.kind n.n n.text n.names n.args (n.kind==0)=some (decide (n.kind=0)&& !gV n.n 0 10000):=by
    unfold uY gV;simp only [mP,Option.bind_some];by_cases a:n.kind=0
    · simp only [a,beq_self_eq_true,cond_true,decide_true,Bool.true_and]
    · simp only [a,beq_eq_false_iff_ne.2 a,cond_false,decide_false,Bool.false_and]
  refine Ev.mq h5 ?_;cases h6:(decide (n.kind=0)&& !gV n.n 0 10000)
  case true=>exact Ev.some
  simp only [cond_false,Bool.false_eq_true,if_false];refine Ev.bind (adA _ _ _ n.names _ (by omega)) ?_;rw [List.drop_zero];unfold rC;cases h7:n.names.all rName
  · simp only [Bool.false_eq_true,if_false,bP,if_true];exact Ev.some
  simp only [if_true,bL,Bool.true_eq_false,if_false];refine Ev.bind (FX _) ?_
  have h8: ∀op:Operator,∀is:Bool,Ev (fun k=>uZ k n.kind n.n n.text n.names n.args op.text op.fix op.low op.high op.left op.least op.most is)
      (if(if n.kind=2 then(if(jm n.text||rz n.text)=true then(0:Int)else 7)else if n.kind=18 then(if rName n.text=true then 0 else 7)else if n.kind=3 then(if(is||jm n.text)=true then(if(is&& !gV (n.args.length:Int) op.least op.most)=true then 17 else 0)else 7)else 0)=0 then .inl ()else
        .inr (if n.kind=2 then(if(jm n.text||rz n.text)=true then(0:Int)else 7)else if n.kind=18 then(if rName n.text=true then 0 else 7)else if n.kind=3 then(if(is||jm n.text)=true then(if(is&& !gV (n.args.length:Int) op.least op.most)=true then 17 else 0)else 7)else 0)):=by
    intro op is;unfold uZ;by_cases a:n.kind=2
    · simp only [a,beq_self_eq_true,cond_true,if_true];refine Ev.bind (BI _ (by omega)) ?_;cases jm n.text
      · simp only [cond_false,zS,Option.bind_some,Bool.false_or];cases rz n.text<;>exact Ev.some
      · exact Ev.some
    by_cases b:n.kind=18
    · simp only [b];refine Ev.cF rfl (Ev.cT rfl ?_);refine Ev.bind (xk _) ?_;cases rName n.text<;>exact Ev.some
    by_cases c:n.kind=3
    · simp only [c];refine Ev.cF rfl (Ev.cF rfl (Ev.cT rfl ?_));unfold zH;cases is
      · simp only [Bool.not_false,cond_true,Bool.false_or];refine Ev.bind (Ev.bind (BI _ (by omega)) Ev.some) ?_;cases jm n.text<;>exact Ev.some
      · simp only [Bool.not_true,cond_false,Option.bind_some,cond_true,mP,Bool.true_or,if_true,Bool.true_and];unfold gV;cases decide (op.least<=(n.args.length:Int)/\(n.args.length:Int)<=op.most)<;>exact Ev.some
    · simp only [a,b,c,beq_eq_false_iff_ne.2 a,beq_eq_false_iff_ne.2 b,beq_eq_false_iff_ne.2 c,cond_false,if_false,if_true];exact Ev.some
  refine Ev.bind (h8 (dP fJ n.text).1 (dP fJ n.text).2) ?_;generalize hx:(if n.kind=2 then(if(jm n.text||rz n.text)=true then(0:Int)else 7)else if n.kind=18 then(if rName n.text=true then 0 else 7)else if n.kind=3 then(if((dP fJ n.text).2||jm n.text)=true then(if((dP fJ n.text).2&& !gV (n.args.length:Int) (dP fJ n.text).1.least (dP fJ n.text).1.most)=true then 17 else 0)else 7)else 0)=x;by_cases hx0:x=0
  · subst hx0;simp only [if_true,bL,ne_eq,not_true_eq_false,if_false];refine Ev.bind (ahA _ _ _ n.names _ (by omega)) ?_;cases rA [] n.names<;>exact Ev.some
  · simp only [hx0,if_false,bP,ne_eq,not_false_eq_true,if_true];exact Ev.some
end Go.VL
end
section
namespace Go.VL
def yj (acc:List Int) (n:Nd):Int:=match n.args with
  |[]=>acc.length
  |a::_=>acc[a.toNat]?.getD 0
def rT (acc:List Int):Int->List Int->Bool
  |_,[]=>true
  |next,a::l=>decide (a=next -1)&&decide (1<=next)&&rT acc (acc[(next -1).toNat]?.getD 0) l
structure pR (e:List Nd) (i:Nat) (acc:List Int):Prop where
  len:acc.length=i
  le:i<=e.length
  at_: ∀j,j<i-> ∃n b,e[j]? =some n/\acc[j]? =some b/\0<=b/\b<=(j:Int)/\(n.args=[]->b=(j:Int))/\ ∀a l,n.args=a::l->0<=a/\a<(j:Int)/\acc[a.toNat]? =some b
structure qN (e:List Nd):Prop where
  len:e.length<=1000000
  nd: ∀(i:Nat) n,e[i]? =some n->n.text.length<=1000000/\n.names.length<=1000000/\n.args.length<=1000000
theorem pR.rng {e:List Nd} {i:Nat} {acc:List Int} (h:pR e i acc) {j:Nat} {b:Int} (hb:acc[j]? =some b):j<i/\0<=b/\b<=(j:Int):=by
  have hj:j<i:=by have:=(List.getElem?_eq_some_iff.1 hb).1;have:=h.len;omega
  obtain⟨n,b',h1,h2,h3,h4,_⟩:=h.at_ j hj;rw [hb]at h2;cases h2;exact⟨hj,h3,h4⟩
theorem Wy {e:List Nd} {i:Nat} {acc:List Int} (h:pR e i acc) (hi:i<=1000000): ∀(j:Nat) (b:Int),acc[j]? =some b->Ev (fun k=>mh k e (j:Int)) (.inl b):=by
  intro j
  induction j using Nat.strongRecOn with
  |_ j ih=>
    intro b hb;obtain⟨hj,hb0,hb1⟩:=h.rng hb;obtain⟨n,b',h1,h2,_,_,h5,h6⟩:=h.at_ j hj;rw [hb]at h2;cases h2;refine Ev.succ ?_;simp only [mh,Int.toNat_natCast,nn,if_true,h1,Option.bind_some,mP];cases hargs:n.args with
    |nil=>
      refine Ev.cF (by simp) (Ev.some' ?_);rw [h5 hargs]
    |cons a l=>
      obtain⟨h7,h8,h9⟩:=h6 a l hargs;refine Ev.cT (by simp) ?_;simp only [List.getElem?_cons_zero,Option.bind_some];rw [wrap64 (by omega) (by omega)];refine Ev.cT (decide_eq_true (by omega)) ?_;have:=ih a.toNat (by omega) b h9
      rwa [Int.toNat_of_nonneg h7]at this
theorem Qf {e:List Nd} {i:Nat} {acc:List Int} (h:pR e i acc) (hi:i<=1000000) {j:Nat} {b:Int} (hb:acc[j]? =some b):Ev (fun k=>tX k e (j:Int)) b:=by
  unfold tX;refine Ev.cF (decide_eq_false (by omega)) (Ev.bind (Wy h hi j b hb) ?_);simp only [bL];exact Ev.some
theorem YZ {α:Type} {l:List α} {m:Nat} (h:m<l.length):(l.take (m+1)).reverse=l[m]::(l.take m).reverse:=by
  rw [List.take_succ_eq_append_getElem h,List.reverse_append];rfl
theorem Ue {e:List Nd} {i:Nat} {acc:List Int} (h:pR e i acc) (hi:i<=1000000) {n:Nd} (hn:e[i]? =some n) (hl:n.args.length<=1000000): ∀(m:Nat),m<=n.args.length-> ∀nx:Nat,nx<=i->
    Ev (fun k=>nY k e (i:Int) (nx:Int) ((m:Int) -1)) (if rT acc nx (n.args.take m).reverse=true then .inl ()else .inr false):=by
  intro m
  induction m with
  |zero=>
    intro _ nx hnx;refine Ev.succ ?_;simp only [nY];exact Ev.cF (by rfl) (Ev.some' (by simp [rT]))
  |succ m ih=>
    intro hm nx hnx;have hm':m<n.args.length:=by omega
    refine Ev.succ ?_;have e1:(((m+1:Nat):Int) -1)=(m:Int):=by omega
    simp only [e1,nY,Int.toNat_natCast,nn,if_true,hn,Option.bind_some,bG hm'];rw [YZ hm',rT];refine Ev.cT (by simp) ?_;rw [wrap64 (x:=(nx:Int) -1) (by omega) (by omega),wrap64 (x:=(m:Int) -1) (by omega) (by omega)];by_cases h1:n.args[m]=(nx:Int) -1
    · refine Ev.cF (by rw [h1];simp) ?_;by_cases h2:nx<1
      · refine Ev.cT (decide_eq_true (by omega)) (Ev.some' ?_);have: ¬(1:Int)<=nx:=by omega
        simp [this]
      · refine Ev.cF (decide_eq_false (by omega)) ?_;obtain⟨j,rfl⟩: ∃j,nx=j+1:=⟨nx -1,by omega⟩;have e2:(((j+1:Nat):Int) -1)=(j:Int):=by omega
        rw [e2]at h1⊢;obtain⟨n',b,h3,h4,h5,h6,_⟩:=h.at_ j (by omega);refine Ev.bind (Qf h hi h4) ?_;obtain⟨b,rfl⟩: ∃b':Nat,b=b':=⟨b.toNat,by omega⟩;refine(ih (by omega) b (by omega)).to ?_;have e3:(1:Int)<=((j+1:Nat):Int):=by omega
        simp only [h1,e3,decide_true,Bool.true_and,Int.toNat_natCast,h4,Option.getD_some]
    · refine Ev.cT (by rw [bne_iff_ne];exact h1) (Ev.some' ?_);simp [h1]
theorem aa1 {e:List Nd} {i:Nat} {acc:List Int} (h:pR e i acc) (hi:i<=1000000) {n:Nd} (hn:e[i]? =some n) (hl:n.args.length<=1000000):Ev (fun k=>Bb k e (i:Int)) (rT acc i n.args.reverse):=by
  unfold Bb;simp only [Int.toNat_natCast,nn,if_true,hn,Option.bind_some];rw [wrap64 (by omega) (by omega)];have:=Ue h hi hn hl n.args.length (Nat.le_refl _) i (Nat.le_refl _);rw [List.take_length]at this;refine Ev.bind this ?_;cases rT acc i n.args.reverse
  · simp only [Bool.false_eq_true,if_false,bP];exact Ev.some
  · simp only [if_true,bL];exact Ev.some
theorem Uf {e:List Nd} {i:Nat} {acc:List Int} (h:pR e i acc): ∀(l:List Int) (nx:Nat),nx<=i->rT acc nx l=true-> ∀a∈l,0<=a/\a<(nx:Int)
  |[],_,_,_,a,ha=>by cases ha
  |a::l,nx,hnx,hp,x,hx=>by
    rw [rT,Bool.and_eq_true,Bool.and_eq_true,decide_eq_true_eq,decide_eq_true_eq]at hp;obtain⟨⟨h1,h2⟩,h3⟩:=hp;rcases List.mem_cons.1 hx with rfl|hx
    · omega
    · obtain⟨j,rfl⟩: ∃j,nx=j+1:=⟨nx -1,by omega⟩;have e2:(((j+1:Nat):Int) -1)=(j:Int):=by omega
      obtain⟨n',b,h4,h5,h6,h7,_⟩:=h.at_ j (by omega);rw [e2,Int.toNat_natCast,h5,Option.getD_some]at h3;obtain⟨b,rfl⟩: ∃b':Nat,b=b':=⟨b.toNat,by omega⟩;have:=Uf h l b (by omega) h3 x hx;omega
theorem pR.zero (e:List Nd):pR e 0 []:=⟨rfl,Nat.zero_le _,fun j hj=>absurd hj (Nat.not_lt_zero _)⟩
theorem pR.succ {e:List Nd} {i:Nat} {acc:List Int} (h:pR e i acc) {n:Nd} (hn:e[i]? =some n) (hp:rT acc i n.args.reverse=true):pR e (i+1) (acc++[yj acc n]):=by
  have hmem:=Uf h _ i (Nat.le_refl _) hp;have hlen:=h.len;refine⟨by simp [hlen],(List.getElem?_eq_some_iff.1 hn).1,fun j hj=> ?_⟩;have old: ∀(m:Nat) (b:Int),acc[m]? =some b->(acc++[yj acc n])[m]? =some b:=fun m b e=>by
    rw [List.getElem?_append_left (List.getElem?_eq_some_iff.1 e).1];exact e
  by_cases hj':j<i
  · obtain⟨n',b,h1,h2,h3,h4,h5,h6⟩:=h.at_ j hj';exact⟨n',b,h1,old _ _ h2,h3,h4,h5,fun a l ha=>⟨(h6 a l ha).1,(h6 a l ha).2.1,old _ _ (h6 a l ha).2.2⟩⟩
  · obtain rfl:j=i:=by omega
    have hnew:(acc++[yj acc n])[j]? =some (yj acc n):=by rw [List.getElem?_append_right (by omega),hlen,Nat.sub_self];rfl
    cases hargs:n.args with
    |nil=>
      have e1:yj acc n=(j:Int):=by unfold yj;rw [hargs];simp [hlen]
      exact⟨n,_,hn,hnew,by omega,by omega,fun _=>e1,fun a l ha=>by rw [hargs]at ha;cases ha⟩
    |cons a l=>
      have ha:=hmem a (by rw [hargs];simp);obtain⟨n',b,h1,h2,h3,h4,h5,h6⟩:=h.at_ a.toNat (by omega);have e1:yj acc n=b:=by unfold yj;rw [hargs];simp only [h2,Option.getD_some]
      rw [e1]at hnew old⊢;refine⟨n,b,hn,hnew,h3,by omega,(fun h=>by rw [hargs]at h;cases h),fun a' l' ha'=> ?_⟩;rw [hargs]at ha';cases ha';exact⟨ha.1,ha.2,old _ _ h2⟩
def ng:List Int->List Nd->List Int⊕(Int×Int)
  |acc,[]=> .inl acc
  |acc,n::l=>if cZ (rT acc acc.length n.args.reverse) n≠0 then .inr ((acc.length:Int),cZ (rT acc acc.length n.args.reverse) n)else ng (acc++[yj acc n]) l
theorem xq {n:Nd} {pl:Bool} (h:cZ pl n=0):pl=true:=by
  cases pl with
  |true=>rfl
  |false=>
    exfalso;unfold cZ at h;simp only [Bool.false_and,if_true]at h;split at h
    · cases h
    · split at h<;>cases h
theorem Wz {e:List Nd} (hL:qN e): ∀i,i<=e.length-> ∀acc,pR e i acc->Ev (fun k=>nN k e (i:Int)) (match ng acc (e.drop i)with| .inl _=> .inl ()| .inr r=> .inr r):=by
  have hlen:=hL.len;refine down (fun acc h=> ?_) (fun i hi ih acc h=> ?_)
  · refine Ev.succ ?_;simp only [nN];exact Ev.cF (jJ _) (Ev.some' (by simp [ng]))
  · refine Ev.succ ?_;obtain⟨h1,h2,h3⟩:=hL.nd i _ (bG hi);simp only [nN];refine Ev.cT (kW hi) (Ev.bind (YX e i e[i] _ (bG hi) (aa1 h (by omega) (bG hi) h3) h1 h2 h3) ?_);rw [drop_cons hi,ng,h.len];by_cases hc:cZ (rT acc i e[i].args.reverse) e[i]=0
    · refine Ev.cF (by rw [hc];rfl) ?_;rw [eF hi (by omega)];refine(ih _ (h.succ (bG hi) (xq hc))).to ?_;simp only [hc,ne_eq,not_true_eq_false,if_false]
    · refine Ev.cT (by rw [bne_iff_ne];exact hc) (Ev.some' ?_);simp only [ne_eq,hc,not_false_eq_true,if_true]
end Go.VL
end
