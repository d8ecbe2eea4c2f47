/- Part 4. -/
import Derived.Test.YthebklihgmhgoaaGreatDoorKg3
import Derived.IntWalk
import Derived.KernelRfl
set_option maxRecDepth 8000
set_option linter.unusedVariables false
set_option linter.unusedSectionVars false
set_option linter.unusedSimpArgs false
section
set_option maxHeartbeats 4000000
namespace Go.VL
open Go.Proofs
def Qs (Jm:Bool):Option Int:=
  cond Jm (some 1) (some 0)
theorem acD {Jm:Bool} {r:Int} (h:Qs Jm=some r):aF Tryz.prog 23 [(.bool Jm)] (.int .i64 r):=by
  refine aF.aP (bg.mem (.cons (.bool _) .nil)) (aG avz (by simp) (aD ?_)) (.int _ _);unfold Qs at h;unfold aob;rcases au h with⟨e1,h⟩|⟨e1,h⟩
  ·obtain rfl:=ak h;try refine ah ?_
   exact(.pure _ (.int _ _))
  ·obtain rfl:=ak h;try refine ah ?_
   exact(.pure _ (.int _ _))
def iO (aZ:Int) (Ya:Int) (Qt:Int):Option Bool:=
  cond (decide (aZ>=Ya)) (some (decide (aZ<=Qt))) (some false)
theorem jc {aZ:Int} {Ya:Int} {Qt:Int} {r:Bool} (h:iO aZ Ya Qt=some r):aF Tryz.prog 35 [(.int .i64 aZ),(.int .i64 Ya),(.int .i64 Qt)] (.bool r):=by
  refine aF.aP (bg.mem (.cons (.int _ _) (.cons (.int _ _) (.cons (.int _ _) .nil)))) (aG aol (by simp) (aD ?_)) (.bool _);unfold iO at h;unfold aok;rcases au h with⟨e1,h⟩|⟨e1,h⟩
  ·obtain rfl:=ak h;try refine ah ?_
   exact(.pure _ (.bool _))
  ·obtain rfl:=ak h;try refine ah ?_
   exact(.pure _ (.bool _))
def kG:Nat->(List Str)->Str->Int->Option (Unit⊕Bool)
  |0,_,_,_=>none
  |k+1,dB,s_1,dV=>
    cond (decide (dV<(dB.length:Int))) (if 0<=dV then Option.bind (dB[dV.toNat]?) fun x3=>cond (x3==s_1) (some (.inr (true))) (kG k dB s_1 (IntKind.wrap .i64 (dV+1)))else none) (some (.inl ()))
def Bt:List Nat:=List.range' 4 14
theorem Qu: ∀(k:Nat) (dB:List Str) (s_1:Str) (dV:Int) (aC σ:Nat->PV) (H:AH) (f0:Fr Bt aC σ) (sl:σ 0=(.aB (dB.map aI) .unk)/\σ 1=(.str s_1)/\σ 5=(.int .i64 dV)) (o:Unit⊕Bool) (h:kG k dB s_1 dV=some o) (Q:Post) (q0: ∀(p:Unit) (σ':Nat->PV),o= .inl p->Fr Bt aC σ'->Q (.exit 0) σ' H) (q1: ∀(p:Bool) (σ':Nat->PV),o= .inr (p)->Fr Bt aC σ'->(σ' 4=(.bool p))->Q .ret σ' H),W Tryz.prog (.loop SX) Q σ H:=by
  intro k
  induction k with
  |zero=>intro dB s_1 dV aC σ H f0 sl o h Q q0 q1;simp only [kG,reduceCtorEq]at h
  |succ k ih=>
    intro dB s_1 dV aC σ H f0 sl o h Q q0 q1;obtain⟨s0,s1,s5⟩:=sl;unfold kG at h;refine aU (fun K hK=>aD ?_);unfold SX;rcases au h with⟨e1,h⟩|⟨e1,h⟩
    ·obtain⟨e2,h⟩:=aQ h;obtain⟨x3,e4,h⟩:=aj h;rcases au h with⟨e5,h⟩|⟨e5,h⟩
     ·obtain rfl:=ak h;try refine ah ?_
      exact q1 _ _ rfl aJ av
     ·try refine ah ?_
      refine hK _ _ ?_;exact ih dB s_1 (IntKind.wrap .i64 (dV+1)) _ _ _ aJ av _ h _ q0 q1
    ·obtain rfl:=ak h;try refine ah ?_
     exact q0 _ _ rfl aJ
def mI (k:Nat) (dB:List Str) (s_1:Str):Option Bool:=
  Option.bind (kG k dB s_1 0) (fun o=>Sum.elim (fun p8=>some false) (fun l6=>some l6) o)
theorem zB {k:Nat} {dB:List Str} {s_1:Str} {c0:Ck} {r:Bool} (h:mI k dB s_1=some r):aF Tryz.prog 31 [(.aB (dB.map aI) c0),(.str s_1)] (.bool r):=by
  refine aF.lw (.aB (.same .nil)) (aF.aP (bg.mem (.cons (aV bn _) (.cons (.str _) .nil))) (aG aoh (by simp) (aD ?_)) (.bool _));unfold mI at h;unfold aog;try refine ah ?_
  obtain⟨o6,h7,h⟩:=aj h;refine Qu k dB s_1 0 _ _ _ (Fr.refl _ _) av _ h7 _ ?_ ?_
  ·rintro p8 σ' eo NC;subst eo;rw [bL]at h;obtain rfl:=ak h;try refine ah ?_
   exact(.pure _ (.bool _))
  ·rintro l6 σ' eo Jo s16;subst eo;rw [bP]at h;obtain rfl:=ak h;try refine ah ?_
   exact(.pure _ (.bool _))
def mJ:Nat->(List Operator)->(List Operator)->Int->Option (List Operator)
  |0,_,_,_=>none
  |k+1,uX,zC,dN=>
    cond (decide (dN<(zC.length:Int))) (if 0<=dN then Option.bind (zC[dN.toNat]?) fun x3=>Option.bind (Qs (x3.fix==1)) fun p6=>cond (x3.text==([92,88]:Str)) (if(uX.length+1)*64<=1099511627776 then mJ k (uX++[(Operator.mk x3.text x3.fix x3.low x3.high x3.left (IntKind.wrap .i64 (1+p6)) 4)]) zC (IntKind.wrap .i64 (dN+1))else none) (if(uX.length+1)*64<=1099511627776 then mJ k (uX++[(Operator.mk x3.text x3.fix x3.low x3.high x3.left (IntKind.wrap .i64 (1+p6)) (IntKind.wrap .i64 (1+p6)))]) zC (IntKind.wrap .i64 (dN+1))else none)else none) (some (uX))
def ND:List Nat:=[1,3,4]++List.range' 48 27
theorem YT: ∀(k:Nat) (uX:List Operator) (zC:List Operator) (dN:Int) (sQ:Ck) (zD:Ck) (aC σ:Nat->PV) (H0 H:AH) (f0:Fr ND aC σ) (hf0:HF [] H0 H) (sl:σ 1=(.aB (uX.map Operator.cells) sQ)/\σ 2=(.aB (zC.map Operator.cells) zD)/\σ 3=(.int .i64 dN)) (YU:bA H sQ) (o:List Operator) (h:mJ k uX zC dN=some o) (Q:Post) (q0: ∀(p:List Operator) (c0:Ck) (σ':Nat->PV) (H':AH),o=p->Fr ND aC σ'->HF [] H0 H'->(σ' 1=(.aB (p.map Operator.cells) c0))->Q (.exit 0) σ' H'),W Tryz.prog (.loop TL) Q σ H:=by
  intro k
  induction k with
  |zero=>intro uX zC dN sQ zD aC σ H0 H f0 hf0 sl YU o h Q q0;simp only [mJ,reduceCtorEq]at h
  |succ k ih=>
    intro uX zC dN sQ zD aC σ H0 H f0 hf0 sl YU o h Q q0;obtain⟨s1,s2,s3⟩:=sl;have hle0:=hf0.1;unfold mJ at h;refine aU (fun K hK=>aD ?_);unfold TL;rcases au h with⟨e1,h⟩|⟨e1,h⟩
    ·obtain⟨e2,h⟩:=aQ h;obtain⟨x3,e4,h⟩:=aj h;obtain⟨p6,e5,h⟩:=aj h;try refine ah ?_
     refine aA (acD e5) ?_;rcases au h with⟨e7,h⟩|⟨e7,h⟩
     ·obtain⟨e12,h⟩:=aQ h;try refine ah ?_
      refine gF (f:=Operator.cells) Operator.row uX ([(Operator.mk x3.text x3.fix x3.low x3.high x3.left (IntKind.wrap .i64 (1+p6)) 4)]:List Operator) sQ .exact av av fM (by first|exact e12|(simp only [List.length_cons,List.length_nil];exact e12)) (fun c8 H9 aAX le awo aAY=> ?_);have ahZ:HF [] _ H9:=⟨le,fun i _ _=>awo i⟩;try simp only [AH.aK,AH.aL,AH.aM,AH.aN]at le
      have n22:=ne_next (show H.next<H9.next by first|omega|(simp only [AH.aK,AH.aL,AH.aM,AH.aN];omega));have m23:=aW (show H.next<H9.next by first|omega|(simp only [AH.aK,AH.aL,AH.aM,AH.aN];omega));try refine ah ?_
      refine hK _ _ ?_;exact ih (uX++[(Operator.mk x3.text x3.fix x3.low x3.high x3.left (IntKind.wrap .i64 (1+p6)) 4)]) zC (IntKind.wrap .i64 (dN+1)) c8 zD _ _ _ _ aJ (by repeat (first|exact hf0|refine HF.new ?_|refine HF.fP ?_|refine HF.used ?_|refine HF.put (by first|(right;omega)|(left;simp only [List.mem_cons,true_or,or_true])) ?_|refine HF.via ahZ (by first|exact fun i hi=>absurd hi List.not_mem_nil|(intro i hi;simp only [List.mem_cons,List.not_mem_nil,or_false]at hi⊢;first|exact .inl hi|omega)) ?_)) av fM _ h _ q0
     ·obtain⟨e19,h⟩:=aQ h;try refine ah ?_
      refine gF (f:=Operator.cells) Operator.row uX ([(Operator.mk x3.text x3.fix x3.low x3.high x3.left (IntKind.wrap .i64 (1+p6)) (IntKind.wrap .i64 (1+p6)))]:List Operator) sQ .exact av av fM (by first|exact e19|(simp only [List.length_cons,List.length_nil];exact e19)) (fun c15 H16 an3 le awp aAZ=> ?_);have ah0:HF [] _ H16:=⟨le,fun i _ _=>awp i⟩;try simp only [AH.aK,AH.aL,AH.aM,AH.aN]at le
      have n24:=ne_next (show H.next<H16.next by first|omega|(simp only [AH.aK,AH.aL,AH.aM,AH.aN];omega));have m25:=aW (show H.next<H16.next by first|omega|(simp only [AH.aK,AH.aL,AH.aM,AH.aN];omega));try refine ah ?_
      refine hK _ _ ?_;exact ih (uX++[(Operator.mk x3.text x3.fix x3.low x3.high x3.left (IntKind.wrap .i64 (1+p6)) (IntKind.wrap .i64 (1+p6)))]) zC (IntKind.wrap .i64 (dN+1)) c15 zD _ _ _ _ aJ (by repeat (first|exact hf0|refine HF.new ?_|refine HF.fP ?_|refine HF.used ?_|refine HF.put (by first|(right;omega)|(left;simp only [List.mem_cons,true_or,or_true])) ?_|refine HF.via ah0 (by first|exact fun i hi=>absurd hi List.not_mem_nil|(intro i hi;simp only [List.mem_cons,List.not_mem_nil,or_false]at hi⊢;first|exact .inl hi|omega)) ?_)) av fM _ h _ q0
    ·obtain rfl:=ak h;try refine ah ?_
     exact q0 _ sQ _ _ rfl aJ (by repeat (first|exact hf0|refine HF.new ?_|refine HF.fP ?_|refine HF.used ?_|refine HF.put (by first|(right;omega)|(left;simp only [List.mem_cons,true_or,or_true])) ?_)) av
def Eh (k:Nat):Option (List Operator):=
  Option.bind (mJ k ([]:List Operator) [(Operator.mk ([126]:Str) 0 4 4 false 0 0),(Operator.mk ([69,78,65,66,76,69,68]:Str) 0 4 15 false 0 0),(Operator.mk ([85,78,67,72,65,78,71,69,68]:Str) 0 4 15 false 0 0),(Operator.mk ([91,93]:Str) 0 4 15 false 0 0),(Operator.mk ([60,62]:Str) 0 4 15 false 0 0),(Operator.mk ([83,85,66,83,69,84]:Str) 0 8 8 false 0 0),(Operator.mk ([85,78,73,79,78]:Str) 0 8 8 false 0 0),(Operator.mk ([68,79,77,65,73,78]:Str) 0 9 9 false 0 0),(Operator.mk ([45,46]:Str) 0 12 12 false 0 0),(Operator.mk ([61,62]:Str) 1 1 1 false 0 0),(Operator.mk ([60,61,62]:Str) 1 2 2 false 0 0),(Operator.mk ([126,62]:Str) 1 2 2 false 0 0),(Operator.mk ([47,92]:Str) 1 3 3 true 0 0),(Operator.mk ([92,47]:Str) 1 3 3 true 0 0),(Operator.mk ([61]:Str) 1 5 5 false 0 0),(Operator.mk ([35]:Str) 1 5 5 false 0 0),(Operator.mk ([60]:Str) 1 5 5 false 0 0),(Operator.mk ([60,61]:Str) 1 5 5 false 0 0),(Operator.mk ([62]:Str) 1 5 5 false 0 0),(Operator.mk ([62,61]:Str) 1 5 5 false 0 0),(Operator.mk ([92,105,110]:Str) 1 5 5 false 0 0),(Operator.mk ([92,110,111,116,105,110]:Str) 1 5 5 false 0 0),(Operator.mk ([92,115,117,98,115,101,116,101,113]:Str) 1 5 5 false 0 0),(Operator.mk ([92,115,113,115,117,98,115,101,116,101,113]:Str) 1 5 5 false 0 0),(Operator.mk ([64,64]:Str) 1 6 6 true 0 0),(Operator.mk ([58,62]:Str) 1 7 7 false 0 0),(Operator.mk ([92,99,100,111,116]:Str) 1 5 14 true 0 0),(Operator.mk ([92,99,117,112]:Str) 1 8 8 true 0 0),(Operator.mk ([92,99,97,112]:Str) 1 8 8 true 0 0),(Operator.mk ([92]:Str) 1 8 8 false 0 0),(Operator.mk ([46,46]:Str) 1 9 9 false 0 0),(Operator.mk ([43]:Str) 1 10 10 true 0 0),(Operator.mk ([40,43,41]:Str) 1 10 10 true 0 0),(Operator.mk ([37]:Str) 1 10 11 false 0 0),(Operator.mk ([92,88]:Str) 1 10 13 false 0 0),(Operator.mk ([45]:Str) 1 11 11 true 0 0),(Operator.mk ([40,45,41]:Str) 1 11 11 true 0 0),(Operator.mk ([42]:Str) 1 13 13 true 0 0),(Operator.mk ([92,100,105,118]:Str) 1 13 13 false 0 0),(Operator.mk ([92,111]:Str) 1 13 13 true 0 0),(Operator.mk ([94]:Str) 1 14 14 false 0 0),(Operator.mk ([39]:Str) 2 15 15 false 0 0)] 0) (fun p28=>some p28)
theorem afB {k:Nat} {r:List Operator} (h:Eh k=some r):aF Tryz.prog 64 [] (.aB (r.map Operator.cells) .unk):=by
  refine aF.aP (bg.mem .nil) (aG avU (by simp) (aD ?_)) (aV Operator.pu _);unfold Eh at h;unfold aoL;try refine ah ?_
  obtain⟨o26,h27,h⟩:=aj h;refine YT k ([]:List Operator) [(Operator.mk ([126]:Str) 0 4 4 false 0 0),(Operator.mk ([69,78,65,66,76,69,68]:Str) 0 4 15 false 0 0),(Operator.mk ([85,78,67,72,65,78,71,69,68]:Str) 0 4 15 false 0 0),(Operator.mk ([91,93]:Str) 0 4 15 false 0 0),(Operator.mk ([60,62]:Str) 0 4 15 false 0 0),(Operator.mk ([83,85,66,83,69,84]:Str) 0 8 8 false 0 0),(Operator.mk ([85,78,73,79,78]:Str) 0 8 8 false 0 0),(Operator.mk ([68,79,77,65,73,78]:Str) 0 9 9 false 0 0),(Operator.mk ([45,46]:Str) 0 12 12 false 0 0),(Operator.mk ([61,62]:Str) 1 1 1 false 0 0),(Operator.mk ([60,61,62]:Str) 1 2 2 false 0 0),(Operator.mk ([126,62]:Str) 1 2 2 false 0 0),(Operator.mk ([47,92]:Str) 1 3 3 true 0 0),(Operator.mk ([92,47]:Str) 1 3 3 true 0 0),(Operator.mk ([61]:Str) 1 5 5 false 0 0),(Operator.mk ([35]:Str) 1 5 5 false 0 0),(Operator.mk ([60]:Str) 1 5 5 false 0 0),(Operator.mk ([60,61]:Str) 1 5 5 false 0 0),(Operator.mk ([62]:Str) 1 5 5 false 0 0),(Operator.mk ([62,61]:Str) 1 5 5 false 0 0),(Operator.mk ([92,105,110]:Str) 1 5 5 false 0 0),(Operator.mk ([92,110,111,116,105,110]:Str) 1 5 5 false 0 0),(Operator.mk ([92,115,117,98,115,101,116,101,113]:Str) 1 5 5 false 0 0),(Operator.mk ([92,115,113,115,117,98,115,101,116,101,113]:Str) 1 5 5 false 0 0),(Operator.mk ([64,64]:Str) 1 6 6 true 0 0),(Operator.mk ([58,62]:Str) 1 7 7 false 0 0),(Operator.mk ([92,99,100,111,116]:Str) 1 5 14 true 0 0),(Operator.mk ([92,99,117,112]:Str) 1 8 8 true 0 0),(Operator.mk ([92,99,97,112]:Str) 1 8 8 true 0 0),(Operator.mk ([92]:Str) 1 8 8 false 0 0),(Operator.mk ([46,46]:Str) 1 9 9 false 0 0),(Operator.mk ([43]:Str) 1 10 10 true 0 0),(Operator.mk ([40,43,41]:Str) 1 10 10 true 0 0),(Operator.mk ([37]:Str) 1 10 11 false 0 0),(Operator.mk ([92,88]:Str) 1 10 13 false 0 0),(Operator.mk ([45]:Str) 1 11 11 true 0 0),(Operator.mk ([40,45,41]:Str) 1 11 11 true 0 0),(Operator.mk ([42]:Str) 1 13 13 true 0 0),(Operator.mk ([92,100,105,118]:Str) 1 13 13 false 0 0),(Operator.mk ([92,111]:Str) 1 13 13 true 0 0),(Operator.mk ([94]:Str) 1 14 14 false 0 0),(Operator.mk ([39]:Str) 2 15 15 false 0 0)] 0 .nil .exact _ _ _ _ (Fr.refl _ _) (HF.refl _ _) av fM _ h27 _ ?_
  ·rintro p28 c32 σ' H31 eo Ph ah1 s33;rw [eo]at h;have le:=ah1.1;try simp only [AH.aK,AH.aL,AH.aM,AH.aN]at le
   obtain rfl:=ak h;try refine ah ?_
   exact(d9 Operator.pu _ _)
def jo:Nat->Str->Str->Int->Int->Int->Bool->Int->Int->(List Operator)->Int->Option ((Str×Int×Int×Int×Bool×Int×Int)⊕(Bool×Str×Int×Int×Int×Bool×Int×Int))
  |0,_,_,_,_,_,_,_,_,_,_=>none
  |k+1,jq,Gb,Gc,Gd,Gf,Gg,Gi,Gj,dY,dV=>
    cond (decide (dV<(dY.length:Int))) (if 0<=dV then Option.bind (dY[dV.toNat]?) fun x5=>cond (x5.text==jq) (some (.inr ((true,x5.text,x5.fix,x5.low,x5.high,x5.left,x5.least,x5.most)))) (jo k jq Gb Gc Gd Gf Gg Gi Gj dY (IntKind.wrap .i64 (dV+1)))else none) (some (.inl (Gb,Gc,Gd,Gf,Gg,Gi,Gj)))
def yM:List Nat:=[3,5]++List.range' 7 17
theorem Ng: ∀(k:Nat) (zF:Nat) (jq:Str) (Gb:Str) (Gc:Int) (Gd:Int) (Gf:Int) (Gg:Bool) (Gi:Int) (Gj:Int) (dY:List Operator) (dV:Int) (aC σ:Nat->PV) (H0 H:AH) (f0:Fr yM aC σ) (hf0:HF [zF] H0 H) (sl:σ 0=(.str jq)/\σ 2=(.ref (zF) 0)/\σ 4=(.aB (dY.map Operator.cells) .unk)/\σ 5=(.int .i64 dV)/\H.obj zF=some [(.str Gb),(.int .i64 Gc),(.int .i64 Gd),(.int .i64 Gf),(.bool Gg),(.int .i64 Gi),(.int .i64 Gj)]) (MN:zF<H.next) (o:(Str×Int×Int×Int×Bool×Int×Int)⊕(Bool×Str×Int×Int×Int×Bool×Int×Int)) (h:jo k jq Gb Gc Gd Gf Gg Gi Gj dY dV=some o) (Q:Post) (q0: ∀(p:Str×Int×Int×Int×Bool×Int×Int) (σ':Nat->PV) (H':AH),o= .inl p->Fr yM aC σ'->HF [zF] H0 H'->(H'.obj zF=some [(.str p.1),(.int .i64 p.2.1),(.int .i64 p.2.2.1),(.int .i64 p.2.2.2.1),(.bool p.2.2.2.2.1),(.int .i64 p.2.2.2.2.2.1),(.int .i64 p.2.2.2.2.2.2)])->Q (.exit 0) σ' H') (q1: ∀(p:Bool×Str×Int×Int×Int×Bool×Int×Int) (σ':Nat->PV) (H':AH),o= .inr (p)->Fr yM aC σ'->HF [zF] H0 H'->(σ' 3=(.bool p.1)/\H'.obj zF=some [(.str p.2.1),(.int .i64 p.2.2.1),(.int .i64 p.2.2.2.1),(.int .i64 p.2.2.2.2.1),(.bool p.2.2.2.2.2.1),(.int .i64 p.2.2.2.2.2.2.1),(.int .i64 p.2.2.2.2.2.2.2)])->Q .ret σ' H'),W Tryz.prog (.loop SS) Q σ H:=by
  intro k
  induction k with
  |zero=>intro zF jq Gb Gc Gd Gf Gg Gi Gj dY dV aC σ H0 H f0 hf0 sl MN o h Q q0 q1;simp only [jo,reduceCtorEq]at h
  |succ k ih=>
    intro zF jq Gb Gc Gd Gf Gg Gi Gj dY dV aC σ H0 H f0 hf0 sl MN o h Q q0 q1;obtain⟨s0,s2,s4,s5,ayb⟩:=sl;have ayc:=ne_next MN;have ayd:=aW MN;have hle0:=hf0.1;unfold jo at h;refine aU (fun K hK=>aD ?_);unfold SS;rcases au h with⟨e3,h⟩|⟨e3,h⟩
    ·obtain⟨e4,h⟩:=aQ h;obtain⟨x5,e6,h⟩:=aj h;rcases au h with⟨e7,h⟩|⟨e7,h⟩
     ·obtain rfl:=ak h;try refine ah ?_
      exact q1 _ _ _ rfl aJ (by repeat (first|exact hf0|refine HF.new ?_|refine HF.fP ?_|refine HF.used ?_|refine HF.put (by first|(right;omega)|(left;simp only [List.mem_cons,true_or,or_true])) ?_)) av
     ·try refine ah ?_
      refine hK _ _ ?_;exact ih zF jq Gb Gc Gd Gf Gg Gi Gj dY (IntKind.wrap .i64 (dV+1)) _ _ _ _ aJ (by repeat (first|exact hf0|refine HF.new ?_|refine HF.fP ?_|refine HF.used ?_|refine HF.put (by first|(right;omega)|(left;simp only [List.mem_cons,true_or,or_true])) ?_)) av bS _ h _ q0 q1
    ·obtain rfl:=ak h;try refine ah ?_
     exact q0 _ _ _ rfl aJ (by repeat (first|exact hf0|refine HF.new ?_|refine HF.fP ?_|refine HF.used ?_|refine HF.put (by first|(right;omega)|(left;simp only [List.mem_cons,true_or,or_true])) ?_)) av
def rO (k:Nat) (jq:Str):Option (Operator×Bool):=
  Option.bind (Eh k) fun p2=>Option.bind (jo k jq ([]:Str) 0 0 0 false 0 0 p2 0) (fun o=>Sum.elim (fun iT=>some ((Operator.mk [] 0 0 0 false 0 0),false)) (fun zG=>some ((Operator.mk zG.2.1 zG.2.2.1 zG.2.2.2.1 zG.2.2.2.2.1 zG.2.2.2.2.2.1 zG.2.2.2.2.2.2.1 zG.2.2.2.2.2.2.2),zG.1)) o)
theorem Ij {k:Nat} {jq:Str} {r:Operator×Bool} (h:rO k jq=some r):aF Tryz.prog 27 [(.str jq)] (.dJ [(.agg (Operator.cells r.1)),(.bool r.2)]):=by
  refine aF.aP (bg.mem (.cons (.str _) .nil)) (aG aoe (by simp) (aD ?_)) (.dJ _ (bg.mem (.cons (.agg _ (Operator.pu _)) (.cons (.bool _) .nil))));unfold rO at h;unfold aod;obtain⟨p2,e1,h⟩:=aj h;try refine ah ?_
  refine aA (afB e1) ?_;try refine ah ?_
  obtain⟨o8,h9,h⟩:=aj h;refine Ng k (AH.empty.next) jq ([]:Str) 0 0 0 false 0 0 p2 0 _ _ _ _ (Fr.refl _ _) (HF.refl _ _) av bS _ h9 _ ?_ ?_
  ·rintro iT σ' H13 eo KY qd g14;subst eo;rw [bL]at h;have s15:σ' 2=(.ref (AH.empty.next) 0):=(KY 2 (by decide)).trans av;have le:=qd.1;try simp only [AH.aK,AH.aL,AH.aM,AH.aN]at le
   have n17:=ne_next (show AH.empty.next<H13.next by first|omega|(simp only [AH.aK,AH.aL,AH.aM,AH.aN];omega));have m18:=aW (show AH.empty.next<H13.next by first|omega|(simp only [AH.aK,AH.aL,AH.aM,AH.aN];omega));obtain rfl:=ak h;try refine ah ?_
   exact(cZ (.cons (dK (.cons (.pure _ (.str _)) (.cons (.pure _ (.int _ _)) (.cons (.pure _ (.int _ _)) (.cons (.pure _ (.int _ _)) (.cons (.pure _ (.bool _)) (.cons (.pure _ (.int _ _)) (.cons (.pure _ (.int _ _)) .nil)))))))) (.cons (.pure _ (.bool _)) .nil)))
  ·rintro zG σ' H22 eo ah2 ah0 ⟨s23,g24⟩;subst eo;rw [bP]at h;have s25:σ' 2=(.ref (AH.empty.next) 0):=(ah2 2 (by decide)).trans av;have le:=ah0.1;try simp only [AH.aK,AH.aL,AH.aM,AH.aN]at le
   have n27:=ne_next (show AH.empty.next<H22.next by first|omega|(simp only [AH.aK,AH.aL,AH.aM,AH.aN];omega));have m28:=aW (show AH.empty.next<H22.next by first|omega|(simp only [AH.aK,AH.aL,AH.aM,AH.aN];omega));obtain rfl:=ak h;try refine ah ?_
   exact(cZ (.cons (dK (.cons (.pure _ (.str _)) (.cons (.pure _ (.int _ _)) (.cons (.pure _ (.int _ _)) (.cons (.pure _ (.int _ _)) (.cons (.pure _ (.bool _)) (.cons (.pure _ (.int _ _)) (.cons (.pure _ (.int _ _)) .nil)))))))) (.cons (.pure _ (.bool _)) .nil)))
def zH:Option (List Str):=
  some [([65,83,83,85,77,69]:Str),([65,83,83,85,77,80,84,73,79,78]:Str),([65,88,73,79,77]:Str),([66,89]:Str),([67,65,83,69]:Str),([67,72,79,79,83,69]:Str),([67,79,78,83,84,65,78,84]:Str),([67,79,78,83,84,65,78,84,83]:Str),([68,69,70]:Str),([68,69,70,73,78,69]:Str),([68,69,70,83]:Str),([68,79,77,65,73,78]:Str),([69,76,83,69]:Str),([69,78,65,66,76,69,68]:Str),([69,88,67,69,80,84]:Str),([69,88,84,69,78,68,83]:Str),([70,65,76,83,69]:Str),([72,65,86,69]:Str),([72,73,68,69]:Str),([73,70]:Str),([73,78]:Str),([73,78,83,84,65,78,67,69]:Str),([76,65,77,66,68,65]:Str),([76,69,77,77,65]:Str),([76,69,84]:Str),([76,79,67,65,76]:Str),([77,79,68,85,76,69]:Str),([78,69,87]:Str),([79,66,86,73,79,85,83]:Str),([79,77,73,84,84,69,68]:Str),([79,84,72,69,82]:Str),([80,73,67,75]:Str),([80,82,79,79,70]:Str),([80,82,79,80,79,83,73,84,73,79,78]:Str),([80,82,79,86,69]:Str),([81,69,68]:Str),([82,69,67,85,82,83,73,86,69]:Str),([83,85,66,83,69,84]:Str),([83,85,70,70,73,67,69,83]:Str),([84,65,75,69]:Str),([84,72,69,78]:Str),([84,72,69,79,82,69,77]:Str),([84,82,85,69]:Str),([85,78,67,72,65,78,71,69,68]:Str),([85,78,73,79,78]:Str),([85,83,69]:Str),([86,65,82,73,65,66,76,69]:Str),([86,65,82,73,65,66,76,69,83]:Str),([87,73,84,72]:Str),([87,73,84,78,69,83,83]:Str)]
theorem YV {r:List Str} (h:zH=some r):aF Tryz.prog 122 [] (.aB (r.map aI) .unk):=by
  refine aF.aP (bg.mem .nil) (aG asJ (by simp) (aD ?_)) (aV bn _);unfold zH at h;unfold ajX;obtain rfl:=ak h;try refine ah ?_
  exact(d9 bn [([65,83,83,85,77,69]:Str),([65,83,83,85,77,80,84,73,79,78]:Str),([65,88,73,79,77]:Str),([66,89]:Str),([67,65,83,69]:Str),([67,72,79,79,83,69]:Str),([67,79,78,83,84,65,78,84]:Str),([67,79,78,83,84,65,78,84,83]:Str),([68,69,70]:Str),([68,69,70,73,78,69]:Str),([68,69,70,83]:Str),([68,79,77,65,73,78]:Str),([69,76,83,69]:Str),([69,78,65,66,76,69,68]:Str),([69,88,67,69,80,84]:Str),([69,88,84,69,78,68,83]:Str),([70,65,76,83,69]:Str),([72,65,86,69]:Str),([72,73,68,69]:Str),([73,70]:Str),([73,78]:Str),([73,78,83,84,65,78,67,69]:Str),([76,65,77,66,68,65]:Str),([76,69,77,77,65]:Str),([76,69,84]:Str),([76,79,67,65,76]:Str),([77,79,68,85,76,69]:Str),([78,69,87]:Str),([79,66,86,73,79,85,83]:Str),([79,77,73,84,84,69,68]:Str),([79,84,72,69,82]:Str),([80,73,67,75]:Str),([80,82,79,79,70]:Str),([80,82,79,80,79,83,73,84,73,79,78]:Str),([80,82,79,86,69]:Str),([81,69,68]:Str),([82,69,67,85,82,83,73,86,69]:Str),([83,85,66,83,69,84]:Str),([83,85,70,70,73,67,69,83]:Str),([84,65,75,69]:Str),([84,72,69,78]:Str),([84,72,69,79,82,69,77]:Str),([84,82,85,69]:Str),([85,78,67,72,65,78,71,69,68]:Str),([85,78,73,79,78]:Str),([85,83,69]:Str),([86,65,82,73,65,66,76,69]:Str),([86,65,82,73,65,66,76,69,83]:Str),([87,73,84,72]:Str),([87,73,84,78,69,83,83]:Str)] _)
def zI (xq:Int):Option Bool:=
  cond (decide (xq>=97)) (cond (decide (xq<=122)) (some true) (cond (decide (xq>=65)) (some (decide (xq<=90))) (some false))) (cond (decide (xq>=65)) (some (decide (xq<=90))) (some false))
theorem KZ {xq:Int} {r:Bool} (h:zI xq=some r):aF Tryz.prog 123 [(.int .u8 xq)] (.bool r):=by
  refine aF.aP (bg.mem (.cons (.int _ _) .nil)) (aG asK (by simp) (aD ?_)) (.bool _);unfold zI at h;unfold ajY;rcases au h with⟨e1,h⟩|⟨e1,h⟩
  ·rcases au h with⟨e2,h⟩|⟨e2,h⟩
   ·obtain rfl:=ak h;try refine ah ?_
    exact(.pure _ (.bool _))
   ·rcases au h with⟨e3,h⟩|⟨e3,h⟩
    ·obtain rfl:=ak h;try refine ah ?_
     exact(.pure _ (.bool _))
    ·obtain rfl:=ak h;try refine ah ?_
     exact(.pure _ (.bool _))
  ·rcases au h with⟨e4,h⟩|⟨e4,h⟩
   ·obtain rfl:=ak h;try refine ah ?_
    exact(.pure _ (.bool _))
   ·obtain rfl:=ak h;try refine ah ?_
    exact(.pure _ (.bool _))
def Cz (xq:Int):Option Bool:=
  cond (decide (xq>=48)) (some (decide (xq<=57))) (some false)
theorem abH {xq:Int} {r:Bool} (h:Cz xq=some r):aF Tryz.prog 124 [(.int .u8 xq)] (.bool r):=by
  refine aF.aP (bg.mem (.cons (.int _ _) .nil)) (aG asL (by simp) (aD ?_)) (.bool _);unfold Cz at h;unfold ajZ;rcases au h with⟨e1,h⟩|⟨e1,h⟩
  ·obtain rfl:=ak h;try refine ah ?_
   exact(.pure _ (.bool _))
  ·obtain rfl:=ak h;try refine ah ?_
   exact(.pure _ (.bool _))
def Cc (k:Nat) (s_0:Str):Option (Unit⊕Bool):=
  Option.bind (iO (s_0.length:Int) 1 24) fun p2=>cond p2 (Option.bind (zH) fun p5=>Option.bind (mI k p5 s_0) fun p7=>cond p7 (some (.inr (false))) (some (.inl ()))) (some (.inr (false)))
def EB:List Nat:=[2]++List.range' 5 9
theorem Xr (k:Nat): ∀(s_0:Str) (aC σ:Nat->PV) (H:AH) (f0:Fr EB aC σ) (sl:σ 0=(.str s_0)) (o:Unit⊕Bool) (h:Cc k s_0=some o) (Q:Post) (q0: ∀(p:Unit) (σ':Nat->PV),o= .inl p->Fr EB aC σ'->Q .normal σ' H) (q1: ∀(p:Bool) (σ':Nat->PV),o= .inr (p)->Fr EB aC σ'->(σ' 2=(.bool p))->Q .ret σ' H),W Tryz.prog TQ Q σ H:=by
  intro s_0 aC σ H f0 sl o h Q q0 q1;have s0:=sl;unfold Cc at h;refine aD ?_;unfold TQ;obtain⟨p2,e1,h⟩:=aj h;try refine ah ?_
  refine aA (jc e1) ?_;rcases au h with⟨e3,h⟩|⟨e3,h⟩
  ·obtain⟨p5,e4,h⟩:=aj h;try refine ah ?_
   refine aA (YV e4) ?_;obtain⟨p7,e6,h⟩:=aj h;try refine ah ?_
   refine aA (zB e6) ?_;rcases au h with⟨e8,h⟩|⟨e8,h⟩
   ·obtain rfl:=ak h;try refine ah ?_
    exact q1 _ _ rfl aJ av
   ·obtain rfl:=ak h;try refine ah ?_
    exact q0 _ _ rfl aJ
  ·obtain rfl:=ak h;try refine ah ?_
   exact q1 _ _ rfl aJ av
def xM (s_0:Str) (gI:Int) (jh:Bool):Option Bool:=
  cond jh (if 0<=gI then Option.bind (s_0[gI.toNat]?) fun x24=>Option.bind (Cz (x24.toNat:Int)) fun p27=>cond p27 (some (false)) (some (((x24.toNat:Int) !=95)))else none) (some (false))
def K6:List Nat:=List.range' 26 12
theorem Xt: ∀(s_0:Str) (gI:Int) (jh:Bool) (aC σ:Nat->PV) (H:AH) (f0:Fr K6 aC σ) (sl:σ 0=(.str s_0)/\σ 4=(.int .i64 gI)/\σ 25=(.bool jh)) (o:Bool) (h:xM s_0 gI jh=some o) (Q:Post) (q0: ∀(p:Bool) (σ':Nat->PV),o=p->Fr K6 aC σ'->(σ' 37=(.bool p))->Q .normal σ' H),dz Tryz.prog TS (Q .normal) σ H:=by
  intro s_0 gI jh aC σ H f0 sl o h Q q0;obtain⟨s0,s4,s25⟩:=sl;unfold xM at h;refine eD ?_;unfold TS;rcases au h with⟨e22,h⟩|⟨e22,h⟩
  ·obtain⟨e23,h⟩:=aQ h;obtain⟨x24,e25,h⟩:=aj h;obtain⟨p27,e26,h⟩:=aj h;try refine ah ?_
   refine aA (abH e26) ?_;rcases au h with⟨e28,h⟩|⟨e28,h⟩
   ·obtain rfl:=ak h;try refine ah ?_
    exact q0 _ _ rfl aJ av
   ·obtain rfl:=ak h;try refine ah ?_
    exact q0 _ _ rfl aJ av
  ·obtain rfl:=ak h;try refine ah ?_
   exact q0 _ _ rfl aJ av
def lD:Nat->Str->Bool->Int->Option (Bool⊕Bool)
  |0,_,_,_=>none
  |k+1,s_0,vH,gI=>
    cond (decide (gI<(s_0.length:Int))) (if 0<=gI then Option.bind (s_0[gI.toNat]?) fun x18=>Option.bind (zI (x18.toNat:Int)) fun uj=>Option.bind (xM s_0 gI (!uj)) (fun p31=>cond p31 (some (.inr (false))) (cond vH (lD k s_0 true (IntKind.wrap .i64 (gI+1))) (lD k s_0 uj (IntKind.wrap .i64 (gI+1)))))else none) (some (.inl vH))
def EC:List Nat:=[2,3,4]++List.range' 14 31
theorem Xu: ∀(k:Nat) (s_0:Str) (vH:Bool) (gI:Int) (aC σ:Nat->PV) (H:AH) (f0:Fr EC aC σ) (sl:σ 0=(.str s_0)/\σ 3=(.bool vH)/\σ 4=(.int .i64 gI)) (o:Bool⊕Bool) (h:lD k s_0 vH gI=some o) (Q:Post) (q0: ∀(p:Bool) (σ':Nat->PV),o= .inl p->Fr EC aC σ'->(σ' 3=(.bool p))->Q (.exit 0) σ' H) (q1: ∀(p:Bool) (σ':Nat->PV),o= .inr (p)->Fr EC aC σ'->(σ' 2=(.bool p))->Q .ret σ' H),W Tryz.prog (.loop TT) Q σ H:=by
  intro k
  induction k with
  |zero=>intro s_0 vH gI aC σ H f0 sl o h Q q0 q1;simp only [lD,reduceCtorEq]at h
  |succ k ih=>
    intro s_0 vH gI aC σ H f0 sl o h Q q0 q1;obtain⟨s0,s3,s4⟩:=sl;unfold lD at h;refine aU (fun K hK=>aD ?_);unfold TT;rcases au h with⟨e16,h⟩|⟨e16,h⟩
    ·obtain⟨e17,h⟩:=aQ h;obtain⟨x18,e19,h⟩:=aj h;obtain⟨uj,e20,h⟩:=aj h;try refine ah ?_
     refine aA (KZ e20) ?_;try refine ah ?_
     obtain⟨o29,h30,h⟩:=aj h;refine Xt s_0 gI (!uj) _ _ _ (Fr.refl _ _) av _ h30 _ ?_
     ·rintro p31 σ' eo Pj s35;rw [eo]at h;have s36:σ' 0=(.str s_0):=(Pj 0 (by decide)).trans av;have s37:σ' 3=(.bool vH):=(Pj 3 (by decide)).trans av;have s38:σ' 4=(.int .i64 gI):=(Pj 4 (by decide)).trans av;rcases au h with⟨e39,h⟩|⟨e39,h⟩
      ·obtain rfl:=ak h;try refine ah ?_
       exact q1 _ _ rfl (by repeat (first|exact f0|refine Fr.upd (by decide) ?_|refine Fr.via Pj (by decide) ?_)) av
      ·rcases au h with⟨e40,h⟩|⟨e40,h⟩
       ·try refine ah ?_
        refine hK _ _ ?_;exact ih s_0 true (IntKind.wrap .i64 (gI+1)) _ _ _ (by repeat (first|exact f0|refine Fr.upd (by decide) ?_|refine Fr.via Pj (by decide) ?_)) av _ h _ q0 q1
       ·try refine ah ?_
        refine aA (KZ e20) ?_;try refine ah ?_
        refine hK _ _ ?_;exact ih s_0 uj (IntKind.wrap .i64 (gI+1)) _ _ _ (by repeat (first|exact f0|refine Fr.upd (by decide) ?_|refine Fr.via Pj (by decide) ?_)) av _ h _ q0 q1
    ·obtain rfl:=ak h;try refine ah ?_
     exact q0 _ _ rfl aJ av
def ED (k:Nat) (s_0:Str):Option Bool:=
  Option.bind (Cc k s_0) (fun o=>Sum.elim (fun nJ=>Option.bind (lD k s_0 false 0) (fun o=>Sum.elim (fun p45=>some p45) (fun p50=>some p50) o)) (fun p55=>some p55) o)
theorem adV {k:Nat} {s_0:Str} {r:Bool} (h:ED k s_0=some r):aF Tryz.prog 75 [(.str s_0)] (.bool r):=by
  refine aF.aP (bg.mem (.cons (.str _) .nil)) (aG av0 (by simp) (aD ?_)) (.bool _);unfold ED at h;unfold aoT;try refine ah ?_
  obtain⟨o9,h10,h⟩:=aj h;refine Xr k s_0 _ _ _ (Fr.refl _ _) av _ h10 _ ?_ ?_
  ·rintro nJ σ' eo pG;subst eo;rw [bL]at h;have s15:σ' 0=(.str s_0):=(pG 0 (by decide)).trans av;try refine ah ?_
   obtain⟨o43,h44,h⟩:=aj h;refine Xu k s_0 false 0 _ _ _ (Fr.refl _ _) av _ h44 _ ?_ ?_
   ·rintro p45 σ' eo aA0 s49;subst eo;rw [bL]at h;obtain rfl:=ak h;try refine ah ?_
    exact(.pure _ (.bool _))
   ·rintro p50 σ' eo aA1 s54;subst eo;rw [bP]at h;obtain rfl:=ak h;try refine ah ?_
    exact(.pure _ (.bool _))
  ·rintro p55 σ' eo aps s59;subst eo;rw [bP]at h;obtain rfl:=ak h;try refine ah ?_
   exact(.pure _ (.bool _))
def vI (s_0:Str):Option Bool:=
  cond (s_0==([84,82,85,69]:Str)) (some true) (cond (s_0==([70,65,76,83,69]:Str)) (some true) (cond (s_0==([66,79,79,76,69,65,78]:Str)) (some true) (some (s_0==([83,84,82,73,78,71]:Str)))))
theorem GY {s_0:Str} {r:Bool} (h:vI s_0=some r):aF Tryz.prog 76 [(.str s_0)] (.bool r):=by
  refine aF.aP (bg.mem (.cons (.str _) .nil)) (aG av1 (by simp) (aD ?_)) (.bool _);unfold vI at h;unfold aoU;rcases au h with⟨e1,h⟩|⟨e1,h⟩
  ·obtain rfl:=ak h;try refine ah ?_
   exact(.pure _ (.bool _))
  ·rcases au h with⟨e2,h⟩|⟨e2,h⟩
   ·obtain rfl:=ak h;try refine ah ?_
    exact(.pure _ (.bool _))
   ·rcases au h with⟨e3,h⟩|⟨e3,h⟩
    ·obtain rfl:=ak h;try refine ah ?_
     exact(.pure _ (.bool _))
    ·obtain rfl:=ak h;try refine ah ?_
     exact(.pure _ (.bool _))
def sS (k:Nat) (s_0:Str):Option Bool:=
  Option.bind (ED k s_0) fun p2=>cond p2 (Option.bind (vI s_0) fun p5=>cond p5 (some false) (cond (decide ((s_0.length:Int)>2)) (if 3<=s_0.length then cond ((s_0.take 3)==([87,70,95]:Str)) (some false) (some (!((s_0.take 3)==([83,70,95]:Str))))else none) (some true))) (some false)
theorem zJ {k:Nat} {s_0:Str} {r:Bool} (h:sS k s_0=some r):aF Tryz.prog 37 [(.str s_0)] (.bool r):=by
  refine aF.aP (bg.mem (.cons (.str _) .nil)) (aG aoo (by simp) (aD ?_)) (.bool _);unfold sS at h;unfold aon;obtain⟨p2,e1,h⟩:=aj h;try refine ah ?_
  refine aA (adV e1) ?_;rcases au h with⟨e3,h⟩|⟨e3,h⟩
  ·obtain⟨p5,e4,h⟩:=aj h;try refine ah ?_
   refine aA (GY e4) ?_;rcases au h with⟨e6,h⟩|⟨e6,h⟩
   ·obtain rfl:=ak h;try refine ah ?_
    exact(.pure _ (.bool _))
   ·rcases au h with⟨e7,h⟩|⟨e7,h⟩
    ·obtain⟨e8,h⟩:=aQ h;rcases au h with⟨e9,h⟩|⟨e9,h⟩
     ·obtain rfl:=ak h;try refine ah ?_
      exact(.pure _ (.bool _))
     ·obtain rfl:=ak h;try refine ah ?_
      exact(.pure _ (.bool _))
    ·obtain rfl:=ak h;try refine ah ?_
     exact(.pure _ (.bool _))
  ·obtain rfl:=ak h;try refine ah ?_
   exact(.pure _ (.bool _))
def lF:Nat->Str->Int->Option (Unit⊕Bool)
  |0,_,_=>none
  |k+1,s_0,dN=>
    cond (decide (dN<(s_0.length:Int))) (if 0<=dN then Option.bind (s_0[dN.toNat]?) fun x3=>cond ((x3.toNat:Int)==33) (if 0<=dN/\dN.toNat<=s_0.length then Option.bind (sS k (s_0.take dN.toNat)) fun p8=>cond p8 (if 0<=(IntKind.wrap .i64 (dN+1))/\(IntKind.wrap .i64 (dN+1)).toNat<=s_0.length then Option.bind (sS k (s_0.drop (IntKind.wrap .i64 (dN+1)).toNat)) fun l6=>some (.inr (l6))else none) (some (.inr (false)))else none) (lF k s_0 (IntKind.wrap .i64 (dN+1)))else none) (some (.inl ()))
def EF:List Nat:=List.range' 2 23
theorem Xv: ∀(k:Nat) (s_0:Str) (dN:Int) (aC σ:Nat->PV) (H:AH) (f0:Fr EF aC σ) (sl:σ 0=(.str s_0)/\σ 3=(.int .i64 dN)) (o:Unit⊕Bool) (h:lF k s_0 dN=some o) (Q:Post) (q0: ∀(p:Unit) (σ':Nat->PV),o= .inl p->Fr EF aC σ'->Q (.exit 0) σ' H) (q1: ∀(p:Bool) (σ':Nat->PV),o= .inr (p)->Fr EF aC σ'->(σ' 2=(.bool p))->Q .ret σ' H),W Tryz.prog (.loop TG) Q σ H:=by
  intro k
  induction k with
  |zero=>intro s_0 dN aC σ H f0 sl o h Q q0 q1;simp only [lF,reduceCtorEq]at h
  |succ k ih=>
    intro s_0 dN aC σ H f0 sl o h Q q0 q1;obtain⟨s0,s3⟩:=sl;unfold lF at h;refine aU (fun K hK=>aD ?_);unfold TG;rcases au h with⟨e1,h⟩|⟨e1,h⟩
    ·obtain⟨e2,h⟩:=aQ h;obtain⟨x3,e4,h⟩:=aj h;rcases au h with⟨e5,h⟩|⟨e5,h⟩
     ·obtain⟨e6,h⟩:=aQ h;obtain⟨p8,e7,h⟩:=aj h;try refine ah ?_
      refine aA (zJ e7) ?_;rcases au h with⟨e9,h⟩|⟨e9,h⟩
      ·obtain⟨e10,h⟩:=aQ h;obtain⟨l6,e11,h⟩:=aj h;try refine ah ?_
       refine aA (zJ e11) ?_;obtain rfl:=ak h;try refine ah ?_
       exact q1 _ _ rfl aJ av
      ·obtain rfl:=ak h;try refine ah ?_
       exact q1 _ _ rfl aJ av
     ·try refine ah ?_
      refine hK _ _ ?_;exact ih s_0 (IntKind.wrap .i64 (dN+1)) _ _ _ aJ av _ h _ q0 q1
    ·obtain rfl:=ak h;try refine ah ?_
     exact q0 _ _ rfl aJ
def sU (k:Nat) (s_0:Str):Option Bool:=
  Option.bind (lF k s_0 0) (fun o=>Sum.elim (fun zK=>Option.bind (sS k s_0) fun uj=>some uj) (fun JR=>some JR) o)
theorem zL {k:Nat} {s_0:Str} {r:Bool} (h:sU k s_0=some r):aF Tryz.prog 56 [(.str s_0)] (.bool r):=by
  refine aF.aP (bg.mem (.cons (.str _) .nil)) (aG avO (by simp) (aD ?_)) (.bool _);unfold sU at h;unfold aoD;try refine ah ?_
  obtain⟨o13,h14,h⟩:=aj h;refine Xv k s_0 0 _ _ _ (Fr.refl _ _) av _ h14 _ ?_ ?_
  ·rintro zK σ' eo UC;subst eo;rw [bL]at h;have pI:σ' 0=(.str s_0):=(UC 0 (by decide)).trans av;obtain⟨uj,e20,h⟩:=aj h;try refine ah ?_
   refine aA (zJ e20) ?_;obtain rfl:=ak h;try refine ah ?_
   exact(.pure _ (.bool _))
  ·rintro JR σ' eo UD s26;subst eo;rw [bP]at h;obtain rfl:=ak h;try refine ah ?_
   exact(.pure _ (.bool _))
def sV (dY:Int):Option Bool:=
  cond (dY==0) (some ((dY==0))) (cond (dY==1) (some ((dY==1))) (cond (dY==2) (some ((dY==2))) (some ((dY==20)))))
def NG:List Nat:=[5,6,7,8,9]
theorem YW: ∀(dY:Int) (aC σ:Nat->PV) (H:AH) (f0:Fr NG aC σ) (sl:σ 4=(.int .i64 dY)) (o:Bool) (h:sV dY=some o) (Q:Post) (q0: ∀(p:Bool) (σ':Nat->PV),o=p->Fr NG aC σ'->(σ' 5=(.bool p))->Q .normal σ' H),W Tryz.prog Ur Q σ H:=by
  intro dY aC σ H f0 sl o h Q q0;have s4:=sl;unfold sV at h;refine aD ?_;unfold Ur;rcases au h with⟨e1,h⟩|⟨e1,h⟩
  ·obtain rfl:=ak h;try refine ah ?_
   exact q0 _ _ rfl aJ av
  ·rcases au h with⟨e2,h⟩|⟨e2,h⟩
   ·obtain rfl:=ak h;try refine ah ?_
    exact q0 _ _ rfl aJ av
   ·rcases au h with⟨e3,h⟩|⟨e3,h⟩
    ·obtain rfl:=ak h;try refine ah ?_
     exact q0 _ _ rfl aJ av
    ·obtain rfl:=ak h;try refine ah ?_
     exact q0 _ _ rfl aJ av
def zM (dY:Int):Option Bool:=
  cond (dY==4) (some ((dY==4))) (some ((dY==5)))
theorem YX: ∀(dY:Int) (aC σ:Nat->PV) (H:AH) (f0:Fr [14,15,16] aC σ) (sl:σ 4=(.int .i64 dY)) (o:Bool) (h:zM dY=some o) (Q:Post) (q0: ∀(p:Bool) (σ':Nat->PV),o=p->Fr [14,15,16] aC σ'->(σ' 14=(.bool p))->Q .normal σ' H),W Tryz.prog Us Q σ H:=by
  intro dY aC σ H f0 sl o h Q q0;have s4:=sl;unfold zM at h;refine aD ?_;unfold Us;rcases au h with⟨e15,h⟩|⟨e15,h⟩
  ·obtain rfl:=ak h;try refine ah ?_
   exact q0 _ _ rfl aJ av
  ·obtain rfl:=ak h;try refine ah ?_
   exact q0 _ _ rfl aJ av
def zN (dY:Int):Option Bool:=
  cond (dY==6) (some ((dY==6))) (some ((dY==12)))
theorem YZ: ∀(dY:Int) (aC σ:Nat->PV) (H:AH) (f0:Fr [18,19,20] aC σ) (sl:σ 4=(.int .i64 dY)) (o:Bool) (h:zN dY=some o) (Q:Post) (q0: ∀(p:Bool) (σ':Nat->PV),o=p->Fr [18,19,20] aC σ'->(σ' 18=(.bool p))->Q .normal σ' H),W Tryz.prog Ut Q σ H:=by
  intro dY aC σ H f0 sl o h Q q0;have s4:=sl;unfold zN at h;refine aD ?_;unfold Ut;rcases au h with⟨e26,h⟩|⟨e26,h⟩
  ·obtain rfl:=ak h;try refine ah ?_
   exact q0 _ _ rfl aJ av
  ·obtain rfl:=ak h;try refine ah ?_
   exact q0 _ _ rfl aJ av
def zO (dY:Int):Option Bool:=
  cond (dY==7) (some ((dY==7))) (cond (dY==8) (some ((dY==8))) (cond (dY==9) (some ((dY==9))) (some ((dY==13)))))
def NH:List Nat:=[22,23,24,25,26]
theorem Y0: ∀(dY:Int) (aC σ:Nat->PV) (H:AH) (f0:Fr NH aC σ) (sl:σ 4=(.int .i64 dY)) (o:Bool) (h:zO dY=some o) (Q:Post) (q0: ∀(p:Bool) (σ':Nat->PV),o=p->Fr NH aC σ'->(σ' 22=(.bool p))->Q .normal σ' H),W Tryz.prog Uu Q σ H:=by
  intro dY aC σ H f0 sl o h Q q0;have s4:=sl;unfold zO at h;refine aD ?_;unfold Uu;rcases au h with⟨e37,h⟩|⟨e37,h⟩
  ·obtain rfl:=ak h;try refine ah ?_
   exact q0 _ _ rfl aJ av
  ·rcases au h with⟨e38,h⟩|⟨e38,h⟩
   ·obtain rfl:=ak h;try refine ah ?_
    exact q0 _ _ rfl aJ av
   ·rcases au h with⟨e39,h⟩|⟨e39,h⟩
    ·obtain rfl:=ak h;try refine ah ?_
     exact q0 _ _ rfl aJ av
    ·obtain rfl:=ak h;try refine ah ?_
     exact q0 _ _ rfl aJ av
def zP (dY:Int):Option Bool:=
  cond (dY==10) (some ((dY==10))) (some ((dY==11)))
theorem Y1: ∀(dY:Int) (aC σ:Nat->PV) (H:AH) (f0:Fr [28,29,30] aC σ) (sl:σ 4=(.int .i64 dY)) (o:Bool) (h:zP dY=some o) (Q:Post) (q0: ∀(p:Bool) (σ':Nat->PV),o=p->Fr [28,29,30] aC σ'->(σ' 28=(.bool p))->Q .normal σ' H),W Tryz.prog Uv Q σ H:=by
  intro dY aC σ H f0 sl o h Q q0;have s4:=sl;unfold zP at h;refine aD ?_;unfold Uv;rcases au h with⟨e50,h⟩|⟨e50,h⟩
  ·obtain rfl:=ak h;try refine ah ?_
   exact q0 _ _ rfl aJ av
  ·obtain rfl:=ak h;try refine ah ?_
   exact q0 _ _ rfl aJ av
def zQ (dY:Int):Option Bool:=
  cond (dY==15) (some ((dY==15))) (cond (dY==25) (some ((dY==25))) (cond (dY==26) (some ((dY==26))) (cond (dY==27) (some ((dY==27))) (some ((dY==28))))))
def NI:List Nat:=[35,36,37,38,39,40]
theorem Y2: ∀(dY:Int) (aC σ:Nat->PV) (H:AH) (f0:Fr NI aC σ) (sl:σ 4=(.int .i64 dY)) (o:Bool) (h:zQ dY=some o) (Q:Post) (q0: ∀(p:Bool) (σ':Nat->PV),o=p->Fr NI aC σ'->(σ' 35=(.bool p))->Q .normal σ' H),W Tryz.prog Uw Q σ H:=by
  intro dY aC σ H f0 sl o h Q q0;have s4:=sl;unfold zQ at h;refine aD ?_;unfold Uw;rcases au h with⟨e62,h⟩|⟨e62,h⟩
  ·obtain rfl:=ak h;try refine ah ?_
   exact q0 _ _ rfl aJ av
  ·rcases au h with⟨e63,h⟩|⟨e63,h⟩
   ·obtain rfl:=ak h;try refine ah ?_
    exact q0 _ _ rfl aJ av
   ·rcases au h with⟨e64,h⟩|⟨e64,h⟩
    ·obtain rfl:=ak h;try refine ah ?_
     exact q0 _ _ rfl aJ av
    ·rcases au h with⟨e65,h⟩|⟨e65,h⟩
     ·obtain rfl:=ak h;try refine ah ?_
      exact q0 _ _ rfl aJ av
     ·obtain rfl:=ak h;try refine ah ?_
      exact q0 _ _ rfl aJ av
def zR (dY:Int):Option Bool:=
  cond (dY==16) (some ((dY==16))) (some ((dY==17)))
theorem Y3: ∀(dY:Int) (aC σ:Nat->PV) (H:AH) (f0:Fr [42,43,44] aC σ) (sl:σ 4=(.int .i64 dY)) (o:Bool) (h:zR dY=some o) (Q:Post) (q0: ∀(p:Bool) (σ':Nat->PV),o=p->Fr [42,43,44] aC σ'->(σ' 42=(.bool p))->Q .normal σ' H),W Tryz.prog Ux Q σ H:=by
  intro dY aC σ H f0 sl o h Q q0;have s4:=sl;unfold zR at h;refine aD ?_;unfold Ux;rcases au h with⟨V9,h⟩|⟨V9,h⟩
  ·obtain rfl:=ak h;try refine ah ?_
   exact q0 _ _ rfl aJ av
  ·obtain rfl:=ak h;try refine ah ?_
   exact q0 _ _ rfl aJ av
def rP (dL:Int):Option ((Int×Int×Int×Int)×Bool):=
  Option.bind (sV dL) (fun p6=>cond p6 (some ((0,0,0,0),false)) (cond (dL==3) (some ((0,0,1,4),false)) (Option.bind (zM dL) (fun xu=>cond xu (some ((0,0,0,30),false)) (Option.bind (zN dL) (fun p29=>cond p29 (some ((1,1,2,2),false)) (Option.bind (zO dL) (fun p42=>cond p42 (some ((1,4,1,1),true)) (Option.bind (zP dL) (fun p53=>cond p53 (some ((1,4,1,1),false)) (cond (dL==14) (some ((0,0,2,5),false)) (Option.bind (zQ dL) (fun p68=>cond p68 (some ((0,0,2,2),false)) (Option.bind (zR dL) (fun p79=>cond p79 (some ((1,30,0,0),true)) (cond (dL==18) (some ((0,0,1,1),false)) (cond (dL==19) (some ((0,0,3,3),false)) (cond (dL==21) (some ((0,0,3,3),false)) (cond (dL==22) (some ((0,0,2,30),false)) (cond (dL==23) (some ((1,5,2,2),false)) (some ((1,4,1,1),false))))))))))))))))))))))
theorem afH {dL:Int} {r:(Int×Int×Int×Int)×Bool} (h:rP dL=some r):aF Tryz.prog 95 [(.int .i64 dL)] (.dJ [(.agg [(.int .i64 r.1.1),(.int .i64 r.1.2.1),(.int .i64 r.1.2.2.1),(.int .i64 r.1.2.2.2)]),(.bool r.2)]):=by
  refine aF.aP (bg.mem (.cons (.int _ _) .nil)) (aG awh (by simp) (aD ?_)) (.dJ _ (bg.mem (.cons (.agg _ (bg.mem (.cons (.int _ _) (.cons (.int _ _) (.cons (.int _ _) (.cons (.int _ _) .nil)))))) (.cons (.bool _) .nil))));unfold rP at h;unfold ao9;try refine ah ?_
  obtain⟨o4,h5,h⟩:=aj h;refine YW dL _ _ _ (Fr.refl _ _) av _ h5 _ ?_
  ·rintro p6 σ' eo fr7 s10;rw [eo]at h;have s11:σ' 2=(.ref (AH.empty.next) 0):=(fr7 2 (by decide)).trans av;have s12:σ' 4=(.int .i64 dL):=(fr7 4 (by decide)).trans av;rcases au h with⟨e13,h⟩|⟨e13,h⟩
   ·obtain rfl:=ak h;try refine ah ?_
    exact(cZ (.cons (dK (.cons (.pure _ (.int _ _)) (.cons (.pure _ (.int _ _)) (.cons (.pure _ (.int _ _)) (.cons (.pure _ (.int _ _)) .nil))))) (.cons (.pure _ (.bool _)) .nil)))
   ·rcases au h with⟨e14,h⟩|⟨e14,h⟩
    ·obtain rfl:=ak h;try refine ah ?_
     exact(cZ (.cons (dK (.cons (.pure _ (.int _ _)) (.cons (.pure _ (.int _ _)) (.cons (.pure _ (.int _ _)) (.cons (.pure _ (.int _ _)) .nil))))) (.cons (.pure _ (.bool _)) .nil)))
    ·try refine ah ?_
     obtain⟨o16,h17,h⟩:=aj h;refine YX dL _ _ _ (Fr.refl _ _) av _ h17 _ ?_
     ·rintro xu σ' eo ah3 s22;rw [eo]at h;have s23:σ' 2=(.ref (AH.empty.next) 0):=(ah3 2 (by decide)).trans av;have s24:σ' 4=(.int .i64 dL):=(ah3 4 (by decide)).trans av;rcases au h with⟨e25,h⟩|⟨e25,h⟩
      ·obtain rfl:=ak h;try refine ah ?_
       exact(cZ (.cons (dK (.cons (.pure _ (.int _ _)) (.cons (.pure _ (.int _ _)) (.cons (.pure _ (.int _ _)) (.cons (.pure _ (.int _ _)) .nil))))) (.cons (.pure _ (.bool _)) .nil)))
      ·try refine ah ?_
       obtain⟨o27,h28,h⟩:=aj h;refine YZ dL _ _ _ (Fr.refl _ _) av _ h28 _ ?_
       ·rintro p29 σ' eo GZ s33;rw [eo]at h;have s34:σ' 2=(.ref (AH.empty.next) 0):=(GZ 2 (by decide)).trans av;have s35:σ' 4=(.int .i64 dL):=(GZ 4 (by decide)).trans av;rcases au h with⟨e36,h⟩|⟨e36,h⟩
        ·obtain rfl:=ak h;try refine ah ?_
         exact(cZ (.cons (dK (.cons (.pure _ (.int _ _)) (.cons (.pure _ (.int _ _)) (.cons (.pure _ (.int _ _)) (.cons (.pure _ (.int _ _)) .nil))))) (.cons (.pure _ (.bool _)) .nil)))
        ·try refine ah ?_
         obtain⟨o40,h41,h⟩:=aj h;refine Y0 dL _ _ _ (Fr.refl _ _) av _ h41 _ ?_
         ·rintro p42 σ' eo apv s46;rw [eo]at h;have s47:σ' 2=(.ref (AH.empty.next) 0):=(apv 2 (by decide)).trans av;have s48:σ' 4=(.int .i64 dL):=(apv 4 (by decide)).trans av;rcases au h with⟨e49,h⟩|⟨e49,h⟩
          ·obtain rfl:=ak h;try refine ah ?_
           exact(cZ (.cons (dK (.cons (.pure _ (.int _ _)) (.cons (.pure _ (.int _ _)) (.cons (.pure _ (.int _ _)) (.cons (.pure _ (.int _ _)) .nil))))) (.cons (.pure _ (.bool _)) .nil)))
          ·try refine ah ?_
           obtain⟨o51,Y4,h⟩:=aj h;refine Y1 dL _ _ _ (Fr.refl _ _) av _ Y4 _ ?_
           ·rintro p53 σ' eo Jp s57;rw [eo]at h;have s58:σ' 2=(.ref (AH.empty.next) 0):=(Jp 2 (by decide)).trans av;have s59:σ' 4=(.int .i64 dL):=(Jp 4 (by decide)).trans av;rcases au h with⟨e60,h⟩|⟨e60,h⟩
            ·obtain rfl:=ak h;try refine ah ?_
             exact(cZ (.cons (dK (.cons (.pure _ (.int _ _)) (.cons (.pure _ (.int _ _)) (.cons (.pure _ (.int _ _)) (.cons (.pure _ (.int _ _)) .nil))))) (.cons (.pure _ (.bool _)) .nil)))
            ·rcases au h with⟨e61,h⟩|⟨e61,h⟩
             ·obtain rfl:=ak h;try refine ah ?_
              exact(cZ (.cons (dK (.cons (.pure _ (.int _ _)) (.cons (.pure _ (.int _ _)) (.cons (.pure _ (.int _ _)) (.cons (.pure _ (.int _ _)) .nil))))) (.cons (.pure _ (.bool _)) .nil)))
             ·try refine ah ?_
              obtain⟨o66,h67,h⟩:=aj h;refine Y2 dL _ _ _ (Fr.refl _ _) av _ h67 _ ?_
              ·rintro p68 σ' eo apx s72;rw [eo]at h;have s73:σ' 2=(.ref (AH.empty.next) 0):=(apx 2 (by decide)).trans av;have s74:σ' 4=(.int .i64 dL):=(apx 4 (by decide)).trans av;rcases au h with⟨Qv,h⟩|⟨Qv,h⟩
               ·obtain rfl:=ak h;try refine ah ?_
                exact(cZ (.cons (dK (.cons (.pure _ (.int _ _)) (.cons (.pure _ (.int _ _)) (.cons (.pure _ (.int _ _)) (.cons (.pure _ (.int _ _)) .nil))))) (.cons (.pure _ (.bool _)) .nil)))
               ·try refine ah ?_
                obtain⟨o77,h78,h⟩:=aj h;refine Y3 dL _ _ _ (Fr.refl _ _) av _ h78 _ ?_
                ·rintro p79 σ' eo apy s83;rw [eo]at h;have s84:σ' 2=(.ref (AH.empty.next) 0):=(apy 2 (by decide)).trans av;have s85:σ' 4=(.int .i64 dL):=(apy 4 (by decide)).trans av;rcases au h with⟨Qw,h⟩|⟨Qw,h⟩
                 ·obtain rfl:=ak h;try refine ah ?_
                  exact(cZ (.cons (dK (.cons (.pure _ (.int _ _)) (.cons (.pure _ (.int _ _)) (.cons (.pure _ (.int _ _)) (.cons (.pure _ (.int _ _)) .nil))))) (.cons (.pure _ (.bool _)) .nil)))
                 ·rcases au h with⟨e87,h⟩|⟨e87,h⟩
                  ·obtain rfl:=ak h;try refine ah ?_
                   exact(cZ (.cons (dK (.cons (.pure _ (.int _ _)) (.cons (.pure _ (.int _ _)) (.cons (.pure _ (.int _ _)) (.cons (.pure _ (.int _ _)) .nil))))) (.cons (.pure _ (.bool _)) .nil)))
                  ·rcases au h with⟨Qx,h⟩|⟨Qx,h⟩
                   ·obtain rfl:=ak h;try refine ah ?_
                    exact(cZ (.cons (dK (.cons (.pure _ (.int _ _)) (.cons (.pure _ (.int _ _)) (.cons (.pure _ (.int _ _)) (.cons (.pure _ (.int _ _)) .nil))))) (.cons (.pure _ (.bool _)) .nil)))
                   ·rcases au h with⟨Qy,h⟩|⟨Qy,h⟩
                    ·obtain rfl:=ak h;try refine ah ?_
                     exact(cZ (.cons (dK (.cons (.pure _ (.int _ _)) (.cons (.pure _ (.int _ _)) (.cons (.pure _ (.int _ _)) (.cons (.pure _ (.int _ _)) .nil))))) (.cons (.pure _ (.bool _)) .nil)))
                    ·rcases au h with⟨Y5,h⟩|⟨Y5,h⟩
                     ·obtain rfl:=ak h;try refine ah ?_
                      exact(cZ (.cons (dK (.cons (.pure _ (.int _ _)) (.cons (.pure _ (.int _ _)) (.cons (.pure _ (.int _ _)) (.cons (.pure _ (.int _ _)) .nil))))) (.cons (.pure _ (.bool _)) .nil)))
                     ·rcases au h with⟨Qz,h⟩|⟨Qz,h⟩
                      ·obtain rfl:=ak h;try refine ah ?_
                       exact(cZ (.cons (dK (.cons (.pure _ (.int _ _)) (.cons (.pure _ (.int _ _)) (.cons (.pure _ (.int _ _)) (.cons (.pure _ (.int _ _)) .nil))))) (.cons (.pure _ (.bool _)) .nil)))
                      ·obtain rfl:=ak h;try refine ah ?_
                       exact(cZ (.cons (dK (.cons (.pure _ (.int _ _)) (.cons (.pure _ (.int _ _)) (.cons (.pure _ (.int _ _)) (.cons (.pure _ (.int _ _)) .nil))))) (.cons (.pure _ (.bool _)) .nil)))
def mK:Nat->(List Nd)->Int->Option (Int⊕Int)
  |0,_,_=>none
  |k+1,aH,fH=>
    if 0<=fH then Option.bind (aH[fH.toNat]?) fun x3=>cond (decide ((x3.args.length:Int)>0)) (Option.bind (x3.args[0]?) fun x6=>Option.bind (iO x6 0 (IntKind.wrap .i64 (fH -1))) fun p9=>cond p9 (mK k aH x6) (some (.inr ((-1))))) (some (.inl fH))else none
def G5:List Nat:=[1,4,5]++List.range' 8 20
theorem Y6: ∀(k:Nat) (aH:List Nd) (fH:Int) (aC σ:Nat->PV) (H:AH) (f0:Fr G5 aC σ) (sl:σ 0=(.aB (aH.map Nd.cells) .unk)/\σ 1=(.int .i64 fH)) (o:Int⊕Int) (h:mK k aH fH=some o) (Q:Post) (q0: ∀(p:Int) (σ':Nat->PV),o= .inl p->Fr G5 aC σ'->(σ' 1=(.int .i64 p))->Q (.exit 0) σ' H) (q1: ∀(p:Int) (σ':Nat->PV),o= .inr (p)->Fr G5 aC σ'->(σ' 4=(.int .i64 p))->Q .ret σ' H),W Tryz.prog (.loop TH) Q σ H:=by
  intro k
  induction k with
  |zero=>intro aH fH aC σ H f0 sl o h Q q0 q1;simp only [mK,reduceCtorEq]at h
  |succ k ih=>
    intro aH fH aC σ H f0 sl o h Q q0 q1;obtain⟨s0,s1⟩:=sl;unfold mK at h;refine aU (fun K hK=>aD ?_);unfold TH;obtain⟨e2,h⟩:=aQ h;obtain⟨x3,e4,h⟩:=aj h;rcases au h with⟨e5,h⟩|⟨e5,h⟩
    ·obtain⟨x6,e7,h⟩:=aj h;obtain⟨p9,e8,h⟩:=aj h;try refine ah ?_
     refine aA (jc e8) ?_;rcases au h with⟨e10,h⟩|⟨e10,h⟩
     ·try refine ah ?_
      refine hK _ _ ?_;exact ih aH x6 _ _ _ aJ av _ h _ q0 q1
     ·obtain rfl:=ak h;try refine ah ?_
      exact q1 _ _ rfl aJ av
    ·obtain rfl:=ak h;try refine ah ?_
     exact q0 _ _ rfl aJ av
def uF (k:Nat) (aH:List Nd) (fH:Int):Option Int:=
  cond (decide (fH<0)) (some (-1)) (Option.bind (mK k aH fH) (fun o=>Sum.elim (fun uY=>some uY) (fun xu=>some xu) o))
theorem K7 {k:Nat} {aH:List Nd} {fH:Int} {c0:Ck} {r:Int} (h:uF k aH fH=some r):aF Tryz.prog 57 [(.aB (aH.map Nd.cells) c0),(.int .i64 fH)] (.int .i64 r):=by
  refine aF.lw (.aB (.same .nil)) (aF.aP (bg.mem (.cons (aV Nd.pu _) (.cons (.int _ _) .nil))) (aG avP (by simp) (aD ?_)) (.int _ _));unfold uF at h;unfold aoE;rcases au h with⟨e1,h⟩|⟨e1,h⟩
  ·obtain rfl:=ak h;try refine ah ?_
   exact(.pure _ (.int _ _))
  ·try refine ah ?_
   obtain⟨o11,h12,h⟩:=aj h;refine Y6 k aH fH _ _ _ (Fr.refl _ _) av _ h12 _ ?_ ?_
   ·rintro uY σ' eo apA um;subst eo;rw [bL]at h;obtain rfl:=ak h;try refine ah ?_
    exact(.pure _ (.int _ _))
   ·rintro xu σ' eo ah3 s22;subst eo;rw [bP]at h;obtain rfl:=ak h;try refine ah ?_
    exact(.pure _ (.int _ _))
def oD:Nat->(List Nd)->Int->Int->Int->Option (Unit⊕Bool)
  |0,_,_,_,_=>none
  |k+1,aH,dD,CB,nS=>
    cond (decide (nS>=0)) (if 0<=dD then Option.bind (aH[dD.toNat]?) fun x6=>if 0<=nS then Option.bind (x6.args[nS.toNat]?) fun x9=>cond (x9 !=(IntKind.wrap .i64 (CB -1))) (some (.inr (false))) (cond (decide (CB<1)) (some (.inr (false))) (Option.bind (uF k aH (IntKind.wrap .i64 (CB -1))) fun jO=>oD k aH dD jO (IntKind.wrap .i64 (nS -1))))else none else none) (some (.inl ()))
def EG:List Nat:=[4,5,6]++List.range' 15 23
theorem Xw: ∀(k:Nat) (aH:List Nd) (dD:Int) (CB:Int) (nS:Int) (aC σ:Nat->PV) (H:AH) (f0:Fr EG aC σ) (sl:σ 0=(.aB (aH.map Nd.cells) .unk)/\σ 1=(.int .i64 dD)/\σ 5=(.int .i64 CB)/\σ 6=(.int .i64 nS)) (o:Unit⊕Bool) (h:oD k aH dD CB nS=some o) (Q:Post) (q0: ∀(p:Unit) (σ':Nat->PV),o= .inl p->Fr EG aC σ'->Q (.exit 0) σ' H) (q1: ∀(p:Bool) (σ':Nat->PV),o= .inr (p)->Fr EG aC σ'->(σ' 4=(.bool p))->Q .ret σ' H),W Tryz.prog (.loop Uy) Q σ H:=by
  intro k
  induction k with
  |zero=>intro aH dD CB nS aC σ H f0 sl o h Q q0 q1;simp only [oD,reduceCtorEq]at h
  |succ k ih=>
    intro aH dD CB nS aC σ H f0 sl o h Q q0 q1;obtain⟨s0,s1,s5,s6⟩:=sl;unfold oD at h;refine aU (fun K hK=>aD ?_);unfold Uy;rcases au h with⟨e4,h⟩|⟨e4,h⟩
    ·obtain⟨e5,h⟩:=aQ h;obtain⟨x6,e7,h⟩:=aj h;obtain⟨e8,h⟩:=aQ h;obtain⟨x9,e10,h⟩:=aj h;rcases au h with⟨e11,h⟩|⟨e11,h⟩
     ·obtain rfl:=ak h;try refine ah ?_
      exact q1 _ _ rfl aJ av
     ·rcases au h with⟨e12,h⟩|⟨e12,h⟩
      ·obtain rfl:=ak h;try refine ah ?_
       exact q1 _ _ rfl aJ av
      ·obtain⟨jO,e13,h⟩:=aj h;try refine ah ?_
       refine aA (K7 e13) ?_;try refine ah ?_
       refine hK _ _ ?_;exact ih aH dD jO (IntKind.wrap .i64 (nS -1)) _ _ _ aJ av _ h _ q0 q1
    ·obtain rfl:=ak h;try refine ah ?_
     exact q0 _ _ rfl aJ
def Bu (k:Nat) (aH:List Nd) (dD:Int):Option Bool:=
  if 0<=dD then Option.bind (aH[dD.toNat]?) fun x2=>Option.bind (oD k aH dD dD (IntKind.wrap .i64 ((x2.args.length:Int) -1))) (fun o=>Sum.elim (fun NJ=>some true) (fun uj=>some uj) o)else none
theorem adW {k:Nat} {aH:List Nd} {dD:Int} {c0:Ck} {r:Bool} (h:Bu k aH dD=some r):aF Tryz.prog 96 [(.aB (aH.map Nd.cells) c0),(.int .i64 dD)] (.bool r):=by
  refine aF.lw (.aB (.same .nil)) (aF.aP (bg.mem (.cons (aV Nd.pu _) (.cons (.int _ _) .nil))) (aG apb (by simp) (aD ?_)) (.bool _));unfold Bu at h;unfold apa;obtain⟨e1,h⟩:=aQ h;obtain⟨x2,e3,h⟩:=aj h;try refine ah ?_
  obtain⟨o15,h16,h⟩:=aj h;refine Xw k aH dD dD (IntKind.wrap .i64 ((x2.args.length:Int) -1)) _ _ _ (Fr.refl _ _) av _ h16 _ ?_ ?_
  ·rintro NJ σ' eo apB;subst eo;rw [bL]at h;obtain rfl:=ak h;try refine ah ?_
   exact(.pure _ (.bool _))
  ·rintro uj σ' eo aA2 s25;subst eo;rw [bP]at h;obtain rfl:=ak h;try refine ah ?_
   exact(.pure _ (.bool _))
def lH:Nat->Str->Int->Option (Unit⊕Bool)
  |0,_,_=>none
  |k+1,s_0,dV=>
    cond (decide (dV<(s_0.length:Int))) (if 0<=dV then Option.bind (s_0[dV.toNat]?) fun x4=>cond (decide ((x4.toNat:Int)<32)) (some (.inr (false))) (cond (decide ((x4.toNat:Int)>126)) (some (.inr (false))) (lH k s_0 (IntKind.wrap .i64 (dV+1))))else none) (some (.inl ()))
def Db:List Nat:=[4,5]++List.range' 10 16
theorem UE: ∀(k:Nat) (s_0:Str) (dV:Int) (aC σ:Nat->PV) (H:AH) (f0:Fr Db aC σ) (sl:σ 0=(.str s_0)/\σ 5=(.int .i64 dV)) (o:Unit⊕Bool) (h:lH k s_0 dV=some o) (Q:Post) (q0: ∀(p:Unit) (σ':Nat->PV),o= .inl p->Fr Db aC σ'->Q (.exit 0) σ' H) (q1: ∀(p:Bool) (σ':Nat->PV),o= .inr (p)->Fr Db aC σ'->(σ' 4=(.bool p))->Q .ret σ' H),W Tryz.prog (.loop O5) Q σ H:=by
  intro k
  induction k with
  |zero=>intro s_0 dV aC σ H f0 sl o h Q q0 q1;simp only [lH,reduceCtorEq]at h
  |succ k ih=>
    intro s_0 dV aC σ H f0 sl o h Q q0 q1;obtain⟨s0,s5⟩:=sl;unfold lH at h;refine aU (fun K hK=>aD ?_);unfold O5;rcases au h with⟨e2,h⟩|⟨e2,h⟩
    ·obtain⟨e3,h⟩:=aQ h;obtain⟨x4,e5,h⟩:=aj h;rcases au h with⟨e6,h⟩|⟨e6,h⟩
     ·obtain rfl:=ak h;try refine ah ?_
      exact q1 _ _ rfl aJ av
     ·rcases au h with⟨e7,h⟩|⟨e7,h⟩
      ·obtain rfl:=ak h;try refine ah ?_
       exact q1 _ _ rfl aJ av
      ·try refine ah ?_
       refine hK _ _ ?_;exact ih s_0 (IntKind.wrap .i64 (dV+1)) _ _ _ aJ av _ h _ q0 q1
    ·obtain rfl:=ak h;try refine ah ?_
     exact q0 _ _ rfl aJ
def CF (k:Nat) (s_0:Str) (QA:Int):Option Bool:=
  cond (decide ((s_0.length:Int)>QA)) (some false) (Option.bind (lH k s_0 0) (fun o=>Sum.elim (fun iT=>some true) (fun jO=>some jO) o))
theorem abI {k:Nat} {s_0:Str} {QA:Int} {r:Bool} (h:CF k s_0 QA=some r):aF Tryz.prog 148 [(.str s_0),(.int .i64 QA)] (.bool r):=by
  refine aF.aP (bg.mem (.cons (.str _) (.cons (.int _ _) .nil))) (aG as5 (by simp) (aD ?_)) (.bool _);unfold CF at h;unfold akk;rcases au h with⟨e1,h⟩|⟨e1,h⟩
  ·obtain rfl:=ak h;try refine ah ?_
   exact(.pure _ (.bool _))
  ·try refine ah ?_
   obtain⟨o8,h9,h⟩:=aj h;refine UE k s_0 0 _ _ _ (Fr.refl _ _) av _ h9 _ ?_ ?_
   ·rintro iT σ' eo KY;subst eo;rw [bL]at h;obtain rfl:=ak h;try refine ah ?_
    exact(.pure _ (.bool _))
   ·rintro jO σ' eo xE jE;subst eo;rw [bP]at h;obtain rfl:=ak h;try refine ah ?_
    exact(.pure _ (.bool _))
def nW:Nat->Str->Int->Option (Unit⊕Bool)
  |0,_,_=>none
  |k+1,s_0,dN=>
    cond (decide (dN<(s_0.length:Int))) (if 0<=dN then Option.bind (s_0[dN.toNat]?) fun x6=>cond ((x6.toNat:Int)==34) (some (.inr (false))) (cond ((x6.toNat:Int)==92) (some (.inr (false))) (nW k s_0 (IntKind.wrap .i64 (dN+1))))else none) (some (.inl ()))
def G6:List Nat:=[2,3]++List.range' 7 16
theorem Y7: ∀(k:Nat) (s_0:Str) (dN:Int) (aC σ:Nat->PV) (H:AH) (f0:Fr G6 aC σ) (sl:σ 0=(.str s_0)/\σ 3=(.int .i64 dN)) (o:Unit⊕Bool) (h:nW k s_0 dN=some o) (Q:Post) (q0: ∀(p:Unit) (σ':Nat->PV),o= .inl p->Fr G6 aC σ'->Q (.exit 0) σ' H) (q1: ∀(p:Bool) (σ':Nat->PV),o= .inr (p)->Fr G6 aC σ'->(σ' 2=(.bool p))->Q .ret σ' H),W Tryz.prog (.loop Uz) Q σ H:=by
  intro k
  induction k with
  |zero=>intro s_0 dN aC σ H f0 sl o h Q q0 q1;simp only [nW,reduceCtorEq]at h
  |succ k ih=>
    intro s_0 dN aC σ H f0 sl o h Q q0 q1;obtain⟨s0,s3⟩:=sl;unfold nW at h;refine aU (fun K hK=>aD ?_);unfold Uz;rcases au h with⟨e4,h⟩|⟨e4,h⟩
    ·obtain⟨e5,h⟩:=aQ h;obtain⟨x6,e7,h⟩:=aj h;rcases au h with⟨e8,h⟩|⟨e8,h⟩
     ·obtain rfl:=ak h;try refine ah ?_
      exact q1 _ _ rfl aJ av
     ·rcases au h with⟨e9,h⟩|⟨e9,h⟩
      ·obtain rfl:=ak h;try refine ah ?_
       exact q1 _ _ rfl aJ av
      ·try refine ah ?_
       refine hK _ _ ?_;exact ih s_0 (IntKind.wrap .i64 (dN+1)) _ _ _ aJ av _ h _ q0 q1
    ·obtain rfl:=ak h;try refine ah ?_
     exact q0 _ _ rfl aJ
def iI (k:Nat) (s_0:Str):Option Bool:=
  Option.bind (CF k s_0 40) fun p2=>cond p2 (Option.bind (nW k s_0 0) (fun o=>Sum.elim (fun l6=>some true) (fun p16=>some p16) o)) (some false)
theorem lU {k:Nat} {s_0:Str} {r:Bool} (h:iI k s_0=some r):aF Tryz.prog 97 [(.str s_0)] (.bool r):=by
  refine aF.aP (bg.mem (.cons (.str _) .nil)) (aG awi (by simp) (aD ?_)) (.bool _);unfold iI at h;unfold apc;obtain⟨p2,e1,h⟩:=aj h;try refine ah ?_
  refine aA (abI e1) ?_;rcases au h with⟨e3,h⟩|⟨e3,h⟩
  ·try refine ah ?_
   obtain⟨o10,h11,h⟩:=aj h;refine Y7 k s_0 0 _ _ _ (Fr.refl _ _) av _ h11 _ ?_ ?_
   ·rintro l6 σ' eo Jo;subst eo;rw [bL]at h;obtain rfl:=ak h;try refine ah ?_
    exact(.pure _ (.bool _))
   ·rintro p16 σ' eo Y8 s20;subst eo;rw [bP]at h;obtain rfl:=ak h;try refine ah ?_
    exact(.pure _ (.bool _))
  ·obtain rfl:=ak h;try refine ah ?_
   exact(.pure _ (.bool _))
def zS (bC:Int) (bQ:Int) (bK:Str) (bU:List Str) (cO:List Int) (EH:Bool):Option Bool:=
  cond EH (some ((bC==3))) (some (false))
theorem UF: ∀(dw:Nat) (bC:Int) (bQ:Int) (bK:Str) (bU:List Str) (cO:List Int) (EH:Bool) (aC σ:Nat->PV) (H:AH) (f0:Fr [38,39,40,41] aC σ) (sl:σ 5=(.ref (dw) 0)/\σ 37=(.bool EH)/\H.obj dw=some [(.int .i64 bC),(.int .i64 bQ),(.str bK),(.aB (bU.map aI) .unk),(.aB (cO.map aY) .unk)]) (dx:dw<H.next) (o:Bool) (h:zS bC bQ bK bU cO EH=some o) (Q:Post) (q0: ∀(p:Bool) (σ':Nat->PV),o=p->Fr [38,39,40,41] aC σ'->(σ' 41=(.bool p))->Q .normal σ' H),dz Tryz.prog Tn (Q .normal) σ H:=by
  intro dw bC bQ bK bU cO EH aC σ H f0 sl dx o h Q q0;obtain⟨s5,s37,yV⟩:=sl;have yX:=ne_next dx;have yY:=aW dx;unfold zS at h;refine eD ?_;unfold Tn;rcases au h with⟨e11,h⟩|⟨e11,h⟩
  ·obtain rfl:=ak h;try refine ah ?_
   exact q0 _ _ rfl aJ av
  ·obtain rfl:=ak h;try refine ah ?_
   exact q0 _ _ rfl aJ av
def vJ (k:Nat) (bC:Int) (bQ:Int) (bK:Str) (bU:List Str) (cO:List Int) (zT:Int) (zU:Int) (zV:Int) (zW:Int):Option ((Int×Int×Int×Int)):=
  Option.bind (rO k bK) fun iT=>Option.bind (zS bC bQ bK bU cO iT.2) (fun jO=>cond jO (some ((zT,zU,0,(cO.length:Int)))) (some ((zT,zU,zV,zW))))
def JU:List Nat:=[8,9]++List.range' 30 17
theorem UG (k:Nat): ∀(dw:Nat) (sW:Nat) (bC:Int) (bQ:Int) (bK:Str) (bU:List Str) (cO:List Int) (zT:Int) (zU:Int) (zV:Int) (zW:Int) (aC σ:Nat->PV) (H0 H:AH) (f0:Fr JU aC σ) (hf0:HF [sW] H0 H) (sl:σ 5=(.ref (dw) 0)/\σ 6=(.ref (sW) 0)/\H.obj dw=some [(.int .i64 bC),(.int .i64 bQ),(.str bK),(.aB (bU.map aI) .unk),(.aB (cO.map aY) .unk)]/\H.obj sW=some [(.int .i64 zT),(.int .i64 zU),(.int .i64 zV),(.int .i64 zW)]) (dx:dw<H.next) (Bv:sW<H.next) (Dc:dw≠sW) (o:(Int×Int×Int×Int)) (h:vJ k bC bQ bK bU cO zT zU zV zW=some o) (Q:Post) (q0: ∀(p:Int×Int×Int×Int) (σ':Nat->PV) (H':AH),o=p->Fr JU aC σ'->HF [sW] H0 H'->(H'.obj sW=some [(.int .i64 p.1),(.int .i64 p.2.1),(.int .i64 p.2.2.1),(.int .i64 p.2.2.2)])->Q .normal σ' H'),W Tryz.prog Tp Q σ H:=by
  intro dw sW bC bQ bK bU cO zT zU zV zW aC σ H0 H f0 hf0 sl dx Bv Dc o h Q q0;obtain⟨s5,s6,yV,ame⟩:=sl;have yX:=ne_next dx;have yY:=aW dx;have amf:=ne_next Bv;have amg:=aW Bv;have am3:=eq_false Dc;have am4:=eq_false (Ne.symm Dc);have hle0:=hf0.1;unfold vJ at h;refine aD ?_;unfold Tp;obtain⟨iT,e9,h⟩:=aj h;try refine ah ?_
  refine aA (Ij e9) ?_;try refine ah ?_
  obtain⟨o12,K8,h⟩:=aj h;refine UF (dw) bC bQ bK bU cO iT.2 _ _ _ (Fr.refl _ _) av bS _ K8 _ ?_
  ·rintro jO σ' eo xE jE;rw [eo]at h;have pI:σ' 5=(.ref (dw) 0):=(xE 5 (by decide)).trans av;have s20:σ' 6=(.ref (sW) 0):=(xE 6 (by decide)).trans av;rcases au h with⟨e21,h⟩|⟨e21,h⟩
   ·try refine ah ?_
    refine Sn (sW) ?_;obtain rfl:=ak h;try refine ah ?_
    exact q0 _ _ _ rfl (by repeat (first|exact f0|refine Fr.upd (by decide) ?_|refine Fr.via xE (by decide) ?_)) (by repeat (first|exact hf0|refine HF.new ?_|refine HF.fP ?_|refine HF.used ?_|refine HF.put (by first|(right;omega)|(left;simp only [List.mem_cons,true_or,or_true])) ?_)) av
   ·obtain rfl:=ak h;try refine ah ?_
    exact q0 _ _ _ rfl (by repeat (first|exact f0|refine Fr.upd (by decide) ?_|refine Fr.via xE (by decide) ?_)) (by repeat (first|exact hf0|refine HF.new ?_|refine HF.fP ?_|refine HF.used ?_|refine HF.put (by first|(right;omega)|(left;simp only [List.mem_cons,true_or,or_true])) ?_)) av
def vK (zT:Int) (zU:Int) (zV:Int) (zW:Int) (Ik:Int) (EI:Bool):Option Bool:=
  cond EI (some (true)) (Option.bind (iO Ik zV zW) fun p46=>some ((!p46)))
def JV:List Nat:=List.range' 67 8
theorem UH: ∀(sW:Nat) (zT:Int) (zU:Int) (zV:Int) (zW:Int) (Ik:Int) (EI:Bool) (aC σ:Nat->PV) (H:AH) (f0:Fr JV aC σ) (sl:σ 6=(.ref (sW) 0)/\σ 10=(.int .i64 Ik)/\σ 66=(.bool EI)/\H.obj sW=some [(.int .i64 zT),(.int .i64 zU),(.int .i64 zV),(.int .i64 zW)]) (Bv:sW<H.next) (o:Bool) (h:vK zT zU zV zW Ik EI=some o) (Q:Post) (q0: ∀(p:Bool) (σ':Nat->PV),o=p->Fr JV aC σ'->(σ' 74=(.bool p))->Q .normal σ' H),dz Tryz.prog Tq (Q .normal) σ H:=by
  intro sW zT zU zV zW Ik EI aC σ H f0 sl Bv o h Q q0;obtain⟨s6,s10,s66,ame⟩:=sl;have amf:=ne_next Bv;have amg:=aW Bv;unfold vK at h;refine eD ?_;unfold Tq;rcases au h with⟨e44,h⟩|⟨e44,h⟩
  ·obtain rfl:=ak h;try refine ah ?_
   exact q0 _ _ rfl aJ av
  ·obtain⟨p46,e45,h⟩:=aj h;try refine ah ?_
   refine aA (jc e45) ?_;obtain rfl:=ak h;try refine ah ?_
   exact q0 _ _ rfl aJ av
def vL (bC:Int) (bQ:Int) (bK:Str) (bU:List Str) (cO:List Int) (Y9:Bool):Option Bool:=
  cond Y9 (some (true)) (cond (bC==2) (some (true)) (cond (bC==3) (some (true)) (some ((bC==18)))))
def JW:List Nat:=List.range' 79 14
theorem UJ: ∀(dw:Nat) (bC:Int) (bQ:Int) (bK:Str) (bU:List Str) (cO:List Int) (Y9:Bool) (aC σ:Nat->PV) (H:AH) (f0:Fr JW aC σ) (sl:σ 5=(.ref (dw) 0)/\σ 78=(.bool Y9)/\H.obj dw=some [(.int .i64 bC),(.int .i64 bQ),(.str bK),(.aB (bU.map aI) .unk),(.aB (cO.map aY) .unk)]) (dx:dw<H.next) (o:Bool) (h:vL bC bQ bK bU cO Y9=some o) (Q:Post) (q0: ∀(p:Bool) (σ':Nat->PV),o=p->Fr JW aC σ'->(σ' 92=(.bool p))->Q .normal σ' H),dz Tryz.prog Tt (Q .normal) σ H:=by
  intro dw bC bQ bK bU cO Y9 aC σ H f0 sl dx o h Q q0;obtain⟨s5,s78,yV⟩:=sl;have yX:=ne_next dx;have yY:=aW dx;unfold vL at h;refine eD ?_;unfold Tt;rcases au h with⟨e58,h⟩|⟨e58,h⟩
  ·obtain rfl:=ak h;try refine ah ?_
   exact q0 _ _ rfl aJ av
  ·rcases au h with⟨e59,h⟩|⟨e59,h⟩
   ·obtain rfl:=ak h;try refine ah ?_
    exact q0 _ _ rfl aJ av
   ·rcases au h with⟨e60,h⟩|⟨e60,h⟩
    ·obtain rfl:=ak h;try refine ah ?_
     exact q0 _ _ rfl aJ av
    ·obtain rfl:=ak h;try refine ah ?_
     exact q0 _ _ rfl aJ av
def vM (k:Nat) (bC:Int) (bQ:Int) (bK:Str) (bU:List Str) (cO:List Int) (Il:Bool) (Za:Bool):Option Bool:=
  cond Za (some (true)) (cond Il (cond (bC !=0) (cond (bC !=23) (cond (bQ !=0) (some (true)) (cond (bC==23) (Option.bind (iO bQ 0 1) fun xw=>cond xw (cond (bC==1) (Option.bind (iI k bK) fun p84=>some ((!p84))) (some (false))) (some (true))) (cond (bC==1) (Option.bind (iI k bK) fun JX=>some ((!JX))) (some (false))))) (cond (bC==23) (Option.bind (iO bQ 0 1) fun p90=>cond p90 (cond (bC==1) (Option.bind (iI k bK) fun Wh=>some ((!Wh))) (some (false))) (some (true))) (cond (bC==1) (Option.bind (iI k bK) fun p97=>some ((!p97))) (some (false))))) (cond (bC==23) (Option.bind (iO bQ 0 1) fun Zb=>cond Zb (cond (bC==1) (Option.bind (iI k bK) fun Zc=>some ((!Zc))) (some (false))) (some (true))) (cond (bC==1) (Option.bind (iI k bK) fun apC=>some ((!apC))) (some (false))))) (cond (bK==[]) (cond (bC !=0) (cond (bC !=23) (cond (bQ !=0) (some (true)) (cond (bC==23) (Option.bind (iO bQ 0 1) fun Zd=>cond Zd (cond (bC==1) (Option.bind (iI k bK) fun G7=>some ((!G7))) (some (false))) (some (true))) (cond (bC==1) (Option.bind (iI k bK) fun apD=>some ((!apD))) (some (false))))) (cond (bC==23) (Option.bind (iO bQ 0 1) fun apE=>cond apE (cond (bC==1) (Option.bind (iI k bK) fun apF=>some ((!apF))) (some (false))) (some (true))) (cond (bC==1) (Option.bind (iI k bK) fun apG=>some ((!apG))) (some (false))))) (cond (bC==23) (Option.bind (iO bQ 0 1) fun apH=>cond apH (cond (bC==1) (Option.bind (iI k bK) fun K9=>some ((!K9))) (some (false))) (some (true))) (cond (bC==1) (Option.bind (iI k bK) fun apI=>some ((!apI))) (some (false))))) (some (true))))
def JY:List Nat:=List.range' 98 45
theorem UK (k:Nat): ∀(dw:Nat) (bC:Int) (bQ:Int) (bK:Str) (bU:List Str) (cO:List Int) (Il:Bool) (Za:Bool) (aC σ:Nat->PV) (H:AH) (f0:Fr JY aC σ) (sl:σ 5=(.ref (dw) 0)/\σ 11=(.bool Il)/\σ 97=(.bool Za)/\H.obj dw=some [(.int .i64 bC),(.int .i64 bQ),(.str bK),(.aB (bU.map aI) .unk),(.aB (cO.map aY) .unk)]) (dx:dw<H.next) (o:Bool) (h:vM k bC bQ bK bU cO Il Za=some o) (Q:Post) (q0: ∀(p:Bool) (σ':Nat->PV),o=p->Fr JY aC σ'->(σ' 142=(.bool p))->Q .normal σ' H),dz Tryz.prog Tv (Q .normal) σ H:=by
  intro dw bC bQ bK bU cO Il Za aC σ H f0 sl dx o h Q q0;obtain⟨s5,s11,s97,yV⟩:=sl;have yX:=ne_next dx;have yY:=aW dx;unfold vM at h;refine eD ?_;unfold Tv;rcases au h with⟨QB,h⟩|⟨QB,h⟩
  ·obtain rfl:=ak h;try refine ah ?_
   exact q0 _ _ rfl aJ av
  ·rcases au h with⟨e74,h⟩|⟨e74,h⟩
   ·rcases au h with⟨Qv,h⟩|⟨Qv,h⟩
    ·rcases au h with⟨V9,h⟩|⟨V9,h⟩
     ·rcases au h with⟨NM,h⟩|⟨NM,h⟩
      ·obtain rfl:=ak h;try refine ah ?_
       exact q0 _ _ rfl aJ av
      ·rcases au h with⟨Ze,h⟩|⟨Ze,h⟩
       ·obtain⟨xw,e79,h⟩:=aj h;try refine ah ?_
        refine aA (jc e79) ?_;rcases au h with⟨e81,h⟩|⟨e81,h⟩
        ·rcases au h with⟨e82,h⟩|⟨e82,h⟩
         ·obtain⟨p84,e83,h⟩:=aj h;try refine ah ?_
          refine aA (lU e83) ?_;obtain rfl:=ak h;try refine ah ?_
          exact q0 _ _ rfl aJ av
         ·obtain rfl:=ak h;try refine ah ?_
          exact q0 _ _ rfl aJ av
        ·obtain rfl:=ak h;try refine ah ?_
         exact q0 _ _ rfl aJ av
       ·rcases au h with⟨e85,h⟩|⟨e85,h⟩
        ·obtain⟨JX,Qw,h⟩:=aj h;try refine ah ?_
         refine aA (lU Qw) ?_;obtain rfl:=ak h;try refine ah ?_
         exact q0 _ _ rfl aJ av
        ·obtain rfl:=ak h;try refine ah ?_
         exact q0 _ _ rfl aJ av
     ·rcases au h with⟨Qx,h⟩|⟨Qx,h⟩
      ·obtain⟨p90,Qy,h⟩:=aj h;try refine ah ?_
       refine aA (jc Qy) ?_;rcases au h with⟨Qz,h⟩|⟨Qz,h⟩
       ·rcases au h with⟨e92,h⟩|⟨e92,h⟩
        ·obtain⟨Wh,QC,h⟩:=aj h;try refine ah ?_
         refine aA (lU QC) ?_;obtain rfl:=ak h;try refine ah ?_
         exact q0 _ _ rfl aJ av
        ·obtain rfl:=ak h;try refine ah ?_
         exact q0 _ _ rfl aJ av
       ·obtain rfl:=ak h;try refine ah ?_
        exact q0 _ _ rfl aJ av
      ·rcases au h with⟨e95,h⟩|⟨e95,h⟩
       ·obtain⟨p97,e96,h⟩:=aj h;try refine ah ?_
        refine aA (lU e96) ?_;obtain rfl:=ak h;try refine ah ?_
        exact q0 _ _ rfl aJ av
       ·obtain rfl:=ak h;try refine ah ?_
        exact q0 _ _ rfl aJ av
    ·rcases au h with⟨e98,h⟩|⟨e98,h⟩
     ·obtain⟨Zb,e99,h⟩:=aj h;try refine ah ?_
      refine aA (jc e99) ?_;rcases au h with⟨Pk,h⟩|⟨Pk,h⟩
      ·rcases au h with⟨Zf,h⟩|⟨Zf,h⟩
       ·obtain⟨Zc,Jq,h⟩:=aj h;try refine ah ?_
        refine aA (lU Jq) ?_;obtain rfl:=ak h;try refine ah ?_
        exact q0 _ _ rfl aJ av
       ·obtain rfl:=ak h;try refine ah ?_
        exact q0 _ _ rfl aJ av
      ·obtain rfl:=ak h;try refine ah ?_
       exact q0 _ _ rfl aJ av
     ·rcases au h with⟨La,h⟩|⟨La,h⟩
      ·obtain⟨apC,ah4,h⟩:=aj h;try refine ah ?_
       refine aA (lU ah4) ?_;obtain rfl:=ak h;try refine ah ?_
       exact q0 _ _ rfl aJ av
      ·obtain rfl:=ak h;try refine ah ?_
       exact q0 _ _ rfl aJ av
   ·rcases au h with⟨e108,h⟩|⟨e108,h⟩
    ·rcases au h with⟨e109,h⟩|⟨e109,h⟩
     ·rcases au h with⟨UL,h⟩|⟨UL,h⟩
      ·rcases au h with⟨Zg,h⟩|⟨Zg,h⟩
       ·obtain rfl:=ak h;try refine ah ?_
        exact q0 _ _ rfl aJ av
       ·rcases au h with⟨awq,h⟩|⟨awq,h⟩
        ·obtain⟨Zd,Zh,h⟩:=aj h;try refine ah ?_
         refine aA (jc Zh) ?_;rcases au h with⟨e115,h⟩|⟨e115,h⟩
         ·rcases au h with⟨e116,h⟩|⟨e116,h⟩
          ·obtain⟨G7,e117,h⟩:=aj h;try refine ah ?_
           refine aA (lU e117) ?_;obtain rfl:=ak h;try refine ah ?_
           exact q0 _ _ rfl aJ av
          ·obtain rfl:=ak h;try refine ah ?_
           exact q0 _ _ rfl aJ av
         ·obtain rfl:=ak h;try refine ah ?_
          exact q0 _ _ rfl aJ av
        ·rcases au h with⟨e119,h⟩|⟨e119,h⟩
         ·obtain⟨apD,e120,h⟩:=aj h;try refine ah ?_
          refine aA (lU e120) ?_;obtain rfl:=ak h;try refine ah ?_
          exact q0 _ _ rfl aJ av
         ·obtain rfl:=ak h;try refine ah ?_
          exact q0 _ _ rfl aJ av
      ·rcases au h with⟨Zi,h⟩|⟨Zi,h⟩
       ·obtain⟨apE,awr,h⟩:=aj h;try refine ah ?_
        refine aA (jc awr) ?_;rcases au h with⟨e125,h⟩|⟨e125,h⟩
        ·rcases au h with⟨e126,h⟩|⟨e126,h⟩
         ·obtain⟨apF,e127,h⟩:=aj h;try refine ah ?_
          refine aA (lU e127) ?_;obtain rfl:=ak h;try refine ah ?_
          exact q0 _ _ rfl aJ av
         ·obtain rfl:=ak h;try refine ah ?_
          exact q0 _ _ rfl aJ av
        ·obtain rfl:=ak h;try refine ah ?_
         exact q0 _ _ rfl aJ av
       ·rcases au h with⟨e129,h⟩|⟨e129,h⟩
        ·obtain⟨apG,apN,h⟩:=aj h;try refine ah ?_
         refine aA (lU apN) ?_;obtain rfl:=ak h;try refine ah ?_
         exact q0 _ _ rfl aJ av
        ·obtain rfl:=ak h;try refine ah ?_
         exact q0 _ _ rfl aJ av
     ·rcases au h with⟨awt,h⟩|⟨awt,h⟩
      ·obtain⟨apH,ah5,h⟩:=aj h;try refine ah ?_
       refine aA (jc ah5) ?_;rcases au h with⟨awu,h⟩|⟨awu,h⟩
       ·rcases au h with⟨apO,h⟩|⟨apO,h⟩
        ·obtain⟨K9,e137,h⟩:=aj h;try refine ah ?_
         refine aA (lU e137) ?_;obtain rfl:=ak h;try refine ah ?_
         exact q0 _ _ rfl aJ av
        ·obtain rfl:=ak h;try refine ah ?_
         exact q0 _ _ rfl aJ av
       ·obtain rfl:=ak h;try refine ah ?_
        exact q0 _ _ rfl aJ av
      ·rcases au h with⟨ah6,h⟩|⟨ah6,h⟩
       ·obtain⟨apI,Zj,h⟩:=aj h;try refine ah ?_
        refine aA (lU Zj) ?_;obtain rfl:=ak h;try refine ah ?_
        exact q0 _ _ rfl aJ av
       ·obtain rfl:=ak h;try refine ah ?_
        exact q0 _ _ rfl aJ av
    ·obtain rfl:=ak h;try refine ah ?_
     exact q0 _ _ rfl aJ av
def vN (bC:Int) (bQ:Int) (bK:Str) (bU:List Str) (cO:List Int) (QD:Bool):Option Bool:=
  cond QD (Option.bind (iO bQ 0 10000) fun Zk=>some ((!Zk))) (some (false))
def JZ:List Nat:=[147,148,149,150,151]
theorem UM: ∀(dw:Nat) (bC:Int) (bQ:Int) (bK:Str) (bU:List Str) (cO:List Int) (QD:Bool) (aC σ:Nat->PV) (H:AH) (f0:Fr JZ aC σ) (sl:σ 5=(.ref (dw) 0)/\σ 146=(.bool QD)/\H.obj dw=some [(.int .i64 bC),(.int .i64 bQ),(.str bK),(.aB (bU.map aI) .unk),(.aB (cO.map aY) .unk)]) (dx:dw<H.next) (o:Bool) (h:vN bC bQ bK bU cO QD=some o) (Q:Post) (q0: ∀(p:Bool) (σ':Nat->PV),o=p->Fr JZ aC σ'->(σ' 151=(.bool p))->Q .normal σ' H),dz Tryz.prog Tw (Q .normal) σ H:=by
  intro dw bC bQ bK bU cO QD aC σ H f0 sl dx o h Q q0;obtain⟨s5,aA3,yV⟩:=sl;have yX:=ne_next dx;have yY:=aW dx;unfold vN at h;refine eD ?_;unfold Tw;rcases au h with⟨ah7,h⟩|⟨ah7,h⟩
  ·obtain⟨Zk,e152,h⟩:=aj h;try refine ah ?_
   refine aA (jc e152) ?_;obtain rfl:=ak h;try refine ah ?_
   exact q0 _ _ rfl aJ av
  ·obtain rfl:=ak h;try refine ah ?_
   exact q0 _ _ rfl aJ av
def lI:Nat->Int->Int->Str->(List Str)->(List Int)->Int->Option (Unit⊕Int)
  |0,_,_,_,_,_,_=>none
  |k+1,bC,bQ,bK,bU,cO,G8=>
    cond (decide (G8<(bU.length:Int))) (if 0<=G8 then Option.bind (bU[G8.toNat]?) fun apP=>Option.bind (sS k apP) fun Zl=>cond Zl (lI k bC bQ bK bU cO (IntKind.wrap .i64 (G8+1))) (some (.inr (7)))else none) (some (.inl ()))
def Df:List Nat:=[4,12]++List.range' 152 14
theorem UN: ∀(k:Nat) (dw:Nat) (bC:Int) (bQ:Int) (bK:Str) (bU:List Str) (cO:List Int) (G8:Int) (aC σ:Nat->PV) (H:AH) (f0:Fr Df aC σ) (sl:σ 5=(.ref (dw) 0)/\σ 12=(.int .i64 G8)/\H.obj dw=some [(.int .i64 bC),(.int .i64 bQ),(.str bK),(.aB (bU.map aI) .unk),(.aB (cO.map aY) .unk)]) (dx:dw<H.next) (o:Unit⊕Int) (h:lI k bC bQ bK bU cO G8=some o) (Q:Post) (q0: ∀(p:Unit) (σ':Nat->PV),o= .inl p->Fr Df aC σ'->Q (.exit 0) σ' H) (q1: ∀(p:Int) (σ':Nat->PV),o= .inr (p)->Fr Df aC σ'->(σ' 4=(.int .i64 p))->Q .ret σ' H),W Tryz.prog (.loop Tx) Q σ H:=by
  intro k
  induction k with
  |zero=>intro dw bC bQ bK bU cO G8 aC σ H f0 sl dx o h Q q0 q1;simp only [lI,reduceCtorEq]at h
  |succ k ih=>
    intro dw bC bQ bK bU cO G8 aC σ H f0 sl dx o h Q q0 q1;obtain⟨s5,s12,yV⟩:=sl;have yX:=ne_next dx;have yY:=aW dx;unfold lI at h;refine aU (fun K hK=>aD ?_);unfold Tx;rcases au h with⟨ah8,h⟩|⟨ah8,h⟩
    ·obtain⟨apQ,h⟩:=aQ h;obtain⟨apP,e166,h⟩:=aj h;obtain⟨Zl,e167,h⟩:=aj h;try refine ah ?_
     refine aA (zJ e167) ?_;rcases au h with⟨e169,h⟩|⟨e169,h⟩
     ·try refine ah ?_
      refine hK _ _ ?_;exact ih dw bC bQ bK bU cO (IntKind.wrap .i64 (G8+1)) _ _ _ aJ av bS _ h _ q0 q1
     ·obtain rfl:=ak h;try refine ah ?_
      exact q1 _ _ rfl aJ av
    ·obtain rfl:=ak h;try refine ah ?_
     exact q0 _ _ rfl aJ
def zX (k:Nat) (bC:Int) (bQ:Int) (bK:Str) (bU:List Str) (cO:List Int) (QE:Bool):Option Bool:=
  cond QE (Option.bind (sU k bK) fun apR=>some ((!apR))) (some (false))
def J2:List Nat:=[197,198,199,200,201]
theorem UO (k:Nat): ∀(dw:Nat) (bC:Int) (bQ:Int) (bK:Str) (bU:List Str) (cO:List Int) (QE:Bool) (aC σ:Nat->PV) (H:AH) (f0:Fr J2 aC σ) (sl:σ 5=(.ref (dw) 0)/\σ 196=(.bool QE)/\H.obj dw=some [(.int .i64 bC),(.int .i64 bQ),(.str bK),(.aB (bU.map aI) .unk),(.aB (cO.map aY) .unk)]) (dx:dw<H.next) (o:Bool) (h:zX k bC bQ bK bU cO QE=some o) (Q:Post) (q0: ∀(p:Bool) (σ':Nat->PV),o=p->Fr J2 aC σ'->(σ' 201=(.bool p))->Q .normal σ' H),dz Tryz.prog Tz (Q .normal) σ H:=by
  intro dw bC bQ bK bU cO QE aC σ H f0 sl dx o h Q q0;obtain⟨s5,aA4,yV⟩:=sl;have yX:=ne_next dx;have yY:=aW dx;unfold zX at h;refine eD ?_;unfold Tz;rcases au h with⟨awv,h⟩|⟨awv,h⟩
  ·obtain⟨apR,aww,h⟩:=aj h;try refine ah ?_
   refine aA (zL aww) ?_;obtain rfl:=ak h;try refine ah ?_
   exact q0 _ _ rfl aJ av
  ·obtain rfl:=ak h;try refine ah ?_
   exact q0 _ _ rfl aJ av
def vO (k:Nat) (bC:Int) (bQ:Int) (bK:Str) (bU:List Str) (cO:List Int) (MO:Str) (MP:Int) (MQ:Int) (MR:Int) (MS:Bool) (Im:Int) (Io:Int) (Gl:Bool):Option (Unit⊕Int):=
  cond (bC==2) (Option.bind (sU k bK) fun apS=>cond apS (some (.inl ())) (Option.bind (vI bK) fun apT=>cond apT (some (.inl ())) (some (.inr (7))))) (cond (bC==18) (Option.bind (sS k bK) fun apU=>cond apU (some (.inl ())) (some (.inr (7)))) (cond (bC==3) (Option.bind (zX k bC bQ bK bU cO (!Gl)) (fun apV=>cond apV (some (.inr (7))) (cond Gl (Option.bind (iO (cO.length:Int) Im Io) fun apW=>cond apW (some (.inl ())) (some (.inr (17)))) (some (.inl ()))))) (some (.inl ()))))
def Dh:List Nat:=[4]++List.range' 172 42
theorem UQ (k:Nat): ∀(dw:Nat) (Ei:Nat) (bC:Int) (bQ:Int) (bK:Str) (bU:List Str) (cO:List Int) (MO:Str) (MP:Int) (MQ:Int) (MR:Int) (MS:Bool) (Im:Int) (Io:Int) (Gl:Bool) (aC σ:Nat->PV) (H:AH) (f0:Fr Dh aC σ) (sl:σ 5=(.ref (dw) 0)/\σ 13=(.ref (Ei) 0)/\σ 14=(.bool Gl)/\H.obj dw=some [(.int .i64 bC),(.int .i64 bQ),(.str bK),(.aB (bU.map aI) .unk),(.aB (cO.map aY) .unk)]/\H.obj Ei=some [(.str MO),(.int .i64 MP),(.int .i64 MQ),(.int .i64 MR),(.bool MS),(.int .i64 Im),(.int .i64 Io)]) (dx:dw<H.next) (Lb:Ei<H.next) (zY:dw≠Ei) (o:Unit⊕Int) (h:vO k bC bQ bK bU cO MO MP MQ MR MS Im Io Gl=some o) (Q:Post) (q0: ∀(p:Unit) (σ':Nat->PV),o= .inl p->Fr Dh aC σ'->Q .normal σ' H) (q1: ∀(p:Int) (σ':Nat->PV),o= .inr (p)->Fr Dh aC σ'->(σ' 4=(.int .i64 p))->Q .ret σ' H),W Tryz.prog TA Q σ H:=by
  intro dw Ei bC bQ bK bU cO MO MP MQ MR MS Im Io Gl aC σ H f0 sl dx Lb zY o h Q q0 q1;obtain⟨s5,s13,NP,yV,aud⟩:=sl;have yX:=ne_next dx;have yY:=aW dx;have aue:=ne_next Lb;have auf:=aW Lb;have akC:=eq_false zY;have akD:=eq_false (Ne.symm zY);unfold vO at h;refine aD ?_;unfold TA;rcases au h with⟨awx,h⟩|⟨awx,h⟩
  ·obtain⟨apS,awy,h⟩:=aj h;try refine ah ?_
   refine aA (zL awy) ?_;rcases au h with⟨awz,h⟩|⟨awz,h⟩
   ·obtain rfl:=ak h;try refine ah ?_
    exact q0 _ _ rfl aJ
   ·obtain⟨apT,awC,h⟩:=aj h;try refine ah ?_
    refine aA (GY awC) ?_;rcases au h with⟨e185,h⟩|⟨e185,h⟩
    ·obtain rfl:=ak h;try refine ah ?_
     exact q0 _ _ rfl aJ
    ·obtain rfl:=ak h;try refine ah ?_
     exact q1 _ _ rfl aJ av
  ·rcases au h with⟨awD,h⟩|⟨awD,h⟩
   ·obtain⟨apU,e187,h⟩:=aj h;try refine ah ?_
    refine aA (zJ e187) ?_;rcases au h with⟨e189,h⟩|⟨e189,h⟩
    ·obtain rfl:=ak h;try refine ah ?_
     exact q0 _ _ rfl aJ
    ·obtain rfl:=ak h;try refine ah ?_
     exact q1 _ _ rfl aJ av
   ·rcases au h with⟨e190,h⟩|⟨e190,h⟩
    ·try refine ah ?_
     obtain⟨aA5,awE,h⟩:=aj h;refine UO k (dw) bC bQ bK bU cO (!Gl) _ _ _ (Fr.refl _ _) av bS _ awE _ ?_
     ·rintro apV σ' eo Jr aA6;rw [eo]at h;have aA7:σ' 5=(.ref (dw) 0):=(Jr 5 (by decide)).trans av;have aA8:σ' 13=(.ref (Ei) 0):=(Jr 13 (by decide)).trans av;have aA9:σ' 14=(.bool Gl):=(Jr 14 (by decide)).trans av;rcases au h with⟨e204,h⟩|⟨e204,h⟩
      ·obtain rfl:=ak h;try refine ah ?_
       exact q1 _ _ rfl (by repeat (first|exact f0|refine Fr.upd (by decide) ?_|refine Fr.via Jr (by decide) ?_)) av
      ·rcases au h with⟨awF,h⟩|⟨awF,h⟩
       ·obtain⟨apW,e206,h⟩:=aj h;try refine ah ?_
        refine aA (jc e206) ?_;rcases au h with⟨e208,h⟩|⟨e208,h⟩
        ·obtain rfl:=ak h;try refine ah ?_
         exact q0 _ _ rfl (by repeat (first|exact f0|refine Fr.upd (by decide) ?_|refine Fr.via Jr (by decide) ?_))
        ·obtain rfl:=ak h;try refine ah ?_
         exact q1 _ _ rfl (by repeat (first|exact f0|refine Fr.upd (by decide) ?_|refine Fr.via Jr (by decide) ?_)) av
       ·obtain rfl:=ak h;try refine ah ?_
        exact q0 _ _ rfl (by repeat (first|exact f0|refine Fr.upd (by decide) ?_|refine Fr.via Jr (by decide) ?_))
    ·obtain rfl:=ak h;try refine ah ?_
     exact q0 _ _ rfl aJ
def kg:Nat->Int->Int->Str->(List Str)->(List Int)->Int->Option (Unit⊕Int)
  |0,_,_,_,_,_,_=>none
  |k+1,bC,bQ,bK,bU,cO,Bw=>
    cond (decide (Bw<(bU.length:Int))) (if 0<=Bw/\Bw.toNat<=bU.length then if 0<=Bw then Option.bind (bU[Bw.toNat]?) fun apX=>Option.bind (mI k (bU.take Bw.toNat) apX) fun apY=>cond apY (some (.inr (12))) (kg k bC bQ bK bU cO (IntKind.wrap .i64 (Bw+1)))else none else none) (some (.inl ()))
def Di:List Nat:=[4,15]++List.range' 214 17
theorem UR: ∀(k:Nat) (dw:Nat) (bC:Int) (bQ:Int) (bK:Str) (bU:List Str) (cO:List Int) (Bw:Int) (aC σ:Nat->PV) (H:AH) (f0:Fr Di aC σ) (sl:σ 5=(.ref (dw) 0)/\σ 15=(.int .i64 Bw)/\H.obj dw=some [(.int .i64 bC),(.int .i64 bQ),(.str bK),(.aB (bU.map aI) .unk),(.aB (cO.map aY) .unk)]) (dx:dw<H.next) (o:Unit⊕Int) (h:kg k bC bQ bK bU cO Bw=some o) (Q:Post) (q0: ∀(p:Unit) (σ':Nat->PV),o= .inl p->Fr Di aC σ'->Q (.exit 3) σ' H) (q1: ∀(p:Int) (σ':Nat->PV),o= .inr (p)->Fr Di aC σ'->(σ' 4=(.int .i64 p))->Q .ret σ' H),W Tryz.prog (.loop TB) Q σ H:=by
  intro k
  induction k with
  |zero=>intro dw bC bQ bK bU cO Bw aC σ H f0 sl dx o h Q q0 q1;simp only [kg,reduceCtorEq]at h
  |succ k ih=>
    intro dw bC bQ bK bU cO Bw aC σ H f0 sl dx o h Q q0 q1;obtain⟨s5,s15,yV⟩:=sl;have yX:=ne_next dx;have yY:=aW dx;unfold kg at h;refine aU (fun K hK=>aD ?_);unfold TB;rcases au h with⟨e216,h⟩|⟨e216,h⟩
    ·try refine ah ?_
     refine eZ ?_;obtain⟨e217,h⟩:=aQ h;obtain⟨aBa,h⟩:=aQ h;obtain⟨apX,e220,h⟩:=aj h;obtain⟨apY,e221,h⟩:=aj h;try refine ah ?_
     refine aA (zB e221) ?_;rcases au h with⟨e223,h⟩|⟨e223,h⟩
     ·obtain rfl:=ak h;try refine ah ?_
      exact q1 _ _ rfl aJ av
     ·try refine ah ?_
      refine hK _ _ ?_;exact ih dw bC bQ bK bU cO (IntKind.wrap .i64 (Bw+1)) _ _ _ aJ av bS _ h _ q0 q1
    ·obtain rfl:=ak h;try refine ah ?_
     exact q0 _ _ rfl aJ
def CG (k:Nat) (aH:List Nd) (dD:Int):Option Int:=
  if 0<=dD then Option.bind (aH[dD.toNat]?) fun x2=>Option.bind (iO x2.kind 0 28) fun p5=>cond p5 (Option.bind (rP x2.kind) fun p8=>Option.bind (vJ k x2.kind x2.n x2.text x2.names x2.args p8.1.1 p8.1.2.1 p8.1.2.2.1 p8.1.2.2.2) (fun xO=>Option.bind (Qs p8.2) fun p41=>Option.bind (iO (x2.names.length:Int) xO.1 xO.2.1) fun p43=>Option.bind (vK xO.1 xO.2.1 xO.2.2.1 xO.2.2.2 (IntKind.wrap .i64 ((x2.args.length:Int) -(IntKind.wrap .i64 ((x2.names.length:Int)*p41)))) (!p43)) (fun p49=>cond p49 (some 6) (Option.bind (vL x2.kind x2.n x2.text x2.names x2.args (x2.kind==1)) (fun p63=>Option.bind (Bu k aH dD) fun p72=>Option.bind (vM k x2.kind x2.n x2.text x2.names x2.args p63 (!p72)) (fun UU=>cond UU (some 5) (Option.bind (vN x2.kind x2.n x2.text x2.names x2.args (x2.kind==0)) (fun Pm=>cond Pm (some 3) (Option.bind (lI k x2.kind x2.n x2.text x2.names x2.args 0) (fun o=>Sum.elim (fun adX=>Option.bind (rO k x2.text) fun vP=>Option.bind (vO k x2.kind x2.n x2.text x2.names x2.args vP.1.text vP.1.fix vP.1.low vP.1.high vP.1.left vP.1.least vP.1.most vP.2) (fun o=>Sum.elim (fun awG=>Option.bind (kg k x2.kind x2.n x2.text x2.names x2.args 1) (fun o=>Sum.elim (fun awH=>some 0) (fun apZ=>some apZ) o)) (fun ap0=>some ap0) o)) (fun ap1=>some ap1) o)))))))))) (some 4)else none
theorem abJ {k:Nat} {aH:List Nd} {dD:Int} {c0:Ck} {r:Int} (h:CG k aH dD=some r):aF Tryz.prog 54 [(.aB (aH.map Nd.cells) c0),(.int .i64 dD)] (.int .i64 r):=by
  refine aF.lw (.aB (.same .nil)) (aF.aP (bg.mem (.cons (aV Nd.pu _) (.cons (.int _ _) .nil))) (aG aoB (by simp) (aD ?_)) (.int _ _));unfold CG at h;unfold aoA;obtain⟨e1,h⟩:=aQ h;obtain⟨x2,e3,h⟩:=aj h;obtain⟨p5,e4,h⟩:=aj h;try refine ah ?_
  refine aA (jc e4) ?_;rcases au h with⟨e6,h⟩|⟨e6,h⟩
  ·obtain⟨p8,e7,h⟩:=aj h;try refine ah ?_
   refine aA (afH e7) ?_;try refine ah ?_
   obtain⟨o22,h23,h⟩:=aj h;refine UG k (AH.empty.next) (AH.empty.next+1) x2.kind x2.n x2.text x2.names x2.args p8.1.1 p8.1.2.1 p8.1.2.2.1 p8.1.2.2.2 _ _ _ _ (Fr.refl _ _) (HF.refl _ _) av bS bS bS _ h23 _ ?_
   ·rintro xO σ' H27 eo Zm adY g28;rw [eo]at h;have s29:σ' 0=(.aB (aH.map Nd.cells) .unk):=(Zm 0 (by decide)).trans av;have s30:σ' 1=(.int .i64 dD):=(Zm 1 (by decide)).trans av;have s31:σ' 5=(.ref (AH.empty.next) 0):=(Zm 5 (by decide)).trans av;have s32:σ' 6=(.ref (AH.empty.next+1) 0):=(Zm 6 (by decide)).trans av;have s33:σ' 7=(.bool p8.2):=(Zm 7 (by decide)).trans av;have le:=adY.1;try simp only [AH.aK,AH.aL,AH.aM,AH.aN]at le
    have g34:H27.obj (AH.empty.next)=some [(.int .i64 x2.kind),(.int .i64 x2.n),(.str x2.text),(.aB (x2.names.map aI) .unk),(.aB (x2.args.map aY) .unk)]:=(adY.2 _ bS (by first|exact List.not_mem_nil|(simp only [List.mem_cons,List.not_mem_nil,or_false,not_or];omega))).trans av;have n35:=ne_next (show AH.empty.next<H27.next by first|omega|(simp only [AH.aK,AH.aL,AH.aM,AH.aN];omega));have m36:=aW (show AH.empty.next<H27.next by first|omega|(simp only [AH.aK,AH.aL,AH.aM,AH.aN];omega));have n38:=ne_next (show AH.empty.next+1<H27.next by first|omega|(simp only [AH.aK,AH.aL,AH.aM,AH.aN];omega));have m39:=aW (show AH.empty.next+1<H27.next by first|omega|(simp only [AH.aK,AH.aL,AH.aM,AH.aN];omega));try refine ah ?_
    refine eZ ?_;obtain⟨p41,e40,h⟩:=aj h;try refine ah ?_
    refine PC.mk (acD e40) ?_;obtain⟨p43,e42,h⟩:=aj h;try refine ah ?_
    refine aA (jc e42) ?_;try refine ah ?_
    obtain⟨o47,h48,h⟩:=aj h;refine UH (AH.empty.next+1) xO.1 xO.2.1 xO.2.2.1 xO.2.2.2 (IntKind.wrap .i64 ((x2.args.length:Int) -(IntKind.wrap .i64 ((x2.names.length:Int)*p41)))) (!p43) _ _ _ (Fr.refl _ _) av bS _ h48 _ ?_
    ·rintro p49 σ' eo Lc s53;rw [eo]at h;have s54:σ' 0=(.aB (aH.map Nd.cells) .unk):=(Lc 0 (by decide)).trans av;have s55:σ' 1=(.int .i64 dD):=(Lc 1 (by decide)).trans av;have s56:σ' 5=(.ref (AH.empty.next) 0):=(Lc 5 (by decide)).trans av;rcases au h with⟨e57,h⟩|⟨e57,h⟩
     ·obtain rfl:=ak h;try refine ah ?_
      exact(.pure _ (.int _ _))
     ·try refine ah ?_
      obtain⟨o61,h62,h⟩:=aj h;refine UJ (AH.empty.next) x2.kind x2.n x2.text x2.names x2.args (x2.kind==1) _ _ _ (Fr.refl _ _) av bS _ h62 _ ?_
      ·rintro p63 σ' eo G9 s67;rw [eo]at h;have s68:σ' 0=(.aB (aH.map Nd.cells) .unk):=(G9 0 (by decide)).trans av;have s69:σ' 1=(.int .i64 dD):=(G9 1 (by decide)).trans av;have s70:σ' 5=(.ref (AH.empty.next) 0):=(G9 5 (by decide)).trans av;obtain⟨p72,e71,h⟩:=aj h;try refine ah ?_
       refine aA (adW e71) ?_;try refine ah ?_
       obtain⟨aBb,awI,h⟩:=aj h;refine UK k (AH.empty.next) x2.kind x2.n x2.text x2.names x2.args p63 (!p72) _ _ _ (Fr.refl _ _) av bS _ awI _ ?_
       ·rintro UU σ' eo atj aBd;rw [eo]at h;have aBe:σ' 5=(.ref (AH.empty.next) 0):=(atj 5 (by decide)).trans av;rcases au h with⟨ah9,h⟩|⟨ah9,h⟩
        ·obtain rfl:=ak h;try refine ah ?_
         exact(.pure _ (.int _ _))
        ·try refine ah ?_
         obtain⟨aBf,awJ,h⟩:=aj h;refine UM (AH.empty.next) x2.kind x2.n x2.text x2.names x2.args (x2.kind==0) _ _ _ (Fr.refl _ _) av bS _ awJ _ ?_
         ·rintro Pm σ' eo atl aBg;rw [eo]at h;have aBh:σ' 5=(.ref (AH.empty.next) 0):=(atl 5 (by decide)).trans av;rcases au h with⟨aia,h⟩|⟨aia,h⟩
          ·obtain rfl:=ak h;try refine ah ?_
           exact(.pure _ (.int _ _))
          ·try refine ah ?_
           obtain⟨aBi,awK,h⟩:=aj h;refine UN k (AH.empty.next) x2.kind x2.n x2.text x2.names x2.args 0 _ _ _ (Fr.refl _ _) av bS _ awK _ ?_ ?_
           ·rintro adX σ' eo atm;subst eo;rw [bL]at h;have aBj:σ' 5=(.ref (AH.empty.next) 0):=(atm 5 (by decide)).trans av;obtain⟨vP,awL,h⟩:=aj h;try refine ah ?_
            refine aA (Ij awL) ?_;try refine ah ?_
            obtain⟨aBk,awM,h⟩:=aj h;refine UQ k (AH.empty.next) (H27.next) x2.kind x2.n x2.text x2.names x2.args vP.1.text vP.1.fix vP.1.low vP.1.high vP.1.left vP.1.least vP.1.most vP.2 _ _ _ (Fr.refl _ _) av bS bS bS _ awM _ ?_ ?_
            ·rintro awG σ' eo atn;subst eo;rw [bL]at h;have aBl:σ' 5=(.ref (AH.empty.next) 0):=(atn 5 (by decide)).trans av;try refine ah ?_
             obtain⟨aBm,awN,h⟩:=aj h;refine UR k (AH.empty.next) x2.kind x2.n x2.text x2.names x2.args 1 _ _ _ (Fr.refl _ _) av bS _ awN _ ?_ ?_
             ·rintro awH σ' eo aAr;subst eo;rw [bL]at h;obtain rfl:=ak h;try refine ah ?_
              exact(.pure _ (.int _ _))
             ·rintro apZ σ' eo aAs aBn;subst eo;rw [bP]at h;obtain rfl:=ak h;try refine ah ?_
              exact(.pure _ (.int _ _))
            ·rintro ap0 σ' eo aAt aBo;subst eo;rw [bP]at h;obtain rfl:=ak h;try refine ah ?_
             exact(.pure _ (.int _ _))
           ·rintro ap1 σ' eo aAu aBp;subst eo;rw [bP]at h;obtain rfl:=ak h;try refine ah ?_
            exact(.pure _ (.int _ _))
  ·obtain rfl:=ak h;try refine ah ?_
   exact(.pure _ (.int _ _))
def oG:Nat->(List Nd)->Int->Int->Int->Option (Unit⊕(Int×Int))
  |0,_,_,_,_=>none
  |k+1,aH,dD,nS,Ld=>
    if 0<=nS then Option.bind (aH[nS.toNat]?) fun x3=>cond (decide (Ld<(x3.args.length:Int))) (if 0<=Ld then Option.bind (x3.args[Ld.toNat]?) fun x7=>cond (x7==dD) (some (.inr ((nS,Ld)))) (oG k aH dD nS (IntKind.wrap .i64 (Ld+1)))else none) (some (.inl ()))else none
def EJ:List Nat:=[4,5,7]++List.range' 16 22
theorem Xx: ∀(k:Nat) (aH:List Nd) (dD:Int) (nS:Int) (Ld:Int) (aC σ:Nat->PV) (H:AH) (f0:Fr EJ aC σ) (sl:σ 0=(.aB (aH.map Nd.cells) .unk)/\σ 1=(.int .i64 dD)/\σ 6=(.int .i64 nS)/\σ 7=(.int .i64 Ld)) (o:Unit⊕(Int×Int)) (h:oG k aH dD nS Ld=some o) (Q:Post) (q0: ∀(p:Unit) (σ':Nat->PV),o= .inl p->Fr EJ aC σ'->Q (.exit 2) σ' H) (q1: ∀(p:Int×Int) (σ':Nat->PV),o= .inr (p)->Fr EJ aC σ'->(σ' 4=(.int .i64 p.1)/\σ' 5=(.int .i64 p.2))->Q .ret σ' H),W Tryz.prog (.loop TD) Q σ H:=by
  intro k
  induction k with
  |zero=>intro aH dD nS Ld aC σ H f0 sl o h Q q0 q1;simp only [oG,reduceCtorEq]at h
  |succ k ih=>
    intro aH dD nS Ld aC σ H f0 sl o h Q q0 q1;obtain⟨s0,s1,s6,s7⟩:=sl;unfold oG at h;refine aU (fun K hK=>aD ?_);unfold TD;obtain⟨e2,h⟩:=aQ h;obtain⟨x3,e4,h⟩:=aj h;rcases au h with⟨e5,h⟩|⟨e5,h⟩
    ·obtain⟨e6,h⟩:=aQ h;obtain⟨x7,e8,h⟩:=aj h;rcases au h with⟨e9,h⟩|⟨e9,h⟩
     ·obtain rfl:=ak h;try refine ah ?_
      exact q1 _ _ rfl aJ av
     ·try refine ah ?_
      refine hK _ _ ?_;exact ih aH dD nS (IntKind.wrap .i64 (Ld+1)) _ _ _ aJ av _ h _ q0 q1
    ·obtain rfl:=ak h;try refine ah ?_
     exact q0 _ _ rfl aJ
def oH:Nat->(List Nd)->Int->Int->Option (Unit⊕(Int×Int))
  |0,_,_,_=>none
  |k+1,aH,dD,nS=>
    cond (decide (nS<(aH.length:Int))) (Option.bind (oG k aH dD nS 0) (fun o=>Sum.elim (fun l6=>oH k aH dD (IntKind.wrap .i64 (nS+1))) (fun zG=>some (.inr ((zG.1,zG.2)))) o)) (some (.inl ()))
def EK:List Nat:=[4,5,6,7]++List.range' 10 28
theorem Xy: ∀(k:Nat) (aH:List Nd) (dD:Int) (nS:Int) (aC σ:Nat->PV) (H:AH) (f0:Fr EK aC σ) (sl:σ 0=(.aB (aH.map Nd.cells) .unk)/\σ 1=(.int .i64 dD)/\σ 6=(.int .i64 nS)) (o:Unit⊕(Int×Int)) (h:oH k aH dD nS=some o) (Q:Post) (q0: ∀(p:Unit) (σ':Nat->PV),o= .inl p->Fr EK aC σ'->Q (.exit 0) σ' H) (q1: ∀(p:Int×Int) (σ':Nat->PV),o= .inr (p)->Fr EK aC σ'->(σ' 4=(.int .i64 p.1)/\σ' 5=(.int .i64 p.2))->Q .ret σ' H),W Tryz.prog (.loop TF) Q σ H:=by
  intro k
  induction k with
  |zero=>intro aH dD nS aC σ H f0 sl o h Q q0 q1;simp only [oH,reduceCtorEq]at h
  |succ k ih=>
    intro aH dD nS aC σ H f0 sl o h Q q0 q1;obtain⟨s0,s1,s6⟩:=sl;unfold oH at h;refine aU (fun K hK=>aD ?_);unfold TF;rcases au h with⟨e1,h⟩|⟨e1,h⟩
    ·try refine ah ?_
     obtain⟨o10,h11,h⟩:=aj h;refine Xx k aH dD nS 0 _ _ _ (Fr.refl _ _) av _ h11 _ ?_ ?_
     ·rintro l6 σ' eo Jo;subst eo;rw [bL]at h;have s16:σ' 0=(.aB (aH.map Nd.cells) .unk):=(Jo 0 (by decide)).trans av;have um:σ' 1=(.int .i64 dD):=(Jo 1 (by decide)).trans av;have jE:σ' 6=(.int .i64 nS):=(Jo 6 (by decide)).trans av;try refine ah ?_
      refine hK _ _ ?_;exact ih aH dD (IntKind.wrap .i64 (nS+1)) _ _ _ (by repeat (first|exact f0|refine Fr.upd (by decide) ?_|refine Fr.via Jo (by decide) ?_)) av _ h _ q0 q1
     ·rintro zG σ' eo ah2 ⟨s23,s24⟩;subst eo;rw [bP]at h;obtain rfl:=ak h;try refine ah ?_
      exact q1 _ _ rfl (by repeat (first|exact f0|refine Fr.upd (by decide) ?_|refine Fr.via ah2 (by decide) ?_)) av
    ·obtain rfl:=ak h;try refine ah ?_
     exact q0 _ _ rfl aJ
def pJ (k:Nat) (aH:List Nd) (dD:Int):Option (Int×Int):=
  Option.bind (oH k aH dD (IntKind.wrap .i64 (dD+1))) (fun o=>Sum.elim (fun p27=>some ((-1),0)) (fun p31=>some (p31.1,p31.2)) o)
theorem DJ {k:Nat} {aH:List Nd} {dD:Int} {c0:Ck} {r:Int×Int} (h:pJ k aH dD=some r):aF Tryz.prog 55 [(.aB (aH.map Nd.cells) c0),(.int .i64 dD)] (.dJ [(.int .i64 r.1),(.int .i64 r.2)]):=by
  refine aF.lw (.aB (.same .nil)) (aF.aP (bg.mem (.cons (aV Nd.pu _) (.cons (.int _ _) .nil))) (aG ahR (by simp) (aD ?_)) (.dJ _ (bg.mem (.cons (.int _ _) (.cons (.int _ _) .nil)))));unfold pJ at h;unfold aoC;try refine ah ?_
  obtain⟨o25,h26,h⟩:=aj h;refine Xy k aH dD (IntKind.wrap .i64 (dD+1)) _ _ _ (Fr.refl _ _) av _ h26 _ ?_ ?_
  ·rintro p27 σ' eo aBq;subst eo;rw [bL]at h;obtain rfl:=ak h;try refine ah ?_
   exact(cZ (.cons (.pure _ (.int _ _)) (.cons (.pure _ (.int _ _)) .nil)))
  ·rintro p31 σ' eo Pj ⟨s35,s36⟩;subst eo;rw [bP]at h;obtain rfl:=ak h;try refine ah ?_
   exact(cZ (.cons (.pure _ (.int _ _)) (.cons (.pure _ (.int _ _)) .nil)))
def nX:Nat->(List Nd)->Int->Option (Unit⊕(Int×Int))
  |0,_,_=>none
  |k+1,aH,gI=>
    cond (decide (gI<(aH.length:Int))) (Option.bind (CG k aH gI) fun p5=>cond (p5 !=0) (some (.inr ((gI,p5)))) (nX k aH (IntKind.wrap .i64 (gI+1)))) (some (.inl ()))
def He:List Nat:=[2,3,4,5]++List.range' 17 13
theorem Zn: ∀(k:Nat) (aH:List Nd) (gI:Int) (aC σ:Nat->PV) (H:AH) (f0:Fr He aC σ) (sl:σ 0=(.aB (aH.map Nd.cells) .unk)/\σ 4=(.int .i64 gI)) (o:Unit⊕(Int×Int)) (h:nX k aH gI=some o) (Q:Post) (q0: ∀(p:Unit) (σ':Nat->PV),o= .inl p->Fr He aC σ'->Q (.exit 0) σ' H) (q1: ∀(p:Int×Int) (σ':Nat->PV),o= .inr (p)->Fr He aC σ'->(σ' 2=(.int .i64 p.1)/\σ' 3=(.int .i64 p.2))->Q .ret σ' H),W Tryz.prog (.loop SG) Q σ H:=by
  intro k
  induction k with
  |zero=>intro aH gI aC σ H f0 sl o h Q q0 q1;simp only [nX,reduceCtorEq]at h
  |succ k ih=>
    intro aH gI aC σ H f0 sl o h Q q0 q1;obtain⟨s0,s4⟩:=sl;unfold nX at h;refine aU (fun K hK=>aD ?_);unfold SG;rcases au h with⟨e3,h⟩|⟨e3,h⟩
    ·obtain⟨p5,e4,h⟩:=aj h;try refine ah ?_
     refine aA (abJ e4) ?_;rcases au h with⟨e6,h⟩|⟨e6,h⟩
     ·obtain rfl:=ak h;try refine ah ?_
      exact q1 _ _ rfl aJ av
     ·try refine ah ?_
      refine hK _ _ ?_;exact ih aH (IntKind.wrap .i64 (gI+1)) _ _ _ aJ av _ h _ q0 q1
    ·obtain rfl:=ak h;try refine ah ?_
     exact q0 _ _ rfl aJ
def zZ (k:Nat) (aH:List Nd) (nY:Int) (Zo:Bool):Option Bool:=
  cond Zo (if 0<=nY then Option.bind (aH[nY.toNat]?) fun x19=>cond (x19.kind==3) (Option.bind (sU k x19.text) fun Ip=>some (Ip)) (some (false))else none) (some (false))
def NQ:List Nat:=List.range' 45 15
theorem Zp (k:Nat): ∀(aH:List Nd) (nY:Int) (Zo:Bool) (aC σ:Nat->PV) (H:AH) (f0:Fr NQ aC σ) (sl:σ 0=(.aB (aH.map Nd.cells) .unk)/\σ 7=(.int .i64 nY)/\σ 44=(.bool Zo)) (o:Bool) (h:zZ k aH nY Zo=some o) (Q:Post) (q0: ∀(p:Bool) (σ':Nat->PV),o=p->Fr NQ aC σ'->(σ' 59=(.bool p))->Q .normal σ' H),dz Tryz.prog SH (Q .normal) σ H:=by
  intro aH nY Zo aC σ H f0 sl o h Q q0;obtain⟨s0,s7,s44⟩:=sl;unfold zZ at h;refine eD ?_;unfold SH;rcases au h with⟨e17,h⟩|⟨e17,h⟩
  ·obtain⟨e18,h⟩:=aQ h;obtain⟨x19,e20,h⟩:=aj h;rcases au h with⟨e21,h⟩|⟨e21,h⟩
   ·obtain⟨Ip,e22,h⟩:=aj h;try refine ah ?_
    refine aA (zL e22) ?_;obtain rfl:=ak h;try refine ah ?_
    exact q0 _ _ rfl aJ av
   ·obtain rfl:=ak h;try refine ah ?_
    exact q0 _ _ rfl aJ av
  ·obtain rfl:=ak h;try refine ah ?_
   exact q0 _ _ rfl aJ av
def DL (EL:Bool) (EI:Bool):Option Bool:=
  cond EI (some ((!EL))) (some (false))
theorem Zq: ∀(EL:Bool) (EI:Bool) (aC σ:Nat->PV) (H:AH) (f0:Fr [67,68,69] aC σ) (sl:σ 9=(.bool EL)/\σ 66=(.bool EI)) (o:Bool) (h:DL EL EI=some o) (Q:Post) (q0: ∀(p:Bool) (σ':Nat->PV),o=p->Fr [67,68,69] aC σ'->(σ' 69=(.bool p))->Q .normal σ' H),dz Tryz.prog SI (Q .normal) σ H:=by
  intro EL EI aC σ H f0 sl o h Q q0;obtain⟨s9,s66⟩:=sl;unfold DL at h;refine eD ?_;unfold SI;rcases au h with⟨e38,h⟩|⟨e38,h⟩
  ·obtain rfl:=ak h;try refine ah ?_
   exact q0 _ _ rfl aJ av
  ·obtain rfl:=ak h;try refine ah ?_
   exact q0 _ _ rfl aJ av
def DN (aH:List Nd) (nY:Int) (oU:Int) (Zr:Bool):Option Bool:=
  cond Zr (some (true)) (if 0<=nY then Option.bind (aH[nY.toNat]?) fun x54=>cond (x54.kind==19) (some ((oU==2))) (some (false))else none)
def NR:List Nat:=List.range' 75 11
theorem Zt: ∀(aH:List Nd) (nY:Int) (oU:Int) (Zr:Bool) (aC σ:Nat->PV) (H:AH) (f0:Fr NR aC σ) (sl:σ 0=(.aB (aH.map Nd.cells) .unk)/\σ 7=(.int .i64 nY)/\σ 8=(.int .i64 oU)/\σ 74=(.bool Zr)) (o:Bool) (h:DN aH nY oU Zr=some o) (Q:Post) (q0: ∀(p:Bool) (σ':Nat->PV),o=p->Fr NR aC σ'->(σ' 85=(.bool p))->Q .normal σ' H),dz Tryz.prog SK (Q .normal) σ H:=by
  intro aH nY oU Zr aC σ H f0 sl o h Q q0;obtain⟨s0,s7,s8,s74⟩:=sl;unfold DN at h;refine eD ?_;unfold SK;rcases au h with⟨e52,h⟩|⟨e52,h⟩
  ·obtain rfl:=ak h;try refine ah ?_
   exact q0 _ _ rfl aJ av
  ·obtain⟨e53,h⟩:=aQ h;obtain⟨x54,e55,h⟩:=aj h;rcases au h with⟨e56,h⟩|⟨e56,h⟩
   ·obtain rfl:=ak h;try refine ah ?_
    exact q0 _ _ rfl aJ av
   ·obtain rfl:=ak h;try refine ah ?_
    exact q0 _ _ rfl aJ av
def qy:Nat->(List Nd)->Int->Int->Bool->Option Bool
  |0,_,_,_,_=>none
  |k+1,aH,nY,oU,CJ=>
    cond (decide (nY>=0)) (Option.bind (DN aH nY oU CJ) (fun p59=>Option.bind (pJ k aH nY) fun p67=>qy k aH p67.1 p67.2 p59)) (some (CJ))
def NS:List Nat:=[7,8,10]++List.range' 71 21
theorem Zu: ∀(k:Nat) (aH:List Nd) (nY:Int) (oU:Int) (CJ:Bool) (aC σ:Nat->PV) (H:AH) (f0:Fr NS aC σ) (sl:σ 0=(.aB (aH.map Nd.cells) .unk)/\σ 7=(.int .i64 nY)/\σ 8=(.int .i64 oU)/\σ 10=(.bool CJ)) (o:Bool) (h:qy k aH nY oU CJ=some o) (Q:Post) (q0: ∀(p:Bool) (σ':Nat->PV),o=p->Fr NS aC σ'->(σ' 10=(.bool p))->Q (.exit 4) σ' H),W Tryz.prog (.loop SL) Q σ H:=by
  intro k
  induction k with
  |zero=>intro aH nY oU CJ aC σ H f0 sl o h Q q0;simp only [qy,reduceCtorEq]at h
  |succ k ih=>
    intro aH nY oU CJ aC σ H f0 sl o h Q q0;obtain⟨s0,s7,s8,s10⟩:=sl;unfold qy at h;refine aU (fun K hK=>aD ?_);unfold SL;rcases au h with⟨e51,h⟩|⟨e51,h⟩
    ·try refine ah ?_
     obtain⟨o57,h58,h⟩:=aj h;refine Zt aH nY oU CJ _ _ _ (Fr.refl _ _) av _ h58 _ ?_
     ·rintro p59 σ' eo aib s63;rw [eo]at h;have s64:σ' 0=(.aB (aH.map Nd.cells) .unk):=(aib 0 (by decide)).trans av;have s65:σ' 7=(.int .i64 nY):=(aib 7 (by decide)).trans av;obtain⟨p67,e66,h⟩:=aj h;try refine ah ?_
      refine aA (DJ e66) ?_;try refine ah ?_
      refine hK _ _ ?_;exact ih aH p67.1 p67.2 p59 _ _ _ (by repeat (first|exact f0|refine Fr.upd (by decide) ?_|refine Fr.via aib (by decide) ?_)) av _ h _ q0
    ·obtain rfl:=ak h;try refine ah ?_
     exact q0 _ _ rfl aJ av
def mM:Nat->(List Nd)->Int->Option (Unit⊕(Int×Int))
  |0,_,_=>none
  |k+1,aH,kR=>
    cond (decide (kR<(aH.length:Int))) (Option.bind (pJ k aH kR) fun p16=>Option.bind (zZ k aH p16.1 (decide (p16.1>=0))) (fun p26=>if 0<=kR then Option.bind (aH[kR.toNat]?) fun x36=>Option.bind (DL p26 (x36.kind==24)) (fun p41=>cond p41 (some (.inr ((kR,30)))) (Option.bind (qy k aH p16.1 p16.2 false) (fun p70=>cond (x36.kind==20) (cond p70 (mM k aH (IntKind.wrap .i64 (kR+1))) (some (.inr ((kR,30))))) (mM k aH (IntKind.wrap .i64 (kR+1))))))else none)) (some (.inl ()))
def Hf:List Nat:=[2,3,6,7,8,9,10]++List.range' 30 73
theorem Zv: ∀(k:Nat) (aH:List Nd) (kR:Int) (aC σ:Nat->PV) (H:AH) (f0:Fr Hf aC σ) (sl:σ 0=(.aB (aH.map Nd.cells) .unk)/\σ 6=(.int .i64 kR)) (o:Unit⊕(Int×Int)) (h:mM k aH kR=some o) (Q:Post) (q0: ∀(p:Unit) (σ':Nat->PV),o= .inl p->Fr Hf aC σ'->Q (.exit 2) σ' H) (q1: ∀(p:Int×Int) (σ':Nat->PV),o= .inr (p)->Fr Hf aC σ'->(σ' 2=(.int .i64 p.1)/\σ' 3=(.int .i64 p.2))->Q .ret σ' H),W Tryz.prog (.loop SN) Q σ H:=by
  intro k
  induction k with
  |zero=>intro aH kR aC σ H f0 sl o h Q q0 q1;simp only [mM,reduceCtorEq]at h
  |succ k ih=>
    intro aH kR aC σ H f0 sl o h Q q0 q1;obtain⟨s0,s6⟩:=sl;unfold mM at h;refine aU (fun K hK=>aD ?_);unfold SN;rcases au h with⟨e14,h⟩|⟨e14,h⟩
    ·obtain⟨p16,e15,h⟩:=aj h;try refine ah ?_
     refine aA (DJ e15) ?_;try refine ah ?_
     obtain⟨o24,h25,h⟩:=aj h;refine Zp k aH p16.1 (decide (p16.1>=0)) _ _ _ (Fr.refl _ _) av _ h25 _ ?_
     ·rintro p26 σ' eo EM s30;rw [eo]at h;have s31:σ' 0=(.aB (aH.map Nd.cells) .unk):=(EM 0 (by decide)).trans av;have s32:σ' 6=(.int .i64 kR):=(EM 6 (by decide)).trans av;have s33:σ' 7=(.int .i64 p16.1):=(EM 7 (by decide)).trans av;have s34:σ' 8=(.int .i64 p16.2):=(EM 8 (by decide)).trans av;obtain⟨e35,h⟩:=aQ h;obtain⟨x36,e37,h⟩:=aj h;try refine ah ?_
      obtain⟨o39,h40,h⟩:=aj h;refine Zq p26 (x36.kind==24) _ _ _ (Fr.refl _ _) av _ h40 _ ?_
      ·rintro p41 σ' eo Dk s45;rw [eo]at h;have s46:σ' 0=(.aB (aH.map Nd.cells) .unk):=(Dk 0 (by decide)).trans av;have s47:σ' 6=(.int .i64 kR):=(Dk 6 (by decide)).trans av;have s48:σ' 7=(.int .i64 p16.1):=(Dk 7 (by decide)).trans av;have s49:σ' 8=(.int .i64 p16.2):=(Dk 8 (by decide)).trans av;rcases au h with⟨e50,h⟩|⟨e50,h⟩
       ·obtain rfl:=ak h;try refine ah ?_
        exact q1 _ _ rfl (by repeat (first|exact f0|refine Fr.upd (by decide) ?_|refine Fr.via EM (by decide) ?_|refine Fr.via Dk (by decide) ?_)) av
       ·try refine ah ?_
        obtain⟨o68,h69,h⟩:=aj h;refine Zu k aH p16.1 p16.2 false _ _ _ (Fr.refl _ _) av _ h69 _ ?_
        ·rintro p70 σ' eo Zw s74;rw [eo]at h;have s75:σ' 0=(.aB (aH.map Nd.cells) .unk):=(Zw 0 (by decide)).trans av;have s76:σ' 6=(.int .i64 kR):=(Zw 6 (by decide)).trans av;rcases au h with⟨NM,h⟩|⟨NM,h⟩
         ·rcases au h with⟨Ze,h⟩|⟨Ze,h⟩
          ·try refine ah ?_
           refine hK _ _ ?_;exact ih aH (IntKind.wrap .i64 (kR+1)) _ _ _ (by repeat (first|exact f0|refine Fr.upd (by decide) ?_|refine Fr.via EM (by decide) ?_|refine Fr.via Dk (by decide) ?_|refine Fr.via Zw (by decide) ?_)) av _ h _ q0 q1
          ·obtain rfl:=ak h;try refine ah ?_
           exact q1 _ _ rfl (by repeat (first|exact f0|refine Fr.upd (by decide) ?_|refine Fr.via EM (by decide) ?_|refine Fr.via Dk (by decide) ?_|refine Fr.via Zw (by decide) ?_)) av
         ·try refine ah ?_
          refine hK _ _ ?_;exact ih aH (IntKind.wrap .i64 (kR+1)) _ _ _ (by repeat (first|exact f0|refine Fr.upd (by decide) ?_|refine Fr.via EM (by decide) ?_|refine Fr.via Dk (by decide) ?_|refine Fr.via Zw (by decide) ?_)) av _ h _ q0 q1
    ·obtain rfl:=ak h;try refine ah ?_
     exact q0 _ _ rfl aJ
def yZ (k:Nat) (aH:List Nd):Option (Int×Int):=
  cond ((aH.length:Int)==0) (some (0,1)) (cond (decide ((aH.length:Int)>160)) (some (0,2)) (Option.bind (nX k aH 0) (fun o=>Sum.elim (fun p9=>Option.bind (mM k aH 0) (fun o=>Sum.elim (fun Wi=>Option.bind (uF k aH (IntKind.wrap .i64 ((aH.length:Int) -1))) fun JX=>cond (JX !=0) (some ((IntKind.wrap .i64 ((aH.length:Int) -1)),15)) (some (0,0))) (fun QF=>some (QF.1,QF.2)) o)) (fun QG=>some (QG.1,QG.2)) o)))
theorem afT {k:Nat} {aH:List Nd} {c0:Ck} {r:Int×Int} (h:yZ k aH=some r):aF Tryz.prog 16 [(.aB (aH.map Nd.cells) c0)] (.dJ [(.int .i64 r.1),(.int .i64 r.2)]):=by
  refine aF.lw (.aB .nil) (aF.aP (bg.mem (.cons (aV Nd.pu _) .nil)) (aG ok16 (by simp) (aD ?_)) (.dJ _ (bg.mem (.cons (.int _ _) (.cons (.int _ _) .nil)))));unfold yZ at h;unfold an1;rcases au h with⟨e1,h⟩|⟨e1,h⟩
  ·obtain rfl:=ak h;try refine ah ?_
   exact(cZ (.cons (.pure _ (.int _ _)) (.cons (.pure _ (.int _ _)) .nil)))
  ·rcases au h with⟨e2,h⟩|⟨e2,h⟩
   ·obtain rfl:=ak h;try refine ah ?_
    exact(cZ (.cons (.pure _ (.int _ _)) (.cons (.pure _ (.int _ _)) .nil)))
   ·try refine ah ?_
    obtain⟨o7,h8,h⟩:=aj h;refine Zn k aH 0 _ _ _ (Fr.refl _ _) av _ h8 _ ?_ ?_
    ·rintro p9 σ' eo Zx;subst eo;rw [bL]at h;have s13:σ' 0=(.aB (aH.map Nd.cells) .unk):=(Zx 0 (by decide)).trans av;try refine ah ?_
     obtain⟨o79,h80,h⟩:=aj h;refine Zv k aH 0 _ _ _ (Fr.refl _ _) av _ h80 _ ?_ ?_
     ·rintro Wi σ' eo UW;subst eo;rw [bL]at h;have s85:σ' 0=(.aB (aH.map Nd.cells) .unk):=(UW 0 (by decide)).trans av;obtain⟨JX,Qw,h⟩:=aj h;try refine ah ?_
      refine aA (K7 Qw) ?_;rcases au h with⟨Qx,h⟩|⟨Qx,h⟩
      ·obtain rfl:=ak h;try refine ah ?_
       exact(cZ (.cons (.pure _ (.int _ _)) (.cons (.pure _ (.int _ _)) .nil)))
      ·obtain rfl:=ak h;try refine ah ?_
       exact(cZ (.cons (.pure _ (.int _ _)) (.cons (.pure _ (.int _ _)) .nil)))
     ·rintro QF σ' eo aBr ⟨s93,s94⟩;subst eo;rw [bP]at h;obtain rfl:=ak h;try refine ah ?_
      exact(cZ (.cons (.pure _ (.int _ _)) (.cons (.pure _ (.int _ _)) .nil)))
    ·rintro QG σ' eo aBs ⟨s99,aic⟩;subst eo;rw [bP]at h;obtain rfl:=ak h;try refine ah ?_
     exact(cZ (.cons (.pure _ (.int _ _)) (.cons (.pure _ (.int _ _)) .nil)))
def QH (k:Nat) (aH:List Nd):Option Int:=
  Option.bind (yZ k aH) fun p2=>some p2.2
theorem amh {k:Nat} {aH:List Nd} {c0:Ck} {r:Int} (h:QH k aH=some r):aF Tryz.prog 18 [(.aB (aH.map Nd.cells) c0)] (.int .i64 r):=by
  refine aF.lw (.aB .nil) (aF.aP (bg.mem (.cons (aV Nd.pu _) .nil)) (aG an5 (by simp) (aD ?_)) (.int _ _));unfold QH at h;unfold an4;obtain⟨p2,e1,h⟩:=aj h;try refine ah ?_
  refine aA (afT e1) ?_;obtain rfl:=ak h;try refine ah ?_
  exact(.pure _ (.int _ _))
def EN (dN:Int) (Gm:Bool):Option Bool:=
  cond Gm (some ((decide (dN<172)))) (some (false))
theorem adZ: ∀(dN:Int) (Gm:Bool) (aC σ:Nat->PV) (H:AH) (f0:Fr [10,11,12] aC σ) (sl:σ 3=(.int .i64 dN)/\σ 9=(.bool Gm)) (o:Bool) (h:EN dN Gm=some o) (Q:Post) (q0: ∀(p:Bool) (σ':Nat->PV),o=p->Fr [10,11,12] aC σ'->(σ' 12=(.bool p))->Q .normal σ' H),dz Tryz.prog Sy (Q .normal) σ H:=by
  intro dN Gm aC σ H f0 sl o h Q q0;obtain⟨s3,s9⟩:=sl;unfold EN at h;refine eD ?_;unfold Sy;rcases au h with⟨e1,h⟩|⟨e1,h⟩
  ·obtain rfl:=ak h;try refine ah ?_
   exact q0 _ _ rfl aJ av
  ·obtain rfl:=ak h;try refine ah ?_
   exact q0 _ _ rfl aJ av
def EO (aH:List Nd) (dN:Int) (Zy:Bool):Option Bool:=
  cond Zy (some (true)) (if 0<=dN then Option.bind (aH[dN.toNat]?) fun CK=>cond (decide ((CK.names.length:Int)>34)) (some (true)) (some ((decide ((CK.text.length:Int)>80))))else none)
def Wj:List Nat:=List.range' 23 17
theorem ad2: ∀(aH:List Nd) (dN:Int) (Zy:Bool) (aC σ:Nat->PV) (H:AH) (f0:Fr Wj aC σ) (sl:σ 0=(.aB (aH.map Nd.cells) .unk)/\σ 3=(.int .i64 dN)/\σ 22=(.bool Zy)) (o:Bool) (h:EO aH dN Zy=some o) (Q:Post) (q0: ∀(p:Bool) (σ':Nat->PV),o=p->Fr Wj aC σ'->(σ' 39=(.bool p))->Q .normal σ' H),dz Tryz.prog Sz (Q .normal) σ H:=by
  intro aH dN Zy aC σ H f0 sl o h Q q0;obtain⟨s0,s3,s22⟩:=sl;unfold EO at h;refine eD ?_;unfold Sz;rcases au h with⟨e15,h⟩|⟨e15,h⟩
  ·obtain rfl:=ak h;try refine ah ?_
   exact q0 _ _ rfl aJ av
  ·obtain⟨e16,h⟩:=aQ h;obtain⟨CK,e18,h⟩:=aj h;rcases au h with⟨e19,h⟩|⟨e19,h⟩
   ·obtain rfl:=ak h;try refine ah ?_
    exact q0 _ _ rfl aJ av
   ·obtain rfl:=ak h;try refine ah ?_
    exact q0 _ _ rfl aJ av
def sZ:Nat->(List Nd)->Int->Int->Option (Unit⊕Bool)
  |0,_,_,_=>none
  |k+1,aH,dN,NT=>
    if 0<=dN then Option.bind (aH[dN.toNat]?) fun x31=>cond (decide (NT<(x31.names.length:Int))) (if 0<=NT then Option.bind (x31.names[NT.toNat]?) fun x35=>cond (decide ((x35.length:Int)>80)) (some (.inr (false))) (sZ k aH dN (IntKind.wrap .i64 (NT+1)))else none) (some (.inl ()))else none
def Le:List Nat:=[2,4]++List.range' 40 20
theorem ad3: ∀(k:Nat) (aH:List Nd) (dN:Int) (NT:Int) (aC σ:Nat->PV) (H:AH) (f0:Fr Le aC σ) (sl:σ 0=(.aB (aH.map Nd.cells) .unk)/\σ 3=(.int .i64 dN)/\σ 4=(.int .i64 NT)) (o:Unit⊕Bool) (h:sZ k aH dN NT=some o) (Q:Post) (q0: ∀(p:Unit) (σ':Nat->PV),o= .inl p->Fr Le aC σ'->Q (.exit 2) σ' H) (q1: ∀(p:Bool) (σ':Nat->PV),o= .inr (p)->Fr Le aC σ'->(σ' 2=(.bool p))->Q .ret σ' H),W Tryz.prog (.loop SA) Q σ H:=by
  intro k
  induction k with
  |zero=>intro aH dN NT aC σ H f0 sl o h Q q0 q1;simp only [sZ,reduceCtorEq]at h
  |succ k ih=>
    intro aH dN NT aC σ H f0 sl o h Q q0 q1;obtain⟨s0,s3,s4⟩:=sl;unfold sZ at h;refine aU (fun K hK=>aD ?_);unfold SA;obtain⟨e30,h⟩:=aQ h;obtain⟨x31,e32,h⟩:=aj h;rcases au h with⟨e33,h⟩|⟨e33,h⟩
    ·obtain⟨e34,h⟩:=aQ h;obtain⟨x35,e36,h⟩:=aj h;rcases au h with⟨e37,h⟩|⟨e37,h⟩
     ·obtain rfl:=ak h;try refine ah ?_
      exact q1 _ _ rfl aJ av
     ·try refine ah ?_
      refine hK _ _ ?_;exact ih aH dN (IntKind.wrap .i64 (NT+1)) _ _ _ aJ av _ h _ q0 q1
    ·obtain rfl:=ak h;try refine ah ?_
     exact q0 _ _ rfl aJ
def tq:Nat->(List Nd)->Int->Option (Unit⊕Bool)
  |0,_,_=>none
  |k+1,aH,dN=>
    Option.bind (EN dN (decide (dN<(aH.length:Int)))) (fun p4=>cond p4 (if 0<=dN then Option.bind (aH[dN.toNat]?) fun x13=>Option.bind (EO aH dN (decide ((x13.args.length:Int)>34))) (fun JR=>cond JR (some (.inr (false))) (Option.bind (sZ k aH dN 0) (fun o=>Sum.elim (fun p40=>tq k aH (IntKind.wrap .i64 (dN+1))) (fun p46=>some (.inr (p46))) o)))else none) (some (.inl ())))
def Lf:List Nat:=List.range' 2 58
theorem ad4: ∀(k:Nat) (aH:List Nd) (dN:Int) (aC σ:Nat->PV) (H:AH) (f0:Fr Lf aC σ) (sl:σ 0=(.aB (aH.map Nd.cells) .unk)/\σ 3=(.int .i64 dN)) (o:Unit⊕Bool) (h:tq k aH dN=some o) (Q:Post) (q0: ∀(p:Unit) (σ':Nat->PV),o= .inl p->Fr Lf aC σ'->Q (.exit 0) σ' H) (q1: ∀(p:Bool) (σ':Nat->PV),o= .inr (p)->Fr Lf aC σ'->(σ' 2=(.bool p))->Q .ret σ' H),W Tryz.prog (.loop SB) Q σ H:=by
  intro k
  induction k with
  |zero=>intro aH dN aC σ H f0 sl o h Q q0 q1;simp only [tq,reduceCtorEq]at h
  |succ k ih=>
    intro aH dN aC σ H f0 sl o h Q q0 q1;obtain⟨s0,s3⟩:=sl;unfold tq at h;refine aU (fun K hK=>aD ?_);unfold SB;try refine ah ?_
    obtain⟨o2,h3,h⟩:=aj h;refine adZ dN (decide (dN<(aH.length:Int))) _ _ _ (Fr.refl _ _) av _ h3 _ ?_
    ·rintro p4 σ' eo Iq s8;rw [eo]at h;have s9:σ' 0=(.aB (aH.map Nd.cells) .unk):=(Iq 0 (by decide)).trans av;have s10:σ' 3=(.int .i64 dN):=(Iq 3 (by decide)).trans av;rcases au h with⟨e11,h⟩|⟨e11,h⟩
     ·obtain⟨e12,h⟩:=aQ h;obtain⟨x13,e14,h⟩:=aj h;try refine ah ?_
      obtain⟨o20,h21,h⟩:=aj h;refine ad2 aH dN (decide ((x13.args.length:Int)>34)) _ _ _ (Fr.refl _ _) av _ h21 _ ?_
      ·rintro JR σ' eo UD s26;rw [eo]at h;have s27:σ' 0=(.aB (aH.map Nd.cells) .unk):=(UD 0 (by decide)).trans av;have s28:σ' 3=(.int .i64 dN):=(UD 3 (by decide)).trans av;rcases au h with⟨e29,h⟩|⟨e29,h⟩
       ·obtain rfl:=ak h;try refine ah ?_
        exact q1 _ _ rfl (by repeat (first|exact f0|refine Fr.upd (by decide) ?_|refine Fr.via Iq (by decide) ?_|refine Fr.via UD (by decide) ?_)) av
       ·try refine ah ?_
        obtain⟨o38,h39,h⟩:=aj h;refine ad3 k aH dN 0 _ _ _ (Fr.refl _ _) av _ h39 _ ?_ ?_
        ·rintro p40 σ' eo Zz;subst eo;rw [bL]at h;have s44:σ' 0=(.aB (aH.map Nd.cells) .unk):=(Zz 0 (by decide)).trans av;have s45:σ' 3=(.int .i64 dN):=(Zz 3 (by decide)).trans av;try refine ah ?_
         refine hK _ _ ?_;exact ih aH (IntKind.wrap .i64 (dN+1)) _ _ _ (by repeat (first|exact f0|refine Fr.upd (by decide) ?_|refine Fr.via Iq (by decide) ?_|refine Fr.via UD (by decide) ?_|refine Fr.via Zz (by decide) ?_)) av _ h _ q0 q1
        ·rintro p46 σ' eo awO s50;subst eo;rw [bP]at h;obtain rfl:=ak h;try refine ah ?_
         exact q1 _ _ rfl (by repeat (first|exact f0|refine Fr.upd (by decide) ?_|refine Fr.via Iq (by decide) ?_|refine Fr.via UD (by decide) ?_|refine Fr.via awO (by decide) ?_)) av
     ·obtain rfl:=ak h;try refine ah ?_
      exact q0 _ _ rfl (by repeat (first|exact f0|refine Fr.upd (by decide) ?_|refine Fr.via Iq (by decide) ?_))
def QI (k:Nat) (aH:List Nd):Option Bool:=
  Option.bind (tq k aH 0) (fun o=>Sum.elim (fun p53=>some (decide ((aH.length:Int)<=170))) (fun p58=>some p58) o)
theorem ami {k:Nat} {aH:List Nd} {c0:Ck} {r:Bool} (h:QI k aH=some r):aF Tryz.prog 13 [(.aB (aH.map Nd.cells) c0)] (.bool r):=by
  refine aF.lw (.aB .nil) (aF.aP (bg.mem (.cons (aV Nd.pu _) .nil)) (aG avv (by simp) (aD ?_)) (.bool _));unfold QI at h;unfold anY;try refine ah ?_
  obtain⟨o51,Y4,h⟩:=aj h;refine ad4 k aH 0 _ _ _ (Fr.refl _ _) av _ Y4 _ ?_ ?_
  ·rintro p53 σ' eo Jp;subst eo;rw [bL]at h;have s57:σ' 0=(.aB (aH.map Nd.cells) .unk):=(Jp 0 (by decide)).trans av;obtain rfl:=ak h;try refine ah ?_
   exact(.pure _ (.bool _))
  ·rintro p58 σ' eo aie s62;subst eo;rw [bP]at h;obtain rfl:=ak h;try refine ah ?_
   exact(.pure _ (.bool _))
def CO (dB:List Int):Option (List Int):=
  if(([]:List Int).length+dB.length)*8<=1099511627776 then some (([]:List Int)++dB)else none
theorem abK {dB:List Int} {c0:Ck} {r:List Int} (h:CO dB=some r):aF Tryz.prog 53 [(.aB (dB.map aY) c0)] (.aB (r.map aY) .unk):=by
  refine aF.lw (.aB .nil) (aF.aP (bg.mem (.cons (aV fO _) .nil)) (aG avN (by simp) (aD ?_)) (aV fO _));unfold CO at h;unfold aoz;obtain⟨e5,h⟩:=aQ h;try refine ah ?_
  refine gF (f:=aY) Ig ([]:List Int) (dB:List Int) .exact .unk av av fM (by first|exact e5|(simp only [List.length_cons,List.length_nil];exact e5)) (fun c1 H2 ZA le ob6 rl4=> ?_);have hf7:HF [] _ H2:=⟨le,fun i _ _=>ob6 i⟩;try simp only [AH.aK,AH.aL,AH.aM,AH.aN]at le
  obtain rfl:=ak h;try refine ah ?_
  exact(d9 fO _ _)
def kH (dB:List Str):Option (List Str):=
  if(([]:List Str).length+dB.length)*16<=1099511627776 then some (([]:List Str)++dB)else none
theorem z8 {dB:List Str} {c0:Ck} {r:List Str} (h:kH dB=some r):aF Tryz.prog 52 [(.aB (dB.map aI) c0)] (.aB (r.map aI) .unk):=by
  refine aF.lw (.aB .nil) (aF.aP (bg.mem (.cons (aV bn _) .nil)) (aG Tk (by simp) (aD ?_)) (aV bn _));unfold kH at h;unfold Tj;obtain⟨e5,h⟩:=aQ h;try refine ah ?_
  refine gF (f:=aI) jw ([]:List Str) (dB:List Str) .exact .unk av av fM (by first|exact e5|(simp only [List.length_cons,List.length_nil];exact e5)) (fun c1 H2 ZA le ob6 rl4=> ?_);have hf7:HF [] _ H2:=⟨le,fun i _ _=>ob6 i⟩;try simp only [AH.aK,AH.aL,AH.aM,AH.aN]at le
  obtain rfl:=ak h;try refine ah ?_
  exact(d9 bn _ _)
def mX:Nat->(List Nd)->(List Nd)->Int->Option (List Nd)
  |0,_,_,_=>none
  |k+1,aH,gV,gI=>
    cond (decide (gI<(aH.length:Int))) (if 0<=gI then Option.bind (aH[gI.toNat]?) fun x3=>Option.bind (kH x3.names) fun p6=>Option.bind (CO x3.args) fun p8=>if(gV.length+1)*80<=1099511627776 then mX k aH (gV++[(Nd.mk x3.kind x3.n x3.text p6 p8)]) (IntKind.wrap .i64 (gI+1))else none else none) (some (gV))
def J3:List Nat:=List.range' 3 25
theorem UY: ∀(k:Nat) (aH:List Nd) (gV:List Nd) (gI:Int) (jK:Ck) (aC σ:Nat->PV) (H0 H:AH) (f0:Fr J3 aC σ) (hf0:HF [] H0 H) (sl:σ 0=(.aB (aH.map Nd.cells) .unk)/\σ 3=(.aB (gV.map Nd.cells) jK)/\σ 4=(.int .i64 gI)) (ZB:bA H jK) (o:List Nd) (h:mX k aH gV gI=some o) (Q:Post) (q0: ∀(p:List Nd) (c0:Ck) (σ':Nat->PV) (H':AH),o=p->Fr J3 aC σ'->HF [] H0 H'->(σ' 3=(.aB (p.map Nd.cells) c0))->Q (.exit 0) σ' H'),W Tryz.prog (.loop SF) Q σ H:=by
  intro k
  induction k with
  |zero=>intro aH gV gI jK aC σ H0 H f0 hf0 sl ZB o h Q q0;simp only [mX,reduceCtorEq]at h
  |succ k ih=>
    intro aH gV gI jK aC σ H0 H f0 hf0 sl ZB o h Q q0;obtain⟨s0,s3,s4⟩:=sl;have hle0:=hf0.1;unfold mX at h;refine aU (fun K hK=>aD ?_);unfold SF;rcases au h with⟨e1,h⟩|⟨e1,h⟩
    ·obtain⟨e2,h⟩:=aQ h;obtain⟨x3,e4,h⟩:=aj h;try refine ah ?_
     refine eZ ?_;obtain⟨p6,e5,h⟩:=aj h;try refine ah ?_
     refine PC.mk (z8 e5) ?_;obtain⟨p8,e7,h⟩:=aj h;try refine ah ?_
     refine PC.mk (abK e7) ?_;obtain⟨e13,h⟩:=aQ h;try refine ah ?_
     refine gF (f:=Nd.cells) Nd.row gV ([(Nd.mk x3.kind x3.n x3.text p6 p8)]:List Nd) jK .exact av av fM (by first|exact e13|(simp only [List.length_cons,List.length_nil];exact e13)) (fun c9 H10 anV le awP aBt=> ?_);have Lg:HF [] _ H10:=⟨le,fun i _ _=>awP i⟩;try simp only [AH.aK,AH.aL,AH.aM,AH.aN]at le
     have n16:=ne_next (show H.next<H10.next by first|omega|(simp only [AH.aK,AH.aL,AH.aM,AH.aN];omega));have m17:=aW (show H.next<H10.next by first|omega|(simp only [AH.aK,AH.aL,AH.aM,AH.aN];omega));try refine ah ?_
     refine hK _ _ ?_;exact ih aH (gV++[(Nd.mk x3.kind x3.n x3.text p6 p8)]) (IntKind.wrap .i64 (gI+1)) c9 _ _ _ _ aJ (by repeat (first|exact hf0|refine HF.new ?_|refine HF.fP ?_|refine HF.used ?_|refine HF.put (by first|(right;omega)|(left;simp only [List.mem_cons,true_or,or_true])) ?_|refine HF.via Lg (by first|exact fun i hi=>absurd hi List.not_mem_nil|(intro i hi;simp only [List.mem_cons,List.not_mem_nil,or_false]at hi⊢;first|exact .inl hi|omega)) ?_)) av fM _ h _ q0
    ·obtain rfl:=ak h;try refine ah ?_
     exact q0 _ jK _ _ rfl aJ (by repeat (first|exact hf0|refine HF.new ?_|refine HF.fP ?_|refine HF.used ?_|refine HF.put (by first|(right;omega)|(left;simp only [List.mem_cons,true_or,or_true])) ?_)) av
def y5 (k:Nat) (aH:List Nd):Option (List Nd):=
  Option.bind (mX k aH ([]:List Nd) 0) (fun rQ=>some rQ)
theorem xP {k:Nat} {aH:List Nd} {c0:Ck} {r:List Nd} (h:y5 k aH=some r):aF Tryz.prog 15 [(.aB (aH.map Nd.cells) c0)] (.aB (r.map Nd.cells) .unk):=by
  refine aF.lw (.aB .nil) (aF.aP (bg.mem (.cons (aV Nd.pu _) .nil)) (aG avx (by simp) (aD ?_)) (aV Nd.pu _));unfold y5 at h;unfold an0;try refine ah ?_
  obtain⟨o18,h19,h⟩:=aj h;refine UY k aH ([]:List Nd) 0 .nil _ _ _ _ (Fr.refl _ _) (HF.refl _ _) av fM _ h19 _ ?_
  ·rintro rQ c24 σ' H23 eo aBu awQ s25;rw [eo]at h;have le:=awQ.1;try simp only [AH.aK,AH.aL,AH.aM,AH.aN]at le
   obtain rfl:=ak h;try refine ah ?_
   exact(d9 Nd.pu _ _)
def gJ (aZ:Int) (QJ:Int) (ad5:Int):Option Bool:=
  cond (decide (QJ<=aZ)) (some (decide (aZ<=ad5))) (some false)
theorem gL {aZ:Int} {QJ:Int} {ad5:Int} {r:Bool} (h:gJ aZ QJ ad5=some r):aF Tryz.prog 69 [(.int .i64 aZ),(.int .i64 QJ),(.int .i64 ad5)] (.bool r):=by
  refine aF.aP (bg.mem (.cons (.int _ _) (.cons (.int _ _) (.cons (.int _ _) .nil)))) (aG avX (by simp) (aD ?_)) (.bool _);unfold gJ at h;unfold aoP;rcases au h with⟨e1,h⟩|⟨e1,h⟩
  ·obtain rfl:=ak h;try refine ah ?_
   exact(.pure _ (.bool _))
  ·obtain rfl:=ak h;try refine ah ?_
   exact(.pure _ (.bool _))
def mq (Jm:Bool) (QK:Int):Option Int:=
  cond Jm (some QK) (some 0)
theorem lV {Jm:Bool} {QK:Int} {r:Int} (h:mq Jm QK=some r):aF Tryz.prog 47 [(.bool Jm),(.int .i64 QK)] (.int .i64 r):=by
  refine aF.aP (bg.mem (.cons (.bool _) (.cons (.int _ _) .nil))) (aG ahQ (by simp) (aD ?_)) (.int _ _);unfold mq at h;unfold aou;rcases au h with⟨e1,h⟩|⟨e1,h⟩
  ·obtain rfl:=ak h;try refine ah ?_
   exact(.pure _ (.int _ _))
  ·obtain rfl:=ak h;try refine ah ?_
   exact(.pure _ (.int _ _))
def iy:Nat->(List Int)->Int->Int->Option (Unit⊕Int)
  |0,_,_,_=>none
  |k+1,pY,jS,gQ=>
    cond (decide (gQ<jS)) (if 0<=gQ then Option.bind (pY[gQ.toNat]?) fun x3=>cond (x3 !=0) (some (.inr (x3))) (iy k pY jS (IntKind.wrap .i64 (gQ+1)))else none) (some (.inl ()))
def vQ:List Nat:=[2,5]++List.range' 8 9
theorem Kw: ∀(k:Nat) (pY:List Int) (jS:Int) (gQ:Int) (aC σ:Nat->PV) (H:AH) (f0:Fr vQ aC σ) (sl:σ 3=(.int .i64 0)/\σ 6=(.aB (pY.map aY) .unk)/\σ 7=(.int .i64 jS)/\σ 8=(.int .i64 gQ)) (o:Unit⊕Int) (h:iy k pY jS gQ=some o) (Q:Post) (q0: ∀(p:Unit) (σ':Nat->PV),o= .inl p->Fr vQ aC σ'->Q (.exit 0) σ' H) (q1: ∀(p:Int) (σ':Nat->PV),o= .inr (p)->Fr vQ aC σ'->(σ' 2=(.int .i64 p))->Q .ret σ' H),W Tryz.prog (.loop Ta) Q σ H:=by
  intro k
  induction k with
  |zero=>intro pY jS gQ aC σ H f0 sl o h Q q0 q1;simp only [iy,reduceCtorEq]at h
  |succ k ih=>
    intro pY jS gQ aC σ H f0 sl o h Q q0 q1;obtain⟨s3,s6,s7,s8⟩:=sl;unfold iy at h;refine aU (fun K hK=>aD ?_);unfold Ta;rcases au h with⟨e1,h⟩|⟨e1,h⟩
    ·obtain⟨e2,h⟩:=aQ h;obtain⟨x3,e4,h⟩:=aj h;rcases au h with⟨e5,h⟩|⟨e5,h⟩
     ·obtain rfl:=ak h;try refine ah ?_
      exact q1 _ _ rfl aJ av
     ·try refine ah ?_
      refine hK _ _ ?_;exact ih pY jS (IntKind.wrap .i64 (gQ+1)) _ _ _ aJ av _ h _ q0 q1
    ·obtain rfl:=ak h;try refine ah ?_
     exact q0 _ _ rfl aJ
def gK (k:Nat) (EP:List Int):Option Int:=
  Option.bind (iy k EP (EP.length:Int) 0) (fun o=>Sum.elim (fun p8=>some 0) (fun uY=>some uY) o)
theorem kM {k:Nat} {EP:List Int} {c0:Ck} {r:Int} (h:gK k EP=some r):aF Tryz.prog 46 [(.aB (EP.map aY) c0)] (.int .i64 r):=by
  refine aF.lw (.aB .nil) (aF.aP (bg.mem (.cons (aV fO _) .nil)) (aG avI (by simp) (aD ?_)) (.int _ _));unfold gK at h;unfold aot;try refine ah ?_
  obtain⟨o6,h7,h⟩:=aj h;refine Kw k EP (EP.length:Int) 0 _ _ _ (Fr.refl _ _) av _ h7 _ ?_ ?_
  ·rintro p8 σ' eo NC;subst eo;rw [bL]at h;have s12:σ' 3=(.int .i64 0):=(NC 3 (by decide)).trans av;obtain rfl:=ak h;try refine ah ?_
   exact(.pure _ (.int _ _))
  ·rintro uY σ' eo apA um;subst eo;rw [bP]at h;obtain rfl:=ak h;try refine ah ?_
   exact(.pure _ (.int _ _))
def rR (o_0:Operator) (t_1:Str):Option Bool:=
  some (o_0.text==t_1)
theorem Pn {o_0:Operator} {t_1:Str} {r:Bool} (h:rR o_0 t_1=some r):aF Tryz.prog 112 [(.agg (Operator.cells o_0)),(.eB [(.str t_1)] 0)] (.bool r):=by
  refine aF.aP (bg.mem (.cons (.agg _ (Operator.pu _)) (.cons (.eB _ _ (bg.mem (.cons (.str _) .nil))) .nil))) (aG asF (by simp) (aD ?_)) (.bool _);unfold rR at h;unfold ajP;obtain rfl:=ak h;try refine ah ?_
  exact(.pure _ (.bool _))
def aX:Nat->(List Operator)->Str->Int->Int->Option (Unit⊕Int)
  |0,_,_,_,_=>none
  |k+1,s_0,uZ,jS,gQ=>
    cond (decide (gQ<jS)) (if 0<=gQ then Option.bind (s_0[gQ.toNat]?) fun x3=>Option.bind (rR x3 uZ) fun p6=>cond p6 (some (.inr (gQ))) (aX k s_0 uZ jS (IntKind.wrap .i64 (gQ+1)))else none) (some (.inl ()))
def gy:List Nat:=[4,5]++List.range' 8 11
theorem pK: ∀(k:Nat) (s_0:List Operator) (uZ:Str) (jS:Int) (gQ:Int) (aC σ:Nat->PV) (H:AH) (f0:Fr gy aC σ) (sl:σ 0=(.aB (s_0.map Operator.cells) .unk)/\σ 1=(.fn (.func 112) [] [(.eB [(.str uZ)] 0)])/\σ 7=(.int .i64 jS)/\σ 8=(.int .i64 gQ)) (o:Unit⊕Int) (h:aX k s_0 uZ jS gQ=some o) (Q:Post) (q0: ∀(p:Unit) (σ':Nat->PV),o= .inl p->Fr gy aC σ'->Q (.exit 0) σ' H) (q1: ∀(p:Int) (σ':Nat->PV),o= .inr (p)->Fr gy aC σ'->(σ' 4=(.int .i64 p))->Q .ret σ' H),W Tryz.prog (.loop OL) Q σ H:=by
  intro k
  induction k with
  |zero=>intro s_0 uZ jS gQ aC σ H f0 sl o h Q q0 q1;simp only [aX,reduceCtorEq]at h
  |succ k ih=>
    intro s_0 uZ jS gQ aC σ H f0 sl o h Q q0 q1;obtain⟨s0,s1,s7,s8⟩:=sl;unfold aX at h;refine aU (fun K hK=>aD ?_);unfold OL;rcases au h with⟨e1,h⟩|⟨e1,h⟩
    ·obtain⟨e2,h⟩:=aQ h;obtain⟨x3,e4,h⟩:=aj h;obtain⟨p6,e5,h⟩:=aj h;try refine ah ?_
     refine aA (Pn e5) ?_;rcases au h with⟨e7,h⟩|⟨e7,h⟩
     ·obtain rfl:=ak h;try refine ah ?_
      exact q1 _ _ rfl aJ av
     ·try refine ah ?_
      refine hK _ _ ?_;exact ih s_0 uZ jS (IntKind.wrap .i64 (gQ+1)) _ _ _ aJ av _ h _ q0 q1
    ·obtain rfl:=ak h;try refine ah ?_
     exact q0 _ _ rfl aJ
def fq (k:Nat) (s_0:List Operator) (uZ:Str):Option Int:=
  Option.bind (aX k s_0 uZ (s_0.length:Int) 0) (fun o=>Sum.elim (fun iT=>some (-1)) (fun jO=>some jO) o)
theorem qz {k:Nat} {s_0:List Operator} {uZ:Str} {c0:Ck} {r:Int} (h:fq k s_0 uZ=some r):aF Tryz.prog 111 [(.aB (s_0.map Operator.cells) c0),(.fn (.func 112) [] [(.eB [(.str uZ)] 0)])] (.int .i64 r):=by
  refine aF.lw (.aB (.same .nil)) (aF.aP (bg.mem (.cons (aV Operator.pu _) (.cons (.fn _ _ _ (bg.mem .nil) (bg.mem (.cons (.eB _ _ (bg.mem (.cons (.str _) .nil))) .nil))) .nil))) (aG asE (by simp) (aD ?_)) (.int _ _));unfold fq at h;unfold ajO;try refine ah ?_
  obtain⟨o8,h9,h⟩:=aj h;refine pK k s_0 uZ (s_0.length:Int) 0 _ _ _ (Fr.refl _ _) av _ h9 _ ?_ ?_
  ·rintro iT σ' eo KY;subst eo;rw [bL]at h;obtain rfl:=ak h;try refine ah ?_
   exact(.pure _ (.int _ _))
  ·rintro jO σ' eo xE jE;subst eo;rw [bP]at h;obtain rfl:=ak h;try refine ah ?_
   exact(.pure _ (.int _ _))
def DR (xq:Int):Option Bool:=
  Option.bind (gJ (IntKind.wrap .i64 xq) 32 126) fun p2=>cond p2 (cond (xq==34) (some true) (some (xq==92))) (some true)
theorem ZC {xq:Int} {r:Bool} (h:DR xq=some r):aF Tryz.prog 142 [(.int .i32 xq)] (.bool r):=by
  refine aF.aP (bg.mem (.cons (.int _ _) .nil)) (aG as0 (by simp) (aD ?_)) (.bool _);unfold DR at h;unfold akf;obtain⟨p2,e1,h⟩:=aj h;try refine ah ?_
  refine aA (gL e1) ?_;rcases au h with⟨e3,h⟩|⟨e3,h⟩
  ·rcases au h with⟨e4,h⟩|⟨e4,h⟩
   ·obtain rfl:=ak h;try refine ah ?_
    exact(.pure _ (.bool _))
   ·obtain rfl:=ak h;try refine ah ?_
    exact(.pure _ (.bool _))
  ·obtain rfl:=ak h;try refine ah ?_
   exact(.pure _ (.bool _))
def dF:Nat->(List Str)->Str->Int->Int->Option (Unit⊕Int)
  |0,_,_,_,_=>none
  |k+1,s_0,v_1,jS,gQ=>
    cond (decide (gQ<jS)) (if 0<=gQ then Option.bind (s_0[gQ.toNat]?) fun x3=>cond (v_1==x3) (some (.inr (gQ))) (dF k s_0 v_1 jS (IntKind.wrap .i64 (gQ+1)))else none) (some (.inl ()))
def nZ:List Nat:=[4,5]++List.range' 8 11
theorem Dl: ∀(k:Nat) (s_0:List Str) (v_1:Str) (jS:Int) (gQ:Int) (aC σ:Nat->PV) (H:AH) (f0:Fr nZ aC σ) (sl:σ 0=(.aB (s_0.map aI) .unk)/\σ 1=(.str v_1)/\σ 7=(.int .i64 jS)/\σ 8=(.int .i64 gQ)) (o:Unit⊕Int) (h:dF k s_0 v_1 jS gQ=some o) (Q:Post) (q0: ∀(p:Unit) (σ':Nat->PV),o= .inl p->Fr nZ aC σ'->Q (.exit 0) σ' H) (q1: ∀(p:Int) (σ':Nat->PV),o= .inr (p)->Fr nZ aC σ'->(σ' 4=(.int .i64 p))->Q .ret σ' H),W Tryz.prog (.loop OU) Q σ H:=by
  intro k
  induction k with
  |zero=>intro s_0 v_1 jS gQ aC σ H f0 sl o h Q q0 q1;simp only [dF,reduceCtorEq]at h
  |succ k ih=>
    intro s_0 v_1 jS gQ aC σ H f0 sl o h Q q0 q1;obtain⟨s0,s1,s7,s8⟩:=sl;unfold dF at h;refine aU (fun K hK=>aD ?_);unfold OU;rcases au h with⟨e1,h⟩|⟨e1,h⟩
    ·obtain⟨e2,h⟩:=aQ h;obtain⟨x3,e4,h⟩:=aj h;rcases au h with⟨e5,h⟩|⟨e5,h⟩
     ·obtain rfl:=ak h;try refine ah ?_
      exact q1 _ _ rfl aJ av
     ·try refine ah ?_
      refine hK _ _ ?_;exact ih s_0 v_1 jS (IntKind.wrap .i64 (gQ+1)) _ _ _ aJ av _ h _ q0 q1
    ·obtain rfl:=ak h;try refine ah ?_
     exact q0 _ _ rfl aJ
def kS (k:Nat) (s_0:List Str) (v_1:Str):Option Int:=
  Option.bind (dF k s_0 v_1 (s_0.length:Int) 0) (fun o=>Sum.elim (fun p8=>some (-1)) (fun l6=>some l6) o)
theorem FV {k:Nat} {s_0:List Str} {v_1:Str} {c0:Ck} {r:Int} (h:kS k s_0 v_1=some r):aF Tryz.prog 130 [(.aB (s_0.map aI) c0),(.str v_1)] (.int .i64 r):=by
  refine aF.lw (.aB (.same .nil)) (aF.aP (bg.mem (.cons (aV bn _) (.cons (.str _) .nil))) (aG asQ (by simp) (aD ?_)) (.int _ _));unfold kS at h;unfold aj4;try refine ah ?_
  obtain⟨o6,h7,h⟩:=aj h;refine Dl k s_0 v_1 (s_0.length:Int) 0 _ _ _ (Fr.refl _ _) av _ h7 _ ?_ ?_
  ·rintro p8 σ' eo NC;subst eo;rw [bL]at h;obtain rfl:=ak h;try refine ah ?_
   exact(.pure _ (.int _ _))
  ·rintro l6 σ' eo Jo s16;subst eo;rw [bP]at h;obtain rfl:=ak h;try refine ah ?_
   exact(.pure _ (.int _ _))
def cB (k:Nat) (s_0:List Str) (v_1:Str):Option Bool:=
  Option.bind (kS k s_0 v_1) fun p2=>some (decide (p2>=0))
theorem kI {k:Nat} {s_0:List Str} {v_1:Str} {c0:Ck} {r:Bool} (h:cB k s_0 v_1=some r):aF Tryz.prog 81 [(.aB (s_0.map aI) c0),(.str v_1)] (.bool r):=by
  refine aF.lw (.aB (.same .nil)) (aF.aP (bg.mem (.cons (aV bn _) (.cons (.str _) .nil))) (aG av3 (by simp) (aD ?_)) (.bool _));unfold cB at h;unfold aoX;obtain⟨p2,e1,h⟩:=aj h;try refine ah ?_
  refine aA (FV e1) ?_;obtain rfl:=ak h;try refine ah ?_
  exact(.pure _ (.bool _))
def u7 (s_0:Str) (nM:Str):Option Bool:=
  cond (decide ((s_0.length:Int)>=(nM.length:Int))) (if nM.length<=s_0.length then some ((s_0.take nM.length)==nM)else none) (some false)
theorem Nh {s_0:Str} {nM:Str} {r:Bool} (h:u7 s_0 nM=some r):aF Tryz.prog 179 [(.str s_0),(.str nM)] (.bool r):=by
  refine aF.aP (bg.mem (.cons (.str _) (.cons (.str _) .nil))) (aG as9 (by simp) (aD ?_)) (.bool _);unfold u7 at h;unfold akq;rcases au h with⟨e1,h⟩|⟨e1,h⟩
  ·obtain⟨e2,h⟩:=aQ h;obtain rfl:=ak h;try refine ah ?_
   exact(.pure _ (.bool _))
  ·obtain rfl:=ak h;try refine ah ?_
   exact(.pure _ (.bool _))
def lJ (s_0:Str) (nM:Str):Option Bool:=
  Option.bind (u7 s_0 nM) fun p2=>some p2
theorem Dw {s_0:Str} {nM:Str} {r:Bool} (h:lJ s_0 nM=some r):aF Tryz.prog 125 [(.str s_0),(.str nM)] (.bool r):=by
  refine aF.aP (bg.mem (.cons (.str _) (.cons (.str _) .nil))) (aG asM (by simp) (aD ?_)) (.bool _);unfold lJ at h;unfold aj0;obtain⟨p2,e1,h⟩:=aj h;try refine ah ?_
  refine aA (Nh e1) ?_;obtain rfl:=ak h;try refine ah ?_
  exact(.pure _ (.bool _))
def CP (s_0:Str):Option Bool:=
  cond (s_0==([84,82,85,69]:Str)) (some true) (cond (s_0==([70,65,76,83,69]:Str)) (some true) (cond (s_0==([66,79,79,76,69,65,78]:Str)) (some true) (some (s_0==([83,84,82,73,78,71]:Str)))))
theorem NU {s_0:Str} {r:Bool} (h:CP s_0=some r):aF Tryz.prog 129 [(.str s_0)] (.bool r):=by
  refine aF.aP (bg.mem (.cons (.str _) .nil)) (aG asP (by simp) (aD ?_)) (.bool _);unfold CP at h;unfold aj3;rcases au h with⟨e1,h⟩|⟨e1,h⟩
  ·obtain rfl:=ak h;try refine ah ?_
   exact(.pure _ (.bool _))
  ·rcases au h with⟨e2,h⟩|⟨e2,h⟩
   ·obtain rfl:=ak h;try refine ah ?_
    exact(.pure _ (.bool _))
   ·rcases au h with⟨e3,h⟩|⟨e3,h⟩
    ·obtain rfl:=ak h;try refine ah ?_
     exact(.pure _ (.bool _))
    ·obtain rfl:=ak h;try refine ah ?_
     exact(.pure _ (.bool _))
def MU (aH:List Nd) (dD:Int) (qZ:List Int):Option Int:=
  if 0<=dD then Option.bind (aH[dD.toNat]?) fun x2=>cond ((x2.args.length:Int)==0) (some dD) (Option.bind (x2.args[0]?) fun x5=>if 0<=x5 then Option.bind (qZ[x5.toNat]?) fun x8=>some x8 else none)else none
theorem afU {aH:List Nd} {dD:Int} {qZ:List Int} {c0 c2:Ck} {r:Int} (h:MU aH dD qZ=some r):aF Tryz.prog 49 [(.aB (aH.map Nd.cells) c0),(.int .i64 dD),(.aB (qZ.map aY) c2)] (.int .i64 r):=by
  refine aF.lw (.aB (.same (.aB .nil))) (aF.aP (bg.mem (.cons (aV Nd.pu _) (.cons (.int _ _) (.cons (aV fO _) .nil)))) (aG avK (by simp) (aD ?_)) (.int _ _));unfold MU at h;unfold aow;obtain⟨e1,h⟩:=aQ h;obtain⟨x2,e3,h⟩:=aj h;rcases au h with⟨e4,h⟩|⟨e4,h⟩
  ·obtain rfl:=ak h;try refine ah ?_
   exact(.pure _ (.int _ _))
  ·obtain⟨x5,e6,h⟩:=aj h;obtain⟨e7,h⟩:=aQ h;obtain⟨x8,e9,h⟩:=aj h;obtain rfl:=ak h;try refine ah ?_
   exact(.pure _ (.int _ _))
def uG (Ir:Int) (bG:Int):Option Shape:=
  some (Shape.mk (Ir,Ir) (bG,bG) false false)
theorem Dm {Ir:Int} {bG:Int} {r:Shape} (h:uG Ir bG=some r):aF Tryz.prog 140 [(.int .i64 Ir),(.int .i64 bG)] (.agg (Shape.cells r)):=by
  refine aF.aP (bg.mem (.cons (.int _ _) (.cons (.int _ _) .nil))) (aG asZ (by simp) (aD ?_)) (.agg _ (Shape.pu _));unfold uG at h;unfold ake;obtain rfl:=ak h;try refine ah ?_
  exact(dK (.cons (.pure _ (.int _ _)) (.cons (.pure _ (.int _ _)) (.cons (.pure _ (.int _ _)) (.cons (.pure _ (.int _ _)) (.cons (.pure _ (.bool _)) (.cons (.pure _ (.bool _)) .nil)))))))
def mY:Nat->(List Int)->Int->Int->Int->Option (Unit⊕Int)
  |0,_,_,_,_=>none
  |k+1,s_0,v_1,jS,gQ=>
    cond (decide (gQ<jS)) (if 0<=gQ then Option.bind (s_0[gQ.toNat]?) fun x3=>cond (v_1==x3) (some (.inr (gQ))) (mY k s_0 v_1 jS (IntKind.wrap .i64 (gQ+1)))else none) (some (.inl ()))
def uO:List Nat:=[4,5]++List.range' 8 11
theorem Js: ∀(k:Nat) (s_0:List Int) (v_1:Int) (jS:Int) (gQ:Int) (aC σ:Nat->PV) (H:AH) (f0:Fr uO aC σ) (sl:σ 0=(.aB (s_0.map aY) .unk)/\σ 1=(.int .i64 v_1)/\σ 7=(.int .i64 jS)/\σ 8=(.int .i64 gQ)) (o:Unit⊕Int) (h:mY k s_0 v_1 jS gQ=some o) (Q:Post) (q0: ∀(p:Unit) (σ':Nat->PV),o= .inl p->Fr uO aC σ'->Q (.exit 0) σ' H) (q1: ∀(p:Int) (σ':Nat->PV),o= .inr (p)->Fr uO aC σ'->(σ' 4=(.int .i64 p))->Q .ret σ' H),W Tryz.prog (.loop Pg) Q σ H:=by
  intro k
  induction k with
  |zero=>intro s_0 v_1 jS gQ aC σ H f0 sl o h Q q0 q1;simp only [mY,reduceCtorEq]at h
  |succ k ih=>
    intro s_0 v_1 jS gQ aC σ H f0 sl o h Q q0 q1;obtain⟨s0,s1,s7,s8⟩:=sl;unfold mY at h;refine aU (fun K hK=>aD ?_);unfold Pg;rcases au h with⟨e1,h⟩|⟨e1,h⟩
    ·obtain⟨e2,h⟩:=aQ h;obtain⟨x3,e4,h⟩:=aj h;rcases au h with⟨e5,h⟩|⟨e5,h⟩
     ·obtain rfl:=ak h;try refine ah ?_
      exact q1 _ _ rfl aJ av
     ·try refine ah ?_
      refine hK _ _ ?_;exact ih s_0 v_1 jS (IntKind.wrap .i64 (gQ+1)) _ _ _ aJ av _ h _ q0 q1
    ·obtain rfl:=ak h;try refine ah ?_
     exact q0 _ _ rfl aJ
def Aa (k:Nat) (s_0:List Int) (v_1:Int):Option Int:=
  Option.bind (mY k s_0 v_1 (s_0.length:Int) 0) (fun o=>Sum.elim (fun p8=>some (-1)) (fun l6=>some l6) o)
theorem Ni {k:Nat} {s_0:List Int} {v_1:Int} {c0:Ck} {r:Int} (h:Aa k s_0 v_1=some r):aF Tryz.prog 190 [(.aB (s_0.map aY) c0),(.int .i64 v_1)] (.int .i64 r):=by
  refine aF.lw (.aB (.same .nil)) (aF.aP (bg.mem (.cons (aV fO _) (.cons (.int _ _) .nil))) (aG ath (by simp) (aD ?_)) (.int _ _));unfold Aa at h;unfold aky;try refine ah ?_
  obtain⟨o6,h7,h⟩:=aj h;refine Js k s_0 v_1 (s_0.length:Int) 0 _ _ _ (Fr.refl _ _) av _ h7 _ ?_ ?_
  ·rintro p8 σ' eo NC;subst eo;rw [bL]at h;obtain rfl:=ak h;try refine ah ?_
   exact(.pure _ (.int _ _))
  ·rintro l6 σ' eo Jo s16;subst eo;rw [bP]at h;obtain rfl:=ak h;try refine ah ?_
   exact(.pure _ (.int _ _))
def vR (k:Nat) (s_0:List Int) (v_1:Int):Option Bool:=
  Option.bind (Aa k s_0 v_1) fun p2=>some (decide (p2>=0))
theorem Jt {k:Nat} {s_0:List Int} {v_1:Int} {c0:Ck} {r:Bool} (h:vR k s_0 v_1=some r):aF Tryz.prog 149 [(.aB (s_0.map aY) c0),(.int .i64 v_1)] (.bool r):=by
  refine aF.lw (.aB (.same .nil)) (aF.aP (bg.mem (.cons (aV fO _) (.cons (.int _ _) .nil))) (aG as6 (by simp) (aD ?_)) (.bool _));unfold vR at h;unfold akl;obtain⟨p2,e1,h⟩:=aj h;try refine ah ?_
  refine aA (Ni e1) ?_;obtain rfl:=ak h;try refine ah ?_
  exact(.pure _ (.bool _))
def Po (k:Nat) (dL:Int):Option Bool:=
  Option.bind (vR k [8,9,10,11,12,21,22,23,24] dL) fun p2=>some p2
theorem ad6 {k:Nat} {dL:Int} {r:Bool} (h:Po k dL=some r):aF Tryz.prog 98 [(.int .i64 dL)] (.bool r):=by
  refine aF.aP (bg.mem (.cons (.int _ _) .nil)) (aG awj (by simp) (aD ?_)) (.bool _);unfold Po at h;unfold apd;obtain⟨p2,e1,h⟩:=aj h;try refine ah ?_
  refine aA (Jt e1) ?_;obtain rfl:=ak h;try refine ah ?_
  exact(.pure _ (.bool _))
def jr:Nat->(List Str)->(List Str)->Int->Option (Unit⊕Bool)
  |0,_,_,_=>none
  |k+1,a_0,b_1,dV=>
    cond (decide (dV<(a_0.length:Int))) (if 0<=dV then Option.bind (a_0[dV.toNat]?) fun x4=>Option.bind (b_1[dV.toNat]?) fun x6=>cond (x4==x6) (jr k a_0 b_1 (IntKind.wrap .i64 (dV+1))) (some (.inr (false)))else none) (some (.inl ()))
def yN:List Nat:=[4,5]++List.range' 11 15
theorem Nj: ∀(k:Nat) (a_0:List Str) (b_1:List Str) (dV:Int) (aC σ:Nat->PV) (H:AH) (f0:Fr yN aC σ) (sl:σ 0=(.aB (a_0.map aI) .unk)/\σ 1=(.aB (b_1.map aI) .unk)/\σ 5=(.int .i64 dV)) (o:Unit⊕Bool) (h:jr k a_0 b_1 dV=some o) (Q:Post) (q0: ∀(p:Unit) (σ':Nat->PV),o= .inl p->Fr yN aC σ'->Q (.exit 0) σ' H) (q1: ∀(p:Bool) (σ':Nat->PV),o= .inr (p)->Fr yN aC σ'->(σ' 4=(.bool p))->Q .ret σ' H),W Tryz.prog (.loop SV) Q σ H:=by
  intro k
  induction k with
  |zero=>intro a_0 b_1 dV aC σ H f0 sl o h Q q0 q1;simp only [jr,reduceCtorEq]at h
  |succ k ih=>
    intro a_0 b_1 dV aC σ H f0 sl o h Q q0 q1;obtain⟨s0,s1,s5⟩:=sl;unfold jr at h;refine aU (fun K hK=>aD ?_);unfold SV;rcases au h with⟨e2,h⟩|⟨e2,h⟩
    ·try refine ah ?_
     refine eZ ?_;obtain⟨e3,h⟩:=aQ h;obtain⟨x4,e5,h⟩:=aj h;obtain⟨x6,e7,h⟩:=aj h;rcases au h with⟨e8,h⟩|⟨e8,h⟩
     ·try refine ah ?_
      refine hK _ _ ?_;exact ih a_0 b_1 (IntKind.wrap .i64 (dV+1)) _ _ _ aJ av _ h _ q0 q1
     ·obtain rfl:=ak h;try refine ah ?_
      exact q1 _ _ rfl aJ av
    ·obtain rfl:=ak h;try refine ah ?_
     exact q0 _ _ rfl aJ
def pO (k:Nat) (a_0:List Str) (b_1:List Str):Option Bool:=
  cond ((a_0.length:Int) !=(b_1.length:Int)) (some false) (Option.bind (jr k a_0 b_1 0) (fun o=>Sum.elim (fun nJ=>some true) (fun zK=>some zK) o))
theorem Bz {k:Nat} {a_0:List Str} {b_1:List Str} {c0 c1:Ck} {r:Bool} (h:pO k a_0 b_1=some r):aF Tryz.prog 29 [(.aB (a_0.map aI) c0),(.aB (b_1.map aI) c1)] (.bool r):=by
  refine aF.lw (.aB (.aB .nil)) (aF.aP (bg.mem (.cons (aV bn _) (.cons (aV bn _) .nil))) (aG avB (by simp) (aD ?_)) (.bool _));unfold pO at h;unfold aof;rcases au h with⟨e1,h⟩|⟨e1,h⟩
  ·obtain rfl:=ak h;try refine ah ?_
   exact(.pure _ (.bool _))
  ·try refine ah ?_
   obtain⟨o9,h10,h⟩:=aj h;refine Nj k a_0 b_1 0 _ _ _ (Fr.refl _ _) av _ h10 _ ?_ ?_
   ·rintro nJ σ' eo pG;subst eo;rw [bL]at h;obtain rfl:=ak h;try refine ah ?_
    exact(.pure _ (.bool _))
   ·rintro zK σ' eo UC pI;subst eo;rw [bP]at h;obtain rfl:=ak h;try refine ah ?_
    exact(.pure _ (.bool _))
def QL (aZ:Int):Option Int:=
  cond (decide (aZ<0)) (some (IntKind.wrap .i64 (0 -aZ))) (some aZ)
theorem amj {aZ:Int} {r:Int} (h:QL aZ=some r):aF Tryz.prog 160 [(.int .i64 aZ)] (.int .i64 r):=by
  refine aF.aP (bg.mem (.cons (.int _ _) .nil)) (aG as8 (by simp) (aD ?_)) (.int _ _);unfold QL at h;unfold akp;rcases au h with⟨e1,h⟩|⟨e1,h⟩
  ·obtain rfl:=ak h;try refine ah ?_
   exact(.pure _ (.int _ _))
  ·obtain rfl:=ak h;try refine ah ?_
   exact(.pure _ (.int _ _))
def vS:Nat->Int->Str->Option Str
  |0,_,_=>none
  |k+1,aZ,QM=>
    Option.bind (QL (aZ.tmod 10)) fun p2=>if 0<=p2/\p2<=(IntKind.wrap .i64 (p2+1))/\(IntKind.wrap .i64 (p2+1)).toNat<=10 then if((([48,49,50,51,52,53,54,55,56,57]:Str).take (IntKind.wrap .i64 (p2+1)).toNat).drop p2.toNat).length+QM.length<=4611686018427387904 then cond ((IntKind.wrap .i64 (aZ.tdiv 10))==0) (some ((((([48,49,50,51,52,53,54,55,56,57]:Str).take (IntKind.wrap .i64 (p2+1)).toNat).drop p2.toNat)++QM))) (vS k (IntKind.wrap .i64 (aZ.tdiv 10)) (((([48,49,50,51,52,53,54,55,56,57]:Str).take (IntKind.wrap .i64 (p2+1)).toNat).drop p2.toNat)++QM))else none else none
def QN:List Nat:=[0,3,5]++List.range' 8 13
theorem abL: ∀(k:Nat) (aZ:Int) (QM:Str) (aC σ:Nat->PV) (H:AH) (f0:Fr QN aC σ) (sl:σ 0=(.int .i64 aZ)/\σ 3=(.str QM)) (o:Str) (h:vS k aZ QM=some o) (Q:Post) (q0: ∀(p:Str) (σ':Nat->PV),o=p->Fr QN aC σ'->(σ' 3=(.str p))->Q (.exit 0) σ' H),W Tryz.prog (.loop OI) Q σ H:=by
  intro k
  induction k with
  |zero=>intro aZ QM aC σ H f0 sl o h Q q0;simp only [vS,reduceCtorEq]at h
  |succ k ih=>
    intro aZ QM aC σ H f0 sl o h Q q0;obtain⟨s0,s3⟩:=sl;unfold vS at h;refine aU (fun K hK=>aD ?_);unfold OI;obtain⟨p2,e1,h⟩:=aj h;try refine ah ?_
    refine aA (amj e1) ?_;obtain⟨e3,h⟩:=aQ h;obtain⟨e4,h⟩:=aQ h;try refine ah ?_
    refine dA (dI e4) ?_;rcases au h with⟨e5,h⟩|⟨e5,h⟩
    ·obtain rfl:=ak h;try refine ah ?_
     exact q0 _ _ rfl aJ av
    ·try refine ah ?_
     refine hK _ _ ?_;exact ih (IntKind.wrap .i64 (aZ.tdiv 10)) (((([48,49,50,51,52,53,54,55,56,57]:Str).take (IntKind.wrap .i64 (p2+1)).toNat).drop p2.toNat)++QM) _ _ _ aJ av _ h _ q0
def ER (k:Nat) (aZ:Int):Option Str:=
  Option.bind (vS k aZ ([]:Str)) (fun p8=>cond (decide (aZ<0)) (if([45]:Str).length+p8.length<=4611686018427387904 then some (45::p8)else none) (some p8))
theorem aif {k:Nat} {aZ:Int} {r:Str} (h:ER k aZ=some r):aF Tryz.prog 103 [(.int .i64 aZ)] (.str r):=by
  refine aF.aP (bg.mem (.cons (.int _ _) .nil)) (aG asD (by simp) (aD ?_)) (.str _);unfold ER at h;unfold ajL;try refine ah ?_
  obtain⟨o6,h7,h⟩:=aj h;refine abL k aZ ([]:Str) _ _ _ (Fr.refl _ _) av _ h7 _ ?_
  ·rintro p8 σ' eo NC s12;rw [eo]at h;have s13:σ' 4=(.bool (decide (aZ<0))):=(NC 4 (by decide)).trans av;rcases au h with⟨e14,h⟩|⟨e14,h⟩
   ·obtain⟨e15,h⟩:=aQ h;try refine ah ?_
    refine dA (dI e15) ?_;obtain rfl:=ak h;try refine ah ?_
    exact(.pure _ (.str _))
   ·obtain rfl:=ak h;try refine ah ?_
    exact(.pure _ (.str _))
def jL:Nat->(List Int)->(List Int)->Int->Option (Unit⊕Bool)
  |0,_,_,_=>none
  |k+1,a_0,b_1,dV=>
    cond (decide (dV<(a_0.length:Int))) (if 0<=dV then Option.bind (a_0[dV.toNat]?) fun x4=>Option.bind (b_1[dV.toNat]?) fun x6=>cond (x4 !=x6) (some (.inr (false))) (jL k a_0 b_1 (IntKind.wrap .i64 (dV+1)))else none) (some (.inl ()))
def Ab:List Nat:=[4,5]++List.range' 11 15
theorem Pp: ∀(k:Nat) (a_0:List Int) (b_1:List Int) (dV:Int) (aC σ:Nat->PV) (H:AH) (f0:Fr Ab aC σ) (sl:σ 0=(.aB (a_0.map aY) .unk)/\σ 1=(.aB (b_1.map aY) .unk)/\σ 5=(.int .i64 dV)) (o:Unit⊕Bool) (h:jL k a_0 b_1 dV=some o) (Q:Post) (q0: ∀(p:Unit) (σ':Nat->PV),o= .inl p->Fr Ab aC σ'->Q (.exit 0) σ' H) (q1: ∀(p:Bool) (σ':Nat->PV),o= .inr (p)->Fr Ab aC σ'->(σ' 4=(.bool p))->Q .ret σ' H),W Tryz.prog (.loop OJ) Q σ H:=by
  intro k
  induction k with
  |zero=>intro a_0 b_1 dV aC σ H f0 sl o h Q q0 q1;simp only [jL,reduceCtorEq]at h
  |succ k ih=>
    intro a_0 b_1 dV aC σ H f0 sl o h Q q0 q1;obtain⟨s0,s1,s5⟩:=sl;unfold jL at h;refine aU (fun K hK=>aD ?_);unfold OJ;rcases au h with⟨e2,h⟩|⟨e2,h⟩
    ·try refine ah ?_
     refine eZ ?_;obtain⟨e3,h⟩:=aQ h;obtain⟨x4,e5,h⟩:=aj h;obtain⟨x6,e7,h⟩:=aj h;rcases au h with⟨e8,h⟩|⟨e8,h⟩
     ·obtain rfl:=ak h;try refine ah ?_
      exact q1 _ _ rfl aJ av
     ·try refine ah ?_
      refine hK _ _ ?_;exact ih a_0 b_1 (IntKind.wrap .i64 (dV+1)) _ _ _ aJ av _ h _ q0 q1
    ·obtain rfl:=ak h;try refine ah ?_
     exact q0 _ _ rfl aJ
def xQ (k:Nat) (a_0:List Int) (b_1:List Int):Option Bool:=
  cond ((a_0.length:Int) !=(b_1.length:Int)) (some false) (Option.bind (jL k a_0 b_1 0) (fun o=>Sum.elim (fun nJ=>some true) (fun zK=>some zK) o))
theorem Xz {k:Nat} {a_0:List Int} {b_1:List Int} {c0 c1:Ck} {r:Bool} (h:xQ k a_0 b_1=some r):aF Tryz.prog 110 [(.aB (a_0.map aY) c0),(.aB (b_1.map aY) c1)] (.bool r):=by
  refine aF.lw (.aB (.aB .nil)) (aF.aP (bg.mem (.cons (aV fO _) (.cons (aV fO _) .nil))) (aG ajN (by simp) (aD ?_)) (.bool _));unfold xQ at h;unfold ajM;rcases au h with⟨e1,h⟩|⟨e1,h⟩
  ·obtain rfl:=ak h;try refine ah ?_
   exact(.pure _ (.bool _))
  ·try refine ah ?_
   obtain⟨o9,h10,h⟩:=aj h;refine Pp k a_0 b_1 0 _ _ _ (Fr.refl _ _) av _ h10 _ ?_ ?_
   ·rintro nJ σ' eo pG;subst eo;rw [bL]at h;obtain rfl:=ak h;try refine ah ?_
    exact(.pure _ (.bool _))
   ·rintro zK σ' eo UC pI;subst eo;rw [bP]at h;obtain rfl:=ak h;try refine ah ?_
    exact(.pure _ (.bool _))
def Ac (k:Nat) (a_0:Nd) (b_1:Nd):Option Bool:=
  cond (a_0.kind==b_1.kind) (cond (a_0.n==b_1.n) (cond (a_0.text==b_1.text) (Option.bind (pO k a_0.names b_1.names) fun p5=>cond p5 (Option.bind (xQ k a_0.args b_1.args) fun p8=>some p8) (some false)) (some false)) (some false)) (some false)
theorem ZE {k:Nat} {a_0:Nd} {b_1:Nd} {r:Bool} (h:Ac k a_0 b_1=some r):aF Tryz.prog 61 [(.agg (Nd.cells a_0)),(.agg (Nd.cells b_1))] (.bool r):=by
  refine aF.aP (bg.mem (.cons (.agg _ (Nd.pu _)) (.cons (.agg _ (Nd.pu _)) .nil))) (aG aoI (by simp) (aD ?_)) (.bool _);unfold Ac at h;unfold aoH;rcases au h with⟨e1,h⟩|⟨e1,h⟩
  ·rcases au h with⟨e2,h⟩|⟨e2,h⟩
   ·rcases au h with⟨e3,h⟩|⟨e3,h⟩
    ·obtain⟨p5,e4,h⟩:=aj h;try refine ah ?_
     refine aA (Bz e4) ?_;rcases au h with⟨e6,h⟩|⟨e6,h⟩
     ·obtain⟨p8,e7,h⟩:=aj h;try refine ah ?_
      refine aA (Xz e7) ?_;obtain rfl:=ak h;try refine ah ?_
      exact(.pure _ (.bool _))
     ·obtain rfl:=ak h;try refine ah ?_
      exact(.pure _ (.bool _))
    ·obtain rfl:=ak h;try refine ah ?_
     exact(.pure _ (.bool _))
   ·obtain rfl:=ak h;try refine ah ?_
    exact(.pure _ (.bool _))
  ·obtain rfl:=ak h;try refine ah ?_
   exact(.pure _ (.bool _))
def kJ:Nat->(List Nd)->(List Nd)->Int->Option (Unit⊕Bool)
  |0,_,_,_=>none
  |k+1,a_0,b_1,dV=>
    cond (decide (dV<(a_0.length:Int))) (if 0<=dV then Option.bind (a_0[dV.toNat]?) fun x4=>Option.bind (b_1[dV.toNat]?) fun x6=>Option.bind (Ac k x4 x6) fun p9=>cond p9 (kJ k a_0 b_1 (IntKind.wrap .i64 (dV+1))) (some (.inr (false)))else none) (some (.inl ()))
def BA:List Nat:=[4,5]++List.range' 11 16
theorem QO: ∀(k:Nat) (a_0:List Nd) (b_1:List Nd) (dV:Int) (aC σ:Nat->PV) (H:AH) (f0:Fr BA aC σ) (sl:σ 0=(.aB (a_0.map Nd.cells) .unk)/\σ 1=(.aB (b_1.map Nd.cells) .unk)/\σ 5=(.int .i64 dV)) (o:Unit⊕Bool) (h:kJ k a_0 b_1 dV=some o) (Q:Post) (q0: ∀(p:Unit) (σ':Nat->PV),o= .inl p->Fr BA aC σ'->Q (.exit 0) σ' H) (q1: ∀(p:Bool) (σ':Nat->PV),o= .inr (p)->Fr BA aC σ'->(σ' 4=(.bool p))->Q .ret σ' H),W Tryz.prog (.loop SQ) Q σ H:=by
  intro k
  induction k with
  |zero=>intro a_0 b_1 dV aC σ H f0 sl o h Q q0 q1;simp only [kJ,reduceCtorEq]at h
  |succ k ih=>
    intro a_0 b_1 dV aC σ H f0 sl o h Q q0 q1;obtain⟨s0,s1,s5⟩:=sl;unfold kJ at h;refine aU (fun K hK=>aD ?_);unfold SQ;rcases au h with⟨e2,h⟩|⟨e2,h⟩
    ·try refine ah ?_
     refine eZ ?_;obtain⟨e3,h⟩:=aQ h;obtain⟨x4,e5,h⟩:=aj h;obtain⟨x6,e7,h⟩:=aj h;obtain⟨p9,e8,h⟩:=aj h;try refine ah ?_
     refine aA (ZE e8) ?_;rcases au h with⟨e10,h⟩|⟨e10,h⟩
     ·try refine ah ?_
      refine hK _ _ ?_;exact ih a_0 b_1 (IntKind.wrap .i64 (dV+1)) _ _ _ aJ av _ h _ q0 q1
     ·obtain rfl:=ak h;try refine ah ?_
      exact q1 _ _ rfl aJ av
    ·obtain rfl:=ak h;try refine ah ?_
     exact q0 _ _ rfl aJ
def wM (k:Nat) (a_0:List Nd) (b_1:List Nd):Option Bool:=
  cond ((a_0.length:Int) !=(b_1.length:Int)) (some false) (Option.bind (kJ k a_0 b_1 0) (fun o=>Sum.elim (fun uY=>some true) (fun NJ=>some NJ) o))
theorem Lh {k:Nat} {a_0:List Nd} {b_1:List Nd} {c0 c1:Ck} {r:Bool} (h:wM k a_0 b_1=some r):aF Tryz.prog 20 [(.aB (a_0.map Nd.cells) c0),(.aB (b_1.map Nd.cells) c1)] (.bool r):=by
  refine aF.lw (.aB (.aB .nil)) (aF.aP (bg.mem (.cons (aV Nd.pu _) (.cons (aV Nd.pu _) .nil))) (aG avy (by simp) (aD ?_)) (.bool _));unfold wM at h;unfold an6;rcases au h with⟨e1,h⟩|⟨e1,h⟩
  ·obtain rfl:=ak h;try refine ah ?_
   exact(.pure _ (.bool _))
  ·try refine ah ?_
   obtain⟨o11,h12,h⟩:=aj h;refine QO k a_0 b_1 0 _ _ _ (Fr.refl _ _) av _ h12 _ ?_ ?_
   ·rintro uY σ' eo apA;subst eo;rw [bL]at h;obtain rfl:=ak h;try refine ah ?_
    exact(.pure _ (.bool _))
   ·rintro NJ σ' eo apB s21;subst eo;rw [bP]at h;obtain rfl:=ak h;try refine ah ?_
    exact(.pure _ (.bool _))
def dZ:Nat->(List Str)->(List Str)->Int->Int->Option (Unit⊕Bool)
  |0,_,_,_,_=>none
  |k+1,jF,kN,ji,eU=>
    cond (decide (eU<ji)) (if 0<=eU then Option.bind (jF[eU.toNat]?) fun x4=>Option.bind (kN[eU.toNat]?) fun x6=>cond (x4==x6) (dZ k jF kN ji (IntKind.wrap .i64 (eU+1))) (some (.inr (false)))else none) (some (.inl ()))
def og:List Nat:=[4,5]++List.range' 13 13
theorem Dn: ∀(k:Nat) (jF:List Str) (kN:List Str) (ji:Int) (eU:Int) (aC σ:Nat->PV) (H:AH) (f0:Fr og aC σ) (sl:σ 0=(.aB (jF.map aI) .unk)/\σ 1=(.aB (kN.map aI) .unk)/\σ 12=(.int .i64 ji)/\σ 13=(.int .i64 eU)) (o:Unit⊕Bool) (h:dZ k jF kN ji eU=some o) (Q:Post) (q0: ∀(p:Unit) (σ':Nat->PV),o= .inl p->Fr og aC σ'->Q (.exit 0) σ' H) (q1: ∀(p:Bool) (σ':Nat->PV),o= .inr (p)->Fr og aC σ'->(σ' 4=(.bool p))->Q .ret σ' H),W Tryz.prog (.loop OV) Q σ H:=by
  intro k
  induction k with
  |zero=>intro jF kN ji eU aC σ H f0 sl o h Q q0 q1;simp only [dZ,reduceCtorEq]at h
  |succ k ih=>
    intro jF kN ji eU aC σ H f0 sl o h Q q0 q1;obtain⟨s0,s1,s12,s13⟩:=sl;unfold dZ at h;refine aU (fun K hK=>aD ?_);unfold OV;rcases au h with⟨e2,h⟩|⟨e2,h⟩
    ·try refine ah ?_
     refine eZ ?_;obtain⟨e3,h⟩:=aQ h;obtain⟨x4,e5,h⟩:=aj h;obtain⟨x6,e7,h⟩:=aj h;rcases au h with⟨e8,h⟩|⟨e8,h⟩
     ·try refine ah ?_
      refine hK _ _ ?_;exact ih jF kN ji (IntKind.wrap .i64 (eU+1)) _ _ _ aJ av _ h _ q0 q1
     ·obtain rfl:=ak h;try refine ah ?_
      exact q1 _ _ rfl aJ av
    ·obtain rfl:=ak h;try refine ah ?_
     exact q0 _ _ rfl aJ
def kT (k:Nat) (jF:List Str) (kN:List Str):Option Bool:=
  cond ((jF.length:Int) !=(kN.length:Int)) (some false) (Option.bind (dZ k jF kN (jF.length:Int) 0) (fun o=>Sum.elim (fun nJ=>some true) (fun zK=>some zK) o))
theorem FW {k:Nat} {jF:List Str} {kN:List Str} {c0 c1:Ck} {r:Bool} (h:kT k jF kN=some r):aF Tryz.prog 134 [(.aB (jF.map aI) c0),(.aB (kN.map aI) c1)] (.bool r):=by
  refine aF.lw (.aB (.aB .nil)) (aF.aP (bg.mem (.cons (aV bn _) (.cons (aV bn _) .nil))) (aG asT (by simp) (aD ?_)) (.bool _));unfold kT at h;unfold aj7;rcases au h with⟨e1,h⟩|⟨e1,h⟩
  ·obtain rfl:=ak h;try refine ah ?_
   exact(.pure _ (.bool _))
  ·try refine ah ?_
   obtain⟨o9,h10,h⟩:=aj h;refine Dn k jF kN (jF.length:Int) 0 _ _ _ (Fr.refl _ _) av _ h10 _ ?_ ?_
   ·rintro nJ σ' eo pG;subst eo;rw [bL]at h;obtain rfl:=ak h;try refine ah ?_
    exact(.pure _ (.bool _))
   ·rintro zK σ' eo UC pI;subst eo;rw [bP]at h;obtain rfl:=ak h;try refine ah ?_
    exact(.pure _ (.bool _))
def gM:Nat->(List Int)->(List Int)->Int->Int->Option (Unit⊕Bool)
  |0,_,_,_,_=>none
  |k+1,jF,kN,ji,eU=>
    cond (decide (eU<ji)) (if 0<=eU then Option.bind (jF[eU.toNat]?) fun x4=>Option.bind (kN[eU.toNat]?) fun x6=>cond (x4 !=x6) (some (.inr (false))) (gM k jF kN ji (IntKind.wrap .i64 (eU+1)))else none) (some (.inl ()))
def uP:List Nat:=[4,5]++List.range' 13 13
theorem Ju: ∀(k:Nat) (jF:List Int) (kN:List Int) (ji:Int) (eU:Int) (aC σ:Nat->PV) (H:AH) (f0:Fr uP aC σ) (sl:σ 0=(.aB (jF.map aY) .unk)/\σ 1=(.aB (kN.map aY) .unk)/\σ 12=(.int .i64 ji)/\σ 13=(.int .i64 eU)) (o:Unit⊕Bool) (h:gM k jF kN ji eU=some o) (Q:Post) (q0: ∀(p:Unit) (σ':Nat->PV),o= .inl p->Fr uP aC σ'->Q (.exit 0) σ' H) (q1: ∀(p:Bool) (σ':Nat->PV),o= .inr (p)->Fr uP aC σ'->(σ' 4=(.bool p))->Q .ret σ' H),W Tryz.prog (.loop OW) Q σ H:=by
  intro k
  induction k with
  |zero=>intro jF kN ji eU aC σ H f0 sl o h Q q0 q1;simp only [gM,reduceCtorEq]at h
  |succ k ih=>
    intro jF kN ji eU aC σ H f0 sl o h Q q0 q1;obtain⟨s0,s1,s12,s13⟩:=sl;unfold gM at h;refine aU (fun K hK=>aD ?_);unfold OW;rcases au h with⟨e2,h⟩|⟨e2,h⟩
    ·try refine ah ?_
     refine eZ ?_;obtain⟨e3,h⟩:=aQ h;obtain⟨x4,e5,h⟩:=aj h;obtain⟨x6,e7,h⟩:=aj h;rcases au h with⟨e8,h⟩|⟨e8,h⟩
     ·obtain rfl:=ak h;try refine ah ?_
      exact q1 _ _ rfl aJ av
     ·try refine ah ?_
      refine hK _ _ ?_;exact ih jF kN ji (IntKind.wrap .i64 (eU+1)) _ _ _ aJ av _ h _ q0 q1
    ·obtain rfl:=ak h;try refine ah ?_
     exact q0 _ _ rfl aJ
def qA (k:Nat) (jF:List Int) (kN:List Int):Option Bool:=
  cond ((jF.length:Int) !=(kN.length:Int)) (some false) (Option.bind (gM k jF kN (jF.length:Int) 0) (fun o=>Sum.elim (fun nJ=>some true) (fun zK=>some zK) o))
theorem Nk {k:Nat} {jF:List Int} {kN:List Int} {c0 c1:Ck} {r:Bool} (h:qA k jF kN=some r):aF Tryz.prog 135 [(.aB (jF.map aY) c0),(.aB (kN.map aY) c1)] (.bool r):=by
  refine aF.lw (.aB (.aB .nil)) (aF.aP (bg.mem (.cons (aV fO _) (.cons (aV fO _) .nil))) (aG asU (by simp) (aD ?_)) (.bool _));unfold qA at h;unfold aj8;rcases au h with⟨e1,h⟩|⟨e1,h⟩
  ·obtain rfl:=ak h;try refine ah ?_
   exact(.pure _ (.bool _))
  ·try refine ah ?_
   obtain⟨o9,h10,h⟩:=aj h;refine Ju k jF kN (jF.length:Int) 0 _ _ _ (Fr.refl _ _) av _ h10 _ ?_ ?_
   ·rintro nJ σ' eo pG;subst eo;rw [bL]at h;obtain rfl:=ak h;try refine ah ?_
    exact(.pure _ (.bool _))
   ·rintro zK σ' eo UC pI;subst eo;rw [bP]at h;obtain rfl:=ak h;try refine ah ?_
    exact(.pure _ (.bool _))
def ES (k:Nat) (x_0:Nd) (y_1:Nd):Option Bool:=
  cond (x_0.kind==y_1.kind) (cond (x_0.n==y_1.n) (cond (x_0.text==y_1.text) (Option.bind (kT k x_0.names y_1.names) fun p5=>cond p5 (Option.bind (qA k x_0.args y_1.args) fun p8=>some p8) (some false)) (some false)) (some false)) (some false)
theorem ad7 {k:Nat} {x_0:Nd} {y_1:Nd} {r:Bool} (h:ES k x_0 y_1=some r):aF Tryz.prog 133 [(.agg (Nd.cells x_0)),(.agg (Nd.cells y_1))] (.bool r):=by
  refine aF.aP (bg.mem (.cons (.agg _ (Nd.pu _)) (.cons (.agg _ (Nd.pu _)) .nil))) (aG asS (by simp) (aD ?_)) (.bool _);unfold ES at h;unfold aj6;rcases au h with⟨e1,h⟩|⟨e1,h⟩
  ·rcases au h with⟨e2,h⟩|⟨e2,h⟩
   ·rcases au h with⟨e3,h⟩|⟨e3,h⟩
    ·obtain⟨p5,e4,h⟩:=aj h;try refine ah ?_
     refine aA (FW e4) ?_;rcases au h with⟨e6,h⟩|⟨e6,h⟩
     ·obtain⟨p8,e7,h⟩:=aj h;try refine ah ?_
      refine aA (Nk e7) ?_;obtain rfl:=ak h;try refine ah ?_
      exact(.pure _ (.bool _))
     ·obtain rfl:=ak h;try refine ah ?_
      exact(.pure _ (.bool _))
    ·obtain rfl:=ak h;try refine ah ?_
     exact(.pure _ (.bool _))
   ·obtain rfl:=ak h;try refine ah ?_
    exact(.pure _ (.bool _))
  ·obtain rfl:=ak h;try refine ah ?_
   exact(.pure _ (.bool _))
def ET (aH:List Nd):Option Nd:=
  if 0<=(IntKind.wrap .i64 ((aH.length:Int) -1))then Option.bind (aH[(IntKind.wrap .i64 ((aH.length:Int) -1)).toNat]?) fun x2=>some x2 else none
theorem ZF {aH:List Nd} {c0:Ck} {r:Nd} (h:ET aH=some r):aF Tryz.prog 21 [(.aB (aH.map Nd.cells) c0)] (.agg (Nd.cells r)):=by
  refine aF.lw (.aB .nil) (aF.aP (bg.mem (.cons (aV Nd.pu _) .nil)) (aG an8 (by simp) (aD ?_)) (.agg _ (Nd.pu _)));unfold ET at h;unfold an7;obtain⟨e1,h⟩:=aQ h;obtain⟨x2,e3,h⟩:=aj h;obtain rfl:=ak h;try refine ah ?_
  exact(dK (.cons (.pure _ (.int _ _)) (.cons (.pure _ (.int _ _)) (.cons (.pure _ (.str _)) (.cons (d9 bn _ _) (.cons (d9 fO _ _) .nil))))))
def y7 (k:Nat) (aZ:Nd):Option Bool:=
  cond (aZ.kind==2) (Option.bind (vI aZ.text) fun p3=>cond p3 (cond (aZ.kind==3) (Option.bind (sU k aZ.text) fun p7=>some p7) (some false)) (some true)) (cond (aZ.kind==3) (Option.bind (sU k aZ.text) fun iT=>some iT) (some false))
theorem Wm {k:Nat} {aZ:Nd} {r:Bool} (h:y7 k aZ=some r):aF Tryz.prog 73 [(.agg (Nd.cells aZ))] (.bool r):=by
  refine aF.aP (bg.mem (.cons (.agg _ (Nd.pu _)) .nil)) (aG avY (by simp) (aD ?_)) (.bool _);unfold y7 at h;unfold aoR;rcases au h with⟨e1,h⟩|⟨e1,h⟩
  ·obtain⟨p3,e2,h⟩:=aj h;try refine ah ?_
   refine aA (GY e2) ?_;rcases au h with⟨e4,h⟩|⟨e4,h⟩
   ·rcases au h with⟨e5,h⟩|⟨e5,h⟩
    ·obtain⟨p7,e6,h⟩:=aj h;try refine ah ?_
     refine aA (zL e6) ?_;obtain rfl:=ak h;try refine ah ?_
     exact(.pure _ (.bool _))
    ·obtain rfl:=ak h;try refine ah ?_
     exact(.pure _ (.bool _))
   ·obtain rfl:=ak h;try refine ah ?_
    exact(.pure _ (.bool _))
  ·rcases au h with⟨e8,h⟩|⟨e8,h⟩
   ·obtain⟨iT,e9,h⟩:=aj h;try refine ah ?_
    refine aA (zL e9) ?_;obtain rfl:=ak h;try refine ah ?_
    exact(.pure _ (.bool _))
   ·obtain rfl:=ak h;try refine ah ?_
    exact(.pure _ (.bool _))
def Jv (pY:Int):Option Bool:=
  cond (pY==6) (some ((pY==6))) (cond (pY==12) (some ((pY==12))) (cond (pY==7) (some ((pY==7))) (cond (pY==8) (some ((pY==8))) (cond (pY==9) (some ((pY==9))) (cond (pY==13) (some ((pY==13))) (cond (pY==10) (some ((pY==10))) (cond (pY==11) (some ((pY==11))) (some ((pY==24))))))))))
def NW:List Nat:=List.range' 7 10
theorem ZG: ∀(pY:Int) (aC σ:Nat->PV) (H:AH) (f0:Fr NW aC σ) (sl:σ 6=(.int .i64 pY)) (o:Bool) (h:Jv pY=some o) (Q:Post) (q0: ∀(p:Bool) (σ':Nat->PV),o=p->Fr NW aC σ'->(σ' 7=(.bool p))->Q .normal σ' H),W Tryz.prog TP Q σ H:=by
  intro pY aC σ H f0 sl o h Q q0;have s6:=sl;unfold Jv at h;refine aD ?_;unfold TP;rcases au h with⟨e1,h⟩|⟨e1,h⟩
  ·obtain rfl:=ak h;try refine ah ?_
   exact q0 _ _ rfl aJ av
  ·rcases au h with⟨e2,h⟩|⟨e2,h⟩
   ·obtain rfl:=ak h;try refine ah ?_
    exact q0 _ _ rfl aJ av
   ·rcases au h with⟨e3,h⟩|⟨e3,h⟩
    ·obtain rfl:=ak h;try refine ah ?_
     exact q0 _ _ rfl aJ av
    ·rcases au h with⟨e4,h⟩|⟨e4,h⟩
     ·obtain rfl:=ak h;try refine ah ?_
      exact q0 _ _ rfl aJ av
     ·rcases au h with⟨e5,h⟩|⟨e5,h⟩
      ·obtain rfl:=ak h;try refine ah ?_
       exact q0 _ _ rfl aJ av
      ·rcases au h with⟨e6,h⟩|⟨e6,h⟩
       ·obtain rfl:=ak h;try refine ah ?_
        exact q0 _ _ rfl aJ av
       ·rcases au h with⟨e7,h⟩|⟨e7,h⟩
        ·obtain rfl:=ak h;try refine ah ?_
         exact q0 _ _ rfl aJ av
        ·rcases au h with⟨e8,h⟩|⟨e8,h⟩
         ·obtain rfl:=ak h;try refine ah ?_
          exact q0 _ _ rfl aJ av
         ·obtain rfl:=ak h;try refine ah ?_
          exact q0 _ _ rfl aJ av
def uH (aZ:Nd) (oW:Int):Option (List Str):=
  Option.bind (Jv aZ.kind) (fun nJ=>cond nJ (cond (oW==(IntKind.wrap .i64 ((aZ.args.length:Int) -1))) (some aZ.names) (some [])) (cond (aZ.kind==23) (cond (oW==1) (if 1<=aZ.names.length then some (aZ.names.take 1)else none) (cond (aZ.n==1) (some aZ.names) (if 1<=aZ.names.length then some (aZ.names.drop 1)else none))) (some [])))
theorem Wn {aZ:Nd} {oW:Int} {r:List Str} (h:uH aZ oW=some r):aF Tryz.prog 74 [(.agg (Nd.cells aZ)),(.int .i64 oW)] (.aB (r.map aI) .unk):=by
  refine aF.aP (bg.mem (.cons (.agg _ (Nd.pu _)) (.cons (.int _ _) .nil))) (aG avZ (by simp) (aD ?_)) (aV bn _);unfold uH at h;unfold aoS;try refine ah ?_
  obtain⟨o9,h10,h⟩:=aj h;refine ZG aZ.kind _ _ _ (Fr.refl _ _) av _ h10 _ ?_
  ·rintro nJ σ' eo pG s15;rw [eo]at h;have s16:σ' 1=(.int .i64 oW):=(pG 1 (by decide)).trans av;have um:σ' 2=(.ref (AH.empty.next) 0):=(pG 2 (by decide)).trans av;have jE:σ' 6=(.int .i64 aZ.kind):=(pG 6 (by decide)).trans av;rcases au h with⟨e19,h⟩|⟨e19,h⟩
   ·rcases au h with⟨e20,h⟩|⟨e20,h⟩
    ·obtain rfl:=ak h;try refine ah ?_
     exact(d9 bn _ _)
    ·obtain rfl:=ak h;try refine ah ?_
     exact(d9 bn [] _)
   ·rcases au h with⟨e21,h⟩|⟨e21,h⟩
    ·rcases au h with⟨e22,h⟩|⟨e22,h⟩
     ·obtain⟨e23,h⟩:=aQ h;obtain rfl:=ak h;try refine ah ?_
      exact(d9 bn _ _)
     ·rcases au h with⟨e24,h⟩|⟨e24,h⟩
      ·obtain rfl:=ak h;try refine ah ?_
       exact(d9 bn _ _)
      ·obtain⟨e25,h⟩:=aQ h;obtain rfl:=ak h;try refine ah ?_
       exact(d9 bn _ _)
    ·obtain rfl:=ak h;try refine ah ?_
     exact(d9 bn [] _)
def jv (eU:Int):Option Bool:=
  cond (eU==6) (some ((eU==6))) (cond (eU==12) (some ((eU==12))) (cond (eU==7) (some ((eU==7))) (cond (eU==8) (some ((eU==8))) (cond (eU==9) (some ((eU==9))) (cond (eU==13) (some ((eU==13))) (cond (eU==10) (some ((eU==10))) (cond (eU==11) (some ((eU==11))) (some ((eU==24))))))))))
def NY:List Nat:=List.range' 14 10
theorem EU: ∀(eU:Int) (aC σ:Nat->PV) (H:AH) (f0:Fr NY aC σ) (sl:σ 13=(.int .i64 eU)) (o:Bool) (h:jv eU=some o) (Q:Post) (q0: ∀(p:Bool) (σ':Nat->PV),o=p->Fr NY aC σ'->(σ' 14=(.bool p))->Q .normal σ' H),W Tryz.prog OT Q σ H:=by
  intro eU aC σ H f0 sl o h Q q0;have s13:=sl;unfold jv at h;refine aD ?_;unfold OT;rcases au h with⟨e1,h⟩|⟨e1,h⟩
  ·obtain rfl:=ak h;try refine ah ?_
   exact q0 _ _ rfl aJ av
  ·rcases au h with⟨e2,h⟩|⟨e2,h⟩
   ·obtain rfl:=ak h;try refine ah ?_
    exact q0 _ _ rfl aJ av
   ·rcases au h with⟨e3,h⟩|⟨e3,h⟩
    ·obtain rfl:=ak h;try refine ah ?_
     exact q0 _ _ rfl aJ av
    ·rcases au h with⟨e4,h⟩|⟨e4,h⟩
     ·obtain rfl:=ak h;try refine ah ?_
      exact q0 _ _ rfl aJ av
     ·rcases au h with⟨e5,h⟩|⟨e5,h⟩
      ·obtain rfl:=ak h;try refine ah ?_
       exact q0 _ _ rfl aJ av
      ·rcases au h with⟨e6,h⟩|⟨e6,h⟩
       ·obtain rfl:=ak h;try refine ah ?_
        exact q0 _ _ rfl aJ av
       ·rcases au h with⟨e7,h⟩|⟨e7,h⟩
        ·obtain rfl:=ak h;try refine ah ?_
         exact q0 _ _ rfl aJ av
        ·rcases au h with⟨e8,h⟩|⟨e8,h⟩
         ·obtain rfl:=ak h;try refine ah ?_
          exact q0 _ _ rfl aJ av
         ·obtain rfl:=ak h;try refine ah ?_
          exact q0 _ _ rfl aJ av
def fZ (aZ:Nd) (oW:Int):Option (List Str):=
  Option.bind (jv aZ.kind) (fun nJ=>cond nJ (cond (oW==(IntKind.wrap .i64 ((aZ.args.length:Int) -1))) (some aZ.names) (some [])) (cond (aZ.kind==23) (cond (oW==(IntKind.wrap .i64 ((aZ.args.length:Int) -1))) (if 1<=aZ.names.length then some (aZ.names.take 1)else none) (cond (aZ.n==1) (some aZ.names) (if 1<=aZ.names.length then some (aZ.names.drop 1)else none))) (some [])))
theorem afV {aZ:Nd} {oW:Int} {r:List Str} (h:fZ aZ oW=some r):aF Tryz.prog 121 [(.agg (Nd.cells aZ)),(.int .i64 oW)] (.aB (r.map aI) .unk):=by
  refine aF.aP (bg.mem (.cons (.agg _ (Nd.pu _)) (.cons (.int _ _) .nil))) (aG adN (by simp) (aD ?_)) (aV bn _);unfold fZ at h;unfold X9;try refine ah ?_
  obtain⟨o9,h10,h⟩:=aj h;refine EU aZ.kind _ _ _ (Fr.refl _ _) av _ h10 _ ?_
  ·rintro nJ σ' eo pG s15;rw [eo]at h;have s16:σ' 2=(.ref (AH.empty.next) 0):=(pG 2 (by decide)).trans av;have um:σ' 5=(.bool (oW==(IntKind.wrap .i64 ((aZ.args.length:Int) -1)))):=(pG 5 (by decide)).trans av;have jE:σ' 13=(.int .i64 aZ.kind):=(pG 13 (by decide)).trans av;rcases au h with⟨e19,h⟩|⟨e19,h⟩
   ·rcases au h with⟨e20,h⟩|⟨e20,h⟩
    ·obtain rfl:=ak h;try refine ah ?_
     exact(d9 bn _ _)
    ·obtain rfl:=ak h;try refine ah ?_
     exact(d9 bn [] _)
   ·rcases au h with⟨e21,h⟩|⟨e21,h⟩
    ·rcases au h with⟨e22,h⟩|⟨e22,h⟩
     ·obtain⟨e23,h⟩:=aQ h;obtain rfl:=ak h;try refine ah ?_
      exact(d9 bn _ _)
     ·rcases au h with⟨e24,h⟩|⟨e24,h⟩
      ·obtain rfl:=ak h;try refine ah ?_
       exact(d9 bn _ _)
      ·obtain⟨e25,h⟩:=aQ h;obtain rfl:=ak h;try refine ah ?_
       exact(d9 bn _ _)
    ·obtain rfl:=ak h;try refine ah ?_
     exact(d9 bn [] _)
end Go.VL
end
section
namespace Go.VL
open Go.Proofs Go.RowKit
theorem acL {H:AH} {id:Nat} {a b:List PV}:(H.put id a).put id b=H.put id b:=by
  unfold AH.put;simp only [AH.mk.injEq,true_and,and_true]
  funext i
  by_cases h:i=id<;>simp [h]
def Li (n:Int):Str:=98::95::Lib.itoa n
def Ad (left:List Str):Nat->Int->Option (Str×Int)
  |0,_=>none
  |k+1,c=>if 0<=c/\c<=9000 then Option.bind (cB k left (Li (c+1))) fun b=>cond b (Ad left k (c+1)) (some (Li (c+1),c+1))else none
theorem ZH: ∀(m u:Nat),u<=m->(Lib.decDigits u).length<=u+1
  |0,u,h=>by rw [Lib.decDigits,dif_pos (by omega)];simp
  |m+1,u,h=>by
    rw [Lib.decDigits];split
    · simp
    · have:=ZH m (u/10) (by omega);simp;omega
theorem afW {n:Int} (h:0<=n/\n<=10000):(Lib.itoa n).length<=10001:=by
  unfold Lib.itoa;rw [if_neg (by omega)];have:=ZH n.toNat n.toNat (Nat.le_refl _);omega
theorem ad8 (left:List Str) (o:Nat) (ev:PV): ∀(k:Nat) (c:Int) (s:Str) (c':Int) (σ:Nat->PV) (H:AH) (cl:Ck) (Q:Post),Ad left k c=some (s,c')->σ 0= .ref o 0->H.obj o=some [ev,.aB (left.map aI) cl,.int .i64 c]->
    (∀σ',σ' 2= .str s->Q .ret σ' (H.put o [ev,.aB (left.map aI) cl,.int .i64 c']))->W Tryz.prog (.loop Pb) Q σ H:=by
  intro k
  induction k with
  |zero=>intro c s c' σ H cl Q h;cases h
  |succ k ih=>
    intro c s c' σ H cl Q h s0 ho q0;rw [Ad]at h;obtain⟨hc,h⟩:=aQ h;obtain⟨b,hb,h⟩:=aj h;have hlen:=afW (n:=c+1) (by omega);have hw:IntKind.wrap .i64 (c+1)=c+1:=by rw [IntKind.wrap_i64];omega
    have hg:([98,95]:Str).length+(Lib.itoa (c+1)).length<=4611686018427387904:=by simp;omega
    refine aU (fun K hK=>aD ?_);unfold Pb;simp -implicitDefEqProofs only [go_sem,dM,s0,ho,hw,Nat.le_refl];refine aA (apl (c+1) (by omega)) ?_;simp -implicitDefEqProofs only [go_sem,dM,Nat.le_refl];refine dA hg ?_;have Ae:(H.put o [ev,.aB (left.map aI) cl,.int .i64 (c+1)]).obj o=some [ev,.aB (left.map aI) cl,.int .i64 (c+1)]:=by
      show(if o=o then _ else _)=_
      rw [if_pos rfl]
    simp -implicitDefEqProofs only [go_sem,dM,s0,Ae,Nat.le_refl];refine aA (kI hb) ?_;rcases au h with⟨e1,h⟩|⟨e1,h⟩
    · subst e1;simp -implicitDefEqProofs only [go_sem,dM,Nat.le_refl];refine hK _ _ (ih (c+1) s c' _ _ cl Q h aR Ae fun σ' h2=> ?_);rw [acL];exact q0 σ' h2
    · subst e1;cases ak h;simp -implicitDefEqProofs only [go_sem,dM,Nat.le_refl];exact q0 _ (by simp -implicitDefEqProofs only [go_sem];rfl)
theorem ad9 {left:List Str} {o:Nat} {ev:PV} {k:Nat} {c:Int} {s:Str} {c':Int} {H:AH} {cl:Ck} (h:Ad left k c=some (s,c')) (ho:H.obj o=some [ev,.aB (left.map aI) cl,.int .i64 c]):
    bE Tryz.prog 183 [.ref o 0] H fun v H'=>v= .str s/\H'=H.put o [ev,.aB (left.map aI) cl,.int .i64 c']:=by
  refine aG atd (by simp) (aD ?_);unfold aku;simp -implicitDefEqProofs only [go_sem];refine ad8 left o ev k c s c' _ H cl _ h aR ho fun σ' h2=> ?_;simp -implicitDefEqProofs only [go_sem,h2,and_self]
end Go.VL
end
section
namespace Go.VL
def Ev {α:Type} (f:Nat->Option α) (v:α):Prop:= ∃K,∀k,K<=k->f k=some v
section
variable {α β:Type} {f:Nat->Option α} {v w:α}
theorem Ev.of_eq {o:Option α} (h:o=some v):Ev (fun _=>o) v:=⟨0,fun _ _=>h⟩
theorem Ev.all (h: ∀k,f k=some v):Ev f v:=⟨0,fun k _=>h k⟩
theorem Ev.some:Ev (fun _=>Option.some v) v:=⟨0,fun _ _=>rfl⟩
theorem Ev.some' (h:w=v):Ev (fun _=>Option.some w) v:=h▸Ev.some
theorem Ev.succ (h:Ev (fun k=>f (k+1)) v):Ev f v:=by
  obtain⟨K,h⟩:=h;refine⟨K+1,fun k hk=> ?_⟩;obtain⟨k,rfl⟩: ∃j,k=j+1:=⟨k -1,by omega⟩;exact h k (by omega)
theorem Ev.bind {f:Nat->Option β} {g:Nat->β->Option α} {x:β} (hf:Ev f x) (hg:Ev (fun k=>g k x) v):Ev (fun k=>Option.bind (f k) (g k)) v:=by
  obtain⟨K,hK⟩:=hf;obtain⟨L,hL⟩:=hg;refine⟨max K L,fun k hk=> ?_⟩;show Option.bind (f k) (g k)=_
  rw [hK k (by omega)];exact hL k (by omega)
theorem Ev.lY {o:Option β} {g:Nat->β->Option α} {x:β} (hf:o=Option.some x) (hg:Ev (fun k=>g k x) v):Ev (fun k=>Option.bind o (g k)) v:=Ev.bind (Ev.of_eq hf) hg
theorem Ev.mZ {p:Prop} [Decidable p] {g:Nat->Option α} (hp:p) (hg:Ev g v):Ev (fun k=>if p then g k else none) v:=by
  obtain⟨K,hK⟩:=hg;exact⟨K,fun k hk=>(if_pos hp).trans (hK k hk)⟩
theorem Ev.cT {b:Bool} {g g':Nat->Option α} (hb:b=true) (hg:Ev g v):Ev (fun k=>cond b (g k) (g' k)) v:=by subst hb;exact hg
theorem Ev.cF {b:Bool} {g g':Nat->Option α} (hb:b=false) (hg:Ev g' v):Ev (fun k=>cond b (g k) (g' k)) v:=by subst hb;exact hg
theorem Ev.to (h:Ev f v) (e:v=w):Ev f w:=e▸h
theorem Ev.cg {f g:Nat->Option α} (h:Ev f v) (e: ∀k,g k=f k):Ev g v:=by
  obtain⟨K,hK⟩:=h;exact⟨K,fun k hk=>(e k).trans (hK k hk)⟩
theorem Ev.uniq (h:Ev f v) (h':Ev f w):v=w:=by
  obtain⟨K,hK⟩:=h;obtain⟨L,hL⟩:=h';have a:=hK (max K L) (by omega);have b:=hL (max K L) (by omega);rw [a]at b;exact Option.some.inj b
theorem Ev.get (h:Ev f v): ∃k,f k=Option.some v:=by
  obtain⟨K,hK⟩:=h;exact⟨K,hK K (Nat.le_refl _)⟩
end
theorem wrap64 {x:Int} (h1: -9223372036854775808<=x) (h2:x<=9223372036854775807):IntKind.wrap .i64 x=x:=by rw [IntKind.wrap_i64];omega
theorem bI {α:Type} {l:List α} {i:Nat} (h:i<l.length):l[i]? =some l[i]:=List.getElem?_eq_getElem h
theorem down {p:Nat->Prop} {len:Nat} (h0:p len) (h1: ∀i,i<len->p (i+1)->p i): ∀i,i<=len->p i:=by
  intro i hi;obtain⟨n,rfl⟩: ∃n,len=i+n:=⟨len -i,by omega⟩
  induction n generalizing i with
  |zero=>exact h0
  |succ n ih=>exact h1 i (by omega) (ih (i+1) (by rw [Nat.add_right_comm];exact h0) (by rw [Nat.add_right_comm];exact h1) (by omega))
theorem lK {p:Nat->Prop} {len:Nat} (h0:p len) (h1: ∀i,i<len->p (i+1)->p i):p 0:=down h0 h1 0 (Nat.zero_le _)
theorem eO {i n:Nat} (hi:i<n) (hn:n<=1099511627776):IntKind.wrap .i64 ((i:Int)+1)=((i+1:Nat):Int):=by rw [wrap64 (by omega) (by omega)];omega
theorem lC {i n:Nat} (h:i<n):decide ((i:Int)<(n:Int))=true:=decide_eq_true (by omega)
theorem jP (n:Nat):decide ((n:Int)<(n:Int))=false:=decide_eq_false (by omega)
theorem nn (i:Nat):(0:Int)<=(i:Int):=by omega
theorem ZI (b:Bool):Qs b=some (if b=true then 1 else 0):=by cases b<;>rfl
theorem ng (n lo hi:Int):iO n lo hi=some (decide (lo<=n/\n<=hi)):=by
  unfold iO;by_cases h:lo<=n
  · simp [h,ge_iff_le]
  · simp [h,ge_iff_le]
theorem qB (n lo hi:Int):gJ n lo hi=some (decide (lo<=n/\n<=hi)):=by
  unfold gJ;by_cases h:lo<=n
  · simp [h]
  · simp [h]
theorem qC (b:Bool) (c:Int):mq b c=some (if b=true then c else 0):=by cases b<;>rfl
theorem Jw {α:Type} {l:List α} {i:Nat} (h:i<l.length) {s:α}:s∈l.drop i↔l[i]=s\/s∈l.drop (i+1):=by
  rw [List.drop_eq_getElem_cons h,List.mem_cons];exact or_congr_left eq_comm
theorem qm (l:List Str) (s:Str) (hl:l.length<=1099511627776):Ev (fun k=>mI k l s) (decide (s∈l)):=by
  have key:Ev (fun k=>kG k l s ((0:Nat):Int)) (if s∈l.drop 0 then .inr true else .inl ()):=by
    refine lK (len:=l.length) (p:=fun i=>Ev (fun k=>kG k l s (i:Int)) (if s∈l.drop i then .inr true else .inl ())) ?_ fun i hi ih=> ?_
    · refine Ev.succ ?_;simp only [kG];refine Ev.cF (jP _) (Ev.some' ?_);simp
    · refine Ev.succ ?_;simp only [kG,Int.toNat_natCast,bI hi,Option.bind_some,nn,if_true,lC hi,cond_true,eO hi hl];by_cases h:l[i]=s
      · refine Ev.cT (by rw [beq_iff_eq];exact h) (Ev.some' ?_);rw [if_pos ((Jw hi).2 (.inl h))]
      · refine Ev.cF (by rw [beq_eq_false_iff_ne];exact h) (ih.to ?_);simp only [Jw hi,h,false_or]
  unfold mI;refine Ev.bind key ?_;rw [List.drop_zero];by_cases h:s∈l
  · simp only [h,if_true,bP,decide_true];exact Ev.some
  · simp only [h,if_false,bL,decide_false];exact Ev.some
theorem yB (l:List Str) (s:Str) (hl:l.length<=1099511627776):Ev (fun k=>cB k l s) (decide (s∈l)):=by
  have key: ∃o:Unit⊕Int,Ev (fun k=>dF k l s (l.length:Int) ((0:Nat):Int)) o/\((o= .inl ()/\ ¬s∈l.drop 0)\/(∃j:Nat,o= .inr (j:Int))/\s∈l.drop 0):=by
    refine lK (len:=l.length) (p:=fun i=> ∃o:Unit⊕Int,Ev (fun k=>dF k l s (l.length:Int) (i:Int)) o/\((o= .inl ()/\ ¬s∈l.drop i)\/(∃j:Nat,o= .inr (j:Int))/\s∈l.drop i)) ?_ fun i hi ⟨o,ih,ho⟩=> ?_
    · refine⟨.inl (),Ev.succ ?_,.inl ⟨rfl,by simp⟩⟩;simp only [dF];exact Ev.cF (jP _) Ev.some
    · by_cases h:l[i]=s
      · refine⟨.inr (i:Int),Ev.succ ?_,.inr ⟨⟨i,rfl⟩,(Jw hi).2 (.inl h)⟩⟩;simp only [dF,Int.toNat_natCast,bI hi,Option.bind_some,nn,if_true,lC hi,cond_true,eO hi hl];exact Ev.cT (by rw [beq_iff_eq];exact h.symm) Ev.some
      · refine⟨o,Ev.succ ?_,by simp only [Jw hi,h,false_or];exact ho⟩;simp only [dF,Int.toNat_natCast,bI hi,Option.bind_some,nn,if_true,lC hi,cond_true,eO hi hl];exact Ev.cF (by rw [beq_eq_false_iff_ne];exact fun e=>h e.symm) ih
  obtain⟨o,h1,h2⟩:=key;rw [List.drop_zero]at h2;unfold cB;rcases h2 with⟨rfl,h2⟩|⟨⟨j,rfl⟩,h2⟩
  · refine Ev.bind (x:= -1) (by unfold kS;exact Ev.bind h1 Ev.some) (Ev.some' ?_);simp [h2]
  · refine Ev.bind (x:=(j:Int)) (by unfold kS;exact Ev.bind h1 Ev.some) (Ev.some' ?_);simp [h2]
theorem Gn (a b:List Str) (hl:a.length<=1099511627776):Ev (fun k=>pO k a b) (decide (a=b)):=by
  unfold pO;by_cases hab:a.length=b.length
  · refine Ev.cF (by simp [hab]) ?_;have key:Ev (fun k=>jr k a b ((0:Nat):Int)) (if a.drop 0=b.drop 0 then .inl ()else .inr false):=by
      refine lK (len:=a.length) (p:=fun i=>Ev (fun k=>jr k a b (i:Int)) (if a.drop i=b.drop i then .inl ()else .inr false)) ?_ fun i hi ih=> ?_
      · refine Ev.succ ?_;simp only [jr];refine Ev.cF (jP _) (Ev.some' ?_);simp [hab]
      · have hi':i<b.length:=hab▸hi;refine Ev.succ ?_;simp only [jr,Int.toNat_natCast,bI hi,bI hi',Option.bind_some,nn,if_true,lC hi,cond_true,eO hi hl];by_cases h:a[i]=b[i]
        · refine Ev.cT (by rw [beq_iff_eq];exact h) (ih.to ?_);have:List.drop i a=a[i]::List.drop (i+1) a:=List.drop_eq_getElem_cons hi;have:List.drop i b=b[i]::List.drop (i+1) b:=List.drop_eq_getElem_cons hi';simp only [*,List.cons.injEq,true_and]
        · refine Ev.cF (by rw [beq_eq_false_iff_ne];exact h) (Ev.some' ?_);have e1:List.drop i a=a[i]::List.drop (i+1) a:=List.drop_eq_getElem_cons hi;have e2:List.drop i b=b[i]::List.drop (i+1) b:=List.drop_eq_getElem_cons hi';rw [if_neg];intro e;rw [e1,e2,List.cons.injEq]at e;exact h e.1
    refine Ev.bind key ?_;by_cases h:a=b
    · subst h;simp only [if_true,bL,decide_true];exact Ev.some
    · simp only [List.drop_zero,h,if_false,bP,decide_false];exact Ev.some
  · refine Ev.cT (by simp;omega) (Ev.some' ?_);exact(decide_eq_false fun e=>hab (by rw [e])).symm
def Iu:Operator:=Operator.mk [] 0 0 0 false 0 0
def dn (l:List Operator) (t:Str):Operator×Bool:=match l with
  |[]=>(Iu,false)
  |o::l=>if o.text=t then(o,true)else dn l t
def aea (x:Operator):Operator:=Operator.mk x.text x.fix x.low x.high x.left (if x.fix=1 then 2 else 1) (if x.text=[92,88]then 4 else if x.fix=1 then 2 else 1)
theorem XA (add:List Operator) (hl:add.length<=1000): ∀i,i<=add.length-> ∀out:List Operator,out.length=i->Ev (fun k=>mJ k out add (i:Int)) (out++(add.drop i).map aea):=by
  refine down (p:=fun i=> ∀out:List Operator,out.length=i->Ev (fun k=>mJ k out add (i:Int)) (out++(add.drop i).map aea)) ?_ fun i hi ih out ho=> ?_
  · intro out ho;refine Ev.succ ?_;simp only [mJ];refine Ev.cF (jP _) (Ev.some' ?_);simp
  · refine Ev.succ ?_;simp only [mJ,Int.toNat_natCast,bI hi,Option.bind_some,nn,if_true,lC hi,cond_true,eO hi (by omega),ZI];have e1:(out.length+1)*64<=1099511627776:=by omega
    have e2:IntKind.wrap .i64 (1+if(add[i].fix==1)=true then 1 else 0)=if add[i].fix=1 then 2 else 1:=by
      by_cases h:add[i].fix=1
      · simp [h];rfl
      · simp [h];rfl
    simp only [if_pos e1,e2];by_cases h:add[i].text=[92,88]
    · refine Ev.cT (by rw [beq_iff_eq];exact h) ((ih _ (by simp [ho])).to ?_);rw [List.drop_eq_getElem_cons hi,List.map_cons,List.append_assoc];simp [aea,h]
    · refine Ev.cF (by rw [beq_eq_false_iff_ne];exact h) ((ih _ (by simp [ho])).to ?_);rw [List.drop_eq_getElem_cons hi,List.map_cons,List.append_assoc];simp [aea,h]
def eG:List Operator:=(Eh 60).getD []
theorem aeb:Ev (fun k=>Eh k) eG:=by
  unfold Eh;exact Ev.bind (XA _ (by simp) 0 (Nat.zero_le _) [] rfl) (Ev.some' (by kernel_rfl))
theorem Gp (t:Str):Ev (fun k=>rO k t) (dn eG t):=by
  have hlen:eG.length≤1099511627776:=by
    have:eG.length=42:=by kernel_rfl
    omega
  have key: ∀(l:List Operator),l.length<=1099511627776->Ev (fun k=>jo k t ([]:Str) 0 0 0 false 0 0 l ((0:Nat):Int)) (match dn (l.drop 0) t with|(o,true)=> .inr (true,o.text,o.fix,o.low,o.high,o.left,o.least,o.most)|(_,false)=> .inl (([]:Str),0,0,0,false,0,0)):=by
    intro l hl;refine lK (len:=l.length) (p:=fun i=>Ev (fun k=>jo k t ([]:Str) 0 0 0 false 0 0 l (i:Int)) (match dn (l.drop i) t with|(o,true)=> .inr (true,o.text,o.fix,o.low,o.high,o.left,o.least,o.most)|(_,false)=> .inl (([]:Str),0,0,0,false,0,0))) ?_ fun i hi ih=> ?_
    · refine Ev.succ ?_;simp only [jo];refine Ev.cF (jP _) (Ev.some' ?_);simp [dn]
    · refine Ev.succ ?_;simp only [jo,Int.toNat_natCast,bI hi,Option.bind_some,nn,if_true,lC hi,cond_true,eO hi hl];have e1:List.drop i l=l[i]::List.drop (i+1) l:=List.drop_eq_getElem_cons hi;by_cases h:l[i].text=t
      · refine Ev.cT (by rw [beq_iff_eq];exact h) (Ev.some' ?_);rw [e1,dn,if_pos h]
      · refine Ev.cF (by rw [beq_eq_false_iff_ne];exact h) (ih.to ?_);rw [e1,dn,if_neg h]
  have hk:=key eG hlen;rw [List.drop_zero]at hk;unfold rO;refine Ev.bind aeb (Ev.bind hk ?_);have hno: ∀l:List Operator,(dn l t).2=false->(dn l t).1=Iu:=by
    intro l
    induction l with
    |nil=>intro _;rfl
    |cons o l ih=>
      intro h;rw [dn]at h⊢;by_cases e:o.text=t
      · rw [if_pos e]at h;cases h
      · rw [if_neg e]at h⊢;exact ih h
  have:=hno eG;generalize dn eG t=r at this;obtain⟨o,b⟩:=r;cases b with
  |true=>simp only [bP];exact Ev.some
  |false=>simp only [bL];exact Ev.some' (by rw [show o=Iu from this rfl];rfl)
def isLet (c:UInt8):Bool:=decide (97<=c.toNat/\c.toNat<=122)||decide (65<=c.toNat/\c.toNat<=90)
def Ce (c:UInt8):Bool:=decide (48<=c.toNat/\c.toNat<=57)
def ni (c:UInt8):Bool:=isLet c||Ce c||decide (c.toNat=95)
def J4:List Str:=zH.getD []
theorem XB:zH=some J4:=rfl
theorem acM:J4.length=50:=by kernel_rfl
def bName (s:Str):Bool:=decide (1<=s.length/\s.length<=24)&& !decide (s∈J4)&&s.all ni&&s.any isLet
def oh (s:Str):Bool:=decide (s=[84,82,85,69])||decide (s=[70,65,76,83,69])||decide (s=[66,79,79,76,69,65,78])||decide (s=[83,84,82,73,78,71])
def NZ (s:Str):Bool:=decide (s.take 3=[87,70,95])||decide (s.take 3=[83,70,95])
def rName (s:Str):Bool:=bName s&& !oh s&& !NZ s
def bang:Str->Option (Str×Str)
  |[]=>none
  |c::s=>if c=33 then some ([],s)else(bang s).map fun p=>(c::p.1,p.2)
def iX (s:Str):Bool:=match bang s with
  |some (a,b)=>rName a&&rName b
  |none=>rName s
theorem XC (c:UInt8):zI (c.toNat:Int)=some (isLet c):=by
  unfold zI isLet;generalize c.toNat=n;by_cases h1:97<=n<;>by_cases h2:n<=122<;>by_cases h3:65<=n<;>by_cases h4:n<=90<;>simp [h1,h2,h3,h4,ge_iff_le,show((97:Int)<=n)=(97<=n) by rw [eq_iff_iff];omega,show((n:Int)<=122)=(n<=122) by rw [eq_iff_iff];omega,show((65:Int)<=n)=(65<=n) by rw [eq_iff_iff];omega,show((n:Int)<=90)=(n<=90) by rw [eq_iff_iff];omega]
theorem ZJ (c:UInt8):Cz (c.toNat:Int)=some (Ce c):=by
  unfold Cz Ce;generalize c.toNat=n;by_cases h1:48<=n<;>by_cases h2:n<=57<;>simp [h1,h2,ge_iff_le,show((48:Int)<=n)=(48<=n) by rw [eq_iff_iff];omega,show((n:Int)<=57)=(n<=57) by rw [eq_iff_iff];omega]
theorem drop_cons {α:Type} {l:List α} {i:Nat} (h:i<l.length):List.drop i l=l[i]::List.drop (i+1) l:=List.drop_eq_getElem_cons h
theorem UZ (s:Str) (i:Nat) (h:i<s.length) (t:Bool):xM s (i:Int) t=some (t&& !Ce s[i]&& !decide (s[i].toNat=95)):=by
  unfold xM;simp only [Int.toNat_natCast,bI h,Option.bind_some,nn,if_true,ZJ];cases t
  · rfl
  · cases Ce s[i]
    · simp only [cond_true,cond_false,Bool.true_and,Bool.not_false];congr 1
      by_cases e:s[i].toNat=95
      · simp [e]
      · simp only [e,decide_false,Bool.not_false,bne_iff_ne,ne_eq];omega
    · rfl
theorem abM (s:Str):Ev (fun k=>ED k s) (bName s):=by
  unfold ED Cc;simp only [ng,XB,Option.bind_some];by_cases h1:1<=s.length/\s.length<=24
  · have e1:(decide ((1:Int)<=(s.length:Int)/\(s.length:Int)<=24))=true:=decide_eq_true (by omega);simp only [e1,cond_true];by_cases h2:s∈J4
    · refine Ev.bind (x:= .inr false) (Ev.bind (qm _ _ (by rw [acM];omega)) (Ev.cT (decide_eq_true h2) Ev.some)) ?_;simp only [bP];exact Ev.some' (by simp [bName,h2])
    · refine Ev.bind (x:= .inl ()) (Ev.bind (qm _ _ (by rw [acM];omega)) (Ev.cF (decide_eq_false h2) Ev.some)) ?_;simp only [bL];have hb:s.length<=1099511627776:=by omega
      have key: ∀l:Bool,Ev (fun k=>lD k s l ((0:Nat):Int)) (if(s.drop 0).all ni=true then .inl (l||(s.drop 0).any isLet)else .inr false):=by
        refine lK (len:=s.length) (p:=fun i=> ∀l:Bool,Ev (fun k=>lD k s l (i:Int)) (if(s.drop i).all ni=true then .inl (l||(s.drop i).any isLet)else .inr false)) ?_ fun i hi ih l=> ?_
        · intro l;refine Ev.succ ?_;simp only [lD];refine Ev.cF (jP _) (Ev.some' ?_);simp
        · refine Ev.succ ?_;simp only [lD,Int.toNat_natCast,bI hi,Option.bind_some,nn,if_true,lC hi,cond_true,eO hi hb,XC,UZ s i hi];rw [drop_cons hi];simp only [List.all_cons,List.any_cons];by_cases hc:ni s[i]=true
          · refine Ev.cF ?_ ?_
            · unfold ni at hc;revert hc;cases isLet s[i]<;>cases Ce s[i]<;>cases decide (s[i].toNat=95)<;>simp
            · simp only [hc,Bool.true_and];cases l
              · simp only [cond_false,Bool.false_or];exact ih _
              · simp only [cond_true,Bool.true_or];exact(ih true).to (by simp)
          · refine Ev.cT ?_ (Ev.some' ?_)
            · unfold ni at hc;revert hc;cases isLet s[i]<;>cases Ce s[i]<;>cases decide (s[i].toNat=95)<;>simp
            · simp [hc]
      refine Ev.bind (key false) ?_;rw [List.drop_zero];by_cases h3:s.all ni=true
      · simp only [h3,if_true,bL];exact Ev.some' (by simp [bName,h1,h2,h3])
      · simp only [h3,bP];exact Ev.some' (by simp [bName,h3])
  · have e1:(decide ((1:Int)<=(s.length:Int)/\(s.length:Int)<=24))=false:=decide_eq_false (by omega);simp only [e1,cond_false,Option.bind_some,bP];exact Ev.some' (by simp [bName,h1])
theorem Iw (a b:Str):(a==b)=decide (a=b):=by
  by_cases h:a=b
  · simp [h]
  · simp [h]
theorem Af (s:Str):vI s=some (oh s):=by
  unfold vI oh;simp only [Iw];cases decide (s=[84,82,85,69])<;>cases decide (s=[70,65,76,83,69])<;>cases decide (s=[66,79,79,76,69,65,78])<;>rfl
theorem Lj (s:Str):CP s=some (oh s):=Af s
theorem xR (s:Str):Ev (fun k=>sS k s) (rName s):=by
  unfold sS;refine Ev.bind (abM s) ?_;simp only [Af,Option.bind_some,Iw];unfold rName;cases bName s
  · exact Ev.some
  · simp only [cond_true,Bool.true_and];cases oh s
    · simp only [cond_false,Bool.not_false,Bool.true_and];by_cases h:3<=s.length
      · refine Ev.cT (decide_eq_true (by omega)) (Ev.mZ h ?_);unfold NZ;cases decide (s.take 3=[87,70,95])<;>exact Ev.some
      · refine Ev.cF (decide_eq_false (by omega)) (Ev.some' ?_);unfold NZ;have e1: ¬s.take 3=[87,70,95]:=fun e=>h (by have:=congrArg List.length e;rw [List.length_take]at this;simp at this;omega);have e2: ¬s.take 3=[83,70,95]:=fun e=>h (by have:=congrArg List.length e;rw [List.length_take]at this;simp at this;omega);simp [e1,e2]
    · exact Ev.some
theorem afX (s:Str) (i:Nat) (h:i<s.length):bang (s.drop i)=if s[i]=33 then some ([],s.drop (i+1))else(bang (s.drop (i+1))).map fun p=>(s[i]::p.1,p.2):=by
  rw [drop_cons h,bang]
theorem Cg (s:Str) (hb:s.length<=1099511627776):Ev (fun k=>sU k s) (iX s):=by
  have key: ∃o:Unit⊕Bool,Ev (fun k=>lF k s ((0:Nat):Int)) o/\(match bang (s.drop 0)with|some (a,b)=>o= .inr (rName (s.take 0++a)&&rName b)|none=>o= .inl ()):=by
    refine lK (len:=s.length) (p:=fun i=> ∃o:Unit⊕Bool,Ev (fun k=>lF k s (i:Int)) o/\(match bang (s.drop i)with|some (a,b)=>o= .inr (rName (s.take i++a)&&rName b)|none=>o= .inl ())) ?_ fun i hi ⟨o,ih,ho⟩=> ?_
    · refine⟨.inl (),Ev.succ ?_,by simp [bang]⟩;simp only [lF];exact Ev.cF (jP _) Ev.some
    · rw [afX s i hi];by_cases h:s[i]=33
      · refine⟨.inr (rName (s.take i)&&rName (s.drop (i+1))),Ev.succ ?_,by simp [h]⟩;simp only [lF,Int.toNat_natCast,bI hi,Option.bind_some,nn,if_true,lC hi,cond_true,eO hi hb,true_and];refine Ev.cT (by rw [h];rfl) (Ev.mZ (by omega) (Ev.bind (xR _) ?_));cases rName (s.take i)
        · exact Ev.some
        · simp only [cond_true,Bool.true_and];exact Ev.mZ (by omega) (Ev.bind (xR _) Ev.some)
      · refine⟨o,Ev.succ ?_,?_⟩
        · simp only [lF,Int.toNat_natCast,bI hi,Option.bind_some,nn,if_true,lC hi,cond_true,eO hi hb,true_and];refine Ev.cF ?_ ih;rw [beq_eq_false_iff_ne];intro e;refine h (UInt8.toNat_inj.1 ?_);show s[i].toNat=33
          omega
        · rw [if_neg h];revert ho;cases bang (s.drop (i+1))with
          |none=>exact id
          |some p=>
            obtain⟨a,b⟩:=p;simp only [Option.map_some];rw [List.take_succ_eq_append_getElem hi,List.append_assoc];exact id
  obtain⟨o,h1,h2⟩:=key;unfold sU;refine Ev.bind h1 ?_;unfold iX;rw [List.drop_zero]at h2;revert h2;cases bang s with
  |none=>intro h2;subst h2;simp only [bL];exact Ev.bind (xR s) Ev.some
  |some p=>
    obtain⟨a,b⟩:=p;intro h2;simp only [List.take_zero,List.nil_append]at h2;subst h2;simp only [bP];exact Ev.some
def gZ (n lo hi:Int):Bool:=decide (lo<=n/\n<=hi)
def Ll (c:UInt8):Bool:=decide (32<=c.toNat/\c.toNat<=126)&& !decide (c.toNat=34)&& !decide (c.toNat=92)
def vT (s:Str):Bool:=decide (s.length<=40)&&s.all Ll
theorem ZK (s:Str) (m:Int) (hm:m<=1099511627776):Ev (fun k=>CF k s m) (decide ((s.length:Int)<=m)&&s.all fun c=>decide (32<=c.toNat/\c.toNat<=126)):=by
  unfold CF;by_cases h:(s.length:Int)<=m
  · refine Ev.cF (decide_eq_false (by omega)) ?_;have hb:s.length<=1099511627776:=by omega
    have key:Ev (fun k=>lH k s ((0:Nat):Int)) (if(s.drop 0).all (fun c=>decide (32<=c.toNat/\c.toNat<=126))=true then .inl ()else .inr false):=by
      refine lK (len:=s.length) (p:=fun i=>Ev (fun k=>lH k s (i:Int)) (if(s.drop i).all (fun c=>decide (32<=c.toNat/\c.toNat<=126))=true then .inl ()else .inr false)) ?_ fun i hi ih=> ?_
      · refine Ev.succ ?_;simp only [lH];exact Ev.cF (jP _) (Ev.some' (by simp))
      · refine Ev.succ ?_;simp only [lH,Int.toNat_natCast,bI hi,Option.bind_some,nn,if_true,lC hi,cond_true,eO hi hb];rw [drop_cons hi];simp only [List.all_cons,Bool.and_eq_true,decide_eq_true_eq];by_cases h1:32<=s[i].toNat
        · refine Ev.cF (decide_eq_false (by omega)) ?_;by_cases h2:s[i].toNat<=126
          · refine Ev.cF (decide_eq_false (by omega)) (ih.to ?_);simp only [h1,h2,true_and]
          · refine Ev.cT (decide_eq_true (by omega)) (Ev.some' ?_);simp only [h1,h2,and_false,false_and,if_false]
        · refine Ev.cT (decide_eq_true (by omega)) (Ev.some' ?_);simp only [h1,false_and,if_false]
    refine Ev.bind key ?_;rw [List.drop_zero];by_cases h3:(s.all fun c=>decide (32<=c.toNat/\c.toNat<=126))=true
    · simp only [h3,if_true,bL];exact Ev.some' (by simp [h])
    · simp only [h3,if_false,bP];exact Ev.some' (by simp)
  · refine Ev.cT (decide_eq_true (by omega)) (Ev.some' ?_);simp [h]
theorem aec (s:Str):Ev (fun k=>iI k s) (vT s):=by
  unfold iI;refine Ev.bind (ZK s 40 (by omega)) ?_;by_cases h0:s.length<=40
  · have h0':(s.length:Int)<=40:=by omega
    have hb:s.length<=1099511627776:=by omega
    have key:Ev (fun k=>nW k s ((0:Nat):Int)) (if(s.drop 0).all (fun c=> !decide (c.toNat=34)&& !decide (c.toNat=92))=true then .inl ()else .inr false):=by
      refine lK (len:=s.length) (p:=fun i=>Ev (fun k=>nW k s (i:Int)) (if(s.drop i).all (fun c=> !decide (c.toNat=34)&& !decide (c.toNat=92))=true then .inl ()else .inr false)) ?_ fun i hi ih=> ?_
      · refine Ev.succ ?_;simp only [nW];exact Ev.cF (jP _) (Ev.some' (by simp))
      · refine Ev.succ ?_;simp only [nW,Int.toNat_natCast,bI hi,Option.bind_some,nn,if_true,lC hi,cond_true,eO hi hb];rw [drop_cons hi];simp only [List.all_cons,Bool.and_eq_true,Bool.not_eq_true',decide_eq_false_iff_not];by_cases h1:s[i].toNat=34
        · refine Ev.cT (by rw [h1];rfl) (Ev.some' ?_);simp [h1]
        · refine Ev.cF (by rw [beq_eq_false_iff_ne];omega) ?_;by_cases h2:s[i].toNat=92
          · refine Ev.cT (by rw [h2];rfl) (Ev.some' ?_);simp [h2]
          · refine Ev.cF (by rw [beq_eq_false_iff_ne];omega) (ih.to ?_);simp [h1,h2]
    have hsplit:vT s=((s.all fun c=>decide (32<=c.toNat/\c.toNat<=126))&&s.all fun c=> !decide (c.toNat=34)&& !decide (c.toNat=92)):=by
      unfold vT;rw [decide_eq_true h0,Bool.true_and]
      induction s with
      |nil=>rfl
      |cons c l ih=>
        have: ∀a b c d:Bool,(a&&b&&(c&&d))=(a&&c&&(b&&d)):=by decide
        have e1: ∀l:Str,l.all Ll=((l.all fun c=>decide (32<=c.toNat/\c.toNat<=126))&&l.all fun c=> !decide (c.toNat=34)&& !decide (c.toNat=92)):=by
          intro l
          induction l with
          |nil=>rfl
          |cons c l ih=>simp only [List.all_cons,ih,Ll,Bool.and_assoc];cases decide (32<=c.toNat/\c.toNat<=126)<;>cases decide (c.toNat=34)<;>cases decide (c.toNat=92)<;>simp
        exact e1 _
    rw [hsplit];simp only [decide_eq_true h0',Bool.true_and];cases(s.all fun c=>decide (32<=c.toNat/\c.toNat<=126))
    · exact Ev.some
    · simp only [cond_true,Bool.true_and];refine Ev.bind key ?_;rw [List.drop_zero];cases h3:(s.all fun c=> !decide (c.toNat=34)&& !decide (c.toNat=92))
      · simp only [Bool.false_eq_true,if_false,bP];exact Ev.some
      · simp only [if_true,bL];exact Ev.some
  · have h0': ¬(s.length:Int)<=40:=by omega
    simp only [decide_eq_false h0',Bool.false_and,cond_false];exact Ev.some' (by simp [vT,h0])
def ig (kind:Int):(Int×Int×Int×Int)×Bool:=(rP kind).getD ((0,0,0,0),false)
theorem aed (kind:Int):rP kind=some (ig kind):=by
  have:(rP kind).isSome=true:=by
    unfold rP sV zM zN zO zP zQ zR
    repeat' first
      |rfl
      |(generalize(kind==_)=b;cases b<;>simp only [cond_true,cond_false,Option.bind_some])
  unfold ig;cases h:rP kind with
  |none=>rw [h]at this;cases this
  |some v=>rfl
def mD (n:Nd):Bool:=
  let s:=ig n.kind
  let o:=(dn eG n.text).2&&decide (n.kind=3)
  let lo:=if o=true then 0 else s.1.2.2.1
  let hi:=if o=true then(n.args.length:Int)else s.1.2.2.2
  gZ (n.names.length:Int) s.1.1 s.1.2.1&&gZ ((n.args.length:Int) -(n.names.length:Int)*(if s.2=true then 1 else 0)) lo hi
def kU (n:Nd):Bool:=
  (decide (n.kind=1)||decide (n.kind=2)||decide (n.kind=3)||decide (n.kind=18)||decide (n.text=[]))&&
  (decide (n.kind=0)||decide (n.kind=23)||decide (n.n=0))&&(!decide (n.kind=23)||gZ n.n 0 1)&&(!decide (n.kind=1)||vT n.text)
def pQ:List Str->List Str->Bool
  |_,[]=>false
  |acc,s::l=>decide (s∈acc)||pQ (acc++[s]) l
def mE (n:Nd):Int:=
  if(n.names.all rName)=false then 7 else
  if n.kind=2 then(if(iX n.text||oh n.text)=true then 0 else 7)else
  if n.kind=18 then(if rName n.text=true then 0 else 7)else
  if n.kind=3 then(if((dn eG n.text).2||iX n.text)=true then(if((dn eG n.text).2&& !gZ (n.args.length:Int) (dn eG n.text).1.least (dn eG n.text).1.most)=true then 17 else 0)else 7)else 0
def bO (pl:Bool) (n:Nd):Int:=
  if gZ n.kind 0 28=false then 4 else
  if mD n=false then 6 else
  if(pl&&kU n)=false then 5 else
  if(decide (n.kind=0)&& !gZ n.n 0 10000)=true then 3 else
  if mE n≠0 then mE n else
  if pQ [] n.names=true then 12 else 0
theorem aee (a b:Int) (c:Str) (l:List Str) (d:List Int) (hl:l.length<=1099511627776):Ev (fun k=>lI k a b c l d ((0:Nat):Int)) (if(l.drop 0).all rName=true then .inl ()else .inr 7):=by
  refine lK (len:=l.length) (p:=fun i=>Ev (fun k=>lI k a b c l d (i:Int)) (if(l.drop i).all rName=true then .inl ()else .inr 7)) ?_ fun i hi ih=> ?_
  · refine Ev.succ ?_;simp only [lI];exact Ev.cF (jP _) (Ev.some' (by simp))
  · refine Ev.succ ?_;simp only [lI,Int.toNat_natCast,bI hi,Option.bind_some,nn,if_true,lC hi,cond_true,eO hi hl];refine Ev.bind (xR _) ?_;rw [drop_cons hi];simp only [List.all_cons];by_cases hb:rName l[i]=true
    · exact Ev.cT hb (ih.to (by simp only [hb,Bool.true_and]))
    · have hb:rName l[i]=false:=by simpa using hb
      exact Ev.cF hb (Ev.some' (by simp only [hb,Bool.false_and];rfl))
theorem aii (a b:Int) (c:Str) (l:List Str) (d:List Int) (hl:l.length<=1099511627776):Ev (fun k=>kg k a b c l d 1) (if pQ [] l=true then .inr 12 else .inl ()):=by
  have key: ∀i,i<=l.length->Ev (fun k=>kg k a b c l d (i:Int)) (if pQ (l.take i) (l.drop i)=true then .inr 12 else .inl ()):=by
    refine down ?_ fun i hi ih=> ?_
    · refine Ev.succ ?_;simp only [kg];exact Ev.cF (jP _) (Ev.some' (by simp [pQ]))
    · refine Ev.succ ?_;have h2:i<=l.length:=by omega
      simp only [kg,Int.toNat_natCast,bI hi,Option.bind_some,nn,if_true,lC hi,cond_true,eO hi hl,true_and,h2];refine Ev.bind (qm _ _ (by rw [List.length_take];omega)) ?_;rw [drop_cons hi,pQ,<-List.take_succ_eq_append_getElem hi];cases decide (l[i]∈l.take i)
      · simp only [cond_false,Bool.false_or];exact ih
      · exact Ev.some
  cases l with
  |nil=>
    refine Ev.succ ?_;simp only [kg];exact Ev.cF (by rfl) Ev.some
  |cons x l=>
    have:=key 1 (by simp);exact this.to (by simp [pQ])
theorem ZL (e:List Nd) (i:Nat) (n:Nd) (pl:Bool) (hn:e[i]? =some n) (hpl:Ev (fun k=>Bu k e (i:Int)) pl) (h1:n.text.length<=1000000) (h2:n.names.length<=1000000) (h3:n.args.length<=1000000):
    Ev (fun k=>CG k e (i:Int)) (bO pl n):=by
  unfold CG;simp only [Int.toNat_natCast,hn,Option.bind_some,nn,if_true,ng,aed,ZI];unfold bO;by_cases hk:gZ n.kind 0 28=true
  case neg=>
    refine Ev.to (Ev.cF (by simpa [gZ]using hk) Ev.some) (if_pos (by simpa using hk)).symm
  refine Ev.to ?_ (if_neg (by simp [hk])).symm;refine Ev.cT hk ?_
  have hj:Ev (fun k=>vJ k n.kind n.n n.text n.names n.args (ig n.kind).1.1 (ig n.kind).1.2.1 (ig n.kind).1.2.2.1 (ig n.kind).1.2.2.2)
      ((ig n.kind).1.1,(ig n.kind).1.2.1,if((dn eG n.text).2&&decide (n.kind=3))=true then 0 else(ig n.kind).1.2.2.1,if((dn eG n.text).2&&decide (n.kind=3))=true then(n.args.length:Int)else(ig n.kind).1.2.2.2):=by
    unfold vJ zS;refine Ev.bind (Gp _) ?_;cases(dn eG n.text).2
    · exact Ev.some
    · simp only [cond_true,Option.bind_some,Bool.true_and];by_cases h:n.kind=3
      · simp only [h,beq_self_eq_true,cond_true,decide_true,if_true];exact Ev.some
      · rw [show(n.kind==3)=false from beq_eq_false_iff_ne.2 h];simp only [cond_false,h,decide_false,Bool.false_eq_true,if_false];exact Ev.some
  refine Ev.bind hj ?_;have hm:IntKind.wrap .i64 ((n.names.length:Int)*if(ig n.kind).2=true then 1 else 0)=(n.names.length:Int)*if(ig n.kind).2=true then 1 else 0:=by
    split
    · exact wrap64 (by omega) (by omega)
    · exact wrap64 (by omega) (by omega)
  have hm2:IntKind.wrap .i64 ((n.args.length:Int) -((n.names.length:Int)*if(ig n.kind).2=true then 1 else 0))=(n.args.length:Int) -((n.names.length:Int)*if(ig n.kind).2=true then 1 else 0):=by
    split
    · exact wrap64 (by omega) (by omega)
    · exact wrap64 (by omega) (by omega)
  simp only [hm,hm2]
  have hsh: ∀(t:Bool),vK (ig n.kind).1.1 (ig n.kind).1.2.1 (if((dn eG n.text).2&&decide (n.kind=3))=true then 0 else(ig n.kind).1.2.2.1) (if((dn eG n.text).2&&decide (n.kind=3))=true then(n.args.length:Int)else(ig n.kind).1.2.2.2)
      ((n.args.length:Int) -((n.names.length:Int)*if(ig n.kind).2=true then 1 else 0)) (!gZ (n.names.length:Int) (ig n.kind).1.1 (ig n.kind).1.2.1)=some (!mD n):=by
    intro t;unfold vK mD;simp only [ng,Option.bind_some];cases gZ (n.names.length:Int) (ig n.kind).1.1 (ig n.kind).1.2.1
    · rfl
    · simp only [Bool.not_true,cond_false,Bool.true_and];rfl
  have aqe:=hsh true;unfold gZ at aqe;refine Ev.lY aqe ?_;cases hs:mD n
  · exact Ev.some
  simp only [Bool.not_true,cond_false,Bool.true_eq_false,if_false];have h3p:vL n.kind n.n n.text n.names n.args (n.kind==1)=some (decide (n.kind=1)||decide (n.kind=2)||decide (n.kind=3)||decide (n.kind=18)):=by
    unfold vL;by_cases a:n.kind=1
    · simp [a]
    by_cases b:n.kind=2
    · simp [b]
    by_cases c:n.kind=3
    · simp [c]
    by_cases d:n.kind=18
    · simp [d]
    simp [a,b,c,d,beq_eq_false_iff_ne.2 a,beq_eq_false_iff_ne.2 b,beq_eq_false_iff_ne.2 c,beq_eq_false_iff_ne.2 d]
  refine Ev.lY h3p (Ev.bind hpl ?_);have h4:Ev (fun k=>vM k n.kind n.n n.text n.names n.args (decide (n.kind=1)||decide (n.kind=2)||decide (n.kind=3)||decide (n.kind=18)) (!pl)) (!(pl&&kU n)):=by
    cases pl
    · exact Ev.some
    unfold vM kU;simp only [Bool.not_true,cond_false,Bool.true_and,ng,Option.bind_some];have hp:Ev (fun k=>Option.bind (iI k n.text) fun p=>some (!p)) (!vT n.text):=Ev.bind (aec _) Ev.some
    have key: ∀T0 T3 T2:Bool,T0=decide (n.n=0)->T2=gZ n.n 0 1->
        Ev (fun k=>cond (n.kind !=0) (cond (n.kind !=23) (cond (n.n !=0) (some true) (cond (n.kind==23) (cond (decide (0<=n.n/\n.n<=1)) (cond (n.kind==1) (Option.bind (iI k n.text) fun p=>some (!p)) (some false)) (some true)) (cond (n.kind==1) (Option.bind (iI k n.text) fun p=>some (!p)) (some false))))
          (cond (n.kind==23) (cond (decide (0<=n.n/\n.n<=1)) (cond (n.kind==1) (Option.bind (iI k n.text) fun p=>some (!p)) (some false)) (some true)) (cond (n.kind==1) (Option.bind (iI k n.text) fun p=>some (!p)) (some false))))
          (cond (n.kind==23) (cond (decide (0<=n.n/\n.n<=1)) (cond (n.kind==1) (Option.bind (iI k n.text) fun p=>some (!p)) (some false)) (some true)) (cond (n.kind==1) (Option.bind (iI k n.text) fun p=>some (!p)) (some false))))
        (!((decide (n.kind=0)||decide (n.kind=23)||decide (n.n=0))&&(!decide (n.kind=23)||gZ n.n 0 1)&&(!decide (n.kind=1)||vT n.text))):=by
      intro T0 T3 T2 _ _;unfold gZ;by_cases a:n.kind=0
      · simp only [a];exact Ev.some
      by_cases b:n.kind=23
      · simp only [b];by_cases c:0<=n.n/\n.n<=1
        · simp only [c,and_self,decide_true];exact Ev.some
        · simp only [c,decide_false];exact Ev.some
      by_cases c:n.n=0
      · by_cases d:n.kind=1
        · simp only [c,d];exact hp
        · simp only [a,b,c,d,bne_iff_ne,beq_eq_false_iff_ne.2 a,beq_eq_false_iff_ne.2 b,beq_eq_false_iff_ne.2 d,bne,Bool.not_false,cond_true,cond_false,decide_false,decide_true];exact Ev.some
      · simp only [a,b,c,beq_eq_false_iff_ne.2 a,beq_eq_false_iff_ne.2 b,beq_eq_false_iff_ne.2 c,bne,Bool.not_false,cond_true,decide_false];exact Ev.some
    have key':=key _ false _ rfl rfl;cases(decide (n.kind=1)||decide (n.kind=2)||decide (n.kind=3)||decide (n.kind=18))
    · simp only [cond_false,Bool.false_or,Iw];cases decide (n.text=[])
      · exact Ev.some
      · simp only [cond_true,Bool.true_and];exact key'
    · simp only [cond_true,Bool.true_or,Bool.true_and];exact key'
  refine Ev.bind h4 ?_;cases hc:(pl&&kU n)
  · exact Ev.some
  simp only [Bool.not_true,cond_false,Bool.true_eq_false,if_false];have h5:vN n.kind n.n n.text n.names n.args (n.kind==0)=some (decide (n.kind=0)&& !gZ n.n 0 10000):=by
    unfold vN gZ;simp only [ng,Option.bind_some];by_cases a:n.kind=0
    · simp only [a,beq_self_eq_true,cond_true,decide_true,Bool.true_and]
    · simp only [a,beq_eq_false_iff_ne.2 a,cond_false,decide_false,Bool.false_and]
  refine Ev.lY h5 ?_;cases h6:(decide (n.kind=0)&& !gZ n.n 0 10000)
  case true=>exact Ev.some
  simp only [cond_false,Bool.false_eq_true,if_false];refine Ev.bind (aee _ _ _ n.names _ (by omega)) ?_;rw [List.drop_zero];unfold mE;cases h7:n.names.all rName
  · simp only [Bool.false_eq_true,if_false,bP,if_true];exact Ev.some
  simp only [if_true,bL,Bool.true_eq_false,if_false];refine Ev.bind (Gp _) ?_
  have h8: ∀op:Operator,∀is:Bool,Ev (fun k=>vO k n.kind n.n n.text n.names n.args op.text op.fix op.low op.high op.left op.least op.most is)
      (if(if n.kind=2 then(if(iX n.text||oh n.text)=true then(0:Int)else 7)else if n.kind=18 then(if rName n.text=true then 0 else 7)else if n.kind=3 then(if(is||iX n.text)=true then(if(is&& !gZ (n.args.length:Int) op.least op.most)=true then 17 else 0)else 7)else 0)=0 then .inl ()else
        .inr (if n.kind=2 then(if(iX n.text||oh n.text)=true then(0:Int)else 7)else if n.kind=18 then(if rName n.text=true then 0 else 7)else if n.kind=3 then(if(is||iX n.text)=true then(if(is&& !gZ (n.args.length:Int) op.least op.most)=true then 17 else 0)else 7)else 0)):=by
    intro op is;unfold vO;by_cases a:n.kind=2
    · simp only [a,beq_self_eq_true,cond_true,if_true];refine Ev.bind (Cg _ (by omega)) ?_;cases iX n.text
      · simp only [cond_false,Af,Option.bind_some,Bool.false_or];cases oh n.text<;>exact Ev.some
      · exact Ev.some
    by_cases b:n.kind=18
    · simp only [b];refine Ev.cF rfl (Ev.cT rfl ?_);refine Ev.bind (xR _) ?_;cases rName n.text<;>exact Ev.some
    by_cases c:n.kind=3
    · simp only [c];refine Ev.cF rfl (Ev.cF rfl (Ev.cT rfl ?_));unfold zX;cases is
      · simp only [Bool.not_false,cond_true,Bool.false_or];refine Ev.bind (Ev.bind (Cg _ (by omega)) Ev.some) ?_;cases iX n.text<;>exact Ev.some
      · simp only [Bool.not_true,cond_false,Option.bind_some,cond_true,ng,Bool.true_or,if_true,Bool.true_and];unfold gZ;cases decide (op.least<=(n.args.length:Int)/\(n.args.length:Int)<=op.most)<;>exact Ev.some
    · simp only [a,b,c,beq_eq_false_iff_ne.2 a,beq_eq_false_iff_ne.2 b,beq_eq_false_iff_ne.2 c,cond_false,if_false,if_true];exact Ev.some
  refine Ev.bind (h8 (dn eG n.text).1 (dn eG n.text).2) ?_;generalize hx:(if n.kind=2 then(if(iX n.text||oh n.text)=true then(0:Int)else 7)else if n.kind=18 then(if rName n.text=true then 0 else 7)else if n.kind=3 then(if((dn eG n.text).2||iX n.text)=true then(if((dn eG n.text).2&& !gZ (n.args.length:Int) (dn eG n.text).1.least (dn eG n.text).1.most)=true then 17 else 0)else 7)else 0)=x;by_cases hx0:x=0
  · subst hx0;simp only [if_true,bL,ne_eq,not_true_eq_false,if_false];refine Ev.bind (aii _ _ _ n.names _ (by omega)) ?_;cases pQ [] n.names<;>exact Ev.some
  · simp only [hx0,if_false,bP,ne_eq,not_false_eq_true,if_true];exact Ev.some
def uQ (acc:List Int) (n:Nd):Int:=match n.args with
  |[]=>acc.length
  |a::_=>acc[a.toNat]?.getD 0
def rT (acc:List Int):Int->List Int->Bool
  |_,[]=>true
  |next,a::l=>decide (a=next -1)&&decide (1<=next)&&rT acc (acc[(next -1).toNat]?.getD 0) l
structure pR (e:List Nd) (i:Nat) (acc:List Int):Prop where
  len:acc.length=i
  le:i<=e.length
  at_: ∀j,j<i-> ∃n b,e[j]? =some n/\acc[j]? =some b/\0<=b/\b<=(j:Int)/\(n.args=[]->b=(j:Int))/\ ∀a l,n.args=a::l->0<=a/\a<(j:Int)/\acc[a.toNat]? =some b
structure nk (e:List Nd):Prop where
  len:e.length<=1000000
  nd: ∀(i:Nat) n,e[i]? =some n->n.text.length<=1000000/\n.names.length<=1000000/\n.args.length<=1000000
theorem pR.rng {e:List Nd} {i:Nat} {acc:List Int} (h:pR e i acc) {j:Nat} {b:Int} (hb:acc[j]? =some b):j<i/\0<=b/\b<=(j:Int):=by
  have hj:j<i:=by have:=(List.getElem?_eq_some_iff.1 hb).1;have:=h.len;omega
  obtain⟨n,b',h1,h2,h3,h4,_⟩:=h.at_ j hj;rw [hb]at h2;cases h2;exact⟨hj,h3,h4⟩
theorem XD {e:List Nd} {i:Nat} {acc:List Int} (h:pR e i acc) (hi:i<=1000000): ∀(j:Nat) (b:Int),acc[j]? =some b->Ev (fun k=>mK k e (j:Int)) (.inl b):=by
  intro j
  induction j using Nat.strongRecOn with
  |_ j ih=>
    intro b hb;obtain⟨hj,hb0,hb1⟩:=h.rng hb;obtain⟨n,b',h1,h2,_,_,h5,h6⟩:=h.at_ j hj;rw [hb]at h2;cases h2;refine Ev.succ ?_;simp only [mK,Int.toNat_natCast,nn,if_true,h1,Option.bind_some,ng];cases hargs:n.args with
    |nil=>
      refine Ev.cF (by simp) (Ev.some' ?_);rw [h5 hargs]
    |cons a l=>
      obtain⟨h7,h8,h9⟩:=h6 a l hargs;refine Ev.cT (by simp) ?_;simp only [List.getElem?_cons_zero,Option.bind_some];rw [wrap64 (by omega) (by omega)];refine Ev.cT (decide_eq_true (by omega)) ?_;have:=ih a.toNat (by omega) b h9
      rwa [Int.toNat_of_nonneg h7]at this
theorem QS {e:List Nd} {i:Nat} {acc:List Int} (h:pR e i acc) (hi:i<=1000000) {j:Nat} {b:Int} (hb:acc[j]? =some b):Ev (fun k=>uF k e (j:Int)) b:=by
  unfold uF;refine Ev.cF (decide_eq_false (by omega)) (Ev.bind (XD h hi j b hb) ?_);simp only [bL];exact Ev.some
theorem ZM {α:Type} {l:List α} {m:Nat} (h:m<l.length):(l.take (m+1)).reverse=l[m]::(l.take m).reverse:=by
  rw [List.take_succ_eq_append_getElem h,List.reverse_append];rfl
theorem U0 {e:List Nd} {i:Nat} {acc:List Int} (h:pR e i acc) (hi:i<=1000000) {n:Nd} (hn:e[i]? =some n) (hl:n.args.length<=1000000): ∀(m:Nat),m<=n.args.length-> ∀nx:Nat,nx<=i->
    Ev (fun k=>oD k e (i:Int) (nx:Int) ((m:Int) -1)) (if rT acc nx (n.args.take m).reverse=true then .inl ()else .inr false):=by
  intro m
  induction m with
  |zero=>
    intro _ nx hnx;refine Ev.succ ?_;simp only [oD];exact Ev.cF (by rfl) (Ev.some' (by simp [rT]))
  |succ m ih=>
    intro hm nx hnx;have hm':m<n.args.length:=by omega
    refine Ev.succ ?_;have e1:(((m+1:Nat):Int) -1)=(m:Int):=by omega
    simp only [e1,oD,Int.toNat_natCast,nn,if_true,hn,Option.bind_some,bI hm'];rw [ZM hm',rT];refine Ev.cT (by simp) ?_;rw [wrap64 (x:=(nx:Int) -1) (by omega) (by omega),wrap64 (x:=(m:Int) -1) (by omega) (by omega)];by_cases h1:n.args[m]=(nx:Int) -1
    · refine Ev.cF (by rw [h1];simp) ?_;by_cases h2:nx<1
      · refine Ev.cT (decide_eq_true (by omega)) (Ev.some' ?_);have: ¬(1:Int)<=nx:=by omega
        simp [this]
      · refine Ev.cF (decide_eq_false (by omega)) ?_;obtain⟨j,rfl⟩: ∃j,nx=j+1:=⟨nx -1,by omega⟩;have e2:(((j+1:Nat):Int) -1)=(j:Int):=by omega
        rw [e2]at h1⊢;obtain⟨n',b,h3,h4,h5,h6,_⟩:=h.at_ j (by omega);refine Ev.bind (QS h hi h4) ?_;obtain⟨b,rfl⟩: ∃b':Nat,b=b':=⟨b.toNat,by omega⟩;refine(ih (by omega) b (by omega)).to ?_;have e3:(1:Int)<=((j+1:Nat):Int):=by omega
        simp only [h1,e3,decide_true,Bool.true_and,Int.toNat_natCast,h4,Option.getD_some]
    · refine Ev.cT (by rw [bne_iff_ne];exact h1) (Ev.some' ?_);simp [h1]
theorem abN {e:List Nd} {i:Nat} {acc:List Int} (h:pR e i acc) (hi:i<=1000000) {n:Nd} (hn:e[i]? =some n) (hl:n.args.length<=1000000):Ev (fun k=>Bu k e (i:Int)) (rT acc i n.args.reverse):=by
  unfold Bu;simp only [Int.toNat_natCast,nn,if_true,hn,Option.bind_some];rw [wrap64 (by omega) (by omega)];have:=U0 h hi hn hl n.args.length (Nat.le_refl _) i (Nat.le_refl _);rw [List.take_length]at this;refine Ev.bind this ?_;cases rT acc i n.args.reverse
  · simp only [Bool.false_eq_true,if_false,bP];exact Ev.some
  · simp only [if_true,bL];exact Ev.some
theorem U1 {e:List Nd} {i:Nat} {acc:List Int} (h:pR e i acc): ∀(l:List Int) (nx:Nat),nx<=i->rT acc nx l=true-> ∀a∈l,0<=a/\a<(nx:Int)
  |[],_,_,_,a,ha=>by cases ha
  |a::l,nx,hnx,hp,x,hx=>by
    rw [rT,Bool.and_eq_true,Bool.and_eq_true,decide_eq_true_eq,decide_eq_true_eq]at hp;obtain⟨⟨h1,h2⟩,h3⟩:=hp;rcases List.mem_cons.1 hx with rfl|hx
    · omega
    · obtain⟨j,rfl⟩: ∃j,nx=j+1:=⟨nx -1,by omega⟩;have e2:(((j+1:Nat):Int) -1)=(j:Int):=by omega
      obtain⟨n',b,h4,h5,h6,h7,_⟩:=h.at_ j (by omega);rw [e2,Int.toNat_natCast,h5,Option.getD_some]at h3;obtain⟨b,rfl⟩: ∃b':Nat,b=b':=⟨b.toNat,by omega⟩;have:=U1 h l b (by omega) h3 x hx;omega
theorem pR.zero (e:List Nd):pR e 0 []:=⟨rfl,Nat.zero_le _,fun j hj=>absurd hj (Nat.not_lt_zero _)⟩
theorem pR.succ {e:List Nd} {i:Nat} {acc:List Int} (h:pR e i acc) {n:Nd} (hn:e[i]? =some n) (hp:rT acc i n.args.reverse=true):pR e (i+1) (acc++[uQ acc n]):=by
  have hmem:=U1 h _ i (Nat.le_refl _) hp;have hlen:=h.len;refine⟨by simp [hlen],(List.getElem?_eq_some_iff.1 hn).1,fun j hj=> ?_⟩;have old: ∀(m:Nat) (b:Int),acc[m]? =some b->(acc++[uQ acc n])[m]? =some b:=fun m b e=>by
    rw [List.getElem?_append_left (List.getElem?_eq_some_iff.1 e).1];exact e
  by_cases hj':j<i
  · obtain⟨n',b,h1,h2,h3,h4,h5,h6⟩:=h.at_ j hj';exact⟨n',b,h1,old _ _ h2,h3,h4,h5,fun a l ha=>⟨(h6 a l ha).1,(h6 a l ha).2.1,old _ _ (h6 a l ha).2.2⟩⟩
  · obtain rfl:j=i:=by omega
    have hnew:(acc++[uQ acc n])[j]? =some (uQ acc n):=by rw [List.getElem?_append_right (by omega),hlen,Nat.sub_self];rfl
    cases hargs:n.args with
    |nil=>
      have e1:uQ acc n=(j:Int):=by unfold uQ;rw [hargs];simp [hlen]
      exact⟨n,_,hn,hnew,by omega,by omega,fun _=>e1,fun a l ha=>by rw [hargs]at ha;cases ha⟩
    |cons a l=>
      have ha:=hmem a (by rw [hargs];simp);obtain⟨n',b,h1,h2,h3,h4,h5,h6⟩:=h.at_ a.toNat (by omega);have e1:uQ acc n=b:=by unfold uQ;rw [hargs];simp only [h2,Option.getD_some]
      rw [e1]at hnew old⊢;refine⟨n,b,hn,hnew,h3,by omega,(fun h=>by rw [hargs]at h;cases h),fun a' l' ha'=> ?_⟩;rw [hargs]at ha';cases ha';exact⟨ha.1,ha.2,old _ _ h2⟩
def jT:List Int->List Nd->List Int⊕(Int×Int)
  |acc,[]=> .inl acc
  |acc,n::l=>if bO (rT acc acc.length n.args.reverse) n≠0 then .inr ((acc.length:Int),bO (rT acc acc.length n.args.reverse) n)else jT (acc++[uQ acc n]) l
theorem uI {n:Nd} {pl:Bool} (h:bO pl n=0):pl=true:=by
  cases pl with
  |true=>rfl
  |false=>
    exfalso;unfold bO at h;simp only [Bool.false_and,if_true]at h;split at h
    · cases h
    · split at h<;>cases h
theorem XE {e:List Nd} (hL:nk e): ∀i,i<=e.length-> ∀acc,pR e i acc->Ev (fun k=>nX k e (i:Int)) (match jT acc (e.drop i)with| .inl _=> .inl ()| .inr r=> .inr r):=by
  have hlen:=hL.len;refine down (fun acc h=> ?_) (fun i hi ih acc h=> ?_)
  · refine Ev.succ ?_;simp only [nX];exact Ev.cF (jP _) (Ev.some' (by simp [jT]))
  · refine Ev.succ ?_;obtain⟨h1,h2,h3⟩:=hL.nd i _ (bI hi);simp only [nX];refine Ev.cT (lC hi) (Ev.bind (ZL e i e[i] _ (bI hi) (abN h (by omega) (bI hi) h3) h1 h2 h3) ?_);rw [drop_cons hi,jT,h.len];by_cases hc:bO (rT acc i e[i].args.reverse) e[i]=0
    · refine Ev.cF (by rw [hc];rfl) ?_;rw [eO hi (by omega)];refine(ih _ (h.succ (bI hi) (uI hc))).to ?_;simp only [hc,ne_eq,not_true_eq_false,if_false]
    · refine Ev.cT (by rw [bne_iff_ne];exact hc) (Ev.some' ?_);simp only [ne_eq,hc,not_false_eq_true,if_true]
end Go.VL
end
