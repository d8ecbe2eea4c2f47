/- Part 4 of the proof: what the theorem rests on. -/
import Derived.Test.YthebklihgmhgoaaGreatDoorKe3
import Derived.KernelRfl
import Derived.Below
import Derived.Shelf.Spec.SlicesGrow
import Derived.Shelf.Strings.Builder1
import Derived.Shelf.Strings.Builder2
import Derived.Shelf.Strings.OnBuilder
import Derived.Shelf.Small.Bits
import Derived.Shelf.Strings.Builder2Cap
import Derived.Shelf.Strconv.Itoa0
import Derived.Shelf.Strconv.Itoa1
import Derived.Shelf.LaysM
import Derived.Shelf.Strconv.Itoa2
import Derived.Shelf.Strconv.Itoa3
import Derived.Shelf.Strings.Search1
import Derived.Shelf.Strings.Search2
import Derived.Shelf.Strings.Cut
import Derived.Shelf.Strings.Shaped
import Derived.Shelf.Sort.Plain
import Derived.Shelf.GgClosure.StringsIndexFunc
import Derived.Ground.GgwProg
import Derived.Shelf.GgClosure.StringsIndexFuncTop
import Derived.Shelf.Strings.Prefix
import Derived.Shelf.Strings.Fields
import Derived.Shelf.Unicode.Latin
import Derived.Shelf.Bits.Mul64
import Derived.Shelf.Unicode.Is16White
import Derived.Shelf.Unicode.IsSpaceAny
import Derived.Shelf.Unicode.Is16WhiteD
import Derived.Shelf.Unicode.IsSpaceAnyD
import Derived.Shelf.Strings.FieldsAny
import Derived.Shelf.Strings.FieldsFuncAny
import Derived.Shelf.Unicode.Is16Any
import Derived.Shelf.Unicode.Is32Any
import Derived.Shelf.Unicode.ExclAny
import Derived.Shelf.Strings.FuncGrows
import Derived.Shelf.Slices.Equal
import Derived.Ground.Names2Prog
import Derived.Shelf.Slices.Clone
import Derived.Shelf.Slices.CompactS
import Derived.Shelf.Slices.Cells
import Derived.Shelf.Slices.In.SortNone
import Derived.Shelf.Slices.Empties2
import Derived.Test.YthebklihgmhgoaaGreatDoorProg
set_option linter.unusedVariables false
set_option linter.unusedSectionVars false
set_option linter.unusedSimpArgs false
section
set_option maxRecDepth 8000
set_option maxHeartbeats 4000000
namespace Go.VL
open Go.Proofs
def Sd (Ka:Bool):Option Int:=
  cond Ka (some 1) (some 0)
theorem adx {Ka:Bool} {r:Int} (h:Sd Ka=some r):aG Tryz.prog 23 [(.bool Ka)] (.int .i64 r):=by
  refine aG.aR (bB.mem (.cons (.bool _) .nil)) (aI auY (by simp) (aF ?_)) (.int _ _);unfold Sd at h;unfold aor;rcases au h with⟨e1,h⟩|⟨e1,h⟩
  ·obtain rfl:=ak h;try refine ah ?_
   exact(.pure _ (.int _ _))
  ·obtain rfl:=ak h;try refine ah ?_
   exact(.pure _ (.int _ _))
def iQ (aT:Int) (Zl:Int) (Sg:Int):Option Bool:=
  cond (decide (aT>=Zl)) (some (decide (aT<=Sg))) (some false)
theorem jh {aT:Int} {Zl:Int} {Sg:Int} {r:Bool} (h:iQ aT Zl Sg=some r):aG Tryz.prog 35 [(.int .i64 aT),(.int .i64 Zl),(.int .i64 Sg)] (.bool r):=by
  refine aG.aR (bB.mem (.cons (.int _ _) (.cons (.int _ _) (.cons (.int _ _) .nil)))) (aI aoC (by simp) (aF ?_)) (.bool _);unfold iQ at h;unfold aoB;rcases au h with⟨e1,h⟩|⟨e1,h⟩
  ·obtain rfl:=ak h;try refine ah ?_
   exact(.pure _ (.bool _))
  ·obtain rfl:=ak h;try refine ah ?_
   exact(.pure _ (.bool _))
def kS:Nat->(List Str)->Str->Int->Option (Unit⊕Bool)
  |0,_,_,_=>none
  |k+1,bT,s_1,j4=>
    cond (decide (j4<(bT.length:Int))) (if 0<=j4 then Option.bind (bT[j4.toNat]?) fun x3=>cond (x3==s_1) (some (.inr (true))) (kS k bT s_1 (IntKind.wrap .i64 (j4+1)))else none) (some (.inl ()))
def Cb:List Nat:=List.range' 4 14
theorem Si: ∀(k:Nat) (bT:List Str) (s_1:Str) (j4:Int) (aC σ:Nat->PV) (H:AH) (f0:Fr Cb aC σ) (sl:σ 0=(.aB (bT.map aX) .unk)/\σ 1=(.str s_1)/\σ 5=(.int .i64 j4)) (o:Unit⊕Bool) (h:kS k bT s_1 j4=some o) (Q:Post) (q0: ∀(p:Unit) (σ':Nat->PV),o= .inl p->Fr Cb aC σ'->Q (.exit 0) σ' H) (q1: ∀(p:Bool) (σ':Nat->PV),o= .inr (p)->Fr Cb aC σ'->(σ' 4=(.bool p))->Q .ret σ' H),W Tryz.prog (.loop UZ) Q σ H:=by
  intro k
  induction k with
  |zero=>intro bT s_1 j4 aC σ H f0 sl o h Q q0 q1;simp only [kS,reduceCtorEq]at h
  |succ k ih=>
    intro bT s_1 j4 aC σ H f0 sl o h Q q0 q1;obtain⟨s0,s1,s5⟩:=sl;unfold kS at h;refine bA (fun K hK=>aF ?_);unfold UZ;rcases au h with⟨e1,h⟩|⟨e1,h⟩
    ·obtain⟨e2,h⟩:=aD h;obtain⟨x3,e4,h⟩:=aj h;rcases au h with⟨e5,h⟩|⟨e5,h⟩
     ·obtain rfl:=ak h;try refine ah ?_
      exact q1 _ _ rfl aO av
     ·try refine ah ?_
      refine hK _ _ ?_;exact ih bT s_1 (IntKind.wrap .i64 (j4+1)) _ _ _ aO av _ h _ q0 q1
    ·obtain rfl:=ak h;try refine ah ?_
     exact q0 _ _ rfl aO
def xw (k:Nat) (bT:List Str) (s_1:Str):Option Bool:=
  Option.bind (kS k bT s_1 0) (fun o=>Sum.elim (fun p8=>some false) (fun jW=>some jW) o)
theorem Mi {k:Nat} {bT:List Str} {s_1:Str} {c0:Ck} {r:Bool} (h:xw k bT s_1=some r):aG Tryz.prog 31 [(.aB (bT.map aX) c0),(.str s_1)] (.bool r):=by
  refine aG.lw (.aB (.same .nil)) (aG.aR (bB.mem (.cons (bC cO _) (.cons (.str _) .nil))) (aI au0 (by simp) (aF ?_)) (.bool _));unfold xw at h;unfold aoz;try refine ah ?_
  obtain⟨o6,h7,h⟩:=aj h;refine Si k bT s_1 0 _ _ _ (Fr.refl _ _) av _ h7 _ ?_ ?_
  ·rintro p8 σ' eo O4;subst eo;rw [dD]at h;obtain rfl:=ak h;try refine ah ?_
   exact(.pure _ (.bool _))
  ·rintro jW σ' eo D6 s16;subst eo;rw [dK]at h;obtain rfl:=ak h;try refine ah ?_
   exact(.pure _ (.bool _))
def mV:Nat->(List Operator)->(List Operator)->Int->Option (List Operator)
  |0,_,_,_=>none
  |k+1,vC,Ac,cB=>
    cond (decide (cB<(Ac.length:Int))) (if 0<=cB then Option.bind (Ac[cB.toNat]?) fun x3=>Option.bind (Sd (x3.fix==1)) fun p6=>cond (x3.text==([92,88]:Str)) (if(vC.length+1)*64<=1099511627776 then mV k (vC++[(Operator.mk x3.text x3.fix x3.low x3.high x3.left (IntKind.wrap .i64 (1+p6)) 4)]) Ac (IntKind.wrap .i64 (cB+1))else none) (if(vC.length+1)*64<=1099511627776 then mV k (vC++[(Operator.mk x3.text x3.fix x3.low x3.high x3.left (IntKind.wrap .i64 (1+p6)) (IntKind.wrap .i64 (1+p6)))]) Ac (IntKind.wrap .i64 (cB+1))else none)else none) (some (vC))
def O5:List Nat:=[1,3,4]++List.range' 48 27
theorem Z6: ∀(k:Nat) (vC:List Operator) (Ac:List Operator) (cB:Int) (tF:Ck) (Ad:Ck) (aC σ:Nat->PV) (H0 H:AH) (f0:Fr O5 aC σ) (hf0:HF [] H0 H) (sl:σ 1=(.aB (vC.map Operator.cells) tF)/\σ 2=(.aB (Ac.map Operator.cells) Ad)/\σ 3=(.int .i64 cB)) (Z7:d9 H tF) (o:List Operator) (h:mV k vC Ac cB=some o) (Q:Post) (q0: ∀(p:List Operator) (c0:Ck) (σ':Nat->PV) (H':AH),o=p->Fr O5 aC σ'->HF [] H0 H'->(σ' 1=(.aB (p.map Operator.cells) c0))->Q (.exit 0) σ' H'),W Tryz.prog (.loop Vr) Q σ H:=by
  intro k
  induction k with
  |zero=>intro vC Ac cB tF Ad aC σ H0 H f0 hf0 sl Z7 o h Q q0;simp only [mV,reduceCtorEq]at h
  |succ k ih=>
    intro vC Ac cB tF Ad aC σ H0 H f0 hf0 sl Z7 o h Q q0;obtain⟨s1,s2,s3⟩:=sl;have hle0:=hf0.1;unfold mV at h;refine bA (fun K hK=>aF ?_);unfold Vr;rcases au h with⟨e1,h⟩|⟨e1,h⟩
    ·obtain⟨e2,h⟩:=aD h;obtain⟨x3,e4,h⟩:=aj h;obtain⟨p6,e5,h⟩:=aj h;try refine ah ?_
     refine aA (adx e5) ?_;rcases au h with⟨e7,h⟩|⟨e7,h⟩
     ·obtain⟨e12,h⟩:=aD h;try refine ah ?_
      refine jV (f:=Operator.cells) Operator.row vC ([(Operator.mk x3.text x3.fix x3.low x3.high x3.left (IntKind.wrap .i64 (1+p6)) 4)]:List Operator) tF .exact av av eO (by first|exact e12|(simp only [List.length_cons,List.length_nil];exact e12)) (fun c8 H9 azp le avz azq=> ?_);have avA:HF [] _ H9:=⟨le,fun i _ _=>avz i⟩;try simp only [AH.aJ,AH.aK,AH.aL,AH.aM]at le
      have n22:=ne_next (show H.next<H9.next by first|omega|(simp only [AH.aJ,AH.aK,AH.aL,AH.aM];omega));have m23:=aU (show H.next<H9.next by first|omega|(simp only [AH.aJ,AH.aK,AH.aL,AH.aM];omega));try refine ah ?_
      refine hK _ _ ?_;exact ih (vC++[(Operator.mk x3.text x3.fix x3.low x3.high x3.left (IntKind.wrap .i64 (1+p6)) 4)]) Ac (IntKind.wrap .i64 (cB+1)) c8 Ad _ _ _ _ aO (by repeat (first|exact hf0|refine HF.new ?_|refine HF.dR ?_|refine HF.used ?_|refine HF.put (by first|(right;omega)|(left;simp only [List.mem_cons,true_or,or_true])) ?_|refine HF.via avA (by first|exact fun i hi=>absurd hi List.not_mem_nil|(intro i hi;simp only [List.mem_cons,List.not_mem_nil,or_false]at hi⊢;first|exact .inl hi|omega)) ?_)) av eO _ h _ q0
     ·obtain⟨e19,h⟩:=aD h;try refine ah ?_
      refine jV (f:=Operator.cells) Operator.row vC ([(Operator.mk x3.text x3.fix x3.low x3.high x3.left (IntKind.wrap .i64 (1+p6)) (IntKind.wrap .i64 (1+p6)))]:List Operator) tF .exact av av eO (by first|exact e19|(simp only [List.length_cons,List.length_nil];exact e19)) (fun c15 H16 aoj le avB azr=> ?_);have aiq:HF [] _ H16:=⟨le,fun i _ _=>avB i⟩;try simp only [AH.aJ,AH.aK,AH.aL,AH.aM]at le
      have n24:=ne_next (show H.next<H16.next by first|omega|(simp only [AH.aJ,AH.aK,AH.aL,AH.aM];omega));have m25:=aU (show H.next<H16.next by first|omega|(simp only [AH.aJ,AH.aK,AH.aL,AH.aM];omega));try refine ah ?_
      refine hK _ _ ?_;exact ih (vC++[(Operator.mk x3.text x3.fix x3.low x3.high x3.left (IntKind.wrap .i64 (1+p6)) (IntKind.wrap .i64 (1+p6)))]) Ac (IntKind.wrap .i64 (cB+1)) c15 Ad _ _ _ _ aO (by repeat (first|exact hf0|refine HF.new ?_|refine HF.dR ?_|refine HF.used ?_|refine HF.put (by first|(right;omega)|(left;simp only [List.mem_cons,true_or,or_true])) ?_|refine HF.via aiq (by first|exact fun i hi=>absurd hi List.not_mem_nil|(intro i hi;simp only [List.mem_cons,List.not_mem_nil,or_false]at hi⊢;first|exact .inl hi|omega)) ?_)) av eO _ h _ q0
    ·obtain rfl:=ak h;try refine ah ?_
     exact q0 _ tF _ _ rfl aO (by repeat (first|exact hf0|refine HF.new ?_|refine HF.dR ?_|refine HF.used ?_|refine HF.put (by first|(right;omega)|(left;simp only [List.mem_cons,true_or,or_true])) ?_)) av
def E8 (k:Nat):Option (List Operator):=
  Option.bind (mV k ([]:List Operator) [(Operator.mk ([126]:Str) 0 4 4 false 0 0),(Operator.mk ([69,78,65,66,76,69,68]:Str) 0 4 15 false 0 0),(Operator.mk ([85,78,67,72,65,78,71,69,68]:Str) 0 4 15 false 0 0),(Operator.mk ([91,93]:Str) 0 4 15 false 0 0),(Operator.mk ([60,62]:Str) 0 4 15 false 0 0),(Operator.mk ([83,85,66,83,69,84]:Str) 0 8 8 false 0 0),(Operator.mk ([85,78,73,79,78]:Str) 0 8 8 false 0 0),(Operator.mk ([68,79,77,65,73,78]:Str) 0 9 9 false 0 0),(Operator.mk ([45,46]:Str) 0 12 12 false 0 0),(Operator.mk ([61,62]:Str) 1 1 1 false 0 0),(Operator.mk ([60,61,62]:Str) 1 2 2 false 0 0),(Operator.mk ([126,62]:Str) 1 2 2 false 0 0),(Operator.mk ([47,92]:Str) 1 3 3 true 0 0),(Operator.mk ([92,47]:Str) 1 3 3 true 0 0),(Operator.mk ([61]:Str) 1 5 5 false 0 0),(Operator.mk ([35]:Str) 1 5 5 false 0 0),(Operator.mk ([60]:Str) 1 5 5 false 0 0),(Operator.mk ([60,61]:Str) 1 5 5 false 0 0),(Operator.mk ([62]:Str) 1 5 5 false 0 0),(Operator.mk ([62,61]:Str) 1 5 5 false 0 0),(Operator.mk ([92,105,110]:Str) 1 5 5 false 0 0),(Operator.mk ([92,110,111,116,105,110]:Str) 1 5 5 false 0 0),(Operator.mk ([92,115,117,98,115,101,116,101,113]:Str) 1 5 5 false 0 0),(Operator.mk ([92,115,113,115,117,98,115,101,116,101,113]:Str) 1 5 5 false 0 0),(Operator.mk ([64,64]:Str) 1 6 6 true 0 0),(Operator.mk ([58,62]:Str) 1 7 7 false 0 0),(Operator.mk ([92,99,100,111,116]:Str) 1 5 14 true 0 0),(Operator.mk ([92,99,117,112]:Str) 1 8 8 true 0 0),(Operator.mk ([92,99,97,112]:Str) 1 8 8 true 0 0),(Operator.mk ([92]:Str) 1 8 8 false 0 0),(Operator.mk ([46,46]:Str) 1 9 9 false 0 0),(Operator.mk ([43]:Str) 1 10 10 true 0 0),(Operator.mk ([40,43,41]:Str) 1 10 10 true 0 0),(Operator.mk ([37]:Str) 1 10 11 false 0 0),(Operator.mk ([92,88]:Str) 1 10 13 false 0 0),(Operator.mk ([45]:Str) 1 11 11 true 0 0),(Operator.mk ([40,45,41]:Str) 1 11 11 true 0 0),(Operator.mk ([42]:Str) 1 13 13 true 0 0),(Operator.mk ([92,100,105,118]:Str) 1 13 13 false 0 0),(Operator.mk ([92,111]:Str) 1 13 13 true 0 0),(Operator.mk ([94]:Str) 1 14 14 false 0 0),(Operator.mk ([39]:Str) 2 15 15 false 0 0)] 0) (fun p28=>some p28)
theorem agm {k:Nat} {r:List Operator} (h:E8 k=some r):aG Tryz.prog 64 [] (.aB (r.map Operator.cells) .unk):=by
  refine aG.aR (bB.mem .nil) (aI avg (by simp) (aF ?_)) (bC Operator.pu _);unfold E8 at h;unfold aoZ;try refine ah ?_
  obtain⟨o26,h27,h⟩:=aj h;refine Z6 k ([]:List Operator) [(Operator.mk ([126]:Str) 0 4 4 false 0 0),(Operator.mk ([69,78,65,66,76,69,68]:Str) 0 4 15 false 0 0),(Operator.mk ([85,78,67,72,65,78,71,69,68]:Str) 0 4 15 false 0 0),(Operator.mk ([91,93]:Str) 0 4 15 false 0 0),(Operator.mk ([60,62]:Str) 0 4 15 false 0 0),(Operator.mk ([83,85,66,83,69,84]:Str) 0 8 8 false 0 0),(Operator.mk ([85,78,73,79,78]:Str) 0 8 8 false 0 0),(Operator.mk ([68,79,77,65,73,78]:Str) 0 9 9 false 0 0),(Operator.mk ([45,46]:Str) 0 12 12 false 0 0),(Operator.mk ([61,62]:Str) 1 1 1 false 0 0),(Operator.mk ([60,61,62]:Str) 1 2 2 false 0 0),(Operator.mk ([126,62]:Str) 1 2 2 false 0 0),(Operator.mk ([47,92]:Str) 1 3 3 true 0 0),(Operator.mk ([92,47]:Str) 1 3 3 true 0 0),(Operator.mk ([61]:Str) 1 5 5 false 0 0),(Operator.mk ([35]:Str) 1 5 5 false 0 0),(Operator.mk ([60]:Str) 1 5 5 false 0 0),(Operator.mk ([60,61]:Str) 1 5 5 false 0 0),(Operator.mk ([62]:Str) 1 5 5 false 0 0),(Operator.mk ([62,61]:Str) 1 5 5 false 0 0),(Operator.mk ([92,105,110]:Str) 1 5 5 false 0 0),(Operator.mk ([92,110,111,116,105,110]:Str) 1 5 5 false 0 0),(Operator.mk ([92,115,117,98,115,101,116,101,113]:Str) 1 5 5 false 0 0),(Operator.mk ([92,115,113,115,117,98,115,101,116,101,113]:Str) 1 5 5 false 0 0),(Operator.mk ([64,64]:Str) 1 6 6 true 0 0),(Operator.mk ([58,62]:Str) 1 7 7 false 0 0),(Operator.mk ([92,99,100,111,116]:Str) 1 5 14 true 0 0),(Operator.mk ([92,99,117,112]:Str) 1 8 8 true 0 0),(Operator.mk ([92,99,97,112]:Str) 1 8 8 true 0 0),(Operator.mk ([92]:Str) 1 8 8 false 0 0),(Operator.mk ([46,46]:Str) 1 9 9 false 0 0),(Operator.mk ([43]:Str) 1 10 10 true 0 0),(Operator.mk ([40,43,41]:Str) 1 10 10 true 0 0),(Operator.mk ([37]:Str) 1 10 11 false 0 0),(Operator.mk ([92,88]:Str) 1 10 13 false 0 0),(Operator.mk ([45]:Str) 1 11 11 true 0 0),(Operator.mk ([40,45,41]:Str) 1 11 11 true 0 0),(Operator.mk ([42]:Str) 1 13 13 true 0 0),(Operator.mk ([92,100,105,118]:Str) 1 13 13 false 0 0),(Operator.mk ([92,111]:Str) 1 13 13 true 0 0),(Operator.mk ([94]:Str) 1 14 14 false 0 0),(Operator.mk ([39]:Str) 2 15 15 false 0 0)] 0 .nil .exact _ _ _ _ (Fr.refl _ _) (HF.refl _ _) av eO _ h27 _ ?_
  ·rintro p28 c32 σ' H31 eo Mj air s33;rw [eo]at h;have le:=air.1;try simp only [AH.aJ,AH.aK,AH.aL,AH.aM]at le
   obtain rfl:=ak h;try refine ah ?_
   exact(jr Operator.pu _ _)
def jw:Nat->Str->Str->Int->Int->Int->Bool->Int->Int->(List Operator)->Int->Option ((Str×Int×Int×Int×Bool×Int×Int)⊕(Bool×Str×Int×Int×Int×Bool×Int×Int))
  |0,_,_,_,_,_,_,_,_,_,_=>none
  |k+1,jy,G8,G9,He,Hf,Hg,Hl,Ho,dU,j4=>
    cond (decide (j4<(dU.length:Int))) (if 0<=j4 then Option.bind (dU[j4.toNat]?) fun x5=>cond (x5.text==jy) (some (.inr ((true,x5.text,x5.fix,x5.low,x5.high,x5.left,x5.least,x5.most)))) (jw k jy G8 G9 He Hf Hg Hl Ho dU (IntKind.wrap .i64 (j4+1)))else none) (some (.inl (G8,G9,He,Hf,Hg,Hl,Ho)))
def zk:List Nat:=[3,5]++List.range' 7 17
theorem OI: ∀(k:Nat) (Ae:Nat) (jy:Str) (G8:Str) (G9:Int) (He:Int) (Hf:Int) (Hg:Bool) (Hl:Int) (Ho:Int) (dU:List Operator) (j4:Int) (aC σ:Nat->PV) (H0 H:AH) (f0:Fr zk aC σ) (hf0:HF [Ae] H0 H) (sl:σ 0=(.str jy)/\σ 2=(.ref (Ae) 0)/\σ 4=(.aB (dU.map Operator.cells) .unk)/\σ 5=(.int .i64 j4)/\H.obj Ae=some [(.str G8),(.int .i64 G9),(.int .i64 He),(.int .i64 Hf),(.bool Hg),(.int .i64 Hl),(.int .i64 Ho)]) (Oa:Ae<H.next) (o:(Str×Int×Int×Int×Bool×Int×Int)⊕(Bool×Str×Int×Int×Int×Bool×Int×Int)) (h:jw k jy G8 G9 He Hf Hg Hl Ho dU j4=some o) (Q:Post) (q0: ∀(p:Str×Int×Int×Int×Bool×Int×Int) (σ':Nat->PV) (H':AH),o= .inl p->Fr zk aC σ'->HF [Ae] H0 H'->(H'.obj Ae=some [(.str p.1),(.int .i64 p.2.1),(.int .i64 p.2.2.1),(.int .i64 p.2.2.2.1),(.bool p.2.2.2.2.1),(.int .i64 p.2.2.2.2.2.1),(.int .i64 p.2.2.2.2.2.2)])->Q (.exit 0) σ' H') (q1: ∀(p:Bool×Str×Int×Int×Int×Bool×Int×Int) (σ':Nat->PV) (H':AH),o= .inr (p)->Fr zk aC σ'->HF [Ae] H0 H'->(σ' 3=(.bool p.1)/\H'.obj Ae=some [(.str p.2.1),(.int .i64 p.2.2.1),(.int .i64 p.2.2.2.1),(.int .i64 p.2.2.2.2.1),(.bool p.2.2.2.2.2.1),(.int .i64 p.2.2.2.2.2.2.1),(.int .i64 p.2.2.2.2.2.2.2)])->Q .ret σ' H'),W Tryz.prog (.loop UW) Q σ H:=by
  intro k
  induction k with
  |zero=>intro Ae jy G8 G9 He Hf Hg Hl Ho dU j4 aC σ H0 H f0 hf0 sl Oa o h Q q0 q1;simp only [jw,reduceCtorEq]at h
  |succ k ih=>
    intro Ae jy G8 G9 He Hf Hg Hl Ho dU j4 aC σ H0 H f0 hf0 sl Oa o h Q q0 q1;obtain⟨s0,s2,s4,s5,axf⟩:=sl;have axg:=ne_next Oa;have axh:=aU Oa;have hle0:=hf0.1;unfold jw at h;refine bA (fun K hK=>aF ?_);unfold UW;rcases au h with⟨e3,h⟩|⟨e3,h⟩
    ·obtain⟨e4,h⟩:=aD h;obtain⟨x5,e6,h⟩:=aj h;rcases au h with⟨e7,h⟩|⟨e7,h⟩
     ·obtain rfl:=ak h;try refine ah ?_
      exact q1 _ _ _ rfl aO (by repeat (first|exact hf0|refine HF.new ?_|refine HF.dR ?_|refine HF.used ?_|refine HF.put (by first|(right;omega)|(left;simp only [List.mem_cons,true_or,or_true])) ?_)) av
     ·try refine ah ?_
      refine hK _ _ ?_;exact ih Ae jy G8 G9 He Hf Hg Hl Ho dU (IntKind.wrap .i64 (j4+1)) _ _ _ _ aO (by repeat (first|exact hf0|refine HF.new ?_|refine HF.dR ?_|refine HF.used ?_|refine HF.put (by first|(right;omega)|(left;simp only [List.mem_cons,true_or,or_true])) ?_)) av bE _ h _ q0 q1
    ·obtain rfl:=ak h;try refine ah ?_
     exact q0 _ _ _ rfl aO (by repeat (first|exact hf0|refine HF.new ?_|refine HF.dR ?_|refine HF.used ?_|refine HF.put (by first|(right;omega)|(left;simp only [List.mem_cons,true_or,or_true])) ?_)) av
def nM (k:Nat) (jy:Str):Option (Operator×Bool):=
  Option.bind (E8 k) fun p2=>Option.bind (jw k jy ([]:Str) 0 0 0 false 0 0 p2 0) (fun o=>Sum.elim (fun fE=>some ((Operator.mk [] 0 0 0 false 0 0),false)) (fun kF=>some ((Operator.mk kF.2.1 kF.2.2.1 kF.2.2.2.1 kF.2.2.2.2.1 kF.2.2.2.2.2.1 kF.2.2.2.2.2.2.1 kF.2.2.2.2.2.2.2),kF.1)) o)
theorem xA {k:Nat} {jy:Str} {r:Operator×Bool} (h:nM k jy=some r):aG Tryz.prog 27 [(.str jy)] (.dN [(.agg (Operator.cells r.1)),(.bool r.2)]):=by
  refine aG.aR (bB.mem (.cons (.str _) .nil)) (aI aox (by simp) (aF ?_)) (.dN _ (bB.mem (.cons (.agg _ (Operator.pu _)) (.cons (.bool _) .nil))));unfold nM at h;unfold aow;obtain⟨p2,e1,h⟩:=aj h;try refine ah ?_
  refine aA (agm e1) ?_;try refine ah ?_
  obtain⟨o8,h9,h⟩:=aj h;refine OI k (AH.empty.next) jy ([]:Str) 0 0 0 false 0 0 p2 0 _ _ _ _ (Fr.refl _ _) (HF.refl _ _) av bE _ h9 _ ?_ ?_
  ·rintro fE σ' H13 eo V7 avC g14;subst eo;rw [dD]at h;have s15:σ' 2=(.ref (AH.empty.next) 0):=(V7 2 (by decide)).trans av;have le:=avC.1;try simp only [AH.aJ,AH.aK,AH.aL,AH.aM]at le
   have n17:=ne_next (show AH.empty.next<H13.next by first|omega|(simp only [AH.aJ,AH.aK,AH.aL,AH.aM];omega));have m18:=aU (show AH.empty.next<H13.next by first|omega|(simp only [AH.aJ,AH.aK,AH.aL,AH.aM];omega));obtain rfl:=ak h;try refine ah ?_
   exact(dG (.cons (dH (.cons (.pure _ (.str _)) (.cons (.pure _ (.int _ _)) (.cons (.pure _ (.int _ _)) (.cons (.pure _ (.int _ _)) (.cons (.pure _ (.bool _)) (.cons (.pure _ (.int _ _)) (.cons (.pure _ (.int _ _)) .nil)))))))) (.cons (.pure _ (.bool _)) .nil)))
  ·rintro kF σ' H22 eo V8 aiq ⟨Z8,g24⟩;subst eo;rw [dK]at h;have O6:σ' 2=(.ref (AH.empty.next) 0):=(V8 2 (by decide)).trans av;have le:=aiq.1;try simp only [AH.aJ,AH.aK,AH.aL,AH.aM]at le
   have n27:=ne_next (show AH.empty.next<H22.next by first|omega|(simp only [AH.aJ,AH.aK,AH.aL,AH.aM];omega));have m28:=aU (show AH.empty.next<H22.next by first|omega|(simp only [AH.aJ,AH.aK,AH.aL,AH.aM];omega));obtain rfl:=ak h;try refine ah ?_
   exact(dG (.cons (dH (.cons (.pure _ (.str _)) (.cons (.pure _ (.int _ _)) (.cons (.pure _ (.int _ _)) (.cons (.pure _ (.int _ _)) (.cons (.pure _ (.bool _)) (.cons (.pure _ (.int _ _)) (.cons (.pure _ (.int _ _)) .nil)))))))) (.cons (.pure _ (.bool _)) .nil)))
def Af:Option (List Str):=
  some [([65,83,83,85,77,69]:Str),([65,83,83,85,77,80,84,73,79,78]:Str),([65,88,73,79,77]:Str),([66,89]:Str),([67,65,83,69]:Str),([67,72,79,79,83,69]:Str),([67,79,78,83,84,65,78,84]:Str),([67,79,78,83,84,65,78,84,83]:Str),([68,69,70]:Str),([68,69,70,73,78,69]:Str),([68,69,70,83]:Str),([68,79,77,65,73,78]:Str),([69,76,83,69]:Str),([69,78,65,66,76,69,68]:Str),([69,88,67,69,80,84]:Str),([69,88,84,69,78,68,83]:Str),([70,65,76,83,69]:Str),([72,65,86,69]:Str),([72,73,68,69]:Str),([73,70]:Str),([73,78]:Str),([73,78,83,84,65,78,67,69]:Str),([76,65,77,66,68,65]:Str),([76,69,77,77,65]:Str),([76,69,84]:Str),([76,79,67,65,76]:Str),([77,79,68,85,76,69]:Str),([78,69,87]:Str),([79,66,86,73,79,85,83]:Str),([79,77,73,84,84,69,68]:Str),([79,84,72,69,82]:Str),([80,73,67,75]:Str),([80,82,79,79,70]:Str),([80,82,79,80,79,83,73,84,73,79,78]:Str),([80,82,79,86,69]:Str),([81,69,68]:Str),([82,69,67,85,82,83,73,86,69]:Str),([83,85,66,83,69,84]:Str),([83,85,70,70,73,67,69,83]:Str),([84,65,75,69]:Str),([84,72,69,78]:Str),([84,72,69,79,82,69,77]:Str),([84,82,85,69]:Str),([85,78,67,72,65,78,71,69,68]:Str),([85,78,73,79,78]:Str),([85,83,69]:Str),([86,65,82,73,65,66,76,69]:Str),([86,65,82,73,65,66,76,69,83]:Str),([87,73,84,72]:Str),([87,73,84,78,69,83,83]:Str)]
theorem Z9 {r:List Str} (h:Af=some r):aG Tryz.prog 122 [] (.aB (r.map aX) .unk):=by
  refine aG.aR (bB.mem .nil) (aI asl (by simp) (aF ?_)) (bC cO _);unfold Af at h;unfold akB;obtain rfl:=ak h;try refine ah ?_
  exact(jr cO [([65,83,83,85,77,69]:Str),([65,83,83,85,77,80,84,73,79,78]:Str),([65,88,73,79,77]:Str),([66,89]:Str),([67,65,83,69]:Str),([67,72,79,79,83,69]:Str),([67,79,78,83,84,65,78,84]:Str),([67,79,78,83,84,65,78,84,83]:Str),([68,69,70]:Str),([68,69,70,73,78,69]:Str),([68,69,70,83]:Str),([68,79,77,65,73,78]:Str),([69,76,83,69]:Str),([69,78,65,66,76,69,68]:Str),([69,88,67,69,80,84]:Str),([69,88,84,69,78,68,83]:Str),([70,65,76,83,69]:Str),([72,65,86,69]:Str),([72,73,68,69]:Str),([73,70]:Str),([73,78]:Str),([73,78,83,84,65,78,67,69]:Str),([76,65,77,66,68,65]:Str),([76,69,77,77,65]:Str),([76,69,84]:Str),([76,79,67,65,76]:Str),([77,79,68,85,76,69]:Str),([78,69,87]:Str),([79,66,86,73,79,85,83]:Str),([79,77,73,84,84,69,68]:Str),([79,84,72,69,82]:Str),([80,73,67,75]:Str),([80,82,79,79,70]:Str),([80,82,79,80,79,83,73,84,73,79,78]:Str),([80,82,79,86,69]:Str),([81,69,68]:Str),([82,69,67,85,82,83,73,86,69]:Str),([83,85,66,83,69,84]:Str),([83,85,70,70,73,67,69,83]:Str),([84,65,75,69]:Str),([84,72,69,78]:Str),([84,72,69,79,82,69,77]:Str),([84,82,85,69]:Str),([85,78,67,72,65,78,71,69,68]:Str),([85,78,73,79,78]:Str),([85,83,69]:Str),([86,65,82,73,65,66,76,69]:Str),([86,65,82,73,65,66,76,69,83]:Str),([87,73,84,72]:Str),([87,73,84,78,69,83,83]:Str)] _)
def tH (xW:Int):Option Bool:=
  cond (decide (xW>=97)) (cond (decide (xW<=122)) (some true) (cond (decide (xW>=65)) (some (decide (xW<=90))) (some false))) (cond (decide (xW>=65)) (some (decide (xW<=90))) (some false))
theorem Ag {xW:Int} {r:Bool} (h:tH xW=some r):aG Tryz.prog 123 [(.int .u8 xW)] (.bool r):=by
  refine aG.aR (bB.mem (.cons (.int _ _) .nil)) (aI asn (by simp) (aF ?_)) (.bool _);unfold tH at h;unfold akC;rcases au h with⟨e1,h⟩|⟨e1,h⟩
  ·rcases au h with⟨e2,h⟩|⟨e2,h⟩
   ·obtain rfl:=ak h;try refine ah ?_
    exact(.pure _ (.bool _))
   ·rcases au h with⟨e3,h⟩|⟨e3,h⟩
    ·obtain rfl:=ak h;try refine ah ?_
     exact(.pure _ (.bool _))
    ·obtain rfl:=ak h;try refine ah ?_
     exact(.pure _ (.bool _))
  ·rcases au h with⟨e4,h⟩|⟨e4,h⟩
   ·obtain rfl:=ak h;try refine ah ?_
    exact(.pure _ (.bool _))
   ·obtain rfl:=ak h;try refine ah ?_
    exact(.pure _ (.bool _))
def zy (xW:Int):Option Bool:=
  cond (decide (xW>=48)) (some (decide (xW<=57))) (some false)
theorem O7 {xW:Int} {r:Bool} (h:zy xW=some r):aG Tryz.prog 124 [(.int .u8 xW)] (.bool r):=by
  refine aG.aR (bB.mem (.cons (.int _ _) .nil)) (aI aso (by simp) (aF ?_)) (.bool _);unfold zy at h;unfold akD;rcases au h with⟨e1,h⟩|⟨e1,h⟩
  ·obtain rfl:=ak h;try refine ah ?_
   exact(.pure _ (.bool _))
  ·obtain rfl:=ak h;try refine ah ?_
   exact(.pure _ (.bool _))
def CV (k:Nat) (s_0:Str):Option (Unit⊕Bool):=
  Option.bind (iQ (s_0.length:Int) 1 24) fun p2=>cond p2 (Option.bind (Af) fun p5=>Option.bind (xw k p5 s_0) fun p7=>cond p7 (some (.inr (false))) (some (.inl ()))) (some (.inr (false)))
def FK:List Nat:=[2]++List.range' 5 9
theorem YI (k:Nat): ∀(s_0:Str) (aC σ:Nat->PV) (H:AH) (f0:Fr FK aC σ) (sl:σ 0=(.str s_0)) (o:Unit⊕Bool) (h:CV k s_0=some o) (Q:Post) (q0: ∀(p:Unit) (σ':Nat->PV),o= .inl p->Fr FK aC σ'->Q .normal σ' H) (q1: ∀(p:Bool) (σ':Nat->PV),o= .inr (p)->Fr FK aC σ'->(σ' 2=(.bool p))->Q .ret σ' H),W Tryz.prog Vu Q σ H:=by
  intro s_0 aC σ H f0 sl o h Q q0 q1;have s0:=sl;unfold CV at h;refine aF ?_;unfold Vu;obtain⟨p2,e1,h⟩:=aj h;try refine ah ?_
  refine aA (jh e1) ?_;rcases au h with⟨e3,h⟩|⟨e3,h⟩
  ·obtain⟨p5,e4,h⟩:=aj h;try refine ah ?_
   refine aA (Z9 e4) ?_;obtain⟨p7,e6,h⟩:=aj h;try refine ah ?_
   refine aA (Mi e6) ?_;rcases au h with⟨e8,h⟩|⟨e8,h⟩
   ·obtain rfl:=ak h;try refine ah ?_
    exact q1 _ _ rfl aO av
   ·obtain rfl:=ak h;try refine ah ?_
    exact q0 _ _ rfl aO
  ·obtain rfl:=ak h;try refine ah ?_
   exact q1 _ _ rfl aO av
def yx (s_0:Str) (cK:Int) (iq:Bool):Option Bool:=
  cond iq (if 0<=cK then Option.bind (s_0[cK.toNat]?) fun x24=>Option.bind (zy (x24.toNat:Int)) fun p27=>cond p27 (some (false)) (some (((x24.toNat:Int) !=95)))else none) (some (false))
def Ml:List Nat:=List.range' 26 12
theorem YJ: ∀(s_0:Str) (cK:Int) (iq:Bool) (aC σ:Nat->PV) (H:AH) (f0:Fr Ml aC σ) (sl:σ 0=(.str s_0)/\σ 4=(.int .i64 cK)/\σ 25=(.bool iq)) (o:Bool) (h:yx s_0 cK iq=some o) (Q:Post) (q0: ∀(p:Bool) (σ':Nat->PV),o=p->Fr Ml aC σ'->(σ' 37=(.bool p))->Q .normal σ' H),dB Tryz.prog Vv (Q .normal) σ H:=by
  intro s_0 cK iq aC σ H f0 sl o h Q q0;obtain⟨s0,s4,O6⟩:=sl;unfold yx at h;refine dw ?_;unfold Vv;rcases au h with⟨e22,h⟩|⟨e22,h⟩
  ·obtain⟨e23,h⟩:=aD h;obtain⟨x24,e25,h⟩:=aj h;obtain⟨p27,e26,h⟩:=aj h;try refine ah ?_
   refine aA (O7 e26) ?_;rcases au h with⟨e28,h⟩|⟨e28,h⟩
   ·obtain rfl:=ak h;try refine ah ?_
    exact q0 _ _ rfl aO av
   ·obtain rfl:=ak h;try refine ah ?_
    exact q0 _ _ rfl aO av
  ·obtain rfl:=ak h;try refine ah ?_
   exact q0 _ _ rfl aO av
def lM:Nat->Str->Bool->Int->Option (Bool⊕Bool)
  |0,_,_,_=>none
  |k+1,s_0,vR,cK=>
    cond (decide (cK<(s_0.length:Int))) (if 0<=cK then Option.bind (s_0[cK.toNat]?) fun x18=>Option.bind (tH (x18.toNat:Int)) fun qU=>Option.bind (yx s_0 cK (!qU)) (fun p31=>cond p31 (some (.inr (false))) (cond vR (lM k s_0 true (IntKind.wrap .i64 (cK+1))) (lM k s_0 qU (IntKind.wrap .i64 (cK+1)))))else none) (some (.inl vR))
def FL:List Nat:=[2,3,4]++List.range' 14 31
theorem YK: ∀(k:Nat) (s_0:Str) (vR:Bool) (cK:Int) (aC σ:Nat->PV) (H:AH) (f0:Fr FL aC σ) (sl:σ 0=(.str s_0)/\σ 3=(.bool vR)/\σ 4=(.int .i64 cK)) (o:Bool⊕Bool) (h:lM k s_0 vR cK=some o) (Q:Post) (q0: ∀(p:Bool) (σ':Nat->PV),o= .inl p->Fr FL aC σ'->(σ' 3=(.bool p))->Q (.exit 0) σ' H) (q1: ∀(p:Bool) (σ':Nat->PV),o= .inr (p)->Fr FL aC σ'->(σ' 2=(.bool p))->Q .ret σ' H),W Tryz.prog (.loop Vw) Q σ H:=by
  intro k
  induction k with
  |zero=>intro s_0 vR cK aC σ H f0 sl o h Q q0 q1;simp only [lM,reduceCtorEq]at h
  |succ k ih=>
    intro s_0 vR cK aC σ H f0 sl o h Q q0 q1;obtain⟨s0,s3,s4⟩:=sl;unfold lM at h;refine bA (fun K hK=>aF ?_);unfold Vw;rcases au h with⟨e16,h⟩|⟨e16,h⟩
    ·obtain⟨e17,h⟩:=aD h;obtain⟨x18,e19,h⟩:=aj h;obtain⟨qU,e20,h⟩:=aj h;try refine ah ?_
     refine aA (Ag e20) ?_;try refine ah ?_
     obtain⟨o29,h30,h⟩:=aj h;refine YJ s_0 cK (!qU) _ _ _ (Fr.refl _ _) av _ h30 _ ?_
     ·rintro p31 σ' eo Q5 s35;rw [eo]at h;have s36:σ' 0=(.str s_0):=(Q5 0 (by decide)).trans av;have s37:σ' 3=(.bool vR):=(Q5 3 (by decide)).trans av;have s38:σ' 4=(.int .i64 cK):=(Q5 4 (by decide)).trans av;rcases au h with⟨e39,h⟩|⟨e39,h⟩
      ·obtain rfl:=ak h;try refine ah ?_
       exact q1 _ _ rfl (by repeat (first|exact f0|refine Fr.upd (by decide) ?_|refine Fr.via Q5 (by decide) ?_)) av
      ·rcases au h with⟨e40,h⟩|⟨e40,h⟩
       ·try refine ah ?_
        refine hK _ _ ?_;exact ih s_0 true (IntKind.wrap .i64 (cK+1)) _ _ _ (by repeat (first|exact f0|refine Fr.upd (by decide) ?_|refine Fr.via Q5 (by decide) ?_)) av _ h _ q0 q1
       ·try refine ah ?_
        refine aA (Ag e20) ?_;try refine ah ?_
        refine hK _ _ ?_;exact ih s_0 qU (IntKind.wrap .i64 (cK+1)) _ _ _ (by repeat (first|exact f0|refine Fr.upd (by decide) ?_|refine Fr.via Q5 (by decide) ?_)) av _ h _ q0 q1
    ·obtain rfl:=ak h;try refine ah ?_
     exact q0 _ _ rfl aO av
def FM (k:Nat) (s_0:Str):Option Bool:=
  Option.bind (CV k s_0) (fun o=>Sum.elim (fun pI=>Option.bind (lM k s_0 false 0) (fun o=>Sum.elim (fun p45=>some p45) (fun p50=>some p50) o)) (fun p55=>some p55) o)
theorem aeL {k:Nat} {s_0:Str} {r:Bool} (h:FM k s_0=some r):aG Tryz.prog 75 [(.str s_0)] (.bool r):=by
  refine aG.aR (bB.mem (.cons (.str _) .nil)) (aI avj (by simp) (aF ?_)) (.bool _);unfold FM at h;unfold ao4;try refine ah ?_
  obtain⟨o9,h10,h⟩:=aj h;refine YI k s_0 _ _ _ (Fr.refl _ _) av _ h10 _ ?_ ?_
  ·rintro pI σ' eo Q6;subst eo;rw [dD]at h;have s15:σ' 0=(.str s_0):=(Q6 0 (by decide)).trans av;try refine ah ?_
   obtain⟨o43,h44,h⟩:=aj h;refine YK k s_0 false 0 _ _ _ (Fr.refl _ _) av _ h44 _ ?_ ?_
   ·rintro p45 σ' eo ais s49;subst eo;rw [dD]at h;obtain rfl:=ak h;try refine ah ?_
    exact(.pure _ (.bool _))
   ·rintro p50 σ' eo azs s54;subst eo;rw [dK]at h;obtain rfl:=ak h;try refine ah ?_
    exact(.pure _ (.bool _))
  ·rintro p55 σ' eo aps s59;subst eo;rw [dK]at h;obtain rfl:=ak h;try refine ah ?_
   exact(.pure _ (.bool _))
def zA (s_0:Str):Option Bool:=
  cond (s_0==([84,82,85,69]:Str)) (some true) (cond (s_0==([70,65,76,83,69]:Str)) (some true) (cond (s_0==([66,79,79,76,69,65,78]:Str)) (some true) (some (s_0==([83,84,82,73,78,71]:Str)))))
theorem O8 {s_0:Str} {r:Bool} (h:zA s_0=some r):aG Tryz.prog 76 [(.str s_0)] (.bool r):=by
  refine aG.aR (bB.mem (.cons (.str _) .nil)) (aI avk (by simp) (aF ?_)) (.bool _);unfold zA at h;unfold ao5;rcases au h with⟨e1,h⟩|⟨e1,h⟩
  ·obtain rfl:=ak h;try refine ah ?_
   exact(.pure _ (.bool _))
  ·rcases au h with⟨e2,h⟩|⟨e2,h⟩
   ·obtain rfl:=ak h;try refine ah ?_
    exact(.pure _ (.bool _))
   ·rcases au h with⟨e3,h⟩|⟨e3,h⟩
    ·obtain rfl:=ak h;try refine ah ?_
     exact(.pure _ (.bool _))
    ·obtain rfl:=ak h;try refine ah ?_
     exact(.pure _ (.bool _))
def qx (k:Nat) (s_0:Str):Option Bool:=
  Option.bind (FM k s_0) fun p2=>cond p2 (Option.bind (zA s_0) fun p5=>cond p5 (some false) (cond (decide ((s_0.length:Int)>2)) (if 3<=s_0.length then cond ((s_0.take 3)==([87,70,95]:Str)) (some false) (some (!((s_0.take 3)==([83,70,95]:Str))))else none) (some true))) (some false)
theorem tJ {k:Nat} {s_0:Str} {r:Bool} (h:qx k s_0=some r):aG Tryz.prog 37 [(.str s_0)] (.bool r):=by
  refine aG.aR (bB.mem (.cons (.str _) .nil)) (aI aoE (by simp) (aF ?_)) (.bool _);unfold qx at h;unfold aoD;obtain⟨p2,e1,h⟩:=aj h;try refine ah ?_
  refine aA (aeL e1) ?_;rcases au h with⟨e3,h⟩|⟨e3,h⟩
  ·obtain⟨p5,e4,h⟩:=aj h;try refine ah ?_
   refine aA (O8 e4) ?_;rcases au h with⟨e6,h⟩|⟨e6,h⟩
   ·obtain rfl:=ak h;try refine ah ?_
    exact(.pure _ (.bool _))
   ·rcases au h with⟨e7,h⟩|⟨e7,h⟩
    ·obtain⟨e8,h⟩:=aD h;rcases au h with⟨e9,h⟩|⟨e9,h⟩
     ·obtain rfl:=ak h;try refine ah ?_
      exact(.pure _ (.bool _))
     ·obtain rfl:=ak h;try refine ah ?_
      exact(.pure _ (.bool _))
    ·obtain rfl:=ak h;try refine ah ?_
     exact(.pure _ (.bool _))
  ·obtain rfl:=ak h;try refine ah ?_
   exact(.pure _ (.bool _))
def lN:Nat->Str->Int->Option (Unit⊕Bool)
  |0,_,_=>none
  |k+1,s_0,cB=>
    cond (decide (cB<(s_0.length:Int))) (if 0<=cB then Option.bind (s_0[cB.toNat]?) fun x3=>cond ((x3.toNat:Int)==33) (if 0<=cB/\cB.toNat<=s_0.length then Option.bind (qx k (s_0.take cB.toNat)) fun p8=>cond p8 (if 0<=(IntKind.wrap .i64 (cB+1))/\(IntKind.wrap .i64 (cB+1)).toNat<=s_0.length then Option.bind (qx k (s_0.drop (IntKind.wrap .i64 (cB+1)).toNat)) fun jW=>some (.inr (jW))else none) (some (.inr (false)))else none) (lN k s_0 (IntKind.wrap .i64 (cB+1)))else none) (some (.inl ()))
def FN:List Nat:=List.range' 2 23
theorem YL: ∀(k:Nat) (s_0:Str) (cB:Int) (aC σ:Nat->PV) (H:AH) (f0:Fr FN aC σ) (sl:σ 0=(.str s_0)/\σ 3=(.int .i64 cB)) (o:Unit⊕Bool) (h:lN k s_0 cB=some o) (Q:Post) (q0: ∀(p:Unit) (σ':Nat->PV),o= .inl p->Fr FN aC σ'->Q (.exit 0) σ' H) (q1: ∀(p:Bool) (σ':Nat->PV),o= .inr (p)->Fr FN aC σ'->(σ' 2=(.bool p))->Q .ret σ' H),W Tryz.prog (.loop Vk) Q σ H:=by
  intro k
  induction k with
  |zero=>intro s_0 cB aC σ H f0 sl o h Q q0 q1;simp only [lN,reduceCtorEq]at h
  |succ k ih=>
    intro s_0 cB aC σ H f0 sl o h Q q0 q1;obtain⟨s0,s3⟩:=sl;unfold lN at h;refine bA (fun K hK=>aF ?_);unfold Vk;rcases au h with⟨e1,h⟩|⟨e1,h⟩
    ·obtain⟨e2,h⟩:=aD h;obtain⟨x3,e4,h⟩:=aj h;rcases au h with⟨e5,h⟩|⟨e5,h⟩
     ·obtain⟨e6,h⟩:=aD h;obtain⟨p8,e7,h⟩:=aj h;try refine ah ?_
      refine aA (tJ e7) ?_;rcases au h with⟨e9,h⟩|⟨e9,h⟩
      ·obtain⟨e10,h⟩:=aD h;obtain⟨jW,e11,h⟩:=aj h;try refine ah ?_
       refine aA (tJ e11) ?_;obtain rfl:=ak h;try refine ah ?_
       exact q1 _ _ rfl aO av
      ·obtain rfl:=ak h;try refine ah ?_
       exact q1 _ _ rfl aO av
     ·try refine ah ?_
      refine hK _ _ ?_;exact ih s_0 (IntKind.wrap .i64 (cB+1)) _ _ _ aO av _ h _ q0 q1
    ·obtain rfl:=ak h;try refine ah ?_
     exact q0 _ _ rfl aO
def zl (k:Nat) (s_0:Str):Option Bool:=
  Option.bind (lN k s_0 0) (fun o=>Sum.elim (fun xX=>Option.bind (qx k s_0) fun qU=>some qU) (fun zB=>some zB) o)
theorem Kc {k:Nat} {s_0:Str} {r:Bool} (h:zl k s_0=some r):aG Tryz.prog 56 [(.str s_0)] (.bool r):=by
  refine aG.aR (bB.mem (.cons (.str _) .nil)) (aI au9 (by simp) (aF ?_)) (.bool _);unfold zl at h;unfold aoS;try refine ah ?_
  obtain⟨o13,h14,h⟩:=aj h;refine YL k s_0 0 _ _ _ (Fr.refl _ _) av _ h14 _ ?_ ?_
  ·rintro xX σ' eo Q7;subst eo;rw [dD]at h;have qH:σ' 0=(.str s_0):=(Q7 0 (by decide)).trans av;obtain⟨qU,e20,h⟩:=aj h;try refine ah ?_
   refine aA (tJ e20) ?_;obtain rfl:=ak h;try refine ah ?_
   exact(.pure _ (.bool _))
  ·rintro zB σ' eo V9 X5;subst eo;rw [dK]at h;obtain rfl:=ak h;try refine ah ?_
   exact(.pure _ (.bool _))
def tK (dU:Int):Option Bool:=
  cond (dU==0) (some ((dU==0))) (cond (dU==1) (some ((dU==1))) (cond (dU==2) (some ((dU==2))) (some ((dU==20)))))
def O9:List Nat:=[5,6,7,8,9]
theorem aac: ∀(dU:Int) (aC σ:Nat->PV) (H:AH) (f0:Fr O9 aC σ) (sl:σ 4=(.int .i64 dU)) (o:Bool) (h:tK dU=some o) (Q:Post) (q0: ∀(p:Bool) (σ':Nat->PV),o=p->Fr O9 aC σ'->(σ' 5=(.bool p))->Q .normal σ' H),W Tryz.prog VU Q σ H:=by
  intro dU aC σ H f0 sl o h Q q0;have s4:=sl;unfold tK at h;refine aF ?_;unfold VU;rcases au h with⟨e1,h⟩|⟨e1,h⟩
  ·obtain rfl:=ak h;try refine ah ?_
   exact q0 _ _ rfl aO av
  ·rcases au h with⟨e2,h⟩|⟨e2,h⟩
   ·obtain rfl:=ak h;try refine ah ?_
    exact q0 _ _ rfl aO av
   ·rcases au h with⟨e3,h⟩|⟨e3,h⟩
    ·obtain rfl:=ak h;try refine ah ?_
     exact q0 _ _ rfl aO av
    ·obtain rfl:=ak h;try refine ah ?_
     exact q0 _ _ rfl aO av
def Ah (dU:Int):Option Bool:=
  cond (dU==4) (some ((dU==4))) (some ((dU==5)))
theorem aad: ∀(dU:Int) (aC σ:Nat->PV) (H:AH) (f0:Fr [14,15,16] aC σ) (sl:σ 4=(.int .i64 dU)) (o:Bool) (h:Ah dU=some o) (Q:Post) (q0: ∀(p:Bool) (σ':Nat->PV),o=p->Fr [14,15,16] aC σ'->(σ' 14=(.bool p))->Q .normal σ' H),W Tryz.prog VW Q σ H:=by
  intro dU aC σ H f0 sl o h Q q0;have s4:=sl;unfold Ah at h;refine aF ?_;unfold VW;rcases au h with⟨e15,h⟩|⟨e15,h⟩
  ·obtain rfl:=ak h;try refine ah ?_
   exact q0 _ _ rfl aO av
  ·obtain rfl:=ak h;try refine ah ?_
   exact q0 _ _ rfl aO av
def Ai (dU:Int):Option Bool:=
  cond (dU==6) (some ((dU==6))) (some ((dU==12)))
theorem aae: ∀(dU:Int) (aC σ:Nat->PV) (H:AH) (f0:Fr [18,19,20] aC σ) (sl:σ 4=(.int .i64 dU)) (o:Bool) (h:Ai dU=some o) (Q:Post) (q0: ∀(p:Bool) (σ':Nat->PV),o=p->Fr [18,19,20] aC σ'->(σ' 18=(.bool p))->Q .normal σ' H),W Tryz.prog VX Q σ H:=by
  intro dU aC σ H f0 sl o h Q q0;have s4:=sl;unfold Ai at h;refine aF ?_;unfold VX;rcases au h with⟨e26,h⟩|⟨e26,h⟩
  ·obtain rfl:=ak h;try refine ah ?_
   exact q0 _ _ rfl aO av
  ·obtain rfl:=ak h;try refine ah ?_
   exact q0 _ _ rfl aO av
def Aj (dU:Int):Option Bool:=
  cond (dU==7) (some ((dU==7))) (cond (dU==8) (some ((dU==8))) (cond (dU==9) (some ((dU==9))) (some ((dU==13)))))
def Pb:List Nat:=[22,23,24,25,26]
theorem aaf: ∀(dU:Int) (aC σ:Nat->PV) (H:AH) (f0:Fr Pb aC σ) (sl:σ 4=(.int .i64 dU)) (o:Bool) (h:Aj dU=some o) (Q:Post) (q0: ∀(p:Bool) (σ':Nat->PV),o=p->Fr Pb aC σ'->(σ' 22=(.bool p))->Q .normal σ' H),W Tryz.prog VY Q σ H:=by
  intro dU aC σ H f0 sl o h Q q0;have s4:=sl;unfold Aj at h;refine aF ?_;unfold VY;rcases au h with⟨e37,h⟩|⟨e37,h⟩
  ·obtain rfl:=ak h;try refine ah ?_
   exact q0 _ _ rfl aO av
  ·rcases au h with⟨e38,h⟩|⟨e38,h⟩
   ·obtain rfl:=ak h;try refine ah ?_
    exact q0 _ _ rfl aO av
   ·rcases au h with⟨e39,h⟩|⟨e39,h⟩
    ·obtain rfl:=ak h;try refine ah ?_
     exact q0 _ _ rfl aO av
    ·obtain rfl:=ak h;try refine ah ?_
     exact q0 _ _ rfl aO av
def Ak (dU:Int):Option Bool:=
  cond (dU==10) (some ((dU==10))) (some ((dU==11)))
theorem aag: ∀(dU:Int) (aC σ:Nat->PV) (H:AH) (f0:Fr [28,29,30] aC σ) (sl:σ 4=(.int .i64 dU)) (o:Bool) (h:Ak dU=some o) (Q:Post) (q0: ∀(p:Bool) (σ':Nat->PV),o=p->Fr [28,29,30] aC σ'->(σ' 28=(.bool p))->Q .normal σ' H),W Tryz.prog VZ Q σ H:=by
  intro dU aC σ H f0 sl o h Q q0;have s4:=sl;unfold Ak at h;refine aF ?_;unfold VZ;rcases au h with⟨e50,h⟩|⟨e50,h⟩
  ·obtain rfl:=ak h;try refine ah ?_
   exact q0 _ _ rfl aO av
  ·obtain rfl:=ak h;try refine ah ?_
   exact q0 _ _ rfl aO av
def Al (dU:Int):Option Bool:=
  cond (dU==15) (some ((dU==15))) (cond (dU==25) (some ((dU==25))) (cond (dU==26) (some ((dU==26))) (cond (dU==27) (some ((dU==27))) (some ((dU==28))))))
def Pf:List Nat:=[35,36,37,38,39,40]
theorem aah: ∀(dU:Int) (aC σ:Nat->PV) (H:AH) (f0:Fr Pf aC σ) (sl:σ 4=(.int .i64 dU)) (o:Bool) (h:Al dU=some o) (Q:Post) (q0: ∀(p:Bool) (σ':Nat->PV),o=p->Fr Pf aC σ'->(σ' 35=(.bool p))->Q .normal σ' H),W Tryz.prog V3 Q σ H:=by
  intro dU aC σ H f0 sl o h Q q0;have s4:=sl;unfold Al at h;refine aF ?_;unfold V3;rcases au h with⟨e62,h⟩|⟨e62,h⟩
  ·obtain rfl:=ak h;try refine ah ?_
   exact q0 _ _ rfl aO av
  ·rcases au h with⟨e63,h⟩|⟨e63,h⟩
   ·obtain rfl:=ak h;try refine ah ?_
    exact q0 _ _ rfl aO av
   ·rcases au h with⟨e64,h⟩|⟨e64,h⟩
    ·obtain rfl:=ak h;try refine ah ?_
     exact q0 _ _ rfl aO av
    ·rcases au h with⟨e65,h⟩|⟨e65,h⟩
     ·obtain rfl:=ak h;try refine ah ?_
      exact q0 _ _ rfl aO av
     ·obtain rfl:=ak h;try refine ah ?_
      exact q0 _ _ rfl aO av
def Am (dU:Int):Option Bool:=
  cond (dU==16) (some ((dU==16))) (some ((dU==17)))
theorem aai: ∀(dU:Int) (aC σ:Nat->PV) (H:AH) (f0:Fr [42,43,44] aC σ) (sl:σ 4=(.int .i64 dU)) (o:Bool) (h:Am dU=some o) (Q:Post) (q0: ∀(p:Bool) (σ':Nat->PV),o=p->Fr [42,43,44] aC σ'->(σ' 42=(.bool p))->Q .normal σ' H),W Tryz.prog V4 Q σ H:=by
  intro dU aC σ H f0 sl o h Q q0;have s4:=sl;unfold Am at h;refine aF ?_;unfold V4;rcases au h with⟨Hq,h⟩|⟨Hq,h⟩
  ·obtain rfl:=ak h;try refine ah ?_
   exact q0 _ _ rfl aO av
  ·obtain rfl:=ak h;try refine ah ?_
   exact q0 _ _ rfl aO av
def sD (dL:Int):Option ((Int×Int×Int×Int)×Bool):=
  Option.bind (tK dL) (fun p6=>cond p6 (some ((0,0,0,0),false)) (cond (dL==3) (some ((0,0,1,4),false)) (Option.bind (Ah dL) (fun mR=>cond mR (some ((0,0,0,30),false)) (Option.bind (Ai dL) (fun p29=>cond p29 (some ((1,1,2,2),false)) (Option.bind (Aj dL) (fun p42=>cond p42 (some ((1,4,1,1),true)) (Option.bind (Ak dL) (fun p53=>cond p53 (some ((1,4,1,1),false)) (cond (dL==14) (some ((0,0,2,5),false)) (Option.bind (Al dL) (fun p68=>cond p68 (some ((0,0,2,2),false)) (Option.bind (Am dL) (fun p79=>cond p79 (some ((1,30,0,0),true)) (cond (dL==18) (some ((0,0,1,1),false)) (cond (dL==19) (some ((0,0,3,3),false)) (cond (dL==21) (some ((0,0,3,3),false)) (cond (dL==22) (some ((0,0,2,30),false)) (cond (dL==23) (some ((1,5,2,2),false)) (some ((1,4,1,1),false))))))))))))))))))))))
theorem ags {dL:Int} {r:(Int×Int×Int×Int)×Bool} (h:sD dL=some r):aG Tryz.prog 95 [(.int .i64 dL)] (.dN [(.agg [(.int .i64 r.1.1),(.int .i64 r.1.2.1),(.int .i64 r.1.2.2.1),(.int .i64 r.1.2.2.2)]),(.bool r.2)]):=by
  refine aG.aR (bB.mem (.cons (.int _ _) .nil)) (aI avv (by simp) (aF ?_)) (.dN _ (bB.mem (.cons (.agg _ (bB.mem (.cons (.int _ _) (.cons (.int _ _) (.cons (.int _ _) (.cons (.int _ _) .nil)))))) (.cons (.bool _) .nil))));unfold sD at h;unfold aph;try refine ah ?_
  obtain⟨o4,h5,h⟩:=aj h;refine aac dL _ _ _ (Fr.refl _ _) av _ h5 _ ?_
  ·rintro p6 σ' eo fr7 s10;rw [eo]at h;have s11:σ' 2=(.ref (AH.empty.next) 0):=(fr7 2 (by decide)).trans av;have s12:σ' 4=(.int .i64 dL):=(fr7 4 (by decide)).trans av;rcases au h with⟨e13,h⟩|⟨e13,h⟩
   ·obtain rfl:=ak h;try refine ah ?_
    exact(dG (.cons (dH (.cons (.pure _ (.int _ _)) (.cons (.pure _ (.int _ _)) (.cons (.pure _ (.int _ _)) (.cons (.pure _ (.int _ _)) .nil))))) (.cons (.pure _ (.bool _)) .nil)))
   ·rcases au h with⟨e14,h⟩|⟨e14,h⟩
    ·obtain rfl:=ak h;try refine ah ?_
     exact(dG (.cons (dH (.cons (.pure _ (.int _ _)) (.cons (.pure _ (.int _ _)) (.cons (.pure _ (.int _ _)) (.cons (.pure _ (.int _ _)) .nil))))) (.cons (.pure _ (.bool _)) .nil)))
    ·try refine ah ?_
     obtain⟨o16,h17,h⟩:=aj h;refine aad dL _ _ _ (Fr.refl _ _) av _ h17 _ ?_
     ·rintro mR σ' eo aaj s22;rw [eo]at h;have Z8:σ' 2=(.ref (AH.empty.next) 0):=(aaj 2 (by decide)).trans av;have s24:σ' 4=(.int .i64 dL):=(aaj 4 (by decide)).trans av;rcases au h with⟨e25,h⟩|⟨e25,h⟩
      ·obtain rfl:=ak h;try refine ah ?_
       exact(dG (.cons (dH (.cons (.pure _ (.int _ _)) (.cons (.pure _ (.int _ _)) (.cons (.pure _ (.int _ _)) (.cons (.pure _ (.int _ _)) .nil))))) (.cons (.pure _ (.bool _)) .nil)))
      ·try refine ah ?_
       obtain⟨o27,h28,h⟩:=aj h;refine aae dL _ _ _ (Fr.refl _ _) av _ h28 _ ?_
       ·rintro p29 σ' eo IG s33;rw [eo]at h;have s34:σ' 2=(.ref (AH.empty.next) 0):=(IG 2 (by decide)).trans av;have s35:σ' 4=(.int .i64 dL):=(IG 4 (by decide)).trans av;rcases au h with⟨e36,h⟩|⟨e36,h⟩
        ·obtain rfl:=ak h;try refine ah ?_
         exact(dG (.cons (dH (.cons (.pure _ (.int _ _)) (.cons (.pure _ (.int _ _)) (.cons (.pure _ (.int _ _)) (.cons (.pure _ (.int _ _)) .nil))))) (.cons (.pure _ (.bool _)) .nil)))
        ·try refine ah ?_
         obtain⟨o40,h41,h⟩:=aj h;refine aaf dL _ _ _ (Fr.refl _ _) av _ h41 _ ?_
         ·rintro p42 σ' eo apw s46;rw [eo]at h;have s47:σ' 2=(.ref (AH.empty.next) 0):=(apw 2 (by decide)).trans av;have s48:σ' 4=(.int .i64 dL):=(apw 4 (by decide)).trans av;rcases au h with⟨e49,h⟩|⟨e49,h⟩
          ·obtain rfl:=ak h;try refine ah ?_
           exact(dG (.cons (dH (.cons (.pure _ (.int _ _)) (.cons (.pure _ (.int _ _)) (.cons (.pure _ (.int _ _)) (.cons (.pure _ (.int _ _)) .nil))))) (.cons (.pure _ (.bool _)) .nil)))
          ·try refine ah ?_
           obtain⟨o51,h52,h⟩:=aj h;refine aag dL _ _ _ (Fr.refl _ _) av _ h52 _ ?_
           ·rintro p53 σ' eo Ke s57;rw [eo]at h;have s58:σ' 2=(.ref (AH.empty.next) 0):=(Ke 2 (by decide)).trans av;have s59:σ' 4=(.int .i64 dL):=(Ke 4 (by decide)).trans av;rcases au h with⟨e60,h⟩|⟨e60,h⟩
            ·obtain rfl:=ak h;try refine ah ?_
             exact(dG (.cons (dH (.cons (.pure _ (.int _ _)) (.cons (.pure _ (.int _ _)) (.cons (.pure _ (.int _ _)) (.cons (.pure _ (.int _ _)) .nil))))) (.cons (.pure _ (.bool _)) .nil)))
            ·rcases au h with⟨e61,h⟩|⟨e61,h⟩
             ·obtain rfl:=ak h;try refine ah ?_
              exact(dG (.cons (dH (.cons (.pure _ (.int _ _)) (.cons (.pure _ (.int _ _)) (.cons (.pure _ (.int _ _)) (.cons (.pure _ (.int _ _)) .nil))))) (.cons (.pure _ (.bool _)) .nil)))
             ·try refine ah ?_
              obtain⟨o66,h67,h⟩:=aj h;refine aah dL _ _ _ (Fr.refl _ _) av _ h67 _ ?_
              ·rintro p68 σ' eo apy s72;rw [eo]at h;have s73:σ' 2=(.ref (AH.empty.next) 0):=(apy 2 (by decide)).trans av;have s74:σ' 4=(.int .i64 dL):=(apy 4 (by decide)).trans av;rcases au h with⟨Hr,h⟩|⟨Hr,h⟩
               ·obtain rfl:=ak h;try refine ah ?_
                exact(dG (.cons (dH (.cons (.pure _ (.int _ _)) (.cons (.pure _ (.int _ _)) (.cons (.pure _ (.int _ _)) (.cons (.pure _ (.int _ _)) .nil))))) (.cons (.pure _ (.bool _)) .nil)))
               ·try refine ah ?_
                obtain⟨o77,h78,h⟩:=aj h;refine aai dL _ _ _ (Fr.refl _ _) av _ h78 _ ?_
                ·rintro p79 σ' eo apz s83;rw [eo]at h;have s84:σ' 2=(.ref (AH.empty.next) 0):=(apz 2 (by decide)).trans av;have s85:σ' 4=(.int .i64 dL):=(apz 4 (by decide)).trans av;rcases au h with⟨Mq,h⟩|⟨Mq,h⟩
                 ·obtain rfl:=ak h;try refine ah ?_
                  exact(dG (.cons (dH (.cons (.pure _ (.int _ _)) (.cons (.pure _ (.int _ _)) (.cons (.pure _ (.int _ _)) (.cons (.pure _ (.int _ _)) .nil))))) (.cons (.pure _ (.bool _)) .nil)))
                 ·rcases au h with⟨e87,h⟩|⟨e87,h⟩
                  ·obtain rfl:=ak h;try refine ah ?_
                   exact(dG (.cons (dH (.cons (.pure _ (.int _ _)) (.cons (.pure _ (.int _ _)) (.cons (.pure _ (.int _ _)) (.cons (.pure _ (.int _ _)) .nil))))) (.cons (.pure _ (.bool _)) .nil)))
                  ·rcases au h with⟨Mr,h⟩|⟨Mr,h⟩
                   ·obtain rfl:=ak h;try refine ah ?_
                    exact(dG (.cons (dH (.cons (.pure _ (.int _ _)) (.cons (.pure _ (.int _ _)) (.cons (.pure _ (.int _ _)) (.cons (.pure _ (.int _ _)) .nil))))) (.cons (.pure _ (.bool _)) .nil)))
                   ·rcases au h with⟨Sj,h⟩|⟨Sj,h⟩
                    ·obtain rfl:=ak h;try refine ah ?_
                     exact(dG (.cons (dH (.cons (.pure _ (.int _ _)) (.cons (.pure _ (.int _ _)) (.cons (.pure _ (.int _ _)) (.cons (.pure _ (.int _ _)) .nil))))) (.cons (.pure _ (.bool _)) .nil)))
                    ·rcases au h with⟨Sk,h⟩|⟨Sk,h⟩
                     ·obtain rfl:=ak h;try refine ah ?_
                      exact(dG (.cons (dH (.cons (.pure _ (.int _ _)) (.cons (.pure _ (.int _ _)) (.cons (.pure _ (.int _ _)) (.cons (.pure _ (.int _ _)) .nil))))) (.cons (.pure _ (.bool _)) .nil)))
                     ·rcases au h with⟨Jj,h⟩|⟨Jj,h⟩
                      ·obtain rfl:=ak h;try refine ah ?_
                       exact(dG (.cons (dH (.cons (.pure _ (.int _ _)) (.cons (.pure _ (.int _ _)) (.cons (.pure _ (.int _ _)) (.cons (.pure _ (.int _ _)) .nil))))) (.cons (.pure _ (.bool _)) .nil)))
                      ·obtain rfl:=ak h;try refine ah ?_
                       exact(dG (.cons (dH (.cons (.pure _ (.int _ _)) (.cons (.pure _ (.int _ _)) (.cons (.pure _ (.int _ _)) (.cons (.pure _ (.int _ _)) .nil))))) (.cons (.pure _ (.bool _)) .nil)))
def mW:Nat->(List Nd)->Int->Option (Int⊕Int)
  |0,_,_=>none
  |k+1,aH,fV=>
    if 0<=fV then Option.bind (aH[fV.toNat]?) fun x3=>cond (decide ((x3.args.length:Int)>0)) (Option.bind (x3.args[0]?) fun x6=>Option.bind (iQ x6 0 (IntKind.wrap .i64 (fV -1))) fun p9=>cond p9 (mW k aH x6) (some (.inr ((-1))))) (some (.inl fV))else none
def II:List Nat:=[1,4,5]++List.range' 8 20
theorem aak: ∀(k:Nat) (aH:List Nd) (fV:Int) (aC σ:Nat->PV) (H:AH) (f0:Fr II aC σ) (sl:σ 0=(.aB (aH.map Nd.cells) .unk)/\σ 1=(.int .i64 fV)) (o:Int⊕Int) (h:mW k aH fV=some o) (Q:Post) (q0: ∀(p:Int) (σ':Nat->PV),o= .inl p->Fr II aC σ'->(σ' 1=(.int .i64 p))->Q (.exit 0) σ' H) (q1: ∀(p:Int) (σ':Nat->PV),o= .inr (p)->Fr II aC σ'->(σ' 4=(.int .i64 p))->Q .ret σ' H),W Tryz.prog (.loop Vl) Q σ H:=by
  intro k
  induction k with
  |zero=>intro aH fV aC σ H f0 sl o h Q q0 q1;simp only [mW,reduceCtorEq]at h
  |succ k ih=>
    intro aH fV aC σ H f0 sl o h Q q0 q1;obtain⟨s0,s1⟩:=sl;unfold mW at h;refine bA (fun K hK=>aF ?_);unfold Vl;obtain⟨e2,h⟩:=aD h;obtain⟨x3,e4,h⟩:=aj h;rcases au h with⟨e5,h⟩|⟨e5,h⟩
    ·obtain⟨x6,e7,h⟩:=aj h;obtain⟨p9,e8,h⟩:=aj h;try refine ah ?_
     refine aA (jh e8) ?_;rcases au h with⟨e10,h⟩|⟨e10,h⟩
     ·try refine ah ?_
      refine hK _ _ ?_;exact ih aH x6 _ _ _ aO av _ h _ q0 q1
     ·obtain rfl:=ak h;try refine ah ?_
      exact q1 _ _ rfl aO av
    ·obtain rfl:=ak h;try refine ah ?_
     exact q0 _ _ rfl aO av
def uS (k:Nat) (aH:List Nd) (fV:Int):Option Int:=
  cond (decide (fV<0)) (some (-1)) (Option.bind (mW k aH fV) (fun o=>Sum.elim (fun xY=>some xY) (fun mR=>some mR) o))
theorem Ms {k:Nat} {aH:List Nd} {fV:Int} {c0:Ck} {r:Int} (h:uS k aH fV=some r):aG Tryz.prog 57 [(.aB (aH.map Nd.cells) c0),(.int .i64 fV)] (.int .i64 r):=by
  refine aG.lw (.aB (.same .nil)) (aG.aR (bB.mem (.cons (bC Nd.pu _) (.cons (.int _ _) .nil))) (aI ava (by simp) (aF ?_)) (.int _ _));unfold uS at h;unfold aoT;rcases au h with⟨e1,h⟩|⟨e1,h⟩
  ·obtain rfl:=ak h;try refine ah ?_
   exact(.pure _ (.int _ _))
  ·try refine ah ?_
   obtain⟨o11,h12,h⟩:=aj h;refine aak k aH fV _ _ _ (Fr.refl _ _) av _ h12 _ ?_ ?_
   ·rintro xY σ' eo Wh s17;subst eo;rw [dD]at h;obtain rfl:=ak h;try refine ah ?_
    exact(.pure _ (.int _ _))
   ·rintro mR σ' eo aaj s22;subst eo;rw [dK]at h;obtain rfl:=ak h;try refine ah ?_
    exact(.pure _ (.int _ _))
def pJ:Nat->(List Nd)->Int->Int->Int->Option (Unit⊕Bool)
  |0,_,_,_,_=>none
  |k+1,aH,dO,Dm,oK=>
    cond (decide (oK>=0)) (if 0<=dO then Option.bind (aH[dO.toNat]?) fun x6=>if 0<=oK then Option.bind (x6.args[oK.toNat]?) fun x9=>cond (x9 !=(IntKind.wrap .i64 (Dm -1))) (some (.inr (false))) (cond (decide (Dm<1)) (some (.inr (false))) (Option.bind (uS k aH (IntKind.wrap .i64 (Dm -1))) fun ig=>pJ k aH dO ig (IntKind.wrap .i64 (oK -1))))else none else none) (some (.inl ()))
def FP:List Nat:=[4,5,6]++List.range' 15 23
theorem YM: ∀(k:Nat) (aH:List Nd) (dO:Int) (Dm:Int) (oK:Int) (aC σ:Nat->PV) (H:AH) (f0:Fr FP aC σ) (sl:σ 0=(.aB (aH.map Nd.cells) .unk)/\σ 1=(.int .i64 dO)/\σ 5=(.int .i64 Dm)/\σ 6=(.int .i64 oK)) (o:Unit⊕Bool) (h:pJ k aH dO Dm oK=some o) (Q:Post) (q0: ∀(p:Unit) (σ':Nat->PV),o= .inl p->Fr FP aC σ'->Q (.exit 0) σ' H) (q1: ∀(p:Bool) (σ':Nat->PV),o= .inr (p)->Fr FP aC σ'->(σ' 4=(.bool p))->Q .ret σ' H),W Tryz.prog (.loop V5) Q σ H:=by
  intro k
  induction k with
  |zero=>intro aH dO Dm oK aC σ H f0 sl o h Q q0 q1;simp only [pJ,reduceCtorEq]at h
  |succ k ih=>
    intro aH dO Dm oK aC σ H f0 sl o h Q q0 q1;obtain⟨s0,s1,s5,s6⟩:=sl;unfold pJ at h;refine bA (fun K hK=>aF ?_);unfold V5;rcases au h with⟨e4,h⟩|⟨e4,h⟩
    ·obtain⟨e5,h⟩:=aD h;obtain⟨x6,e7,h⟩:=aj h;obtain⟨e8,h⟩:=aD h;obtain⟨x9,e10,h⟩:=aj h;rcases au h with⟨e11,h⟩|⟨e11,h⟩
     ·obtain rfl:=ak h;try refine ah ?_
      exact q1 _ _ rfl aO av
     ·rcases au h with⟨e12,h⟩|⟨e12,h⟩
      ·obtain rfl:=ak h;try refine ah ?_
       exact q1 _ _ rfl aO av
      ·obtain⟨ig,e13,h⟩:=aj h;try refine ah ?_
       refine aA (Ms e13) ?_;try refine ah ?_
       refine hK _ _ ?_;exact ih aH dO ig (IntKind.wrap .i64 (oK -1)) _ _ _ aO av _ h _ q0 q1
    ·obtain rfl:=ak h;try refine ah ?_
     exact q0 _ _ rfl aO
def Cc (k:Nat) (aH:List Nd) (dO:Int):Option Bool:=
  if 0<=dO then Option.bind (aH[dO.toNat]?) fun x2=>Option.bind (pJ k aH dO dO (IntKind.wrap .i64 ((x2.args.length:Int) -1))) (fun o=>Sum.elim (fun yA=>some true) (fun qU=>some qU) o)else none
theorem aeM {k:Nat} {aH:List Nd} {dO:Int} {c0:Ck} {r:Bool} (h:Cc k aH dO=some r):aG Tryz.prog 96 [(.aB (aH.map Nd.cells) c0),(.int .i64 dO)] (.bool r):=by
  refine aG.lw (.aB (.same .nil)) (aG.aR (bB.mem (.cons (bC Nd.pu _) (.cons (.int _ _) .nil))) (aI apk (by simp) (aF ?_)) (.bool _));unfold Cc at h;unfold apj;obtain⟨e1,h⟩:=aD h;obtain⟨x2,e3,h⟩:=aj h;try refine ah ?_
  obtain⟨o15,h16,h⟩:=aj h;refine YM k aH dO dO (IntKind.wrap .i64 ((x2.args.length:Int) -1)) _ _ _ (Fr.refl _ _) av _ h16 _ ?_ ?_
  ·rintro yA σ' eo Kg;subst eo;rw [dD]at h;obtain rfl:=ak h;try refine ah ?_
   exact(.pure _ (.bool _))
  ·rintro qU σ' eo ait O6;subst eo;rw [dK]at h;obtain rfl:=ak h;try refine ah ?_
   exact(.pure _ (.bool _))
def lV:Nat->Str->Int->Option (Unit⊕Bool)
  |0,_,_=>none
  |k+1,s_0,j4=>
    cond (decide (j4<(s_0.length:Int))) (if 0<=j4 then Option.bind (s_0[j4.toNat]?) fun x4=>cond (decide ((x4.toNat:Int)<32)) (some (.inr (false))) (cond (decide ((x4.toNat:Int)>126)) (some (.inr (false))) (lV k s_0 (IntKind.wrap .i64 (j4+1))))else none) (some (.inl ()))
def D7:List Nat:=[4,5]++List.range' 10 16
theorem Wi: ∀(k:Nat) (s_0:Str) (j4:Int) (aC σ:Nat->PV) (H:AH) (f0:Fr D7 aC σ) (sl:σ 0=(.str s_0)/\σ 5=(.int .i64 j4)) (o:Unit⊕Bool) (h:lV k s_0 j4=some o) (Q:Post) (q0: ∀(p:Unit) (σ':Nat->PV),o= .inl p->Fr D7 aC σ'->Q (.exit 0) σ' H) (q1: ∀(p:Bool) (σ':Nat->PV),o= .inr (p)->Fr D7 aC σ'->(σ' 4=(.bool p))->Q .ret σ' H),W Tryz.prog (.loop QG) Q σ H:=by
  intro k
  induction k with
  |zero=>intro s_0 j4 aC σ H f0 sl o h Q q0 q1;simp only [lV,reduceCtorEq]at h
  |succ k ih=>
    intro s_0 j4 aC σ H f0 sl o h Q q0 q1;obtain⟨s0,s5⟩:=sl;unfold lV at h;refine bA (fun K hK=>aF ?_);unfold QG;rcases au h with⟨e2,h⟩|⟨e2,h⟩
    ·obtain⟨e3,h⟩:=aD h;obtain⟨x4,e5,h⟩:=aj h;rcases au h with⟨e6,h⟩|⟨e6,h⟩
     ·obtain rfl:=ak h;try refine ah ?_
      exact q1 _ _ rfl aO av
     ·rcases au h with⟨e7,h⟩|⟨e7,h⟩
      ·obtain rfl:=ak h;try refine ah ?_
       exact q1 _ _ rfl aO av
      ·try refine ah ?_
       refine hK _ _ ?_;exact ih s_0 (IntKind.wrap .i64 (j4+1)) _ _ _ aO av _ h _ q0 q1
    ·obtain rfl:=ak h;try refine ah ?_
     exact q0 _ _ rfl aO
def Dn (k:Nat) (s_0:Str) (Sm:Int):Option Bool:=
  cond (decide ((s_0.length:Int)>Sm)) (some false) (Option.bind (lV k s_0 0) (fun o=>Sum.elim (fun fE=>some true) (fun ig=>some ig) o))
theorem acF {k:Nat} {s_0:Str} {Sm:Int} {r:Bool} (h:Dn k s_0 Sm=some r):aG Tryz.prog 148 [(.str s_0),(.int .i64 Sm)] (.bool r):=by
  refine aG.aR (bB.mem (.cons (.str _) (.cons (.int _ _) .nil))) (aI asC (by simp) (aF ?_)) (.bool _);unfold Dn at h;unfold akO;rcases au h with⟨e1,h⟩|⟨e1,h⟩
  ·obtain rfl:=ak h;try refine ah ?_
   exact(.pure _ (.bool _))
  ·try refine ah ?_
   obtain⟨o8,h9,h⟩:=aj h;refine Wi k s_0 0 _ _ _ (Fr.refl _ _) av _ h9 _ ?_ ?_
   ·rintro fE σ' eo V7;subst eo;rw [dD]at h;obtain rfl:=ak h;try refine ah ?_
    exact(.pure _ (.bool _))
   ·rintro ig σ' eo vS pK;subst eo;rw [dK]at h;obtain rfl:=ak h;try refine ah ?_
    exact(.pure _ (.bool _))
def oQ:Nat->Str->Int->Option (Unit⊕Bool)
  |0,_,_=>none
  |k+1,s_0,cB=>
    cond (decide (cB<(s_0.length:Int))) (if 0<=cB then Option.bind (s_0[cB.toNat]?) fun x6=>cond ((x6.toNat:Int)==34) (some (.inr (false))) (cond ((x6.toNat:Int)==92) (some (.inr (false))) (oQ k s_0 (IntKind.wrap .i64 (cB+1))))else none) (some (.inl ()))
def IJ:List Nat:=[2,3]++List.range' 7 16
theorem aam: ∀(k:Nat) (s_0:Str) (cB:Int) (aC σ:Nat->PV) (H:AH) (f0:Fr IJ aC σ) (sl:σ 0=(.str s_0)/\σ 3=(.int .i64 cB)) (o:Unit⊕Bool) (h:oQ k s_0 cB=some o) (Q:Post) (q0: ∀(p:Unit) (σ':Nat->PV),o= .inl p->Fr IJ aC σ'->Q (.exit 0) σ' H) (q1: ∀(p:Bool) (σ':Nat->PV),o= .inr (p)->Fr IJ aC σ'->(σ' 2=(.bool p))->Q .ret σ' H),W Tryz.prog (.loop V6) Q σ H:=by
  intro k
  induction k with
  |zero=>intro s_0 cB aC σ H f0 sl o h Q q0 q1;simp only [oQ,reduceCtorEq]at h
  |succ k ih=>
    intro s_0 cB aC σ H f0 sl o h Q q0 q1;obtain⟨s0,s3⟩:=sl;unfold oQ at h;refine bA (fun K hK=>aF ?_);unfold V6;rcases au h with⟨e4,h⟩|⟨e4,h⟩
    ·obtain⟨e5,h⟩:=aD h;obtain⟨x6,e7,h⟩:=aj h;rcases au h with⟨e8,h⟩|⟨e8,h⟩
     ·obtain rfl:=ak h;try refine ah ?_
      exact q1 _ _ rfl aO av
     ·rcases au h with⟨e9,h⟩|⟨e9,h⟩
      ·obtain rfl:=ak h;try refine ah ?_
       exact q1 _ _ rfl aO av
      ·try refine ah ?_
       refine hK _ _ ?_;exact ih s_0 (IntKind.wrap .i64 (cB+1)) _ _ _ aO av _ h _ q0 q1
    ·obtain rfl:=ak h;try refine ah ?_
     exact q0 _ _ rfl aO
def iI (k:Nat) (s_0:Str):Option Bool:=
  Option.bind (Dn k s_0 40) fun p2=>cond p2 (Option.bind (oQ k s_0 0) (fun o=>Sum.elim (fun jW=>some true) (fun p16=>some p16) o)) (some false)
theorem mg {k:Nat} {s_0:Str} {r:Bool} (h:iI k s_0=some r):aG Tryz.prog 97 [(.str s_0)] (.bool r):=by
  refine aG.aR (bB.mem (.cons (.str _) .nil)) (aI avw (by simp) (aF ?_)) (.bool _);unfold iI at h;unfold apl;obtain⟨p2,e1,h⟩:=aj h;try refine ah ?_
  refine aA (acF e1) ?_;rcases au h with⟨e3,h⟩|⟨e3,h⟩
  ·try refine ah ?_
   obtain⟨o10,h11,h⟩:=aj h;refine aam k s_0 0 _ _ _ (Fr.refl _ _) av _ h11 _ ?_ ?_
   ·rintro jW σ' eo D6;subst eo;rw [dD]at h;obtain rfl:=ak h;try refine ah ?_
    exact(.pure _ (.bool _))
   ·rintro p16 σ' eo aan s20;subst eo;rw [dK]at h;obtain rfl:=ak h;try refine ah ?_
    exact(.pure _ (.bool _))
  ·obtain rfl:=ak h;try refine ah ?_
   exact(.pure _ (.bool _))
def Ao (bn:Int) (bM:Int) (bF:Str) (bP:List Str) (bS:List Int) (aao:Bool):Option Bool:=
  cond aao (some ((bn==3))) (some (false))
theorem Wj: ∀(bW:Nat) (bn:Int) (bM:Int) (bF:Str) (bP:List Str) (bS:List Int) (aao:Bool) (aC σ:Nat->PV) (H:AH) (f0:Fr [38,39,40,41] aC σ) (sl:σ 5=(.ref (bW) 0)/\σ 37=(.bool aao)/\H.obj bW=some [(.int .i64 bn),(.int .i64 bM),(.str bF),(.aB (bP.map aX) .unk),(.aB (bS.map bI) .unk)]) (cu:bW<H.next) (o:Bool) (h:Ao bn bM bF bP bS aao=some o) (Q:Post) (q0: ∀(p:Bool) (σ':Nat->PV),o=p->Fr [38,39,40,41] aC σ'->(σ' 41=(.bool p))->Q .normal σ' H),dB Tryz.prog U7 (Q .normal) σ H:=by
  intro bW bn bM bF bP bS aao aC σ H f0 sl cu o h Q q0;obtain⟨s5,s37,uT⟩:=sl;have uU:=ne_next cu;have uV:=aU cu;unfold Ao at h;refine dw ?_;unfold U7;rcases au h with⟨e11,h⟩|⟨e11,h⟩
  ·obtain rfl:=ak h;try refine ah ?_
   exact q0 _ _ rfl aO av
  ·obtain rfl:=ak h;try refine ah ?_
   exact q0 _ _ rfl aO av
def vT (k:Nat) (bn:Int) (bM:Int) (bF:Str) (bP:List Str) (bS:List Int) (Ap:Int) (Aq:Int) (Ar:Int) (Au:Int):Option ((Int×Int×Int×Int)):=
  Option.bind (nM k bF) fun fE=>Option.bind (Ao bn bM bF bP bS fE.2) (fun ig=>cond ig (some ((Ap,Aq,0,(bS.length:Int)))) (some ((Ap,Aq,Ar,Au))))
def KY:List Nat:=[8,9]++List.range' 30 17
theorem Wm (k:Nat): ∀(bW:Nat) (tO:Nat) (bn:Int) (bM:Int) (bF:Str) (bP:List Str) (bS:List Int) (Ap:Int) (Aq:Int) (Ar:Int) (Au:Int) (aC σ:Nat->PV) (H0 H:AH) (f0:Fr KY aC σ) (hf0:HF [tO] H0 H) (sl:σ 5=(.ref (bW) 0)/\σ 6=(.ref (tO) 0)/\H.obj bW=some [(.int .i64 bn),(.int .i64 bM),(.str bF),(.aB (bP.map aX) .unk),(.aB (bS.map bI) .unk)]/\H.obj tO=some [(.int .i64 Ap),(.int .i64 Aq),(.int .i64 Ar),(.int .i64 Au)]) (cu:bW<H.next) (Ce:tO<H.next) (D8:bW≠tO) (o:(Int×Int×Int×Int)) (h:vT k bn bM bF bP bS Ap Aq Ar Au=some o) (Q:Post) (q0: ∀(p:Int×Int×Int×Int) (σ':Nat->PV) (H':AH),o=p->Fr KY aC σ'->HF [tO] H0 H'->(H'.obj tO=some [(.int .i64 p.1),(.int .i64 p.2.1),(.int .i64 p.2.2.1),(.int .i64 p.2.2.2)])->Q .normal σ' H'),W Tryz.prog U8 Q σ H:=by
  intro bW tO bn bM bF bP bS Ap Aq Ar Au aC σ H0 H f0 hf0 sl cu Ce D8 o h Q q0;obtain⟨s5,s6,uT,amE⟩:=sl;have uU:=ne_next cu;have uV:=aU cu;have amF:=ne_next Ce;have amG:=aU Ce;have ano:=eq_false D8;have anp:=eq_false (Ne.symm D8);have hle0:=hf0.1;unfold vT at h;refine aF ?_;unfold U8;obtain⟨fE,e9,h⟩:=aj h;try refine ah ?_
  refine aA (xA e9) ?_;try refine ah ?_
  obtain⟨o12,Jk,h⟩:=aj h;refine Wj (bW) bn bM bF bP bS fE.2 _ _ _ (Fr.refl _ _) av bE _ Jk _ ?_
  ·rintro ig σ' eo vS pK;rw [eo]at h;have qH:σ' 5=(.ref (bW) 0):=(vS 5 (by decide)).trans av;have s20:σ' 6=(.ref (tO) 0):=(vS 6 (by decide)).trans av;rcases au h with⟨e21,h⟩|⟨e21,h⟩
   ·try refine ah ?_
    refine Uz (tO) ?_;obtain rfl:=ak h;try refine ah ?_
    exact q0 _ _ _ rfl (by repeat (first|exact f0|refine Fr.upd (by decide) ?_|refine Fr.via vS (by decide) ?_)) (by repeat (first|exact hf0|refine HF.new ?_|refine HF.dR ?_|refine HF.used ?_|refine HF.put (by first|(right;omega)|(left;simp only [List.mem_cons,true_or,or_true])) ?_)) av
   ·obtain rfl:=ak h;try refine ah ?_
    exact q0 _ _ _ rfl (by repeat (first|exact f0|refine Fr.upd (by decide) ?_|refine Fr.via vS (by decide) ?_)) (by repeat (first|exact hf0|refine HF.new ?_|refine HF.dR ?_|refine HF.used ?_|refine HF.put (by first|(right;omega)|(left;simp only [List.mem_cons,true_or,or_true])) ?_)) av
def vU (Ap:Int) (Aq:Int) (Ar:Int) (Au:Int) (Jl:Int) (FQ:Bool):Option Bool:=
  cond FQ (some (true)) (Option.bind (iQ Jl Ar Au) fun p46=>some ((!p46)))
def KZ:List Nat:=List.range' 67 8
theorem Wn: ∀(tO:Nat) (Ap:Int) (Aq:Int) (Ar:Int) (Au:Int) (Jl:Int) (FQ:Bool) (aC σ:Nat->PV) (H:AH) (f0:Fr KZ aC σ) (sl:σ 6=(.ref (tO) 0)/\σ 10=(.int .i64 Jl)/\σ 66=(.bool FQ)/\H.obj tO=some [(.int .i64 Ap),(.int .i64 Aq),(.int .i64 Ar),(.int .i64 Au)]) (Ce:tO<H.next) (o:Bool) (h:vU Ap Aq Ar Au Jl FQ=some o) (Q:Post) (q0: ∀(p:Bool) (σ':Nat->PV),o=p->Fr KZ aC σ'->(σ' 74=(.bool p))->Q .normal σ' H),dB Tryz.prog U9 (Q .normal) σ H:=by
  intro tO Ap Aq Ar Au Jl FQ aC σ H f0 sl Ce o h Q q0;obtain⟨s6,s10,s66,amE⟩:=sl;have amF:=ne_next Ce;have amG:=aU Ce;unfold vU at h;refine dw ?_;unfold U9;rcases au h with⟨e44,h⟩|⟨e44,h⟩
  ·obtain rfl:=ak h;try refine ah ?_
   exact q0 _ _ rfl aO av
  ·obtain⟨p46,e45,h⟩:=aj h;try refine ah ?_
   refine aA (jh e45) ?_;obtain rfl:=ak h;try refine ah ?_
   exact q0 _ _ rfl aO av
def vV (bn:Int) (bM:Int) (bF:Str) (bP:List Str) (bS:List Int) (aap:Bool):Option Bool:=
  cond aap (some (true)) (cond (bn==2) (some (true)) (cond (bn==3) (some (true)) (some ((bn==18)))))
def K3:List Nat:=List.range' 79 14
theorem Wo: ∀(bW:Nat) (bn:Int) (bM:Int) (bF:Str) (bP:List Str) (bS:List Int) (aap:Bool) (aC σ:Nat->PV) (H:AH) (f0:Fr K3 aC σ) (sl:σ 5=(.ref (bW) 0)/\σ 78=(.bool aap)/\H.obj bW=some [(.int .i64 bn),(.int .i64 bM),(.str bF),(.aB (bP.map aX) .unk),(.aB (bS.map bI) .unk)]) (cu:bW<H.next) (o:Bool) (h:vV bn bM bF bP bS aap=some o) (Q:Post) (q0: ∀(p:Bool) (σ':Nat->PV),o=p->Fr K3 aC σ'->(σ' 92=(.bool p))->Q .normal σ' H),dB Tryz.prog Va (Q .normal) σ H:=by
  intro bW bn bM bF bP bS aap aC σ H f0 sl cu o h Q q0;obtain⟨s5,s78,uT⟩:=sl;have uU:=ne_next cu;have uV:=aU cu;unfold vV at h;refine dw ?_;unfold Va;rcases au h with⟨e58,h⟩|⟨e58,h⟩
  ·obtain rfl:=ak h;try refine ah ?_
   exact q0 _ _ rfl aO av
  ·rcases au h with⟨e59,h⟩|⟨e59,h⟩
   ·obtain rfl:=ak h;try refine ah ?_
    exact q0 _ _ rfl aO av
   ·rcases au h with⟨e60,h⟩|⟨e60,h⟩
    ·obtain rfl:=ak h;try refine ah ?_
     exact q0 _ _ rfl aO av
    ·obtain rfl:=ak h;try refine ah ?_
     exact q0 _ _ rfl aO av
def vW (k:Nat) (bn:Int) (bM:Int) (bF:Str) (bP:List Str) (bS:List Int) (Jm:Bool) (aaq:Bool):Option Bool:=
  cond aaq (some (true)) (cond Jm (cond (bn !=0) (cond (bn !=23) (cond (bM !=0) (some (true)) (cond (bn==23) (Option.bind (iQ bM 0 1) fun Av=>cond Av (cond (bn==1) (Option.bind (iI k bF) fun p84=>some ((!p84))) (some (false))) (some (true))) (cond (bn==1) (Option.bind (iI k bF) fun Aw=>some ((!Aw))) (some (false))))) (cond (bn==23) (Option.bind (iQ bM 0 1) fun p90=>cond p90 (cond (bn==1) (Option.bind (iI k bF) fun X6=>some ((!X6))) (some (false))) (some (true))) (cond (bn==1) (Option.bind (iI k bF) fun p97=>some ((!p97))) (some (false))))) (cond (bn==23) (Option.bind (iQ bM 0 1) fun Kh=>cond Kh (cond (bn==1) (Option.bind (iI k bF) fun Ki=>some ((!Ki))) (some (false))) (some (true))) (cond (bn==1) (Option.bind (iI k bF) fun Wp=>some ((!Wp))) (some (false))))) (cond (bF==[]) (cond (bn !=0) (cond (bn !=23) (cond (bM !=0) (some (true)) (cond (bn==23) (Option.bind (iQ bM 0 1) fun aar=>cond aar (cond (bn==1) (Option.bind (iI k bF) fun IK=>some ((!IK))) (some (false))) (some (true))) (cond (bn==1) (Option.bind (iI k bF) fun apB=>some ((!apB))) (some (false))))) (cond (bn==23) (Option.bind (iQ bM 0 1) fun apC=>cond apC (cond (bn==1) (Option.bind (iI k bF) fun apD=>some ((!apD))) (some (false))) (some (true))) (cond (bn==1) (Option.bind (iI k bF) fun apE=>some ((!apE))) (some (false))))) (cond (bn==23) (Option.bind (iQ bM 0 1) fun apF=>cond apF (cond (bn==1) (Option.bind (iI k bF) fun Mt=>some ((!Mt))) (some (false))) (some (true))) (cond (bn==1) (Option.bind (iI k bF) fun Mv=>some ((!Mv))) (some (false))))) (some (true))))
def K4:List Nat:=List.range' 98 45
theorem Wq (k:Nat): ∀(bW:Nat) (bn:Int) (bM:Int) (bF:Str) (bP:List Str) (bS:List Int) (Jm:Bool) (aaq:Bool) (aC σ:Nat->PV) (H:AH) (f0:Fr K4 aC σ) (sl:σ 5=(.ref (bW) 0)/\σ 11=(.bool Jm)/\σ 97=(.bool aaq)/\H.obj bW=some [(.int .i64 bn),(.int .i64 bM),(.str bF),(.aB (bP.map aX) .unk),(.aB (bS.map bI) .unk)]) (cu:bW<H.next) (o:Bool) (h:vW k bn bM bF bP bS Jm aaq=some o) (Q:Post) (q0: ∀(p:Bool) (σ':Nat->PV),o=p->Fr K4 aC σ'->(σ' 142=(.bool p))->Q .normal σ' H),dB Tryz.prog Vb (Q .normal) σ H:=by
  intro bW bn bM bF bP bS Jm aaq aC σ H f0 sl cu o h Q q0;obtain⟨s5,s11,s97,uT⟩:=sl;have uU:=ne_next cu;have uV:=aU cu;unfold vW at h;refine dw ?_;unfold Vb;rcases au h with⟨Jo,h⟩|⟨Jo,h⟩
  ·obtain rfl:=ak h;try refine ah ?_
   exact q0 _ _ rfl aO av
  ·rcases au h with⟨Pg,h⟩|⟨Pg,h⟩
   ·rcases au h with⟨Hr,h⟩|⟨Hr,h⟩
    ·rcases au h with⟨Hq,h⟩|⟨Hq,h⟩
     ·rcases au h with⟨Ht,h⟩|⟨Ht,h⟩
      ·obtain rfl:=ak h;try refine ah ?_
       exact q0 _ _ rfl aO av
      ·rcases au h with⟨Mw,h⟩|⟨Mw,h⟩
       ·obtain⟨Av,e79,h⟩:=aj h;try refine ah ?_
        refine aA (jh e79) ?_;rcases au h with⟨e81,h⟩|⟨e81,h⟩
        ·rcases au h with⟨Ph,h⟩|⟨Ph,h⟩
         ·obtain⟨p84,e83,h⟩:=aj h;try refine ah ?_
          refine aA (mg e83) ?_;obtain rfl:=ak h;try refine ah ?_
          exact q0 _ _ rfl aO av
         ·obtain rfl:=ak h;try refine ah ?_
          exact q0 _ _ rfl aO av
        ·obtain rfl:=ak h;try refine ah ?_
         exact q0 _ _ rfl aO av
       ·rcases au h with⟨e85,h⟩|⟨e85,h⟩
        ·obtain⟨Aw,Mq,h⟩:=aj h;try refine ah ?_
         refine aA (mg Mq) ?_;obtain rfl:=ak h;try refine ah ?_
         exact q0 _ _ rfl aO av
        ·obtain rfl:=ak h;try refine ah ?_
         exact q0 _ _ rfl aO av
     ·rcases au h with⟨Mr,h⟩|⟨Mr,h⟩
      ·obtain⟨p90,Sj,h⟩:=aj h;try refine ah ?_
       refine aA (jh Sj) ?_;rcases au h with⟨Jj,h⟩|⟨Jj,h⟩
       ·rcases au h with⟨e92,h⟩|⟨e92,h⟩
        ·obtain⟨X6,Jp,h⟩:=aj h;try refine ah ?_
         refine aA (mg Jp) ?_;obtain rfl:=ak h;try refine ah ?_
         exact q0 _ _ rfl aO av
        ·obtain rfl:=ak h;try refine ah ?_
         exact q0 _ _ rfl aO av
       ·obtain rfl:=ak h;try refine ah ?_
        exact q0 _ _ rfl aO av
      ·rcases au h with⟨Sn,h⟩|⟨Sn,h⟩
       ·obtain⟨p97,Pj,h⟩:=aj h;try refine ah ?_
        refine aA (mg Pj) ?_;obtain rfl:=ak h;try refine ah ?_
        exact q0 _ _ rfl aO av
       ·obtain rfl:=ak h;try refine ah ?_
        exact q0 _ _ rfl aO av
    ·rcases au h with⟨Sq,h⟩|⟨Sq,h⟩
     ·obtain⟨Kh,e99,h⟩:=aj h;try refine ah ?_
      refine aA (jh e99) ?_;rcases au h with⟨D9,h⟩|⟨D9,h⟩
      ·rcases au h with⟨Kj,h⟩|⟨Kj,h⟩
       ·obtain⟨Ki,Ea,h⟩:=aj h;try refine ah ?_
        refine aA (mg Ea) ?_;obtain rfl:=ak h;try refine ah ?_
        exact q0 _ _ rfl aO av
       ·obtain rfl:=ak h;try refine ah ?_
        exact q0 _ _ rfl aO av
      ·obtain rfl:=ak h;try refine ah ?_
       exact q0 _ _ rfl aO av
     ·rcases au h with⟨Eb,h⟩|⟨Eb,h⟩
      ·obtain⟨Wp,Kk,h⟩:=aj h;try refine ah ?_
       refine aA (mg Kk) ?_;obtain rfl:=ak h;try refine ah ?_
       exact q0 _ _ rfl aO av
      ·obtain rfl:=ak h;try refine ah ?_
       exact q0 _ _ rfl aO av
   ·rcases au h with⟨e108,h⟩|⟨e108,h⟩
    ·rcases au h with⟨e109,h⟩|⟨e109,h⟩
     ·rcases au h with⟨IL,h⟩|⟨IL,h⟩
      ·rcases au h with⟨Kl,h⟩|⟨Kl,h⟩
       ·obtain rfl:=ak h;try refine ah ?_
        exact q0 _ _ rfl aO av
       ·rcases au h with⟨aat,h⟩|⟨aat,h⟩
        ·obtain⟨aar,Mx,h⟩:=aj h;try refine ah ?_
         refine aA (jh Mx) ?_;rcases au h with⟨e115,h⟩|⟨e115,h⟩
         ·rcases au h with⟨e116,h⟩|⟨e116,h⟩
          ·obtain⟨IK,e117,h⟩:=aj h;try refine ah ?_
           refine aA (mg e117) ?_;obtain rfl:=ak h;try refine ah ?_
           exact q0 _ _ rfl aO av
          ·obtain rfl:=ak h;try refine ah ?_
           exact q0 _ _ rfl aO av
         ·obtain rfl:=ak h;try refine ah ?_
          exact q0 _ _ rfl aO av
        ·rcases au h with⟨e119,h⟩|⟨e119,h⟩
         ·obtain⟨apB,e120,h⟩:=aj h;try refine ah ?_
          refine aA (mg e120) ?_;obtain rfl:=ak h;try refine ah ?_
          exact q0 _ _ rfl aO av
         ·obtain rfl:=ak h;try refine ah ?_
          exact q0 _ _ rfl aO av
      ·rcases au h with⟨aau,h⟩|⟨aau,h⟩
       ·obtain⟨apC,aiu,h⟩:=aj h;try refine ah ?_
        refine aA (jh aiu) ?_;rcases au h with⟨e125,h⟩|⟨e125,h⟩
        ·rcases au h with⟨e126,h⟩|⟨e126,h⟩
         ·obtain⟨apD,e127,h⟩:=aj h;try refine ah ?_
          refine aA (mg e127) ?_;obtain rfl:=ak h;try refine ah ?_
          exact q0 _ _ rfl aO av
         ·obtain rfl:=ak h;try refine ah ?_
          exact q0 _ _ rfl aO av
        ·obtain rfl:=ak h;try refine ah ?_
         exact q0 _ _ rfl aO av
       ·rcases au h with⟨e129,h⟩|⟨e129,h⟩
        ·obtain⟨apE,aeN,h⟩:=aj h;try refine ah ?_
         refine aA (mg aeN) ?_;obtain rfl:=ak h;try refine ah ?_
         exact q0 _ _ rfl aO av
        ·obtain rfl:=ak h;try refine ah ?_
         exact q0 _ _ rfl aO av
     ·rcases au h with⟨avD,h⟩|⟨avD,h⟩
      ·obtain⟨apF,aeO,h⟩:=aj h;try refine ah ?_
       refine aA (jh aeO) ?_;rcases au h with⟨avE,h⟩|⟨avE,h⟩
       ·rcases au h with⟨aeP,h⟩|⟨aeP,h⟩
        ·obtain⟨Mt,e137,h⟩:=aj h;try refine ah ?_
         refine aA (mg e137) ?_;obtain rfl:=ak h;try refine ah ?_
         exact q0 _ _ rfl aO av
        ·obtain rfl:=ak h;try refine ah ?_
         exact q0 _ _ rfl aO av
       ·obtain rfl:=ak h;try refine ah ?_
        exact q0 _ _ rfl aO av
      ·rcases au h with⟨aeQ,h⟩|⟨aeQ,h⟩
       ·obtain⟨Mv,Q8,h⟩:=aj h;try refine ah ?_
        refine aA (mg Q8) ?_;obtain rfl:=ak h;try refine ah ?_
        exact q0 _ _ rfl aO av
       ·obtain rfl:=ak h;try refine ah ?_
        exact q0 _ _ rfl aO av
    ·obtain rfl:=ak h;try refine ah ?_
     exact q0 _ _ rfl aO av
def vX (bn:Int) (bM:Int) (bF:Str) (bP:List Str) (bS:List Int) (Sr:Bool):Option Bool:=
  cond Sr (Option.bind (iQ bM 0 10000) fun Ec=>some ((!Ec))) (some (false))
def K5:List Nat:=[147,148,149,150,151]
theorem Ws: ∀(bW:Nat) (bn:Int) (bM:Int) (bF:Str) (bP:List Str) (bS:List Int) (Sr:Bool) (aC σ:Nat->PV) (H:AH) (f0:Fr K5 aC σ) (sl:σ 5=(.ref (bW) 0)/\σ 146=(.bool Sr)/\H.obj bW=some [(.int .i64 bn),(.int .i64 bM),(.str bF),(.aB (bP.map aX) .unk),(.aB (bS.map bI) .unk)]) (cu:bW<H.next) (o:Bool) (h:vX bn bM bF bP bS Sr=some o) (Q:Post) (q0: ∀(p:Bool) (σ':Nat->PV),o=p->Fr K5 aC σ'->(σ' 151=(.bool p))->Q .normal σ' H),dB Tryz.prog Vd (Q .normal) σ H:=by
  intro bW bn bM bF bP bS Sr aC σ H f0 sl cu o h Q q0;obtain⟨s5,azt,uT⟩:=sl;have uU:=ne_next cu;have uV:=aU cu;unfold vX at h;refine dw ?_;unfold Vd;rcases au h with⟨aeR,h⟩|⟨aeR,h⟩
  ·obtain⟨Ec,e152,h⟩:=aj h;try refine ah ?_
   refine aA (jh e152) ?_;obtain rfl:=ak h;try refine ah ?_
   exact q0 _ _ rfl aO av
  ·obtain rfl:=ak h;try refine ah ?_
   exact q0 _ _ rfl aO av
def lW:Nat->Int->Int->Str->(List Str)->(List Int)->Int->Option (Unit⊕Int)
  |0,_,_,_,_,_,_=>none
  |k+1,bn,bM,bF,bP,bS,IQ=>
    cond (decide (IQ<(bP.length:Int))) (if 0<=IQ then Option.bind (bP[IQ.toNat]?) fun apI=>Option.bind (qx k apI) fun aav=>cond aav (lW k bn bM bF bP bS (IntKind.wrap .i64 (IQ+1))) (some (.inr (7)))else none) (some (.inl ()))
def Ed:List Nat:=[4,12]++List.range' 152 14
theorem Wt: ∀(k:Nat) (bW:Nat) (bn:Int) (bM:Int) (bF:Str) (bP:List Str) (bS:List Int) (IQ:Int) (aC σ:Nat->PV) (H:AH) (f0:Fr Ed aC σ) (sl:σ 5=(.ref (bW) 0)/\σ 12=(.int .i64 IQ)/\H.obj bW=some [(.int .i64 bn),(.int .i64 bM),(.str bF),(.aB (bP.map aX) .unk),(.aB (bS.map bI) .unk)]) (cu:bW<H.next) (o:Unit⊕Int) (h:lW k bn bM bF bP bS IQ=some o) (Q:Post) (q0: ∀(p:Unit) (σ':Nat->PV),o= .inl p->Fr Ed aC σ'->Q (.exit 0) σ' H) (q1: ∀(p:Int) (σ':Nat->PV),o= .inr (p)->Fr Ed aC σ'->(σ' 4=(.int .i64 p))->Q .ret σ' H),W Tryz.prog (.loop Ve) Q σ H:=by
  intro k
  induction k with
  |zero=>intro bW bn bM bF bP bS IQ aC σ H f0 sl cu o h Q q0 q1;simp only [lW,reduceCtorEq]at h
  |succ k ih=>
    intro bW bn bM bF bP bS IQ aC σ H f0 sl cu o h Q q0 q1;obtain⟨s5,s12,uT⟩:=sl;have uU:=ne_next cu;have uV:=aU cu;unfold lW at h;refine bA (fun K hK=>aF ?_);unfold Ve;rcases au h with⟨aiv,h⟩|⟨aiv,h⟩
    ·obtain⟨aiw,h⟩:=aD h;obtain⟨apI,e166,h⟩:=aj h;obtain⟨aav,e167,h⟩:=aj h;try refine ah ?_
     refine aA (tJ e167) ?_;rcases au h with⟨e169,h⟩|⟨e169,h⟩
     ·try refine ah ?_
      refine hK _ _ ?_;exact ih bW bn bM bF bP bS (IntKind.wrap .i64 (IQ+1)) _ _ _ aO av bE _ h _ q0 q1
     ·obtain rfl:=ak h;try refine ah ?_
      exact q1 _ _ rfl aO av
    ·obtain rfl:=ak h;try refine ah ?_
     exact q0 _ _ rfl aO
def Ay (k:Nat) (bn:Int) (bM:Int) (bF:Str) (bP:List Str) (bS:List Int) (Sv:Bool):Option Bool:=
  cond Sv (Option.bind (zl k bF) fun apJ=>some ((!apJ))) (some (false))
def K6:List Nat:=[197,198,199,200,201]
theorem Wu (k:Nat): ∀(bW:Nat) (bn:Int) (bM:Int) (bF:Str) (bP:List Str) (bS:List Int) (Sv:Bool) (aC σ:Nat->PV) (H:AH) (f0:Fr K6 aC σ) (sl:σ 5=(.ref (bW) 0)/\σ 196=(.bool Sv)/\H.obj bW=some [(.int .i64 bn),(.int .i64 bM),(.str bF),(.aB (bP.map aX) .unk),(.aB (bS.map bI) .unk)]) (cu:bW<H.next) (o:Bool) (h:Ay k bn bM bF bP bS Sv=some o) (Q:Post) (q0: ∀(p:Bool) (σ':Nat->PV),o=p->Fr K6 aC σ'->(σ' 201=(.bool p))->Q .normal σ' H),dB Tryz.prog Vf (Q .normal) σ H:=by
  intro bW bn bM bF bP bS Sv aC σ H f0 sl cu o h Q q0;obtain⟨s5,azu,uT⟩:=sl;have uU:=ne_next cu;have uV:=aU cu;unfold Ay at h;refine dw ?_;unfold Vf;rcases au h with⟨avF,h⟩|⟨avF,h⟩
  ·obtain⟨apJ,avG,h⟩:=aj h;try refine ah ?_
   refine aA (Kc avG) ?_;obtain rfl:=ak h;try refine ah ?_
   exact q0 _ _ rfl aO av
  ·obtain rfl:=ak h;try refine ah ?_
   exact q0 _ _ rfl aO av
def vY (k:Nat) (bn:Int) (bM:Int) (bF:Str) (bP:List Str) (bS:List Int) (Ob:Str) (Oc:Int) (Od:Int) (Oe:Int) (Og:Bool) (Jq:Int) (Jr:Int) (Hu:Bool):Option (Unit⊕Int):=
  cond (bn==2) (Option.bind (zl k bF) fun apK=>cond apK (some (.inl ())) (Option.bind (zA bF) fun apL=>cond apL (some (.inl ())) (some (.inr (7))))) (cond (bn==18) (Option.bind (qx k bF) fun apM=>cond apM (some (.inl ())) (some (.inr (7)))) (cond (bn==3) (Option.bind (Ay k bn bM bF bP bS (!Hu)) (fun apN=>cond apN (some (.inr (7))) (cond Hu (Option.bind (iQ (bS.length:Int) Jq Jr) fun apO=>cond apO (some (.inl ())) (some (.inr (17)))) (some (.inl ()))))) (some (.inl ()))))
def Ee:List Nat:=[4]++List.range' 172 42
theorem Wv (k:Nat): ∀(bW:Nat) (E9:Nat) (bn:Int) (bM:Int) (bF:Str) (bP:List Str) (bS:List Int) (Ob:Str) (Oc:Int) (Od:Int) (Oe:Int) (Og:Bool) (Jq:Int) (Jr:Int) (Hu:Bool) (aC σ:Nat->PV) (H:AH) (f0:Fr Ee aC σ) (sl:σ 5=(.ref (bW) 0)/\σ 13=(.ref (E9) 0)/\σ 14=(.bool Hu)/\H.obj bW=some [(.int .i64 bn),(.int .i64 bM),(.str bF),(.aB (bP.map aX) .unk),(.aB (bS.map bI) .unk)]/\H.obj E9=some [(.str Ob),(.int .i64 Oc),(.int .i64 Od),(.int .i64 Oe),(.bool Og),(.int .i64 Jq),(.int .i64 Jr)]) (cu:bW<H.next) (MB:E9<H.next) (Az:bW≠E9) (o:Unit⊕Int) (h:vY k bn bM bF bP bS Ob Oc Od Oe Og Jq Jr Hu=some o) (Q:Post) (q0: ∀(p:Unit) (σ':Nat->PV),o= .inl p->Fr Ee aC σ'->Q .normal σ' H) (q1: ∀(p:Int) (σ':Nat->PV),o= .inr (p)->Fr Ee aC σ'->(σ' 4=(.int .i64 p))->Q .ret σ' H),W Tryz.prog Vg Q σ H:=by
  intro bW E9 bn bM bF bP bS Ob Oc Od Oe Og Jq Jr Hu aC σ H f0 sl cu MB Az o h Q q0 q1;obtain⟨s5,s13,s14,uT,atH⟩:=sl;have uU:=ne_next cu;have uV:=aU cu;have atI:=ne_next MB;have atJ:=aU MB;have alg:=eq_false Az;have alh:=eq_false (Ne.symm Az);unfold vY at h;refine aF ?_;unfold Vg;rcases au h with⟨avH,h⟩|⟨avH,h⟩
  ·obtain⟨apK,aix,h⟩:=aj h;try refine ah ?_
   refine aA (Kc aix) ?_;rcases au h with⟨avI,h⟩|⟨avI,h⟩
   ·obtain rfl:=ak h;try refine ah ?_
    exact q0 _ _ rfl aO
   ·obtain⟨apL,apP,h⟩:=aj h;try refine ah ?_
    refine aA (O8 apP) ?_;rcases au h with⟨e185,h⟩|⟨e185,h⟩
    ·obtain rfl:=ak h;try refine ah ?_
     exact q0 _ _ rfl aO
    ·obtain rfl:=ak h;try refine ah ?_
     exact q1 _ _ rfl aO av
  ·rcases au h with⟨aiy,h⟩|⟨aiy,h⟩
   ·obtain⟨apM,e187,h⟩:=aj h;try refine ah ?_
    refine aA (tJ e187) ?_;rcases au h with⟨e189,h⟩|⟨e189,h⟩
    ·obtain rfl:=ak h;try refine ah ?_
     exact q0 _ _ rfl aO
    ·obtain rfl:=ak h;try refine ah ?_
     exact q1 _ _ rfl aO av
   ·rcases au h with⟨e190,h⟩|⟨e190,h⟩
    ·try refine ah ?_
     obtain⟨azv,avJ,h⟩:=aj h;refine Wu k (bW) bn bM bF bP bS (!Hu) _ _ _ (Fr.refl _ _) av bE _ avJ _ ?_
     ·rintro apN σ' eo Km azw;rw [eo]at h;have azx:σ' 5=(.ref (bW) 0):=(Km 5 (by decide)).trans av;have azy:σ' 13=(.ref (E9) 0):=(Km 13 (by decide)).trans av;have azz:σ' 14=(.bool Hu):=(Km 14 (by decide)).trans av;rcases au h with⟨e204,h⟩|⟨e204,h⟩
      ·obtain rfl:=ak h;try refine ah ?_
       exact q1 _ _ rfl (by repeat (first|exact f0|refine Fr.upd (by decide) ?_|refine Fr.via Km (by decide) ?_)) av
      ·rcases au h with⟨avK,h⟩|⟨avK,h⟩
       ·obtain⟨apO,e206,h⟩:=aj h;try refine ah ?_
        refine aA (jh e206) ?_;rcases au h with⟨e208,h⟩|⟨e208,h⟩
        ·obtain rfl:=ak h;try refine ah ?_
         exact q0 _ _ rfl (by repeat (first|exact f0|refine Fr.upd (by decide) ?_|refine Fr.via Km (by decide) ?_))
        ·obtain rfl:=ak h;try refine ah ?_
         exact q1 _ _ rfl (by repeat (first|exact f0|refine Fr.upd (by decide) ?_|refine Fr.via Km (by decide) ?_)) av
       ·obtain rfl:=ak h;try refine ah ?_
        exact q0 _ _ rfl (by repeat (first|exact f0|refine Fr.upd (by decide) ?_|refine Fr.via Km (by decide) ?_))
    ·obtain rfl:=ak h;try refine ah ?_
     exact q0 _ _ rfl aO
def kG:Nat->Int->Int->Str->(List Str)->(List Int)->Int->Option (Unit⊕Int)
  |0,_,_,_,_,_,_=>none
  |k+1,bn,bM,bF,bP,bS,Cg=>
    cond (decide (Cg<(bP.length:Int))) (if 0<=Cg/\Cg.toNat<=bP.length then if 0<=Cg then Option.bind (bP[Cg.toNat]?) fun apQ=>Option.bind (xw k (bP.take Cg.toNat) apQ) fun apR=>cond apR (some (.inr (12))) (kG k bn bM bF bP bS (IntKind.wrap .i64 (Cg+1)))else none else none) (some (.inl ()))
def Ef:List Nat:=[4,15]++List.range' 214 17
theorem Ww: ∀(k:Nat) (bW:Nat) (bn:Int) (bM:Int) (bF:Str) (bP:List Str) (bS:List Int) (Cg:Int) (aC σ:Nat->PV) (H:AH) (f0:Fr Ef aC σ) (sl:σ 5=(.ref (bW) 0)/\σ 15=(.int .i64 Cg)/\H.obj bW=some [(.int .i64 bn),(.int .i64 bM),(.str bF),(.aB (bP.map aX) .unk),(.aB (bS.map bI) .unk)]) (cu:bW<H.next) (o:Unit⊕Int) (h:kG k bn bM bF bP bS Cg=some o) (Q:Post) (q0: ∀(p:Unit) (σ':Nat->PV),o= .inl p->Fr Ef aC σ'->Q (.exit 3) σ' H) (q1: ∀(p:Int) (σ':Nat->PV),o= .inr (p)->Fr Ef aC σ'->(σ' 4=(.int .i64 p))->Q .ret σ' H),W Tryz.prog (.loop Vh) Q σ H:=by
  intro k
  induction k with
  |zero=>intro bW bn bM bF bP bS Cg aC σ H f0 sl cu o h Q q0 q1;simp only [kG,reduceCtorEq]at h
  |succ k ih=>
    intro bW bn bM bF bP bS Cg aC σ H f0 sl cu o h Q q0 q1;obtain⟨s5,s15,uT⟩:=sl;have uU:=ne_next cu;have uV:=aU cu;unfold kG at h;refine bA (fun K hK=>aF ?_);unfold Vh;rcases au h with⟨e216,h⟩|⟨e216,h⟩
    ·try refine ah ?_
     refine bO ?_;obtain⟨e217,h⟩:=aD h;obtain⟨azA,h⟩:=aD h;obtain⟨apQ,e220,h⟩:=aj h;obtain⟨apR,e221,h⟩:=aj h;try refine ah ?_
     refine aA (Mi e221) ?_;rcases au h with⟨e223,h⟩|⟨e223,h⟩
     ·obtain rfl:=ak h;try refine ah ?_
      exact q1 _ _ rfl aO av
     ·try refine ah ?_
      refine hK _ _ ?_;exact ih bW bn bM bF bP bS (IntKind.wrap .i64 (Cg+1)) _ _ _ aO av bE _ h _ q0 q1
    ·obtain rfl:=ak h;try refine ah ?_
     exact q0 _ _ rfl aO
def Dp (k:Nat) (aH:List Nd) (dO:Int):Option Int:=
  if 0<=dO then Option.bind (aH[dO.toNat]?) fun x2=>Option.bind (iQ x2.kind 0 28) fun p5=>cond p5 (Option.bind (sD x2.kind) fun p8=>Option.bind (vT k x2.kind x2.n x2.text x2.names x2.args p8.1.1 p8.1.2.1 p8.1.2.2.1 p8.1.2.2.2) (fun lq=>Option.bind (Sd p8.2) fun p41=>Option.bind (iQ (x2.names.length:Int) lq.1 lq.2.1) fun p43=>Option.bind (vU lq.1 lq.2.1 lq.2.2.1 lq.2.2.2 (IntKind.wrap .i64 ((x2.args.length:Int) -(IntKind.wrap .i64 ((x2.names.length:Int)*p41)))) (!p43)) (fun p49=>cond p49 (some 6) (Option.bind (vV x2.kind x2.n x2.text x2.names x2.args (x2.kind==1)) (fun p63=>Option.bind (Cc k aH dO) fun p72=>Option.bind (vW k x2.kind x2.n x2.text x2.names x2.args p63 (!p72)) (fun Wx=>cond Wx (some 5) (Option.bind (vX x2.kind x2.n x2.text x2.names x2.args (x2.kind==0)) (fun Q9=>cond Q9 (some 3) (Option.bind (lW k x2.kind x2.n x2.text x2.names x2.args 0) (fun o=>Sum.elim (fun Kn=>Option.bind (nM k x2.text) fun vZ=>Option.bind (vY k x2.kind x2.n x2.text x2.names x2.args vZ.1.text vZ.1.fix vZ.1.low vZ.1.high vZ.1.left vZ.1.least vZ.1.most vZ.2) (fun o=>Sum.elim (fun avL=>Option.bind (kG k x2.kind x2.n x2.text x2.names x2.args 1) (fun o=>Sum.elim (fun avM=>some 0) (fun apS=>some apS) o)) (fun apT=>some apT) o)) (fun apU=>some apU) o)))))))))) (some 4)else none
theorem acG {k:Nat} {aH:List Nd} {dO:Int} {c0:Ck} {r:Int} (h:Dp k aH dO=some r):aG Tryz.prog 54 [(.aB (aH.map Nd.cells) c0),(.int .i64 dO)] (.int .i64 r):=by
  refine aG.lw (.aB (.same .nil)) (aG.aR (bB.mem (.cons (bC Nd.pu _) (.cons (.int _ _) .nil))) (aI au8 (by simp) (aF ?_)) (.int _ _));unfold Dp at h;unfold aoQ;obtain⟨e1,h⟩:=aD h;obtain⟨x2,e3,h⟩:=aj h;obtain⟨p5,e4,h⟩:=aj h;try refine ah ?_
  refine aA (jh e4) ?_;rcases au h with⟨e6,h⟩|⟨e6,h⟩
  ·obtain⟨p8,e7,h⟩:=aj h;try refine ah ?_
   refine aA (ags e7) ?_;try refine ah ?_
   obtain⟨o22,h23,h⟩:=aj h;refine Wm k (AH.empty.next) (AH.empty.next+1) x2.kind x2.n x2.text x2.names x2.args p8.1.1 p8.1.2.1 p8.1.2.2.1 p8.1.2.2.2 _ _ _ _ (Fr.refl _ _) (HF.refl _ _) av bE bE bE _ h23 _ ?_
   ·rintro lq σ' X7 eo Ra ME g28;rw [eo]at h;have s29:σ' 0=(.aB (aH.map Nd.cells) .unk):=(Ra 0 (by decide)).trans av;have s30:σ' 1=(.int .i64 dO):=(Ra 1 (by decide)).trans av;have s31:σ' 5=(.ref (AH.empty.next) 0):=(Ra 5 (by decide)).trans av;have s32:σ' 6=(.ref (AH.empty.next+1) 0):=(Ra 6 (by decide)).trans av;have s33:σ' 7=(.bool p8.2):=(Ra 7 (by decide)).trans av;have le:=ME.1;try simp only [AH.aJ,AH.aK,AH.aL,AH.aM]at le
    have g34:X7.obj (AH.empty.next)=some [(.int .i64 x2.kind),(.int .i64 x2.n),(.str x2.text),(.aB (x2.names.map aX) .unk),(.aB (x2.args.map bI) .unk)]:=(ME.2 _ bE (by first|exact List.not_mem_nil|(simp only [List.mem_cons,List.not_mem_nil,or_false,not_or];omega))).trans av;have n35:=ne_next (show AH.empty.next<X7.next by first|omega|(simp only [AH.aJ,AH.aK,AH.aL,AH.aM];omega));have m36:=aU (show AH.empty.next<X7.next by first|omega|(simp only [AH.aJ,AH.aK,AH.aL,AH.aM];omega));have n38:=ne_next (show AH.empty.next+1<X7.next by first|omega|(simp only [AH.aJ,AH.aK,AH.aL,AH.aM];omega));have m39:=aU (show AH.empty.next+1<X7.next by first|omega|(simp only [AH.aJ,AH.aK,AH.aL,AH.aM];omega));try refine ah ?_
    refine bO ?_;obtain⟨p41,e40,h⟩:=aj h;try refine ah ?_
    refine PC.mk (adx e40) ?_;obtain⟨p43,e42,h⟩:=aj h;try refine ah ?_
    refine aA (jh e42) ?_;try refine ah ?_
    obtain⟨o47,h48,h⟩:=aj h;refine Wn (AH.empty.next+1) lq.1 lq.2.1 lq.2.2.1 lq.2.2.2 (IntKind.wrap .i64 ((x2.args.length:Int) -(IntKind.wrap .i64 ((x2.names.length:Int)*p41)))) (!p43) _ _ _ (Fr.refl _ _) av bE _ h48 _ ?_
    ·rintro p49 σ' eo MF s53;rw [eo]at h;have s54:σ' 0=(.aB (aH.map Nd.cells) .unk):=(MF 0 (by decide)).trans av;have s55:σ' 1=(.int .i64 dO):=(MF 1 (by decide)).trans av;have s56:σ' 5=(.ref (AH.empty.next) 0):=(MF 5 (by decide)).trans av;rcases au h with⟨e57,h⟩|⟨e57,h⟩
     ·obtain rfl:=ak h;try refine ah ?_
      exact(.pure _ (.int _ _))
     ·try refine ah ?_
      obtain⟨o61,h62,h⟩:=aj h;refine Wo (AH.empty.next) x2.kind x2.n x2.text x2.names x2.args (x2.kind==1) _ _ _ (Fr.refl _ _) av bE _ h62 _ ?_
      ·rintro p63 σ' eo IU s67;rw [eo]at h;have s68:σ' 0=(.aB (aH.map Nd.cells) .unk):=(IU 0 (by decide)).trans av;have s69:σ' 1=(.int .i64 dO):=(IU 1 (by decide)).trans av;have s70:σ' 5=(.ref (AH.empty.next) 0):=(IU 5 (by decide)).trans av;obtain⟨p72,Pk,h⟩:=aj h;try refine ah ?_
       refine aA (aeM Pk) ?_;try refine ah ?_
       obtain⟨azB,avN,h⟩:=aj h;refine Wq k (AH.empty.next) x2.kind x2.n x2.text x2.names x2.args p63 (!p72) _ _ _ (Fr.refl _ _) av bE _ avN _ ?_
       ·rintro Wx σ' eo as0 azC;rw [eo]at h;have azD:σ' 5=(.ref (AH.empty.next) 0):=(as0 5 (by decide)).trans av;rcases au h with⟨aiz,h⟩|⟨aiz,h⟩
        ·obtain rfl:=ak h;try refine ah ?_
         exact(.pure _ (.int _ _))
        ·try refine ah ?_
         obtain⟨azE,avO,h⟩:=aj h;refine Ws (AH.empty.next) x2.kind x2.n x2.text x2.names x2.args (x2.kind==0) _ _ _ (Fr.refl _ _) av bE _ avO _ ?_
         ·rintro Q9 σ' eo as1 azF;rw [eo]at h;have azG:σ' 5=(.ref (AH.empty.next) 0):=(as1 5 (by decide)).trans av;rcases au h with⟨aaw,h⟩|⟨aaw,h⟩
          ·obtain rfl:=ak h;try refine ah ?_
           exact(.pure _ (.int _ _))
          ·try refine ah ?_
           obtain⟨azH,avP,h⟩:=aj h;refine Wt k (AH.empty.next) x2.kind x2.n x2.text x2.names x2.args 0 _ _ _ (Fr.refl _ _) av bE _ avP _ ?_ ?_
           ·rintro Kn σ' eo as2;subst eo;rw [dD]at h;have azI:σ' 5=(.ref (AH.empty.next) 0):=(as2 5 (by decide)).trans av;obtain⟨vZ,apZ,h⟩:=aj h;try refine ah ?_
            refine aA (xA apZ) ?_;try refine ah ?_
            obtain⟨azJ,avQ,h⟩:=aj h;refine Wv k (AH.empty.next) (X7.next) x2.kind x2.n x2.text x2.names x2.args vZ.1.text vZ.1.fix vZ.1.low vZ.1.high vZ.1.left vZ.1.least vZ.1.most vZ.2 _ _ _ (Fr.refl _ _) av bE bE bE _ avQ _ ?_ ?_
            ·rintro avL σ' eo as3;subst eo;rw [dD]at h;have azK:σ' 5=(.ref (AH.empty.next) 0):=(as3 5 (by decide)).trans av;try refine ah ?_
             obtain⟨azL,avR,h⟩:=aj h;refine Ww k (AH.empty.next) x2.kind x2.n x2.text x2.names x2.args 1 _ _ _ (Fr.refl _ _) av bE _ avR _ ?_ ?_
             ·rintro avM σ' eo ayU;subst eo;rw [dD]at h;obtain rfl:=ak h;try refine ah ?_
              exact(.pure _ (.int _ _))
             ·rintro apS σ' eo ayV azM;subst eo;rw [dK]at h;obtain rfl:=ak h;try refine ah ?_
              exact(.pure _ (.int _ _))
            ·rintro apT σ' eo ayW azN;subst eo;rw [dK]at h;obtain rfl:=ak h;try refine ah ?_
             exact(.pure _ (.int _ _))
           ·rintro apU σ' eo ayX azO;subst eo;rw [dK]at h;obtain rfl:=ak h;try refine ah ?_
            exact(.pure _ (.int _ _))
  ·obtain rfl:=ak h;try refine ah ?_
   exact(.pure _ (.int _ _))
def pO:Nat->(List Nd)->Int->Int->Int->Option (Unit⊕(Int×Int))
  |0,_,_,_,_=>none
  |k+1,aH,dO,oK,MG=>
    if 0<=oK then Option.bind (aH[oK.toNat]?) fun x3=>cond (decide (MG<(x3.args.length:Int))) (if 0<=MG then Option.bind (x3.args[MG.toNat]?) fun x7=>cond (x7==dO) (some (.inr ((oK,MG)))) (pO k aH dO oK (IntKind.wrap .i64 (MG+1)))else none) (some (.inl ()))else none
def FR:List Nat:=[4,5,7]++List.range' 16 22
theorem YN: ∀(k:Nat) (aH:List Nd) (dO:Int) (oK:Int) (MG:Int) (aC σ:Nat->PV) (H:AH) (f0:Fr FR aC σ) (sl:σ 0=(.aB (aH.map Nd.cells) .unk)/\σ 1=(.int .i64 dO)/\σ 6=(.int .i64 oK)/\σ 7=(.int .i64 MG)) (o:Unit⊕(Int×Int)) (h:pO k aH dO oK MG=some o) (Q:Post) (q0: ∀(p:Unit) (σ':Nat->PV),o= .inl p->Fr FR aC σ'->Q (.exit 2) σ' H) (q1: ∀(p:Int×Int) (σ':Nat->PV),o= .inr (p)->Fr FR aC σ'->(σ' 4=(.int .i64 p.1)/\σ' 5=(.int .i64 p.2))->Q .ret σ' H),W Tryz.prog (.loop Vi) Q σ H:=by
  intro k
  induction k with
  |zero=>intro aH dO oK MG aC σ H f0 sl o h Q q0 q1;simp only [pO,reduceCtorEq]at h
  |succ k ih=>
    intro aH dO oK MG aC σ H f0 sl o h Q q0 q1;obtain⟨s0,s1,s6,s7⟩:=sl;unfold pO at h;refine bA (fun K hK=>aF ?_);unfold Vi;obtain⟨e2,h⟩:=aD h;obtain⟨x3,e4,h⟩:=aj h;rcases au h with⟨e5,h⟩|⟨e5,h⟩
    ·obtain⟨e6,h⟩:=aD h;obtain⟨x7,e8,h⟩:=aj h;rcases au h with⟨e9,h⟩|⟨e9,h⟩
     ·obtain rfl:=ak h;try refine ah ?_
      exact q1 _ _ rfl aO av
     ·try refine ah ?_
      refine hK _ _ ?_;exact ih aH dO oK (IntKind.wrap .i64 (MG+1)) _ _ _ aO av _ h _ q0 q1
    ·obtain rfl:=ak h;try refine ah ?_
     exact q0 _ _ rfl aO
def pQ:Nat->(List Nd)->Int->Int->Option (Unit⊕(Int×Int))
  |0,_,_,_=>none
  |k+1,aH,dO,oK=>
    cond (decide (oK<(aH.length:Int))) (Option.bind (pO k aH dO oK 0) (fun o=>Sum.elim (fun jW=>pQ k aH dO (IntKind.wrap .i64 (oK+1))) (fun kF=>some (.inr ((kF.1,kF.2)))) o)) (some (.inl ()))
def FT:List Nat:=[4,5,6,7]++List.range' 10 28
theorem YO: ∀(k:Nat) (aH:List Nd) (dO:Int) (oK:Int) (aC σ:Nat->PV) (H:AH) (f0:Fr FT aC σ) (sl:σ 0=(.aB (aH.map Nd.cells) .unk)/\σ 1=(.int .i64 dO)/\σ 6=(.int .i64 oK)) (o:Unit⊕(Int×Int)) (h:pQ k aH dO oK=some o) (Q:Post) (q0: ∀(p:Unit) (σ':Nat->PV),o= .inl p->Fr FT aC σ'->Q (.exit 0) σ' H) (q1: ∀(p:Int×Int) (σ':Nat->PV),o= .inr (p)->Fr FT aC σ'->(σ' 4=(.int .i64 p.1)/\σ' 5=(.int .i64 p.2))->Q .ret σ' H),W Tryz.prog (.loop Vj) Q σ H:=by
  intro k
  induction k with
  |zero=>intro aH dO oK aC σ H f0 sl o h Q q0 q1;simp only [pQ,reduceCtorEq]at h
  |succ k ih=>
    intro aH dO oK aC σ H f0 sl o h Q q0 q1;obtain⟨s0,s1,s6⟩:=sl;unfold pQ at h;refine bA (fun K hK=>aF ?_);unfold Vj;rcases au h with⟨e1,h⟩|⟨e1,h⟩
    ·try refine ah ?_
     obtain⟨o10,h11,h⟩:=aj h;refine YN k aH dO oK 0 _ _ _ (Fr.refl _ _) av _ h11 _ ?_ ?_
     ·rintro jW σ' eo D6;subst eo;rw [dD]at h;have s16:σ' 0=(.aB (aH.map Nd.cells) .unk):=(D6 0 (by decide)).trans av;have s17:σ' 1=(.int .i64 dO):=(D6 1 (by decide)).trans av;have pK:σ' 6=(.int .i64 oK):=(D6 6 (by decide)).trans av;try refine ah ?_
      refine hK _ _ ?_;exact ih aH dO (IntKind.wrap .i64 (oK+1)) _ _ _ (by repeat (first|exact f0|refine Fr.upd (by decide) ?_|refine Fr.via D6 (by decide) ?_)) av _ h _ q0 q1
     ·rintro kF σ' eo V8 ⟨Z8,s24⟩;subst eo;rw [dK]at h;obtain rfl:=ak h;try refine ah ?_
      exact q1 _ _ rfl (by repeat (first|exact f0|refine Fr.upd (by decide) ?_|refine Fr.via V8 (by decide) ?_)) av
    ·obtain rfl:=ak h;try refine ah ?_
     exact q0 _ _ rfl aO
def Ch (k:Nat) (aH:List Nd) (dO:Int):Option (Int×Int):=
  Option.bind (pQ k aH dO (IntKind.wrap .i64 (dO+1))) (fun o=>Sum.elim (fun p27=>some ((-1),0)) (fun p31=>some (p31.1,p31.2)) o)
theorem Sw {k:Nat} {aH:List Nd} {dO:Int} {c0:Ck} {r:Int×Int} (h:Ch k aH dO=some r):aG Tryz.prog 55 [(.aB (aH.map Nd.cells) c0),(.int .i64 dO)] (.dN [(.int .i64 r.1),(.int .i64 r.2)]):=by
  refine aG.lw (.aB (.same .nil)) (aG.aR (bB.mem (.cons (bC Nd.pu _) (.cons (.int _ _) .nil))) (aI ail (by simp) (aF ?_)) (.dN _ (bB.mem (.cons (.int _ _) (.cons (.int _ _) .nil)))));unfold Ch at h;unfold aoR;try refine ah ?_
  obtain⟨o25,h26,h⟩:=aj h;refine YO k aH dO (IntKind.wrap .i64 (dO+1)) _ _ _ (Fr.refl _ _) av _ h26 _ ?_ ?_
  ·rintro p27 σ' eo azP;subst eo;rw [dD]at h;obtain rfl:=ak h;try refine ah ?_
   exact(dG (.cons (.pure _ (.int _ _)) (.cons (.pure _ (.int _ _)) .nil)))
  ·rintro p31 σ' eo Q5 ⟨s35,s36⟩;subst eo;rw [dK]at h;obtain rfl:=ak h;try refine ah ?_
   exact(dG (.cons (.pure _ (.int _ _)) (.cons (.pure _ (.int _ _)) .nil)))
def oU:Nat->(List Nd)->Int->Option (Unit⊕(Int×Int))
  |0,_,_=>none
  |k+1,aH,cK=>
    cond (decide (cK<(aH.length:Int))) (Option.bind (Dp k aH cK) fun p5=>cond (p5 !=0) (some (.inr ((cK,p5)))) (oU k aH (IntKind.wrap .i64 (cK+1)))) (some (.inl ()))
def IV:List Nat:=[2,3,4,5]++List.range' 17 13
theorem aax: ∀(k:Nat) (aH:List Nd) (cK:Int) (aC σ:Nat->PV) (H:AH) (f0:Fr IV aC σ) (sl:σ 0=(.aB (aH.map Nd.cells) .unk)/\σ 4=(.int .i64 cK)) (o:Unit⊕(Int×Int)) (h:oU k aH cK=some o) (Q:Post) (q0: ∀(p:Unit) (σ':Nat->PV),o= .inl p->Fr IV aC σ'->Q (.exit 0) σ' H) (q1: ∀(p:Int×Int) (σ':Nat->PV),o= .inr (p)->Fr IV aC σ'->(σ' 2=(.int .i64 p.1)/\σ' 3=(.int .i64 p.2))->Q .ret σ' H),W Tryz.prog (.loop UL) Q σ H:=by
  intro k
  induction k with
  |zero=>intro aH cK aC σ H f0 sl o h Q q0 q1;simp only [oU,reduceCtorEq]at h
  |succ k ih=>
    intro aH cK aC σ H f0 sl o h Q q0 q1;obtain⟨s0,s4⟩:=sl;unfold oU at h;refine bA (fun K hK=>aF ?_);unfold UL;rcases au h with⟨e3,h⟩|⟨e3,h⟩
    ·obtain⟨p5,e4,h⟩:=aj h;try refine ah ?_
     refine aA (acG e4) ?_;rcases au h with⟨e6,h⟩|⟨e6,h⟩
     ·obtain rfl:=ak h;try refine ah ?_
      exact q1 _ _ rfl aO av
     ·try refine ah ?_
      refine hK _ _ ?_;exact ih aH (IntKind.wrap .i64 (cK+1)) _ _ _ aO av _ h _ q0 q1
    ·obtain rfl:=ak h;try refine ah ?_
     exact q0 _ _ rfl aO
def AA (k:Nat) (aH:List Nd) (oW:Int) (aay:Bool):Option Bool:=
  cond aay (if 0<=oW then Option.bind (aH[oW.toNat]?) fun x19=>cond (x19.kind==3) (Option.bind (zl k x19.text) fun jL=>some (jL)) (some (false))else none) (some (false))
def Pm:List Nat:=List.range' 45 15
theorem aaA (k:Nat): ∀(aH:List Nd) (oW:Int) (aay:Bool) (aC σ:Nat->PV) (H:AH) (f0:Fr Pm aC σ) (sl:σ 0=(.aB (aH.map Nd.cells) .unk)/\σ 7=(.int .i64 oW)/\σ 44=(.bool aay)) (o:Bool) (h:AA k aH oW aay=some o) (Q:Post) (q0: ∀(p:Bool) (σ':Nat->PV),o=p->Fr Pm aC σ'->(σ' 59=(.bool p))->Q .normal σ' H),dB Tryz.prog UM (Q .normal) σ H:=by
  intro aH oW aay aC σ H f0 sl o h Q q0;obtain⟨s0,s7,s44⟩:=sl;unfold AA at h;refine dw ?_;unfold UM;rcases au h with⟨e17,h⟩|⟨e17,h⟩
  ·obtain⟨e18,h⟩:=aD h;obtain⟨x19,e20,h⟩:=aj h;rcases au h with⟨e21,h⟩|⟨e21,h⟩
   ·obtain⟨jL,e22,h⟩:=aj h;try refine ah ?_
    refine aA (Kc e22) ?_;obtain rfl:=ak h;try refine ah ?_
    exact q0 _ _ rfl aO av
   ·obtain rfl:=ak h;try refine ah ?_
    exact q0 _ _ rfl aO av
  ·obtain rfl:=ak h;try refine ah ?_
   exact q0 _ _ rfl aO av
def EB (FU:Bool) (FQ:Bool):Option Bool:=
  cond FQ (some ((!FU))) (some (false))
theorem aaB: ∀(FU:Bool) (FQ:Bool) (aC σ:Nat->PV) (H:AH) (f0:Fr [67,68,69] aC σ) (sl:σ 9=(.bool FU)/\σ 66=(.bool FQ)) (o:Bool) (h:EB FU FQ=some o) (Q:Post) (q0: ∀(p:Bool) (σ':Nat->PV),o=p->Fr [67,68,69] aC σ'->(σ' 69=(.bool p))->Q .normal σ' H),dB Tryz.prog UN (Q .normal) σ H:=by
  intro FU FQ aC σ H f0 sl o h Q q0;obtain⟨s9,s66⟩:=sl;unfold EB at h;refine dw ?_;unfold UN;rcases au h with⟨e38,h⟩|⟨e38,h⟩
  ·obtain rfl:=ak h;try refine ah ?_
   exact q0 _ _ rfl aO av
  ·obtain rfl:=ak h;try refine ah ?_
   exact q0 _ _ rfl aO av
def EC (aH:List Nd) (oW:Int) (qg:Int) (aaC:Bool):Option Bool:=
  cond aaC (some (true)) (if 0<=oW then Option.bind (aH[oW.toNat]?) fun x54=>cond (x54.kind==19) (some ((qg==2))) (some (false))else none)
def Pn:List Nat:=List.range' 75 11
theorem aaD: ∀(aH:List Nd) (oW:Int) (qg:Int) (aaC:Bool) (aC σ:Nat->PV) (H:AH) (f0:Fr Pn aC σ) (sl:σ 0=(.aB (aH.map Nd.cells) .unk)/\σ 7=(.int .i64 oW)/\σ 8=(.int .i64 qg)/\σ 74=(.bool aaC)) (o:Bool) (h:EC aH oW qg aaC=some o) (Q:Post) (q0: ∀(p:Bool) (σ':Nat->PV),o=p->Fr Pn aC σ'->(σ' 85=(.bool p))->Q .normal σ' H),dB Tryz.prog UO (Q .normal) σ H:=by
  intro aH oW qg aaC aC σ H f0 sl o h Q q0;obtain⟨s0,s7,s8,s74⟩:=sl;unfold EC at h;refine dw ?_;unfold UO;rcases au h with⟨e52,h⟩|⟨e52,h⟩
  ·obtain rfl:=ak h;try refine ah ?_
   exact q0 _ _ rfl aO av
  ·obtain⟨e53,h⟩:=aD h;obtain⟨x54,e55,h⟩:=aj h;rcases au h with⟨e56,h⟩|⟨e56,h⟩
   ·obtain rfl:=ak h;try refine ah ?_
    exact q0 _ _ rfl aO av
   ·obtain rfl:=ak h;try refine ah ?_
    exact q0 _ _ rfl aO av
def qV:Nat->(List Nd)->Int->Int->Bool->Option Bool
  |0,_,_,_,_=>none
  |k+1,aH,oW,qg,Dq=>
    cond (decide (oW>=0)) (Option.bind (EC aH oW qg Dq) (fun p59=>Option.bind (Ch k aH oW) fun p67=>qV k aH p67.1 p67.2 p59)) (some (Dq))
def Po:List Nat:=[7,8,10]++List.range' 71 21
theorem aaE: ∀(k:Nat) (aH:List Nd) (oW:Int) (qg:Int) (Dq:Bool) (aC σ:Nat->PV) (H:AH) (f0:Fr Po aC σ) (sl:σ 0=(.aB (aH.map Nd.cells) .unk)/\σ 7=(.int .i64 oW)/\σ 8=(.int .i64 qg)/\σ 10=(.bool Dq)) (o:Bool) (h:qV k aH oW qg Dq=some o) (Q:Post) (q0: ∀(p:Bool) (σ':Nat->PV),o=p->Fr Po aC σ'->(σ' 10=(.bool p))->Q (.exit 4) σ' H),W Tryz.prog (.loop UQ) Q σ H:=by
  intro k
  induction k with
  |zero=>intro aH oW qg Dq aC σ H f0 sl o h Q q0;simp only [qV,reduceCtorEq]at h
  |succ k ih=>
    intro aH oW qg Dq aC σ H f0 sl o h Q q0;obtain⟨s0,s7,s8,s10⟩:=sl;unfold qV at h;refine bA (fun K hK=>aF ?_);unfold UQ;rcases au h with⟨e51,h⟩|⟨e51,h⟩
    ·try refine ah ?_
     obtain⟨o57,h58,h⟩:=aj h;refine aaD aH oW qg Dq _ _ _ (Fr.refl _ _) av _ h58 _ ?_
     ·rintro p59 σ' eo aiA s63;rw [eo]at h;have s64:σ' 0=(.aB (aH.map Nd.cells) .unk):=(aiA 0 (by decide)).trans av;have s65:σ' 7=(.int .i64 oW):=(aiA 7 (by decide)).trans av;obtain⟨p67,e66,h⟩:=aj h;try refine ah ?_
      refine aA (Sw e66) ?_;try refine ah ?_
      refine hK _ _ ?_;exact ih aH p67.1 p67.2 p59 _ _ _ (by repeat (first|exact f0|refine Fr.upd (by decide) ?_|refine Fr.via aiA (by decide) ?_)) av _ h _ q0
    ·obtain rfl:=ak h;try refine ah ?_
     exact q0 _ _ rfl aO av
def mX:Nat->(List Nd)->Int->Option (Unit⊕(Int×Int))
  |0,_,_=>none
  |k+1,aH,gV=>
    cond (decide (gV<(aH.length:Int))) (Option.bind (Ch k aH gV) fun p16=>Option.bind (AA k aH p16.1 (decide (p16.1>=0))) (fun p26=>if 0<=gV then Option.bind (aH[gV.toNat]?) fun x36=>Option.bind (EB p26 (x36.kind==24)) (fun p41=>cond p41 (some (.inr ((gV,30)))) (Option.bind (qV k aH p16.1 p16.2 false) (fun p70=>cond (x36.kind==20) (cond p70 (mX k aH (IntKind.wrap .i64 (gV+1))) (some (.inr ((gV,30))))) (mX k aH (IntKind.wrap .i64 (gV+1))))))else none)) (some (.inl ()))
def IW:List Nat:=[2,3,6,7,8,9,10]++List.range' 30 73
theorem aaG: ∀(k:Nat) (aH:List Nd) (gV:Int) (aC σ:Nat->PV) (H:AH) (f0:Fr IW aC σ) (sl:σ 0=(.aB (aH.map Nd.cells) .unk)/\σ 6=(.int .i64 gV)) (o:Unit⊕(Int×Int)) (h:mX k aH gV=some o) (Q:Post) (q0: ∀(p:Unit) (σ':Nat->PV),o= .inl p->Fr IW aC σ'->Q (.exit 2) σ' H) (q1: ∀(p:Int×Int) (σ':Nat->PV),o= .inr (p)->Fr IW aC σ'->(σ' 2=(.int .i64 p.1)/\σ' 3=(.int .i64 p.2))->Q .ret σ' H),W Tryz.prog (.loop UR) Q σ H:=by
  intro k
  induction k with
  |zero=>intro aH gV aC σ H f0 sl o h Q q0 q1;simp only [mX,reduceCtorEq]at h
  |succ k ih=>
    intro aH gV aC σ H f0 sl o h Q q0 q1;obtain⟨s0,s6⟩:=sl;unfold mX at h;refine bA (fun K hK=>aF ?_);unfold UR;rcases au h with⟨e14,h⟩|⟨e14,h⟩
    ·obtain⟨p16,e15,h⟩:=aj h;try refine ah ?_
     refine aA (Sw e15) ?_;try refine ah ?_
     obtain⟨o24,h25,h⟩:=aj h;refine aaA k aH p16.1 (decide (p16.1>=0)) _ _ _ (Fr.refl _ _) av _ h25 _ ?_
     ·rintro p26 σ' eo Ko s30;rw [eo]at h;have s31:σ' 0=(.aB (aH.map Nd.cells) .unk):=(Ko 0 (by decide)).trans av;have s32:σ' 6=(.int .i64 gV):=(Ko 6 (by decide)).trans av;have s33:σ' 7=(.int .i64 p16.1):=(Ko 7 (by decide)).trans av;have s34:σ' 8=(.int .i64 p16.2):=(Ko 8 (by decide)).trans av;obtain⟨e35,h⟩:=aD h;obtain⟨x36,e37,h⟩:=aj h;try refine ah ?_
      obtain⟨o39,Js,h⟩:=aj h;refine aaB p26 (x36.kind==24) _ _ _ (Fr.refl _ _) av _ Js _ ?_
      ·rintro p41 σ' eo Eh s45;rw [eo]at h;have s46:σ' 0=(.aB (aH.map Nd.cells) .unk):=(Eh 0 (by decide)).trans av;have s47:σ' 6=(.int .i64 gV):=(Eh 6 (by decide)).trans av;have s48:σ' 7=(.int .i64 p16.1):=(Eh 7 (by decide)).trans av;have s49:σ' 8=(.int .i64 p16.2):=(Eh 8 (by decide)).trans av;rcases au h with⟨e50,h⟩|⟨e50,h⟩
       ·obtain rfl:=ak h;try refine ah ?_
        exact q1 _ _ rfl (by repeat (first|exact f0|refine Fr.upd (by decide) ?_|refine Fr.via Ko (by decide) ?_|refine Fr.via Eh (by decide) ?_)) av
       ·try refine ah ?_
        obtain⟨o68,h69,h⟩:=aj h;refine aaE k aH p16.1 p16.2 false _ _ _ (Fr.refl _ _) av _ h69 _ ?_
        ·rintro p70 σ' eo aaH s74;rw [eo]at h;have s75:σ' 0=(.aB (aH.map Nd.cells) .unk):=(aaH 0 (by decide)).trans av;have s76:σ' 6=(.int .i64 gV):=(aaH 6 (by decide)).trans av;rcases au h with⟨Ht,h⟩|⟨Ht,h⟩
         ·rcases au h with⟨Mw,h⟩|⟨Mw,h⟩
          ·try refine ah ?_
           refine hK _ _ ?_;exact ih aH (IntKind.wrap .i64 (gV+1)) _ _ _ (by repeat (first|exact f0|refine Fr.upd (by decide) ?_|refine Fr.via Ko (by decide) ?_|refine Fr.via Eh (by decide) ?_|refine Fr.via aaH (by decide) ?_)) av _ h _ q0 q1
          ·obtain rfl:=ak h;try refine ah ?_
           exact q1 _ _ rfl (by repeat (first|exact f0|refine Fr.upd (by decide) ?_|refine Fr.via Ko (by decide) ?_|refine Fr.via Eh (by decide) ?_|refine Fr.via aaH (by decide) ?_)) av
         ·try refine ah ?_
          refine hK _ _ ?_;exact ih aH (IntKind.wrap .i64 (gV+1)) _ _ _ (by repeat (first|exact f0|refine Fr.upd (by decide) ?_|refine Fr.via Ko (by decide) ?_|refine Fr.via Eh (by decide) ?_|refine Fr.via aaH (by decide) ?_)) av _ h _ q0 q1
    ·obtain rfl:=ak h;try refine ah ?_
     exact q0 _ _ rfl aO
def zC (k:Nat) (aH:List Nd):Option (Int×Int):=
  cond ((aH.length:Int)==0) (some (0,1)) (cond (decide ((aH.length:Int)>160)) (some (0,2)) (Option.bind (oU k aH 0) (fun o=>Sum.elim (fun p9=>Option.bind (mX k aH 0) (fun o=>Sum.elim (fun xZ=>Option.bind (uS k aH (IntKind.wrap .i64 ((aH.length:Int) -1))) fun Aw=>cond (Aw !=0) (some ((IntKind.wrap .i64 ((aH.length:Int) -1)),15)) (some (0,0))) (fun Sy=>some (Sy.1,Sy.2)) o)) (fun Sz=>some (Sz.1,Sz.2)) o)))
theorem agC {k:Nat} {aH:List Nd} {c0:Ck} {r:Int×Int} (h:zC k aH=some r):aG Tryz.prog 16 [(.aB (aH.map Nd.cells) c0)] (.dN [(.int .i64 r.1),(.int .i64 r.2)]):=by
  refine aG.lw (.aB .nil) (aG.aR (bB.mem (.cons (bC Nd.pu _) .nil)) (aI ok16 (by simp) (aF ?_)) (.dN _ (bB.mem (.cons (.int _ _) (.cons (.int _ _) .nil)))));unfold zC at h;unfold aoh;rcases au h with⟨e1,h⟩|⟨e1,h⟩
  ·obtain rfl:=ak h;try refine ah ?_
   exact(dG (.cons (.pure _ (.int _ _)) (.cons (.pure _ (.int _ _)) .nil)))
  ·rcases au h with⟨e2,h⟩|⟨e2,h⟩
   ·obtain rfl:=ak h;try refine ah ?_
    exact(dG (.cons (.pure _ (.int _ _)) (.cons (.pure _ (.int _ _)) .nil)))
   ·try refine ah ?_
    obtain⟨o7,h8,h⟩:=aj h;refine aax k aH 0 _ _ _ (Fr.refl _ _) av _ h8 _ ?_ ?_
    ·rintro p9 σ' eo aaI;subst eo;rw [dD]at h;have s13:σ' 0=(.aB (aH.map Nd.cells) .unk):=(aaI 0 (by decide)).trans av;try refine ah ?_
     obtain⟨o79,h80,h⟩:=aj h;refine aaG k aH 0 _ _ _ (Fr.refl _ _) av _ h80 _ ?_ ?_
     ·rintro xZ σ' eo IX;subst eo;rw [dD]at h;have s85:σ' 0=(.aB (aH.map Nd.cells) .unk):=(IX 0 (by decide)).trans av;obtain⟨Aw,Mq,h⟩:=aj h;try refine ah ?_
      refine aA (Ms Mq) ?_;rcases au h with⟨Mr,h⟩|⟨Mr,h⟩
      ·obtain rfl:=ak h;try refine ah ?_
       exact(dG (.cons (.pure _ (.int _ _)) (.cons (.pure _ (.int _ _)) .nil)))
      ·obtain rfl:=ak h;try refine ah ?_
       exact(dG (.cons (.pure _ (.int _ _)) (.cons (.pure _ (.int _ _)) .nil)))
     ·rintro Sy σ' eo azQ ⟨s93,s94⟩;subst eo;rw [dK]at h;obtain rfl:=ak h;try refine ah ?_
      exact(dG (.cons (.pure _ (.int _ _)) (.cons (.pure _ (.int _ _)) .nil)))
    ·rintro Sz σ' eo azR ⟨s99,aiB⟩;subst eo;rw [dK]at h;obtain rfl:=ak h;try refine ah ?_
     exact(dG (.cons (.pure _ (.int _ _)) (.cons (.pure _ (.int _ _)) .nil)))
def SA (k:Nat) (aH:List Nd):Option Int:=
  Option.bind (zC k aH) fun p2=>some p2.2
theorem amH {k:Nat} {aH:List Nd} {c0:Ck} {r:Int} (h:SA k aH=some r):aG Tryz.prog 18 [(.aB (aH.map Nd.cells) c0)] (.int .i64 r):=by
  refine aG.lw (.aB .nil) (aG.aR (bB.mem (.cons (bC Nd.pu _) .nil)) (aI aol (by simp) (aF ?_)) (.int _ _));unfold SA at h;unfold aok;obtain⟨p2,e1,h⟩:=aj h;try refine ah ?_
  refine aA (agC e1) ?_;obtain rfl:=ak h;try refine ah ?_
  exact(.pure _ (.int _ _))
def FV (cB:Int) (pR:Bool):Option Bool:=
  cond pR (some ((decide (cB<172)))) (some (false))
theorem aeS: ∀(cB:Int) (pR:Bool) (aC σ:Nat->PV) (H:AH) (f0:Fr [10,11,12] aC σ) (sl:σ 3=(.int .i64 cB)/\σ 9=(.bool pR)) (o:Bool) (h:FV cB pR=some o) (Q:Post) (q0: ∀(p:Bool) (σ':Nat->PV),o=p->Fr [10,11,12] aC σ'->(σ' 12=(.bool p))->Q .normal σ' H),dB Tryz.prog UD (Q .normal) σ H:=by
  intro cB pR aC σ H f0 sl o h Q q0;obtain⟨s3,s9⟩:=sl;unfold FV at h;refine dw ?_;unfold UD;rcases au h with⟨e1,h⟩|⟨e1,h⟩
  ·obtain rfl:=ak h;try refine ah ?_
   exact q0 _ _ rfl aO av
  ·obtain rfl:=ak h;try refine ah ?_
   exact q0 _ _ rfl aO av
def FW (aH:List Nd) (cB:Int) (aaJ:Bool):Option Bool:=
  cond aaJ (some (true)) (if 0<=cB then Option.bind (aH[cB.toNat]?) fun BR=>cond (decide ((BR.names.length:Int)>34)) (some (true)) (some ((decide ((BR.text.length:Int)>80))))else none)
def X8:List Nat:=List.range' 23 17
theorem aeT: ∀(aH:List Nd) (cB:Int) (aaJ:Bool) (aC σ:Nat->PV) (H:AH) (f0:Fr X8 aC σ) (sl:σ 0=(.aB (aH.map Nd.cells) .unk)/\σ 3=(.int .i64 cB)/\σ 22=(.bool aaJ)) (o:Bool) (h:FW aH cB aaJ=some o) (Q:Post) (q0: ∀(p:Bool) (σ':Nat->PV),o=p->Fr X8 aC σ'->(σ' 39=(.bool p))->Q .normal σ' H),dB Tryz.prog UE (Q .normal) σ H:=by
  intro aH cB aaJ aC σ H f0 sl o h Q q0;obtain⟨s0,s3,s22⟩:=sl;unfold FW at h;refine dw ?_;unfold UE;rcases au h with⟨e15,h⟩|⟨e15,h⟩
  ·obtain rfl:=ak h;try refine ah ?_
   exact q0 _ _ rfl aO av
  ·obtain⟨e16,h⟩:=aD h;obtain⟨BR,e18,h⟩:=aj h;rcases au h with⟨e19,h⟩|⟨e19,h⟩
   ·obtain rfl:=ak h;try refine ah ?_
    exact q0 _ _ rfl aO av
   ·obtain rfl:=ak h;try refine ah ?_
    exact q0 _ _ rfl aO av
def tQ:Nat->(List Nd)->Int->Int->Option (Unit⊕Bool)
  |0,_,_,_=>none
  |k+1,aH,cB,Pp=>
    if 0<=cB then Option.bind (aH[cB.toNat]?) fun x31=>cond (decide (Pp<(x31.names.length:Int))) (if 0<=Pp then Option.bind (x31.names[Pp.toNat]?) fun x35=>cond (decide ((x35.length:Int)>80)) (some (.inr (false))) (tQ k aH cB (IntKind.wrap .i64 (Pp+1)))else none) (some (.inl ()))else none
def MH:List Nat:=[2,4]++List.range' 40 20
theorem aeU: ∀(k:Nat) (aH:List Nd) (cB:Int) (Pp:Int) (aC σ:Nat->PV) (H:AH) (f0:Fr MH aC σ) (sl:σ 0=(.aB (aH.map Nd.cells) .unk)/\σ 3=(.int .i64 cB)/\σ 4=(.int .i64 Pp)) (o:Unit⊕Bool) (h:tQ k aH cB Pp=some o) (Q:Post) (q0: ∀(p:Unit) (σ':Nat->PV),o= .inl p->Fr MH aC σ'->Q (.exit 2) σ' H) (q1: ∀(p:Bool) (σ':Nat->PV),o= .inr (p)->Fr MH aC σ'->(σ' 2=(.bool p))->Q .ret σ' H),W Tryz.prog (.loop UF) Q σ H:=by
  intro k
  induction k with
  |zero=>intro aH cB Pp aC σ H f0 sl o h Q q0 q1;simp only [tQ,reduceCtorEq]at h
  |succ k ih=>
    intro aH cB Pp aC σ H f0 sl o h Q q0 q1;obtain⟨s0,s3,s4⟩:=sl;unfold tQ at h;refine bA (fun K hK=>aF ?_);unfold UF;obtain⟨e30,h⟩:=aD h;obtain⟨x31,e32,h⟩:=aj h;rcases au h with⟨e33,h⟩|⟨e33,h⟩
    ·obtain⟨e34,h⟩:=aD h;obtain⟨x35,e36,h⟩:=aj h;rcases au h with⟨e37,h⟩|⟨e37,h⟩
     ·obtain rfl:=ak h;try refine ah ?_
      exact q1 _ _ rfl aO av
     ·try refine ah ?_
      refine hK _ _ ?_;exact ih aH cB (IntKind.wrap .i64 (Pp+1)) _ _ _ aO av _ h _ q0 q1
    ·obtain rfl:=ak h;try refine ah ?_
     exact q0 _ _ rfl aO
def tT:Nat->(List Nd)->Int->Option (Unit⊕Bool)
  |0,_,_=>none
  |k+1,aH,cB=>
    Option.bind (FV cB (decide (cB<(aH.length:Int)))) (fun p4=>cond p4 (if 0<=cB then Option.bind (aH[cB.toNat]?) fun x13=>Option.bind (FW aH cB (decide ((x13.args.length:Int)>34))) (fun zB=>cond zB (some (.inr (false))) (Option.bind (tQ k aH cB 0) (fun o=>Sum.elim (fun p40=>tT k aH (IntKind.wrap .i64 (cB+1))) (fun p46=>some (.inr (p46))) o)))else none) (some (.inl ())))
def MI:List Nat:=List.range' 2 58
theorem aeV: ∀(k:Nat) (aH:List Nd) (cB:Int) (aC σ:Nat->PV) (H:AH) (f0:Fr MI aC σ) (sl:σ 0=(.aB (aH.map Nd.cells) .unk)/\σ 3=(.int .i64 cB)) (o:Unit⊕Bool) (h:tT k aH cB=some o) (Q:Post) (q0: ∀(p:Unit) (σ':Nat->PV),o= .inl p->Fr MI aC σ'->Q (.exit 0) σ' H) (q1: ∀(p:Bool) (σ':Nat->PV),o= .inr (p)->Fr MI aC σ'->(σ' 2=(.bool p))->Q .ret σ' H),W Tryz.prog (.loop UG) Q σ H:=by
  intro k
  induction k with
  |zero=>intro aH cB aC σ H f0 sl o h Q q0 q1;simp only [tT,reduceCtorEq]at h
  |succ k ih=>
    intro aH cB aC σ H f0 sl o h Q q0 q1;obtain⟨s0,s3⟩:=sl;unfold tT at h;refine bA (fun K hK=>aF ?_);unfold UG;try refine ah ?_
    obtain⟨o2,h3,h⟩:=aj h;refine aeS cB (decide (cB<(aH.length:Int))) _ _ _ (Fr.refl _ _) av _ h3 _ ?_
    ·rintro p4 σ' eo fr5 s8;rw [eo]at h;have s9:σ' 0=(.aB (aH.map Nd.cells) .unk):=(fr5 0 (by decide)).trans av;have s10:σ' 3=(.int .i64 cB):=(fr5 3 (by decide)).trans av;rcases au h with⟨e11,h⟩|⟨e11,h⟩
     ·obtain⟨e12,h⟩:=aD h;obtain⟨x13,e14,h⟩:=aj h;try refine ah ?_
      obtain⟨o20,h21,h⟩:=aj h;refine aeT aH cB (decide ((x13.args.length:Int)>34)) _ _ _ (Fr.refl _ _) av _ h21 _ ?_
      ·rintro zB σ' eo V9 X5;rw [eo]at h;have X9:σ' 0=(.aB (aH.map Nd.cells) .unk):=(V9 0 (by decide)).trans av;have s28:σ' 3=(.int .i64 cB):=(V9 3 (by decide)).trans av;rcases au h with⟨e29,h⟩|⟨e29,h⟩
       ·obtain rfl:=ak h;try refine ah ?_
        exact q1 _ _ rfl (by repeat (first|exact f0|refine Fr.upd (by decide) ?_|refine Fr.via fr5 (by decide) ?_|refine Fr.via V9 (by decide) ?_)) av
       ·try refine ah ?_
        obtain⟨o38,h39,h⟩:=aj h;refine aeU k aH cB 0 _ _ _ (Fr.refl _ _) av _ h39 _ ?_ ?_
        ·rintro p40 σ' eo aaK;subst eo;rw [dD]at h;have s44:σ' 0=(.aB (aH.map Nd.cells) .unk):=(aaK 0 (by decide)).trans av;have s45:σ' 3=(.int .i64 cB):=(aaK 3 (by decide)).trans av;try refine ah ?_
         refine hK _ _ ?_;exact ih aH (IntKind.wrap .i64 (cB+1)) _ _ _ (by repeat (first|exact f0|refine Fr.upd (by decide) ?_|refine Fr.via fr5 (by decide) ?_|refine Fr.via V9 (by decide) ?_|refine Fr.via aaK (by decide) ?_)) av _ h _ q0 q1
        ·rintro p46 σ' eo avS s50;subst eo;rw [dK]at h;obtain rfl:=ak h;try refine ah ?_
         exact q1 _ _ rfl (by repeat (first|exact f0|refine Fr.upd (by decide) ?_|refine Fr.via fr5 (by decide) ?_|refine Fr.via V9 (by decide) ?_|refine Fr.via avS (by decide) ?_)) av
     ·obtain rfl:=ak h;try refine ah ?_
      exact q0 _ _ rfl (by repeat (first|exact f0|refine Fr.upd (by decide) ?_|refine Fr.via fr5 (by decide) ?_))
def SB (k:Nat) (aH:List Nd):Option Bool:=
  Option.bind (tT k aH 0) (fun o=>Sum.elim (fun p53=>some (decide ((aH.length:Int)<=170))) (fun p58=>some p58) o)
theorem amI {k:Nat} {aH:List Nd} {c0:Ck} {r:Bool} (h:SB k aH=some r):aG Tryz.prog 13 [(.aB (aH.map Nd.cells) c0)] (.bool r):=by
  refine aG.lw (.aB .nil) (aG.aR (bB.mem (.cons (bC Nd.pu _) .nil)) (aI aij (by simp) (aF ?_)) (.bool _));unfold SB at h;unfold aoe;try refine ah ?_
  obtain⟨o51,h52,h⟩:=aj h;refine aeV k aH 0 _ _ _ (Fr.refl _ _) av _ h52 _ ?_ ?_
  ·rintro p53 σ' eo Ke;subst eo;rw [dD]at h;have s57:σ' 0=(.aB (aH.map Nd.cells) .unk):=(Ke 0 (by decide)).trans av;obtain rfl:=ak h;try refine ah ?_
   exact(.pure _ (.bool _))
  ·rintro p58 σ' eo aiC s62;subst eo;rw [dK]at h;obtain rfl:=ak h;try refine ah ?_
   exact(.pure _ (.bool _))
def Dr (bT:List Int):Option (List Int):=
  if(([]:List Int).length+bT.length)*8<=1099511627776 then some (([]:List Int)++bT)else none
theorem acH {bT:List Int} {c0:Ck} {r:List Int} (h:Dr bT=some r):aG Tryz.prog 53 [(.aB (bT.map bI) c0)] (.aB (r.map bI) .unk):=by
  refine aG.lw (.aB .nil) (aG.aR (bB.mem (.cons (bC jg _) .nil)) (aI au7 (by simp) (aF ?_)) (bC jg _));unfold Dr at h;unfold aoP;obtain⟨e5,h⟩:=aD h;try refine ah ?_
  refine jV (f:=bI) Ji ([]:List Int) (bT:List Int) .exact .unk av av eO (by first|exact e5|(simp only [List.length_cons,List.length_nil];exact e5)) (fun c1 H2 ok3 le ob6 rl4=> ?_);have hf7:HF [] _ H2:=⟨le,fun i _ _=>ob6 i⟩;try simp only [AH.aJ,AH.aK,AH.aL,AH.aM]at le
  obtain rfl:=ak h;try refine ah ?_
  exact(jr jg _ _)
def mY (bT:List Str):Option (List Str):=
  if(([]:List Str).length+bT.length)*16<=1099511627776 then some (([]:List Str)++bT)else none
theorem AB {bT:List Str} {c0:Ck} {r:List Str} (h:mY bT=some r):aG Tryz.prog 52 [(.aB (bT.map aX) c0)] (.aB (r.map aX) .unk):=by
  refine aG.lw (.aB .nil) (aG.aR (bB.mem (.cons (bC cO _) .nil)) (aI aoO (by simp) (aF ?_)) (bC cO _));unfold mY at h;unfold aoN;obtain⟨e5,h⟩:=aD h;try refine ah ?_
  refine jV (f:=aX) uR ([]:List Str) (bT:List Str) .exact .unk av av eO (by first|exact e5|(simp only [List.length_cons,List.length_nil];exact e5)) (fun c1 H2 ok3 le ob6 rl4=> ?_);have hf7:HF [] _ H2:=⟨le,fun i _ _=>ob6 i⟩;try simp only [AH.aJ,AH.aK,AH.aL,AH.aM]at le
  obtain rfl:=ak h;try refine ah ?_
  exact(jr cO _ _)
def nN:Nat->(List Nd)->(List Nd)->Int->Option (List Nd)
  |0,_,_,_=>none
  |k+1,aH,mE,cK=>
    cond (decide (cK<(aH.length:Int))) (if 0<=cK then Option.bind (aH[cK.toNat]?) fun x3=>Option.bind (mY x3.names) fun p6=>Option.bind (Dr x3.args) fun p8=>if(mE.length+1)*80<=1099511627776 then nN k aH (mE++[(Nd.mk x3.kind x3.n x3.text p6 p8)]) (IntKind.wrap .i64 (cK+1))else none else none) (some (mE))
def K7:List Nat:=List.range' 3 25
theorem Wy: ∀(k:Nat) (aH:List Nd) (mE:List Nd) (cK:Int) (xB:Ck) (aC σ:Nat->PV) (H0 H:AH) (f0:Fr K7 aC σ) (hf0:HF [] H0 H) (sl:σ 0=(.aB (aH.map Nd.cells) .unk)/\σ 3=(.aB (mE.map Nd.cells) xB)/\σ 4=(.int .i64 cK)) (aaL:d9 H xB) (o:List Nd) (h:nN k aH mE cK=some o) (Q:Post) (q0: ∀(p:List Nd) (c0:Ck) (σ':Nat->PV) (H':AH),o=p->Fr K7 aC σ'->HF [] H0 H'->(σ' 3=(.aB (p.map Nd.cells) c0))->Q (.exit 0) σ' H'),W Tryz.prog (.loop UK) Q σ H:=by
  intro k
  induction k with
  |zero=>intro aH mE cK xB aC σ H0 H f0 hf0 sl aaL o h Q q0;simp only [nN,reduceCtorEq]at h
  |succ k ih=>
    intro aH mE cK xB aC σ H0 H f0 hf0 sl aaL o h Q q0;obtain⟨s0,s3,s4⟩:=sl;have hle0:=hf0.1;unfold nN at h;refine bA (fun K hK=>aF ?_);unfold UK;rcases au h with⟨e1,h⟩|⟨e1,h⟩
    ·obtain⟨e2,h⟩:=aD h;obtain⟨x3,e4,h⟩:=aj h;try refine ah ?_
     refine bO ?_;obtain⟨p6,e5,h⟩:=aj h;try refine ah ?_
     refine PC.mk (AB e5) ?_;obtain⟨p8,e7,h⟩:=aj h;try refine ah ?_
     refine PC.mk (acH e7) ?_;obtain⟨e13,h⟩:=aD h;try refine ah ?_
     refine jV (f:=Nd.cells) Nd.row mE ([(Nd.mk x3.kind x3.n x3.text p6 p8)]:List Nd) xB .exact av av eO (by first|exact e13|(simp only [List.length_cons,List.length_nil];exact e13)) (fun c9 SC avT le aiD avU=> ?_);have aiE:HF [] _ SC:=⟨le,fun i _ _=>aiD i⟩;try simp only [AH.aJ,AH.aK,AH.aL,AH.aM]at le
     have n16:=ne_next (show H.next<SC.next by first|omega|(simp only [AH.aJ,AH.aK,AH.aL,AH.aM];omega));have m17:=aU (show H.next<SC.next by first|omega|(simp only [AH.aJ,AH.aK,AH.aL,AH.aM];omega));try refine ah ?_
     refine hK _ _ ?_;exact ih aH (mE++[(Nd.mk x3.kind x3.n x3.text p6 p8)]) (IntKind.wrap .i64 (cK+1)) c9 _ _ _ _ aO (by repeat (first|exact hf0|refine HF.new ?_|refine HF.dR ?_|refine HF.used ?_|refine HF.put (by first|(right;omega)|(left;simp only [List.mem_cons,true_or,or_true])) ?_|refine HF.via aiE (by first|exact fun i hi=>absurd hi List.not_mem_nil|(intro i hi;simp only [List.mem_cons,List.not_mem_nil,or_false]at hi⊢;first|exact .inl hi|omega)) ?_)) av eO _ h _ q0
    ·obtain rfl:=ak h;try refine ah ?_
     exact q0 _ xB _ _ rfl aO (by repeat (first|exact hf0|refine HF.new ?_|refine HF.dR ?_|refine HF.used ?_|refine HF.put (by first|(right;omega)|(left;simp only [List.mem_cons,true_or,or_true])) ?_)) av
def Dt (k:Nat) (aH:List Nd):Option (List Nd):=
  Option.bind (nN k aH ([]:List Nd) 0) (fun lu=>some lu)
theorem acI {k:Nat} {aH:List Nd} {c0:Ck} {r:List Nd} (h:Dt k aH=some r):aG Tryz.prog 15 [(.aB (aH.map Nd.cells) c0)] (.aB (r.map Nd.cells) .unk):=by
  refine aG.lw (.aB .nil) (aG.aR (bB.mem (.cons (bC Nd.pu _) .nil)) (aI auX (by simp) (aF ?_)) (bC Nd.pu _));unfold Dt at h;unfold aog;try refine ah ?_
  obtain⟨o18,h19,h⟩:=aj h;refine Wy k aH ([]:List Nd) 0 .nil _ _ _ _ (Fr.refl _ _) (HF.refl _ _) av eO _ h19 _ ?_
  ·rintro lu c24 σ' H23 eo azS avV O6;rw [eo]at h;have le:=avV.1;try simp only [AH.aJ,AH.aK,AH.aL,AH.aM]at le
   obtain rfl:=ak h;try refine ah ?_
   exact(jr Nd.pu _ _)
end Go.VL
end
section
set_option maxRecDepth 8000
set_option maxHeartbeats 4000000
namespace Go.VL
open Go.Proofs
def gU (aT:Int) (SE:Int) (aeW:Int):Option Bool:=
  cond (decide (SE<=aT)) (some (decide (aT<=aeW))) (some false)
theorem gW {aT:Int} {SE:Int} {aeW:Int} {r:Bool} (h:gU aT SE aeW=some r):aG Tryz.prog 69 [(.int .i64 aT),(.int .i64 SE),(.int .i64 aeW)] (.bool r):=by
  refine aG.aR (bB.mem (.cons (.int _ _) (.cons (.int _ _) (.cons (.int _ _) .nil)))) (aI avi (by simp) (aF ?_)) (.bool _);unfold gU at h;unfold ao2;rcases au h with⟨e1,h⟩|⟨e1,h⟩
  ·obtain rfl:=ak h;try refine ah ?_
   exact(.pure _ (.bool _))
  ·obtain rfl:=ak h;try refine ah ?_
   exact(.pure _ (.bool _))
def mM (Ka:Bool) (SF:Int):Option Int:=
  cond Ka (some SF) (some 0)
theorem mh {Ka:Bool} {SF:Int} {r:Int} (h:mM Ka SF=some r):aG Tryz.prog 47 [(.bool Ka),(.int .i64 SF)] (.int .i64 r):=by
  refine aG.aR (bB.mem (.cons (.bool _) (.cons (.int _ _) .nil))) (aI aoI (by simp) (aF ?_)) (.int _ _);unfold mM at h;unfold aoH;rcases au h with⟨e1,h⟩|⟨e1,h⟩
  ·obtain rfl:=ak h;try refine ah ?_
   exact(.pure _ (.int _ _))
  ·obtain rfl:=ak h;try refine ah ?_
   exact(.pure _ (.int _ _))
def iB:Nat->(List Int)->Int->Int->Option (Unit⊕Int)
  |0,_,_,_=>none
  |k+1,Ya,j5,eY=>
    cond (decide (eY<j5)) (if 0<=eY then Option.bind (Ya[eY.toNat]?) fun x3=>cond (x3 !=0) (some (.inr (x3))) (iB k Ya j5 (IntKind.wrap .i64 (eY+1)))else none) (some (.inl ()))
def wm:List Nat:=[2,5]++List.range' 8 9
theorem LP: ∀(k:Nat) (Ya:List Int) (j5:Int) (eY:Int) (aC σ:Nat->PV) (H:AH) (f0:Fr wm aC σ) (sl:σ 3=(.int .i64 0)/\σ 6=(.aB (Ya.map bI) .unk)/\σ 7=(.int .i64 j5)/\σ 8=(.int .i64 eY)) (o:Unit⊕Int) (h:iB k Ya j5 eY=some o) (Q:Post) (q0: ∀(p:Unit) (σ':Nat->PV),o= .inl p->Fr wm aC σ'->Q (.exit 0) σ' H) (q1: ∀(p:Int) (σ':Nat->PV),o= .inr (p)->Fr wm aC σ'->(σ' 2=(.int .i64 p))->Q .ret σ' H),W Tryz.prog (.loop U0) Q σ H:=by
  intro k
  induction k with
  |zero=>intro Ya j5 eY aC σ H f0 sl o h Q q0 q1;simp only [iB,reduceCtorEq]at h
  |succ k ih=>
    intro Ya j5 eY aC σ H f0 sl o h Q q0 q1;obtain⟨s3,s6,s7,s8⟩:=sl;unfold iB at h;refine bA (fun K hK=>aF ?_);unfold U0;rcases au h with⟨e1,h⟩|⟨e1,h⟩
    ·obtain⟨e2,h⟩:=aD h;obtain⟨x3,e4,h⟩:=aj h;rcases au h with⟨e5,h⟩|⟨e5,h⟩
     ·obtain rfl:=ak h;try refine ah ?_
      exact q1 _ _ rfl aO av
     ·try refine ah ?_
      refine hK _ _ ?_;exact ih Ya j5 (IntKind.wrap .i64 (eY+1)) _ _ _ aO av _ h _ q0 q1
    ·obtain rfl:=ak h;try refine ah ?_
     exact q0 _ _ rfl aO
def iJ (k:Nat) (FX:List Int):Option Int:=
  Option.bind (iB k FX (FX.length:Int) 0) (fun o=>Sum.elim (fun p8=>some 0) (fun xY=>some xY) o)
theorem mO {k:Nat} {FX:List Int} {c0:Ck} {r:Int} (h:iJ k FX=some r):aG Tryz.prog 46 [(.aB (FX.map bI) c0)] (.int .i64 r):=by
  refine aG.lw (.aB .nil) (aG.aR (bB.mem (.cons (bC jg _) .nil)) (aI au2 (by simp) (aF ?_)) (.int _ _));unfold iJ at h;unfold aoG;try refine ah ?_
  obtain⟨o6,h7,h⟩:=aj h;refine LP k FX (FX.length:Int) 0 _ _ _ (Fr.refl _ _) av _ h7 _ ?_ ?_
  ·rintro p8 σ' eo O4;subst eo;rw [dD]at h;have s12:σ' 3=(.int .i64 0):=(O4 3 (by decide)).trans av;obtain rfl:=ak h;try refine ah ?_
   exact(.pure _ (.int _ _))
  ·rintro xY σ' eo Wh s17;subst eo;rw [dK]at h;obtain rfl:=ak h;try refine ah ?_
   exact(.pure _ (.int _ _))
def sF (o_0:Operator) (t_1:Str):Option Bool:=
  some (o_0.text==t_1)
theorem Rb {o_0:Operator} {t_1:Str} {r:Bool} (h:sF o_0 t_1=some r):aG Tryz.prog 112 [(.agg (Operator.cells o_0)),(.fq [(.str t_1)] 0)] (.bool r):=by
  refine aG.aR (bB.mem (.cons (.agg _ (Operator.pu _)) (.cons (.fq _ _ (bB.mem (.cons (.str _) .nil))) .nil))) (aI asf (by simp) (aF ?_)) (.bool _);unfold sF at h;unfold aks;obtain rfl:=ak h;try refine ah ?_
  exact(.pure _ (.bool _))
def bg:Nat->(List Operator)->Str->Int->Int->Option (Unit⊕Int)
  |0,_,_,_,_=>none
  |k+1,s_0,vD,j5,eY=>
    cond (decide (eY<j5)) (if 0<=eY then Option.bind (s_0[eY.toNat]?) fun x3=>Option.bind (sF x3 vD) fun p6=>cond p6 (some (.inr (eY))) (bg k s_0 vD j5 (IntKind.wrap .i64 (eY+1)))else none) (some (.inl ()))
def gK:List Nat:=[4,5]++List.range' 8 11
theorem qy: ∀(k:Nat) (s_0:List Operator) (vD:Str) (j5:Int) (eY:Int) (aC σ:Nat->PV) (H:AH) (f0:Fr gK aC σ) (sl:σ 0=(.aB (s_0.map Operator.cells) .unk)/\σ 1=(.fn (.func 112) [] [(.fq [(.str vD)] 0)])/\σ 7=(.int .i64 j5)/\σ 8=(.int .i64 eY)) (o:Unit⊕Int) (h:bg k s_0 vD j5 eY=some o) (Q:Post) (q0: ∀(p:Unit) (σ':Nat->PV),o= .inl p->Fr gK aC σ'->Q (.exit 0) σ' H) (q1: ∀(p:Int) (σ':Nat->PV),o= .inr (p)->Fr gK aC σ'->(σ' 4=(.int .i64 p))->Q .ret σ' H),W Tryz.prog (.loop Qz) Q σ H:=by
  intro k
  induction k with
  |zero=>intro s_0 vD j5 eY aC σ H f0 sl o h Q q0 q1;simp only [bg,reduceCtorEq]at h
  |succ k ih=>
    intro s_0 vD j5 eY aC σ H f0 sl o h Q q0 q1;obtain⟨s0,s1,s7,s8⟩:=sl;unfold bg at h;refine bA (fun K hK=>aF ?_);unfold Qz;rcases au h with⟨e1,h⟩|⟨e1,h⟩
    ·obtain⟨e2,h⟩:=aD h;obtain⟨x3,e4,h⟩:=aj h;obtain⟨p6,e5,h⟩:=aj h;try refine ah ?_
     refine aA (Rb e5) ?_;rcases au h with⟨e7,h⟩|⟨e7,h⟩
     ·obtain rfl:=ak h;try refine ah ?_
      exact q1 _ _ rfl aO av
     ·try refine ah ?_
      refine hK _ _ ?_;exact ih s_0 vD j5 (IntKind.wrap .i64 (eY+1)) _ _ _ aO av _ h _ q0 q1
    ·obtain rfl:=ak h;try refine ah ?_
     exact q0 _ _ rfl aO
def fF (k:Nat) (s_0:List Operator) (vD:Str):Option Int:=
  Option.bind (bg k s_0 vD (s_0.length:Int) 0) (fun o=>Sum.elim (fun fE=>some (-1)) (fun ig=>some ig) o)
theorem qW {k:Nat} {s_0:List Operator} {vD:Str} {c0:Ck} {r:Int} (h:fF k s_0 vD=some r):aG Tryz.prog 111 [(.aB (s_0.map Operator.cells) c0),(.fn (.func 112) [] [(.fq [(.str vD)] 0)])] (.int .i64 r):=by
  refine aG.lw (.aB (.same .nil)) (aG.aR (bB.mem (.cons (bC Operator.pu _) (.cons (.fn _ _ _ (bB.mem .nil) (bB.mem (.cons (.fq _ _ (bB.mem (.cons (.str _) .nil))) .nil))) .nil))) (aI ase (by simp) (aF ?_)) (.int _ _));unfold fF at h;unfold akr;try refine ah ?_
  obtain⟨o8,h9,h⟩:=aj h;refine qy k s_0 vD (s_0.length:Int) 0 _ _ _ (Fr.refl _ _) av _ h9 _ ?_ ?_
  ·rintro fE σ' eo V7;subst eo;rw [dD]at h;obtain rfl:=ak h;try refine ah ?_
   exact(.pure _ (.int _ _))
  ·rintro ig σ' eo vS pK;subst eo;rw [dK]at h;obtain rfl:=ak h;try refine ah ?_
   exact(.pure _ (.int _ _))
def ED (xW:Int):Option Bool:=
  Option.bind (gU (IntKind.wrap .i64 xW) 32 126) fun p2=>cond p2 (cond (xW==34) (some true) (some (xW==92))) (some true)
theorem aaM {xW:Int} {r:Bool} (h:ED xW=some r):aG Tryz.prog 142 [(.int .i32 xW)] (.bool r):=by
  refine aG.aR (bB.mem (.cons (.int _ _) .nil)) (aI asx (by simp) (aF ?_)) (.bool _);unfold ED at h;unfold akJ;obtain⟨p2,e1,h⟩:=aj h;try refine ah ?_
  refine aA (gW e1) ?_;rcases au h with⟨e3,h⟩|⟨e3,h⟩
  ·rcases au h with⟨e4,h⟩|⟨e4,h⟩
   ·obtain rfl:=ak h;try refine ah ?_
    exact(.pure _ (.bool _))
   ·obtain rfl:=ak h;try refine ah ?_
    exact(.pure _ (.bool _))
  ·obtain rfl:=ak h;try refine ah ?_
   exact(.pure _ (.bool _))
def dJ:Nat->(List Str)->Str->Int->Int->Option (Unit⊕Int)
  |0,_,_,_,_=>none
  |k+1,s_0,v_1,j5,eY=>
    cond (decide (eY<j5)) (if 0<=eY then Option.bind (s_0[eY.toNat]?) fun x3=>cond (v_1==x3) (some (.inr (eY))) (dJ k s_0 v_1 j5 (IntKind.wrap .i64 (eY+1)))else none) (some (.inl ()))
def oZ:List Nat:=[4,5]++List.range' 8 11
theorem Ei: ∀(k:Nat) (s_0:List Str) (v_1:Str) (j5:Int) (eY:Int) (aC σ:Nat->PV) (H:AH) (f0:Fr oZ aC σ) (sl:σ 0=(.aB (s_0.map aX) .unk)/\σ 1=(.str v_1)/\σ 7=(.int .i64 j5)/\σ 8=(.int .i64 eY)) (o:Unit⊕Int) (h:dJ k s_0 v_1 j5 eY=some o) (Q:Post) (q0: ∀(p:Unit) (σ':Nat->PV),o= .inl p->Fr oZ aC σ'->Q (.exit 0) σ' H) (q1: ∀(p:Int) (σ':Nat->PV),o= .inr (p)->Fr oZ aC σ'->(σ' 4=(.int .i64 p))->Q .ret σ' H),W Tryz.prog (.loop QF) Q σ H:=by
  intro k
  induction k with
  |zero=>intro s_0 v_1 j5 eY aC σ H f0 sl o h Q q0 q1;simp only [dJ,reduceCtorEq]at h
  |succ k ih=>
    intro s_0 v_1 j5 eY aC σ H f0 sl o h Q q0 q1;obtain⟨s0,s1,s7,s8⟩:=sl;unfold dJ at h;refine bA (fun K hK=>aF ?_);unfold QF;rcases au h with⟨e1,h⟩|⟨e1,h⟩
    ·obtain⟨e2,h⟩:=aD h;obtain⟨x3,e4,h⟩:=aj h;rcases au h with⟨e5,h⟩|⟨e5,h⟩
     ·obtain rfl:=ak h;try refine ah ?_
      exact q1 _ _ rfl aO av
     ·try refine ah ?_
      refine hK _ _ ?_;exact ih s_0 v_1 j5 (IntKind.wrap .i64 (eY+1)) _ _ _ aO av _ h _ q0 q1
    ·obtain rfl:=ak h;try refine ah ?_
     exact q0 _ _ rfl aO
def lC (k:Nat) (s_0:List Str) (v_1:Str):Option Int:=
  Option.bind (dJ k s_0 v_1 (s_0.length:Int) 0) (fun o=>Sum.elim (fun p8=>some (-1)) (fun jW=>some jW) o)
theorem GQ {k:Nat} {s_0:List Str} {v_1:Str} {c0:Ck} {r:Int} (h:lC k s_0 v_1=some r):aG Tryz.prog 130 [(.aB (s_0.map aX) c0),(.str v_1)] (.int .i64 r):=by
  refine aG.lw (.aB (.same .nil)) (aG.aR (bB.mem (.cons (bC cO _) (.cons (.str _) .nil))) (aI asv (by simp) (aF ?_)) (.int _ _));unfold lC at h;unfold akH;try refine ah ?_
  obtain⟨o6,h7,h⟩:=aj h;refine Ei k s_0 v_1 (s_0.length:Int) 0 _ _ _ (Fr.refl _ _) av _ h7 _ ?_ ?_
  ·rintro p8 σ' eo O4;subst eo;rw [dD]at h;obtain rfl:=ak h;try refine ah ?_
   exact(.pure _ (.int _ _))
  ·rintro jW σ' eo D6 s16;subst eo;rw [dK]at h;obtain rfl:=ak h;try refine ah ?_
   exact(.pure _ (.int _ _))
def dV (k:Nat) (s_0:List Str) (v_1:Str):Option Bool:=
  Option.bind (lC k s_0 v_1) fun p2=>some (decide (p2>=0))
theorem kT {k:Nat} {s_0:List Str} {v_1:Str} {c0:Ck} {r:Bool} (h:dV k s_0 v_1=some r):aG Tryz.prog 81 [(.aB (s_0.map aX) c0),(.str v_1)] (.bool r):=by
  refine aG.lw (.aB (.same .nil)) (aG.aR (bB.mem (.cons (bC cO _) (.cons (.str _) .nil))) (aI avm (by simp) (aF ?_)) (.bool _));unfold dV at h;unfold ao8;obtain⟨p2,e1,h⟩:=aj h;try refine ah ?_
  refine aA (GQ e1) ?_;obtain rfl:=ak h;try refine ah ?_
  exact(.pure _ (.bool _))
def qX (s_0:Str) (oq:Str):Option Bool:=
  cond (decide ((s_0.length:Int)>=(oq.length:Int))) (if oq.length<=s_0.length then some ((s_0.take oq.length)==oq)else none) (some false)
theorem OJ {s_0:Str} {oq:Str} {r:Bool} (h:qX s_0 oq=some r):aG Tryz.prog 179 [(.str s_0),(.str oq)] (.bool r):=by
  refine aG.aR (bB.mem (.cons (.str _) (.cons (.str _) .nil))) (aI asT (by simp) (aF ?_)) (.bool _);unfold qX at h;unfold ak5;rcases au h with⟨e1,h⟩|⟨e1,h⟩
  ·obtain⟨e2,h⟩:=aD h;obtain rfl:=ak h;try refine ah ?_
   exact(.pure _ (.bool _))
  ·obtain rfl:=ak h;try refine ah ?_
   exact(.pure _ (.bool _))
def dW (s_0:Str) (oq:Str):Option Bool:=
  Option.bind (qX s_0 oq) fun p2=>some p2
theorem ji {s_0:Str} {oq:Str} {r:Bool} (h:dW s_0 oq=some r):aG Tryz.prog 125 [(.str s_0),(.str oq)] (.bool r):=by
  refine aG.aR (bB.mem (.cons (.str _) (.cons (.str _) .nil))) (aI asq (by simp) (aF ?_)) (.bool _);unfold dW at h;unfold akE;obtain⟨p2,e1,h⟩:=aj h;try refine ah ?_
  refine aA (OJ e1) ?_;obtain rfl:=ak h;try refine ah ?_
  exact(.pure _ (.bool _))
def Du (s_0:Str):Option Bool:=
  cond (s_0==([84,82,85,69]:Str)) (some true) (cond (s_0==([70,65,76,83,69]:Str)) (some true) (cond (s_0==([66,79,79,76,69,65,78]:Str)) (some true) (some (s_0==([83,84,82,73,78,71]:Str)))))
theorem Pq {s_0:Str} {r:Bool} (h:Du s_0=some r):aG Tryz.prog 129 [(.str s_0)] (.bool r):=by
  refine aG.aR (bB.mem (.cons (.str _) .nil)) (aI asu (by simp) (aF ?_)) (.bool _);unfold Du at h;unfold akG;rcases au h with⟨e1,h⟩|⟨e1,h⟩
  ·obtain rfl:=ak h;try refine ah ?_
   exact(.pure _ (.bool _))
  ·rcases au h with⟨e2,h⟩|⟨e2,h⟩
   ·obtain rfl:=ak h;try refine ah ?_
    exact(.pure _ (.bool _))
   ·rcases au h with⟨e3,h⟩|⟨e3,h⟩
    ·obtain rfl:=ak h;try refine ah ?_
     exact(.pure _ (.bool _))
    ·obtain rfl:=ak h;try refine ah ?_
     exact(.pure _ (.bool _))
def Oh (aH:List Nd) (dO:Int) (rR:List Int):Option Int:=
  if 0<=dO then Option.bind (aH[dO.toNat]?) fun x2=>cond ((x2.args.length:Int)==0) (some dO) (Option.bind (x2.args[0]?) fun x5=>if 0<=x5 then Option.bind (rR[x5.toNat]?) fun x8=>some x8 else none)else none
theorem agD {aH:List Nd} {dO:Int} {rR:List Int} {c0 c2:Ck} {r:Int} (h:Oh aH dO rR=some r):aG Tryz.prog 49 [(.aB (aH.map Nd.cells) c0),(.int .i64 dO),(.aB (rR.map bI) c2)] (.int .i64 r):=by
  refine aG.lw (.aB (.same (.aB .nil))) (aG.aR (bB.mem (.cons (bC Nd.pu _) (.cons (.int _ _) (.cons (bC jg _) .nil)))) (aI au4 (by simp) (aF ?_)) (.int _ _));unfold Oh at h;unfold aoK;obtain⟨e1,h⟩:=aD h;obtain⟨x2,e3,h⟩:=aj h;rcases au h with⟨e4,h⟩|⟨e4,h⟩
  ·obtain rfl:=ak h;try refine ah ?_
   exact(.pure _ (.int _ _))
  ·obtain⟨x5,e6,h⟩:=aj h;obtain⟨e7,h⟩:=aD h;obtain⟨x8,e9,h⟩:=aj h;obtain rfl:=ak h;try refine ah ?_
   exact(.pure _ (.int _ _))
def uW (Jt:Int) (bL:Int):Option Shape:=
  some (Shape.mk (Jt,Jt) (bL,bL) false false)
theorem Ej {Jt:Int} {bL:Int} {r:Shape} (h:uW Jt bL=some r):aG Tryz.prog 140 [(.int .i64 Jt),(.int .i64 bL)] (.agg (Shape.cells r)):=by
  refine aG.aR (bB.mem (.cons (.int _ _) (.cons (.int _ _) .nil))) (aI asw (by simp) (aF ?_)) (.agg _ (Shape.pu _));unfold uW at h;unfold akI;obtain rfl:=ak h;try refine ah ?_
  exact(dH (.cons (.pure _ (.int _ _)) (.cons (.pure _ (.int _ _)) (.cons (.pure _ (.int _ _)) (.cons (.pure _ (.int _ _)) (.cons (.pure _ (.bool _)) (.cons (.pure _ (.bool _)) .nil)))))))
def gu:Nat->(List Int)->Int->Int->Int->Option (Unit⊕Int)
  |0,_,_,_,_=>none
  |k+1,s_0,v_1,j5,eY=>
    cond (decide (eY<j5)) (if 0<=eY then Option.bind (s_0[eY.toNat]?) fun x3=>cond (v_1==x3) (some (.inr (eY))) (gu k s_0 v_1 j5 (IntKind.wrap .i64 (eY+1)))else none) (some (.inl ()))
def vk:List Nat:=[4,5]++List.range' 8 11
theorem Kq: ∀(k:Nat) (s_0:List Int) (v_1:Int) (j5:Int) (eY:Int) (aC σ:Nat->PV) (H:AH) (f0:Fr vk aC σ) (sl:σ 0=(.aB (s_0.map bI) .unk)/\σ 1=(.int .i64 v_1)/\σ 7=(.int .i64 j5)/\σ 8=(.int .i64 eY)) (o:Unit⊕Int) (h:gu k s_0 v_1 j5 eY=some o) (Q:Post) (q0: ∀(p:Unit) (σ':Nat->PV),o= .inl p->Fr vk aC σ'->Q (.exit 0) σ' H) (q1: ∀(p:Int) (σ':Nat->PV),o= .inr (p)->Fr vk aC σ'->(σ' 4=(.int .i64 p))->Q .ret σ' H),W Tryz.prog (.loop QY) Q σ H:=by
  intro k
  induction k with
  |zero=>intro s_0 v_1 j5 eY aC σ H f0 sl o h Q q0 q1;simp only [gu,reduceCtorEq]at h
  |succ k ih=>
    intro s_0 v_1 j5 eY aC σ H f0 sl o h Q q0 q1;obtain⟨s0,s1,s7,s8⟩:=sl;unfold gu at h;refine bA (fun K hK=>aF ?_);unfold QY;rcases au h with⟨e1,h⟩|⟨e1,h⟩
    ·obtain⟨e2,h⟩:=aD h;obtain⟨x3,e4,h⟩:=aj h;rcases au h with⟨e5,h⟩|⟨e5,h⟩
     ·obtain rfl:=ak h;try refine ah ?_
      exact q1 _ _ rfl aO av
     ·try refine ah ?_
      refine hK _ _ ?_;exact ih s_0 v_1 j5 (IntKind.wrap .i64 (eY+1)) _ _ _ aO av _ h _ q0 q1
    ·obtain rfl:=ak h;try refine ah ?_
     exact q0 _ _ rfl aO
def vE (k:Nat) (s_0:List Int) (v_1:Int):Option Int:=
  Option.bind (gu k s_0 v_1 (s_0.length:Int) 0) (fun o=>Sum.elim (fun p8=>some (-1)) (fun jW=>some jW) o)
theorem OL {k:Nat} {s_0:List Int} {v_1:Int} {c0:Ck} {r:Int} (h:vE k s_0 v_1=some r):aG Tryz.prog 190 [(.aB (s_0.map bI) c0),(.int .i64 v_1)] (.int .i64 r):=by
  refine aG.lw (.aB (.same .nil)) (aG.aR (bB.mem (.cons (bC jg _) (.cons (.int _ _) .nil))) (aI asW (by simp) (aF ?_)) (.int _ _));unfold vE at h;unfold ak9;try refine ah ?_
  obtain⟨o6,h7,h⟩:=aj h;refine Kq k s_0 v_1 (s_0.length:Int) 0 _ _ _ (Fr.refl _ _) av _ h7 _ ?_ ?_
  ·rintro p8 σ' eo O4;subst eo;rw [dD]at h;obtain rfl:=ak h;try refine ah ?_
   exact(.pure _ (.int _ _))
  ·rintro jW σ' eo D6 s16;subst eo;rw [dK]at h;obtain rfl:=ak h;try refine ah ?_
   exact(.pure _ (.int _ _))
def nO (k:Nat) (s_0:List Int) (v_1:Int):Option Bool:=
  Option.bind (vE k s_0 v_1) fun p2=>some (decide (p2>=0))
theorem Kr {k:Nat} {s_0:List Int} {v_1:Int} {c0:Ck} {r:Bool} (h:nO k s_0 v_1=some r):aG Tryz.prog 149 [(.aB (s_0.map bI) c0),(.int .i64 v_1)] (.bool r):=by
  refine aG.lw (.aB (.same .nil)) (aG.aR (bB.mem (.cons (bC jg _) (.cons (.int _ _) .nil))) (aI asD (by simp) (aF ?_)) (.bool _));unfold nO at h;unfold akP;obtain⟨p2,e1,h⟩:=aj h;try refine ah ?_
  refine aA (OL e1) ?_;obtain rfl:=ak h;try refine ah ?_
  exact(.pure _ (.bool _))
def FY (k:Nat) (dL:Int):Option Bool:=
  Option.bind (nO k [8,9,10,11,12,21,22,23,24] dL) fun p2=>some p2
theorem aeX {k:Nat} {dL:Int} {r:Bool} (h:FY k dL=some r):aG Tryz.prog 98 [(.int .i64 dL)] (.bool r):=by
  refine aG.aR (bB.mem (.cons (.int _ _) .nil)) (aI avx (by simp) (aF ?_)) (.bool _);unfold FY at h;unfold apm;obtain⟨p2,e1,h⟩:=aj h;try refine ah ?_
  refine aA (Kr e1) ?_;obtain rfl:=ak h;try refine ah ?_
  exact(.pure _ (.bool _))
def qY:Nat->(List Str)->(List Str)->Int->Option (Unit⊕Bool)
  |0,_,_,_=>none
  |k+1,a_0,b_1,j4=>
    cond (decide (j4<(a_0.length:Int))) (if 0<=j4 then Option.bind (a_0[j4.toNat]?) fun x4=>Option.bind (b_1[j4.toNat]?) fun x6=>cond (x4==x6) (qY k a_0 b_1 (IntKind.wrap .i64 (j4+1))) (some (.inr (false)))else none) (some (.inl ()))
def zm:List Nat:=[4,5]++List.range' 11 15
theorem OM: ∀(k:Nat) (a_0:List Str) (b_1:List Str) (j4:Int) (aC σ:Nat->PV) (H:AH) (f0:Fr zm aC σ) (sl:σ 0=(.aB (a_0.map aX) .unk)/\σ 1=(.aB (b_1.map aX) .unk)/\σ 5=(.int .i64 j4)) (o:Unit⊕Bool) (h:qY k a_0 b_1 j4=some o) (Q:Post) (q0: ∀(p:Unit) (σ':Nat->PV),o= .inl p->Fr zm aC σ'->Q (.exit 0) σ' H) (q1: ∀(p:Bool) (σ':Nat->PV),o= .inr (p)->Fr zm aC σ'->(σ' 4=(.bool p))->Q .ret σ' H),W Tryz.prog (.loop UY) Q σ H:=by
  intro k
  induction k with
  |zero=>intro a_0 b_1 j4 aC σ H f0 sl o h Q q0 q1;simp only [qY,reduceCtorEq]at h
  |succ k ih=>
    intro a_0 b_1 j4 aC σ H f0 sl o h Q q0 q1;obtain⟨s0,s1,s5⟩:=sl;unfold qY at h;refine bA (fun K hK=>aF ?_);unfold UY;rcases au h with⟨e2,h⟩|⟨e2,h⟩
    ·try refine ah ?_
     refine bO ?_;obtain⟨e3,h⟩:=aD h;obtain⟨x4,e5,h⟩:=aj h;obtain⟨x6,e7,h⟩:=aj h;rcases au h with⟨e8,h⟩|⟨e8,h⟩
     ·try refine ah ?_
      refine hK _ _ ?_;exact ih a_0 b_1 (IntKind.wrap .i64 (j4+1)) _ _ _ aO av _ h _ q0 q1
     ·obtain rfl:=ak h;try refine ah ?_
      exact q1 _ _ rfl aO av
    ·obtain rfl:=ak h;try refine ah ?_
     exact q0 _ _ rfl aO
def FZ (k:Nat) (a_0:List Str) (b_1:List Str):Option Bool:=
  cond ((a_0.length:Int) !=(b_1.length:Int)) (some false) (Option.bind (qY k a_0 b_1 0) (fun o=>Sum.elim (fun pI=>some true) (fun xX=>some xX) o))
theorem Wz {k:Nat} {a_0:List Str} {b_1:List Str} {c0 c1:Ck} {r:Bool} (h:FZ k a_0 b_1=some r):aG Tryz.prog 29 [(.aB (a_0.map aX) c0),(.aB (b_1.map aX) c1)] (.bool r):=by
  refine aG.lw (.aB (.aB .nil)) (aG.aR (bB.mem (.cons (bC cO _) (.cons (bC cO _) .nil))) (aI auZ (by simp) (aF ?_)) (.bool _));unfold FZ at h;unfold aoy;rcases au h with⟨e1,h⟩|⟨e1,h⟩
  ·obtain rfl:=ak h;try refine ah ?_
   exact(.pure _ (.bool _))
  ·try refine ah ?_
   obtain⟨o9,h10,h⟩:=aj h;refine OM k a_0 b_1 0 _ _ _ (Fr.refl _ _) av _ h10 _ ?_ ?_
   ·rintro pI σ' eo Q6;subst eo;rw [dD]at h;obtain rfl:=ak h;try refine ah ?_
    exact(.pure _ (.bool _))
   ·rintro xX σ' eo Q7 qH;subst eo;rw [dK]at h;obtain rfl:=ak h;try refine ah ?_
    exact(.pure _ (.bool _))
def SG (aT:Int):Option Int:=
  cond (decide (aT<0)) (some (IntKind.wrap .i64 (0 -aT))) (some aT)
theorem amJ {aT:Int} {r:Int} (h:SG aT=some r):aG Tryz.prog 160 [(.int .i64 aT)] (.int .i64 r):=by
  refine aG.aR (bB.mem (.cons (.int _ _) .nil)) (aI asM (by simp) (aF ?_)) (.int _ _);unfold SG at h;unfold akY;rcases au h with⟨e1,h⟩|⟨e1,h⟩
  ·obtain rfl:=ak h;try refine ah ?_
   exact(.pure _ (.int _ _))
  ·obtain rfl:=ak h;try refine ah ?_
   exact(.pure _ (.int _ _))
def wo:Nat->Int->Str->Option Str
  |0,_,_=>none
  |k+1,aT,gT=>
    Option.bind (SG (aT.tmod 10)) fun p2=>if 0<=p2/\p2<=(IntKind.wrap .i64 (p2+1))/\(IntKind.wrap .i64 (p2+1)).toNat<=10 then if((([48,49,50,51,52,53,54,55,56,57]:Str).take (IntKind.wrap .i64 (p2+1)).toNat).drop p2.toNat).length+gT.length<=4611686018427387904 then cond ((IntKind.wrap .i64 (aT.tdiv 10))==0) (some ((((([48,49,50,51,52,53,54,55,56,57]:Str).take (IntKind.wrap .i64 (p2+1)).toNat).drop p2.toNat)++gT))) (wo k (IntKind.wrap .i64 (aT.tdiv 10)) (((([48,49,50,51,52,53,54,55,56,57]:Str).take (IntKind.wrap .i64 (p2+1)).toNat).drop p2.toNat)++gT))else none else none
def SH:List Nat:=[0,3,5]++List.range' 8 13
theorem acJ: ∀(k:Nat) (aT:Int) (gT:Str) (aC σ:Nat->PV) (H:AH) (f0:Fr SH aC σ) (sl:σ 0=(.int .i64 aT)/\σ 3=(.str gT)) (o:Str) (h:wo k aT gT=some o) (Q:Post) (q0: ∀(p:Str) (σ':Nat->PV),o=p->Fr SH aC σ'->(σ' 3=(.str p))->Q (.exit 0) σ' H),W Tryz.prog (.loop Qo) Q σ H:=by
  intro k
  induction k with
  |zero=>intro aT gT aC σ H f0 sl o h Q q0;simp only [wo,reduceCtorEq]at h
  |succ k ih=>
    intro aT gT aC σ H f0 sl o h Q q0;obtain⟨s0,s3⟩:=sl;unfold wo at h;refine bA (fun K hK=>aF ?_);unfold Qo;obtain⟨p2,e1,h⟩:=aj h;try refine ah ?_
    refine aA (amJ e1) ?_;obtain⟨e3,h⟩:=aD h;obtain⟨e4,h⟩:=aD h;try refine ah ?_
    refine aN (aP e4) ?_;rcases au h with⟨e5,h⟩|⟨e5,h⟩
    ·obtain rfl:=ak h;try refine ah ?_
     exact q0 _ _ rfl aO av
    ·try refine ah ?_
     refine hK _ _ ?_;exact ih (IntKind.wrap .i64 (aT.tdiv 10)) (((([48,49,50,51,52,53,54,55,56,57]:Str).take (IntKind.wrap .i64 (p2+1)).toNat).drop p2.toNat)++gT) _ _ _ aO av _ h _ q0
def MJ (k:Nat) (aT:Int):Option Str:=
  Option.bind (wo k aT ([]:Str)) (fun p8=>cond (decide (aT<0)) (if([45]:Str).length+p8.length<=4611686018427387904 then some (45::p8)else none) (some p8))
theorem aiF {k:Nat} {aT:Int} {r:Str} (h:MJ k aT=some r):aG Tryz.prog 103 [(.int .i64 aT)] (.str r):=by
  refine aG.aR (bB.mem (.cons (.int _ _) .nil)) (aI ar8 (by simp) (aF ?_)) (.str _);unfold MJ at h;unfold aki;try refine ah ?_
  obtain⟨o6,h7,h⟩:=aj h;refine acJ k aT ([]:Str) _ _ _ (Fr.refl _ _) av _ h7 _ ?_
  ·rintro p8 σ' eo O4 s12;rw [eo]at h;have s13:σ' 4=(.bool (decide (aT<0))):=(O4 4 (by decide)).trans av;rcases au h with⟨e14,h⟩|⟨e14,h⟩
   ·obtain⟨e15,h⟩:=aD h;try refine ah ?_
    refine aN (aP e15) ?_;obtain rfl:=ak h;try refine ah ?_
    exact(.pure _ (.str _))
   ·obtain rfl:=ak h;try refine ah ?_
    exact(.pure _ (.str _))
def CW (yB:Int):Option Bool:=
  cond (yB==8) (some ((yB==8))) (cond (yB==9) (some ((yB==9))) (cond (yB==10) (some ((yB==10))) (cond (yB==11) (some ((yB==11))) (cond (yB==12) (some ((yB==12))) (cond (yB==21) (some ((yB==21))) (cond (yB==22) (some ((yB==22))) (cond (yB==23) (some ((yB==23))) (some ((yB==24))))))))))
def MK:List Nat:=List.range' 4 10
theorem YP: ∀(yB:Int) (aC σ:Nat->PV) (H:AH) (f0:Fr MK aC σ) (sl:σ 3=(.int .i64 yB)) (o:Bool) (h:CW yB=some o) (Q:Post) (q0: ∀(p:Bool) (σ':Nat->PV),o=p->Fr MK aC σ'->(σ' 4=(.bool p))->Q .normal σ' H),W Tryz.prog UU Q σ H:=by
  intro yB aC σ H f0 sl o h Q q0;have s3:=sl;unfold CW at h;refine aF ?_;unfold UU;rcases au h with⟨e1,h⟩|⟨e1,h⟩
  ·obtain rfl:=ak h;try refine ah ?_
   exact q0 _ _ rfl aO av
  ·rcases au h with⟨e2,h⟩|⟨e2,h⟩
   ·obtain rfl:=ak h;try refine ah ?_
    exact q0 _ _ rfl aO av
   ·rcases au h with⟨e3,h⟩|⟨e3,h⟩
    ·obtain rfl:=ak h;try refine ah ?_
     exact q0 _ _ rfl aO av
    ·rcases au h with⟨e4,h⟩|⟨e4,h⟩
     ·obtain rfl:=ak h;try refine ah ?_
      exact q0 _ _ rfl aO av
     ·rcases au h with⟨e5,h⟩|⟨e5,h⟩
      ·obtain rfl:=ak h;try refine ah ?_
       exact q0 _ _ rfl aO av
      ·rcases au h with⟨e6,h⟩|⟨e6,h⟩
       ·obtain rfl:=ak h;try refine ah ?_
        exact q0 _ _ rfl aO av
       ·rcases au h with⟨e7,h⟩|⟨e7,h⟩
        ·obtain rfl:=ak h;try refine ah ?_
         exact q0 _ _ rfl aO av
        ·rcases au h with⟨e8,h⟩|⟨e8,h⟩
         ·obtain rfl:=ak h;try refine ah ?_
          exact q0 _ _ rfl aO av
         ·obtain rfl:=ak h;try refine ah ?_
          exact q0 _ _ rfl aO av
def F3 (dL:Int):Option Bool:=
  Option.bind (CW dL) (fun pI=>cond pI (some true) (some false))
theorem aeY {dL:Int} {r:Bool} (h:F3 dL=some r):aG Tryz.prog 24 [(.int .i64 dL)] (.bool r):=by
  refine aG.aR (bB.mem (.cons (.int _ _) .nil)) (aI aot (by simp) (aF ?_)) (.bool _);unfold F3 at h;unfold aos;try refine ah ?_
  obtain⟨o9,h10,h⟩:=aj h;refine YP dL _ _ _ (Fr.refl _ _) av _ h10 _ ?_
  ·rintro pI σ' eo Q6 s15;rw [eo]at h;rcases au h with⟨e16,h⟩|⟨e16,h⟩
   ·obtain rfl:=ak h;try refine ah ?_
    exact(.pure _ (.bool _))
   ·obtain rfl:=ak h;try refine ah ?_
    exact(.pure _ (.bool _))
def mZ:Nat->(List Str)->Str->Int->Option Str
  |0,_,_,_=>none
  |k+1,bT,gT,cK=>
    cond (decide (cK<(bT.length:Int))) (cond (decide (cK>0)) (if gT.length+([44,32]:Str).length<=4611686018427387904 then if 0<=cK then Option.bind (bT[cK.toNat]?) fun x5=>if(gT++([44,32]:Str)).length+x5.length<=4611686018427387904 then mZ k bT (gT++(44::32::x5)) (IntKind.wrap .i64 (cK+1))else none else none else none) (if 0<=cK then Option.bind (bT[cK.toNat]?) fun x9=>if gT.length+x9.length<=4611686018427387904 then mZ k bT (gT++x9) (IntKind.wrap .i64 (cK+1))else none else none)) (some (gT))
def Pt:List Nat:=List.range' 3 18
theorem aaN: ∀(k:Nat) (bT:List Str) (gT:Str) (cK:Int) (aC σ:Nat->PV) (H:AH) (f0:Fr Pt aC σ) (sl:σ 0=(.aB (bT.map aX) .unk)/\σ 3=(.str gT)/\σ 4=(.int .i64 cK)) (o:Str) (h:mZ k bT gT cK=some o) (Q:Post) (q0: ∀(p:Str) (σ':Nat->PV),o=p->Fr Pt aC σ'->(σ' 3=(.str p))->Q (.exit 0) σ' H),W Tryz.prog (.loop QO) Q σ H:=by
  intro k
  induction k with
  |zero=>intro bT gT cK aC σ H f0 sl o h Q q0;simp only [mZ,reduceCtorEq]at h
  |succ k ih=>
    intro bT gT cK aC σ H f0 sl o h Q q0;obtain⟨s0,s3,s4⟩:=sl;unfold mZ at h;refine bA (fun K hK=>aF ?_);unfold QO;rcases au h with⟨e1,h⟩|⟨e1,h⟩
    ·rcases au h with⟨e2,h⟩|⟨e2,h⟩
     ·obtain⟨e3,h⟩:=aD h;try refine ah ?_
      refine aN (aP e3) ?_;obtain⟨e4,h⟩:=aD h;obtain⟨x5,e6,h⟩:=aj h;obtain⟨e7,h⟩:=aD h;try refine ah ?_
      refine aN (aP e7) ?_;try refine ah ?_
      refine hK _ _ ?_;exact ih bT (gT++(44::32::x5)) (IntKind.wrap .i64 (cK+1)) _ _ _ aO av _ h _ q0
     ·obtain⟨e8,h⟩:=aD h;obtain⟨x9,e10,h⟩:=aj h;obtain⟨e11,h⟩:=aD h;try refine ah ?_
      refine aN (aP e11) ?_;try refine ah ?_
      refine hK _ _ ?_;exact ih bT (gT++x9) (IntKind.wrap .i64 (cK+1)) _ _ _ aO av _ h _ q0
    ·obtain rfl:=ak h;try refine ah ?_
     exact q0 _ _ rfl aO av
def zD (k:Nat) (bT:List Str):Option Str:=
  Option.bind (mZ k bT ([]:Str) 0) (fun ig=>some ig)
theorem Hw {k:Nat} {bT:List Str} {c0:Ck} {r:Str} (h:zD k bT=some r):aG Tryz.prog 165 [(.aB (bT.map aX) c0)] (.str r):=by
  refine aG.lw (.aB .nil) (aG.aR (bB.mem (.cons (bC cO _) .nil)) (aI asR (by simp) (aF ?_)) (.str _));unfold zD at h;unfold ak3;try refine ah ?_
  obtain⟨o12,Jk,h⟩:=aj h;refine aaN k bT ([]:Str) 0 _ _ _ (Fr.refl _ _) av _ Jk _ ?_
  ·rintro ig σ' eo vS pK;rw [eo]at h;obtain rfl:=ak h;try refine ah ?_
   exact(.pure _ (.str _))
def wu (aH:List Nd):Option Nd:=
  if 0<=(IntKind.wrap .i64 ((aH.length:Int) -1))then Option.bind (aH[(IntKind.wrap .i64 ((aH.length:Int) -1)).toNat]?) fun x2=>some x2 else none
theorem F4 {aH:List Nd} {c0:Ck} {r:Nd} (h:wu aH=some r):aG Tryz.prog 21 [(.aB (aH.map Nd.cells) c0)] (.agg (Nd.cells r)):=by
  refine aG.lw (.aB .nil) (aG.aR (bB.mem (.cons (bC Nd.pu _) .nil)) (aI aoo (by simp) (aF ?_)) (.agg _ (Nd.pu _)));unfold wu at h;unfold aon;obtain⟨e1,h⟩:=aD h;obtain⟨x2,e3,h⟩:=aj h;obtain rfl:=ak h;try refine ah ?_
  exact(dH (.cons (.pure _ (.int _ _)) (.cons (.pure _ (.int _ _)) (.cons (.pure _ (.str _)) (.cons (jr cO _ _) (.cons (jr jg _ _) .nil))))))
def Kt (gy:Int):Option Bool:=
  cond (gy==6) (some ((gy==6))) (cond (gy==12) (some ((gy==12))) (cond (gy==7) (some ((gy==7))) (cond (gy==8) (some ((gy==8))) (cond (gy==9) (some ((gy==9))) (cond (gy==13) (some ((gy==13))) (cond (gy==10) (some ((gy==10))) (cond (gy==11) (some ((gy==11))) (some ((gy==24))))))))))
def Pv:List Nat:=List.range' 14 10
theorem aaO: ∀(gy:Int) (aC σ:Nat->PV) (H:AH) (f0:Fr Pv aC σ) (sl:σ 13=(.int .i64 gy)) (o:Bool) (h:Kt gy=some o) (Q:Post) (q0: ∀(p:Bool) (σ':Nat->PV),o=p->Fr Pv aC σ'->(σ' 14=(.bool p))->Q .normal σ' H),W Tryz.prog QE Q σ H:=by
  intro gy aC σ H f0 sl o h Q q0;have s13:=sl;unfold Kt at h;refine aF ?_;unfold QE;rcases au h with⟨e1,h⟩|⟨e1,h⟩
  ·obtain rfl:=ak h;try refine ah ?_
   exact q0 _ _ rfl aO av
  ·rcases au h with⟨e2,h⟩|⟨e2,h⟩
   ·obtain rfl:=ak h;try refine ah ?_
    exact q0 _ _ rfl aO av
   ·rcases au h with⟨e3,h⟩|⟨e3,h⟩
    ·obtain rfl:=ak h;try refine ah ?_
     exact q0 _ _ rfl aO av
    ·rcases au h with⟨e4,h⟩|⟨e4,h⟩
     ·obtain rfl:=ak h;try refine ah ?_
      exact q0 _ _ rfl aO av
     ·rcases au h with⟨e5,h⟩|⟨e5,h⟩
      ·obtain rfl:=ak h;try refine ah ?_
       exact q0 _ _ rfl aO av
      ·rcases au h with⟨e6,h⟩|⟨e6,h⟩
       ·obtain rfl:=ak h;try refine ah ?_
        exact q0 _ _ rfl aO av
       ·rcases au h with⟨e7,h⟩|⟨e7,h⟩
        ·obtain rfl:=ak h;try refine ah ?_
         exact q0 _ _ rfl aO av
        ·rcases au h with⟨e8,h⟩|⟨e8,h⟩
         ·obtain rfl:=ak h;try refine ah ?_
          exact q0 _ _ rfl aO av
         ·obtain rfl:=ak h;try refine ah ?_
          exact q0 _ _ rfl aO av
def Oi (aT:Nd) (Fa:Int):Option (List Str):=
  Option.bind (Kt aT.kind) (fun pI=>cond pI (cond (Fa==(IntKind.wrap .i64 ((aT.args.length:Int) -1))) (some aT.names) (some [])) (cond (aT.kind==23) (cond (Fa==(IntKind.wrap .i64 ((aT.args.length:Int) -1))) (if 1<=aT.names.length then some (aT.names.take 1)else none) (cond (aT.n==1) (some aT.names) (if 1<=aT.names.length then some (aT.names.drop 1)else none))) (some [])))
theorem agE {aT:Nd} {Fa:Int} {r:List Str} (h:Oi aT Fa=some r):aG Tryz.prog 121 [(.agg (Nd.cells aT)),(.int .i64 Fa)] (.aB (r.map aX) .unk):=by
  refine aG.aR (bB.mem (.cons (.agg _ (Nd.pu _)) (.cons (.int _ _) .nil))) (aI asj (by simp) (aF ?_)) (bC cO _);unfold Oi at h;unfold akA;try refine ah ?_
  obtain⟨o9,h10,h⟩:=aj h;refine aaO aT.kind _ _ _ (Fr.refl _ _) av _ h10 _ ?_
  ·rintro pI σ' eo Q6 s15;rw [eo]at h;have s16:σ' 2=(.ref (AH.empty.next) 0):=(Q6 2 (by decide)).trans av;have s17:σ' 5=(.bool (Fa==(IntKind.wrap .i64 ((aT.args.length:Int) -1)))):=(Q6 5 (by decide)).trans av;have pK:σ' 13=(.int .i64 aT.kind):=(Q6 13 (by decide)).trans av;rcases au h with⟨e19,h⟩|⟨e19,h⟩
   ·rcases au h with⟨e20,h⟩|⟨e20,h⟩
    ·obtain rfl:=ak h;try refine ah ?_
     exact(jr cO _ _)
    ·obtain rfl:=ak h;try refine ah ?_
     exact(jr cO [] _)
   ·rcases au h with⟨e21,h⟩|⟨e21,h⟩
    ·rcases au h with⟨e22,h⟩|⟨e22,h⟩
     ·obtain⟨e23,h⟩:=aD h;obtain rfl:=ak h;try refine ah ?_
      exact(jr cO _ _)
     ·rcases au h with⟨e24,h⟩|⟨e24,h⟩
      ·obtain rfl:=ak h;try refine ah ?_
       exact(jr cO _ _)
      ·obtain⟨e25,h⟩:=aD h;obtain rfl:=ak h;try refine ah ?_
       exact(jr cO _ _)
    ·obtain rfl:=ak h;try refine ah ?_
     exact(jr cO [] _)
end Go.VL
end
section
namespace Go.VL
theorem down {p:Nat->Prop} {len:Nat} (h0:p len) (h1: ∀i,i<len->p (i+1)->p i): ∀i,i<=len->p i:=by
  intro i hi;obtain⟨n,rfl⟩: ∃n,len=i+n:=⟨len -i,by omega⟩
  induction n generalizing i with
  |zero=>exact h0
  |succ n ih=>exact h1 i (by omega) (ih (i+1) (by rw [Nat.add_right_comm];exact h0) (by rw [Nat.add_right_comm];exact h1) (by omega))
theorem jD {p:Nat->Prop} {len:Nat} (h0:p len) (h1: ∀i,i<len->p (i+1)->p i):p 0:=down h0 h1 0 (Nat.zero_le _)
theorem dQ {i n:Nat} (hi:i<n) (hn:n<=1099511627776):IntKind.wrap .i64 ((i:Int)+1)=((i+1:Nat):Int):=by rw [wrap64 (by omega) (by omega)];omega
theorem kX {i n:Nat} (h:i<n):decide ((i:Int)<(n:Int))=true:=decide_eq_true (by omega)
theorem jl (n:Nat):decide ((n:Int)<(n:Int))=false:=decide_eq_false (by omega)
theorem nn (i:Nat):(0:Int)<=(i:Int):=by omega
theorem aaP (b:Bool):Sd b=some (if b=true then 1 else 0):=by cases b<;>rfl
theorem nP (n lo hi:Int):iQ n lo hi=some (decide (lo<=n/\n<=hi)):=by
  unfold iQ;by_cases h:lo<=n
  · simp [h,ge_iff_le]
  · simp [h,ge_iff_le]
theorem qZ (n lo hi:Int):gU n lo hi=some (decide (lo<=n/\n<=hi)):=by
  unfold gU;by_cases h:lo<=n
  · simp [h]
  · simp [h]
theorem AJ (b:Bool) (c:Int):mM b c=some (if b=true then c else 0):=by cases b<;>rfl
theorem Ci {α:Type} {l:List α} {i:Nat} (h:i<l.length) {s:α}:s∈l.drop i↔l[i]=s\/s∈l.drop (i+1):=by
  rw [List.drop_eq_getElem_cons h,List.mem_cons];exact or_congr_left eq_comm
theorem El (l:List Str) (s:Str) (hl:l.length<=1099511627776):Ev (fun k=>xw k l s) (decide (s∈l)):=by
  have key:Ev (fun k=>kS k l s ((0:Nat):Int)) (if s∈l.drop 0 then .inr true else .inl ()):=by
    refine jD (len:=l.length) (p:=fun i=>Ev (fun k=>kS k l s (i:Int)) (if s∈l.drop i then .inr true else .inl ())) ?_ fun i hi ih=> ?_
    · refine Ev.succ ?_;simp only [kS];refine Ev.cF (jl _) (Ev.some' ?_);simp
    · refine Ev.succ ?_;simp only [kS,Int.toNat_natCast,aZ hi,Option.bind_some,nn,if_true,kX hi,cond_true,dQ hi hl];by_cases h:l[i]=s
      · refine Ev.cT (by rw [beq_iff_eq];exact h) (Ev.some' ?_);rw [if_pos ((Ci hi).2 (.inl h))]
      · refine Ev.cF (by rw [beq_eq_false_iff_ne];exact h) (ih.to ?_);simp only [Ci hi,h,false_or]
  unfold xw;refine Ev.bind key ?_;rw [List.drop_zero];by_cases h:s∈l
  · simp only [h,if_true,dK,decide_true];exact Ev.some
  · simp only [h,if_false,dD,decide_false];exact Ev.some
theorem Em (l:List Str) (s:Str) (hl:l.length<=1099511627776):Ev (fun k=>dV k l s) (decide (s∈l)):=by
  have key: ∃o:Unit⊕Int,Ev (fun k=>dJ k l s (l.length:Int) ((0:Nat):Int)) o/\((o= .inl ()/\ ¬s∈l.drop 0)\/(∃j:Nat,o= .inr (j:Int))/\s∈l.drop 0):=by
    refine jD (len:=l.length) (p:=fun i=> ∃o:Unit⊕Int,Ev (fun k=>dJ k l s (l.length:Int) (i:Int)) o/\((o= .inl ()/\ ¬s∈l.drop i)\/(∃j:Nat,o= .inr (j:Int))/\s∈l.drop i)) ?_ fun i hi ⟨o,ih,ho⟩=> ?_
    · refine⟨.inl (),Ev.succ ?_,.inl ⟨rfl,by simp⟩⟩;simp only [dJ];exact Ev.cF (jl _) Ev.some
    · by_cases h:l[i]=s
      · refine⟨.inr (i:Int),Ev.succ ?_,.inr ⟨⟨i,rfl⟩,(Ci hi).2 (.inl h)⟩⟩;simp only [dJ,Int.toNat_natCast,aZ hi,Option.bind_some,nn,if_true,kX hi,cond_true,dQ hi hl];exact Ev.cT (by rw [beq_iff_eq];exact h.symm) Ev.some
      · refine⟨o,Ev.succ ?_,by simp only [Ci hi,h,false_or];exact ho⟩;simp only [dJ,Int.toNat_natCast,aZ hi,Option.bind_some,nn,if_true,kX hi,cond_true,dQ hi hl];exact Ev.cF (by rw [beq_eq_false_iff_ne];exact fun e=>h e.symm) ih
  obtain⟨o,h1,h2⟩:=key;rw [List.drop_zero]at h2;unfold dV;rcases h2 with⟨rfl,h2⟩|⟨⟨j,rfl⟩,h2⟩
  · refine Ev.bind (x:= -1) (by unfold lC;exact Ev.bind h1 Ev.some) (Ev.some' ?_);simp [h2]
  · refine Ev.bind (x:=(j:Int)) (by unfold lC;exact Ev.bind h1 Ev.some) (Ev.some' ?_);simp [h2]
def yC:Operator:=Operator.mk [] 0 0 0 false 0 0
def bY (l:List Operator) (t:Str):Operator×Bool:=match l with
  |[]=>(yC,false)
  |o::l=>if o.text=t then(o,true)else bY l t
def aeZ (x:Operator):Operator:=Operator.mk x.text x.fix x.low x.high x.left (if x.fix=1 then 2 else 1) (if x.text=[92,88]then 4 else if x.fix=1 then 2 else 1)
theorem YQ (add:List Operator) (hl:add.length<=1000): ∀i,i<=add.length-> ∀out:List Operator,out.length=i->Ev (fun k=>mV k out add (i:Int)) (out++(add.drop i).map aeZ):=by
  refine down (p:=fun i=> ∀out:List Operator,out.length=i->Ev (fun k=>mV k out add (i:Int)) (out++(add.drop i).map aeZ)) ?_ fun i hi ih out ho=> ?_
  · intro out ho;refine Ev.succ ?_;simp only [mV];refine Ev.cF (jl _) (Ev.some' ?_);simp
  · refine Ev.succ ?_;simp only [mV,Int.toNat_natCast,aZ hi,Option.bind_some,nn,if_true,kX hi,cond_true,dQ hi (by omega),aaP];have e1:(out.length+1)*64<=1099511627776:=by omega
    have e2:IntKind.wrap .i64 (1+if(add[i].fix==1)=true then 1 else 0)=if add[i].fix=1 then 2 else 1:=by
      by_cases h:add[i].fix=1
      · simp [h];rfl
      · simp [h];rfl
    simp only [if_pos e1,e2];by_cases h:add[i].text=[92,88]
    · refine Ev.cT (by rw [beq_iff_eq];exact h) ((ih _ (by simp [ho])).to ?_);rw [List.drop_eq_getElem_cons hi,List.map_cons,List.append_assoc];simp [aeZ,h]
    · refine Ev.cF (by rw [beq_eq_false_iff_ne];exact h) ((ih _ (by simp [ho])).to ?_);rw [List.drop_eq_getElem_cons hi,List.map_cons,List.append_assoc];simp [aeZ,h]
def dF:List Operator:=(E8 60).getD []
theorem ae0:Ev (fun k=>E8 k) dF:=by
  unfold E8;exact Ev.bind (YQ _ (by simp) 0 (Nat.zero_le _) [] rfl) (Ev.some' (by kernel_rfl))
theorem vF (t:Str):Ev (fun k=>nM k t) (bY dF t):=by
  have hlen:dF.length≤1099511627776:=by
    have:dF.length=42:=by kernel_rfl
    omega
  have key: ∀(l:List Operator),l.length<=1099511627776->Ev (fun k=>jw k t ([]:Str) 0 0 0 false 0 0 l ((0:Nat):Int)) (match bY (l.drop 0) t with|(o,true)=> .inr (true,o.text,o.fix,o.low,o.high,o.left,o.least,o.most)|(_,false)=> .inl (([]:Str),0,0,0,false,0,0)):=by
    intro l hl;refine jD (len:=l.length) (p:=fun i=>Ev (fun k=>jw k t ([]:Str) 0 0 0 false 0 0 l (i:Int)) (match bY (l.drop i) t with|(o,true)=> .inr (true,o.text,o.fix,o.low,o.high,o.left,o.least,o.most)|(_,false)=> .inl (([]:Str),0,0,0,false,0,0))) ?_ fun i hi ih=> ?_
    · refine Ev.succ ?_;simp only [jw];refine Ev.cF (jl _) (Ev.some' ?_);simp [bY]
    · refine Ev.succ ?_;simp only [jw,Int.toNat_natCast,aZ hi,Option.bind_some,nn,if_true,kX hi,cond_true,dQ hi hl];have e1:List.drop i l=l[i]::List.drop (i+1) l:=List.drop_eq_getElem_cons hi;by_cases h:l[i].text=t
      · refine Ev.cT (by rw [beq_iff_eq];exact h) (Ev.some' ?_);rw [e1,bY,if_pos h]
      · refine Ev.cF (by rw [beq_eq_false_iff_ne];exact h) (ih.to ?_);rw [e1,bY,if_neg h]
  have hk:=key dF hlen;rw [List.drop_zero]at hk;unfold nM;refine Ev.bind ae0 (Ev.bind hk ?_);have hno: ∀l:List Operator,(bY l t).2=false->(bY l t).1=yC:=by
    intro l
    induction l with
    |nil=>intro _;rfl
    |cons o l ih=>
      intro h;rw [bY]at h⊢;by_cases e:o.text=t
      · rw [if_pos e]at h;cases h
      · rw [if_neg e]at h⊢;exact ih h
  have:=hno dF;generalize bY dF t=r at this;obtain⟨o,b⟩:=r;cases b with
  |true=>simp only [dK];exact Ev.some
  |false=>simp only [dD];exact Ev.some' (by rw [show o=yC from this rfl];rfl)
end Go.VL
end
section
namespace Go.VL
def isLet (c:UInt8):Bool:=decide (97<=c.toNat/\c.toNat<=122)||decide (65<=c.toNat/\c.toNat<=90)
def CX (c:UInt8):Bool:=decide (48<=c.toNat/\c.toNat<=57)
def gX (c:UInt8):Bool:=isLet c||CX c||decide (c.toNat=95)
def Pw:List Str:=Af.getD []
theorem YR:Af=some Pw:=rfl
theorem adI:Pw.length=50:=by kernel_rfl
def bName (s:Str):Bool:=decide (1<=s.length/\s.length<=24)&& !decide (s∈Pw)&&s.all gX&&s.any isLet
def tV (s:Str):Bool:=decide (s=[84,82,85,69])||decide (s=[70,65,76,83,69])||decide (s=[66,79,79,76,69,65,78])||decide (s=[83,84,82,73,78,71])
def Yb (s:Str):Bool:=decide (s.take 3=[87,70,95])||decide (s.take 3=[83,70,95])
def rName (s:Str):Bool:=bName s&& !tV s&& !Yb s
def bang:Str->Option (Str×Str)
  |[]=>none
  |c::s=>if c=33 then some ([],s)else(bang s).map fun p=>(c::p.1,p.2)
def jE (s:Str):Bool:=match bang s with
  |some (a,b)=>rName a&&rName b
  |none=>rName s
theorem En (c:UInt8):tH (c.toNat:Int)=some (isLet c):=by
  unfold tH isLet;generalize c.toNat=n;by_cases h1:97<=n<;>by_cases h2:n<=122<;>by_cases h3:65<=n<;>by_cases h4:n<=90<;>simp [h1,h2,h3,h4,ge_iff_le,show((97:Int)<=n)=(97<=n) by rw [eq_iff_iff];omega,show((n:Int)<=122)=(n<=122) by rw [eq_iff_iff];omega,show((65:Int)<=n)=(65<=n) by rw [eq_iff_iff];omega,show((n:Int)<=90)=(n<=90) by rw [eq_iff_iff];omega]
theorem ML (c:UInt8):zy (c.toNat:Int)=some (CX c):=by
  unfold zy CX;generalize c.toNat=n;by_cases h1:48<=n<;>by_cases h2:n<=57<;>simp [h1,h2,ge_iff_le,show((48:Int)<=n)=(48<=n) by rw [eq_iff_iff];omega,show((n:Int)<=57)=(n<=57) by rw [eq_iff_iff];omega]
theorem drop_cons {α:Type} {l:List α} {i:Nat} (h:i<l.length):List.drop i l=l[i]::List.drop (i+1) l:=List.drop_eq_getElem_cons h
theorem WA (s:Str) (i:Nat) (h:i<s.length) (t:Bool):yx s (i:Int) t=some (t&& !CX s[i]&& !decide (s[i].toNat=95)):=by
  unfold yx;simp only [Int.toNat_natCast,aZ h,Option.bind_some,nn,if_true,ML];cases t
  · rfl
  · cases CX s[i]
    · simp only [cond_true,cond_false,Bool.true_and,Bool.not_false];congr 1
      by_cases e:s[i].toNat=95
      · simp [e]
      · simp only [e,decide_false,Bool.not_false,bne_iff_ne,ne_eq];omega
    · rfl
theorem acK (s:Str):Ev (fun k=>FM k s) (bName s):=by
  unfold FM CV;simp only [nP,YR,Option.bind_some];by_cases h1:1<=s.length/\s.length<=24
  · have e1:(decide ((1:Int)<=(s.length:Int)/\(s.length:Int)<=24))=true:=decide_eq_true (by omega);simp only [e1,cond_true];by_cases h2:s∈Pw
    · refine Ev.bind (x:= .inr false) (Ev.bind (El _ _ (by rw [adI];omega)) (Ev.cT (decide_eq_true h2) Ev.some)) ?_;simp only [dK];exact Ev.some' (by simp [bName,h2])
    · refine Ev.bind (x:= .inl ()) (Ev.bind (El _ _ (by rw [adI];omega)) (Ev.cF (decide_eq_false h2) Ev.some)) ?_;simp only [dD];have hb:s.length<=1099511627776:=by omega
      have key: ∀l:Bool,Ev (fun k=>lM k s l ((0:Nat):Int)) (if(s.drop 0).all gX=true then .inl (l||(s.drop 0).any isLet)else .inr false):=by
        refine jD (len:=s.length) (p:=fun i=> ∀l:Bool,Ev (fun k=>lM k s l (i:Int)) (if(s.drop i).all gX=true then .inl (l||(s.drop i).any isLet)else .inr false)) ?_ fun i hi ih l=> ?_
        · intro l;refine Ev.succ ?_;simp only [lM];refine Ev.cF (jl _) (Ev.some' ?_);simp
        · refine Ev.succ ?_;simp only [lM,Int.toNat_natCast,aZ hi,Option.bind_some,nn,if_true,kX hi,cond_true,dQ hi hb,En,WA s i hi];rw [drop_cons hi];simp only [List.all_cons,List.any_cons];by_cases hc:gX s[i]=true
          · refine Ev.cF ?_ ?_
            · unfold gX at hc;revert hc;cases isLet s[i]<;>cases CX s[i]<;>cases decide (s[i].toNat=95)<;>simp
            · simp only [hc,Bool.true_and];cases l
              · simp only [cond_false,Bool.false_or];exact ih _
              · simp only [cond_true,Bool.true_or];exact(ih true).to (by simp)
          · refine Ev.cT ?_ (Ev.some' ?_)
            · unfold gX at hc;revert hc;cases isLet s[i]<;>cases CX s[i]<;>cases decide (s[i].toNat=95)<;>simp
            · simp [hc]
      refine Ev.bind (key false) ?_;rw [List.drop_zero];by_cases h3:s.all gX=true
      · simp only [h3,if_true,dD];exact Ev.some' (by simp [bName,h1,h2,h3])
      · simp only [h3,dK];exact Ev.some' (by simp [bName,h3])
  · have e1:(decide ((1:Int)<=(s.length:Int)/\(s.length:Int)<=24))=false:=decide_eq_false (by omega);simp only [e1,cond_false,Option.bind_some,dK];exact Ev.some' (by simp [bName,h1])
theorem l8 (a b:Str):(a==b)=decide (a=b):=by
  by_cases h:a=b
  · simp [h]
  · simp [h]
theorem F5 (s:Str):zA s=some (tV s):=by
  unfold zA tV;simp only [l8];cases decide (s=[84,82,85,69])<;>cases decide (s=[70,65,76,83,69])<;>cases decide (s=[66,79,79,76,69,65,78])<;>rfl
theorem aaQ (s:Str):Du s=some (tV s):=F5 s
theorem rT (s:Str):Ev (fun k=>qx k s) (rName s):=by
  unfold qx;refine Ev.bind (acK s) ?_;simp only [F5,Option.bind_some,l8];unfold rName;cases bName s
  · exact Ev.some
  · simp only [cond_true,Bool.true_and];cases tV s
    · simp only [cond_false,Bool.not_false,Bool.true_and];by_cases h:3<=s.length
      · refine Ev.cT (decide_eq_true (by omega)) (Ev.aQ h ?_);unfold Yb;cases decide (s.take 3=[87,70,95])<;>exact Ev.some
      · refine Ev.cF (decide_eq_false (by omega)) (Ev.some' ?_);unfold Yb;have e1: ¬s.take 3=[87,70,95]:=fun e=>h (by have:=congrArg List.length e;rw [List.length_take]at this;simp at this;omega);have e2: ¬s.take 3=[83,70,95]:=fun e=>h (by have:=congrArg List.length e;rw [List.length_take]at this;simp at this;omega);simp [e1,e2]
    · exact Ev.some
theorem agF (s:Str) (i:Nat) (h:i<s.length):bang (s.drop i)=if s[i]=33 then some ([],s.drop (i+1))else(bang (s.drop (i+1))).map fun p=>(s[i]::p.1,p.2):=by
  rw [drop_cons h,bang]
theorem IY (s:Str) (hb:s.length<=1099511627776):Ev (fun k=>zl k s) (jE s):=by
  have key: ∃o:Unit⊕Bool,Ev (fun k=>lN k s ((0:Nat):Int)) o/\(match bang (s.drop 0)with|some (a,b)=>o= .inr (rName (s.take 0++a)&&rName b)|none=>o= .inl ()):=by
    refine jD (len:=s.length) (p:=fun i=> ∃o:Unit⊕Bool,Ev (fun k=>lN k s (i:Int)) o/\(match bang (s.drop i)with|some (a,b)=>o= .inr (rName (s.take i++a)&&rName b)|none=>o= .inl ())) ?_ fun i hi ⟨o,ih,ho⟩=> ?_
    · refine⟨.inl (),Ev.succ ?_,by simp [bang]⟩;simp only [lN];exact Ev.cF (jl _) Ev.some
    · rw [agF s i hi];by_cases h:s[i]=33
      · refine⟨.inr (rName (s.take i)&&rName (s.drop (i+1))),Ev.succ ?_,by simp [h]⟩;simp only [lN,Int.toNat_natCast,aZ hi,Option.bind_some,nn,if_true,kX hi,cond_true,dQ hi hb,true_and];refine Ev.cT (by rw [h];rfl) (Ev.aQ (by omega) (Ev.bind (rT _) ?_));cases rName (s.take i)
        · exact Ev.some
        · simp only [cond_true,Bool.true_and];exact Ev.aQ (by omega) (Ev.bind (rT _) Ev.some)
      · refine⟨o,Ev.succ ?_,?_⟩
        · simp only [lN,Int.toNat_natCast,aZ hi,Option.bind_some,nn,if_true,kX hi,cond_true,dQ hi hb,true_and];refine Ev.cF ?_ ih;rw [beq_eq_false_iff_ne];intro e;refine h (UInt8.toNat_inj.1 ?_);show s[i].toNat=33
          omega
        · rw [if_neg h];revert ho;cases bang (s.drop (i+1))with
          |none=>exact id
          |some p=>
            obtain⟨a,b⟩:=p;simp only [Option.map_some];rw [List.take_succ_eq_append_getElem hi,List.append_assoc];exact id
  obtain⟨o,h1,h2⟩:=key;unfold zl;refine Ev.bind h1 ?_;unfold jE;rw [List.drop_zero]at h2;revert h2;cases bang s with
  |none=>intro h2;subst h2;simp only [dD];exact Ev.bind (rT s) Ev.some
  |some p=>
    obtain⟨a,b⟩:=p;intro h2;simp only [List.take_zero,List.nil_append]at h2;subst h2;simp only [dK];exact Ev.some
end Go.VL
end
section
namespace Go.VL
def gN (n lo hi:Int):Bool:=decide (lo<=n/\n<=hi)
def MN (c:UInt8):Bool:=decide (32<=c.toNat/\c.toNat<=126)&& !decide (c.toNat=34)&& !decide (c.toNat=92)
def wz (s:Str):Bool:=decide (s.length<=40)&&s.all MN
theorem aaR (s:Str) (m:Int) (hm:m<=1099511627776):Ev (fun k=>Dn k s m) (decide ((s.length:Int)<=m)&&s.all fun c=>decide (32<=c.toNat/\c.toNat<=126)):=by
  unfold Dn;by_cases h:(s.length:Int)<=m
  · refine Ev.cF (decide_eq_false (by omega)) ?_;have hb:s.length<=1099511627776:=by omega
    have key:Ev (fun k=>lV k s ((0:Nat):Int)) (if(s.drop 0).all (fun c=>decide (32<=c.toNat/\c.toNat<=126))=true then .inl ()else .inr false):=by
      refine jD (len:=s.length) (p:=fun i=>Ev (fun k=>lV k s (i:Int)) (if(s.drop i).all (fun c=>decide (32<=c.toNat/\c.toNat<=126))=true then .inl ()else .inr false)) ?_ fun i hi ih=> ?_
      · refine Ev.succ ?_;simp only [lV];exact Ev.cF (jl _) (Ev.some' (by simp))
      · refine Ev.succ ?_;simp only [lV,Int.toNat_natCast,aZ hi,Option.bind_some,nn,if_true,kX hi,cond_true,dQ hi hb];rw [drop_cons hi];simp only [List.all_cons,Bool.and_eq_true,decide_eq_true_eq];by_cases h1:32<=s[i].toNat
        · refine Ev.cF (decide_eq_false (by omega)) ?_;by_cases h2:s[i].toNat<=126
          · refine Ev.cF (decide_eq_false (by omega)) (ih.to ?_);simp only [h1,h2,true_and]
          · refine Ev.cT (decide_eq_true (by omega)) (Ev.some' ?_);simp only [h1,h2,and_false,false_and,if_false]
        · refine Ev.cT (decide_eq_true (by omega)) (Ev.some' ?_);simp only [h1,false_and,if_false]
    refine Ev.bind key ?_;rw [List.drop_zero];by_cases h3:(s.all fun c=>decide (32<=c.toNat/\c.toNat<=126))=true
    · simp only [h3,if_true,dD];exact Ev.some' (by simp [h])
    · simp only [h3,if_false,dK];exact Ev.some' (by simp)
  · refine Ev.cT (decide_eq_true (by omega)) (Ev.some' ?_);simp [h]
theorem ae1 (s:Str):Ev (fun k=>iI k s) (wz s):=by
  unfold iI;refine Ev.bind (aaR s 40 (by omega)) ?_;by_cases h0:s.length<=40
  · have h0':(s.length:Int)<=40:=by omega
    have hb:s.length<=1099511627776:=by omega
    have key:Ev (fun k=>oQ k s ((0:Nat):Int)) (if(s.drop 0).all (fun c=> !decide (c.toNat=34)&& !decide (c.toNat=92))=true then .inl ()else .inr false):=by
      refine jD (len:=s.length) (p:=fun i=>Ev (fun k=>oQ k s (i:Int)) (if(s.drop i).all (fun c=> !decide (c.toNat=34)&& !decide (c.toNat=92))=true then .inl ()else .inr false)) ?_ fun i hi ih=> ?_
      · refine Ev.succ ?_;simp only [oQ];exact Ev.cF (jl _) (Ev.some' (by simp))
      · refine Ev.succ ?_;simp only [oQ,Int.toNat_natCast,aZ hi,Option.bind_some,nn,if_true,kX hi,cond_true,dQ hi hb];rw [drop_cons hi];simp only [List.all_cons,Bool.and_eq_true,Bool.not_eq_true',decide_eq_false_iff_not];by_cases h1:s[i].toNat=34
        · refine Ev.cT (by rw [h1];rfl) (Ev.some' ?_);simp [h1]
        · refine Ev.cF (by rw [beq_eq_false_iff_ne];omega) ?_;by_cases h2:s[i].toNat=92
          · refine Ev.cT (by rw [h2];rfl) (Ev.some' ?_);simp [h2]
          · refine Ev.cF (by rw [beq_eq_false_iff_ne];omega) (ih.to ?_);simp [h1,h2]
    have hsplit:wz s=((s.all fun c=>decide (32<=c.toNat/\c.toNat<=126))&&s.all fun c=> !decide (c.toNat=34)&& !decide (c.toNat=92)):=by
      unfold wz;rw [decide_eq_true h0,Bool.true_and]
      induction s with
      |nil=>rfl
      |cons c l ih=>
        have: ∀a b c d:Bool,(a&&b&&(c&&d))=(a&&c&&(b&&d)):=by decide
        have e1: ∀l:Str,l.all MN=((l.all fun c=>decide (32<=c.toNat/\c.toNat<=126))&&l.all fun c=> !decide (c.toNat=34)&& !decide (c.toNat=92)):=by
          intro l
          induction l with
          |nil=>rfl
          |cons c l ih=>simp only [List.all_cons,ih,MN,Bool.and_assoc];cases decide (32<=c.toNat/\c.toNat<=126)<;>cases decide (c.toNat=34)<;>cases decide (c.toNat=92)<;>simp
        exact e1 _
    rw [hsplit];simp only [decide_eq_true h0',Bool.true_and];cases(s.all fun c=>decide (32<=c.toNat/\c.toNat<=126))
    · exact Ev.some
    · simp only [cond_true,Bool.true_and];refine Ev.bind key ?_;rw [List.drop_zero];cases h3:(s.all fun c=> !decide (c.toNat=34)&& !decide (c.toNat=92))
      · simp only [Bool.false_eq_true,if_false,dK];exact Ev.some
      · simp only [if_true,dD];exact Ev.some
  · have h0': ¬(s.length:Int)<=40:=by omega
    simp only [decide_eq_false h0',Bool.false_and,cond_false];exact Ev.some' (by simp [wz,h0])
def aY (kind:Int):(Int×Int×Int×Int)×Bool:=(sD kind).getD ((0,0,0,0),false)
theorem ae2 (kind:Int):sD kind=some (aY kind):=by
  have:(sD kind).isSome=true:=by
    unfold sD tK Ah Ai Aj Ak Al Am
    repeat' first
      |rfl
      |(generalize(kind==_)=b;cases b<;>simp only [cond_true,cond_false,Option.bind_some])
  unfold aY;cases h:sD kind with
  |none=>rw [h]at this;cases this
  |some v=>rfl
def nY (n:Nd):Bool:=
  let s:=aY n.kind
  let o:=(bY dF n.text).2&&decide (n.kind=3)
  let lo:=if o=true then 0 else s.1.2.2.1
  let hi:=if o=true then(n.args.length:Int)else s.1.2.2.2
  gN (n.names.length:Int) s.1.1 s.1.2.1&&gN ((n.args.length:Int) -(n.names.length:Int)*(if s.2=true then 1 else 0)) lo hi
def mH (n:Nd):Bool:=
  (decide (n.kind=1)||decide (n.kind=2)||decide (n.kind=3)||decide (n.kind=18)||decide (n.text=[]))&&
  (decide (n.kind=0)||decide (n.kind=23)||decide (n.n=0))&&(!decide (n.kind=23)||gN n.n 0 1)&&(!decide (n.kind=1)||wz n.text)
def wB:List Str->List Str->Bool
  |_,[]=>false
  |acc,s::l=>decide (s∈acc)||wB (acc++[s]) l
def qh (n:Nd):Int:=
  if(n.names.all rName)=false then 7 else
  if n.kind=2 then(if(jE n.text||tV n.text)=true then 0 else 7)else
  if n.kind=18 then(if rName n.text=true then 0 else 7)else
  if n.kind=3 then(if((bY dF n.text).2||jE n.text)=true then(if((bY dF n.text).2&& !gN (n.args.length:Int) (bY dF n.text).1.least (bY dF n.text).1.most)=true then 17 else 0)else 7)else 0
def bX (pl:Bool) (n:Nd):Int:=
  if gN n.kind 0 28=false then 4 else
  if nY n=false then 6 else
  if(pl&&mH n)=false then 5 else
  if(decide (n.kind=0)&& !gN n.n 0 10000)=true then 3 else
  if qh n≠0 then qh n else
  if wB [] n.names=true then 12 else 0
end Go.VL
end
section
namespace Go.VL
theorem ae3 (a b:Int) (c:Str) (l:List Str) (d:List Int) (hl:l.length<=1099511627776):Ev (fun k=>lW k a b c l d ((0:Nat):Int)) (if(l.drop 0).all rName=true then .inl ()else .inr 7):=by
  refine jD (len:=l.length) (p:=fun i=>Ev (fun k=>lW k a b c l d (i:Int)) (if(l.drop i).all rName=true then .inl ()else .inr 7)) ?_ fun i hi ih=> ?_
  · refine Ev.succ ?_;simp only [lW];exact Ev.cF (jl _) (Ev.some' (by simp))
  · refine Ev.succ ?_;simp only [lW,Int.toNat_natCast,aZ hi,Option.bind_some,nn,if_true,kX hi,cond_true,dQ hi hl];refine Ev.bind (rT _) ?_;rw [drop_cons hi];simp only [List.all_cons];by_cases hb:rName l[i]=true
    · exact Ev.cT hb (ih.to (by simp only [hb,Bool.true_and]))
    · have hb:rName l[i]=false:=by simpa using hb
      exact Ev.cF hb (Ev.some' (by simp only [hb,Bool.false_and];rfl))
theorem aiG (a b:Int) (c:Str) (l:List Str) (d:List Int) (hl:l.length<=1099511627776):Ev (fun k=>kG k a b c l d 1) (if wB [] l=true then .inr 12 else .inl ()):=by
  have key: ∀i,i<=l.length->Ev (fun k=>kG k a b c l d (i:Int)) (if wB (l.take i) (l.drop i)=true then .inr 12 else .inl ()):=by
    refine down ?_ fun i hi ih=> ?_
    · refine Ev.succ ?_;simp only [kG];exact Ev.cF (jl _) (Ev.some' (by simp [wB]))
    · refine Ev.succ ?_;have h2:i<=l.length:=by omega
      simp only [kG,Int.toNat_natCast,aZ hi,Option.bind_some,nn,if_true,kX hi,cond_true,dQ hi hl,true_and,h2];refine Ev.bind (El _ _ (by rw [List.length_take];omega)) ?_;rw [drop_cons hi,wB,<-List.take_succ_eq_append_getElem hi];cases decide (l[i]∈l.take i)
      · simp only [cond_false,Bool.false_or];exact ih
      · exact Ev.some
  cases l with
  |nil=>
    refine Ev.succ ?_;simp only [kG];exact Ev.cF (by rfl) Ev.some
  |cons x l=>
    have:=key 1 (by simp);exact this.to (by simp [wB])
theorem aaS (e:List Nd) (i:Nat) (n:Nd) (pl:Bool) (hn:e[i]? =some n) (hpl:Ev (fun k=>Cc k e (i:Int)) pl) (h1:n.text.length<=1000000) (h2:n.names.length<=1000000) (h3:n.args.length<=1000000):
    Ev (fun k=>Dp k e (i:Int)) (bX pl n):=by
  unfold Dp;simp only [Int.toNat_natCast,hn,Option.bind_some,nn,if_true,nP,ae2,aaP];unfold bX;by_cases hk:gN n.kind 0 28=true
  case neg=>
    refine Ev.to (Ev.cF (by simpa [gN]using hk) Ev.some) (if_pos (by simpa using hk)).symm
  refine Ev.to ?_ (if_neg (by simp [hk])).symm;refine Ev.cT hk ?_
  have hj:Ev (fun k=>vT k n.kind n.n n.text n.names n.args (aY n.kind).1.1 (aY n.kind).1.2.1 (aY n.kind).1.2.2.1 (aY n.kind).1.2.2.2)
      ((aY n.kind).1.1,(aY n.kind).1.2.1,if((bY dF n.text).2&&decide (n.kind=3))=true then 0 else(aY n.kind).1.2.2.1,if((bY dF n.text).2&&decide (n.kind=3))=true then(n.args.length:Int)else(aY n.kind).1.2.2.2):=by
    unfold vT Ao;refine Ev.bind (vF _) ?_;cases(bY dF n.text).2
    · exact Ev.some
    · simp only [cond_true,Option.bind_some,Bool.true_and];by_cases h:n.kind=3
      · simp only [h,beq_self_eq_true,cond_true,decide_true,if_true];exact Ev.some
      · rw [show(n.kind==3)=false from beq_eq_false_iff_ne.2 h];simp only [cond_false,h,decide_false,Bool.false_eq_true,if_false];exact Ev.some
  refine Ev.bind hj ?_;have hm:IntKind.wrap .i64 ((n.names.length:Int)*if(aY n.kind).2=true then 1 else 0)=(n.names.length:Int)*if(aY n.kind).2=true then 1 else 0:=by
    split
    · exact wrap64 (by omega) (by omega)
    · exact wrap64 (by omega) (by omega)
  have hm2:IntKind.wrap .i64 ((n.args.length:Int) -((n.names.length:Int)*if(aY n.kind).2=true then 1 else 0))=(n.args.length:Int) -((n.names.length:Int)*if(aY n.kind).2=true then 1 else 0):=by
    split
    · exact wrap64 (by omega) (by omega)
    · exact wrap64 (by omega) (by omega)
  simp only [hm,hm2]
  have hsh: ∀(t:Bool),vU (aY n.kind).1.1 (aY n.kind).1.2.1 (if((bY dF n.text).2&&decide (n.kind=3))=true then 0 else(aY n.kind).1.2.2.1) (if((bY dF n.text).2&&decide (n.kind=3))=true then(n.args.length:Int)else(aY n.kind).1.2.2.2)
      ((n.args.length:Int) -((n.names.length:Int)*if(aY n.kind).2=true then 1 else 0)) (!gN (n.names.length:Int) (aY n.kind).1.1 (aY n.kind).1.2.1)=some (!nY n):=by
    intro t;unfold vU nY;simp only [nP,Option.bind_some];cases gN (n.names.length:Int) (aY n.kind).1.1 (aY n.kind).1.2.1
    · rfl
    · simp only [Bool.not_true,cond_false,Bool.true_and];rfl
  have ap8:=hsh true;unfold gN at ap8;refine Ev.oP ap8 ?_;cases hs:nY n
  · exact Ev.some
  simp only [Bool.not_true,cond_false,Bool.true_eq_false,if_false];have h3p:vV n.kind n.n n.text n.names n.args (n.kind==1)=some (decide (n.kind=1)||decide (n.kind=2)||decide (n.kind=3)||decide (n.kind=18)):=by
    unfold vV;by_cases a:n.kind=1
    · simp [a]
    by_cases b:n.kind=2
    · simp [b]
    by_cases c:n.kind=3
    · simp [c]
    by_cases d:n.kind=18
    · simp [d]
    simp [a,b,c,d,beq_eq_false_iff_ne.2 a,beq_eq_false_iff_ne.2 b,beq_eq_false_iff_ne.2 c,beq_eq_false_iff_ne.2 d]
  refine Ev.oP h3p (Ev.bind hpl ?_);have h4:Ev (fun k=>vW k n.kind n.n n.text n.names n.args (decide (n.kind=1)||decide (n.kind=2)||decide (n.kind=3)||decide (n.kind=18)) (!pl)) (!(pl&&mH n)):=by
    cases pl
    · exact Ev.some
    unfold vW mH;simp only [Bool.not_true,cond_false,Bool.true_and,nP,Option.bind_some];have hp:Ev (fun k=>Option.bind (iI k n.text) fun p=>some (!p)) (!wz n.text):=Ev.bind (ae1 _) Ev.some
    have key: ∀T0 T3 T2:Bool,T0=decide (n.n=0)->T2=gN n.n 0 1->
        Ev (fun k=>cond (n.kind !=0) (cond (n.kind !=23) (cond (n.n !=0) (some true) (cond (n.kind==23) (cond (decide (0<=n.n/\n.n<=1)) (cond (n.kind==1) (Option.bind (iI k n.text) fun p=>some (!p)) (some false)) (some true)) (cond (n.kind==1) (Option.bind (iI k n.text) fun p=>some (!p)) (some false))))
          (cond (n.kind==23) (cond (decide (0<=n.n/\n.n<=1)) (cond (n.kind==1) (Option.bind (iI k n.text) fun p=>some (!p)) (some false)) (some true)) (cond (n.kind==1) (Option.bind (iI k n.text) fun p=>some (!p)) (some false))))
          (cond (n.kind==23) (cond (decide (0<=n.n/\n.n<=1)) (cond (n.kind==1) (Option.bind (iI k n.text) fun p=>some (!p)) (some false)) (some true)) (cond (n.kind==1) (Option.bind (iI k n.text) fun p=>some (!p)) (some false))))
        (!((decide (n.kind=0)||decide (n.kind=23)||decide (n.n=0))&&(!decide (n.kind=23)||gN n.n 0 1)&&(!decide (n.kind=1)||wz n.text))):=by
      intro T0 T3 T2 _ _;unfold gN;by_cases a:n.kind=0
      · simp only [a];exact Ev.some
      by_cases b:n.kind=23
      · simp only [b];by_cases c:0<=n.n/\n.n<=1
        · simp only [c,and_self,decide_true];exact Ev.some
        · simp only [c,decide_false];exact Ev.some
      by_cases c:n.n=0
      · by_cases d:n.kind=1
        · simp only [c,d];exact hp
        · simp only [a,b,c,d,bne_iff_ne,beq_eq_false_iff_ne.2 a,beq_eq_false_iff_ne.2 b,beq_eq_false_iff_ne.2 d,bne,Bool.not_false,cond_true,cond_false,decide_false,decide_true];exact Ev.some
      · simp only [a,b,c,beq_eq_false_iff_ne.2 a,beq_eq_false_iff_ne.2 b,beq_eq_false_iff_ne.2 c,bne,Bool.not_false,cond_true,decide_false];exact Ev.some
    have key':=key _ false _ rfl rfl;cases(decide (n.kind=1)||decide (n.kind=2)||decide (n.kind=3)||decide (n.kind=18))
    · simp only [cond_false,Bool.false_or,l8];cases decide (n.text=[])
      · exact Ev.some
      · simp only [cond_true,Bool.true_and];exact key'
    · simp only [cond_true,Bool.true_or,Bool.true_and];exact key'
  refine Ev.bind h4 ?_;cases hc:(pl&&mH n)
  · exact Ev.some
  simp only [Bool.not_true,cond_false,Bool.true_eq_false,if_false];have h5:vX n.kind n.n n.text n.names n.args (n.kind==0)=some (decide (n.kind=0)&& !gN n.n 0 10000):=by
    unfold vX gN;simp only [nP,Option.bind_some];by_cases a:n.kind=0
    · simp only [a,beq_self_eq_true,cond_true,decide_true,Bool.true_and]
    · simp only [a,beq_eq_false_iff_ne.2 a,cond_false,decide_false,Bool.false_and]
  refine Ev.oP h5 ?_;cases h6:(decide (n.kind=0)&& !gN n.n 0 10000)
  case true=>exact Ev.some
  simp only [cond_false,Bool.false_eq_true,if_false];refine Ev.bind (ae3 _ _ _ n.names _ (by omega)) ?_;rw [List.drop_zero];unfold qh;cases h7:n.names.all rName
  · simp only [Bool.false_eq_true,if_false,dK,if_true];exact Ev.some
  simp only [if_true,dD,Bool.true_eq_false,if_false];refine Ev.bind (vF _) ?_
  have h8: ∀op:Operator,∀is:Bool,Ev (fun k=>vY k n.kind n.n n.text n.names n.args op.text op.fix op.low op.high op.left op.least op.most is)
      (if(if n.kind=2 then(if(jE n.text||tV n.text)=true then(0:Int)else 7)else if n.kind=18 then(if rName n.text=true then 0 else 7)else if n.kind=3 then(if(is||jE n.text)=true then(if(is&& !gN (n.args.length:Int) op.least op.most)=true then 17 else 0)else 7)else 0)=0 then .inl ()else
        .inr (if n.kind=2 then(if(jE n.text||tV n.text)=true then(0:Int)else 7)else if n.kind=18 then(if rName n.text=true then 0 else 7)else if n.kind=3 then(if(is||jE n.text)=true then(if(is&& !gN (n.args.length:Int) op.least op.most)=true then 17 else 0)else 7)else 0)):=by
    intro op is;unfold vY;by_cases a:n.kind=2
    · simp only [a,beq_self_eq_true,cond_true,if_true];refine Ev.bind (IY _ (by omega)) ?_;cases jE n.text
      · simp only [cond_false,F5,Option.bind_some,Bool.false_or];cases tV n.text<;>exact Ev.some
      · exact Ev.some
    by_cases b:n.kind=18
    · simp only [b];refine Ev.cF rfl (Ev.cT rfl ?_);refine Ev.bind (rT _) ?_;cases rName n.text<;>exact Ev.some
    by_cases c:n.kind=3
    · simp only [c];refine Ev.cF rfl (Ev.cF rfl (Ev.cT rfl ?_));unfold Ay;cases is
      · simp only [Bool.not_false,cond_true,Bool.false_or];refine Ev.bind (Ev.bind (IY _ (by omega)) Ev.some) ?_;cases jE n.text<;>exact Ev.some
      · simp only [Bool.not_true,cond_false,Option.bind_some,cond_true,nP,Bool.true_or,if_true,Bool.true_and];unfold gN;cases decide (op.least<=(n.args.length:Int)/\(n.args.length:Int)<=op.most)<;>exact Ev.some
    · simp only [a,b,c,beq_eq_false_iff_ne.2 a,beq_eq_false_iff_ne.2 b,beq_eq_false_iff_ne.2 c,cond_false,if_false,if_true];exact Ev.some
  refine Ev.bind (h8 (bY dF n.text).1 (bY dF n.text).2) ?_;generalize hx:(if n.kind=2 then(if(jE n.text||tV n.text)=true then(0:Int)else 7)else if n.kind=18 then(if rName n.text=true then 0 else 7)else if n.kind=3 then(if((bY dF n.text).2||jE n.text)=true then(if((bY dF n.text).2&& !gN (n.args.length:Int) (bY dF n.text).1.least (bY dF n.text).1.most)=true then 17 else 0)else 7)else 0)=x;by_cases hx0:x=0
  · subst hx0;simp only [if_true,dD,ne_eq,not_true_eq_false,if_false];refine Ev.bind (aiG _ _ _ n.names _ (by omega)) ?_;cases wB [] n.names<;>exact Ev.some
  · simp only [hx0,if_false,dK,ne_eq,not_false_eq_true,if_true];exact Ev.some
end Go.VL
end
section
namespace Go.VL
def zn (acc:List Int) (n:Nd):Int:=match n.args with
  |[]=>acc.length
  |a::_=>acc[a.toNat]?.getD 0
def sV (acc:List Int):Int->List Int->Bool
  |_,[]=>true
  |next,a::l=>decide (a=next -1)&&decide (1<=next)&&sV acc (acc[(next -1).toNat]?.getD 0) l
structure qK (e:List Nd) (i:Nat) (acc:List Int):Prop where
  len:acc.length=i
  le:i<=e.length
  at_: ∀j,j<i-> ∃n b,e[j]? =some n/\acc[j]? =some b/\0<=b/\b<=(j:Int)/\(n.args=[]->b=(j:Int))/\ ∀a l,n.args=a::l->0<=a/\a<(j:Int)/\acc[a.toNat]? =some b
structure Cj (e:List Nd):Prop where
  len:e.length<=1000000
  nd: ∀(i:Nat) n,e[i]? =some n->n.text.length<=1000000/\n.names.length<=1000000/\n.args.length<=1000000
theorem qK.rng {e:List Nd} {i:Nat} {acc:List Int} (h:qK e i acc) {j:Nat} {b:Int} (hb:acc[j]? =some b):j<i/\0<=b/\b<=(j:Int):=by
  have hj:j<i:=by have:=(List.getElem?_eq_some_iff.1 hb).1;have:=h.len;omega
  obtain⟨n,b',h1,h2,h3,h4,_⟩:=h.at_ j hj;rw [hb]at h2;cases h2;exact⟨hj,h3,h4⟩
theorem YS {e:List Nd} {i:Nat} {acc:List Int} (h:qK e i acc) (hi:i<=1000000): ∀(j:Nat) (b:Int),acc[j]? =some b->Ev (fun k=>mW k e (j:Int)) (.inl b):=by
  intro j
  induction j using Nat.strongRecOn with
  |_ j ih=>
    intro b hb;obtain⟨hj,hb0,hb1⟩:=h.rng hb;obtain⟨n,b',h1,h2,_,_,h5,h6⟩:=h.at_ j hj;rw [hb]at h2;cases h2;refine Ev.succ ?_;simp only [mW,Int.toNat_natCast,nn,if_true,h1,Option.bind_some,nP];cases hargs:n.args with
    |nil=>
      refine Ev.cF (by simp) (Ev.some' ?_);rw [h5 hargs]
    |cons a l=>
      obtain⟨h7,h8,h9⟩:=h6 a l hargs;refine Ev.cT (by simp) ?_;simp only [List.getElem?_cons_zero,Option.bind_some];rw [wrap64 (by omega) (by omega)];refine Ev.cT (decide_eq_true (by omega)) ?_;have:=ih a.toNat (by omega) b h9
      rwa [Int.toNat_of_nonneg h7]at this
theorem SI {e:List Nd} {i:Nat} {acc:List Int} (h:qK e i acc) (hi:i<=1000000) {j:Nat} {b:Int} (hb:acc[j]? =some b):Ev (fun k=>uS k e (j:Int)) b:=by
  unfold uS;refine Ev.cF (decide_eq_false (by omega)) (Ev.bind (YS h hi j b hb) ?_);simp only [dD];exact Ev.some
theorem aaT {α:Type} {l:List α} {m:Nat} (h:m<l.length):(l.take (m+1)).reverse=l[m]::(l.take m).reverse:=by
  rw [List.take_succ_eq_append_getElem h,List.reverse_append];rfl
theorem WB {e:List Nd} {i:Nat} {acc:List Int} (h:qK e i acc) (hi:i<=1000000) {n:Nd} (hn:e[i]? =some n) (hl:n.args.length<=1000000): ∀(m:Nat),m<=n.args.length-> ∀nx:Nat,nx<=i->
    Ev (fun k=>pJ k e (i:Int) (nx:Int) ((m:Int) -1)) (if sV acc nx (n.args.take m).reverse=true then .inl ()else .inr false):=by
  intro m
  induction m with
  |zero=>
    intro _ nx hnx;refine Ev.succ ?_;simp only [pJ];exact Ev.cF (by rfl) (Ev.some' (by simp [sV]))
  |succ m ih=>
    intro hm nx hnx;have hm':m<n.args.length:=by omega
    refine Ev.succ ?_;have e1:(((m+1:Nat):Int) -1)=(m:Int):=by omega
    simp only [e1,pJ,Int.toNat_natCast,nn,if_true,hn,Option.bind_some,aZ hm'];rw [aaT hm',sV];refine Ev.cT (by simp) ?_;rw [wrap64 (x:=(nx:Int) -1) (by omega) (by omega),wrap64 (x:=(m:Int) -1) (by omega) (by omega)];by_cases h1:n.args[m]=(nx:Int) -1
    · refine Ev.cF (by rw [h1];simp) ?_;by_cases h2:nx<1
      · refine Ev.cT (decide_eq_true (by omega)) (Ev.some' ?_);have: ¬(1:Int)<=nx:=by omega
        simp [this]
      · refine Ev.cF (decide_eq_false (by omega)) ?_;obtain⟨j,rfl⟩: ∃j,nx=j+1:=⟨nx -1,by omega⟩;have e2:(((j+1:Nat):Int) -1)=(j:Int):=by omega
        rw [e2]at h1⊢;obtain⟨n',b,h3,h4,h5,h6,_⟩:=h.at_ j (by omega);refine Ev.bind (SI h hi h4) ?_;obtain⟨b,rfl⟩: ∃b':Nat,b=b':=⟨b.toNat,by omega⟩;refine(ih (by omega) b (by omega)).to ?_;have e3:(1:Int)<=((j+1:Nat):Int):=by omega
        simp only [h1,e3,decide_true,Bool.true_and,Int.toNat_natCast,h4,Option.getD_some]
    · refine Ev.cT (by rw [bne_iff_ne];exact h1) (Ev.some' ?_);simp [h1]
theorem acL {e:List Nd} {i:Nat} {acc:List Int} (h:qK e i acc) (hi:i<=1000000) {n:Nd} (hn:e[i]? =some n) (hl:n.args.length<=1000000):Ev (fun k=>Cc k e (i:Int)) (sV acc i n.args.reverse):=by
  unfold Cc;simp only [Int.toNat_natCast,nn,if_true,hn,Option.bind_some];rw [wrap64 (by omega) (by omega)];have:=WB h hi hn hl n.args.length (Nat.le_refl _) i (Nat.le_refl _);rw [List.take_length]at this;refine Ev.bind this ?_;cases sV acc i n.args.reverse
  · simp only [Bool.false_eq_true,if_false,dK];exact Ev.some
  · simp only [if_true,dD];exact Ev.some
theorem WC {e:List Nd} {i:Nat} {acc:List Int} (h:qK e i acc): ∀(l:List Int) (nx:Nat),nx<=i->sV acc nx l=true-> ∀a∈l,0<=a/\a<(nx:Int)
  |[],_,_,_,a,ha=>by cases ha
  |a::l,nx,hnx,hp,x,hx=>by
    rw [sV,Bool.and_eq_true,Bool.and_eq_true,decide_eq_true_eq,decide_eq_true_eq]at hp;obtain⟨⟨h1,h2⟩,h3⟩:=hp;rcases List.mem_cons.1 hx with rfl|hx
    · omega
    · obtain⟨j,rfl⟩: ∃j,nx=j+1:=⟨nx -1,by omega⟩;have e2:(((j+1:Nat):Int) -1)=(j:Int):=by omega
      obtain⟨n',b,h4,h5,h6,h7,_⟩:=h.at_ j (by omega);rw [e2,Int.toNat_natCast,h5,Option.getD_some]at h3;obtain⟨b,rfl⟩: ∃b':Nat,b=b':=⟨b.toNat,by omega⟩;have:=WC h l b (by omega) h3 x hx;omega
theorem qK.zero (e:List Nd):qK e 0 []:=⟨rfl,Nat.zero_le _,fun j hj=>absurd hj (Nat.not_lt_zero _)⟩
theorem qK.succ {e:List Nd} {i:Nat} {acc:List Int} (h:qK e i acc) {n:Nd} (hn:e[i]? =some n) (hp:sV acc i n.args.reverse=true):qK e (i+1) (acc++[zn acc n]):=by
  have hmem:=WC h _ i (Nat.le_refl _) hp;have hlen:=h.len;refine⟨by simp [hlen],(List.getElem?_eq_some_iff.1 hn).1,fun j hj=> ?_⟩;have old: ∀(m:Nat) (b:Int),acc[m]? =some b->(acc++[zn acc n])[m]? =some b:=fun m b e=>by
    rw [List.getElem?_append_left (List.getElem?_eq_some_iff.1 e).1];exact e
  by_cases hj':j<i
  · obtain⟨n',b,h1,h2,h3,h4,h5,h6⟩:=h.at_ j hj';exact⟨n',b,h1,old _ _ h2,h3,h4,h5,fun a l ha=>⟨(h6 a l ha).1,(h6 a l ha).2.1,old _ _ (h6 a l ha).2.2⟩⟩
  · obtain rfl:j=i:=by omega
    have hnew:(acc++[zn acc n])[j]? =some (zn acc n):=by rw [List.getElem?_append_right (by omega),hlen,Nat.sub_self];rfl
    cases hargs:n.args with
    |nil=>
      have e1:zn acc n=(j:Int):=by unfold zn;rw [hargs];simp [hlen]
      exact⟨n,_,hn,hnew,by omega,by omega,fun _=>e1,fun a l ha=>by rw [hargs]at ha;cases ha⟩
    |cons a l=>
      have ha:=hmem a (by rw [hargs];simp);obtain⟨n',b,h1,h2,h3,h4,h5,h6⟩:=h.at_ a.toNat (by omega);have e1:zn acc n=b:=by unfold zn;rw [hargs];simp only [h2,Option.getD_some]
      rw [e1]at hnew old⊢;refine⟨n,b,hn,hnew,h3,by omega,(fun h=>by rw [hargs]at h;cases h),fun a' l' ha'=> ?_⟩;rw [hargs]at ha';cases ha';exact⟨ha.1,ha.2,old _ _ h2⟩
def nZ:List Int->List Nd->List Int⊕(Int×Int)
  |acc,[]=> .inl acc
  |acc,n::l=>if bX (sV acc acc.length n.args.reverse) n≠0 then .inr ((acc.length:Int),bX (sV acc acc.length n.args.reverse) n)else nZ (acc++[zn acc n]) l
theorem yD {n:Nd} {pl:Bool} (h:bX pl n=0):pl=true:=by
  cases pl with
  |true=>rfl
  |false=>
    exfalso;unfold bX at h;simp only [Bool.false_and,if_true]at h;split at h
    · cases h
    · split at h<;>cases h
theorem YT {e:List Nd} (hL:Cj e): ∀i,i<=e.length-> ∀acc,qK e i acc->Ev (fun k=>oU k e (i:Int)) (match nZ acc (e.drop i)with| .inl _=> .inl ()| .inr r=> .inr r):=by
  have hlen:=hL.len;refine down (fun acc h=> ?_) (fun i hi ih acc h=> ?_)
  · refine Ev.succ ?_;simp only [oU];exact Ev.cF (jl _) (Ev.some' (by simp [nZ]))
  · refine Ev.succ ?_;obtain⟨h1,h2,h3⟩:=hL.nd i _ (aZ hi);simp only [oU];refine Ev.cT (kX hi) (Ev.bind (aaS e i e[i] _ (aZ hi) (acL h (by omega) (aZ hi) h3) h1 h2 h3) ?_);rw [drop_cons hi,nZ,h.len];by_cases hc:bX (sV acc i e[i].args.reverse) e[i]=0
    · refine Ev.cF (by rw [hc];rfl) ?_;rw [dQ hi (by omega)];refine(ih _ (h.succ (aZ hi) (yD hc))).to ?_;simp only [hc,ne_eq,not_true_eq_false,if_false]
    · refine Ev.cT (by rw [bne_iff_ne];exact hc) (Ev.some' ?_);simp only [ne_eq,hc,not_false_eq_true,if_true]
end Go.VL
end
section
namespace Go.VL
theorem F6 {sz:Nat}: ∀(es:List (List PV)) (rest:List PV),(∀cs∈es,cs.length=sz)->chunks sz es.length (es.flatten++rest)=es
  |[],rest,_=>by simp [chunks]
  |c::es,rest,h=>by
    have hc:=h c (List.mem_cons_self ..);have ih:=F6 es rest fun cs hcs=>h cs (List.mem_cons_of_mem _ hcs);unfold chunks at ih⊢;rw [List.length_cons,List.range_succ_eq_map,List.map_cons,List.map_map,List.flatten_cons,List.append_assoc];congr 1
    · rw [Nat.zero_mul,List.drop_zero,<-hc,List.take_left]
    · conv=>rhs;rw [<-ih]
      refine List.map_congr_left fun i _=> ?_;simp only [Function.comp];rw [show(i+1)*sz=sz+i*sz by rw [Nat.add_mul,Nat.one_mul,Nat.add_comm],<-List.drop_drop];congr 2
      rw [<-hc,List.drop_left]
theorem rU {α:Type} {sz:Nat} {f:α->List PV} (hf: ∀x,(f x).length=sz): ∀l:List α,((l.map f).flatten).length=l.length*sz
  |[]=>by simp
  |x::l=>by rw [List.map_cons,List.flatten_cons,List.length_append,hf,rU hf l,List.length_cons,Nat.succ_mul,Nat.add_comm]
theorem Yc {α:Type} {sz:Nat} {f:α->List PV} (hf: ∀x,(f x).length=sz): ∀(l:List α) (i:Nat),((l.map f).flatten).drop (i*sz)=((l.drop i).map f).flatten
  |l,0=>by simp
  |[],i+1=>by simp
  |x::l,i+1=>by
    rw [List.map_cons,List.flatten_cons,Nat.succ_mul,Nat.add_comm,<-List.drop_drop];have:List.drop sz (f x++(l.map f).flatten)=(l.map f).flatten:=by rw [<-hf x,List.drop_left]
    rw [this,Yc hf l i,List.drop_succ_cons]
theorem aaU (A fa B vs:List PV) {j:Nat} (h:j+vs.length<=fa.length):putCells (A++(fa++B)) (A.length+j) vs=A++(putCells fa j vs++B):=by
  have h1:j -fa.length=0:=by omega
  have h2:A.length+j+vs.length -A.length=j+vs.length:=by omega
  have h3:j+vs.length -fa.length=0:=by omega
  have h4:A.take (A.length+j)=A:=List.take_of_length_le (by omega);have h5:A.drop (A.length+j+vs.length)=[]:=List.drop_eq_nil_of_le (by omega);have h6:A.length+j -A.length=j:=by omega
  simp only [putCells,List.take_append,List.drop_append,h1,h2,h3,h4,h5,h6,List.take_zero,List.drop_zero,List.append_nil,List.nil_append,List.append_assoc]
theorem Yd (z:List PV): ∀n,((List.replicate n z).flatten).length=n*z.length
  |0=>by simp
  |n+1=>by rw [List.replicate_succ,List.flatten_cons,List.length_append,Yd z n,Nat.add_mul,Nat.one_mul,Nat.add_comm]
theorem aaV {α:Type} {l:List α} {i:Nat} {x:α} (h:l[i]? =some x):l.drop i=x::l.drop (i+1):=by
  have hlt:=(List.getElem?_eq_some_iff.1 h).1;rw [List.drop_eq_getElem_cons hlt];congr 1
  exact(List.getElem?_eq_some_iff.1 h).2
def aS {α:Type} (H:AH) (f:α->List PV) (sz:Nat) (l:List α) (v:PV) (ids:List Nat):Prop:=
  (v= .aB [] .nil/\l=[]/\ids=[])\/ ∃id cap junk,ids=[id]/\v= .dP id 0 l.length cap sz/\l.length<=cap/\id<H.next/\H.obj id=some ((l.map f).flatten++junk)/\junk.length=(cap -l.length)*sz
def Nw (H:AH) (ids zo:List Nat):Prop:= ∀i∈zo,i∈ids\/H.next<=i
theorem Nw.refl {H:AH} {ids:List Nat}:Nw H ids ids:=fun _ h=> .inl h
theorem Nw.trans {H H':AH} {a b c:List Nat} (h:Nw H a b) (hn:H.next<=H'.next) (k:Nw H' b c):Nw H a c:=fun i hi=>by
  rcases k i hi with q|q
  · exact h i q
  · exact .inr (Nat.le_trans hn q)
theorem Nw.via {H H':AH} {M N c:List Nat} (h: ∀i∈N,i∈M\/H.next<=i) (hn:H.next<=H'.next) (k:Nw H' N c):Nw H M c:=fun i hi=>by
  rcases k i hi with q|q
  · exact h i q
  · exact .inr (Nat.le_trans hn q)
def Dj (a b:List Nat):Prop:= ∀i∈a,i∉b
theorem Dj.nil {b:List Nat}:Dj [] b:=fun _ h=>by cases h
theorem Dj.symm {a b:List Nat} (h:Dj a b):Dj b a:=fun i hi hj=>h i hj hi
section
variable {α:Type} {H H':AH} {f:α->List PV} {sz:Nat} {l:List α} {v:PV} {ids:List Nat}
theorem aS.nil:aS H f sz ([]:List α) (.aB [] .nil) []:= .inl ⟨rfl,rfl,rfl⟩
theorem aS.lt (h:aS H f sz l v ids): ∀i∈ids,i<H.next:=by
  rcases h with⟨_,_,rfl⟩|⟨id,cap,junk,rfl,_,_,h,_⟩
  · intro i hi;cases hi
  · intro i hi;rw [List.mem_singleton.1 hi];exact h
theorem aS.hf {M:List Nat} (h:aS H f sz l v ids) (hf:HF M H H') (hd:Dj ids M):aS H' f sz l v ids:=by
  rcases h with⟨h1,h2,h3⟩|⟨id,cap,junk,rfl,h1,h2,h3,h4,h5⟩
  · exact .inl ⟨h1,h2,h3⟩
  · exact .inr ⟨id,cap,junk,rfl,h1,h2,Nat.lt_of_lt_of_le h3 hf.1,(hf.2 id h3 (hd id (List.mem_singleton.2 rfl))).trans h4,h5⟩
theorem aS.new {cs:List PV} (h:aS H f sz l v ids):aS (H.new cs) f sz l v ids:=h.hf (M:=[]) (HF.new (HF.refl _ _)) (fun _ _ h=>by cases h)
theorem aS.put {id:Nat} {cs:List PV} (h:aS H f sz l v ids) (hn:id∉ids):aS (H.put id cs) f sz l v ids:=
  h.hf (M:=[id]) (HF.put (.inl (List.mem_singleton.2 rfl)) (HF.refl _ _)) (fun i hi hj=>hn (List.mem_singleton.1 hj▸hi))
theorem aS.avW (h:aS H f sz l v ids):GU v=some (.int .i64 l.length):=by
  rcases h with⟨rfl,rfl,_⟩|⟨id,cap,junk,rfl,rfl,_⟩
  · rfl
  · rfl
theorem aS.at (h:aS H f sz l v ids) {i:Nat} {x:α} (hx:l[i]? =some x): ∃id cap junk,ids=[id]/\v= .dP id 0 l.length cap sz/\l.length<=cap/\id<H.next/\H.obj id=some ((l.map f).flatten++junk)/\junk.length=(cap -l.length)*sz:=by
  rcases h with⟨_,rfl,_⟩|h
  · simp at hx
  · exact h
theorem aS.content [hr:zh f sz] (h:aS H f sz l v ids) {i:Nat} {x:α} (hx:l[i]? =some x):
    ∃id C,ids=[id]/\id<H.next/\H.obj id=some C/\(∀j c,(f x)[j]? =some c->C[i*sz+j]? =some c)/\(∀j,j<=sz->i*sz+j<=C.length)/\(C.drop (i*sz)).take sz=f x/\
      ∀k n,0<=n->n.toNat=i->qG sz v (.int k n)=some (.ref id (i*sz)):=by
  obtain⟨id,cap,junk,rfl,rfl,h2,h3,h4,h5⟩:=h.at hx;have hlt:=(List.getElem?_eq_some_iff.1 hx).1;have hd:((l.map f).flatten++junk).drop (i*sz)=f x++(((l.drop (i+1)).map f).flatten++junk):=by
    rw [List.drop_append_of_le_length (by rw [rU hr.len];exact Nat.mul_le_mul_right _ (by omega)),Yc hr.len,aaV hx];simp
  have hlen:i*sz+sz<=((l.map f).flatten++junk).length:=by
    rw [List.length_append,rU hr.len];have:(i+1)*sz<=l.length*sz:=Nat.mul_le_mul_right _ hlt;rw [Nat.succ_mul]at this;omega
  refine⟨id,_,rfl,h3,h4,fun j c hc=> ?_,fun j hj=>by omega,?_,fun k n hn he=> ?_⟩
  · rw [<-List.getElem?_drop,hd];have hj:j<(f x).length:=(List.getElem?_eq_some_iff.1 hc).1;rw [List.getElem?_append_left hj];exact hc
  · rw [hd,List.take_append_of_le_length (by rw [hr.len];exact Nat.le_refl _),List.take_of_length_le (by rw [hr.len];exact Nat.le_refl _)]
  · subst he;have h6:n<(l.length:Int):=by omega
    simp [qG,hn,h6]
theorem aS.fz (hp: ∀x,∀c∈f x,Pu c) [hr:zh f sz] (h:aS H f sz l v ids):Fz H v (.aB (l.map f) .unk):=by
  rcases h with⟨rfl,rfl,_⟩|⟨id,cap,junk,rfl,rfl,h2,h3,h4,h5⟩
  · exact jr hp [] .nil
  · refine .dP id 0 l.length cap sz _ _ (fun i j=>((l.map f)[i]?.bind (·[j]?)).getD .any) h4 (by simp) h2 (fun i cs e=> ?_) (fun i cs e j c ec=> ?_) (fun i cs e j c ec=> ?_)
    · simp only [List.getElem?_map,Option.map_eq_some_iff]at e;obtain⟨x,_,rfl⟩:=e;exact hr.len x
    · have e':=e;simp only [List.getElem?_map,Option.map_eq_some_iff]at e;obtain⟨x,hx,rfl⟩:=e;have hrow:aS H f sz l (.dP id 0 l.length cap sz) [id]:= .inr ⟨id,cap,junk,rfl,rfl,h2,h3,h4,h5⟩;obtain⟨id',C,e1,_,e2,e3,_⟩:=hrow.content hx;cases e1;rw [h4]at e2;cases e2;rw [e',Option.bind_some,ec,Option.getD_some,Nat.zero_add];exact e3 j c ec
    · rw [e,Option.bind_some,ec,Option.getD_some];simp only [List.getElem?_map,Option.map_eq_some_iff]at e;obtain⟨x,_,rfl⟩:=e;exact .pure _ (hp x c (List.mem_of_getElem? ec))
end
variable [Glob]
section
variable {P:Program} {Q:Post} {σ:Nat->PV} {s:List Fm} {α:Type} {H:AH} {f:α->List PV} {sz:Nat} {v:PV} {ids:List Nat}
theorem MO {d:Option Nat} {b:Nat} {x y:AE} {l:List aV} [hr:zh f sz] (hf: ∀x,uQ sz (f x)) (xs ys:List α) (c2:Ck)
    (hx:x.ev σ=v) (hrow:aS H f sz xs v ids) (hy:y.ev σ= .aB (ys.map f) c2) (hs:0<ys.length) (hb:(xs.length+ys.length)*b<=1099511627776)
    (h: ∀(v':PV) (zo:List Nat) (H':AH),aS H' f sz (xs++ys) v' zo->Nw H ids zo->HF ids H H'->(∀c3,d9 H c3->d9 H' c3)->WO P l s Q (upd σ d v') H'):
    WO P (⟨d,.n (.app sz b x y),none⟩::l) s Q σ H:=by
  show dB P _ _ σ H
  rw [R9];simp only [nop,hx,hy];have h0: ¬((ys.map f).length=0):=by rw [List.length_map];omega
  have fresh: ∀(es:List (List PV)),es=xs.map f->za sz b H es (ys.map f) (fun p H'=>dB P l (FH P s Q .normal) (upd σ d p) H'):=by
    intro es he cap hcap;subst he;simp only [List.length_map]at hcap⊢;refine h _ [H.next] _ (.inr ⟨H.next,cap,List.replicate ((cap -(xs.length+ys.length))*sz) .any,rfl,by rw [List.length_append],by rw [List.length_append];exact hcap,Nat.lt_succ_self _,?_,by rw [List.length_replicate,List.length_append]⟩) (fun i hi=> .inr (by rw [List.mem_singleton.1 hi];exact Nat.le_refl _)) (HF.new (HF.refl _ _)) (fun c3 k=>k.new);show(if H.next=H.next then some _ else _)=_
    rw [if_pos rfl,List.map_append]
  rcases hrow with⟨rfl,rfl,rfl⟩|⟨id,cap,junk,rfl,rfl,h2,h3,h4,h5⟩
  · simp only [Db,rowOf];rw [if_neg h0];split
    · exact fresh [] rfl
    · rename_i hno;exact(hno ⟨Ca hf ([]:List α),Ca hf ys,by simpa using hb⟩).elim
  · have hfl:=rU (f:=f) hr.len xs;have hrow:rowOf sz H (.dP id 0 xs.length cap sz)=some (xs.map f):=by
      simp only [rowOf,h4];rw [if_pos ⟨trivial,by rw [List.length_append,hfl];omega⟩,List.drop_zero];have:=F6 (sz:=sz) (xs.map f) junk (fun cs hcs=>by obtain⟨x,_,rfl⟩:=List.mem_map.1 hcs;exact hr.len x);rw [List.length_map]at this;rw [this]
    simp only [Db,hrow];have:rowOf sz H (.aB (ys.map f) c2)=some (ys.map f):=rfl;simp only [this];rw [if_neg h0,if_pos ⟨Ca hf xs,Ca hf ys,by simpa using hb⟩];simp only [List.length_map];by_cases hc:xs.length+ys.length<=cap
    · rw [if_pos hc,h4];have hsz:cap -xs.length=(cap -(xs.length+ys.length))+ys.length:=by omega
      have h6:0+(xs.length+ys.length)*sz<=((xs.map f).flatten++junk).length:=by
        rw [List.length_append,hfl,h5,Nat.add_mul,hsz,Nat.add_mul];omega
      simp only;rw [if_pos h6];have hyl:=rU (f:=f) hr.len ys;have hput:putCells ((xs.map f).flatten++junk) (0+xs.length*sz) (ys.map f).flatten=((xs++ys).map f).flatten++junk.drop (ys.length*sz):=by
        rw [Nat.zero_add,putCells,<-hfl,List.take_left,hyl,<-List.drop_drop,List.drop_left,List.map_append,List.flatten_append]
      rw [hput];refine h _ [id] _ (.inr ⟨id,cap,junk.drop (ys.length*sz),rfl,by rw [List.length_append],by rw [List.length_append];exact hc,h3,?_,?_⟩) Nw.refl (HF.put (.inl (List.mem_singleton.2 rfl)) (HF.refl _ _)) (fun c3 k=>k.put)
      · show(if id=id then some _ else _)=_
        rw [if_pos rfl]
      · rw [List.length_drop,h5,List.length_append,hsz,Nat.add_mul];omega
    · rw [if_neg hc,if_pos h2];have hfr:=fresh _ rfl;intro cap' as4;exact hfr cap' as4
theorem aaW {d:Option Nat} {bytes:Nat} {zero:List PV} {x y:AE} {l:List aV} [hr:zh f sz] (z:α) (hz:f z=zero) {k k':IntKind} {n c:Int} (hx:x.ev σ= .int k n) (hy:y.ev σ= .int k' c)
    (hb:0<=n/\n<=c/\c<=1099511627776/\bytes*c<=1099511627776) (hs:0<sz)
    (h: ∀(v':PV) (zo:List Nat) (H':AH),aS H' f sz (List.replicate n.toNat z) v' zo->Nw H [] zo->HF [] H H'->(∀c3,d9 H c3->d9 H' c3)->WO P l s Q (upd σ d v') H'):
    WO P (⟨d,.d (.tu sz bytes zero x y),none⟩::l) s Q σ H:=by
  show WD P (mQ (.tu sz bytes zero x y) σ H) d l s Q σ
  simp only [mQ,hx,hy];rw [if_pos ⟨hb.1,hb.2.1,hb.2.2.1,hb.2.2.2,by rw [<-hz,hr.len],hs⟩];show WO P l s Q (upd σ d _) _
  have hn:(List.replicate n.toNat z).length=n.toNat:=List.length_replicate;refine h _ [H.next] _ (.inr ⟨H.next,c.toNat,(List.replicate (c.toNat -n.toNat) zero).flatten,rfl,by rw [hn],by rw [hn];omega,Nat.lt_succ_self _,?_,?_⟩) (fun i hi=> .inr (by rw [List.mem_singleton.1 hi];exact Nat.le_refl _)) (HF.new (HF.refl _ _)) (fun c3 k=>k.new)
  · show(if H.next=H.next then some _ else _)=_
    rw [if_pos rfl,List.map_replicate,hz,<-List.flatten_append,List.replicate_append_replicate];congr 3
    omega
  · rw [hn,Yd,<-hz,hr.len]
theorem zF {d:Option Nat} {n:Nat} {x w:AE} {l:List aV} [hr:zh f sz] {xs:List α} {id o i j:Nat} {a y:α} {vs:List PV}
    (hx:x.ev σ= .ref id o) (hid:ids=[id]) (ho:o=i*sz+j) (hrow:aS H f sz xs v ids) (ha:xs[i]? =some a) (hv:cellsOf (w.ev σ)=some vs) (hl:vs.length=n) (hone:vs.all PV.one=true) (hj:j+n<=sz) (hy:putCells (f a) j vs=f y)
    (h: ∀H':AH,aS H' f sz (xs.set i y) v ids->HF ids H H'->(∀c3,d9 H c3->d9 H' c3)->WO P l s Q (upd σ d .any) H'):
    WO P (⟨d,.d (.store n x w),none⟩::l) s Q σ H:=by
  obtain⟨id',cap,junk,e1,rfl,h2,h3,h4,h5⟩:=hrow.at ha;subst hid;cases e1;have hlt:=(List.getElem?_eq_some_iff.1 ha).1;have hfl:=rU (f:=f) hr.len xs;have hle:o+n<=((xs.map f).flatten++junk).length:=by
    rw [List.length_append,hfl,ho];have:(i+1)*sz<=xs.length*sz:=Nat.mul_le_mul_right _ hlt;rw [Nat.succ_mul]at this;omega
  show WD P (mQ (.store n x w) σ H) d l s Q σ
  simp only [mQ,hx,hv,h4];rw [if_pos ⟨hl,hle,hone⟩];show WO P l s Q (upd σ d .any) _
  have hxs:xs=xs.take i++a::xs.drop (i+1):=by rw [<-aaV ha,List.take_append_drop]
  have hA:((xs.take i).map f).flatten.length=i*sz:=by rw [rU hr.len,List.length_take];congr 1;omega
  have hput:putCells ((xs.map f).flatten++junk) o vs=((xs.set i y).map f).flatten++junk:=by
    have e2:(xs.map f).flatten++junk=((xs.take i).map f).flatten++(f a++(((xs.drop (i+1)).map f).flatten++junk)):=by
      conv=>lhs;rw [hxs]
      simp
    have e3:xs.set i y=xs.take i++y::xs.drop (i+1):=by rw [List.set_eq_take_append_cons_drop,if_pos hlt]
    rw [e2,e3,ho,<-hA,aaU _ _ _ _ (by rw [hr.len,hl];exact hj),hy];simp
  rw [hput];refine h _ (.inr ⟨id,cap,junk,rfl,by rw [List.length_set],by rw [List.length_set];exact h2,h3,?_,by rw [List.length_set];exact h5⟩) (HF.put (.inl (List.mem_singleton.2 rfl)) (HF.refl _ _)) (fun c3 k=>k.put);show(if id=id then some _ else _)=_
  rw [if_pos rfl]
end
end Go.VL
end
section
namespace Go.VL
open Go.RowKit
variable [Glob]
section
variable {P:Program} {B:Nat->Prop} {G:Gh} {H:AH} {w w':World}
theorem HM.below (hM:HM B H G w) (h:Below w.heap.size w w'):HM B H G w':=by
  have hlt: ∀b arr t fr,w.heap[b]? =some (.cells arr t fr)->b<w.heap.size:=fun b arr t fr e=>(Array.getElem?_eq_some_iff.1 e).1
  exact{
    glob:=hM.glob
    sU:=fun a x e=>by
      have hc:=hM.sU a x e;exact(World.cell?_of_block (h.block _ (World.block_lt_of_cell? w a hc))).trans hc
    obj:=fun id cs e=>by
      obtain⟨k0,b,arr,t,k1,k2,k3,k4,k5⟩:=hM.obj id cs e;exact⟨k0,b,arr,t,k1,k2,(h.block b (hlt _ _ _ _ k3)).trans k3,k4,k5⟩
    inj:=hM.inj
    tok:=fun k e=>by
      obtain⟨k0,b,o,arr,t,k1,k2,k3,k5⟩:=hM.tok k e;exact⟨k0,b,o,arr,t,k1,k2,(h.block b (hlt _ _ _ _ k3)).trans k3,k5⟩
    rZ:=hM.rZ
    tobj:=hM.tobj
    wh:=hM.wh.keep fun b _ hb=>h.block b hb}
theorem Tr.below (h:Below w.heap.size w w'):Tr B w w':=
  ⟨h.size,fun b hb _=>h.block b hb,h.os,h.tape,h.output,fun b o e _=>(h.block b (Array.getElem?_eq_some_iff.1 e).1).trans e⟩
theorem MP {f:FuncId} {args:List PV} {r:PV} (he:Enters P f)
    (h: ∀(w:World) (G:Gh) (vs:Array Value),(∀a x,Glob.gc a=some x->w.cell? a=some x)->(∀a x,G.F a=some x->w.cell? a=some x)->WH (fun b=>w.heap.size<=b) w->Vs G 0 args vs->Calls P f vs w fun e w'=> ∃v,e= .returned v/\Below w.heap.size w w'/\ ∀G n,V G n r v)
    (hp: ∀a∈args,Pu a):aG P f args r:=by
  intro H;refine⟨he,fun B G w vs hU hM hv=> ?_⟩;have hv':Vs ⟨G.F,fun _=>none,fun _=>none⟩ 0 args vs:=⟨hv.1,fun j c x hc hx=>V.pure (G:=G) (G':=⟨G.F,fun _=>none,fun _=>none⟩) (n':=0) (fun(_:Addr) (_:Value) e=>e) (hv.2 j c x hc hx) (hp c (List.mem_of_getElem? hc))⟩;refine(h w ⟨G.F,fun _=>none,fun _=>none⟩ vs (fun a x e=>hM.sU a x (hM.glob a x e)) hM.sU hM.wh.old hv').mono ?_;rintro e w' ⟨v,h1,h2,h3⟩;exact⟨r,v,H,G,h1,Tr.below h2,Ext.refl B _ G,Nat.le_refl _,hM.below h2,h3 G _,rfl,rfl⟩
theorem Rf {f:FuncId} {args:List PV} {r:PV} (he:Enters P f)
    (h: ∀(w:World) (G:Gh) (vs:Array Value),(∀a x,Glob.gc a=some x->w.cell? a=some x)->(∀a x,G.F a=some x->w.cell? a=some x)->Vs G 0 args vs->Calls P f vs w fun e w'=> ∃v,e= .returned v/\Below w.heap.size w w'/\ ∀G n,V G n r v)
    (hp: ∀a∈args,Pu a):aG P f args r:=MP he (fun w G vs h1 h2 _=>h w G vs h1 h2) hp
theorem Vs.str2 {n:Nat} {s t:List UInt8} {vs:Array Value} (h:Vs G n [.str s,.str t] vs):vs=#[.string ⟨s.toArray⟩,.string ⟨t.toArray⟩]:=by
  obtain⟨h1,h2⟩:=h
  match vs,h1,h2 with
  |⟨[v,u]⟩,_,h2=>
    have a:=h2 0 (.str s) v rfl rfl;have b:=h2 1 (.str t) u rfl rfl;cases a;cases b;rfl
theorem Vs.avX {n:Nat} {k:IntKind} {x:Int} {vs:Array Value} (h:Vs G n [.int k x] vs):vs=#[.int k x]:=by
  obtain⟨h1,h2⟩:=h
  match vs,h1,h2 with
  |⟨[v]⟩,_,h2=>
    have:=h2 0 (.int k x) v rfl rfl;cases this;rfl
theorem Vs.amK {n:Nat} {l:List (List UInt8)} {t:List UInt8} {vs:Array Value} (hi: ∀a x,G.F a=some x->w.cell? a=some x) (h:Vs G n [.aB (l.map aX) .unk,.str t] vs):
    (∃ad cap,l.length<=cap/\vs=#[.slice ad l.length cap,.string ⟨t.toArray⟩]/\(l≠[]-> ∃b o,ad=some ⟨b,o,none⟩/\b<w.heap.size/\ ∀(j:Nat) (x:ByteArray),(l.map fun s=>(⟨s.toArray⟩:ByteArray))[j]? =some x->w.cell? ⟨b,o+j,none⟩=some (.string x))):=by
  obtain⟨h1,h2⟩:=h
  match vs,h1,h2 with
  |⟨[v,u]⟩,_,h2=>
    have a:=h2 0 _ v rfl rfl;have b:=h2 1 (.str t) u rfl rfl;cases b;generalize hes:l.map aX=es at a;have hl:l.length=es.length:=by rw [<-hes];simp
    cases a with
    |aB _ _ sz ad cap f k1 k2 k3 k4 k5=>
      refine⟨ad,cap,by omega,by rw [hl],fun hne=> ?_⟩;have hne':es≠[]:=fun e=>hne (List.eq_nil_of_length_eq_zero (by rw [hl,e];rfl));obtain⟨bk,o,rfl,k6⟩:=k3 hne';have get: ∀j s,l[j]? =some s->es[j]? =some (aX s):=fun j s e=>by rw [<-hes,List.getElem?_map,e];rfl
      have hsz:sz=1:=by
        obtain⟨s,l',rfl⟩:=List.exists_cons_of_ne_nil hne;have:=k1 0 _ (get 0 s rfl);exact this.symm
      subst hsz;have cell: ∀j s,l[j]? =some s->w.cell? ⟨bk,o+j,none⟩=some (.string ⟨s.toArray⟩):=fun j s e=>by
        have e1:=get j s e;have e2:=k6 j _ e1 0 (.str s) rfl;have e3:=k4 j _ 0 (.str s) e1 rfl;generalize f j 0=v at e2 e3;cases e3;have:=hi _ _ e2;simpa using this
      refine⟨bk,o,rfl,?_,fun j x e=> ?_⟩
      · obtain⟨s,l',rfl⟩:=List.exists_cons_of_ne_nil hne;exact World.block_lt_of_cell? w _ (cell 0 s rfl)
      · simp only [List.getElem?_map,Option.map_eq_some_iff]at e;obtain⟨s,e1,rfl⟩:=e;exact cell j s e1
end
end Go.VL
end
section
namespace Go.Proofs
open Go.Shelf
def Tryz.lays156_ren:Go.Shelf.Ren:=⟨fun|156=>151|165=>191|166=>192|169=>193|240=>208|241=>209|276=>215|277=>216|n=>n,fun|31=>37|9=>9|3=>3|4=>4|0=>0|20=>20|72=>204|76=>208|70=>202|37=>141|75=>207|127=>220|164=>231|5=>5|80=>149|n=>n,fun|n=>n⟩
theorem Tryz.lays156:Go.Proofs.Lays.n156 Tryz.prog Tryz.lays156_ren:={
  mixed:=by kernel_rfl
  f156:=Tryz.func151.trans (congrArg some (by kernel_rfl))
  f165:=Tryz.func191.trans (congrArg some (by kernel_rfl))
  f166:=Tryz.func192.trans (congrArg some (by kernel_rfl))
  f169:=Tryz.func193.trans (congrArg some (by kernel_rfl))
  f240:=Tryz.func208.trans (congrArg some (by kernel_rfl))
  f241:=Tryz.func209.trans (congrArg some (by kernel_rfl))
  f276:=Tryz.func215.trans (congrArg some (by kernel_rfl))
  f277:=Tryz.func216.trans (congrArg some (by kernel_rfl))
  t0:=Tryz.underlying0
  a0:=Tryz.isAgg0
  z0:=Tryz.sizeOf0
  v0:=Tryz.zeroValue0
  t3:=Tryz.underlying3
  a3:=Tryz.isAgg3
  z3:=Tryz.sizeOf3
  v3:=Tryz.zeroValue3
  t4:=Tryz.underlying4
  a4:=Tryz.isAgg4
  z4:=Tryz.sizeOf4
  v4:=Tryz.zeroValue4
  t9:=Tryz.underlying9
  a9:=Tryz.isAgg9
  z9:=Tryz.sizeOf9
  v9:=Tryz.zeroValue9
  t20:=Tryz.underlying20
  a20:=Tryz.isAgg20
  z20:=Tryz.sizeOf20
  v20:=Tryz.zeroValue20
  t31:=Tryz.underlying37
  a31:=Tryz.isAgg37
  z31:=Tryz.sizeOf37
  v31:=Tryz.zeroValue37
  t37:=Tryz.underlying141
  a37:=Tryz.isAgg141
  z37:=Tryz.sizeOf141
  v37:=Tryz.zeroValue141
  t70:=Tryz.underlying202
  a70:=Tryz.isAgg202
  z70:=Tryz.sizeOf202
  v70:=Tryz.zeroValue202
  t72:=Tryz.underlying204
  a72:=Tryz.isAgg204
  z72:=Tryz.sizeOf204
  v72:=Tryz.zeroValue204
  t75:=Tryz.underlying207
  a75:=Tryz.isAgg207
  z75:=Tryz.sizeOf207
  v75:=Tryz.zeroValue207
  t76:=Tryz.underlying208
  a76:=Tryz.isAgg208
  z76:=Tryz.sizeOf208
  v76:=Tryz.zeroValue208
  t127:=Tryz.underlying220
  a127:=Tryz.isAgg220
  z127:=Tryz.sizeOf220
  v127:=Tryz.zeroValue220
  t164:=Tryz.underlying231
  a164:=Tryz.isAgg231
  z164:=Tryz.sizeOf231
  v164:=Tryz.zeroValue231}
theorem Tryz.Builder_Extra_156:Builder.Extra Tryz.prog Tryz.lays156_ren:={
  sizeBuilder:=by kernel_rfl
  liesBuilder:=by kernel_rfl
  t5:=Tryz.underlying5
  a5:=Tryz.isAgg5
  z5:=Tryz.sizeOf5
  v5:=Tryz.zeroValue5
  infoByte:=by kernel_rfl
  cellsByte:=by kernel_rfl
  sizeByte:=by kernel_rfl
  neB5:=by decide}
open Go.RowKit in
theorem Tryz.strings_Join_none (a:Option Addr) (c:Nat) (sep:ByteArray) (w:World):
    Calls Tryz.prog 151 #[.slice a 0 c,.string sep] w fun e w'=>e= .returned (.string ⟨#[]⟩)/\w'=w:=Any.strings_Join_none Tryz.lays156 Tryz.Builder_Extra_156 a c sep w
open Go.RowKit in
theorem Tryz.strings_Join (bk o c:Nat) (xs:List ByteArray) (sep:ByteArray) (w:World) (hcells: ∀(j:Nat) x,xs[j]? =some x->w.cell? ⟨bk,o+j,none⟩=some (.string x)) (hbk:bk<w.heap.size) (hN:xs.length<=140737488355328) (hcap:xs.length<=c) (hlen:(Lib.join (xs.map (·.data.toList)) sep.data.toList).length<=140737488355328):
    Calls Tryz.prog 151 #[.slice (some ⟨bk,o,none⟩) xs.length c,.string sep] w fun e w'=>e= .returned (.string ⟨(Lib.join (xs.map (·.data.toList)) sep.data.toList).toArray⟩)/\Below w.heap.size w w':=Any.strings_Join Tryz.lays156 Tryz.Builder_Extra_156 bk o c xs sep w hcells hbk hN hcap hlen
def Tryz.laysM246_ren:Go.Shelf.Ren:=⟨fun|246=>210|283=>217|284=>218|285=>219|286=>220|129=>178|317=>227|318=>228|319=>229|320=>230|337=>233|338=>234|n=>n,fun|2=>2|3=>3|9=>9|4=>4|171=>234|0=>0|53=>183|37=>141|5=>5|173=>236|212=>250|51=>181|20=>20|213=>251|46=>138|232=>255|233=>256|n=>n,fun|17=>3|18=>4|19=>5|n=>n⟩
def Tryz.laysM243_ren:Go.Shelf.Ren:=⟨fun|243=>194|246=>210|283=>217|284=>218|285=>219|286=>220|129=>178|317=>227|318=>228|319=>229|320=>230|337=>233|338=>234|n=>n,fun|3=>3|9=>9|2=>2|4=>4|171=>234|0=>0|53=>183|37=>141|5=>5|173=>236|212=>250|51=>181|20=>20|213=>251|46=>138|232=>255|233=>256|n=>n,fun|17=>3|18=>4|19=>5|n=>n⟩
def Tryz.laysM171_ren:Go.Shelf.Ren:=⟨fun|171=>152|243=>194|246=>210|283=>217|284=>218|285=>219|286=>220|129=>178|317=>227|318=>228|319=>229|320=>230|337=>233|338=>234|n=>n,fun|3=>3|9=>9|2=>2|4=>4|171=>234|0=>0|53=>183|37=>141|5=>5|173=>236|212=>250|51=>181|20=>20|213=>251|46=>138|232=>255|233=>256|n=>n,fun|17=>3|18=>4|19=>5|n=>n⟩
theorem Tryz.laysM171:Go.Proofs.LaysM.n171 Tryz.prog Tryz.laysM171_ren:={
  mixed:=by kernel_rfl
  f129:=Tryz.func178.trans (congrArg some (by kernel_rfl))
  f171:=Tryz.func152.trans (congrArg some (by kernel_rfl))
  f243:=Tryz.func194.trans (congrArg some (by kernel_rfl))
  f246:=Tryz.func210.trans (congrArg some (by kernel_rfl))
  f283:=Tryz.func217.trans (congrArg some (by kernel_rfl))
  f284:=Tryz.func218.trans (congrArg some (by kernel_rfl))
  f285:=Tryz.func219.trans (congrArg some (by kernel_rfl))
  f286:=Tryz.func220.trans (congrArg some (by kernel_rfl))
  f317:=Tryz.func227.trans (congrArg some (by kernel_rfl))
  f318:=Tryz.func228.trans (congrArg some (by kernel_rfl))
  f319:=Tryz.func229.trans (congrArg some (by kernel_rfl))
  f320:=Tryz.func230.trans (congrArg some (by kernel_rfl))
  f337:=Tryz.func233.trans (congrArg some (by kernel_rfl))
  f338:=Tryz.func234.trans (congrArg some (by kernel_rfl))
  t0:=Tryz.underlying0
  a0:=Tryz.isAgg0
  z0:=Tryz.sizeOf0
  v0:=Tryz.zeroValue0
  t2:=Tryz.underlying2
  a2:=Tryz.isAgg2
  z2:=Tryz.sizeOf2
  v2:=Tryz.zeroValue2
  t3:=Tryz.underlying3
  a3:=Tryz.isAgg3
  z3:=Tryz.sizeOf3
  v3:=Tryz.zeroValue3
  t4:=Tryz.underlying4
  a4:=Tryz.isAgg4
  z4:=Tryz.sizeOf4
  v4:=Tryz.zeroValue4
  t5:=Tryz.underlying5
  a5:=Tryz.isAgg5
  z5:=Tryz.sizeOf5
  v5:=Tryz.zeroValue5
  t9:=Tryz.underlying9
  a9:=Tryz.isAgg9
  z9:=Tryz.sizeOf9
  v9:=Tryz.zeroValue9
  t20:=Tryz.underlying20
  a20:=Tryz.isAgg20
  z20:=Tryz.sizeOf20
  v20:=Tryz.zeroValue20
  t37:=Tryz.underlying141
  a37:=Tryz.isAgg141
  z37:=Tryz.sizeOf141
  v37:=Tryz.zeroValue141
  t46:=Tryz.underlying138
  a46:=Tryz.isAgg138
  z46:=Tryz.sizeOf138
  v46:=Tryz.zeroValue138
  t51:=Tryz.underlying181
  a51:=Tryz.isAgg181
  z51:=Tryz.sizeOf181
  v51:=Tryz.zeroValue181
  t53:=Tryz.underlying183
  a53:=Tryz.isAgg183
  z53:=Tryz.sizeOf183
  v53:=Tryz.zeroValue183
  t171:=Tryz.underlying234
  a171:=Tryz.isAgg234
  z171:=Tryz.sizeOf234
  v171:=Tryz.zeroValue234
  t173:=Tryz.underlying236
  a173:=Tryz.isAgg236
  z173:=Tryz.sizeOf236
  v173:=Tryz.zeroValue236
  t212:=Tryz.underlying250
  a212:=Tryz.isAgg250
  z212:=Tryz.sizeOf250
  v212:=Tryz.zeroValue250
  t213:=Tryz.underlying251
  a213:=Tryz.isAgg251
  z213:=Tryz.sizeOf251
  t232:=Tryz.underlying255
  a232:=Tryz.isAgg255
  z232:=Tryz.sizeOf255
  v232:=Tryz.zeroValue255
  t233:=Tryz.underlying256
  a233:=Tryz.isAgg256
  z233:=Tryz.sizeOf256
  v233:=Tryz.zeroValue256
  g17:=by kernel_rfl
  g18:=by kernel_rfl
  g19:=by kernel_rfl
  i0:=by kernel_rfl
  i2:=by kernel_rfl
  i3:=by kernel_rfl
  i4:=by kernel_rfl
  i5:=by kernel_rfl
  i9:=by kernel_rfl
  i20:=by kernel_rfl
  i37:=by kernel_rfl
  i46:=by kernel_rfl
  i51:=by kernel_rfl
  i53:=by kernel_rfl
  i171:=by kernel_rfl
  i173:=by kernel_rfl
  i212:=by kernel_rfl
  i232:=by kernel_rfl
  i233:=by kernel_rfl
  m17:=by kernel_rfl
  m18:=by kernel_rfl
  m19:=by kernel_rfl}
open Go.RowKit Go.Sort Go.Lib in
theorem Tryz.strconv_Itoa (n:Int) (h0: -9223372036854775808<=n) (h1:n<=9223372036854775807) (w:World) (htab:Lib.TabIs Tryz.prog w "internal/strconv.uint64pow10" .u64 Lib.pow10Tab):
    Calls Tryz.prog 152 #[.int .i64 n] w fun e w'=>e= .returned (.string ⟨(Lib.itoa n).toArray⟩)/\ ∃k os,w'=grow (w.drewN k) os:=Any.strconv_Itoa Tryz.laysM171 n h0 h1 w htab
def Tryz.lays219_ren:Go.Shelf.Ren:=⟨fun|219=>214|217=>223|225=>224|224=>225|267=>226|266=>231|314=>232|n=>n,fun|9=>9|3=>3|4=>4|5=>5|46=>138|146=>197|51=>181|n=>n,fun|1=>2|n=>n⟩
theorem Tryz.lays219:Go.Proofs.Lays.n219 Tryz.prog Tryz.lays219_ren:={
  mixed:=by kernel_rfl
  f217:=Tryz.func223.trans (congrArg some (by kernel_rfl))
  f219:=Tryz.func214.trans (congrArg some (by kernel_rfl))
  f224:=Tryz.func225.trans (congrArg some (by kernel_rfl))
  f225:=Tryz.func224.trans (congrArg some (by kernel_rfl))
  f266:=Tryz.func231.trans (congrArg some (by kernel_rfl))
  f267:=Tryz.func226.trans (congrArg some (by kernel_rfl))
  f314:=Tryz.func232.trans (congrArg some (by kernel_rfl))
  t3:=Tryz.underlying3
  a3:=Tryz.isAgg3
  z3:=Tryz.sizeOf3
  v3:=Tryz.zeroValue3
  t4:=Tryz.underlying4
  a4:=Tryz.isAgg4
  z4:=Tryz.sizeOf4
  v4:=Tryz.zeroValue4
  t5:=Tryz.underlying5
  a5:=Tryz.isAgg5
  z5:=Tryz.sizeOf5
  v5:=Tryz.zeroValue5
  t9:=Tryz.underlying9
  a9:=Tryz.isAgg9
  z9:=Tryz.sizeOf9
  v9:=Tryz.zeroValue9
  t46:=Tryz.underlying138
  a46:=Tryz.isAgg138
  z46:=Tryz.sizeOf138
  v46:=Tryz.zeroValue138
  t51:=Tryz.underlying181
  a51:=Tryz.isAgg181
  z51:=Tryz.sizeOf181
  v51:=Tryz.zeroValue181
  t146:=Tryz.underlying197
  a146:=Tryz.isAgg197
  z146:=Tryz.sizeOf197
  v146:=Tryz.zeroValue197
  g1:=by kernel_rfl}
open Go.RowKit Go.Lib in
theorem Tryz.stringslite_Index_one (s:ByteArray) (c:UInt8) (w:World):
    Calls Tryz.prog 214 #[.string s,.string ⟨#[c]⟩] w fun e w'=>e= .returned (.int .i64 (Lib.indexByte s.data.toList c))/\w'=w:=Any.stringslite_Index_one Tryz.lays219 s c w
def Tryz.lays190_ren:Go.Shelf.Ren:=⟨fun|190=>66|125=>117|258=>116|128=>177|129=>178|302=>168|303=>169|304=>170|305=>171|306=>172|307=>173|308=>174|309=>175|310=>176|333=>197|329=>198|330=>199|334=>200|335=>201|336=>202|344=>212|n=>n,fun|31=>37|9=>9|3=>3|46=>138|0=>0|51=>181|53=>183|4=>4|183=>174|182=>173|131=>178|5=>5|218=>210|222=>214|228=>223|229=>30|n=>n,fun|n=>n⟩
theorem Tryz.lays190:Go.Proofs.Lays.n190 Tryz.prog Tryz.lays190_ren:={
  mixed:=by kernel_rfl
  f125:=Tryz.func117.trans (congrArg some (by kernel_rfl))
  f128:=Tryz.func177.trans (congrArg some (by kernel_rfl))
  f129:=Tryz.func178.trans (congrArg some (by kernel_rfl))
  f190:=Tryz.func66.trans (congrArg some (by kernel_rfl))
  f258:=Tryz.func116.trans (congrArg some (by kernel_rfl))
  f302:=Tryz.func168.trans (congrArg some (by kernel_rfl))
  f303:=Tryz.func169.trans (congrArg some (by kernel_rfl))
  f304:=Tryz.func170.trans (congrArg some (by kernel_rfl))
  f305:=Tryz.func171.trans (congrArg some (by kernel_rfl))
  f306:=Tryz.func172.trans (congrArg some (by kernel_rfl))
  f307:=Tryz.func173.trans (congrArg some (by kernel_rfl))
  f308:=Tryz.func174.trans (congrArg some (by kernel_rfl))
  f309:=Tryz.func175.trans (congrArg some (by kernel_rfl))
  f310:=Tryz.func176.trans (congrArg some (by kernel_rfl))
  f329:=Tryz.func198.trans (congrArg some (by kernel_rfl))
  f330:=Tryz.func199.trans (congrArg some (by kernel_rfl))
  f333:=Tryz.func197.trans (congrArg some (by kernel_rfl))
  f334:=Tryz.func200.trans (congrArg some (by kernel_rfl))
  f335:=Tryz.func201.trans (congrArg some (by kernel_rfl))
  f336:=Tryz.func202.trans (congrArg some (by kernel_rfl))
  f344:=Tryz.func212.trans (congrArg some (by kernel_rfl))
  t0:=Tryz.underlying0
  a0:=Tryz.isAgg0
  z0:=Tryz.sizeOf0
  v0:=Tryz.zeroValue0
  t3:=Tryz.underlying3
  a3:=Tryz.isAgg3
  z3:=Tryz.sizeOf3
  v3:=Tryz.zeroValue3
  t4:=Tryz.underlying4
  a4:=Tryz.isAgg4
  z4:=Tryz.sizeOf4
  v4:=Tryz.zeroValue4
  t5:=Tryz.underlying5
  a5:=Tryz.isAgg5
  z5:=Tryz.sizeOf5
  v5:=Tryz.zeroValue5
  t9:=Tryz.underlying9
  a9:=Tryz.isAgg9
  z9:=Tryz.sizeOf9
  v9:=Tryz.zeroValue9
  t31:=Tryz.underlying37
  a31:=Tryz.isAgg37
  z31:=Tryz.sizeOf37
  v31:=Tryz.zeroValue37
  t46:=Tryz.underlying138
  a46:=Tryz.isAgg138
  z46:=Tryz.sizeOf138
  v46:=Tryz.zeroValue138
  t51:=Tryz.underlying181
  a51:=Tryz.isAgg181
  z51:=Tryz.sizeOf181
  v51:=Tryz.zeroValue181
  t53:=Tryz.underlying183
  a53:=Tryz.isAgg183
  z53:=Tryz.sizeOf183
  v53:=Tryz.zeroValue183
  t131:=Tryz.underlying178
  a131:=Tryz.isAgg178
  z131:=Tryz.sizeOf178
  v131:=Tryz.zeroValue178
  t182:=Tryz.underlying173
  a182:=Tryz.isAgg173
  z182:=Tryz.sizeOf173
  v182:=Tryz.zeroValue173
  t183:=Tryz.underlying174
  a183:=Tryz.isAgg174
  z183:=Tryz.sizeOf174
  v183:=Tryz.zeroValue174
  t218:=Tryz.underlying210
  a218:=Tryz.isAgg210
  z218:=Tryz.sizeOf210
  v218:=Tryz.zeroValue210
  t222:=Tryz.underlying214
  a222:=Tryz.isAgg214
  z222:=Tryz.sizeOf214
  v222:=Tryz.zeroValue214
  t228:=Tryz.underlying223
  a228:=Tryz.isAgg223
  z228:=Tryz.sizeOf223
  v228:=Tryz.zeroValue223
  t229:=Tryz.underlying30
  a229:=Tryz.isAgg30
  z229:=Tryz.sizeOf30
  v229:=Tryz.zeroValue30}
open Go.Sort Go.RowKit in
theorem Tryz.slices_Sort_string (blk off cap:Nat) (ss:List (List UInt8)) (w:World) (hH:Holds encStr w blk off ss.toArray) (hblk:blk<w.heap.size) (hsz:ss.length<4611686018427387904):
    Calls Tryz.prog 66 #[.slice (some ⟨blk,off,none⟩) ss.length cap] w fun e w'=>
      e= .returned (.tuple #[])/\ ∃n os,w'=grow (putRow encStr (Sort.ahead w n) blk off (ss.mergeSort fun x y=>decide (x<=y)).toArray) os:=Any.slices_Sort_string Tryz.lays190 blk off cap ss w hH hblk hsz
def Tryz.laysGw17_ren:Go.Shelf.Ren:=⟨fun|17=>143|15=>185|20=>206|n=>n,fun|9=>9|23=>152|4=>4|3=>3|0=>0|21=>21|n=>n,fun|n=>n⟩
theorem Tryz.laysGw17:Go.Proofs.LaysGw.n17 Tryz.prog Tryz.laysGw17_ren:={
  mixed:=by kernel_rfl
  f15:=Tryz.func185.trans (congrArg some (by kernel_rfl))
  f17:=Tryz.func143.trans (congrArg some (by kernel_rfl))
  f20:=Tryz.func206.trans (congrArg some (by kernel_rfl))
  t0:=Tryz.underlying0
  a0:=Tryz.isAgg0
  z0:=Tryz.sizeOf0
  v0:=Tryz.zeroValue0
  i0:=by kernel_rfl
  t3:=Tryz.underlying3
  a3:=Tryz.isAgg3
  z3:=Tryz.sizeOf3
  v3:=Tryz.zeroValue3
  i3:=by kernel_rfl
  t4:=Tryz.underlying4
  a4:=Tryz.isAgg4
  z4:=Tryz.sizeOf4
  v4:=Tryz.zeroValue4
  i4:=by kernel_rfl
  t9:=Tryz.underlying9
  a9:=Tryz.isAgg9
  z9:=Tryz.sizeOf9
  v9:=Tryz.zeroValue9
  i9:=by kernel_rfl
  t21:=Tryz.underlying21
  a21:=Tryz.isAgg21
  z21:=Tryz.sizeOf21
  v21:=Tryz.zeroValue21
  i21:=by kernel_rfl
  t23:=Tryz.underlying152
  a23:=Tryz.isAgg152
  z23:=Tryz.sizeOf152
  v23:=Tryz.zeroValue152
  i23:=by kernel_rfl}
def Tryz.lays264_ren:Go.Shelf.Ren:=⟨fun|264=>189|n=>n,fun|53=>183|46=>138|n=>n,fun|n=>n⟩
theorem Tryz.lays264:Go.Proofs.Lays.n264 Tryz.prog Tryz.lays264_ren:={
  mixed:=by kernel_rfl
  f264:=Tryz.func189.trans (congrArg some (by kernel_rfl))
  t46:=Tryz.underlying138
  a46:=Tryz.isAgg138
  z46:=Tryz.sizeOf138
  v46:=Tryz.zeroValue138
  t53:=Tryz.underlying183
  a53:=Tryz.isAgg183
  z53:=Tryz.sizeOf183
  v53:=Tryz.zeroValue183}
open Go.RowKit Go.Lib in
theorem Tryz.bits_Mul64 (x y:Nat) (hx:x<18446744073709551616) (hy:y<18446744073709551616) (w:World):
    Calls Tryz.prog 189 #[.int .u64 x,.int .u64 y] w fun e w'=>e= .returned (.tuple #[.int .u64 ((x*y/18446744073709551616:Nat):Int),.int .u64 ((x*y% 18446744073709551616:Nat):Int)])/\w'=w:=Any.bits_Mul64 Tryz.lays264 x y hx hy w
open Go.RowKit Go.Lib in
theorem Tryz.strings_ContainsFunc_grows (g:Nat) (lb:Array Value) (eg: ∀args w,(callFunc g args).run Tryz.prog w= .ok (.enter g args) w) (p:Nat->Bool) (s:ByteArray) (w:World) (hp:PredGrows Tryz.prog g lb p w):
    Calls Tryz.prog 143 #[.string s,.func (.func g) #[] lb] w fun e w'=>e= .returned (.bool (decide (0<=Lib.idxFunc p true s)))/\Below w.heap.size w w':=Any.strings_ContainsFunc_grows Tryz.laysGw17 g lb eg p s w hp
def Tryz.lays194_ren:Go.Shelf.Ren:=⟨fun|194=>119|n=>n,fun|31=>37|9=>9|3=>3|4=>4|0=>0|n=>n,fun|n=>n⟩
theorem Tryz.lays194:Go.Proofs.Lays.n194 Tryz.prog Tryz.lays194_ren:={
  mixed:=by kernel_rfl
  f194:=Tryz.func119.trans (congrArg some (by kernel_rfl))
  t0:=Tryz.underlying0
  a0:=Tryz.isAgg0
  z0:=Tryz.sizeOf0
  v0:=Tryz.zeroValue0
  t3:=Tryz.underlying3
  a3:=Tryz.isAgg3
  z3:=Tryz.sizeOf3
  v3:=Tryz.zeroValue3
  t4:=Tryz.underlying4
  a4:=Tryz.isAgg4
  z4:=Tryz.sizeOf4
  v4:=Tryz.zeroValue4
  t9:=Tryz.underlying9
  a9:=Tryz.isAgg9
  z9:=Tryz.sizeOf9
  v9:=Tryz.zeroValue9
  t31:=Tryz.underlying37
  a31:=Tryz.isAgg37
  z31:=Tryz.sizeOf37
  v31:=Tryz.zeroValue37}
open Go.RowKit Go.Lib Go.Sort in
theorem Tryz.slices_Compact_string (blk off cap:Nat) (zs:List (List UInt8)) (w:World) (hH:Holds encStr w blk off zs.toArray) (hsz:zs.length<=9223372036854775807) (hcap:zs.length<=cap):
    Calls Tryz.prog 119 #[.slice (some ⟨blk,off,none⟩) zs.length cap] w fun e w'=>e= .returned (.slice (some ⟨blk,off,none⟩) (Lib.compact zs).length cap)/\ ∃q,w'=putRow encStr (Sort.ahead w q) blk off (Lib.compact zs++List.replicate (zs.length -(Lib.compact zs).length) []).toArray:=Any.slices_Compact_string Tryz.lays194 blk off cap zs w hH hsz hcap
open Go.RowKit Go.Lib Go.Sort in
theorem Tryz.slices_Compact_string_empty (a:Option Addr) (cap:Nat) (w:World):
    Calls Tryz.prog 119 #[.slice a 0 cap] w fun e w'=>e= .returned (.slice a 0 cap)/\w'=w:=Any.slices_Compact_string_empty Tryz.lays194 a cap w
open Go.RowKit Go.Sort in
theorem Tryz.slices_Sort_string_none (p:Option Addr) (cap:Nat) (w:World):
    Calls Tryz.prog 66 #[.slice p 0 cap] w fun e w'=>e= .returned (.tuple #[])/\w'=w:=Any.slices_Sort_string_none Tryz.lays190 p cap w
def Tryz.growOp_ren:Go.Shelf.Ren:=⟨fun|4=>167|n=>n,fun|22=>93|25=>46|3=>3|4=>4|9=>9|20=>20|0=>0|n=>n,fun|n=>n⟩
theorem Tryz.growOp:Go.Proofs.Lays8.n4 Tryz.prog Tryz.growOp_ren:={
  mixed:=by kernel_rfl
  f4:=⟨Tryz.f167.name,by decide,Tryz.func167.trans (congrArg some (by kernel_rfl))⟩
  t0:=Tryz.underlying0
  a0:=Tryz.isAgg0
  z0:=Tryz.sizeOf0
  v0:=Tryz.zeroValue0
  t3:=Tryz.underlying3
  a3:=Tryz.isAgg3
  z3:=Tryz.sizeOf3
  v3:=Tryz.zeroValue3
  t4:=Tryz.underlying4
  a4:=Tryz.isAgg4
  z4:=Tryz.sizeOf4
  v4:=Tryz.zeroValue4
  t9:=Tryz.underlying9
  a9:=Tryz.isAgg9
  z9:=Tryz.sizeOf9
  v9:=Tryz.zeroValue9
  t20:=Tryz.underlying20
  a20:=Tryz.isAgg20
  z20:=Tryz.sizeOf20
  v20:=Tryz.zeroValue20
  t22:=Tryz.underlying93
  a22:=Tryz.isAgg93
  z22:=Tryz.sizeOf93
  v22:=Tryz.zeroValue93}
end Go.Proofs
end
