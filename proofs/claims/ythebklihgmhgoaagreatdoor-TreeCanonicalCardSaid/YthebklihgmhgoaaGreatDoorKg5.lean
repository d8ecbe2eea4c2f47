/- Part 5. -/
import Derived.Test.YthebklihgmhgoaaGreatDoorKg4
import Derived.Laws.RangeAny
import Derived.IntWalk
import Derived.Test.YthebklihgmhgoaaGreatDoorRows
import Derived.RangeFuncOwn
import Derived.TacticsIn
import Derived.TacticsInMore
import Derived.LoopIn
import Derived.Walk
import Derived.WalkKit
import Derived.KernelRfl
set_option maxRecDepth 8000
set_option linter.unusedVariables false
set_option linter.unusedSectionVars false
set_option linter.unusedSimpArgs false
section
set_option maxHeartbeats 4000000
namespace Go.VL
open Go.Proofs
def xS:Nat->Str->Int->Int->Int->Int->Option ((Int×Int))
  |0,_,_,_,_,_=>none
  |k+1,s_0,Wo,tu,sF,kR=>
    cond (decide (kR<(s_0.length:Int))) (if 0<=kR then Option.bind (s_0[kR.toNat]?) fun x3=>if 0<=(x3.toNat:Int)/\(x3.toNat:Int)<256 then Option.bind (zy[x3.toNat]?) fun x6=>xS k s_0 (IntKind.wrap .i64 (Wo+(IntKind.wrap .i64 ((BitVec.ofInt (IntKind.bits .i64) tu&&&BitVec.ofInt (IntKind.bits .i64) (IntKind.wrap .i64 ((BitVec.ofInt (IntKind.bits .i64) (if IntKind.signed .i64=true then -1 else IntKind.max .i64)^^^BitVec.ofInt (IntKind.bits .i64) (IntKind.wrap .i64 x6)).toNat))).toNat)))) (IntKind.wrap .i64 x6) (IntKind.wrap .u8 ((BitVec.ofInt (IntKind.bits .u8) sF|||BitVec.ofInt (IntKind.bits .u8) (x3.toNat:Int)).toNat)) (IntKind.wrap .i64 (kR+1))else none else none) (some ((Wo,sF)))
def Lm:List Nat:=[3,4,5,6,7,8]++List.range' 13 23
theorem XF: ∀(k:Nat) (s_0:Str) (Wo:Int) (tu:Int) (sF:Int) (kR:Int) (aC σ:Nat->PV) (H:AH) (f0:Fr Lm aC σ) (sl:σ 0=(.str s_0)/\σ 3=(.int .i64 Wo)/\σ 4=(.int .i64 tu)/\σ 5=(.int .u8 sF)/\σ 6=(.int .i64 kR)) (o:(Int×Int)) (h:xS k s_0 Wo tu sF kR=some o) (Q:Post) (q0: ∀(p:Int×Int) (σ':Nat->PV),o=p->Fr Lm aC σ'->(σ' 3=(.int .i64 p.1)/\σ' 5=(.int .u8 p.2))->Q (.exit 0) σ' H),W Tryz.prog (.loop O6) Q σ H:=by
  intro k
  induction k with
  |zero=>intro s_0 Wo tu sF kR aC σ H f0 sl o h Q q0;simp only [xS,reduceCtorEq]at h
  |succ k ih=>
    intro s_0 Wo tu sF kR aC σ H f0 sl o h Q q0;obtain⟨s0,s3,s4,s5,s6⟩:=sl;unfold xS at h;refine aU (fun K hK=>aD ?_);unfold O6;rcases au h with⟨e1,h⟩|⟨e1,h⟩
    ·obtain⟨e2,h⟩:=aQ h;obtain⟨x3,e4,h⟩:=aj h;obtain⟨e5,h⟩:=aQ h;obtain⟨x6,e7,h⟩:=aj h;try refine dh ?_
     refine hK _ _ ?_;exact ih s_0 (IntKind.wrap .i64 (Wo+(IntKind.wrap .i64 ((BitVec.ofInt (IntKind.bits .i64) tu&&&BitVec.ofInt (IntKind.bits .i64) (IntKind.wrap .i64 ((BitVec.ofInt (IntKind.bits .i64) (if IntKind.signed .i64=true then -1 else IntKind.max .i64)^^^BitVec.ofInt (IntKind.bits .i64) (IntKind.wrap .i64 x6)).toNat))).toNat)))) (IntKind.wrap .i64 x6) (IntKind.wrap .u8 ((BitVec.ofInt (IntKind.bits .u8) sF|||BitVec.ofInt (IntKind.bits .u8) (x3.toNat:Int)).toNat)) (IntKind.wrap .i64 (kR+1)) _ _ _ aJ aR _ h _ q0
    ·obtain rfl:=ak h;try refine dh ?_
     exact q0 _ _ rfl aJ aR
def xU:Nat->Str->Int->Option Int
  |0,_,_=>none
  |k+1,s_0,gN=>
    cond (decide (gN<(s_0.length:Int))) (if 0<=gN then Option.bind (s_0[gN.toNat]?) fun x30=>if 0<=(x30.toNat:Int)/\(x30.toNat:Int)<256 then Option.bind (zy[x30.toNat]?) fun x33=>cond (x33 !=0) (xU k s_0 (IntKind.wrap .i64 (gN+1))) (some (gN))else none else none) (some (gN))
def Lp:List Nat:=[12]++List.range' 42 14
theorem XG: ∀(k:Nat) (s_0:Str) (gN:Int) (aC σ:Nat->PV) (H:AH) (f0:Fr Lp aC σ) (sl:σ 0=(.str s_0)/\σ 12=(.int .i64 gN)) (o:Int) (h:xU k s_0 gN=some o) (Q:Post) (q0: ∀(p:Int) (σ':Nat->PV),o=p->Fr Lp aC σ'->(σ' 12=(.int .i64 p))->Q (.exit 2) σ' H),W Tryz.prog (.loop O7) Q σ H:=by
  intro k
  induction k with
  |zero=>intro s_0 gN aC σ H f0 sl o h Q q0;simp only [xU,reduceCtorEq]at h
  |succ k ih=>
    intro s_0 gN aC σ H f0 sl o h Q q0;obtain⟨s0,s12⟩:=sl;unfold xU at h;refine aU (fun K hK=>aD ?_);unfold O7;rcases au h with⟨e28,h⟩|⟨e28,h⟩
    ·obtain⟨e29,h⟩:=aQ h;obtain⟨x30,e31,h⟩:=aj h;obtain⟨e32,h⟩:=aQ h;obtain⟨x33,e34,h⟩:=aj h;rcases au h with⟨e35,h⟩|⟨e35,h⟩
     ·try refine dh ?_
      refine hK _ _ ?_;exact ih s_0 (IntKind.wrap .i64 (gN+1)) _ _ _ aJ aR _ h _ q0
     ·obtain rfl:=ak h;try refine dh ?_
      exact q0 _ _ rfl aJ aR
    ·obtain rfl:=ak h;try refine dh ?_
     exact q0 _ _ rfl aJ aR
def xV:Nat->Str->Int->Option Int
  |0,_,_=>none
  |k+1,s_0,gN=>
    cond (decide (gN<(s_0.length:Int))) (if 0<=gN then Option.bind (s_0[gN.toNat]?) fun Wp=>if 0<=(Wp.toNat:Int)/\(Wp.toNat:Int)<256 then Option.bind (zy[Wp.toNat]?) fun x76=>cond (x76 !=0) (xV k s_0 (IntKind.wrap .i64 (gN+1))) (some (gN))else none else none) (some (gN))
def Lr:List Nat:=[12]++List.range' 80 14
theorem XH: ∀(k:Nat) (s_0:Str) (gN:Int) (aC σ:Nat->PV) (H:AH) (f0:Fr Lr aC σ) (sl:σ 0=(.str s_0)/\σ 12=(.int .i64 gN)) (o:Int) (h:xV k s_0 gN=some o) (Q:Post) (q0: ∀(p:Int) (σ':Nat->PV),o=p->Fr Lr aC σ'->(σ' 12=(.int .i64 p))->Q (.exit 6) σ' H),W Tryz.prog (.loop O8) Q σ H:=by
  intro k
  induction k with
  |zero=>intro s_0 gN aC σ H f0 sl o h Q q0;simp only [xV,reduceCtorEq]at h
  |succ k ih=>
    intro s_0 gN aC σ H f0 sl o h Q q0;obtain⟨s0,s12⟩:=sl;unfold xV at h;refine aU (fun K hK=>aD ?_);unfold O8;rcases au h with⟨e71,h⟩|⟨e71,h⟩
    ·obtain⟨e72,h⟩:=aQ h;obtain⟨Wp,e74,h⟩:=aj h;obtain⟨Qv,h⟩:=aQ h;obtain⟨x76,NM,h⟩:=aj h;rcases au h with⟨Ze,h⟩|⟨Ze,h⟩
     ·try refine dh ?_
      refine hK _ _ ?_;exact ih s_0 (IntKind.wrap .i64 (gN+1)) _ _ _ aJ aR _ h _ q0
     ·obtain rfl:=ak h;try refine dh ?_
      exact q0 _ _ rfl aJ aR
    ·obtain rfl:=ak h;try refine dh ?_
     exact q0 _ _ rfl aJ aR
def uJ:Nat->Str->(List Str)->Int->Int->Int->Option (((List Str)×Int×Int))
  |0,_,_,_,_,_=>none
  |k+1,s_0,Ls,mO,fQ,gN=>
    cond (decide (gN<(s_0.length:Int))) (if 0<=gN then Option.bind (s_0[gN.toNat]?) fun x48=>if 0<=(x48.toNat:Int)/\(x48.toNat:Int)<256 then Option.bind (zy[x48.toNat]?) fun x51=>cond (x51==0) (uJ k s_0 Ls mO fQ (IntKind.wrap .i64 (gN+1))) (if 0<=fQ/\fQ<=gN/\gN.toNat<=s_0.length then if 0<=mO then Option.bind (Ls[mO.toNat]?) fun x56=>Option.bind (xV k s_0 (IntKind.wrap .i64 (gN+1))) (fun Wi=>uJ k s_0 (Ls.set mO.toNat ((s_0.take gN.toNat).drop fQ.toNat)) (IntKind.wrap .i64 (mO+1)) Wi Wi)else none else none)else none else none) (some ((Ls,mO,fQ)))
def Lu:List Nat:=[10,11,12]++List.range' 57 38
theorem XI: ∀(k:Nat) (DT:PV) (BD:List Nat) (M:List Nat) (s_0:Str) (Ls:List Str) (mO:Int) (fQ:Int) (gN:Int) (aC σ:Nat->PV) (H0 H:AH) (f0:Fr Lu aC σ) (hf0:HF M H0 H) (sl:σ 0=(.str s_0)/\σ 9=DT/\σ 10=(.int .i64 mO)/\σ 11=(.int .i64 fQ)/\σ 12=(.int .i64 gN)) (DU:aO H aI 1 Ls DT BD) (Iy:Nw H0 M BD) (o:((List Str)×Int×Int)) (h:uJ k s_0 Ls mO fQ gN=some o) (Q:Post) (q0: ∀(p:(List Str)×Int×Int) (v0:PV) (tC:List Nat) (σ':Nat->PV) (H':AH),o=p->Fr Lu aC σ'->HF M H0 H'->(σ' 9=v0/\σ' 10=(.int .i64 p.2.1)/\σ' 11=(.int .i64 p.2.2))->aO H' aI 1 p.1 v0 tC->Nw H0 M tC->Q (.exit 4) σ' H'),W Tryz.prog (.loop O9) Q σ H:=by
  intro k
  induction k with
  |zero=>intro DT BD M s_0 Ls mO fQ gN aC σ H0 H f0 hf0 sl DU Iy o h Q q0;simp only [uJ,reduceCtorEq]at h
  |succ k ih=>
    intro DT BD M s_0 Ls mO fQ gN aC σ H0 H f0 hf0 sl DU Iy o h Q q0;obtain⟨s0,s9,s10,s11,s12⟩:=sl;have hle0:=hf0.1;unfold uJ at h;refine aU (fun K hK=>aD ?_);unfold O9;rcases au h with⟨e46,h⟩|⟨e46,h⟩
    ·obtain⟨e47,h⟩:=aQ h;obtain⟨x48,e49,h⟩:=aj h;obtain⟨e50,h⟩:=aQ h;obtain⟨x51,e52,h⟩:=aj h;rcases au h with⟨e53,h⟩|⟨e53,h⟩
     ·try refine dh ?_
      refine hK _ _ ?_;exact ih DT BD M s_0 Ls mO fQ (IntKind.wrap .i64 (gN+1)) _ _ _ _ aJ (by repeat (first|exact hf0|refine HF.new ?_|refine HF.fP ?_|refine HF.used ?_|refine HF.put (by first|(right;omega)|(left;simp only [List.mem_cons,true_or,or_true])) ?_)) aR (by repeat (first|exact DU|apply aO.new|refine aO.put ?_ (fun hm=>by have:=aO.lt DU _ hm;omega))) Iy _ h _ q0
     ·obtain⟨e54,h⟩:=aQ h;obtain⟨e55,h⟩:=aQ h;obtain⟨x56,e57,h⟩:=aj h;obtain⟨w58,w59,aqg,hil,w60,hC,hL,hD,hI⟩:=aO.content DU e57;have w61:=ne_next hil;have w62:=aW hil;have w63:lq 1 DT (.int .i64 mO)=some (.ref w58 (mO.toNat)):=by simpa using hI .i64 mO (by first|omega|decide) (by first|rfl|omega)
      have aAv:w59[mO.toNat]? =some (.str x56):=by simpa using hC 0 _ rfl
      clear hC hL hD hI;try refine dh ?_
      refine qw (f:=aI) (id:=w58) (o:=mO.toNat) (i:=mO.toNat) (j:=0) (a:=x56) (y:=((s_0.take gN.toNat).drop fQ.toNat)) (vs:=[(.str ((s_0.take gN.toNat).drop fQ.toNat))]) aR aqg (by omega) (by repeat (first|exact DU|apply aO.new|refine aO.put ?_ (fun hm=>by have:=aO.lt DU _ hm;omega))) e57 aR rfl rfl (by first|decide|(simp only [List.length_cons,List.length_nil];omega)) rfl (fun H66 r67 aqh ahT=> ?_);have le:=aqh.1;try simp only [AH.aK,AH.aL,AH.aM,AH.aN]at le
      try refine dh ?_
      obtain⟨o79,h80,h⟩:=aj h;refine XH k s_0 (IntKind.wrap .i64 (gN+1)) _ _ _ (Fr.refl _ _) aR _ h80 _ ?_
      ·rintro Wi σ' eo UW s85;rw [eo]at h;have s86:σ' 0=(.str s_0):=(UW 0 (by decide)).trans aR;have s87:σ' 9=DT:=(UW 9 (by decide)).trans aR;have s88:σ' 10=(.int .i64 (IntKind.wrap .i64 (mO+1))):=(UW 10 (by decide)).trans aR;try refine dh ?_
       refine hK _ _ ?_;exact ih DT BD M s_0 (Ls.set mO.toNat ((s_0.take gN.toNat).drop fQ.toNat)) (IntKind.wrap .i64 (mO+1)) Wi Wi _ _ _ _ (by repeat (first|exact f0|refine Fr.upd (by decide) ?_|refine Fr.via UW (by decide) ?_)) (by repeat (first|exact hf0|refine HF.new ?_|refine HF.fP ?_|refine HF.used ?_|refine HF.put (by first|(right;omega)|(left;simp only [List.mem_cons,true_or,or_true])) ?_|refine HF.via aqh Iy ?_)) aR (by repeat (first|exact r67|apply aO.new|refine aO.put ?_ (fun hm=>by have:=aO.lt r67 _ hm;omega))) Iy _ h _ q0
    ·obtain rfl:=ak h;try refine dh ?_
     exact q0 _ DT BD _ _ rfl aJ (by repeat (first|exact hf0|refine HF.new ?_|refine HF.fP ?_|refine HF.used ?_|refine HF.put (by first|(right;omega)|(left;simp only [List.mem_cons,true_or,or_true])) ?_)) aR (by repeat (first|exact DU|apply aO.new|refine aO.put ?_ (fun hm=>by have:=aO.lt DU _ hm;omega))) Iy
def Pq (k:Nat) (s_0:Str):Option (List Str):=
  Option.bind (xS k s_0 0 1 0 0) (fun iT=>cond (decide (iT.2>=128)) (Option.bind (YR s_0) fun zG=>some zG) (if 0<=iT.1/\iT.1<=1099511627776/\16*iT.1<=1099511627776 then Option.bind (xU k s_0 0) (fun p38=>Option.bind (uJ k s_0 (List.replicate iT.1.toNat []) 0 p38 p38) (fun l7=>cond (decide (l7.2.2<(s_0.length:Int))) (if 0<=l7.2.2/\l7.2.2.toNat<=s_0.length then if 0<=l7.2.1 then Option.bind (l7.1[l7.2.1.toNat]?) fun aij=>some (l7.1.set l7.2.1.toNat (s_0.drop l7.2.2.toNat))else none else none) (some l7.1)))else none))
theorem aef {k:Nat} {s_0:Str} {r:List Str} (h:Pq k s_0=some r):aF Tryz.prog 180 [(.str s_0)] (.aB (r.map aI) .unk):=by
  refine aF.aP (bg.mem (.cons (.str _) .nil)) (aG ata (by simp) (aD ?_)) (aV bn _);unfold Pq at h;unfold akr;try refine dh ?_
  obtain⟨o8,h9,h⟩:=aj h;refine XF k s_0 0 1 0 0 _ _ _ (Fr.refl _ _) aR _ h9 _ ?_
  ·rintro iT σ' eo KY ⟨NP,s15⟩;rw [eo]at h;have s16:σ' 0=(.str s_0):=(KY 0 (by decide)).trans aR;rcases au h with⟨e17,h⟩|⟨e17,h⟩
   ·obtain⟨zG,e18,h⟩:=aj h;try refine dh ?_
    refine aA (adO s_0 e18) ?_;obtain rfl:=ak h;try refine dh ?_
    exact(d9 bn _ _)
   ·obtain⟨e20,h⟩:=aQ h;try refine dh ?_
    refine YQ (f:=aI) (k:= .i64) (n:=iT.1) (k':= .i64) (c:=iT.1) [] rfl aR aR (by omega) (by decide) (fun v21 akM H23 r24 aBv adY aoe=> ?_);have le:=adY.1;try simp only [AH.aK,AH.aL,AH.aM,AH.aN]at le
    try refine dh ?_
    obtain⟨o36,h37,h⟩:=aj h;refine XG k s_0 0 _ _ _ (Fr.refl _ _) aR _ h37 _ ?_
    ·rintro p38 σ' eo aik s42;rw [eo]at h;have s43:σ' 0=(.str s_0):=(aik 0 (by decide)).trans aR;have s44:σ' 9=v21:=(aik 9 (by decide)).trans aR;have s45:σ' 10=(.int .i64 0):=(aik 10 (by decide)).trans aR;try refine dh ?_
     obtain⟨o89,h90,h⟩:=aj h;refine XI k v21 akM (akM++[]) s_0 (List.replicate iT.1.toNat []) 0 p38 p38 _ _ _ _ (Fr.refl _ _) (HF.refl _ _) aR (by repeat (first|exact r24|apply aO.new|refine aO.put ?_ (fun hm=>by have:=aO.lt r24 _ hm;omega))) (fun i hi=>Or.inl (by simp only [List.mem_append,List.mem_cons,hi,true_or,or_true])) _ h90 _ ?_
     ·rintro l7 v95 aAw σ' H94 eo ail ain ⟨s99,aic,awR⟩ r97 aBw;rw [eo]at h;have aBx:σ' 0=(.str s_0):=(ail 0 (by decide)).trans aR;have le:=ain.1;try simp only [AH.aK,AH.aL,AH.aM,AH.aN]at le
      rcases au h with⟨Jq,h⟩|⟨Jq,h⟩
      ·obtain⟨aio,h⟩:=aQ h;obtain⟨La,h⟩:=aQ h;obtain⟨aij,EW,h⟩:=aj h;obtain⟨aqk,awS,amk,hil,aBy,hC,hL,hD,hI⟩:=aO.content r97 EW;have aBz:=ne_next hil;have aBA:=aW hil;have aBB:lq 1 v95 (.int .i64 l7.2.1)=some (.ref aqk (l7.2.1.toNat)):=by simpa using hI .i64 l7.2.1 (by first|omega|decide) (by first|rfl|omega)
       have azf:awS[l7.2.1.toNat]? =some (.str aij):=by simpa using hC 0 _ rfl
       clear hC hL hD hI;try refine dh ?_
       refine qw (f:=aI) (id:=aqk) (o:=l7.2.1.toNat) (i:=l7.2.1.toNat) (j:=0) (a:=aij) (y:=(s_0.drop l7.2.2.toNat)) (vs:=[(.str (s_0.drop l7.2.2.toNat))]) aR amk (by omega) (by repeat (first|exact r97|apply aO.new|refine aO.put ?_ (fun hm=>by have:=aO.lt r97 _ hm;omega))) EW aR rfl rfl (by first|decide|(simp only [List.length_cons,List.length_nil];omega)) rfl (fun awT aql ato ajW=> ?_);have le:=ato.1;try simp only [AH.aK,AH.aL,AH.aM,AH.aN]at le
       obtain rfl:=ak h;try refine dh ?_
       exact(aO.fz bn (by repeat (first|exact aql|apply aO.new|refine aO.put ?_ (fun hm=>by have:=aO.lt aql _ hm;omega))))
      ·obtain rfl:=ak h;try refine dh ?_
       exact(aO.fz bn (by repeat (first|exact r97|apply aO.new|refine aO.put ?_ (fun hm=>by have:=aO.lt r97 _ hm;omega))))
def wN (k:Nat):Option (List Str):=
  Option.bind (Pq k ([65,83,83,85,77,69,32,65,83,83,85,77,80,84,73,79,78,32,65,88,73,79,77,32,66,89,32,67,65,83,69,32,67,72,79,79,83,69,32,67,79,78,83,84,65,78,84,32,67,79,78,83,84,65,78,84,83,32,68,69,70,32,68,69,70,73,78,69,32,68,69,70,83,32,68,79,77,65,73,78,32,69,76,83,69,32,69,78,65,66,76,69,68,32,69,88,67,69,80,84,32,69,88,84,69,78,68,83,32,70,65,76,83,69,32,72,65,86,69,32,72,73,68,69,32,73,70,32,73,78,32,73,78,83,84,65,78,67,69,32,76,65,77,66,68,65,32,76,69,77,77,65,32,76,69,84,32,76,79,67,65,76,32,77,79,68,85,76,69,32,78,69,87,32,79,66,86,73,79,85,83,32,79,77,73,84,84,69,68,32,79,84,72,69,82,32,80,73,67,75,32,80,82,79,79,70,32,80,82,79,80,79,83,73,84,73,79,78,32,80,82,79,86,69,32,81,69,68,32,82,69,67,85,82,83,73,86,69,32,83,85,66,83,69,84,32,83,85,70,70,73,67,69,83,32,84,65,75,69,32,84,72,69,78,32,84,72,69,79,82,69,77,32,84,82,85,69,32,85,78,67,72,65,78,71,69,68,32,85,78,73,79,78,32,85,83,69,32,86,65,82,73,65,66,76,69,32,86,65,82,73,65,66,76,69,83,32,87,73,84,72,32,87,73,84,78,69,83,83,32,66,79,79,76,69,65,78,32,83,84,82,73,78,71]:Str)) fun p2=>some p2
theorem ZN {k:Nat} {r:List Str} (h:wN k=some r):aF Tryz.prog 126 [] (.aB (r.map aI) .unk):=by
  refine aF.aP (bg.mem .nil) (aG asN (by simp) (aD ?_)) (aV bn _);unfold wN at h;unfold aj1;obtain⟨p2,e1,h⟩:=aj h;try refine ah ?_
  refine aA (aef e1) ?_;obtain rfl:=ak h;try refine ah ?_
  exact(d9 bn _ _)
end Go.VL
end
section
namespace Go.VL
open Go.Proofs Go.RowKit
def Hg:List Str:=(wN 800).getD []
theorem af0:wN 800=some Hg:=by
  have h:(wN 800).isSome=true:=by kernel_rfl
  rw [Hg];cases h1:wN 800 with
  |none=>rw [h1]at h;cases h
  |some r=>rfl
theorem aqm:aF Tryz.prog 126 [] (.aB (Hg.map aI) .unk):=ZN af0
end Go.VL
end
section
set_option maxHeartbeats 4000000
namespace Go.VL
open Go.Proofs
def Ch (k:Nat) (s_0:Str) (rU:Bool):Option Bool:=
  cond rU (some (true)) (Option.bind (lJ s_0 ([87,70,95]:Str)) fun p5=>cond p5 (some (true)) (Option.bind (lJ s_0 ([83,70,95]:Str)) fun p8=>cond p8 (some (true)) (Option.bind (cB k Hg s_0) fun nJ=>some (nJ))))
def Lv:List Nat:=List.range' 11 12
theorem XJ (k:Nat): ∀(s_0:Str) (rU:Bool) (aC σ:Nat->PV) (H:AH) (f0:Fr Lv aC σ) (sl:σ 0=(.str s_0)/\σ 10=(.bool rU)) (o:Bool) (h:Ch k s_0 rU=some o) (Q:Post) (q0: ∀(p:Bool) (σ':Nat->PV),o=p->Fr Lv aC σ'->(σ' 22=(.bool p))->Q .normal σ' H),dz Tryz.prog TU (Q .normal) σ H:=by
  intro s_0 rU aC σ H f0 sl o h Q q0;obtain⟨s0,s10⟩:=sl;unfold Ch at h;refine eD ?_;unfold TU;rcases au h with⟨e3,h⟩|⟨e3,h⟩
  ·obtain rfl:=ak h;try refine ah ?_
   exact q0 _ _ rfl aJ av
  ·obtain⟨p5,e4,h⟩:=aj h;try refine ah ?_
   refine aA (Dw e4) ?_;rcases au h with⟨e6,h⟩|⟨e6,h⟩
   ·obtain rfl:=ak h;try refine ah ?_
    exact q0 _ _ rfl aJ av
   ·obtain⟨p8,e7,h⟩:=aj h;try refine ah ?_
    refine aA (Dw e7) ?_;rcases au h with⟨e9,h⟩|⟨e9,h⟩
    ·obtain rfl:=ak h;try refine ah ?_
     exact q0 _ _ rfl aJ av
    ·try refine ah ?_
     refine aA (aqm) ?_;obtain⟨nJ,e10,h⟩:=aj h;try refine ah ?_
     refine aA (kI e10) ?_;obtain rfl:=ak h;try refine ah ?_
     exact q0 _ _ rfl aJ av
def xW (c_5:Int) (ZO:Bool):Option Bool:=
  cond ZO (some (true)) (Option.bind (gJ (IntKind.wrap .i64 c_5) 65 90) fun p29=>some (p29))
theorem XK: ∀(c_5:Int) (ZO:Bool) (aC σ:Nat->PV) (H:AH) (f0:Fr [35,36,37,38] aC σ) (sl:σ 5=(.int .u8 c_5)/\σ 34=(.bool ZO)) (o:Bool) (h:xW c_5 ZO=some o) (Q:Post) (q0: ∀(p:Bool) (σ':Nat->PV),o=p->Fr [35,36,37,38] aC σ'->(σ' 38=(.bool p))->Q .normal σ' H),dz Tryz.prog TV (Q .normal) σ H:=by
  intro c_5 ZO aC σ H f0 sl o h Q q0;obtain⟨s5,s34⟩:=sl;unfold xW at h;refine eD ?_;unfold TV;rcases au h with⟨e27,h⟩|⟨e27,h⟩
  ·obtain rfl:=ak h;try refine ah ?_
   exact q0 _ _ rfl aJ av
  ·obtain⟨p29,e28,h⟩:=aj h;try refine ah ?_
   refine aA (gL e28) ?_;obtain rfl:=ak h;try refine ah ?_
   exact q0 _ _ rfl aJ av
def kr:Nat->Int->(List Int)->Int->Int->Option (Int⊕Bool)
  |0,_,_,_,_=>none
  |k+1,kV,tF,jh,jQ=>
    cond (decide (jQ<jh)) (if 0<=jQ then Option.bind (tF[jQ.toNat]?) fun x23=>Option.bind (gJ (IntKind.wrap .i64 x23) 97 122) fun p26=>Option.bind (xW x23 p26) (fun p32=>cond p32 (kr k (IntKind.wrap .i64 (kV+1)) tF jh (IntKind.wrap .i64 (jQ+1))) (Option.bind (gJ (IntKind.wrap .i64 x23) 48 57) fun p44=>cond p44 (kr k kV tF jh (IntKind.wrap .i64 (jQ+1))) (cond (x23 !=95) (some (.inr (false))) (kr k kV tF jh (IntKind.wrap .i64 (jQ+1))))))else none) (some (.inl kV))
def EX:List Nat:=[2,3,5]++List.range' 26 25
theorem XL: ∀(k:Nat) (kV:Int) (tF:List Int) (jh:Int) (jQ:Int) (aC σ:Nat->PV) (H:AH) (f0:Fr EX aC σ) (sl:σ 3=(.int .i64 kV)/\σ 24=(.aB (tF.map u8L) .unk)/\σ 25=(.int .i64 jh)/\σ 26=(.int .i64 jQ)) (o:Int⊕Bool) (h:kr k kV tF jh jQ=some o) (Q:Post) (q0: ∀(p:Int) (σ':Nat->PV),o= .inl p->Fr EX aC σ'->(σ' 3=(.int .i64 p))->Q (.exit 0) σ' H) (q1: ∀(p:Bool) (σ':Nat->PV),o= .inr (p)->Fr EX aC σ'->(σ' 2=(.bool p))->Q .ret σ' H),W Tryz.prog (.loop TW) Q σ H:=by
  intro k
  induction k with
  |zero=>intro kV tF jh jQ aC σ H f0 sl o h Q q0 q1;simp only [kr,reduceCtorEq]at h
  |succ k ih=>
    intro kV tF jh jQ aC σ H f0 sl o h Q q0 q1;obtain⟨s3,s24,s25,s26⟩:=sl;unfold kr at h;refine aU (fun K hK=>aD ?_);unfold TW;rcases au h with⟨e21,h⟩|⟨e21,h⟩
    ·obtain⟨e22,h⟩:=aQ h;obtain⟨x23,e24,h⟩:=aj h;obtain⟨p26,e25,h⟩:=aj h;try refine ah ?_
     refine aA (gL e25) ?_;try refine ah ?_
     obtain⟨o30,h31,h⟩:=aj h;refine XK x23 p26 _ _ _ (Fr.refl _ _) av _ h31 _ ?_
     ·rintro p32 σ' eo uR s36;rw [eo]at h;have s37:σ' 3=(.int .i64 kV):=(uR 3 (by decide)).trans av;have s38:σ' 5=(.int .u8 x23):=(uR 5 (by decide)).trans av;have s39:σ' 24=(.aB (tF.map u8L) .unk):=(uR 24 (by decide)).trans av;have s40:σ' 25=(.int .i64 jh):=(uR 25 (by decide)).trans av;have s41:σ' 26=(.int .i64 jQ):=(uR 26 (by decide)).trans av;rcases au h with⟨e42,h⟩|⟨e42,h⟩
      ·try refine ah ?_
       refine hK _ _ ?_;exact ih (IntKind.wrap .i64 (kV+1)) tF jh (IntKind.wrap .i64 (jQ+1)) _ _ _ (by repeat (first|exact f0|refine Fr.upd (by decide) ?_|refine Fr.via uR (by decide) ?_)) av _ h _ q0 q1
      ·obtain⟨p44,e43,h⟩:=aj h;try refine ah ?_
       refine aA (gL e43) ?_;rcases au h with⟨e45,h⟩|⟨e45,h⟩
       ·try refine ah ?_
        refine hK _ _ ?_;exact ih kV tF jh (IntKind.wrap .i64 (jQ+1)) _ _ _ (by repeat (first|exact f0|refine Fr.upd (by decide) ?_|refine Fr.via uR (by decide) ?_)) av _ h _ q0 q1
       ·rcases au h with⟨e46,h⟩|⟨e46,h⟩
        ·obtain rfl:=ak h;try refine ah ?_
         exact q1 _ _ rfl (by repeat (first|exact f0|refine Fr.upd (by decide) ?_|refine Fr.via uR (by decide) ?_)) av
        ·try refine ah ?_
         refine hK _ _ ?_;exact ih kV tF jh (IntKind.wrap .i64 (jQ+1)) _ _ _ (by repeat (first|exact f0|refine Fr.upd (by decide) ?_|refine Fr.via uR (by decide) ?_)) av _ h _ q0 q1
    ·obtain rfl:=ak h;try refine ah ?_
     exact q0 _ _ rfl aJ av
def tH (k:Nat) (s_0:Str):Option Bool:=
  Option.bind (gJ (s_0.length:Int) 1 24) fun p2=>Option.bind (Ch k s_0 (!p2)) (fun jO=>cond jO (some false) (Option.bind (kr k 0 (rM s_0) ((rM s_0).length:Int) 0) (fun o=>Sum.elim (fun p49=>some (decide (p49>0))) (fun p54=>some p54) o)))
theorem Ag {k:Nat} {s_0:Str} {r:Bool} (h:tH k s_0=some r):aF Tryz.prog 77 [(.str s_0)] (.bool r):=by
  refine aF.aP (bg.mem (.cons (.str _) .nil)) (aG av2 (by simp) (aD ?_)) (.bool _);unfold tH at h;unfold aoV;obtain⟨p2,e1,h⟩:=aj h;try refine ah ?_
  refine aA (gL e1) ?_;try refine ah ?_
  obtain⟨o12,K8,h⟩:=aj h;refine XJ k s_0 (!p2) _ _ _ (Fr.refl _ _) av _ K8 _ ?_
  ·rintro jO σ' eo xE jE;rw [eo]at h;have pI:σ' 0=(.str s_0):=(xE 0 (by decide)).trans av;rcases au h with⟨e20,h⟩|⟨e20,h⟩
   ·obtain rfl:=ak h;try refine ah ?_
    exact(.pure _ (.bool _))
   ·try refine ah ?_
    obtain⟨o47,h48,h⟩:=aj h;refine XL k 0 (rM s_0) ((rM s_0).length:Int) 0 _ _ _ (Fr.refl _ _) av _ h48 _ ?_ ?_
    ·rintro p49 σ' eo Lc s53;subst eo;rw [bL]at h;obtain rfl:=ak h;try refine ah ?_
     exact(.pure _ (.bool _))
    ·rintro p54 σ' eo aeg s58;subst eo;rw [bP]at h;obtain rfl:=ak h;try refine ah ?_
     exact(.pure _ (.bool _))
def wO (k:Nat) (s_0:Str):Option Bool:=
  cond (decide ((s_0.length:Int)>49)) (some false) (Option.bind (ahV s_0 ([33]:Str)) fun p5=>cond (decide (p5>=0)) (if 0<=p5/\p5.toNat<=s_0.length then if 0<=(IntKind.wrap .i64 (p5+1))/\(IntKind.wrap .i64 (p5+1)).toNat<=s_0.length then Option.bind (tH k (s_0.take p5.toNat)) fun iT=>cond iT (Option.bind (tH k (s_0.drop (IntKind.wrap .i64 (p5+1)).toNat)) fun uY=>some uY) (some false)else none else none) (Option.bind (tH k s_0) fun zK=>cond zK (some true) (some false)))
theorem LA {k:Nat} {s_0:Str} {r:Bool} (h:wO k s_0=some r):aF Tryz.prog 146 [(.str s_0)] (.bool r):=by
  refine aF.aP (bg.mem (.cons (.str _) .nil)) (aG as3 (by simp) (aD ?_)) (.bool _);unfold wO at h;unfold aki;rcases au h with⟨e1,h⟩|⟨e1,h⟩
  ·obtain rfl:=ak h;try refine ah ?_
   exact(.pure _ (.bool _))
  ·try refine ah ?_
   refine aG atg (by simp) (aD ?_);unfold akx;try refine ah ?_
   refine aG ati (by simp) (aD ?_);unfold akz;obtain⟨p5,e4,h⟩:=aj h;try refine ah ?_
   refine aA (apf s_0 ([33]:Str) e4) ?_;rcases au h with⟨e6,h⟩|⟨e6,h⟩
   ·try refine ah ?_
    refine eZ ?_;obtain⟨e7,h⟩:=aQ h;obtain⟨e8,h⟩:=aQ h;obtain⟨iT,e9,h⟩:=aj h;try refine ah ?_
    refine aA (Ag e9) ?_;rcases au h with⟨e11,h⟩|⟨e11,h⟩
    ·obtain⟨uY,e12,h⟩:=aj h;try refine ah ?_
     refine aA (Ag e12) ?_;obtain rfl:=ak h;try refine ah ?_
     exact(.pure _ (.bool _))
    ·obtain rfl:=ak h;try refine ah ?_
     exact(.pure _ (.bool _))
   ·obtain⟨zK,e14,h⟩:=aj h;try refine ah ?_
    refine aA (Ag e14) ?_;rcases au h with⟨e16,h⟩|⟨e16,h⟩
    ·obtain rfl:=ak h;try refine ah ?_
     exact(.pure _ (.bool _))
    ·obtain rfl:=ak h;try refine ah ?_
     exact(.pure _ (.bool _))
end Go.VL
end
section
namespace Go.VL
open Go.Proofs Go.RowKit
theorem Vs.atp {G:Gh} {n:Nat} {s:List UInt8} {g:FuncId} {vs:Array Value} (h:Vs G n [.str s,.fn (.func g) [] []] vs):vs=#[.string ⟨s.toArray⟩,.func (.func g) #[] #[]]:=by
  obtain⟨h1,h2⟩:=h
  match vs,h1,h2 with
  |⟨[v,u]⟩,_,h2=>
    have e1:=h2 0 (.str s) v rfl rfl;have e2:=h2 1 (.fn (.func g) [] []) u rfl rfl;cases e1;cases e2 with
    |fn g cs ds vs us h1 _ h3 _=>
      have a1:vs=#[]:=Array.size_eq_zero_iff.1 h1;have a2:us=#[]:=Array.size_eq_zero_iff.1 h3;rw [a1,a2]
theorem af4 {g:FuncId} {p:Nat->Bool} (hp: ∀x:Nat,x<=1114111->aF Tryz.prog g [.int .i32 x] (.bool (p x))) {w:World} (hg: ∀a x,Glob.gc a=some x->w.cell? a=some x) (hw:WH (fun b=>w.heap.size<=b) w):PredGrows Tryz.prog g #[] p w:=by
  intro W x hx hb;have hM:bE Tryz.prog g [.int .i32 x] AH.empty fun v _=>v= .bool (p x):=bE.mono (hp x hx AH.empty) fun v H' q=>q.1;refine(bE.top hM (fun a y e=>(World.cell?_of_block (hb.block _ (World.block_lt_of_cell? w a (hg a y e)))).trans (hg a y e)) (hw.keep fun b _ hlt=>hb.block b hlt).old (vs:=#[encR x]++#[]) ?_);exact⟨rfl,fun j c y e e'=>by
    match j,e,e' with
    |0,e,e'=>cases e;cases e';exact .int _ _⟩
theorem U2 {g:FuncId} (p:Nat->Bool) (he: ∀args w,(callFunc g args).run Tryz.prog w= .ok (.enter g args) w) (hp: ∀x:Nat,x<=1114111->aF Tryz.prog g [.int .i32 x] (.bool (p x))) (s:Str):
    aF Tryz.prog 143 [.str s,.fn (.func g) [] []] (.bool (decide (0<=Lib.idxFunc p true ⟨s.toArray⟩))):=by
  refine KS ⟨_,Tryz.func143,rfl,by kernel_rfl⟩ (fun w G vs hg hi hw hv=> ?_) (bg.mem (.cons (.str _) (.cons (.fn _ _ _ (bg.mem .nil) (bg.mem .nil)) .nil)));rw [Vs.atp hv];refine(Tryz.strings_ContainsFunc_grows g #[] he p ⟨s.toArray⟩ w (af4 hp hg hw)).mono ?_;rintro e w' ⟨rfl,hb⟩;exact⟨_,rfl,hb,fun G n=> .bool _⟩
def QT (x y:Int):Int×Int:=(((x.toNat*y.toNat/18446744073709551616:Nat):Int),((x.toNat*y.toNat% 18446744073709551616:Nat):Int))
theorem Vs.atq {G:Gh} {n:Nat} {x y:Int} {k k':IntKind} {vs:Array Value} (h:Vs G n [.int k x,.int k' y] vs):vs=#[.int k x,.int k' y]:=by
  obtain⟨h1,h2⟩:=h
  match vs,h1,h2 with
  |⟨[v,u]⟩,_,h2=>
    have e1:=h2 0 (.int k x) v rfl rfl;have e2:=h2 1 (.int k' y) u rfl rfl;cases e1;cases e2;rfl
theorem aml (x y:Int) (h:(0<=x/\x<18446744073709551616)/\(0<=y/\y<18446744073709551616)):aF Tryz.prog 189 [.int .u64 x,.int .u64 y] (.dJ [.int .u64 (QT x y).1,.int .u64 (QT x y).2]):=by
  refine Jg ⟨_,Tryz.func189,rfl,by kernel_rfl⟩ (fun w G vs hg hi hv=> ?_) (bg.mem (.cons (.int _ _) (.cons (.int _ _) .nil)));rw [Vs.atq hv];obtain⟨a,rfl⟩: ∃a:Nat,x=a:=⟨x.toNat,by omega⟩;obtain⟨b,rfl⟩: ∃b:Nat,y=b:=⟨y.toNat,by omega⟩;refine(Tryz.bits_Mul64 a b (by omega) (by omega) w).mono ?_;rintro e w' ⟨rfl,rfl⟩;refine⟨_,rfl,Below.refl _ _,fun G n=> ?_⟩;refine .dJ _ _ rfl fun j c y e e'=> ?_
  match j,e,e' with
  |0,e,e'=>cases e;cases e';exact .int _ _
  |1,e,e'=>cases e;cases e';exact .int _ _
theorem N7 (p:Nat->Bool) (hp: ∀x,128<=x->p x=true) (s:Str): ∀(f pos:Nat),s.length<=pos+f->
    decide (0<=Lib.idxFuncFrom p true ⟨s.toArray⟩ f pos)=(s.drop pos).any (fun c=>p c.toNat)
  |0,pos,h=>by rw [List.drop_eq_nil_of_le (by omega)];rfl
  |f+1,pos,h=>by
    have hsz:(⟨s.toArray⟩:ByteArray).size=s.length:=rfl;by_cases hlt:pos<s.length
    · have hlt':pos<(⟨s.toArray⟩:ByteArray).size:=hlt;have hget:(⟨s.toArray⟩:ByteArray)[pos]'hlt'=s[pos]:=rfl;rw [List.drop_eq_getElem_cons hlt,List.any_cons];simp only [Lib.idxFuncFrom,hsz,hlt,if_true];by_cases ha:(s[pos]).toNat<128
      · rw [decode_ascii ⟨s.toArray⟩ pos hlt' (by rw [hget];exact ha),hget];by_cases hq:p (s[pos]).toNat=true
        · simp only [hq,if_true,Bool.true_or];exact decide_eq_true (by omega)
        · simp only [hq,Bool.false_or];exact N7 p hp s f (pos+1) (by omega)
      · have hd:=decode_high ⟨s.toArray⟩ pos hlt' (by rw [hget];omega);rw [if_pos (hp _ hd.1),hp _ (by omega),Bool.true_or];exact decide_eq_true (by omega)
    · rw [List.drop_eq_nil_of_le (by omega),Lib.idxFuncFrom_end _ _ _ _ _ (by rw [hsz];exact hlt)];rfl
theorem amm (p:Nat->Bool) (hp: ∀x,128<=x->p x=true) (s:Str):decide (0<=Lib.idxFunc p true ⟨s.toArray⟩)=s.any (fun c=>p c.toNat):=by
  have h:=N7 p hp s s.length 0 (by omega);rw [List.drop_zero]at h;exact h
def Pt (x:Nat):Bool:=bif decide (32<=x)&&decide (x<=126)then x==34||x==92 else true
theorem af5 (x:Nat) (h:x<=1114111):DR (x:Int)=some (Pt x):=by
  have hw:IntKind.wrap .i64 (x:Int)=x:=IntWalk.i64_in _ (by omega);unfold DR gJ Pt;rw [hw];by_cases h1:32<=x
  · have h1':(32:Int)<=x:=by omega
    by_cases h2:x<=126
    · have h2':(x:Int)<=126:=by omega
      have e1:((x:Int)==34)=(x==34):=by rw [Bool.eq_iff_iff];simp only [beq_iff_eq];omega
      have e2:((x:Int)==92)=(x==92):=by rw [Bool.eq_iff_iff];simp only [beq_iff_eq];omega
      simp only [h1,h1',h2,h2',decide_true,cond_true,Bool.and_true,Option.bind_some,e1,e2];cases x==34<;>rfl
    · have h2': ¬(x:Int)<=126:=by omega
      simp [h1,h1',h2,h2']
  · have h1': ¬(32:Int)<=x:=by omega
    simp [h1,h1']
def aeh (s:Str):Bool:=s.any (fun c=>Pt c.toNat)
theorem aqp (s:Str):aF Tryz.prog 143 [.str s,.fn (.func 142) [] []] (.bool (aeh s)):=by
  have h:=U2 (g:=142) Pt (fun args w=>by kernel_rfl) (fun x hx=>ZC (af5 x hx)) s;rw [amm Pt (fun x hx=>by
    have h2: ¬x<=126:=by omega
    simp [Pt,h2]) s]at h
  exact h
end Go.VL
end
section
set_option maxHeartbeats 4000000
namespace Go.VL
open Go.Proofs
def vU (s_0:Str):Option Bool:=
  cond (decide ((s_0.length:Int)<=40)) (some (!(aeh s_0))) (some false)
theorem DV {s_0:Str} {r:Bool} (h:vU s_0=some r):aF Tryz.prog 92 [(.str s_0)] (.bool r):=by
  refine aF.aP (bg.mem (.cons (.str _) .nil)) (aG awe (by simp) (aD ?_)) (.bool _);unfold vU at h;unfold ao6;rcases au h with⟨e1,h⟩|⟨e1,h⟩
  ·try refine ah ?_
   refine aA (aqp s_0) ?_;obtain rfl:=ak h;try refine ah ?_
   exact(.pure _ (.bool _))
  ·obtain rfl:=ak h;try refine ah ?_
   exact(.pure _ (.bool _))
end Go.VL
end
section
namespace Go.VL
open Go.Proofs Go.RowKit
theorem Yb {G:Gh} {m:Nat} {v:Value} (h:V G m (.aB [] .nil) v):v= .slice none 0 0:=by
  generalize hp:PV.aB [] .nil=p at h;cases h with
  |aB es c sz ad cap f h1 h2 h3 h4 h5=>
    cases hp;have q1:=h5.1;have q2:=h5.2.2;rw [q1,q2];rfl
  |_=>cases hp
theorem Vs.aqr {G:Gh} {m:Nat} {n:Int} {vs:Array Value} (h:Vs G m [.aB [] .nil,.int .i64 n] vs):vs=#[.slice none 0 0,.int .i64 n]:=by
  obtain⟨h1,h2⟩:=h
  match vs,h1,h2 with
  |⟨[v,u]⟩,_,h2=>
    have e1:=h2 0 (.aB [] .nil) v rfl rfl;have e2:=h2 1 (.int .i64 n) u rfl rfl;cases e2;have e3:=Yb e1;rw [e3]
theorem akO (zs:Array Value) (k:Nat):(Builtin.zeroCells zs k).size=k*zs.size:=by simp [Builtin.zeroCells]
theorem af6 (n:Int) (h:0<n/\n<=1000000):Jh Tryz.prog 167 [.aB [] .nil,.int .i64 n] Operator.cells 7 []:=by
  intro H;refine⟨⟨_,Tryz.func167,rfl,by kernel_rfl⟩,fun B G w vs hU hM hv=> ?_⟩;obtain⟨n,rfl⟩: ∃k:Nat,n=k:=⟨n.toNat,by omega⟩;rw [Vs.aqr hv];obtain⟨i0,hi0,hq⟩: ∃i0,Tryz.prog.info? (Tryz.growOp_ren.t 25)=some i0/\(i0.zero.map fun z=>z.cells.size)=some 7/\i0.size=7/\i0.bytes=64:=by
    have h:(Tryz.prog.info? (Tryz.growOp_ren.t 25)).map (fun i0=>((i0.zero.map fun z=>z.cells.size),i0.size,i0.bytes))=some (some 7,7,64):=by kernel_rfl
    cases hi:Tryz.prog.info? (Tryz.growOp_ren.t 25)with
    |none=>rw [hi]at h;cases h
    |some i0=>rw [hi]at h;simp only [Option.map_some,Option.some.injEq,Prod.mk.injEq]at h;exact⟨i0,rfl,h.1,h.2.1,h.2.2⟩
  obtain⟨hz,hs,hb⟩:=hq;obtain⟨z,hz0,hz1⟩:=Option.map_eq_some_iff.1 hz;have key:=Any8.slices_Grow_grow Tryz.growOp i0 z hi0 hz0 (by omega) none 0 0 n [] w (Nat.le_refl _) (by omega) (by rw [hb];omega) (by omega) (by simp) (fun _=>rfl) (fun a e=>by cases e);have hge:=grownCap_ge w (0+n) 0 (Tryz.growOp_ren.t 25);refine key.mono ?_;rintro e w' ⟨rfl,rfl⟩
  obtain⟨G',e1,e2,e3⟩:=HM.newObj (w:=w.drew) hU hM.drew (Tryz.growOp_ren.t 25) (Vs.Sd (G:=G) H.next (grownCap w (0+n) 0 (Tryz.growOp_ren.t 25)*7) _ (by
    show((#[]:Array Value)++Builtin.zeroCells z.cells (0+n -0)++Builtin.zeroCells z.cells (grownCap w (0+n) 0 (Tryz.growOp_ren.t 25) -(0+n))).size=_
    rw [Array.size_append,Array.size_append,akO,akO,hz1];simp only [Array.size_empty];omega))
  refine⟨_,_,_,G',rfl,Tr.Cv w _,e1,Nat.le_succ _,e2,.bV H.next 0 0 _ 7 _ (Nat.lt_succ_self _) e3,[H.next],.inr ⟨H.next,_,List.replicate (grownCap w (0+n) 0 (Tryz.growOp_ren.t 25)*7) .any,rfl,rfl,Nat.zero_le _,Nat.lt_succ_self _,?_,?_⟩,?_,(HF.refl _ _).new,fun c3 hc=>hc.new⟩
  · show(if H.next=H.next then some _ else _)=_
    rw [if_pos rfl];rfl
  · rw [List.length_replicate,List.length_nil,Nat.sub_zero]
  · intro i hi;rw [List.mem_singleton.1 hi];exact .inr (Nat.le_refl _)
end Go.VL
end
section
set_option maxHeartbeats 4000000
namespace Go.VL
open Go.Proofs
def vV:Nat->Int->Int->(List Operator)->(List Str)->Int->Int->Option (List Operator)
  |0,_,_,_,_,_,_=>none
  |k+1,iA,fI,Ci,rU,bR,ji=>
    cond (decide (ji<bR)) (if 0<=ji then Option.bind (rU[ji.toNat]?) fun x3=>if(Ci.length+1)*64<=1099511627776 then vV k iA fI (Ci++[(Operator.mk x3 0 iA fI false 1 1)]) rU bR (IntKind.wrap .i64 (ji+1))else none else none) (some (Ci))
def J5:List Nat:=[7,9]++List.range' 12 12
theorem U3: ∀(k:Nat) (iA:Int) (fI:Int) (Ci:List Operator) (rU:List Str) (bR:Int) (ji:Int) (wP:Ck) (aC σ:Nat->PV) (H0 H:AH) (f0:Fr J5 aC σ) (hf0:HF [] H0 H) (sl:σ 0=(.int .i64 iA)/\σ 1=(.int .i64 fI)/\σ 7=(.aB (Ci.map Operator.cells) wP)/\σ 10=(.aB (rU.map aI) .unk)/\σ 11=(.int .i64 bR)/\σ 12=(.int .i64 ji)) (ZP:bA H wP) (o:List Operator) (h:vV k iA fI Ci rU bR ji=some o) (Q:Post) (q0: ∀(p:List Operator) (c0:Ck) (σ':Nat->PV) (H':AH),o=p->Fr J5 aC σ'->HF [] H0 H'->(σ' 7=(.aB (p.map Operator.cells) c0))->Q (.exit 0) σ' H'),W Tryz.prog (.loop OM) Q σ H:=by
  intro k
  induction k with
  |zero=>intro iA fI Ci rU bR ji wP aC σ H0 H f0 hf0 sl ZP o h Q q0;simp only [vV,reduceCtorEq]at h
  |succ k ih=>
    intro iA fI Ci rU bR ji wP aC σ H0 H f0 hf0 sl ZP o h Q q0;obtain⟨s0,s1,s7,s10,s11,s12⟩:=sl;have hle0:=hf0.1;unfold vV at h;refine aU (fun K hK=>aD ?_);unfold OM;rcases au h with⟨e1,h⟩|⟨e1,h⟩
    ·obtain⟨e2,h⟩:=aQ h;obtain⟨x3,e4,h⟩:=aj h;obtain⟨e9,h⟩:=aQ h;try refine ah ?_
     refine gF (f:=Operator.cells) Operator.row Ci ([(Operator.mk x3 0 iA fI false 1 1)]:List Operator) wP .exact av av fM (by first|exact e9|(simp only [List.length_cons,List.length_nil];exact e9)) (fun c5 H6 ok7 le aip rl8=> ?_);have aiq:HF [] _ H6:=⟨le,fun i _ _=>aip i⟩;try simp only [AH.aK,AH.aL,AH.aM,AH.aN]at le
     try refine ah ?_
     refine hK _ _ ?_;exact ih iA fI (Ci++[(Operator.mk x3 0 iA fI false 1 1)]) rU bR (IntKind.wrap .i64 (ji+1)) c5 _ _ _ _ aJ (by repeat (first|exact hf0|refine HF.new ?_|refine HF.fP ?_|refine HF.used ?_|refine HF.put (by first|(right;omega)|(left;simp only [List.mem_cons,true_or,or_true])) ?_|refine HF.via aiq (by first|exact fun i hi=>absurd hi List.not_mem_nil|(intro i hi;simp only [List.mem_cons,List.not_mem_nil,or_false]at hi⊢;first|exact .inl hi|omega)) ?_)) av fM _ h _ q0
    ·obtain rfl:=ak h;try refine ah ?_
     exact q0 _ wP _ _ rfl aJ (by repeat (first|exact hf0|refine HF.new ?_|refine HF.fP ?_|refine HF.used ?_|refine HF.put (by first|(right;omega)|(left;simp only [List.mem_cons,true_or,or_true])) ?_)) av
def vW (k:Nat) (iA:Int) (fI:Int) (BF:List Str):Option (List Operator):=
  Option.bind (vV k iA fI ([]:List Operator) BF (BF.length:Int) 0) (fun jO=>some jO)
theorem xX {k:Nat} {iA:Int} {fI:Int} {BF:List Str} {c2:Ck} {r:List Operator} (h:vW k iA fI BF=some r):aF Tryz.prog 113 [(.int .i64 iA),(.int .i64 fI),(.aB (BF.map aI) c2)] (.aB (r.map Operator.cells) .unk):=by
  refine aF.lw (.same (.same (.aB .nil))) (aF.aP (bg.mem (.cons (.int _ _) (.cons (.int _ _) (.cons (aV bn _) .nil)))) (aG asG (by simp) (aD ?_)) (aV Operator.pu _));unfold vW at h;unfold ajQ;try refine ah ?_
  obtain⟨o12,K8,h⟩:=aj h;refine U3 k iA fI ([]:List Operator) BF (BF.length:Int) 0 .nil _ _ _ _ (Fr.refl _ _) (HF.refl _ _) av fM _ K8 _ ?_
  ·rintro jO c18 σ' H17 eo xE ZQ pI;rw [eo]at h;have le:=ZQ.1;try simp only [AH.aK,AH.aL,AH.aM,AH.aN]at le
   obtain rfl:=ak h;try refine ah ?_
   exact(d9 Operator.pu _ _)
def vX:Nat->Int->Int->Bool->(List Operator)->(List Str)->Int->Int->Option (List Operator)
  |0,_,_,_,_,_,_,_=>none
  |k+1,iA,fI,nT,Cj,ji,eU,Hl=>
    cond (decide (Hl<eU)) (if 0<=Hl then Option.bind (ji[Hl.toNat]?) fun x3=>if(Cj.length+1)*64<=1099511627776 then vX k iA fI nT (Cj++[(Operator.mk x3 1 iA fI nT 2 2)]) ji eU (IntKind.wrap .i64 (Hl+1))else none else none) (some (Cj))
def J6:List Nat:=[9,11]++List.range' 14 13
theorem U4: ∀(k:Nat) (iA:Int) (fI:Int) (nT:Bool) (Cj:List Operator) (ji:List Str) (eU:Int) (Hl:Int) (wQ:Ck) (aC σ:Nat->PV) (H0 H:AH) (f0:Fr J6 aC σ) (hf0:HF [] H0 H) (sl:σ 0=(.int .i64 iA)/\σ 1=(.int .i64 fI)/\σ 2=(.bool nT)/\σ 9=(.aB (Cj.map Operator.cells) wQ)/\σ 12=(.aB (ji.map aI) .unk)/\σ 13=(.int .i64 eU)/\σ 14=(.int .i64 Hl)) (ZR:bA H wQ) (o:List Operator) (h:vX k iA fI nT Cj ji eU Hl=some o) (Q:Post) (q0: ∀(p:List Operator) (c0:Ck) (σ':Nat->PV) (H':AH),o=p->Fr J6 aC σ'->HF [] H0 H'->(σ' 9=(.aB (p.map Operator.cells) c0))->Q (.exit 0) σ' H'),W Tryz.prog (.loop OO) Q σ H:=by
  intro k
  induction k with
  |zero=>intro iA fI nT Cj ji eU Hl wQ aC σ H0 H f0 hf0 sl ZR o h Q q0;simp only [vX,reduceCtorEq]at h
  |succ k ih=>
    intro iA fI nT Cj ji eU Hl wQ aC σ H0 H f0 hf0 sl ZR o h Q q0;obtain⟨s0,s1,s2,s9,s12,s13,NP⟩:=sl;have hle0:=hf0.1;unfold vX at h;refine aU (fun K hK=>aD ?_);unfold OO;rcases au h with⟨e1,h⟩|⟨e1,h⟩
    ·obtain⟨e2,h⟩:=aQ h;obtain⟨x3,e4,h⟩:=aj h;obtain⟨e9,h⟩:=aQ h;try refine ah ?_
     refine gF (f:=Operator.cells) Operator.row Cj ([(Operator.mk x3 1 iA fI nT 2 2)]:List Operator) wQ .exact av av fM (by first|exact e9|(simp only [List.length_cons,List.length_nil];exact e9)) (fun c5 H6 ok7 le aip rl8=> ?_);have aiq:HF [] _ H6:=⟨le,fun i _ _=>aip i⟩;try simp only [AH.aK,AH.aL,AH.aM,AH.aN]at le
     try refine ah ?_
     refine hK _ _ ?_;exact ih iA fI nT (Cj++[(Operator.mk x3 1 iA fI nT 2 2)]) ji eU (IntKind.wrap .i64 (Hl+1)) c5 _ _ _ _ aJ (by repeat (first|exact hf0|refine HF.new ?_|refine HF.fP ?_|refine HF.used ?_|refine HF.put (by first|(right;omega)|(left;simp only [List.mem_cons,true_or,or_true])) ?_|refine HF.via aiq (by first|exact fun i hi=>absurd hi List.not_mem_nil|(intro i hi;simp only [List.mem_cons,List.not_mem_nil,or_false]at hi⊢;first|exact .inl hi|omega)) ?_)) av fM _ h _ q0
    ·obtain rfl:=ak h;try refine ah ?_
     exact q0 _ wQ _ _ rfl aJ (by repeat (first|exact hf0|refine HF.new ?_|refine HF.fP ?_|refine HF.used ?_|refine HF.put (by first|(right;omega)|(left;simp only [List.mem_cons,true_or,or_true])) ?_)) av
def gq (k:Nat) (iA:Int) (fI:Int) (nT:Bool) (BG:List Str):Option (List Operator):=
  Option.bind (vX k iA fI nT ([]:List Operator) BG (BG.length:Int) 0) (fun jO=>some jO)
theorem fE {k:Nat} {iA:Int} {fI:Int} {nT:Bool} {BG:List Str} {c3:Ck} {r:List Operator} (h:gq k iA fI nT BG=some r):aF Tryz.prog 114 [(.int .i64 iA),(.int .i64 fI),(.bool nT),(.aB (BG.map aI) c3)] (.aB (r.map Operator.cells) .unk):=by
  refine aF.lw (.same (.same (.same (.aB .nil)))) (aF.aP (bg.mem (.cons (.int _ _) (.cons (.int _ _) (.cons (.bool _) (.cons (aV bn _) .nil))))) (aG ajS (by simp) (aD ?_)) (aV Operator.pu _));unfold gq at h;unfold ajR;try refine ah ?_
  obtain⟨o12,K8,h⟩:=aj h;refine U4 k iA fI nT ([]:List Operator) BG (BG.length:Int) 0 .nil _ _ _ _ (Fr.refl _ _) (HF.refl _ _) av fM _ K8 _ ?_
  ·rintro jO c18 σ' H17 eo xE ZQ pI;rw [eo]at h;have le:=ZQ.1;try simp only [AH.aK,AH.aL,AH.aM,AH.aN]at le
   obtain rfl:=ak h;try refine ah ?_
   exact(d9 Operator.pu _ _)
def qD:Nat->Int->(List (List Operator))->Int->Option Int
  |0,_,_,_=>none
  |k+1,Ah,Gm,bR=>
    cond (decide (bR<24)) (if 0<=bR then Option.bind (Gm[bR.toNat]?) fun x50=>cond (decide ((IntKind.wrap .i64 (Ah+(x50.length:Int)))<0)) (none) (qD k (IntKind.wrap .i64 (Ah+(x50.length:Int))) Gm (IntKind.wrap .i64 (bR+1)))else none) (some (Ah))
def EY:List Nat:=[3,5]++List.range' 11 12
theorem Nl: ∀(k:Nat) (Ah:Int) (Gm:List (List Operator)) (bR:Int) (Jy:Ck) (aC σ:Nat->PV) (H:AH) (f0:Fr EY aC σ) (sl:σ 3=(.int .i64 Ah)/\σ 9=(.aB (Gm.map (Du Operator.cells)) Jy)/\σ 10=(.int .i64 24)/\σ 11=(.int .i64 bR)) (o:Int) (h:qD k Ah Gm bR=some o) (Q:Post) (q0: ∀(p:Int) (σ':Nat->PV),o=p->Fr EY aC σ'->(σ' 3=(.int .i64 p))->Q (.exit 0) σ' H),W Tryz.prog (.loop OP) Q σ H:=by
  intro k
  induction k with
  |zero=>intro Ah Gm bR Jy aC σ H f0 sl o h Q q0;simp only [qD,reduceCtorEq]at h
  |succ k ih=>
    intro Ah Gm bR Jy aC σ H f0 sl o h Q q0;obtain⟨s3,s9,s10,s11⟩:=sl;unfold qD at h;refine aU (fun K hK=>aD ?_);unfold OP;rcases au h with⟨e48,h⟩|⟨e48,h⟩
    ·obtain⟨e49,h⟩:=aQ h;obtain⟨x50,e51,h⟩:=aj h;rcases au h with⟨e52,h⟩|⟨e52,h⟩
     ·cases h
     ·try refine dh ?_
      refine hK _ _ ?_;exact ih (IntKind.wrap .i64 (Ah+(x50.length:Int))) Gm (IntKind.wrap .i64 (bR+1)) Jy _ _ _ aJ aR _ h _ q0
    ·obtain rfl:=ak h;try refine dh ?_
     exact q0 _ _ rfl aJ aR
def qE:Nat->(List Operator)->(List (List Operator))->Int->Option (List Operator)
  |0,_,_,_=>none
  |k+1,mP,jh,fT=>
    cond (decide (fT<24)) (if 0<=fT then Option.bind (jh[fT.toNat]?) fun x71=>if 0<x71.length/\(mP.length+x71.length)*64<=1099511627776 then qE k (mP++x71) jh (IntKind.wrap .i64 (fT+1))else none else none) (some (mP))
def EZ:List Nat:=[6,8]++List.range' 27 8
theorem Nn: ∀(k:Nat) (rV:PV) (rW:List Nat) (M:List Nat) (mP:List Operator) (jh:List (List Operator)) (fT:Int) (Gq:Ck) (aC σ:Nat->PV) (H0 H:AH) (f0:Fr EZ aC σ) (hf0:HF M H0 H) (sl:σ 6=rV/\σ 25=(.aB (jh.map (Du Operator.cells)) Gq)/\σ 26=(.int .i64 24)/\σ 27=(.int .i64 fT)) (rX:aO H Operator.cells 7 mP rV rW) (uo:Nw H0 M rW) (o:List Operator) (h:qE k mP jh fT=some o) (Q:Post) (q0: ∀(p:List Operator) (v0:PV) (tC:List Nat) (σ':Nat->PV) (H':AH),o=p->Fr EZ aC σ'->HF M H0 H'->(σ' 6=v0)->aO H' Operator.cells 7 p v0 tC->Nw H0 M tC->Q (.exit 2) σ' H'),W Tryz.prog (.loop OQ) Q σ H:=by
  intro k
  induction k with
  |zero=>intro rV rW M mP jh fT Gq aC σ H0 H f0 hf0 sl rX uo o h Q q0;simp only [qE,reduceCtorEq]at h
  |succ k ih=>
    intro rV rW M mP jh fT Gq aC σ H0 H f0 hf0 sl rX uo o h Q q0;obtain⟨s6,s25,s26,s27⟩:=sl;have hle0:=hf0.1;unfold qE at h;refine aU (fun K hK=>aD ?_);unfold OQ;rcases au h with⟨e69,h⟩|⟨e69,h⟩
    ·obtain⟨e70,h⟩:=aQ h;obtain⟨x71,e72,h⟩:=aj h;obtain⟨QB,h⟩:=aQ h;try refine dh ?_
     refine KT (f:=Operator.cells) (v:=rV) Operator.row mP (x71:List Operator) .unk aR (by repeat (first|exact rX|apply aO.new|refine aO.put ?_ (fun hm=>by have:=aO.lt rX _ hm;omega))) aR QB.1 QB.2 (fun v74 atr H76 r77 awU aqs ahU=> ?_);have le:=aqs.1;try simp only [AH.aK,AH.aL,AH.aM,AH.aN]at le
     try refine dh ?_
     refine hK _ _ ?_;exact ih v74 atr M (mP++x71) jh (IntKind.wrap .i64 (fT+1)) Gq _ _ _ _ aJ (by repeat (first|exact hf0|refine HF.new ?_|refine HF.fP ?_|refine HF.used ?_|refine HF.put (by first|(right;omega)|(left;simp only [List.mem_cons,true_or,or_true])) ?_|refine HF.via aqs uo ?_)) aR (by repeat (first|exact r77|apply aO.new|refine aO.put ?_ (fun hm=>by have:=aO.lt r77 _ hm;omega))) (Nw.trans uo bS awU) _ h _ q0
    ·obtain rfl:=ak h;try refine dh ?_
     exact q0 _ rV rW _ _ rfl aJ (by repeat (first|exact hf0|refine HF.new ?_|refine HF.fP ?_|refine HF.used ?_|refine HF.put (by first|(right;omega)|(left;simp only [List.mem_cons,true_or,or_true])) ?_)) aR (by repeat (first|exact rX|apply aO.new|refine aO.put ?_ (fun hm=>by have:=aO.lt rX _ hm;omega))) uo
def wR:Nat->(List Operator)->Int->Int->Option (List Operator)
  |0,_,_,_=>none
  |k+1,gV,Ho,lW=>
    cond (decide (lW<Ho)) (if 0<=lW then Option.bind (gV[lW.toNat]?) fun x95=>cond (x95.text==([92,88]:Str)) (wR k (gV.set lW.toNat (Operator.mk x95.text x95.fix x95.low x95.high x95.left x95.least 4)) Ho (IntKind.wrap .i64 (lW+1))) (wR k gV Ho (IntKind.wrap .i64 (lW+1)))else none) (some (gV))
def N8:List Nat:=[4]++List.range' 80 14
theorem ZT: ∀(k:Nat) (y8:PV) (vY:List Nat) (M:List Nat) (gV:List Operator) (Ho:Int) (lW:Int) (aC σ:Nat->PV) (H0 H:AH) (f0:Fr N8 aC σ) (hf0:HF M H0 H) (sl:σ 3=y8/\σ 79=(.int .i64 Ho)/\σ 80=(.int .i64 lW)) (wS:aO H Operator.cells 7 gV y8 vY) (BH:Nw H0 M vY) (o:List Operator) (h:wR k gV Ho lW=some o) (Q:Post) (q0: ∀(p:List Operator) (v0:PV) (tC:List Nat) (σ':Nat->PV) (H':AH),o=p->Fr N8 aC σ'->HF M H0 H'->(σ' 3=v0)->aO H' Operator.cells 7 p v0 tC->Nw H0 M tC->Q (.exit 0) σ' H'),W Tryz.prog (.loop TM) Q σ H:=by
  intro k
  induction k with
  |zero=>intro y8 vY M gV Ho lW aC σ H0 H f0 hf0 sl wS BH o h Q q0;simp only [wR,reduceCtorEq]at h
  |succ k ih=>
    intro y8 vY M gV Ho lW aC σ H0 H f0 hf0 sl wS BH o h Q q0;obtain⟨s3,s79,s80⟩:=sl;have hle0:=hf0.1;unfold wR at h;refine aU (fun K hK=>aD ?_);unfold TM;rcases au h with⟨QC,h⟩|⟨QC,h⟩
    ·obtain⟨e94,h⟩:=aQ h;obtain⟨x95,e96,h⟩:=aj h;obtain⟨w97,QU,aqt,hil,w99,hC,hL,hD,hI⟩:=aO.content wS e96;have aBC:=ne_next hil;have aBD:=aW hil;have aBE:lq 7 y8 (.int .i64 lW)=some (.ref w97 (lW.toNat*7)):=by simpa using hI .i64 lW (by first|omega|decide) (by first|rfl|omega)
     have aAx:QU[lW.toNat*7]? =some (.str x95.text):=by simpa using hC 0 _ rfl
     have aAy:QU[lW.toNat*7+1]? =some (.int .i64 x95.fix):=by simpa using hC 1 _ rfl
     have aAz:QU[lW.toNat*7+2]? =some (.int .i64 x95.low):=by simpa using hC 2 _ rfl
     have aAA:QU[lW.toNat*7+3]? =some (.int .i64 x95.high):=by simpa using hC 3 _ rfl
     have aAB:QU[lW.toNat*7+4]? =some (.bool x95.left):=by simpa using hC 4 _ rfl
     have aAC:QU[lW.toNat*7+5]? =some (.int .i64 x95.least):=by simpa using hC 5 _ rfl
     have aAD:QU[lW.toNat*7+6]? =some (.int .i64 x95.most):=by simpa using hC 6 _ rfl
     have aBF:lW.toNat*7+7<=QU.length:=by simpa using hL 7 (Nat.le_refl _)
     have aBG:List.take 7 (List.drop (lW.toNat*7) QU)=Operator.cells x95:=hD;clear hC hL hD hI;rcases au h with⟨Jq,h⟩|⟨Jq,h⟩
     ·try refine dh ?_
      refine qw (f:=Operator.cells) (id:=w97) (o:=lW.toNat*7+6) (i:=lW.toNat) (j:=6) (a:=x95) (y:=(Operator.mk x95.text x95.fix x95.low x95.high x95.left x95.least 4)) (vs:=[(.int .i64 4)]) aR aqt (by omega) (by repeat (first|exact wS|apply aO.new|refine aO.put ?_ (fun hm=>by have:=aO.lt wS _ hm;omega))) e96 aR rfl rfl (by first|decide|(simp only [List.length_cons,List.length_nil];omega)) rfl (fun aBH aqu Yc ajN=> ?_);have le:=Yc.1;try simp only [AH.aK,AH.aL,AH.aM,AH.aN]at le
      try refine dh ?_
      refine hK _ _ ?_;exact ih y8 vY M (gV.set lW.toNat (Operator.mk x95.text x95.fix x95.low x95.high x95.left x95.least 4)) Ho (IntKind.wrap .i64 (lW+1)) _ _ _ _ aJ (by repeat (first|exact hf0|refine HF.new ?_|refine HF.fP ?_|refine HF.used ?_|refine HF.put (by first|(right;omega)|(left;simp only [List.mem_cons,true_or,or_true])) ?_|refine HF.via Yc BH ?_)) aR (by repeat (first|exact aqu|apply aO.new|refine aO.put ?_ (fun hm=>by have:=aO.lt aqu _ hm;omega))) BH _ h _ q0
     ·try refine dh ?_
      refine hK _ _ ?_;exact ih y8 vY M gV Ho (IntKind.wrap .i64 (lW+1)) _ _ _ _ aJ (by repeat (first|exact hf0|refine HF.new ?_|refine HF.fP ?_|refine HF.used ?_|refine HF.put (by first|(right;omega)|(left;simp only [List.mem_cons,true_or,or_true])) ?_)) aR (by repeat (first|exact wS|apply aO.new|refine aO.put ?_ (fun hm=>by have:=aO.lt wS _ hm;omega))) BH _ h _ q0
    ·obtain rfl:=ak h;try refine dh ?_
     exact q0 _ y8 vY _ _ rfl aJ (by repeat (first|exact hf0|refine HF.new ?_|refine HF.fP ?_|refine HF.used ?_|refine HF.put (by first|(right;omega)|(left;simp only [List.mem_cons,true_or,or_true])) ?_)) aR (by repeat (first|exact wS|apply aO.new|refine aO.put ?_ (fun hm=>by have:=aO.lt wS _ hm;omega))) BH
def Ej (k:Nat):Option (List Operator):=
  Option.bind (vW k 4 4 [([126]:Str)]) fun p2=>Option.bind (vW k 4 15 [([69,78,65,66,76,69,68]:Str),([85,78,67,72,65,78,71,69,68]:Str),([91,93]:Str),([60,62]:Str)]) fun p4=>Option.bind (vW k 8 8 [([83,85,66,83,69,84]:Str),([85,78,73,79,78]:Str)]) fun p6=>Option.bind (vW k 9 9 [([68,79,77,65,73,78]:Str)]) fun p8=>Option.bind (vW k 12 12 [([45,46]:Str)]) fun iT=>Option.bind (gq k 1 1 false [([61,62]:Str)]) fun l6=>Option.bind (gq k 2 2 false [([60,61,62]:Str),([126,62]:Str)]) fun jO=>Option.bind (gq k 3 3 true [([47,92]:Str),([92,47]:Str)]) fun p16=>Option.bind (gq k 5 5 false [([61]:Str),([35]:Str),([60]:Str),([60,61]:Str),([62]:Str),([62,61]:Str),([92,105,110]:Str),([92,110,111,116,105,110]:Str),([92,115,117,98,115,101,116,101,113]:Str),([92,115,113,115,117,98,115,101,116,101,113]:Str)]) fun xu=>Option.bind (gq k 6 6 true [([64,64]:Str)]) fun rQ=>Option.bind (gq k 7 7 false [([58,62]:Str)]) fun JR=>Option.bind (gq k 5 14 true [([92,99,100,111,116]:Str)]) fun xO=>Option.bind (gq k 8 8 true [([92,99,117,112]:Str),([92,99,97,112]:Str)]) fun p26=>Option.bind (gq k 8 8 false [([92]:Str)]) fun p28=>Option.bind (gq k 9 9 false [([46,46]:Str)]) fun p30=>Option.bind (gq k 10 10 true [([43]:Str),([40,43,41]:Str)]) fun p32=>Option.bind (gq k 10 11 false [([37]:Str)]) fun p34=>Option.bind (gq k 10 13 false [([92,88]:Str)]) fun p36=>Option.bind (gq k 11 11 true [([45]:Str),([40,45,41]:Str)]) fun p38=>Option.bind (gq k 13 13 true [([42]:Str)]) fun p40=>Option.bind (gq k 13 13 false [([92,100,105,118]:Str)]) fun p42=>Option.bind (gq k 13 13 true [([92,111]:Str)]) fun p44=>Option.bind (gq k 14 14 false [([94]:Str)]) fun p46=>Option.bind (qD k 0 [p2,p4,p6,p8,iT,l6,jO,p16,xu,rQ,JR,xO,p26,p28,p30,p32,p34,p36,p38,p40,p42,p44,p46,[(Operator.mk ([39]:Str) 2 15 15 false 1 1)]] 0) (fun p55=>if 0<p55/\p55<=1000000 then Option.bind (qE k ([]:List Operator) [p2,p4,p6,p8,iT,l6,jO,p16,xu,rQ,JR,xO,p26,p28,p30,p32,p34,p36,p38,p40,p42,p44,p46,[(Operator.mk ([39]:Str) 2 15 15 false 1 1)]] 0) (fun p83=>Option.bind (wR k p83 (p83.length:Int) 0) (fun aqv=>some aqv))else none)
theorem af9 {k:Nat} {r:List Operator} (h:Ej k=some r):aF Tryz.prog 65 [] (.aB (r.map Operator.cells) .unk):=by
  refine aF.aP (bg.mem .nil) (aG avV (by simp) (aD ?_)) (aV Operator.pu _);unfold Ej at h;unfold aoM;obtain⟨p2,e1,h⟩:=aj h;try refine dh ?_
  refine aA (xX e1) ?_;obtain⟨p4,e3,h⟩:=aj h;try refine dh ?_
  refine aA (xX e3) ?_;obtain⟨p6,e5,h⟩:=aj h;try refine dh ?_
  refine aA (xX e5) ?_;obtain⟨p8,e7,h⟩:=aj h;try refine dh ?_
  refine aA (xX e7) ?_;obtain⟨iT,e9,h⟩:=aj h;try refine dh ?_
  refine aA (xX e9) ?_;obtain⟨l6,e11,h⟩:=aj h;try refine dh ?_
  refine aA (fE e11) ?_;obtain⟨jO,e13,h⟩:=aj h;try refine dh ?_
  refine aA (fE e13) ?_;obtain⟨p16,e15,h⟩:=aj h;try refine dh ?_
  refine aA (fE e15) ?_;obtain⟨xu,e17,h⟩:=aj h;try refine dh ?_
  refine aA (fE e17) ?_;obtain⟨rQ,e19,h⟩:=aj h;try refine dh ?_
  refine aA (fE e19) ?_;obtain⟨JR,e21,h⟩:=aj h;try refine dh ?_
  refine aA (fE e21) ?_;obtain⟨xO,e23,h⟩:=aj h;try refine dh ?_
  refine aA (fE e23) ?_;obtain⟨p26,e25,h⟩:=aj h;try refine dh ?_
  refine aA (fE e25) ?_;obtain⟨p28,e27,h⟩:=aj h;try refine dh ?_
  refine aA (fE e27) ?_;obtain⟨p30,e29,h⟩:=aj h;try refine dh ?_
  refine aA (fE e29) ?_;obtain⟨p32,e31,h⟩:=aj h;try refine dh ?_
  refine aA (fE e31) ?_;obtain⟨p34,e33,h⟩:=aj h;try refine dh ?_
  refine aA (fE e33) ?_;obtain⟨p36,e35,h⟩:=aj h;try refine dh ?_
  refine aA (fE e35) ?_;obtain⟨p38,e37,h⟩:=aj h;try refine dh ?_
  refine aA (fE e37) ?_;obtain⟨p40,e39,h⟩:=aj h;try refine dh ?_
  refine aA (fE e39) ?_;obtain⟨p42,e41,h⟩:=aj h;try refine dh ?_
  refine aA (fE e41) ?_;obtain⟨p44,e43,h⟩:=aj h;try refine dh ?_
  refine aA (fE e43) ?_;obtain⟨p46,e45,h⟩:=aj h;try refine dh ?_
  refine aA (fE e45) ?_;try refine dh ?_
  refine aG asH (by simp) (aD ?_);unfold ajT;try refine dh ?_
  obtain⟨o53,h54,h⟩:=aj h;refine Nl k 0 [p2,p4,p6,p8,iT,l6,jO,p16,xu,rQ,JR,xO,p26,p28,p30,p32,p34,p36,p38,p40,p42,p44,p46,[(Operator.mk ([39]:Str) 2 15 15 false 1 1)]] 0 .exact _ _ _ (Fr.refl _ _) aR _ h54 _ ?_
  ·rintro p55 σ' eo aps s59;rw [eo]at h;have s60:σ' 0=(.aB ([p2,p4,p6,p8,iT,l6,jO,p16,xu,rQ,JR,xO,p26,p28,p30,p32,p34,p36,p38,p40,p42,p44,p46,[(Operator.mk ([39]:Str) 2 15 15 false 1 1)]].map (Du Operator.cells)) .exact):=(aps 0 (by decide)).trans aR;obtain⟨e61,h⟩:=aQ h;try refine dh ?_
   refine afy (f:=Operator.cells) (xs:=([]:List Operator)) (af6 p55 e61) (fun v62 akR H64 r65 aBI awV ahS=> ?_);have le:=awV.1;try simp only [AH.aK,AH.aL,AH.aM,AH.aN]at le
   try refine dh ?_
   obtain⟨o81,h82,h⟩:=aj h;refine Nn k v62 akR (akR++[]) ([]:List Operator) [p2,p4,p6,p8,iT,l6,jO,p16,xu,rQ,JR,xO,p26,p28,p30,p32,p34,p36,p38,p40,p42,p44,p46,[(Operator.mk ([39]:Str) 2 15 15 false 1 1)]] 0 .exact _ _ _ _ (Fr.refl _ _) (HF.refl _ _) aR (by repeat (first|exact r65|apply aO.new|refine aO.put ?_ (fun hm=>by have:=aO.lt r65 _ hm;omega))) (fun i hi=>Or.inl (by simp only [List.mem_append,List.mem_cons,hi,true_or,or_true])) _ h82 _ ?_
   ·rintro p83 v87 akS σ' H86 eo aBJ awW s91 r89 aBK;rw [eo]at h;have le:=awW.1;try simp only [AH.aK,AH.aL,AH.aM,AH.aN]at le
    have w92:=aO.ahP r89;try refine dh ?_
    obtain⟨o111,h112,h⟩:=aj h;refine ZT k v87 akS (akS++[]) p83 (p83.length:Int) 0 _ _ _ _ (Fr.refl _ _) (HF.refl _ _) aR (by repeat (first|exact r89|apply aO.new|refine aO.put ?_ (fun hm=>by have:=aO.lt r89 _ hm;omega))) (fun i hi=>Or.inl (by simp only [List.mem_append,List.mem_cons,hi,true_or,or_true])) _ h112 _ ?_
    ·rintro aqv v117 azn σ' awT eo aAE att aBL aqx aAF;rw [eo]at h;have le:=att.1;try simp only [AH.aK,AH.aL,AH.aM,AH.aN]at le
     obtain rfl:=ak h;try refine dh ?_
     exact(aO.fz Operator.pu (by repeat (first|exact aqx|apply aO.new|refine aO.put ?_ (fun hm=>by have:=aO.lt aqx _ hm;omega))))
end Go.VL
end
section
namespace Go.VL
open Go.Proofs Go.RowKit
def nN:List Operator:=(Ej 100).getD []
theorem aga:Ej 100=some nN:=by
  have h:(Ej 100).isSome=true:=by kernel_rfl
  rw [nN];cases h1:Ej 100 with
  |none=>rw [h1]at h;cases h
  |some r=>rfl
theorem aqy:aF Tryz.prog 65 [] (.aB (nN.map Operator.cells) .unk):=af9 aga
end Go.VL
end
section
set_option maxHeartbeats 4000000
namespace Go.VL
open Go.Proofs
def ku (k:Nat) (jq:Str):Option (Operator×Bool):=
  Option.bind (fq k nN jq) fun p2=>cond (decide (p2<0)) (some ((Operator.mk [] 0 0 0 false 0 0),false)) (if 0<=p2 then Option.bind (nN[p2.toNat]?) fun x5=>some (x5,true)else none)
theorem oZ {k:Nat} {jq:Str} {r:Operator×Bool} (h:ku k jq=some r):aF Tryz.prog 63 [(.str jq)] (.dJ [(.agg (Operator.cells r.1)),(.bool r.2)]):=by
  refine aF.aP (bg.mem (.cons (.str _) .nil)) (aG avT (by simp) (aD ?_)) (.dJ _ (bg.mem (.cons (.agg _ (Operator.pu _)) (.cons (.bool _) .nil))));unfold ku at h;unfold aoK;try refine ah ?_
  refine aA (aqy) ?_;obtain⟨p2,e1,h⟩:=aj h;try refine ah ?_
  refine F9 (qz e1) (.cons (d9 Operator.pu _ _) (.cons (asn (.cons (anw av (.cons (.pure _ (.str _)) .nil)) .nil)) .nil)) (.cons (aV Operator.pu _) (.cons (.fn _ _ _ (bg.mem .nil) (bg.mem (.cons (.eB _ _ (bg.mem (.cons (.str _) .nil))) .nil))) .nil)) (.int _ _) ?_;rcases au h with⟨e3,h⟩|⟨e3,h⟩
  ·obtain rfl:=ak h;try refine ah ?_
   exact(cZ (.cons (dK (.cons (.pure _ (.str _)) (.cons (.pure _ (.int _ _)) (.cons (.pure _ (.int _ _)) (.cons (.pure _ (.int _ _)) (.cons (.pure _ (.bool _)) (.cons (.pure _ (.int _ _)) (.cons (.pure _ (.int _ _)) .nil)))))))) (.cons (.pure _ (.bool _)) .nil)))
  ·obtain⟨e4,h⟩:=aQ h;obtain⟨x5,e6,h⟩:=aj h;obtain rfl:=ak h;try refine ah ?_
   exact(cZ (.cons (dK (.cons (.pure _ (.str _)) (.cons (.pure _ (.int _ _)) (.cons (.pure _ (.int _ _)) (.cons (.pure _ (.int _ _)) (.cons (.pure _ (.bool _)) (.cons (.pure _ (.int _ _)) (.cons (.pure _ (.int _ _)) .nil)))))))) (.cons (.pure _ (.bool _)) .nil)))
def Yd (x_0:Int) (y_1:Int):Option (Int×Int):=
  if(0<=x_0/\x_0<18446744073709551616)/\(0<=y_1/\y_1<18446744073709551616)then some ((QT x_0 y_1).1,(QT x_0 y_1).2)else none
theorem amn {x_0:Int} {y_1:Int} {r:Int×Int} (h:Yd x_0 y_1=some r):aF Tryz.prog 147 [(.int .u64 x_0),(.int .u64 y_1)] (.dJ [(.int .u64 r.1),(.int .u64 r.2)]):=by
  refine aF.aP (bg.mem (.cons (.int _ _) (.cons (.int _ _) .nil))) (aG as4 (by simp) (aD ?_)) (.dJ _ (bg.mem (.cons (.int _ _) (.cons (.int _ _) .nil))));unfold Yd at h;unfold akj;obtain⟨e1,h⟩:=aQ h;try refine ah ?_
  refine aA (aml x_0 y_1 (by assumption)) ?_;obtain rfl:=ak h;try refine ah ?_
  exact(cZ (.cons (.pure _ (.int _ _)) (.cons (.pure _ (.int _ _)) .nil)))
end Go.VL
end
section
namespace Go.VL
open Go.Proofs Go.RowKit
theorem vZ {P:Program} {K:(Nat->PV)->AH->Prop} {σ:Nat->PV} {H:AH} {d:Option Nat} {k:RK} {l:List (aS×Bool)} (p:PV) (h: ∀H',rop k σ H'=some p)
    (hn:iP P (fun _=>True) l K (upd σ d p) H):iP P (fun _=>True) ((⟨d,.r k,none⟩,false)::l) K σ H:=by
  unfold iP;refine .inr ⟨trivial,p,fun H' _=> ?_,hn⟩;show(match rop k σ H' with|some q=>(q=p/\H'=H')|none=>False)
  rw [h H'];exact⟨rfl,rfl⟩
theorem ZU: ∀l:List PV,(l.map fun c=>[c]).flatten=l
  |[]=>rfl
  |a::l=>by rw [List.map_cons,List.flatten_cons,ZU l];rfl
theorem aei (l rest:List PV):chunks 1 l.length (l++rest)=l.map fun c=>[c]:=by
  have h:=zA (sz:=1) (l.map fun c=>[c]) rest (by simp);rw [List.length_map,ZU]at h;exact h
theorem Gs (x:PV): ∀m,(List.replicate m [x]).flatten=List.replicate m x
  |0=>rfl
  |m+1=>by rw [List.replicate_succ,List.flatten_cons,Gs x m];rfl
theorem aqz (x:Int) (id n:Nat) (H0:AH) (Q:Post) (hn:n<=1000000)
    (hx: ∀σ' H',σ' 7= .bV id 0 n n 1->H'.obj id=some (List.replicate n (.int .i64 x))->H'.next=H0.next->(∀i,i≠id->H'.obj i=H0.obj i)->(∀k,H'.live k=H0.live k)->Q (.exit 0) σ' H'):
    ∀(d m:Nat) (σ:Nat->PV) (H:AH) (rest:List PV),n -m<=d->m<=n->(m=0->n=0)->σ 7= .bV id 0 n n 1->σ 8= .int .i64 m->H.obj id=some (List.replicate m (.int .i64 x)++rest)->rest.length=n -m->
      H.next=H0.next->(∀i,i≠id->H.obj i=H0.obj i)->(∀k,H.live k=H0.live k)->W Tryz.prog (.loop MK) Q σ H:=by
  intro d
  induction d with
  |zero=>
    intro m σ H rest hd hm h0 h7 h8 ho hr h1 h2 h3;have e:m=n:=by omega
    subst e;have c1:decide ((m:Int)<(m:Int))=false:=decide_eq_false (by omega);refine aU (fun K hK=>aD ?_);unfold MK;simp -implicitDefEqProofs only [go_sem,h7,h8,c1];have hr0:rest=[]:=List.eq_nil_of_length_eq_zero (by omega);subst hr0;refine hx _ _ ?_ (by rw [ho,List.append_nil]) h1 h2 h3;simp only [yL,Nat.reduceEqDiff,↓reduceIte,h7]
  |succ d ih=>
    intro m σ H rest hd hm h0 h7 h8 ho hr h1 h2 h3;by_cases hmn:m=n
    · exact ih m σ H rest (by omega) hm h0 h7 h8 ho hr h1 h2 h3
    have c1:decide ((m:Int)<(n:Int))=true:=decide_eq_true (by omega);refine aU (fun K hK=>aD ?_);unfold MK;simp -implicitDefEqProofs only [go_sem,h7,h8,c1];refine⟨fun _=>True,trivial,?_⟩;refine vZ (.int .i64 m) (fun H'=>by simp [rop,AE.ev,upd,h7,h8]) ?_;refine vZ (.bV id 0 n n 1) (fun H'=>by simp [rop,AE.ev,upd,h7,h8]) ?_;refine vZ (.int .i64 m) (fun H'=>by simp [rop,AE.ev,upd,h7,h8]) ?_;refine vZ (.bV id m (n -m) (n -m) 1) (fun H'=>by simp [rop,AE.ev,upd,pX,nI,h7,h8];omega) ?_;refine vZ (.bV id 0 n n 1) (fun H'=>by simp [rop,AE.ev,upd,h7,h8]) ?_;refine vZ (.int .i64 m) (fun H'=>by simp [rop,AE.ev,upd,h7,h8]) ?_;refine vZ (.bV id 0 m n 1) (fun H'=>by simp [rop,AE.ev,upd,pX,nI,h7,h8];omega) ?_;have hch:chunks 1 m (List.replicate m (.int .i64 x)++rest)=List.replicate m [.int .i64 x]:=by
      have h:=aei (List.replicate m (.int .i64 x)) rest;rw [List.length_replicate,List.map_replicate]at h;exact h
    unfold iP;refine .inr ⟨trivial,.int .i64 (min m (n -m):Nat),H.put id (List.replicate (m+min m (n -m)) (.int .i64 x)++rest.drop (min m (n -m))),?_,trivial,?_⟩
    · have hy:rowOf 1 H (PV.bV id 0 m n 1)=some (List.replicate m [.int .i64 x]):=by
        have hl:0+m*1<=(List.replicate m (PV.int .i64 x)++rest).length:=by rw [List.length_append,List.length_replicate];omega
        simp only [rowOf,ho];rw [if_pos ⟨trivial,hl⟩,List.drop_zero,hch]
      have hsz:qR 1 (List.replicate m [PV.int .i64 x]):=fun cs hcs=>by
        rw [(List.mem_replicate.1 hcs).2];exact⟨rfl,fun c hc=>by rw [List.mem_singleton.1 hc];rfl⟩
      have hle:m+(n -m)*1<=(List.replicate m (PV.int .i64 x)++rest).length:=by rw [List.length_append,List.length_replicate];omega
      have hput:putCells (List.replicate m (PV.int .i64 x)++rest) m ((List.replicate m [PV.int .i64 x]).take (n -m)).flatten=List.replicate (m+min m (n -m)) (.int .i64 x)++rest.drop (min m (n -m)):=by
        rw [List.take_replicate,Gs];unfold putCells;rw [List.length_replicate];have e1:(List.replicate m (PV.int .i64 x)++rest).take m=List.replicate m (PV.int .i64 x):=by
          rw [List.take_append_of_le_length (by rw [List.length_replicate];omega),List.take_of_length_le (by rw [List.length_replicate];omega)]
        have e2:(List.replicate m (PV.int .i64 x)++rest).drop (m+min (n -m) m)=rest.drop (min m (n -m)):=by
          rw [List.drop_append,List.length_replicate,List.drop_eq_nil_of_le (by rw [List.length_replicate];omega),List.nil_append];congr 1
          omega
        rw [e1,e2,List.replicate_append_replicate,Nat.min_comm m]
      simp only [iR,nop,AE.ev,yL,Nat.reduceEqDiff,↓reduceIte,hy];simp only [ho];rw [if_pos ⟨trivial,hsz,hle⟩];refine⟨?_,by rw [hput]⟩;rw [List.length_replicate]
    · have hm2:(m:Int)+((min m (n -m):Nat):Int)=((m+min m (n -m):Nat):Int):=by omega
      have hw:IntKind.wrap .i64 ((m:Int)+((min m (n -m):Nat):Int))=((m+min m (n -m):Nat):Int):=by
        rw [hm2];exact IntWalk.i64_in _ (by omega)
      unfold iP;refine eD ?_;simp -implicitDefEqProofs only [go_sem,h7,h8,hw];refine hK _ _ (ih (m+min m (n -m)) _ _ (rest.drop (min m (n -m))) (by omega) (by omega) (by omega) ?_ ?_ ?_ (by rw [List.length_drop];omega) h1 ?_ h3)
      · simp only [yL,Nat.reduceEqDiff,↓reduceIte,h7]
      · simp only [yL,Nat.reduceEqDiff,↓reduceIte]
      · show(if id=id then some _ else _)=_
        rw [if_pos rfl]
      · intro i hi;show(if i=id then some _ else _)=_
        rw [if_neg hi];exact h2 i hi
section
variable {P:Program} {Q:Post} {σ:Nat->PV} {s:List Fm} {H:AH}
theorem aqA {d:Option Nat} {x y:AE} {l:List aS} {k k':IntKind} {n:Nat} (hx:x.ev σ= .int k n) (hy:y.ev σ= .int k' n) (hb:n<=1000000)
    (h:WO P l s Q (upd σ d (.bV H.next 0 n n 1)) (H.new (List.replicate n (.int .i64 0)))):WO P (⟨d,.d (.xD 1 8 [.int .i64 0] x y),none⟩::l) s Q σ H:=by
  show WD P (jH (.xD 1 8 [.int .i64 0] x y) σ H) d l s Q σ
  simp only [jH,hx,hy];rw [if_pos ⟨by omega,by omega,by omega,by omega,rfl,by decide⟩];rw [Int.toNat_natCast,Gs];exact h
theorem amo {d:Option Nat} {x y:AE} {l:List aS} {id off len cap sz:Nat} {fs:List (List PV)} {cs:List PV} (hx:x.ev σ= .bV id off len cap sz) (hy:rowOf sz H (y.ev σ)=some fs) (ho:H.obj id=some cs)
    (hsz:qR sz fs) (hle:off+len*sz<=cs.length)
    (h:WO P l s Q (upd σ d (.int .i64 (min fs.length len:Nat))) (H.put id (putCells cs off (fs.take len).flatten))):WO P (⟨d,.n (.copy sz x y),none⟩::l) s Q σ H:=by
  show dz P _ _ σ H
  rw [Ie];simp only [nop,hx,hy,ho];rw [if_pos ⟨trivial,hsz,hle⟩];exact h
end
theorem atu (x:Int) (n:Int) (hn:0<=n/\n<=1000000):Jh Tryz.prog 94 [.aB [[.int .i64 x]] .exact,.int .i64 n] aY 1 (List.replicate n.toNat x):=by
  intro H;obtain⟨n,rfl⟩: ∃k:Nat,n=k:=⟨n.toNat,by omega⟩;refine aG awg (by simp) (aD ?_);unfold ao8;have c1:decide ((n:Int)<0)=false:=decide_eq_false (by omega);have c2:IntKind.wrap .u64 1=1:=by decide
  have c3:IntKind.wrap .u64 (n:Int)=n:=IntWalk.u64_in _ (by omega);have c4:IntKind.wrap .i64 (n:Int)=n:=IntWalk.i64_in _ (by omega);have hm:Yd 1 n=some ((0:Int),(n:Int)):=by
    unfold Yd QT;rw [if_pos ⟨⟨by omega,by omega⟩,by omega,by omega⟩];have e1:((1:Int).toNat*((n:Nat):Int).toNat/18446744073709551616:Nat)=0:=by
      rw [Int.toNat_natCast];show(1*n)/_=0;omega
    have e2:((1:Int).toNat*((n:Nat):Int).toNat% 18446744073709551616:Nat)=n:=by
      rw [Int.toNat_natCast];show(1*n)% _=n;omega
    rw [e1,e2];rfl
  have hc:=amn hm;have d1:decide ((n:Int)>9223372036854775807)=false:=decide_eq_false (by omega);unfold acz acA;simp -implicitDefEqProofs only [go_sem,c1,c2,c3,c4,d1];refine bE.mono (hc H) fun v H' hv=> ?_;obtain⟨rfl,rfl⟩:=hv;have d0:decide ((0:Int)>0)=false:=by decide
  simp -implicitDefEqProofs only [go_sem,c1,c2,c3,c4,d0,d1];refine aqA (k:= .i64) (k':= .i64) (n:=n) (by simp only [go_sem]) (by simp only [go_sem]) (by omega) ?_;have Ae:(H'.new (List.replicate n (PV.int .i64 0))).obj H'.next=some (List.replicate n (PV.int .i64 0)):=by
    show(if H'.next=H'.next then some _ else _)=_
    rw [if_pos rfl]
  simp -implicitDefEqProofs only [go_sem]
  refine amo (id:=H'.next) (off:=0) (len:=n) (cap:=n) (fs:=[[.int .i64 x]]) (cs:=List.replicate n (.int .i64 0)) (by simp only [go_sem]) (by simp only [go_sem];rfl) Ae
    (by intro cs hcs;rw [List.mem_singleton.1 hcs];exact⟨rfl,fun c hc=>by rw [List.mem_singleton.1 hc];rfl⟩) (by rw [List.length_replicate];omega) ?_
  have hput:putCells (List.replicate n (PV.int .i64 0)) 0 (([[PV.int .i64 x]]:List (List PV)).take n).flatten=List.replicate (min 1 n) (.int .i64 x)++List.replicate (n -min 1 n) (.int .i64 0):=by
    cases n with
    |zero=>rfl
    |succ n=>
      have e:min 1 (n+1)=1:=by omega
      rw [e,List.take_of_length_le (by simp)];simp [putCells,List.replicate_succ]
  rw [hput];have e1:(min ([[PV.int .i64 x]]:List (List PV)).length n:Nat)=min 1 n:=rfl;rw [e1];simp -implicitDefEqProofs only [go_sem];have atv: ∀cs:List PV,(((H'.new (List.replicate n (PV.int .i64 0))).put H'.next cs).obj H'.next)=some cs:=fun cs=>by
    show(if H'.next=H'.next then some _ else _)=_
    rw [if_pos rfl]
  refine aqz x H'.next n ((H'.new (List.replicate n (PV.int .i64 0)))) _ (by omega) (fun σ' H2 k7 ko kn kob kl=> ?_) n (min 1 n) _ _ (List.replicate (n -min 1 n) (.int .i64 0)) (by omega) (by omega) (by omega) ?_ ?_ (atv _) (by rw [List.length_replicate]) rfl
    (fun i hi=> ?_) (fun k=>rfl)
  · show WE Tryz.prog (.exit 0) _ _ σ' H2
    simp -implicitDefEqProofs only [go_sem,k7];refine⟨[H'.next],.inr ⟨H'.next,n,[],rfl,by rw [List.length_replicate],by rw [List.length_replicate];omega,by rw [kn];exact Nat.lt_succ_self _,?_,?_⟩,fun i hi=> .inr (by rw [List.mem_singleton.1 hi];exact Nat.le_refl _),⟨by rw [kn];exact Nat.le_succ _,fun i hi _=> ?_⟩,fun c3 hc=> ?_⟩
    · rw [ko,List.append_nil,List.map_replicate];exact congrArg some (Gs (PV.int .i64 x) n).symm
    · rw [List.length_replicate];simp
    · rw [kob i (by omega)];show(if i=H'.next then some _ else _)=_
      rw [if_neg (by omega)]
    · cases c3 with
      |unk=>exact hc
      |tok t=>exact⟨by rw [kl];exact hc.1,by rw [kn];exact Nat.lt_succ_of_lt hc.2⟩
      |nil=>trivial
      |exact=>trivial
  · simp only [yL,Nat.reduceEqDiff,↓reduceIte]
  · simp only [yL,Nat.reduceEqDiff,↓reduceIte]
  · show(if i=H'.next then some _ else _)=_
    rw [if_neg hi]
def Iz (l:List Int) (n:Int):List Int:=List.replicate n.toNat (l.headD 0)
theorem aqB (l:List Int) (n:Int) (h:l.length=1/\0<=n/\n<=1000000):Jh Tryz.prog 94 [.aB (l.map aY) .exact,.int .i64 n] aY 1 (Iz l n):=by
  match l,h with
  |[x],h=>exact atu x n h.2
end Go.VL
end
section
set_option maxHeartbeats 4000000
namespace Go.VL
open Go.Proofs
def nu:Nat->(List Int)->(List Int)->Int->(List Int)->Int->Int->Option (((List Int)×(List Int)))
  |0,_,_,_,_,_,_=>none
  |k+1,uS,j6,kR,jh,jQ,fT=>
    cond (decide (fT<jQ)) (if 0<=fT then Option.bind (jh[fT.toNat]?) fun x21=>if 0<=x21 then Option.bind (uS[x21.toNat]?) fun x24=>Option.bind (j6[x21.toNat]?) fun x41=>nu k (uS.set x21.toNat kR) (j6.set x21.toNat fT) kR jh jQ (IntKind.wrap .i64 (fT+1))else none else none) (some ((uS,j6)))
def J7:List Nat:=[8,9]++List.range' 27 14
theorem U5: ∀(k:Nat) (qF:PV) (jR:List Nat) (jU:PV) (gD:List Nat) (M:List Nat) (uS:List Int) (j6:List Int) (kR:Int) (jh:List Int) (jQ:Int) (fT:Int) (aC σ:Nat->PV) (H0 H:AH) (f0:Fr J7 aC σ) (hf0:HF M H0 H) (sl:σ 4=qF/\σ 5=jU/\σ 6=(.int .i64 kR)/\σ 25=(.aB (jh.map aY) .unk)/\σ 26=(.int .i64 jQ)/\σ 27=(.int .i64 fT)) (qG:aO H aY 1 uS qF jR) (qo:Nw H0 M jR) (kW:aO H aY 1 j6 jU gD) (kK:Nw H0 M gD) (gP:Dj jR gD) (o:((List Int)×(List Int))) (h:nu k uS j6 kR jh jQ fT=some o) (Q:Post) (q0: ∀(p:(List Int)×(List Int)) (v0:PV) (tC:List Nat) (v1:PV) (Pv:List Nat) (σ':Nat->PV) (H':AH),o=p->Fr J7 aC σ'->HF M H0 H'->(σ' 4=v0/\σ' 5=v1)->aO H' aY 1 p.1 v0 tC->Nw H0 M tC->aO H' aY 1 p.2 v1 Pv->Nw H0 M Pv->Dj tC Pv->Q (.exit 2) σ' H'),W Tryz.prog (.loop Tf) Q σ H:=by
  intro k
  induction k with
  |zero=>intro qF jR jU gD M uS j6 kR jh jQ fT aC σ H0 H f0 hf0 sl qG qo kW kK gP o h Q q0;simp only [nu,reduceCtorEq]at h
  |succ k ih=>
    intro qF jR jU gD M uS j6 kR jh jQ fT aC σ H0 H f0 hf0 sl qG qo kW kK gP o h Q q0;obtain⟨s4,s5,s6,s25,s26,s27⟩:=sl;have hle0:=hf0.1;unfold nu at h;refine aU (fun K hK=>aD ?_);unfold Tf;rcases au h with⟨e19,h⟩|⟨e19,h⟩
    ·obtain⟨e20,h⟩:=aQ h;obtain⟨x21,e22,h⟩:=aj h;obtain⟨e23,h⟩:=aQ h;obtain⟨x24,e25,h⟩:=aj h;obtain⟨w26,w27,aqC,hil,w28,hC,hL,hD,hI⟩:=aO.content qG e25;have w29:=ne_next hil;have w30:=aW hil;have w31:lq 1 qF (.int .i64 x21)=some (.ref w26 (x21.toNat)):=by simpa using hI .i64 x21 (by first|omega|decide) (by first|rfl|omega)
     have aAG:w27[x21.toNat]? =some (.int .i64 x24):=by simpa using hC 0 _ rfl
     clear hC hL hD hI;try refine dh ?_
     refine qw (f:=aY) (id:=w26) (o:=x21.toNat) (i:=x21.toNat) (j:=0) (a:=x24) (y:=kR) (vs:=[(.int .i64 kR)]) aR aqC (by omega) (by repeat (first|exact qG|apply aO.new|refine aO.put ?_ (fun hm=>by have:=aO.lt qG _ hm;omega))) e25 aR rfl rfl (by first|decide|(simp only [List.length_cons,List.length_nil];omega)) rfl (fun H34 r35 Pw aqD=> ?_);have le:=Pw.1;try simp only [AH.aK,AH.aL,AH.aM,AH.aN]at le
     have r39:=aO.hf (by repeat (first|exact kW|apply aO.new|refine aO.put ?_ (fun hm=>by have:=aO.lt kW _ hm;omega))) Pw (Dj.symm gP);obtain⟨x41,e42,h⟩:=aj h;obtain⟨w43,w44,aqF,hil,w45,hC,hL,hD,hI⟩:=aO.content r39 e42;have w46:=ne_next hil;have w47:=aW hil;have w48:lq 1 jU (.int .i64 x21)=some (.ref w43 (x21.toNat)):=by simpa using hI .i64 x21 (by first|omega|decide) (by first|rfl|omega)
     have aAH:w44[x21.toNat]? =some (.int .i64 x41):=by simpa using hC 0 _ rfl
     clear hC hL hD hI;try refine dh ?_
     refine qw (f:=aY) (id:=w43) (o:=x21.toNat) (i:=x21.toNat) (j:=0) (a:=x41) (y:=fT) (vs:=[(.int .i64 fT)]) aR aqF (by omega) (by repeat (first|exact r39|apply aO.new|refine aO.put ?_ (fun hm=>by have:=aO.lt r39 _ hm;omega))) e42 aR rfl rfl (by first|decide|(simp only [List.length_cons,List.length_nil];omega)) rfl (fun H51 r52 air ahR=> ?_);have le:=air.1;try simp only [AH.aK,AH.aL,AH.aM,AH.aN]at le
     have r56:=aO.hf (by repeat (first|exact r35|apply aO.new|refine aO.put ?_ (fun hm=>by have:=aO.lt r35 _ hm;omega))) air gP;try refine dh ?_
     refine hK _ _ ?_;exact ih qF jR jU gD M (uS.set x21.toNat kR) (j6.set x21.toNat fT) kR jh jQ (IntKind.wrap .i64 (fT+1)) _ _ _ _ aJ (by repeat (first|exact hf0|refine HF.new ?_|refine HF.fP ?_|refine HF.used ?_|refine HF.put (by first|(right;omega)|(left;simp only [List.mem_cons,true_or,or_true])) ?_|refine HF.via Pw qo ?_|refine HF.via air kK ?_)) aR (by repeat (first|exact r56|apply aO.new|refine aO.put ?_ (fun hm=>by have:=aO.lt r56 _ hm;omega))) qo (by repeat (first|exact r52|apply aO.new|refine aO.put ?_ (fun hm=>by have:=aO.lt r52 _ hm;omega))) kK gP _ h _ q0
    ·obtain rfl:=ak h;try refine dh ?_
     exact q0 _ qF jR jU gD _ _ rfl aJ (by repeat (first|exact hf0|refine HF.new ?_|refine HF.fP ?_|refine HF.used ?_|refine HF.put (by first|(right;omega)|(left;simp only [List.mem_cons,true_or,or_true])) ?_)) aR (by repeat (first|exact qG|apply aO.new|refine aO.put ?_ (fun hm=>by have:=aO.lt qG _ hm;omega))) qo (by repeat (first|exact kW|apply aO.new|refine aO.put ?_ (fun hm=>by have:=aO.lt kW _ hm;omega))) kK gP
def ny:Nat->(List Int)->(List Int)->(List Nd)->Int->Int->Option (((List Int)×(List Int)))
  |0,_,_,_,_,_=>none
  |k+1,uS,j6,Jz,JA,BI=>
    cond (decide (BI<JA)) (if 0<=BI then Option.bind (Jz[BI.toNat]?) fun CK=>Option.bind (nu k uS j6 BI CK.args (CK.args.length:Int) 0) (fun p60=>ny k p60.1 p60.2 Jz JA (IntKind.wrap .i64 (BI+1)))else none) (some ((uS,j6)))
def J8:List Nat:=[6,7,8,9]++List.range' 19 23
theorem U6: ∀(k:Nat) (qF:PV) (jR:List Nat) (jU:PV) (gD:List Nat) (M:List Nat) (uS:List Int) (j6:List Int) (Jz:List Nd) (JA:Int) (BI:Int) (aC σ:Nat->PV) (H0 H:AH) (f0:Fr J8 aC σ) (hf0:HF M H0 H) (sl:σ 4=qF/\σ 5=jU/\σ 17=(.aB (Jz.map Nd.cells) .unk)/\σ 18=(.int .i64 JA)/\σ 19=(.int .i64 BI)) (qG:aO H aY 1 uS qF jR) (qo:Nw H0 M jR) (kW:aO H aY 1 j6 jU gD) (kK:Nw H0 M gD) (gP:Dj jR gD) (o:((List Int)×(List Int))) (h:ny k uS j6 Jz JA BI=some o) (Q:Post) (q0: ∀(p:(List Int)×(List Int)) (v0:PV) (tC:List Nat) (v1:PV) (Pv:List Nat) (σ':Nat->PV) (H':AH),o=p->Fr J8 aC σ'->HF M H0 H'->(σ' 4=v0/\σ' 5=v1)->aO H' aY 1 p.1 v0 tC->Nw H0 M tC->aO H' aY 1 p.2 v1 Pv->Nw H0 M Pv->Dj tC Pv->Q (.exit 0) σ' H'),W Tryz.prog (.loop Tg) Q σ H:=by
  intro k
  induction k with
  |zero=>intro qF jR jU gD M uS j6 Jz JA BI aC σ H0 H f0 hf0 sl qG qo kW kK gP o h Q q0;simp only [ny,reduceCtorEq]at h
  |succ k ih=>
    intro qF jR jU gD M uS j6 Jz JA BI aC σ H0 H f0 hf0 sl qG qo kW kK gP o h Q q0;obtain⟨s4,s5,um,jE,pI⟩:=sl;have hle0:=hf0.1;unfold ny at h;refine aU (fun K hK=>aD ?_);unfold Tg;rcases au h with⟨e15,h⟩|⟨e15,h⟩
    ·obtain⟨e16,h⟩:=aQ h;obtain⟨CK,e18,h⟩:=aj h;try refine dh ?_
     rw [dM];try refine dh ?_
     obtain⟨o58,h59,h⟩:=aj h;refine U5 k qF jR jU gD (jR++(gD++[])) uS j6 BI CK.args (CK.args.length:Int) 0 _ _ _ _ (Fr.refl _ _) (HF.refl _ _) aR (by repeat (first|exact qG|apply aO.new|refine aO.put ?_ (fun hm=>by have:=aO.lt qG _ hm;omega))) (fun i hi=>Or.inl (by simp only [List.mem_append,List.mem_cons,hi,true_or,or_true])) (by repeat (first|exact kW|apply aO.new|refine aO.put ?_ (fun hm=>by have:=aO.lt kW _ hm;omega))) (fun i hi=>Or.inl (by simp only [List.mem_append,List.mem_cons,hi,true_or,or_true])) gP _ h59 _ ?_
     ·rintro p60 v64 atw v69 atx σ' H63 eo aej aqG ⟨s68,s73⟩ r66 awX r71 awY awZ;rw [eo]at h;have s75:σ' 17=(.aB (Jz.map Nd.cells) .unk):=(aej 17 (by decide)).trans aR;have s76:σ' 18=(.int .i64 JA):=(aej 18 (by decide)).trans aR;have s77:σ' 19=(.int .i64 BI):=(aej 19 (by decide)).trans aR;have le:=aqG.1;try simp only [AH.aK,AH.aL,AH.aM,AH.aN]at le
      try refine dh ?_
      refine hK _ _ ?_;exact ih v64 atw v69 atx M p60.1 p60.2 Jz JA (IntKind.wrap .i64 (BI+1)) _ _ _ _ (by repeat (first|exact f0|refine Fr.upd (by decide) ?_|refine Fr.via aej (by decide) ?_)) (by repeat (first|exact hf0|refine HF.new ?_|refine HF.fP ?_|refine HF.used ?_|refine HF.put (by first|(right;omega)|(left;simp only [List.mem_cons,true_or,or_true])) ?_|refine HF.via aqG (List.forall_mem_append.2 ⟨qo,(List.forall_mem_append.2 ⟨kK,(fun _ h=>absurd h List.not_mem_nil)⟩)⟩) ?_)) aR (by repeat (first|exact r66|apply aO.new|refine aO.put ?_ (fun hm=>by have:=aO.lt r66 _ hm;omega))) (Nw.via (List.forall_mem_append.2 ⟨qo,(List.forall_mem_append.2 ⟨kK,(fun _ h=>absurd h List.not_mem_nil)⟩)⟩) bS awX) (by repeat (first|exact r71|apply aO.new|refine aO.put ?_ (fun hm=>by have:=aO.lt r71 _ hm;omega))) (Nw.via (List.forall_mem_append.2 ⟨qo,(List.forall_mem_append.2 ⟨kK,(fun _ h=>absurd h List.not_mem_nil)⟩)⟩) bS awY) awZ _ h _ q0
    ·obtain rfl:=ak h;try refine dh ?_
     exact q0 _ qF jR jU gD _ _ rfl aJ (by repeat (first|exact hf0|refine HF.new ?_|refine HF.fP ?_|refine HF.used ?_|refine HF.put (by first|(right;omega)|(left;simp only [List.mem_cons,true_or,or_true])) ?_)) aR (by repeat (first|exact qG|apply aO.new|refine aO.put ?_ (fun hm=>by have:=aO.lt qG _ hm;omega))) qo (by repeat (first|exact kW|apply aO.new|refine aO.put ?_ (fun hm=>by have:=aO.lt kW _ hm;omega))) kK gP
def wm (k:Nat) (aH:List Nd):Option ((List Int)×(List Int)):=
  if [(-1)].length=1/\0<=(aH.length:Int)/\(aH.length:Int)<=1000000 then if 0<=(aH.length:Int)/\(aH.length:Int)<=1099511627776/\8*(aH.length:Int)<=1099511627776 then Option.bind (ny k (Iz [(-1)] (aH.length:Int):List Int) (List.replicate aH.length 0) aH (aH.length:Int) 0) (fun xw=>some (xw.1,xw.2))else none else none
theorem abO {k:Nat} {aH:List Nd} {c0:Ck} {r:(List Int)×(List Int)} (h:wm k aH=some r):aF Tryz.prog 50 [(.aB (aH.map Nd.cells) c0)] (.dJ [(.aB (r.1.map aY) .unk),(.aB (r.2.map aY) .unk)]):=by
  refine aF.lw (.aB .nil) (aF.aP (bg.mem (.cons (aV Nd.pu _) .nil)) (aG avL (by simp) (aD ?_)) (.dJ _ (bg.mem (.cons (aV fO _) (.cons (aV fO _) .nil)))));unfold wm at h;unfold aox;obtain⟨e13,h⟩:=aQ h;obtain⟨e14,h⟩:=aQ h;try refine dh ?_
  refine acy (afz (a:=3) (b:=6) (f:=aY) (sz:=1) (xs:=(Iz [(-1)] (aH.length:Int):List Int)) (g:=aY) (sz2:=1) (ys:=(List.replicate aH.length 0)) (fun x y i=>match i with|0=>(.aB ([(-1)].map aY) .exact)|1=>(.aB (aH.map Nd.cells) .unk)|2=>(.int .i64 (aH.length:Int))|3=>x|4=>(.aB (aH.map Nd.cells) .unk)|5=>(.int .i64 (aH.length:Int))|6=>y|7=>x|_=>ud) rfl (by decide) rfl rfl (fun _ _=>rfl) (fun _ _=>rfl) (by
    intro x x' y i h1 h2;rcases i with _|i
    · first|rfl|exact absurd rfl h1|exact absurd h2 (by decide)
    rcases i with _|i
    · first|rfl|exact absurd rfl h1|exact absurd h2 (by decide)
    rcases i with _|i
    · first|rfl|exact absurd rfl h1|exact absurd h2 (by decide)
    rcases i with _|i
    · first|rfl|exact absurd rfl h1|exact absurd h2 (by decide)
    rcases i with _|i
    · first|rfl|exact absurd rfl h1|exact absurd h2 (by decide)
    rcases i with _|i
    · first|rfl|exact absurd rfl h1|exact absurd h2 (by decide)
    rcases i with _|i
    · first|rfl|exact absurd rfl h1|exact absurd h2 (by decide)
    rcases i with _|i
    · first|rfl|exact absurd rfl h1|exact absurd h2 (by decide)
    rfl) (by
    intro x y y' i h1 h2;rcases i with _|i
    · first|rfl|exact absurd rfl h1|exact absurd h2 (by decide)
    rcases i with _|i
    · first|rfl|exact absurd rfl h1|exact absurd h2 (by decide)
    rcases i with _|i
    · first|rfl|exact absurd rfl h1|exact absurd h2 (by decide)
    rcases i with _|i
    · first|rfl|exact absurd rfl h1|exact absurd h2 (by decide)
    rcases i with _|i
    · first|rfl|exact absurd rfl h1|exact absurd h2 (by decide)
    rcases i with _|i
    · first|rfl|exact absurd rfl h1|exact absurd h2 (by decide)
    rcases i with _|i
    · first|rfl|exact absurd rfl h1|exact absurd h2 (by decide)
    rcases i with _|i
    · first|rfl|exact absurd rfl h1|exact absurd h2 (by decide)
    rfl) (by
    intro x y;refine⟨.inr ⟨rfl,fun H=>by(try simp -implicitDefEqProofs only [iR,dU,evs,List.map,List.nil_append,List.append_nil,go_sem]);first|done|exact⟨rfl,rfl⟩⟩,?_⟩;refine⟨.inr ⟨rfl,fun H=>by(try simp -implicitDefEqProofs only [iR,dU,evs,List.map,List.nil_append,List.append_nil,go_sem]);first|done|exact⟨rfl,rfl⟩⟩,?_⟩;refine⟨.inr ⟨rfl,fun H=>by(try simp -implicitDefEqProofs only [iR,dU,evs,List.map,List.nil_append,List.append_nil,go_sem]);first|done|exact⟨rfl,rfl⟩⟩,?_⟩;refine⟨.inl rfl,?_⟩;refine⟨.inr ⟨rfl,fun H=>by(try simp -implicitDefEqProofs only [iR,dU,evs,List.map,List.nil_append,List.append_nil,go_sem]);first|done|exact⟨rfl,rfl⟩⟩,?_⟩;refine⟨.inr ⟨rfl,fun H=>by(try simp -implicitDefEqProofs only [iR,dU,evs,List.map,List.nil_append,List.append_nil,go_sem]);first|done|exact⟨rfl,rfl⟩⟩,?_⟩;refine⟨.inl rfl,?_⟩;refine⟨.inr ⟨rfl,fun H=>by(try simp -implicitDefEqProofs only [iR,dU,evs,List.map,List.nil_append,List.append_nil,go_sem]);first|done|exact⟨rfl,rfl⟩⟩,?_⟩;exact trivial) (fun y H=>⟨trivial,ama (aqB [(-1)] (aH.length:Int) e13) (by simp -implicitDefEqProofs only [dU,evs,List.map,List.nil_append,List.append_nil,go_sem])⟩) (fun x H=>⟨trivial,al9 (f:=aY) (k:= .i64) (k':= .i64) (n:=(aH.length:Int)) 0 rfl (by simp -implicitDefEqProofs only [dU,evs,List.map,List.nil_append,List.append_nil,go_sem]) (by simp -implicitDefEqProofs only [dU,evs,List.map,List.nil_append,List.append_nil,go_sem]) e14 (by decide)⟩) (fun v1 v8 aqH aqI H3 r4 r10 aw0 nw5 aBM hf6 ok7=> ?_))
  simp only [dU,List.length_cons,List.length_nil,Nat.reduceAdd];have le:=hf6.1;try simp only [AH.aK,AH.aL,AH.aM,AH.aN]at le
  try refine dh ?_
  obtain⟨o78,h79,h⟩:=aj h;refine U6 k v1 aqH v8 aqI (aqH++(aqI++[])) (Iz [(-1)] (aH.length:Int):List Int) (List.replicate aH.length 0) aH (aH.length:Int) 0 _ _ _ _ (Fr.refl _ _) (HF.refl _ _) aR (by repeat (first|exact r4|apply aO.new|refine aO.put ?_ (fun hm=>by have:=aO.lt r4 _ hm;omega))) (fun i hi=>Or.inl (by simp only [List.mem_append,List.mem_cons,hi,true_or,or_true])) (by repeat (first|exact r10|apply aO.new|refine aO.put ?_ (fun hm=>by have:=aO.lt r10 _ hm;omega))) (fun i hi=>Or.inl (by simp only [List.mem_append,List.mem_cons,hi,true_or,or_true])) aw0 _ h79 _ ?_
  ·rintro xw v84 aAI v89 aAJ σ' H83 eo JB ais ⟨s88,s93⟩ r86 aBN r91 aBO aBP;rw [eo]at h;have le:=ais.1;try simp only [AH.aK,AH.aL,AH.aM,AH.aN]at le
   obtain rfl:=ak h;try refine dh ?_
   exact(cZ (.cons (aO.fz fO (by repeat (first|exact r86|apply aO.new|refine aO.put ?_ (fun hm=>by have:=aO.lt r86 _ hm;omega)))) (.cons (aO.fz fO (by repeat (first|exact r91|apply aO.new|refine aO.put ?_ (fun hm=>by have:=aO.lt r91 _ hm;omega)))) .nil)))
end Go.VL
end
section
namespace Go.VL
open Go.Proofs Go.RowKit
set_option maxRecDepth 100000
theorem agd:Enters Tryz.prog 141:=⟨_,Tryz.func141,rfl,by kernel_rfl⟩
theorem ait:Qk Tryz.prog 141 1 false:=by
  intro l m bx n J Jx W hn hc hY h0;refine callsIn_of_wp Tryz.func141 rfl trivial ?_ rfl;simp only [Tryz.ntmps141,List.size_toArray,List.length_cons,List.length_nil,Nat.reduceAdd,Nat.reduceSub,Array.replicate_succ,Array.replicate_zero,List.push_toArray,List.append_toArray,List.nil_append,List.cons_append];obtain⟨ad0,cap0,hc0⟩:=hc
  gi_wp2
  gi_loopw [3] (fun v3 wr=> ∃k:Nat,v3= .int .i64 ((k:Int) -1)/\k<=n/\J k wr) (fun v3 wr=>(RowKit.intOf v3+1).toNat)
  case atStart=>exact⟨n,rfl,Nat.le_refl _,h0⟩
  case round=>
    obtain⟨k,rfl,hk,hJ⟩:=hrel;cases k with
    |zero=>
      have c1: ¬(0:Int)<=((0:Nat):Int) -1:=by omega
      gi_wp2
      go_end0
      exact⟨⟨_,rfl⟩,.inl hJ⟩
    |succ k=>
      obtain⟨b,o,cap,vs,hb,hkn,hvs,hld,fn,tmps,assign,body,hy,hR⟩:=hY k wr hJ;have e1:((k+1:Nat):Int) -1=(k:Int):=by omega
      rw [e1];have c1:(0:Int)<=(k:Int):=by omega
      have c2:(k:Int)<(n:Int):=by omega
      have aBQ:wr.cell? ⟨b,o+k,none⟩=some (elemV false vs):=by
        have:=hld 0 (elemV false vs) (by simp [elemV,hvs]);simpa using this
      clear hld;generalize elemV false vs=v at*
      gi_wp2
      refine⟨fun hd=>absurd hd (by simp [Fence.wide]),(Nv hR).mono ?_⟩;rintro e W' (⟨rfl,hJ'⟩|⟨rfl,hJx⟩)
      · gi_wp2
        go_roundw
        case rel=>exact⟨k,rfl,by omega,hJ'⟩
        case measure=>simp [RowKit.intOf]
      · gi_wp2
        refine bodyPost_ret (results_none rfl _ _ _) rfl ?_;exact⟨⟨_,rfl⟩,.inr hJx⟩
end Go.VL
end
section
set_option maxHeartbeats 4000000
namespace Go.VL
open Go.Proofs
def wo (bR:Int):Option Bool:=
  cond (bR==1) (some ((bR==1))) (some ((bR==2)))
theorem U7: ∀(bR:Int) (aC σ:Nat->PV) (H:AH) (f0:Fr [15,16,17] aC σ) (sl:σ 11=(.int .i64 bR)) (o:Bool) (h:wo bR=some o) (Q:Post) (q0: ∀(p:Bool) (σ':Nat->PV),o=p->Fr [15,16,17] aC σ'->(σ' 15=(.bool p))->Q .normal σ' H),W Tryz.prog Ud Q σ H:=by
  intro bR aC σ H f0 sl o h Q q0;have s11:=sl;unfold wo at h;refine aD ?_;unfold Ud;rcases au h with⟨e2,h⟩|⟨e2,h⟩
  ·obtain rfl:=ak h;try refine ah ?_
   exact q0 _ _ rfl aJ av
  ·obtain rfl:=ak h;try refine ah ?_
   exact q0 _ _ rfl aJ av
def Ai (bR:Int):Option Bool:=
  cond (bR==4) (some ((bR==4))) (some ((bR==5)))
theorem U8: ∀(bR:Int) (aC σ:Nat->PV) (H:AH) (f0:Fr [38,39,40] aC σ) (sl:σ 11=(.int .i64 bR)) (o:Bool) (h:Ai bR=some o) (Q:Post) (q0: ∀(p:Bool) (σ':Nat->PV),o=p->Fr [38,39,40] aC σ'->(σ' 38=(.bool p))->Q .normal σ' H),W Tryz.prog Ue Q σ H:=by
  intro bR aC σ H f0 sl o h Q q0;have s11:=sl;unfold Ai at h;refine aD ?_;unfold Ue;rcases au h with⟨e20,h⟩|⟨e20,h⟩
  ·obtain rfl:=ak h;try refine ah ?_
   exact q0 _ _ rfl aJ av
  ·obtain rfl:=ak h;try refine ah ?_
   exact q0 _ _ rfl aJ av
def Aj (bR:Int):Option Bool:=
  cond (bR==6) (some ((bR==6))) (some ((bR==12)))
theorem U9: ∀(bR:Int) (aC σ:Nat->PV) (H:AH) (f0:Fr [43,44,45] aC σ) (sl:σ 11=(.int .i64 bR)) (o:Bool) (h:Aj bR=some o) (Q:Post) (q0: ∀(p:Bool) (σ':Nat->PV),o=p->Fr [43,44,45] aC σ'->(σ' 43=(.bool p))->Q .normal σ' H),W Tryz.prog Uf Q σ H:=by
  intro bR aC σ H f0 sl o h Q q0;have s11:=sl;unfold Aj at h;refine aD ?_;unfold Uf;rcases au h with⟨e33,h⟩|⟨e33,h⟩
  ·obtain rfl:=ak h;try refine ah ?_
   exact q0 _ _ rfl aJ av
  ·obtain rfl:=ak h;try refine ah ?_
   exact q0 _ _ rfl aJ av
def Ak (bR:Int):Option Bool:=
  cond (bR==7) (some ((bR==7))) (cond (bR==8) (some ((bR==8))) (cond (bR==9) (some ((bR==9))) (some ((bR==13)))))
def J9:List Nat:=[48,49,50,51,52]
theorem Va: ∀(bR:Int) (aC σ:Nat->PV) (H:AH) (f0:Fr J9 aC σ) (sl:σ 11=(.int .i64 bR)) (o:Bool) (h:Ak bR=some o) (Q:Post) (q0: ∀(p:Bool) (σ':Nat->PV),o=p->Fr J9 aC σ'->(σ' 48=(.bool p))->Q .normal σ' H),W Tryz.prog Ug Q σ H:=by
  intro bR aC σ H f0 sl o h Q q0;have s11:=sl;unfold Ak at h;refine aD ?_;unfold Ug;rcases au h with⟨e48,h⟩|⟨e48,h⟩
  ·obtain rfl:=ak h;try refine ah ?_
   exact q0 _ _ rfl aJ av
  ·rcases au h with⟨e49,h⟩|⟨e49,h⟩
   ·obtain rfl:=ak h;try refine ah ?_
    exact q0 _ _ rfl aJ av
   ·rcases au h with⟨e50,h⟩|⟨e50,h⟩
    ·obtain rfl:=ak h;try refine ah ?_
     exact q0 _ _ rfl aJ av
    ·obtain rfl:=ak h;try refine ah ?_
     exact q0 _ _ rfl aJ av
def Al (bR:Int):Option Bool:=
  cond (bR==10) (some ((bR==10))) (some ((bR==11)))
theorem Vb: ∀(bR:Int) (aC σ:Nat->PV) (H:AH) (f0:Fr [60,61,62] aC σ) (sl:σ 11=(.int .i64 bR)) (o:Bool) (h:Al bR=some o) (Q:Post) (q0: ∀(p:Bool) (σ':Nat->PV),o=p->Fr [60,61,62] aC σ'->(σ' 60=(.bool p))->Q .normal σ' H),W Tryz.prog Uh Q σ H:=by
  intro bR aC σ H f0 sl o h Q q0;have s11:=sl;unfold Al at h;refine aD ?_;unfold Uh;rcases au h with⟨e63,h⟩|⟨e63,h⟩
  ·obtain rfl:=ak h;try refine ah ?_
   exact q0 _ _ rfl aJ av
  ·obtain rfl:=ak h;try refine ah ?_
   exact q0 _ _ rfl aJ av
def Am (bR:Int):Option Bool:=
  cond (bR==16) (some ((bR==16))) (some ((bR==17)))
theorem Vd: ∀(bR:Int) (aC σ:Nat->PV) (H:AH) (f0:Fr [70,71,72] aC σ) (sl:σ 11=(.int .i64 bR)) (o:Bool) (h:Am bR=some o) (Q:Post) (q0: ∀(p:Bool) (σ':Nat->PV),o=p->Fr [70,71,72] aC σ'->(σ' 70=(.bool p))->Q .normal σ' H),W Tryz.prog Ui Q σ H:=by
  intro bR aC σ H f0 sl o h Q q0;have s11:=sl;unfold Am at h;refine aD ?_;unfold Ui;rcases au h with⟨NM,h⟩|⟨NM,h⟩
  ·obtain rfl:=ak h;try refine ah ?_
   exact q0 _ _ rfl aJ av
  ·obtain rfl:=ak h;try refine ah ?_
   exact q0 _ _ rfl aJ av
def Ao (bR:Int):Option Bool:=
  cond (bR==19) (some ((bR==19))) (some ((bR==21)))
theorem Ve: ∀(bR:Int) (aC σ:Nat->PV) (H:AH) (f0:Fr [82,83,84] aC σ) (sl:σ 11=(.int .i64 bR)) (o:Bool) (h:Ao bR=some o) (Q:Post) (q0: ∀(p:Bool) (σ':Nat->PV),o=p->Fr [82,83,84] aC σ'->(σ' 82=(.bool p))->Q .normal σ' H),W Tryz.prog Uj Q σ H:=by
  intro bR aC σ H f0 sl o h Q q0;have s11:=sl;unfold Ao at h;refine aD ?_;unfold Uj;rcases au h with⟨Qz,h⟩|⟨Qz,h⟩
  ·obtain rfl:=ak h;try refine ah ?_
   exact q0 _ _ rfl aJ av
  ·obtain rfl:=ak h;try refine ah ?_
   exact q0 _ _ rfl aJ av
def y9 (k:Nat) (aZ:Nd):Option Shape:=
  cond (aZ.kind==0) (some (Shape.mk (0,0) (0,0) false true)) (Option.bind (wo aZ.kind) (fun p5=>cond p5 (some (Shape.mk (0,0) (0,0) true false)) (cond (aZ.kind==3) (Option.bind (ku k aZ.text) fun xu=>cond xu.2 (some (Shape.mk (0,0) ((aZ.args.length:Int),(aZ.args.length:Int)) true false)) (some (Shape.mk (0,0) (1,4) true false))) (Option.bind (Ai aZ.kind) (fun Ip=>cond Ip (some (Shape.mk (0,0) (0,30) false false)) (Option.bind (Aj aZ.kind) (fun p36=>cond p36 (Option.bind (uG 1 2) fun p47=>some p47) (Option.bind (Ak aZ.kind) (fun p53=>cond p53 (some (Shape.mk (1,4) ((IntKind.wrap .i64 ((aZ.names.length:Int)+1)),(IntKind.wrap .i64 ((aZ.names.length:Int)+1))) false false)) (Option.bind (Al aZ.kind) (fun p66=>cond p66 (some (Shape.mk (1,4) (1,1) false false)) (cond (aZ.kind==14) (some (Shape.mk (0,0) (2,5) false false)) (Option.bind (Am aZ.kind) (fun xw=>cond xw (some (Shape.mk (1,30) ((aZ.names.length:Int),(aZ.names.length:Int)) false false)) (cond (aZ.kind==18) (some (Shape.mk (0,0) (1,1) true false)) (Option.bind (Ao aZ.kind) (fun Wh=>cond Wh (Option.bind (uG 0 3) fun Zc=>some Zc) (cond (aZ.kind==20) (some (Shape.mk (0,0) (0,0) false false)) (cond (aZ.kind==22) (some (Shape.mk (0,0) (2,30) false false)) (cond (aZ.kind==23) (some (Shape.mk (1,5) (2,2) false true)) (cond (aZ.kind==24) (some (Shape.mk (1,4) (1,1) false false)) (Option.bind (uG 0 2) fun aqJ=>some aqJ))))))))))))))))))))))
theorem abP {k:Nat} {aZ:Nd} {r:Shape} (h:y9 k aZ=some r):aF Tryz.prog 90 [(.agg (Nd.cells aZ))] (.agg (Shape.cells r)):=by
  refine aF.aP (bg.mem (.cons (.agg _ (Nd.pu _)) .nil)) (aG awc (by simp) (aD ?_)) (.agg _ (Shape.pu _));unfold y9 at h;unfold ao4;rcases au h with⟨e1,h⟩|⟨e1,h⟩
  ·obtain rfl:=ak h;try refine ah ?_
   exact(dK (.cons (.pure _ (.int _ _)) (.cons (.pure _ (.int _ _)) (.cons (.pure _ (.int _ _)) (.cons (.pure _ (.int _ _)) (.cons (.pure _ (.bool _)) (.cons (.pure _ (.bool _)) .nil)))))))
  ·try refine ah ?_
   obtain⟨o3,h4,h⟩:=aj h;refine U7 aZ.kind _ _ _ (Fr.refl _ _) av _ h4 _ ?_
   ·rintro p5 σ' eo fr6 s9;rw [eo]at h;have s10:σ' 1=(.ref (AH.empty.next) 0):=(fr6 1 (by decide)).trans av;have s11:σ' 2=(.ref (AH.empty.next+1) 0):=(fr6 2 (by decide)).trans av;have s12:σ' 3=(.fn (.func 140) [] []):=(fr6 3 (by decide)).trans av;have s13:σ' 4=(.int .i64 (aZ.names.length:Int)):=(fr6 4 (by decide)).trans av;have NP:σ' 11=(.int .i64 aZ.kind):=(fr6 11 (by decide)).trans av;rcases au h with⟨e15,h⟩|⟨e15,h⟩
    ·obtain rfl:=ak h;try refine ah ?_
     exact(dK (.cons (.pure _ (.int _ _)) (.cons (.pure _ (.int _ _)) (.cons (.pure _ (.int _ _)) (.cons (.pure _ (.int _ _)) (.cons (.pure _ (.bool _)) (.cons (.pure _ (.bool _)) .nil)))))))
    ·rcases au h with⟨e16,h⟩|⟨e16,h⟩
     ·obtain⟨xu,e17,h⟩:=aj h;try refine ah ?_
      refine aA (oZ e17) ?_;rcases au h with⟨e19,h⟩|⟨e19,h⟩
      ·obtain rfl:=ak h;try refine ah ?_
       exact(dK (.cons (.pure _ (.int _ _)) (.cons (.pure _ (.int _ _)) (.cons (.pure _ (.int _ _)) (.cons (.pure _ (.int _ _)) (.cons (.pure _ (.bool _)) (.cons (.pure _ (.bool _)) .nil)))))))
      ·obtain rfl:=ak h;try refine ah ?_
       exact(dK (.cons (.pure _ (.int _ _)) (.cons (.pure _ (.int _ _)) (.cons (.pure _ (.int _ _)) (.cons (.pure _ (.int _ _)) (.cons (.pure _ (.bool _)) (.cons (.pure _ (.bool _)) .nil)))))))
     ·try refine ah ?_
      obtain⟨o21,h22,h⟩:=aj h;refine U8 aZ.kind _ _ _ (Fr.refl _ _) av _ h22 _ ?_
      ·rintro Ip σ' eo aek s27;rw [eo]at h;have s28:σ' 2=(.ref (AH.empty.next+1) 0):=(aek 2 (by decide)).trans av;have s29:σ' 3=(.fn (.func 140) [] []):=(aek 3 (by decide)).trans av;have s30:σ' 4=(.int .i64 (aZ.names.length:Int)):=(aek 4 (by decide)).trans av;have s31:σ' 11=(.int .i64 aZ.kind):=(aek 11 (by decide)).trans av;rcases au h with⟨e32,h⟩|⟨e32,h⟩
       ·obtain rfl:=ak h;try refine ah ?_
        exact(dK (.cons (.pure _ (.int _ _)) (.cons (.pure _ (.int _ _)) (.cons (.pure _ (.int _ _)) (.cons (.pure _ (.int _ _)) (.cons (.pure _ (.bool _)) (.cons (.pure _ (.bool _)) .nil)))))))
       ·try refine ah ?_
        obtain⟨o34,h35,h⟩:=aj h;refine U9 aZ.kind _ _ _ (Fr.refl _ _) av _ h35 _ ?_
        ·rintro p36 σ' eo ael s40;rw [eo]at h;have s41:σ' 2=(.ref (AH.empty.next+1) 0):=(ael 2 (by decide)).trans av;have s42:σ' 3=(.fn (.func 140) [] []):=(ael 3 (by decide)).trans av;have s43:σ' 4=(.int .i64 (aZ.names.length:Int)):=(ael 4 (by decide)).trans av;have s44:σ' 11=(.int .i64 aZ.kind):=(ael 11 (by decide)).trans av;rcases au h with⟨e45,h⟩|⟨e45,h⟩
         ·obtain⟨p47,e46,h⟩:=aj h;try refine ah ?_
          refine aA (Dm e46) ?_;obtain rfl:=ak h;try refine ah ?_
          exact(dK (.cons (.pure _ (.int _ _)) (.cons (.pure _ (.int _ _)) (.cons (.pure _ (.int _ _)) (.cons (.pure _ (.int _ _)) (.cons (.pure _ (.bool _)) (.cons (.pure _ (.bool _)) .nil)))))))
         ·try refine ah ?_
          obtain⟨o51,Y4,h⟩:=aj h;refine Va aZ.kind _ _ _ (Fr.refl _ _) av _ Y4 _ ?_
          ·rintro p53 σ' eo Jp s57;rw [eo]at h;have s58:σ' 2=(.ref (AH.empty.next+1) 0):=(Jp 2 (by decide)).trans av;have s59:σ' 3=(.fn (.func 140) [] []):=(Jp 3 (by decide)).trans av;have s60:σ' 4=(.int .i64 (aZ.names.length:Int)):=(Jp 4 (by decide)).trans av;have s61:σ' 11=(.int .i64 aZ.kind):=(Jp 11 (by decide)).trans av;rcases au h with⟨e62,h⟩|⟨e62,h⟩
           ·obtain rfl:=ak h;try refine ah ?_
            exact(dK (.cons (.pure _ (.int _ _)) (.cons (.pure _ (.int _ _)) (.cons (.pure _ (.int _ _)) (.cons (.pure _ (.int _ _)) (.cons (.pure _ (.bool _)) (.cons (.pure _ (.bool _)) .nil)))))))
           ·try refine ah ?_
            obtain⟨o64,h65,h⟩:=aj h;refine Vb aZ.kind _ _ _ (Fr.refl _ _) av _ h65 _ ?_
            ·rintro p66 σ' eo LB s70;rw [eo]at h;have s71:σ' 2=(.ref (AH.empty.next+1) 0):=(LB 2 (by decide)).trans av;have s72:σ' 3=(.fn (.func 140) [] []):=(LB 3 (by decide)).trans av;have s73:σ' 4=(.int .i64 (aZ.names.length:Int)):=(LB 4 (by decide)).trans av;have s74:σ' 11=(.int .i64 aZ.kind):=(LB 11 (by decide)).trans av;rcases au h with⟨Qv,h⟩|⟨Qv,h⟩
             ·obtain rfl:=ak h;try refine ah ?_
              exact(dK (.cons (.pure _ (.int _ _)) (.cons (.pure _ (.int _ _)) (.cons (.pure _ (.int _ _)) (.cons (.pure _ (.int _ _)) (.cons (.pure _ (.bool _)) (.cons (.pure _ (.bool _)) .nil)))))))
             ·rcases au h with⟨V9,h⟩|⟨V9,h⟩
              ·obtain rfl:=ak h;try refine ah ?_
               exact(dK (.cons (.pure _ (.int _ _)) (.cons (.pure _ (.int _ _)) (.cons (.pure _ (.int _ _)) (.cons (.pure _ (.int _ _)) (.cons (.pure _ (.bool _)) (.cons (.pure _ (.bool _)) .nil)))))))
              ·try refine ah ?_
               obtain⟨o78,h79,h⟩:=aj h;refine Vd aZ.kind _ _ _ (Fr.refl _ _) av _ h79 _ ?_
               ·rintro xw σ' eo JB s84;rw [eo]at h;have s85:σ' 2=(.ref (AH.empty.next+1) 0):=(JB 2 (by decide)).trans av;have s86:σ' 3=(.fn (.func 140) [] []):=(JB 3 (by decide)).trans av;have s87:σ' 4=(.int .i64 (aZ.names.length:Int)):=(JB 4 (by decide)).trans av;have s88:σ' 11=(.int .i64 aZ.kind):=(JB 11 (by decide)).trans av;rcases au h with⟨Qy,h⟩|⟨Qy,h⟩
                ·obtain rfl:=ak h;try refine ah ?_
                 exact(dK (.cons (.pure _ (.int _ _)) (.cons (.pure _ (.int _ _)) (.cons (.pure _ (.int _ _)) (.cons (.pure _ (.int _ _)) (.cons (.pure _ (.bool _)) (.cons (.pure _ (.bool _)) .nil)))))))
                ·rcases au h with⟨Y5,h⟩|⟨Y5,h⟩
                 ·obtain rfl:=ak h;try refine ah ?_
                  exact(dK (.cons (.pure _ (.int _ _)) (.cons (.pure _ (.int _ _)) (.cons (.pure _ (.int _ _)) (.cons (.pure _ (.int _ _)) (.cons (.pure _ (.bool _)) (.cons (.pure _ (.bool _)) .nil)))))))
                 ·try refine ah ?_
                  obtain⟨o92,h93,h⟩:=aj h;refine Ve aZ.kind _ _ _ (Fr.refl _ _) av _ h93 _ ?_
                  ·rintro Wh σ' eo aiu s98;rw [eo]at h;have s99:σ' 2=(.ref (AH.empty.next+1) 0):=(aiu 2 (by decide)).trans av;have aic:σ' 3=(.fn (.func 140) [] []):=(aiu 3 (by decide)).trans av;have awR:σ' 11=(.int .i64 aZ.kind):=(aiu 11 (by decide)).trans av;rcases au h with⟨Zf,h⟩|⟨Zf,h⟩
                   ·obtain⟨Zc,Jq,h⟩:=aj h;try refine ah ?_
                    refine aA (Dm Jq) ?_;obtain rfl:=ak h;try refine ah ?_
                    exact(dK (.cons (.pure _ (.int _ _)) (.cons (.pure _ (.int _ _)) (.cons (.pure _ (.int _ _)) (.cons (.pure _ (.int _ _)) (.cons (.pure _ (.bool _)) (.cons (.pure _ (.bool _)) .nil)))))))
                   ·rcases au h with⟨La,h⟩|⟨La,h⟩
                    ·obtain rfl:=ak h;try refine ah ?_
                     exact(dK (.cons (.pure _ (.int _ _)) (.cons (.pure _ (.int _ _)) (.cons (.pure _ (.int _ _)) (.cons (.pure _ (.int _ _)) (.cons (.pure _ (.bool _)) (.cons (.pure _ (.bool _)) .nil)))))))
                    ·rcases au h with⟨ah4,h⟩|⟨ah4,h⟩
                     ·obtain rfl:=ak h;try refine ah ?_
                      exact(dK (.cons (.pure _ (.int _ _)) (.cons (.pure _ (.int _ _)) (.cons (.pure _ (.int _ _)) (.cons (.pure _ (.int _ _)) (.cons (.pure _ (.bool _)) (.cons (.pure _ (.bool _)) .nil)))))))
                     ·rcases au h with⟨EW,h⟩|⟨EW,h⟩
                      ·obtain rfl:=ak h;try refine ah ?_
                       exact(dK (.cons (.pure _ (.int _ _)) (.cons (.pure _ (.int _ _)) (.cons (.pure _ (.int _ _)) (.cons (.pure _ (.int _ _)) (.cons (.pure _ (.bool _)) (.cons (.pure _ (.bool _)) .nil)))))))
                      ·rcases au h with⟨e108,h⟩|⟨e108,h⟩
                       ·obtain rfl:=ak h;try refine ah ?_
                        exact(dK (.cons (.pure _ (.int _ _)) (.cons (.pure _ (.int _ _)) (.cons (.pure _ (.int _ _)) (.cons (.pure _ (.int _ _)) (.cons (.pure _ (.bool _)) (.cons (.pure _ (.bool _)) .nil)))))))
                       ·obtain⟨aqJ,e109,h⟩:=aj h;try refine ah ?_
                        refine aA (Dm e109) ?_;obtain rfl:=ak h;try refine ah ?_
                        exact(dK (.cons (.pure _ (.int _ _)) (.cons (.pure _ (.int _ _)) (.cons (.pure _ (.int _ _)) (.cons (.pure _ (.int _ _)) (.cons (.pure _ (.bool _)) (.cons (.pure _ (.bool _)) .nil)))))))
def oJ:Nat->(List Nd)->(List Int)->(List Int)->Int->Option (Unit⊕Bool)
  |0,_,_,_,_=>none
  |k+1,aH,wu,lS,Gt=>
    if 0<=Gt then Option.bind (wu[Gt.toNat]?) fun Wq=>cond (Wq !=(-1)) (if 0<=Wq then Option.bind (aH[Wq.toNat]?) fun x20=>cond (x20.kind==19) (Option.bind (lS[Gt.toNat]?) fun x23=>cond (x23==2) (some (.inr (false))) (oJ k aH wu lS Wq)) (oJ k aH wu lS Wq)else none) (some (.inl ()))else none
def E5:List Nat:=[8,11]++List.range' 51 25
theorem XM: ∀(k:Nat) (aH:List Nd) (wu:List Int) (lS:List Int) (Gt:Int) (aC σ:Nat->PV) (H:AH) (f0:Fr E5 aC σ) (sl:σ 0=(.aB (aH.map Nd.cells) .unk)/\σ 2=(.aB (wu.map aY) .unk)/\σ 3=(.aB (lS.map aY) .unk)/\σ 11=(.int .i64 Gt)) (o:Unit⊕Bool) (h:oJ k aH wu lS Gt=some o) (Q:Post) (q0: ∀(p:Unit) (σ':Nat->PV),o= .inl p->Fr E5 aC σ'->Q (.exit 1) σ' H) (q1: ∀(p:Bool) (σ':Nat->PV),o= .inr (p)->Fr E5 aC σ'->(σ' 8=(.bool p))->Q .ret σ' H),W Tryz.prog (.loop Ti) Q σ H:=by
  intro k
  induction k with
  |zero=>intro aH wu lS Gt aC σ H f0 sl o h Q q0 q1;simp only [oJ,reduceCtorEq]at h
  |succ k ih=>
    intro aH wu lS Gt aC σ H f0 sl o h Q q0 q1;obtain⟨s0,s2,s3,s11⟩:=sl;unfold oJ at h;refine aU (fun K hK=>aD ?_);unfold Ti;obtain⟨e15,h⟩:=aQ h;obtain⟨Wq,e17,h⟩:=aj h;rcases au h with⟨e18,h⟩|⟨e18,h⟩
    ·obtain⟨e19,h⟩:=aQ h;obtain⟨x20,e21,h⟩:=aj h;rcases au h with⟨e22,h⟩|⟨e22,h⟩
     ·obtain⟨x23,e24,h⟩:=aj h;rcases au h with⟨e25,h⟩|⟨e25,h⟩
      ·obtain rfl:=ak h;try refine ah ?_
       exact q1 _ _ rfl aJ av
      ·try refine ah ?_
       refine hK _ _ ?_;exact ih aH wu lS Wq _ _ _ aJ av _ h _ q0 q1
     ·try refine ah ?_
      refine hK _ _ ?_;exact ih aH wu lS Wq _ _ _ aJ av _ h _ q0 q1
    ·obtain rfl:=ak h;try refine ah ?_
     exact q0 _ _ rfl aJ
def E8 (k:Nat) (aH:List Nd) (dD:Int) (wu:List Int) (lS:List Int):Option Bool:=
  if 0<=dD then Option.bind (aH[dD.toNat]?) fun x2=>cond (x2.kind==24) (Option.bind (wu[dD.toNat]?) fun x5=>cond (x5==(-1)) (some true) (if 0<=x5 then Option.bind (aH[x5.toNat]?) fun x9=>cond (x9.kind !=3) (some true) (Option.bind (ku k x9.text) fun uY=>some uY.2)else none)) (cond (x2.kind==20) (Option.bind (oJ k aH wu lS dD) (fun o=>Sum.elim (fun p28=>some true) (fun p32=>some p32) o)) (some false))else none
theorem aem {k:Nat} {aH:List Nd} {dD:Int} {wu:List Int} {lS:List Int} {c0 c2 c3:Ck} {r:Bool} (h:E8 k aH dD wu lS=some r):aF Tryz.prog 51 [(.aB (aH.map Nd.cells) c0),(.int .i64 dD),(.aB (wu.map aY) c2),(.aB (lS.map aY) c3)] (.bool r):=by
  refine aF.lw (.aB (.same (.aB (.aB .nil)))) (aF.aP (bg.mem (.cons (aV Nd.pu _) (.cons (.int _ _) (.cons (aV fO _) (.cons (aV fO _) .nil))))) (aG avM (by simp) (aD ?_)) (.bool _));unfold E8 at h;unfold aoy;obtain⟨e1,h⟩:=aQ h;obtain⟨x2,e3,h⟩:=aj h;rcases au h with⟨e4,h⟩|⟨e4,h⟩
  ·obtain⟨x5,e6,h⟩:=aj h;rcases au h with⟨e7,h⟩|⟨e7,h⟩
   ·obtain rfl:=ak h;try refine ah ?_
    exact(.pure _ (.bool _))
   ·obtain⟨e8,h⟩:=aQ h;obtain⟨x9,e10,h⟩:=aj h;rcases au h with⟨e11,h⟩|⟨e11,h⟩
    ·obtain rfl:=ak h;try refine ah ?_
     exact(.pure _ (.bool _))
    ·obtain⟨uY,e12,h⟩:=aj h;try refine ah ?_
     refine aA (oZ e12) ?_;obtain rfl:=ak h;try refine ah ?_
     exact(.pure _ (.bool _))
  ·rcases au h with⟨e14,h⟩|⟨e14,h⟩
   ·try refine ah ?_
    obtain⟨o26,h27,h⟩:=aj h;refine XM k aH wu lS dD _ _ _ (Fr.refl _ _) av _ h27 _ ?_ ?_
    ·rintro p28 σ' eo Ph;subst eo;rw [bL]at h;obtain rfl:=ak h;try refine ah ?_
     exact(.pure _ (.bool _))
    ·rintro p32 σ' eo uR s36;subst eo;rw [bP]at h;obtain rfl:=ak h;try refine ah ?_
     exact(.pure _ (.bool _))
   ·obtain rfl:=ak h;try refine ah ?_
    exact(.pure _ (.bool _))
def wz (k:Nat) (s_0:Str):Option Bool:=
  Option.bind (tH k s_0) fun p2=>some (!p2)
theorem Vf {k:Nat} {s_0:Str} {r:Bool} (h:wz k s_0=some r):aF Tryz.prog 145 [(.str s_0)] (.bool r):=by
  refine aF.aP (bg.mem (.cons (.str _) .nil)) (aG as2 (by simp) (aD ?_)) (.bool _);unfold wz at h;unfold akh;obtain⟨p2,e1,h⟩:=aj h;try refine ah ?_
  refine aA (Ag e1) ?_;obtain rfl:=ak h;try refine ah ?_
  exact(.pure _ (.bool _))
def bJ:Nat->(List Str)->Int->Int->Option (Unit⊕Int)
  |0,_,_,_=>none
  |k+1,s_0,jS,gQ=>
    cond (decide (gQ<jS)) (if 0<=gQ then Option.bind (s_0[gQ.toNat]?) fun x3=>Option.bind (wz k x3) fun p6=>cond p6 (some (.inr (gQ))) (bJ k s_0 jS (IntKind.wrap .i64 (gQ+1)))else none) (some (.inl ()))
def jM:List Nat:=[4,5]++List.range' 8 11
theorem wB: ∀(k:Nat) (s_0:List Str) (jS:Int) (gQ:Int) (aC σ:Nat->PV) (H:AH) (f0:Fr jM aC σ) (sl:σ 0=(.aB (s_0.map aI) .unk)/\σ 1=(.fn (.func 145) [] [])/\σ 7=(.int .i64 jS)/\σ 8=(.int .i64 gQ)) (o:Unit⊕Int) (h:bJ k s_0 jS gQ=some o) (Q:Post) (q0: ∀(p:Unit) (σ':Nat->PV),o= .inl p->Fr jM aC σ'->Q (.exit 0) σ' H) (q1: ∀(p:Int) (σ':Nat->PV),o= .inr (p)->Fr jM aC σ'->(σ' 4=(.int .i64 p))->Q .ret σ' H),W Tryz.prog (.loop Pf) Q σ H:=by
  intro k
  induction k with
  |zero=>intro s_0 jS gQ aC σ H f0 sl o h Q q0 q1;simp only [bJ,reduceCtorEq]at h
  |succ k ih=>
    intro s_0 jS gQ aC σ H f0 sl o h Q q0 q1;obtain⟨s0,s1,s7,s8⟩:=sl;unfold bJ at h;refine aU (fun K hK=>aD ?_);unfold Pf;rcases au h with⟨e1,h⟩|⟨e1,h⟩
    ·obtain⟨e2,h⟩:=aQ h;obtain⟨x3,e4,h⟩:=aj h;obtain⟨p6,e5,h⟩:=aj h;try refine ah ?_
     refine aA (Vf e5) ?_;rcases au h with⟨e7,h⟩|⟨e7,h⟩
     ·obtain rfl:=ak h;try refine ah ?_
      exact q1 _ _ rfl aJ av
     ·try refine ah ?_
      refine hK _ _ ?_;exact ih s_0 jS (IntKind.wrap .i64 (gQ+1)) _ _ _ aJ av _ h _ q0 q1
    ·obtain rfl:=ak h;try refine ah ?_
     exact q0 _ _ rfl aJ
def gG (k:Nat) (s_0:List Str):Option Int:=
  Option.bind (bJ k s_0 (s_0.length:Int) 0) (fun o=>Sum.elim (fun iT=>some (-1)) (fun jO=>some jO) o)
theorem xY {k:Nat} {s_0:List Str} {c0:Ck} {r:Int} (h:gG k s_0=some r):aF Tryz.prog 186 [(.aB (s_0.map aI) c0),(.fn (.func 145) [] [])] (.int .i64 r):=by
  refine aF.lw (.aB (.same .nil)) (aF.aP (bg.mem (.cons (aV bn _) (.cons (.fn _ _ _ (bg.mem .nil) (bg.mem .nil)) .nil))) (aG atf (by simp) (aD ?_)) (.int _ _));unfold gG at h;unfold akw;try refine ah ?_
  obtain⟨o8,h9,h⟩:=aj h;refine wB k s_0 (s_0.length:Int) 0 _ _ _ (Fr.refl _ _) av _ h9 _ ?_ ?_
  ·rintro iT σ' eo KY;subst eo;rw [bL]at h;obtain rfl:=ak h;try refine ah ?_
   exact(.pure _ (.int _ _))
  ·rintro jO σ' eo xE jE;subst eo;rw [bP]at h;obtain rfl:=ak h;try refine ah ?_
   exact(.pure _ (.int _ _))
def fJ (k:Nat) (s_0:List Str):Option Bool:=
  Option.bind (gG k s_0) fun p2=>some (decide (p2>=0))
theorem wC {k:Nat} {s_0:List Str} {c0:Ck} {r:Bool} (h:fJ k s_0=some r):aF Tryz.prog 144 [(.aB (s_0.map aI) c0),(.fn (.func 145) [] [])] (.bool r):=by
  refine aF.lw (.aB (.same .nil)) (aF.aP (bg.mem (.cons (aV bn _) (.cons (.fn _ _ _ (bg.mem .nil) (bg.mem .nil)) .nil))) (aG as1 (by simp) (aD ?_)) (.bool _));unfold fJ at h;unfold akg;obtain⟨p2,e1,h⟩:=aj h;try refine ah ?_
  refine aA (xY e1) ?_;obtain rfl:=ak h;try refine ah ?_
  exact(.pure _ (.bool _))
def yC (k:Nat) (eF:Int) (fu:Int) (eu:Str) (eP:List Str) (eX:List Int) (tF:Bool):Option Bool:=
  cond tF (some (true)) (Option.bind (CP eu) fun p8=>cond p8 (some (false)) (Option.bind (wO k eu) fun nJ=>some ((!nJ))))
def IB:List Nat:=List.range' 25 11
theorem QV (k:Nat): ∀(fA:Nat) (eF:Int) (fu:Int) (eu:Str) (eP:List Str) (eX:List Int) (tF:Bool) (aC σ:Nat->PV) (H:AH) (f0:Fr IB aC σ) (sl:σ 1=(.ref (fA) 0)/\σ 24=(.bool tF)/\H.obj fA=some [(.int .i64 eF),(.int .i64 fu),(.str eu),(.aB (eP.map aI) .unk),(.aB (eX.map aY) .unk)]) (gW:fA<H.next) (o:Bool) (h:yC k eF fu eu eP eX tF=some o) (Q:Post) (q0: ∀(p:Bool) (σ':Nat->PV),o=p->Fr IB aC σ'->(σ' 35=(.bool p))->Q .normal σ' H),dz Tryz.prog Uk (Q .normal) σ H:=by
  intro fA eF fu eu eP eX tF aC σ H f0 sl gW o h Q q0;obtain⟨s1,s24,IC⟩:=sl;have IE:=ne_next gW;have IG:=aW gW;unfold yC at h;refine eD ?_;unfold Uk;rcases au h with⟨e6,h⟩|⟨e6,h⟩
  ·obtain rfl:=ak h;try refine ah ?_
   exact q0 _ _ rfl aJ av
  ·obtain⟨p8,e7,h⟩:=aj h;try refine ah ?_
   refine aA (NU e7) ?_;rcases au h with⟨e9,h⟩|⟨e9,h⟩
   ·obtain rfl:=ak h;try refine ah ?_
    exact q0 _ _ rfl aJ av
   ·obtain⟨nJ,e10,h⟩:=aj h;try refine ah ?_
    refine aA (LA e10) ?_;obtain rfl:=ak h;try refine ah ?_
    exact q0 _ _ rfl aJ av
def yD (k:Nat) (eF:Int) (fu:Int) (eu:Str) (eP:List Str) (eX:List Int) (iQ:Bool) (ZV:Bool):Option Bool:=
  cond ZV (some (true)) (cond iQ (some (false)) (Option.bind (wO k eu) fun p25=>some ((!p25))))
def II:List Nat:=List.range' 40 9
theorem QW (k:Nat): ∀(fA:Nat) (eF:Int) (fu:Int) (eu:Str) (eP:List Str) (eX:List Int) (iQ:Bool) (ZV:Bool) (aC σ:Nat->PV) (H:AH) (f0:Fr II aC σ) (sl:σ 1=(.ref (fA) 0)/\σ 5=(.bool iQ)/\σ 39=(.bool ZV)/\H.obj fA=some [(.int .i64 eF),(.int .i64 fu),(.str eu),(.aB (eP.map aI) .unk),(.aB (eX.map aY) .unk)]) (gW:fA<H.next) (o:Bool) (h:yD k eF fu eu eP eX iQ ZV=some o) (Q:Post) (q0: ∀(p:Bool) (σ':Nat->PV),o=p->Fr II aC σ'->(σ' 48=(.bool p))->Q .normal σ' H),dz Tryz.prog Ul (Q .normal) σ H:=by
  intro fA eF fu eu eP eX iQ ZV aC σ H f0 sl gW o h Q q0;obtain⟨s1,s5,s39,IC⟩:=sl;have IE:=ne_next gW;have IG:=aW gW;unfold yD at h;refine eD ?_;unfold Ul;rcases au h with⟨e22,h⟩|⟨e22,h⟩
  ·obtain rfl:=ak h;try refine ah ?_
   exact q0 _ _ rfl aJ av
  ·rcases au h with⟨e23,h⟩|⟨e23,h⟩
   ·obtain rfl:=ak h;try refine ah ?_
    exact q0 _ _ rfl aJ av
   ·obtain⟨p25,e24,h⟩:=aj h;try refine ah ?_
    refine aA (LA e24) ?_;obtain rfl:=ak h;try refine ah ?_
    exact q0 _ _ rfl aJ av
def yE (eF:Int) (fu:Int) (eu:Str) (eP:List Str) (eX:List Int) (Ap:Str) (Aq:Int) (Ar:Int) (Au:Int) (Av:Bool) (yF:Int) (yG:Int) (ZW:Bool):Option Bool:=
  cond ZW (Option.bind (gJ (eX.length:Int) yF yG) fun p38=>some ((!p38))) (some (false))
def IJ:List Nat:=List.range' 51 10
theorem QX: ∀(fA:Nat) (wT:Nat) (eF:Int) (fu:Int) (eu:Str) (eP:List Str) (eX:List Int) (Ap:Str) (Aq:Int) (Ar:Int) (Au:Int) (Av:Bool) (yF:Int) (yG:Int) (ZW:Bool) (aC σ:Nat->PV) (H:AH) (f0:Fr IJ aC σ) (sl:σ 1=(.ref (fA) 0)/\σ 4=(.ref (wT) 0)/\σ 50=(.bool ZW)/\H.obj fA=some [(.int .i64 eF),(.int .i64 fu),(.str eu),(.aB (eP.map aI) .unk),(.aB (eX.map aY) .unk)]/\H.obj wT=some [(.str Ap),(.int .i64 Aq),(.int .i64 Ar),(.int .i64 Au),(.bool Av),(.int .i64 yF),(.int .i64 yG)]) (gW:fA<H.next) (BJ:wT<H.next) (nO:fA≠wT) (o:Bool) (h:yE eF fu eu eP eX Ap Aq Ar Au Av yF yG ZW=some o) (Q:Post) (q0: ∀(p:Bool) (σ':Nat->PV),o=p->Fr IJ aC σ'->(σ' 60=(.bool p))->Q .normal σ' H),dz Tryz.prog Um (Q .normal) σ H:=by
  intro fA wT eF fu eu eP eX Ap Aq Ar Au Av yF yG ZW aC σ H f0 sl gW BJ nO o h Q q0;obtain⟨s1,s4,s50,IC,amq⟩:=sl;have IE:=ne_next gW;have IG:=aW gW;have amr:=ne_next BJ;have ams:=aW BJ;have XO:=eq_false nO;have XP:=eq_false (Ne.symm nO);unfold yE at h;refine eD ?_;unfold Um;rcases au h with⟨e36,h⟩|⟨e36,h⟩
  ·obtain⟨p38,e37,h⟩:=aj h;try refine ah ?_
   refine aA (gL e37) ?_;obtain rfl:=ak h;try refine ah ?_
   exact q0 _ _ rfl aJ av
  ·obtain rfl:=ak h;try refine ah ?_
   exact q0 _ _ rfl aJ av
def yH (k:Nat) (eF:Int) (fu:Int) (eu:Str) (eP:List Str) (eX:List Int) (ZX:Bool):Option Bool:=
  cond ZX (some (true)) (Option.bind (tH k eu) fun p51=>some ((!p51)))
def IK:List Nat:=[65,66,67,68,69]
theorem QY (k:Nat): ∀(fA:Nat) (eF:Int) (fu:Int) (eu:Str) (eP:List Str) (eX:List Int) (ZX:Bool) (aC σ:Nat->PV) (H:AH) (f0:Fr IK aC σ) (sl:σ 1=(.ref (fA) 0)/\σ 64=(.bool ZX)/\H.obj fA=some [(.int .i64 eF),(.int .i64 fu),(.str eu),(.aB (eP.map aI) .unk),(.aB (eX.map aY) .unk)]) (gW:fA<H.next) (o:Bool) (h:yH k eF fu eu eP eX ZX=some o) (Q:Post) (q0: ∀(p:Bool) (σ':Nat->PV),o=p->Fr IK aC σ'->(σ' 69=(.bool p))->Q .normal σ' H),dz Tryz.prog Un (Q .normal) σ H:=by
  intro fA eF fu eu eP eX ZX aC σ H f0 sl gW o h Q q0;obtain⟨s1,s64,IC⟩:=sl;have IE:=ne_next gW;have IG:=aW gW;unfold yH at h;refine eD ?_;unfold Un;rcases au h with⟨e49,h⟩|⟨e49,h⟩
  ·obtain rfl:=ak h;try refine ah ?_
   exact q0 _ _ rfl aJ av
  ·obtain⟨p51,e50,h⟩:=aj h;try refine ah ?_
   refine aA (Ag e50) ?_;obtain rfl:=ak h;try refine ah ?_
   exact q0 _ _ rfl aJ av
def yI (k:Nat) (eF:Int) (fu:Int) (eu:Str) (eP:List Str) (eX:List Int) (Aw:Bool) (Ap:Str) (Aq:Int) (Ar:Int) (Au:Int) (Av:Bool) (yF:Int) (yG:Int) (iQ:Bool):Option ((Bool×Bool)):=
  cond (eF==2) (Option.bind (yC k eF fu eu eP eX Aw) (fun jO=>some ((jO,false)))) (cond (eF==3) (Option.bind (yD k eF fu eu eP eX iQ Aw) (fun p28=>Option.bind (yE eF fu eu eP eX Ap Aq Ar Au Av yF yG iQ) (fun p41=>some ((p28,p41))))) (cond (eF==18) (Option.bind (yH k eF fu eu eP eX Aw) (fun p54=>some ((p54,false)))) (some ((Aw,false)))))
def IL:List Nat:=[3,6]++List.range' 19 51
theorem QZ (k:Nat): ∀(fA:Nat) (wT:Nat) (eF:Int) (fu:Int) (eu:Str) (eP:List Str) (eX:List Int) (Aw:Bool) (Ap:Str) (Aq:Int) (Ar:Int) (Au:Int) (Av:Bool) (yF:Int) (yG:Int) (iQ:Bool) (aC σ:Nat->PV) (H:AH) (f0:Fr IL aC σ) (sl:σ 1=(.ref (fA) 0)/\σ 3=(.bool Aw)/\σ 4=(.ref (wT) 0)/\σ 5=(.bool iQ)/\σ 6=(.bool false)/\H.obj fA=some [(.int .i64 eF),(.int .i64 fu),(.str eu),(.aB (eP.map aI) .unk),(.aB (eX.map aY) .unk)]/\H.obj wT=some [(.str Ap),(.int .i64 Aq),(.int .i64 Ar),(.int .i64 Au),(.bool Av),(.int .i64 yF),(.int .i64 yG)]) (gW:fA<H.next) (BJ:wT<H.next) (nO:fA≠wT) (o:(Bool×Bool)) (h:yI k eF fu eu eP eX Aw Ap Aq Ar Au Av yF yG iQ=some o) (Q:Post) (q0: ∀(p:Bool×Bool) (σ':Nat->PV),o=p->Fr IL aC σ'->(σ' 3=(.bool p.1)/\σ' 6=(.bool p.2))->Q .normal σ' H),W Tryz.prog Uo Q σ H:=by
  intro fA wT eF fu eu eP eX Aw Ap Aq Ar Au Av yF yG iQ aC σ H f0 sl gW BJ nO o h Q q0;obtain⟨s1,s3,s4,s5,s6,IC,amq⟩:=sl;have IE:=ne_next gW;have IG:=aW gW;have amr:=ne_next BJ;have ams:=aW BJ;have XO:=eq_false nO;have XP:=eq_false (Ne.symm nO);unfold yI at h;refine aD ?_;unfold Uo;rcases au h with⟨e5,h⟩|⟨e5,h⟩
  ·try refine ah ?_
   obtain⟨o12,K8,h⟩:=aj h;refine QV k (fA) eF fu eu eP eX Aw _ _ _ (Fr.refl _ _) av bS _ K8 _ ?_
   ·rintro jO σ' eo xE jE;rw [eo]at h;have pI:σ' 1=(.ref (fA) 0):=(xE 1 (by decide)).trans av;have s20:σ' 6=(.bool false):=(xE 6 (by decide)).trans av;obtain rfl:=ak h;try refine ah ?_
    exact q0 _ _ rfl (by repeat (first|exact f0|refine Fr.upd (by decide) ?_|refine Fr.via xE (by decide) ?_)) av
  ·rcases au h with⟨e21,h⟩|⟨e21,h⟩
   ·try refine ah ?_
    obtain⟨o26,h27,h⟩:=aj h;refine QW k (fA) eF fu eu eP eX iQ Aw _ _ _ (Fr.refl _ _) av bS _ h27 _ ?_
    ·rintro p28 σ' eo Ph s32;rw [eo]at h;have s33:σ' 1=(.ref (fA) 0):=(Ph 1 (by decide)).trans av;have s34:σ' 4=(.ref (wT) 0):=(Ph 4 (by decide)).trans av;have s35:σ' 5=(.bool iQ):=(Ph 5 (by decide)).trans av;try refine ah ?_
     obtain⟨o39,h40,h⟩:=aj h;refine QX (fA) (wT) eF fu eu eP eX Ap Aq Ar Au Av yF yG iQ _ _ _ (Fr.refl _ _) av bS bS bS _ h40 _ ?_
     ·rintro p41 σ' eo Dk s45;rw [eo]at h;have s46:σ' 1=(.ref (fA) 0):=(Dk 1 (by decide)).trans av;have s47:σ' 3=(.bool p28):=(Dk 3 (by decide)).trans av;obtain rfl:=ak h;try refine ah ?_
      exact q0 _ _ rfl (by repeat (first|exact f0|refine Fr.upd (by decide) ?_|refine Fr.via Ph (by decide) ?_|refine Fr.via Dk (by decide) ?_)) av
   ·rcases au h with⟨e48,h⟩|⟨e48,h⟩
    ·try refine ah ?_
     obtain⟨o52,h53,h⟩:=aj h;refine QY k (fA) eF fu eu eP eX Aw _ _ _ (Fr.refl _ _) av bS _ h53 _ ?_
     ·rintro p54 σ' eo aeg s58;rw [eo]at h;have s59:σ' 1=(.ref (fA) 0):=(aeg 1 (by decide)).trans av;have s60:σ' 6=(.bool false):=(aeg 6 (by decide)).trans av;obtain rfl:=ak h;try refine ah ?_
      exact q0 _ _ rfl (by repeat (first|exact f0|refine Fr.upd (by decide) ?_|refine Fr.via aeg (by decide) ?_)) av
    ·obtain rfl:=ak h;try refine ah ?_
     exact q0 _ _ rfl aJ av
def iV:Nat->Int->Int->Str->(List Str)->(List Int)->Bool->(List Str)->Int->Int->Option Bool
  |0,_,_,_,_,_,_,_,_,_=>none
  |k+1,eF,fu,eu,eP,eX,BK,Hq,Hr,q8=>
    cond (decide (q8<Hr)) (if 0<=q8 then Option.bind (Hq[q8.toNat]?) fun x72=>cond BK (iV k eF fu eu eP eX true Hq Hr (IntKind.wrap .i64 (q8+1))) (if 0<=q8/\q8.toNat<=eP.length then Option.bind (cB k (eP.take q8.toNat) x72) fun p77=>iV k eF fu eu eP eX p77 Hq Hr (IntKind.wrap .i64 (q8+1))else none)else none) (some (BK))
def IQ:List Nat:=[7,8,9]++List.range' 73 15
theorem Q0: ∀(k:Nat) (fA:Nat) (eF:Int) (fu:Int) (eu:Str) (eP:List Str) (eX:List Int) (BK:Bool) (Hq:List Str) (Hr:Int) (q8:Int) (aC σ:Nat->PV) (H:AH) (f0:Fr IQ aC σ) (sl:σ 1=(.ref (fA) 0)/\σ 7=(.bool BK)/\σ 71=(.aB (Hq.map aI) .unk)/\σ 72=(.int .i64 Hr)/\σ 73=(.int .i64 q8)/\H.obj fA=some [(.int .i64 eF),(.int .i64 fu),(.str eu),(.aB (eP.map aI) .unk),(.aB (eX.map aY) .unk)]) (gW:fA<H.next) (o:Bool) (h:iV k eF fu eu eP eX BK Hq Hr q8=some o) (Q:Post) (q0: ∀(p:Bool) (σ':Nat->PV),o=p->Fr IQ aC σ'->(σ' 7=(.bool p))->Q (.exit 1) σ' H),W Tryz.prog (.loop Uq) Q σ H:=by
  intro k
  induction k with
  |zero=>intro fA eF fu eu eP eX BK Hq Hr q8 aC σ H f0 sl gW o h Q q0;simp only [iV,reduceCtorEq]at h
  |succ k ih=>
    intro fA eF fu eu eP eX BK Hq Hr q8 aC σ H f0 sl gW o h Q q0;obtain⟨s1,s7,s71,s72,s73,IC⟩:=sl;have IE:=ne_next gW;have IG:=aW gW;unfold iV at h;refine aU (fun K hK=>aD ?_);unfold Uq;rcases au h with⟨e70,h⟩|⟨e70,h⟩
    ·obtain⟨e71,h⟩:=aQ h;obtain⟨x72,QB,h⟩:=aj h;rcases au h with⟨e74,h⟩|⟨e74,h⟩
     ·try refine ah ?_
      refine hK _ _ ?_;exact ih fA eF fu eu eP eX true Hq Hr (IntKind.wrap .i64 (q8+1)) _ _ _ aJ av bS _ h _ q0
     ·obtain⟨Qv,h⟩:=aQ h;obtain⟨p77,V9,h⟩:=aj h;try refine ah ?_
      refine aA (kI V9) ?_;try refine ah ?_
      refine hK _ _ ?_;exact ih fA eF fu eu eP eX p77 Hq Hr (IntKind.wrap .i64 (q8+1)) _ _ _ aJ av bS _ h _ q0
    ·obtain rfl:=ak h;try refine ah ?_
     exact q0 _ _ rfl aJ av
def om (k:Nat) (aZ:Nd):Option Int:=
  Option.bind (fJ k aZ.names) fun p2=>Option.bind (ku k aZ.text) fun p4=>Option.bind (yI k aZ.kind aZ.n aZ.text aZ.names aZ.args p2 p4.1.text p4.1.fix p4.1.low p4.1.high p4.1.left p4.1.least p4.1.most p4.2) (fun p63=>Option.bind (iV k aZ.kind aZ.n aZ.text aZ.names aZ.args false aZ.names (aZ.names.length:Int) 0) (fun xw=>Option.bind (mq p63.1 7) fun p88=>Option.bind (mq p63.2 17) fun p90=>Option.bind (mq xw 12) fun ZY=>Option.bind (gK k [p88,p90,ZY]) fun Wh=>some Wh))
theorem Ay {k:Nat} {aZ:Nd} {r:Int} (h:om k aZ=some r):aF Tryz.prog 93 [(.agg (Nd.cells aZ))] (.int .i64 r):=by
  refine aF.aP (bg.mem (.cons (.agg _ (Nd.pu _)) .nil)) (aG awf (by simp) (aD ?_)) (.int _ _);unfold om at h;unfold ao7;obtain⟨p2,e1,h⟩:=aj h;try refine ah ?_
  refine aA (wC e1) ?_;obtain⟨p4,e3,h⟩:=aj h;try refine ah ?_
  refine aA (oZ e3) ?_;try refine ah ?_
  obtain⟨o61,h62,h⟩:=aj h;refine QZ k (AH.empty.next) (AH.empty.next+1) aZ.kind aZ.n aZ.text aZ.names aZ.args p2 p4.1.text p4.1.fix p4.1.low p4.1.high p4.1.left p4.1.least p4.1.most p4.2 _ _ _ (Fr.refl _ _) av bS bS bS _ h62 _ ?_
  ·rintro p63 σ' eo G9 ⟨s67,s68⟩;rw [eo]at h;have s69:σ' 1=(.ref (AH.empty.next) 0):=(G9 1 (by decide)).trans av;try refine ah ?_
   obtain⟨o78,h79,h⟩:=aj h;refine Q0 k (AH.empty.next) aZ.kind aZ.n aZ.text aZ.names aZ.args false aZ.names (aZ.names.length:Int) 0 _ _ _ (Fr.refl _ _) av bS _ h79 _ ?_
   ·rintro xw σ' eo JB s84;rw [eo]at h;have s85:σ' 3=(.bool p63.1):=(JB 3 (by decide)).trans av;have s86:σ' 6=(.bool p63.2):=(JB 6 (by decide)).trans av;obtain⟨p88,e87,h⟩:=aj h;try refine ah ?_
    refine aA (lV e87) ?_;obtain⟨p90,Qy,h⟩:=aj h;try refine ah ?_
    refine aA (lV Qy) ?_;obtain⟨ZY,Qz,h⟩:=aj h;try refine ah ?_
    refine aA (lV Qz) ?_;obtain⟨Wh,QC,h⟩:=aj h;try refine ah ?_
    refine aA (kM QC) ?_;obtain rfl:=ak h;try refine ah ?_
    exact(.pure _ (.int _ _))
def Az (nK:Int) (jV:Int) (mQ:Str) (rE:List Str) (lZ:List Int) (DW:Int) (DX:Int) (Cm:Int) (Co:Int) (DY:Bool) (AA:Bool) (Z0:Bool):Option Bool:=
  cond Z0 (some (true)) (Option.bind (gJ (lZ.length:Int) Cm Co) fun uY=>some ((!uY)))
def Ka:List Nat:=List.range' 37 12
theorem Vg: ∀(jN:Nat) (AB:Nat) (nK:Int) (jV:Int) (mQ:Str) (rE:List Str) (lZ:List Int) (DW:Int) (DX:Int) (Cm:Int) (Co:Int) (DY:Bool) (AA:Bool) (Z0:Bool) (aC σ:Nat->PV) (H:AH) (f0:Fr Ka aC σ) (sl:σ 7=(.ref (jN) 0)/\σ 8=(.ref (AB) 0)/\σ 36=(.bool Z0)/\H.obj jN=some [(.int .i64 nK),(.int .i64 jV),(.str mQ),(.aB (rE.map aI) .unk),(.aB (lZ.map aY) .unk)]/\H.obj AB=some [(.int .i64 DW),(.int .i64 DX),(.int .i64 Cm),(.int .i64 Co),(.bool DY),(.bool AA)]) (rY:jN<H.next) (BL:AB<H.next) (nP:jN≠AB) (o:Bool) (h:Az nK jV mQ rE lZ DW DX Cm Co DY AA Z0=some o) (Q:Post) (q0: ∀(p:Bool) (σ':Nat->PV),o=p->Fr Ka aC σ'->(σ' 48=(.bool p))->Q .normal σ' H),dz Tryz.prog Tc (Q .normal) σ H:=by
  intro jN AB nK jV mQ rE lZ DW DX Cm Co DY AA Z0 aC σ H f0 sl rY BL nP o h Q q0;obtain⟨s7,s8,s36,acS,amt⟩:=sl;have acT:=ne_next rY;have acU:=aW rY;have amu:=ne_next BL;have amv:=aW BL;have XQ:=eq_false nP;have XR:=eq_false (Ne.symm nP);unfold Az at h;refine eD ?_;unfold Tc;rcases au h with⟨e11,h⟩|⟨e11,h⟩
  ·obtain rfl:=ak h;try refine ah ?_
   exact q0 _ _ rfl aJ av
  ·obtain⟨uY,e12,h⟩:=aj h;try refine ah ?_
   refine aA (gL e12) ?_;obtain rfl:=ak h;try refine ah ?_
   exact q0 _ _ rfl aJ av
def nA:Nat->(List Int)->Int->Bool->(List Int)->Option ((Int×Bool)⊕(Int×Bool))
  |0,iB,jB,eT,nQ=>some (.inr ((jB,eT)))
  |m+1,iB,jB,eT,nQ=>
    Option.bind (nQ[m]?) fun x27=>cond (x27 !=jB) (some (.inl (jB,false))) (cond (decide (jB<0)) (some (.inl (jB,false))) (if 0<=jB then Option.bind (iB[jB.toNat]?) fun x31=>nA m iB (IntKind.wrap .i64 (x31 -1)) eT nQ else none))
theorem Vh: ∀(m:Nat) (fU:Nat) (gu:Nat) (bB:Nat) (q9:Nat) (iB:List Int) (jB:Int) (eT:Bool) (nQ:List Int) (aC σ:Nat->PV) (H0 H:AH) (f0:Fr [] aC σ) (hf0:HF [gu,bB] H0 H) (sl:σ 5=(.ref (fU) 0)/\σ 9=(.ref (gu) 0)/\σ 10=(.ref (bB) 0)/\σ 53=(.fn (.func 141) [] [(.ref (q9) 0)])/\H.obj fU=some [(.aB (iB.map aY) .unk)]/\H.obj gu=some [(.int .i64 jB)]/\H.obj bB=some [(.bool eT)]/\H.obj q9=some [(.aB (nQ.map aY) .unk)]) (kC:fU<H.next) (oK:gu<H.next) (iL:bB<H.next) (wU:q9<H.next) (eY:fU≠gu) (cK:fU≠bB) (jC:fU≠q9) (dP:gu≠bB) (kX:gu≠q9) (iJ:bB≠q9) (o:(Int×Bool)⊕(Int×Bool)) (h:nA m iB jB eT nQ=some o) (Q:Post) (q0: ∀(p:Int×Bool) (σ':Nat->PV) (H':AH),o= .inl p->Fr [] aC σ'->HF [gu,bB] H0 H'->(H'.obj gu=some [(.int .i64 p.1)]/\H'.obj bB=some [(.bool p.2)])->Q (.exit 0) σ' H') (q1: ∀(p:Int×Bool) (σ':Nat->PV) (H':AH),o= .inr (p)->Fr [] aC σ'->HF [gu,bB] H0 H'->(H'.obj gu=some [(.int .i64 p.1)]/\H'.obj bB=some [(.bool p.2)])->Q .normal σ' H'),DF (fun Q' σ' H'=>W Tryz.prog OA (F6 (fun vE iw=>W Tryz.prog OB Q' vE iw)) σ' H') Q σ q9 [(.aB (nQ.map aY) .unk)] 54 55 ((nQ.map aY).map (BX false)) m H:=by
  intro m
  induction m with
  |zero=>
    intro fU gu bB q9 iB jB eT nQ aC σ H0 H f0 hf0 sl kC oK iL wU eY cK jC dP kX iJ o h Q q0 q1;obtain⟨s5,s9,s10,s53,LC,Ws,Gu,Q5⟩:=sl;have LD:=ne_next kC;have LG:=aW kC;have Wt:=ne_next oK;have Wu:=aW oK;have Gv:=ne_next iL;have Gw:=aW iL;have aen:=ne_next wU;have aeo:=aW wU;have AJ:=eq_false eY;have AL:=eq_false (Ne.symm eY);have uq:=eq_false cK;have uw:=eq_false (Ne.symm cK);have IU:=eq_false jC;have IV:=eq_false (Ne.symm jC);have xA:=eq_false dP;have xB:=eq_false (Ne.symm dP);have LH:=eq_false kX;have LJ:=eq_false (Ne.symm kX);have E9:=eq_false iJ;have Fa:=eq_false (Ne.symm iJ);have hle0:=hf0.1;rw [nA]at h;cases h;exact q1 _ _ _ rfl f0 hf0 av
  |succ m ih=>
    intro fU gu bB q9 iB jB eT nQ aC σ H0 H f0 hf0 sl kC oK iL wU eY cK jC dP kX iJ o h Q q0 q1;obtain⟨s5,s9,s10,s53,LC,Ws,Gu,Q5⟩:=sl;have LD:=ne_next kC;have LG:=aW kC;have Wt:=ne_next oK;have Wu:=aW oK;have Gv:=ne_next iL;have Gw:=aW iL;have aen:=ne_next wU;have aeo:=aW wU;have AJ:=eq_false eY;have AL:=eq_false (Ne.symm eY);have uq:=eq_false cK;have uw:=eq_false (Ne.symm cK);have IU:=eq_false jC;have IV:=eq_false (Ne.symm jC);have xA:=eq_false dP;have xB:=eq_false (Ne.symm dP);have LH:=eq_false kX;have LJ:=eq_false (Ne.symm kX);have E9:=eq_false iJ;have Fa:=eq_false (Ne.symm iJ);have hle0:=hf0.1;rw [nA]at h;cases erf:nQ[m]?
    case none=>rw [zw erf]at h;cases h
    case some x27=>
      rw [zx erf]at h;refine⟨Q5,BX false (aY x27),by simp only [List.getElem?_map,erf,Option.map_some],aD ?_⟩;unfold OA;try refine ah ?_
      refine aD ?_;unfold OB;rcases au h with⟨e28,h⟩|⟨e28,h⟩
      ·obtain rfl:=ak h;try refine ah ?_
       exact q0 _ _ _ rfl aJ (by repeat (first|exact hf0|refine HF.new ?_|refine HF.fP ?_|refine HF.used ?_|refine HF.put (by first|(right;omega)|(left;simp only [List.mem_cons,true_or,or_true])) ?_)) av
      ·rcases au h with⟨e29,h⟩|⟨e29,h⟩
       ·obtain rfl:=ak h;try refine ah ?_
        exact q0 _ _ _ rfl aJ (by repeat (first|exact hf0|refine HF.new ?_|refine HF.fP ?_|refine HF.used ?_|refine HF.put (by first|(right;omega)|(left;simp only [List.mem_cons,true_or,or_true])) ?_)) av
       ·obtain⟨e30,h⟩:=aQ h;obtain⟨x31,e32,h⟩:=aj h;try refine ah ?_
        exact ih fU gu bB q9 iB (IntKind.wrap .i64 (x31 -1)) eT nQ _ _ _ _ f0 (by repeat (first|exact hf0|refine HF.new ?_|refine HF.fP ?_|refine HF.used ?_|refine HF.put (by first|(right;omega)|(left;simp only [List.mem_cons,true_or,or_true])) ?_)) av bS bS bS bS bS bS bS bS bS bS _ h _ q0 q1
def wD (iB:List Int) (nK:Int) (jV:Int) (mQ:Str) (rE:List Str) (lZ:List Int) (jB:Int) (eT:Bool):Option ((Int×Bool)):=
  if lZ.length<=1099511627776 then Option.bind (nA lZ.length iB jB eT lZ) (fun o=>Sum.elim (fun p35=>some ((p35.1,p35.2))) (fun p49=>some ((p49.1,p49.2))) o)else none
def Kc:List Nat:=[12]++List.range' 51 17
theorem Vi: ∀(fU:Nat) (jN:Nat) (gu:Nat) (bB:Nat) (iB:List Int) (nK:Int) (jV:Int) (mQ:Str) (rE:List Str) (lZ:List Int) (jB:Int) (eT:Bool) (aC σ:Nat->PV) (H0 H:AH) (f0:Fr Kc aC σ) (hf0:HF [gu,bB] H0 H) (sl:σ 5=(.ref (fU) 0)/\σ 7=(.ref (jN) 0)/\σ 9=(.ref (gu) 0)/\σ 10=(.ref (bB) 0)/\H.obj fU=some [(.aB (iB.map aY) .unk)]/\H.obj jN=some [(.int .i64 nK),(.int .i64 jV),(.str mQ),(.aB (rE.map aI) .unk),(.aB (lZ.map aY) .unk)]/\H.obj gu=some [(.int .i64 jB)]/\H.obj bB=some [(.bool eT)]) (kC:fU<H.next) (rY:jN<H.next) (oK:gu<H.next) (iL:bB<H.next) (wE:fU≠jN) (eY:fU≠gu) (cK:fU≠bB) (AO:jN≠gu) (rZ:jN≠bB) (dP:gu≠bB) (o:(Int×Bool)) (h:wD iB nK jV mQ rE lZ jB eT=some o) (Q:Post) (q0: ∀(p:Int×Bool) (σ':Nat->PV) (H':AH),o=p->Fr Kc aC σ'->HF [gu,bB] H0 H'->(H'.obj gu=some [(.int .i64 p.1)]/\H'.obj bB=some [(.bool p.2)])->Q .normal σ' H'),W Tryz.prog Td Q σ H:=by
  intro fU jN gu bB iB nK jV mQ rE lZ jB eT aC σ H0 H f0 hf0 sl kC rY oK iL wE eY cK AO rZ dP o h Q q0;obtain⟨s5,s7,s9,s10,LC,acS,Ws,Gu⟩:=sl;have LD:=ne_next kC;have LG:=aW kC;have acT:=ne_next rY;have acU:=aW rY;have Wt:=ne_next oK;have Wu:=aW oK;have Gv:=ne_next iL;have Gw:=aW iL;have agh:=eq_false wE;have agi:=eq_false (Ne.symm wE);have AJ:=eq_false eY;have AL:=eq_false (Ne.symm eY);have uq:=eq_false cK;have uw:=eq_false (Ne.symm cK);have akW:=eq_false AO;have akX:=eq_false (Ne.symm AO);have acV:=eq_false rZ;have acW:=eq_false (Ne.symm rZ);have xA:=eq_false dP;have xB:=eq_false (Ne.symm dP);have hle0:=hf0.1;unfold wD at h;refine aD ?_;unfold Td;try refine ah ?_
  refine aG awd (by simp) (aD ?_);unfold ao5;obtain⟨e63,h⟩:=aQ h;try refine ah ?_
  obtain⟨o33,h34,h⟩:=aj h;refine ajD (g:=141) (id:=H.next) (sz:=1) (agg:=false) (es:=lZ.map aY) (c:= .unk) av agd ait (by decide) av (by rw [List.length_map];exact e63) (F8 (qV.len (f:=aY)) _) ?_;rw [List.length_map];refine Vh _ (fU) (gu) (bB) (H.next) iB jB eT lZ _ _ _ _ (Fr.refl _ _) (HF.refl _ _) av bS bS bS bS bS bS bS bS bS bS _ h34 _ ?_ ?_
  ·rintro p35 σ' H38 eo aiv Pw ⟨g39,g40⟩;subst eo;rw [bL]at h;have s41:σ' 7=(.ref (jN) 0):=(aiv 7 (by decide)).trans av;have s42:σ' 10=(.ref (bB) 0):=(aiv 10 (by decide)).trans av;have le:=Pw.1;try simp only [AH.aK,AH.aL,AH.aM,AH.aN]at le
   have g43:H38.obj (jN)=some [(.int .i64 nK),(.int .i64 jV),(.str mQ),(.aB (rE.map aI) .unk),(.aB (lZ.map aY) .unk)]:=(Pw.2 _ bS (by first|exact List.not_mem_nil|(simp only [List.mem_cons,List.not_mem_nil,or_false,not_or];omega))).trans av;have n44:=ne_next (show jN<H38.next by first|omega|(simp only [AH.aK,AH.aL,AH.aM,AH.aN];omega));have m45:=aW (show jN<H38.next by first|omega|(simp only [AH.aK,AH.aL,AH.aM,AH.aN];omega));have n47:=ne_next (show bB<H38.next by first|omega|(simp only [AH.aK,AH.aL,AH.aM,AH.aN];omega));have m48:=aW (show bB<H38.next by first|omega|(simp only [AH.aK,AH.aL,AH.aM,AH.aN];omega));obtain rfl:=ak h;try refine ah ?_
   exact q0 _ _ _ rfl (by repeat (first|exact f0|refine Fr.upd (by decide) ?_|refine Fr.via aiv (by decide) ?_)) (by repeat (first|exact hf0|refine HF.new ?_|refine HF.fP ?_|refine HF.used ?_|refine HF.put (by first|(right;omega)|(left;simp only [List.mem_cons,true_or,or_true])) ?_|refine HF.via Pw (by first|exact fun i hi=>absurd hi List.not_mem_nil|(intro i hi;simp only [List.mem_cons,List.not_mem_nil,or_false]at hi⊢;first|exact .inl hi|omega)) ?_)) av
  ·rintro p49 σ' H52 eo Lc Vj ⟨g53,g54⟩;subst eo;rw [bP]at h;have s55:σ' 7=(.ref (jN) 0):=(Lc 7 (by decide)).trans av;have s56:σ' 10=(.ref (bB) 0):=(Lc 10 (by decide)).trans av;have le:=Vj.1;try simp only [AH.aK,AH.aL,AH.aM,AH.aN]at le
   have g57:H52.obj (jN)=some [(.int .i64 nK),(.int .i64 jV),(.str mQ),(.aB (rE.map aI) .unk),(.aB (lZ.map aY) .unk)]:=(Vj.2 _ bS (by first|exact List.not_mem_nil|(simp only [List.mem_cons,List.not_mem_nil,or_false,not_or];omega))).trans av;have n58:=ne_next (show jN<H52.next by first|omega|(simp only [AH.aK,AH.aL,AH.aM,AH.aN];omega));have m59:=aW (show jN<H52.next by first|omega|(simp only [AH.aK,AH.aL,AH.aM,AH.aN];omega));have n61:=ne_next (show bB<H52.next by first|omega|(simp only [AH.aK,AH.aL,AH.aM,AH.aN];omega));have m62:=aW (show bB<H52.next by first|omega|(simp only [AH.aK,AH.aL,AH.aM,AH.aN];omega));obtain rfl:=ak h;try refine ah ?_
   exact q0 _ _ _ rfl (by repeat (first|exact f0|refine Fr.upd (by decide) ?_|refine Fr.via Lc (by decide) ?_)) (by repeat (first|exact hf0|refine HF.new ?_|refine HF.fP ?_|refine HF.used ?_|refine HF.put (by first|(right;omega)|(left;simp only [List.mem_cons,true_or,or_true])) ?_|refine HF.via Vj (by first|exact fun i hi=>absurd hi List.not_mem_nil|(intro i hi;simp only [List.mem_cons,List.not_mem_nil,or_false]at hi⊢;first|exact .inl hi|omega)) ?_)) av
def AP (nK:Int) (jV:Int) (mQ:Str) (rE:List Str) (lZ:List Int) (DW:Int) (DX:Int) (Cm:Int) (Co:Int) (DY:Bool) (AA:Bool) (uz:Bool) (q8:Bool):Option Bool:=
  cond q8 (cond AA (cond (nK !=1) (cond uz (Option.bind (gJ jV 0 1) fun QF=>some (QF)) (some (true))) (Option.bind (vU mQ) fun l7=>cond l7 (cond uz (Option.bind (gJ jV 0 1) fun QG=>some (QG)) (some (true))) (some (false)))) (cond (jV==0) (cond (nK !=1) (cond uz (Option.bind (gJ jV 0 1) fun Zb=>some (Zb)) (some (true))) (Option.bind (vU mQ) fun Px=>cond Px (cond uz (Option.bind (gJ jV 0 1) fun Fb=>some (Fb)) (some (true))) (some (false)))) (some (false)))) (cond (mQ==[]) (cond AA (cond (nK !=1) (cond uz (Option.bind (gJ jV 0 1) fun JC=>some (JC)) (some (true))) (Option.bind (vU mQ) fun Zd=>cond Zd (cond uz (Option.bind (gJ jV 0 1) fun G7=>some (G7)) (some (true))) (some (false)))) (cond (jV==0) (cond (nK !=1) (cond uz (Option.bind (gJ jV 0 1) fun aqN=>some (aqN)) (some (true))) (Option.bind (vU mQ) fun aqO=>cond aqO (cond uz (Option.bind (gJ jV 0 1) fun aqP=>some (aqP)) (some (true))) (some (false)))) (some (false)))) (some (false)))
def Ke:List Nat:=List.range' 74 32
theorem Vk: ∀(jN:Nat) (AB:Nat) (nK:Int) (jV:Int) (mQ:Str) (rE:List Str) (lZ:List Int) (DW:Int) (DX:Int) (Cm:Int) (Co:Int) (DY:Bool) (AA:Bool) (uz:Bool) (q8:Bool) (aC σ:Nat->PV) (H:AH) (f0:Fr Ke aC σ) (sl:σ 7=(.ref (jN) 0)/\σ 8=(.ref (AB) 0)/\σ 13=(.bool uz)/\σ 73=(.bool q8)/\H.obj jN=some [(.int .i64 nK),(.int .i64 jV),(.str mQ),(.aB (rE.map aI) .unk),(.aB (lZ.map aY) .unk)]/\H.obj AB=some [(.int .i64 DW),(.int .i64 DX),(.int .i64 Cm),(.int .i64 Co),(.bool DY),(.bool AA)]) (rY:jN<H.next) (BL:AB<H.next) (nP:jN≠AB) (o:Bool) (h:AP nK jV mQ rE lZ DW DX Cm Co DY AA uz q8=some o) (Q:Post) (q0: ∀(p:Bool) (σ':Nat->PV),o=p->Fr Ke aC σ'->(σ' 105=(.bool p))->Q .normal σ' H),dz Tryz.prog Te (Q .normal) σ H:=by
  intro jN AB nK jV mQ rE lZ DW DX Cm Co DY AA uz q8 aC σ H f0 sl rY BL nP o h Q q0;obtain⟨s7,s8,s13,s73,acS,amt⟩:=sl;have acT:=ne_next rY;have acU:=aW rY;have amu:=ne_next BL;have amv:=aW BL;have XQ:=eq_false nP;have XR:=eq_false (Ne.symm nP);unfold AP at h;refine eD ?_;unfold Te;rcases au h with⟨e84,h⟩|⟨e84,h⟩
  ·rcases au h with⟨e85,h⟩|⟨e85,h⟩
   ·rcases au h with⟨Qw,h⟩|⟨Qw,h⟩
    ·rcases au h with⟨e87,h⟩|⟨e87,h⟩
     ·obtain⟨QF,Qx,h⟩:=aj h;try refine ah ?_
      refine aA (gL Qx) ?_;obtain rfl:=ak h;try refine ah ?_
      exact q0 _ _ rfl aJ av
     ·obtain rfl:=ak h;try refine ah ?_
      exact q0 _ _ rfl aJ av
    ·obtain⟨l7,Y5,h⟩:=aj h;try refine ah ?_
     refine aA (DV Y5) ?_;rcases au h with⟨e92,h⟩|⟨e92,h⟩
     ·rcases au h with⟨QC,h⟩|⟨QC,h⟩
      ·obtain⟨QG,e94,h⟩:=aj h;try refine ah ?_
       refine aA (gL e94) ?_;obtain rfl:=ak h;try refine ah ?_
       exact q0 _ _ rfl aJ av
      ·obtain rfl:=ak h;try refine ah ?_
       exact q0 _ _ rfl aJ av
     ·obtain rfl:=ak h;try refine ah ?_
      exact q0 _ _ rfl aJ av
   ·rcases au h with⟨e96,h⟩|⟨e96,h⟩
    ·rcases au h with⟨e97,h⟩|⟨e97,h⟩
     ·rcases au h with⟨e98,h⟩|⟨e98,h⟩
      ·obtain⟨Zb,e99,h⟩:=aj h;try refine ah ?_
       refine aA (gL e99) ?_;obtain rfl:=ak h;try refine ah ?_
       exact q0 _ _ rfl aJ av
      ·obtain rfl:=ak h;try refine ah ?_
       exact q0 _ _ rfl aJ av
     ·obtain⟨Px,Pk,h⟩:=aj h;try refine ah ?_
      refine aA (DV Pk) ?_;rcases au h with⟨Jq,h⟩|⟨Jq,h⟩
      ·rcases au h with⟨aio,h⟩|⟨aio,h⟩
       ·obtain⟨Fb,La,h⟩:=aj h;try refine ah ?_
        refine aA (gL La) ?_;obtain rfl:=ak h;try refine ah ?_
        exact q0 _ _ rfl aJ av
       ·obtain rfl:=ak h;try refine ah ?_
        exact q0 _ _ rfl aJ av
      ·obtain rfl:=ak h;try refine ah ?_
       exact q0 _ _ rfl aJ av
    ·obtain rfl:=ak h;try refine ah ?_
     exact q0 _ _ rfl aJ av
  ·rcases au h with⟨EW,h⟩|⟨EW,h⟩
   ·rcases au h with⟨e108,h⟩|⟨e108,h⟩
    ·rcases au h with⟨e109,h⟩|⟨e109,h⟩
     ·rcases au h with⟨UL,h⟩|⟨UL,h⟩
      ·obtain⟨JC,Zg,h⟩:=aj h;try refine ah ?_
       refine aA (gL Zg) ?_;obtain rfl:=ak h;try refine ah ?_
       exact q0 _ _ rfl aJ av
      ·obtain rfl:=ak h;try refine ah ?_
       exact q0 _ _ rfl aJ av
     ·obtain⟨Zd,Zh,h⟩:=aj h;try refine ah ?_
      refine aA (DV Zh) ?_;rcases au h with⟨e115,h⟩|⟨e115,h⟩
      ·rcases au h with⟨e116,h⟩|⟨e116,h⟩
       ·obtain⟨G7,e117,h⟩:=aj h;try refine ah ?_
        refine aA (gL e117) ?_;obtain rfl:=ak h;try refine ah ?_
        exact q0 _ _ rfl aJ av
       ·obtain rfl:=ak h;try refine ah ?_
        exact q0 _ _ rfl aJ av
      ·obtain rfl:=ak h;try refine ah ?_
       exact q0 _ _ rfl aJ av
    ·rcases au h with⟨e119,h⟩|⟨e119,h⟩
     ·rcases au h with⟨e120,h⟩|⟨e120,h⟩
      ·rcases au h with⟨aiw,h⟩|⟨aiw,h⟩
       ·obtain⟨aqN,Zi,h⟩:=aj h;try refine ah ?_
        refine aA (gL Zi) ?_;obtain rfl:=ak h;try refine ah ?_
        exact q0 _ _ rfl aJ av
       ·obtain rfl:=ak h;try refine ah ?_
        exact q0 _ _ rfl aJ av
      ·obtain⟨aqO,aqR,h⟩:=aj h;try refine ah ?_
       refine aA (DV aqR) ?_;rcases au h with⟨e126,h⟩|⟨e126,h⟩
       ·rcases au h with⟨e127,h⟩|⟨e127,h⟩
        ·obtain⟨aqP,e128,h⟩:=aj h;try refine ah ?_
         refine aA (gL e128) ?_;obtain rfl:=ak h;try refine ah ?_
         exact q0 _ _ rfl aJ av
        ·obtain rfl:=ak h;try refine ah ?_
         exact q0 _ _ rfl aJ av
       ·obtain rfl:=ak h;try refine ah ?_
        exact q0 _ _ rfl aJ av
     ·obtain rfl:=ak h;try refine ah ?_
      exact q0 _ _ rfl aJ av
   ·obtain rfl:=ak h;try refine ah ?_
    exact q0 _ _ rfl aJ av
def CQ (k:Nat) (aH:List Nd) (dD:Int) (qZ:List Int):Option Int:=
  if 0<=dD then Option.bind (aH[dD.toNat]?) fun x2=>Option.bind (gJ x2.kind 0 28) fun p5=>cond p5 (Option.bind (y9 k x2) fun p8=>Option.bind (gJ (x2.names.length:Int) p8.names.1 p8.names.2) fun iT=>Option.bind (Az x2.kind x2.n x2.text x2.names x2.args p8.names.1 p8.names.2 p8.operands.1 p8.operands.2 p8.text p8.number (!iT)) (fun p16=>cond p16 (some 6) (Option.bind (wD qZ x2.kind x2.n x2.text x2.names x2.args (IntKind.wrap .i64 (dD -1)) true) (fun p66=>Option.bind (AP x2.kind x2.n x2.text x2.names x2.args p8.names.1 p8.names.2 p8.operands.1 p8.operands.2 p8.text p8.number (x2.kind==23) p8.text) (fun Vl=>cond p66.2 (Option.bind (mq (!Vl) 5) fun aix=>cond (x2.kind==23) (Option.bind (mq false 3) fun aqS=>Option.bind (om k x2) fun aqT=>Option.bind (gK k [aix,aqS,aqT]) fun aqU=>some aqU) (Option.bind (gJ x2.n 0 10000) fun aqV=>Option.bind (mq (!aqV) 3) fun Zk=>Option.bind (om k x2) fun aqW=>Option.bind (gK k [aix,Zk,aqW]) fun aqX=>some aqX)) (Option.bind (mq true 5) fun aiy=>cond (x2.kind==23) (Option.bind (mq false 3) fun aqY=>Option.bind (om k x2) fun aqZ=>Option.bind (gK k [aiy,aqY,aqZ]) fun aq0=>some aq0) (Option.bind (gJ x2.n 0 10000) fun Zl=>Option.bind (mq (!Zl) 3) fun aq1=>Option.bind (om k x2) fun adX=>Option.bind (gK k [aiy,aq1,adX]) fun aq2=>some aq2))))))) (some 4)else none
theorem abQ {k:Nat} {aH:List Nd} {dD:Int} {qZ:List Int} {c0 c2:Ck} {r:Int} (h:CQ k aH dD qZ=some r):aF Tryz.prog 48 [(.aB (aH.map Nd.cells) c0),(.int .i64 dD),(.aB (qZ.map aY) c2)] (.int .i64 r):=by
  refine aF.lw (.aB (.same (.aB .nil))) (aF.aP (bg.mem (.cons (aV Nd.pu _) (.cons (.int _ _) (.cons (aV fO _) .nil)))) (aG avJ (by simp) (aD ?_)) (.int _ _));unfold CQ at h;unfold aov;obtain⟨e1,h⟩:=aQ h;obtain⟨x2,e3,h⟩:=aj h;obtain⟨p5,e4,h⟩:=aj h;try refine ah ?_
  refine aA (gL e4) ?_;rcases au h with⟨e6,h⟩|⟨e6,h⟩
  ·obtain⟨p8,e7,h⟩:=aj h;try refine ah ?_
   refine aA (abP e7) ?_;obtain⟨iT,e9,h⟩:=aj h;try refine ah ?_
   refine aA (gL e9) ?_;try refine ah ?_
   obtain⟨o14,h15,h⟩:=aj h;refine Vg (AH.empty.next+1) (AH.empty.next+2) x2.kind x2.n x2.text x2.names x2.args p8.names.1 p8.names.2 p8.operands.1 p8.operands.2 p8.text p8.number (!iT) _ _ _ (Fr.refl _ _) av bS bS bS _ h15 _ ?_
   ·rintro p16 σ' eo Y8 s20;rw [eo]at h;have s21:σ' 1=(.int .i64 dD):=(Y8 1 (by decide)).trans av;have s22:σ' 5=(.ref (AH.empty.next) 0):=(Y8 5 (by decide)).trans av;have s23:σ' 7=(.ref (AH.empty.next+1) 0):=(Y8 7 (by decide)).trans av;have s24:σ' 8=(.ref (AH.empty.next+2) 0):=(Y8 8 (by decide)).trans av;rcases au h with⟨e25,h⟩|⟨e25,h⟩
    ·obtain rfl:=ak h;try refine ah ?_
     exact(.pure _ (.int _ _))
    ·try refine ah ?_
     obtain⟨o64,h65,h⟩:=aj h;refine Vi (AH.empty.next) (AH.empty.next+1) (AH.empty.next+3) (AH.empty.next+4) qZ x2.kind x2.n x2.text x2.names x2.args (IntKind.wrap .i64 (dD -1)) true _ _ _ _ (Fr.refl _ _) (HF.refl _ _) av bS bS bS bS bS bS bS bS bS bS _ h65 _ ?_
     ·rintro p66 σ' Wv eo LB aiz ⟨g70,g71⟩;rw [eo]at h;have s72:σ' 7=(.ref (AH.empty.next+1) 0):=(LB 7 (by decide)).trans av;have s73:σ' 8=(.ref (AH.empty.next+2) 0):=(LB 8 (by decide)).trans av;have s74:σ' 10=(.ref (AH.empty.next+4) 0):=(LB 10 (by decide)).trans av;have le:=aiz.1;try simp only [AH.aK,AH.aL,AH.aM,AH.aN]at le
      have g75:Wv.obj (AH.empty.next+1)=some [(.int .i64 x2.kind),(.int .i64 x2.n),(.str x2.text),(.aB (x2.names.map aI) .unk),(.aB (x2.args.map aY) .unk)]:=(aiz.2 _ bS (by first|exact List.not_mem_nil|(simp only [List.mem_cons,List.not_mem_nil,or_false,not_or];omega))).trans av;have n76:=ne_next (show AH.empty.next+1<Wv.next by first|omega|(simp only [AH.aK,AH.aL,AH.aM,AH.aN];omega));have m77:=aW (show AH.empty.next+1<Wv.next by first|omega|(simp only [AH.aK,AH.aL,AH.aM,AH.aN];omega));have g78:Wv.obj (AH.empty.next+2)=some [(.int .i64 p8.names.1),(.int .i64 p8.names.2),(.int .i64 p8.operands.1),(.int .i64 p8.operands.2),(.bool p8.text),(.bool p8.number)]:=(aiz.2 _ bS (by first|exact List.not_mem_nil|(simp only [List.mem_cons,List.not_mem_nil,or_false,not_or];omega))).trans av;have n79:=ne_next (show AH.empty.next+2<Wv.next by first|omega|(simp only [AH.aK,AH.aL,AH.aM,AH.aN];omega));have m80:=aW (show AH.empty.next+2<Wv.next by first|omega|(simp only [AH.aK,AH.aL,AH.aM,AH.aN];omega));have n82:=ne_next (show AH.empty.next+4<Wv.next by first|omega|(simp only [AH.aK,AH.aL,AH.aM,AH.aN];omega));have m83:=aW (show AH.empty.next+4<Wv.next by first|omega|(simp only [AH.aK,AH.aL,AH.aM,AH.aN];omega));try refine ah ?_
      obtain⟨aBR,aw1,h⟩:=aj h;refine Vk (AH.empty.next+1) (AH.empty.next+2) x2.kind x2.n x2.text x2.names x2.args p8.names.1 p8.names.2 p8.operands.1 p8.operands.2 p8.text p8.number (x2.kind==23) p8.text _ _ _ (Fr.refl _ _) av bS bS bS _ aw1 _ ?_
      ·rintro Vl σ' eo aep aBS;rw [eo]at h;have aBT:σ' 7=(.ref (AH.empty.next+1) 0):=(aep 7 (by decide)).trans av;have aq3:σ' 10=(.ref (AH.empty.next+4) 0):=(aep 10 (by decide)).trans av;have aq4:σ' 13=(.bool (x2.kind==23)):=(aep 13 (by decide)).trans av;try refine ah ?_
       refine eZ ?_;rcases au h with⟨Zj,h⟩|⟨Zj,h⟩
       ·obtain⟨aix,aw2,h⟩:=aj h;try refine ah ?_
        refine PC.mk (lV aw2) ?_;rcases au h with⟨e143,h⟩|⟨e143,h⟩
        ·obtain⟨aqS,aiA,h⟩:=aj h;try refine ah ?_
         refine PC.mk (lV aiA) ?_;obtain⟨aqT,aer,h⟩:=aj h;try refine ah ?_
         refine aA (Ay aer) ?_;obtain⟨aqU,aq5,h⟩:=aj h;try refine ah ?_
         refine aA (kM aq5) ?_;obtain rfl:=ak h;try refine ah ?_
         exact(.pure _ (.int _ _))
        ·obtain⟨aqV,ah9,h⟩:=aj h;try refine ah ?_
         refine PC.mk (gL ah9) ?_;obtain⟨Zk,e152,h⟩:=aj h;try refine ah ?_
         refine PC.mk (lV e152) ?_;obtain⟨aqW,e154,h⟩:=aj h;try refine ah ?_
         refine aA (Ay e154) ?_;obtain⟨aqX,aw3,h⟩:=aj h;try refine ah ?_
         refine aA (kM aw3) ?_;obtain rfl:=ak h;try refine ah ?_
         exact(.pure _ (.int _ _))
       ·obtain⟨aiy,aiB,h⟩:=aj h;try refine ah ?_
        refine PC.mk (lV aiB) ?_;rcases au h with⟨aw4,h⟩|⟨aw4,h⟩
        ·obtain⟨aqY,aq6,h⟩:=aj h;try refine ah ?_
         refine PC.mk (lV aq6) ?_;obtain⟨aqZ,ah8,h⟩:=aj h;try refine ah ?_
         refine aA (Ay ah8) ?_;obtain⟨aq0,e165,h⟩:=aj h;try refine ah ?_
         refine aA (kM e165) ?_;obtain rfl:=ak h;try refine ah ?_
         exact(.pure _ (.int _ _))
        ·obtain⟨Zl,e167,h⟩:=aj h;try refine ah ?_
         refine PC.mk (gL e167) ?_;obtain⟨aq1,e169,h⟩:=aj h;try refine ah ?_
         refine PC.mk (lV e169) ?_;obtain⟨adX,aiC,h⟩:=aj h;try refine ah ?_
         refine aA (Ay aiC) ?_;obtain⟨aq2,aw5,h⟩:=aj h;try refine ah ?_
         refine aA (kM aw5) ?_;obtain rfl:=ak h;try refine ah ?_
         exact(.pure _ (.int _ _))
  ·obtain rfl:=ak h;try refine ah ?_
   exact(.pure _ (.int _ _))
def jd:Nat->(List Nd)->(List Int)->Int->Int->Option (List Int⊕(Int×Int))
  |0,_,_,_,_=>none
  |k+1,aH,mF,jQ,fT=>
    cond (decide (fT<jQ)) (Option.bind (CQ k aH fT mF) fun iT=>cond (iT !=0) (some (.inr ((fT,iT)))) (if(mF.length+1)*8<=1099511627776 then Option.bind (MU aH fT (mF++[0])) fun uj=>if 0<=fT then Option.bind ((mF++[0])[fT.toNat]?) fun x23=>jd k aH ((mF++[0]).set fT.toNat uj) jQ (IntKind.wrap .i64 (fT+1))else none else none)) (some (.inl mF))
def AQ:List Nat:=[2,3,5,6,7]++List.range' 27 22
theorem Py: ∀(k:Nat) (wV:PV) (wF:List Nat) (M:List Nat) (aH:List Nd) (mF:List Int) (jQ:Int) (fT:Int) (aC σ:Nat->PV) (H0 H:AH) (f0:Fr AQ aC σ) (hf0:HF M H0 H) (sl:σ 0=(.aB (aH.map Nd.cells) .unk)/\σ 5=wV/\σ 26=(.int .i64 jQ)/\σ 27=(.int .i64 fT)) (qH:aO H aY 1 mF wV wF) (uK:Nw H0 M wF) (o:List Int⊕(Int×Int)) (h:jd k aH mF jQ fT=some o) (Q:Post) (q0: ∀(p:List Int) (v0:PV) (tC:List Nat) (σ':Nat->PV) (H':AH),o= .inl p->Fr AQ aC σ'->HF M H0 H'->(σ' 5=v0)->aO H' aY 1 p v0 tC->Nw H0 M tC->Q (.exit 0) σ' H') (q1: ∀(p:Int×Int) (σ':Nat->PV) (H':AH),o= .inr (p)->Fr AQ aC σ'->HF M H0 H'->(σ' 2=(.int .i64 p.1)/\σ' 3=(.int .i64 p.2))->Q .ret σ' H'),W Tryz.prog (.loop SC) Q σ H:=by
  intro k
  induction k with
  |zero=>intro wV wF M aH mF jQ fT aC σ H0 H f0 hf0 sl qH uK o h Q q0 q1;simp only [jd,reduceCtorEq]at h
  |succ k ih=>
    intro wV wF M aH mF jQ fT aC σ H0 H f0 hf0 sl qH uK o h Q q0 q1;obtain⟨s0,s5,s26,s27⟩:=sl;have hle0:=hf0.1;unfold jd at h;refine aU (fun K hK=>aD ?_);unfold SC;rcases au h with⟨e8,h⟩|⟨e8,h⟩
    ·obtain⟨iT,e9,h⟩:=aj h;try refine dh ?_
     refine F9 (abQ e9) (.cons (d9 Nd.pu _ _) (.cons (.pure _ (.int _ _)) (.cons (aO.fz fO (by repeat (first|exact qH|apply aO.new|refine aO.put ?_ (fun hm=>by have:=aO.lt qH _ hm;omega)))) .nil))) (.cons (aV Nd.pu _) (.cons (.int _ _) (.cons (aV fO _) .nil))) (.int _ _) ?_;rcases au h with⟨e11,h⟩|⟨e11,h⟩
     ·obtain rfl:=ak h;try refine dh ?_
      exact q1 _ _ _ rfl aJ (by repeat (first|exact hf0|refine HF.new ?_|refine HF.fP ?_|refine HF.used ?_|refine HF.put (by first|(right;omega)|(left;simp only [List.mem_cons,true_or,or_true])) ?_)) aR
     ·obtain⟨e12,h⟩:=aQ h;try refine dh ?_
      refine KT (f:=aY) (v:=wV) Ig mF ([0]:List Int) .exact aR (by repeat (first|exact qH|apply aO.new|refine aO.put ?_ (fun hm=>by have:=aO.lt qH _ hm;omega))) aR (by decide) (by simp only [List.length_cons,List.length_nil];exact e12) (fun v13 aty H15 r16 aq7 aq8 aq9=> ?_);have le:=aq8.1;try simp only [AH.aK,AH.aL,AH.aM,AH.aN]at le
      obtain⟨uj,e20,h⟩:=aj h;try refine dh ?_
      refine F9 (afU e20) (.cons (d9 Nd.pu _ _) (.cons (.pure _ (.int _ _)) (.cons (aO.fz fO (by repeat (first|exact r16|apply aO.new|refine aO.put ?_ (fun hm=>by have:=aO.lt r16 _ hm;omega)))) .nil))) (.cons (aV Nd.pu _) (.cons (.int _ _) (.cons (aV fO _) .nil))) (.int _ _) ?_;obtain⟨e22,h⟩:=aQ h;obtain⟨x23,e24,h⟩:=aj h;obtain⟨w25,w26,ara,hil,w27,hC,hL,hD,hI⟩:=aO.content r16 e24;have w28:=ne_next hil;have w29:=aW hil;have w30:lq 1 v13 (.int .i64 fT)=some (.ref w25 (fT.toNat)):=by simpa using hI .i64 fT (by first|omega|decide) (by first|rfl|omega)
      have aAK:w26[fT.toNat]? =some (.int .i64 x23):=by simpa using hC 0 _ rfl
      clear hC hL hD hI;try refine dh ?_
      refine qw (f:=aY) (id:=w25) (o:=fT.toNat) (i:=fT.toNat) (j:=0) (a:=x23) (y:=uj) (vs:=[(.int .i64 uj)]) aR ara (by omega) (by repeat (first|exact r16|apply aO.new|refine aO.put ?_ (fun hm=>by have:=aO.lt r16 _ hm;omega))) e24 aR rfl rfl (by first|decide|(simp only [List.length_cons,List.length_nil];omega)) rfl (fun H33 r34 arb aoo=> ?_);have le:=arb.1;try simp only [AH.aK,AH.aL,AH.aM,AH.aN]at le
      try refine dh ?_
      refine hK _ _ ?_;exact ih v13 aty M aH ((mF++[0]).set fT.toNat uj) jQ (IntKind.wrap .i64 (fT+1)) _ _ _ _ aJ (by repeat (first|exact hf0|refine HF.new ?_|refine HF.fP ?_|refine HF.used ?_|refine HF.put (by first|(right;omega)|(left;simp only [List.mem_cons,true_or,or_true])) ?_|refine HF.via aq8 uK ?_|refine HF.via arb (Nw.trans uK bS aq7) ?_)) aR (by repeat (first|exact r34|apply aO.new|refine aO.put ?_ (fun hm=>by have:=aO.lt r34 _ hm;omega))) (Nw.trans uK bS aq7) _ h _ q0 q1
    ·obtain rfl:=ak h;try refine dh ?_
     exact q0 _ wV wF _ _ rfl aJ (by repeat (first|exact hf0|refine HF.new ?_|refine HF.fP ?_|refine HF.used ?_|refine HF.put (by first|(right;omega)|(left;simp only [List.mem_cons,true_or,or_true])) ?_)) aR (by repeat (first|exact qH|apply aO.new|refine aO.put ?_ (fun hm=>by have:=aO.lt qH _ hm;omega))) uK
def je:Nat->(List Nd)->(List Int)->(List Int)->Int->Int->Option (Unit⊕(Int×Int))
  |0,_,_,_,_,_=>none
  |k+1,aH,LK,wG,LM,Ht=>
    cond (decide (Ht<LM)) (Option.bind (E8 k aH Ht LK wG) fun p54=>cond p54 (some (.inr ((Ht,30)))) (je k aH LK wG LM (IntKind.wrap .i64 (Ht+1)))) (some (.inl ()))
def AU:List Nat:=[2,3,11]++List.range' 59 10
theorem Pz: ∀(k:Nat) (aH:List Nd) (LK:List Int) (wG:List Int) (LM:Int) (Ht:Int) (aC σ:Nat->PV) (H:AH) (f0:Fr AU aC σ) (sl:σ 0=(.aB (aH.map Nd.cells) .unk)/\σ 9=(.aB (LK.map aY) .unk)/\σ 10=(.aB (wG.map aY) .unk)/\σ 58=(.int .i64 LM)/\σ 59=(.int .i64 Ht)) (o:Unit⊕(Int×Int)) (h:je k aH LK wG LM Ht=some o) (Q:Post) (q0: ∀(p:Unit) (σ':Nat->PV),o= .inl p->Fr AU aC σ'->Q (.exit 2) σ' H) (q1: ∀(p:Int×Int) (σ':Nat->PV),o= .inr (p)->Fr AU aC σ'->(σ' 2=(.int .i64 p.1)/\σ' 3=(.int .i64 p.2))->Q .ret σ' H),W Tryz.prog (.loop SE) Q σ H:=by
  intro k
  induction k with
  |zero=>intro aH LK wG LM Ht aC σ H f0 sl o h Q q0 q1;simp only [je,reduceCtorEq]at h
  |succ k ih=>
    intro aH LK wG LM Ht aC σ H f0 sl o h Q q0 q1;obtain⟨s0,s9,s10,s58,s59⟩:=sl;unfold je at h;refine aU (fun K hK=>aD ?_);unfold SE;rcases au h with⟨e52,h⟩|⟨e52,h⟩
    ·obtain⟨p54,e53,h⟩:=aj h;try refine dh ?_
     refine aA (aem e53) ?_;rcases au h with⟨e55,h⟩|⟨e55,h⟩
     ·obtain rfl:=ak h;try refine dh ?_
      exact q1 _ _ rfl aJ aR
     ·try refine dh ?_
      refine hK _ _ ?_;exact ih aH LK wG LM (IntKind.wrap .i64 (Ht+1)) _ _ _ aJ aR _ h _ q0 q1
    ·obtain rfl:=ak h;try refine dh ?_
     exact q0 _ _ rfl aJ
def iM (k:Nat) (aH:List Nd):Option (Int×Int):=
  Option.bind (mq ((aH.length:Int)==0) 1) fun p2=>Option.bind (mq (decide ((aH.length:Int)>160)) 2) fun p4=>Option.bind (gK k [p2,p4]) fun p6=>cond (p6 !=0) (some (0,p6)) (Option.bind (jd k aH ([]:List Int) (aH.length:Int) 0) (fun o=>Sum.elim (fun p40=>Option.bind (wm k aH) fun p51=>Option.bind (je k aH p51.1 p51.2 (aH.length:Int) 0) (fun o=>Sum.elim (fun p58=>if 0<=(IntKind.wrap .i64 ((aH.length:Int) -1))then Option.bind (p40[(IntKind.wrap .i64 ((aH.length:Int) -1)).toNat]?) fun Z4=>cond (Z4 !=0) (some ((IntKind.wrap .i64 ((aH.length:Int) -1)),15)) (some (0,0))else none) (fun p74=>some (p74.1,p74.2)) o)) (fun xw=>some (xw.1,xw.2)) o))
theorem Kg {k:Nat} {aH:List Nd} {c0:Ck} {r:Int×Int} (h:iM k aH=some r):aF Tryz.prog 14 [(.aB (aH.map Nd.cells) c0)] (.dJ [(.int .i64 r.1),(.int .i64 r.2)]):=by
  refine aF.lw (.aB .nil) (aF.aP (bg.mem (.cons (aV Nd.pu _) .nil)) (aG avw (by simp) (aD ?_)) (.dJ _ (bg.mem (.cons (.int _ _) (.cons (.int _ _) .nil)))));unfold iM at h;unfold anZ;obtain⟨p2,e1,h⟩:=aj h;try refine dh ?_
  refine aA (lV e1) ?_;obtain⟨p4,e3,h⟩:=aj h;try refine dh ?_
  refine aA (lV e3) ?_;obtain⟨p6,e5,h⟩:=aj h;try refine dh ?_
  refine aA (kM e5) ?_;rcases au h with⟨e7,h⟩|⟨e7,h⟩
  ·obtain rfl:=ak h;try refine dh ?_
   exact(cZ (.cons (.pure _ (.int _ _)) (.cons (.pure _ (.int _ _)) .nil)))
  ·try refine dh ?_
   obtain⟨o38,h39,h⟩:=aj h;refine Py k (.aB [] .nil) [] ([]++[]) aH ([]:List Int) (aH.length:Int) 0 _ _ _ _ (Fr.refl _ _) (HF.refl _ _) aR (by repeat (first|exact aO.nil|apply aO.new|refine aO.put ?_ (fun hm=>by have:=aO.lt aO.nil _ hm;omega))) (fun i hi=>Or.inl (by simp only [List.mem_append,List.mem_cons,hi,true_or,or_true])) _ h39 _ ?_ ?_
   ·rintro p40 v44 aAL σ' H43 eo Zz ard s48 r46 aBU;subst eo;rw [bL]at h;have s49:σ' 0=(.aB (aH.map Nd.cells) .unk):=(Zz 0 (by decide)).trans aR;have le:=ard.1;try simp only [AH.aK,AH.aL,AH.aM,AH.aN]at le
    obtain⟨p51,e50,h⟩:=aj h;try refine dh ?_
    refine aA (abO e50) ?_;try refine dh ?_
    obtain⟨o56,h57,h⟩:=aj h;refine Pz k aH p51.1 p51.2 (aH.length:Int) 0 _ _ _ (Fr.refl _ _) aR _ h57 _ ?_ ?_
    ·rintro p58 σ' eo aie;subst eo;rw [bL]at h;have s62:σ' 5=v44:=(aie 5 (by decide)).trans aR;have s63:σ' 8=(.int .i64 (IntKind.wrap .i64 ((aH.length:Int) -1))):=(aie 8 (by decide)).trans aR;obtain⟨e64,h⟩:=aQ h;obtain⟨Z4,e66,h⟩:=aj h;obtain⟨w67,w68,azI,hil,w69,hC,hL,hD,hI⟩:=aO.content r46 e66;have w70:=ne_next hil;have w71:=aW hil;have w72:lq 1 v44 (.int .i64 (IntKind.wrap .i64 ((aH.length:Int) -1)))=some (.ref w67 ((IntKind.wrap .i64 ((aH.length:Int) -1)).toNat)):=by simpa using hI .i64 (IntKind.wrap .i64 ((aH.length:Int) -1)) (by first|omega|decide) (by first|rfl|omega)
     have aAM:w68[(IntKind.wrap .i64 ((aH.length:Int) -1)).toNat]? =some (.int .i64 Z4):=by simpa using hC 0 _ rfl
     clear hC hL hD hI;rcases au h with⟨QB,h⟩|⟨QB,h⟩
     ·obtain rfl:=ak h;try refine dh ?_
      exact(cZ (.cons (.pure _ (.int _ _)) (.cons (.pure _ (.int _ _)) .nil)))
     ·obtain rfl:=ak h;try refine dh ?_
      exact(cZ (.cons (.pure _ (.int _ _)) (.cons (.pure _ (.int _ _)) .nil)))
    ·rintro p74 σ' eo aBV ⟨s78,s79⟩;subst eo;rw [bP]at h;obtain rfl:=ak h;try refine dh ?_
     exact(cZ (.cons (.pure _ (.int _ _)) (.cons (.pure _ (.int _ _)) .nil)))
   ·rintro xw σ' H83 eo JB ais ⟨s84,s85⟩;subst eo;rw [bP]at h;have le:=ais.1;try simp only [AH.aK,AH.aL,AH.aM,AH.aN]at le
    obtain rfl:=ak h;try refine dh ?_
    exact(cZ (.cons (.pure _ (.int _ _)) (.cons (.pure _ (.int _ _)) .nil)))
def nC (k:Nat) (aH:List Nd):Option Int:=
  Option.bind (iM k aH) fun p2=>some p2.2
theorem xZ {k:Nat} {aH:List Nd} {c0:Ck} {r:Int} (h:nC k aH=some r):aF Tryz.prog 58 [(.aB (aH.map Nd.cells) c0)] (.int .i64 r):=by
  refine aF.lw (.aB .nil) (aF.aP (bg.mem (.cons (aV Nd.pu _) .nil)) (aG avQ (by simp) (aD ?_)) (.int _ _));unfold nC at h;unfold aoF;obtain⟨p2,e1,h⟩:=aj h;try refine ah ?_
  refine aA (Kg e1) ?_;obtain rfl:=ak h;try refine ah ?_
  exact(.pure _ (.int _ _))
end Go.VL
end
section
namespace Go.VL
theorem amw (s p:Str):lJ s p=some (decide (p.length<=s.length)&&decide (s.take p.length=p)):=by
  unfold lJ u7;by_cases h:p.length<=s.length
  · have h':(s.length:Int)>=(p.length:Int):=by omega
    simp only [h,h',decide_true,cond_true,if_true,Option.bind_some,Bool.true_and,Iw]
  · have h': ¬(s.length:Int)>=(p.length:Int):=by omega
    simp only [h,h',decide_false,cond_false,Option.bind_some,Bool.false_and]
theorem atz (s:Str) (a b c:UInt8):lJ s [a,b,c]=some (decide (s.take 3=[a,b,c])):=by
  rw [amw];congr 1
  show(decide (3<=s.length)&&decide (s.take 3=[a,b,c]))=_
  by_cases h:s.take 3=[a,b,c]
  · have:=congrArg List.length h;rw [List.length_take]at this;have h3:3<=s.length:=by simp at this;omega
    simp [h,h3]
  · simp [h]
theorem aiD (s:Str):decide (s∈Hg)=(decide (s∈J4)||oh s):=by
  have h1:Hg=J4++[[66,79,79,76,69,65,78],[83,84,82,73,78,71]]:=by kernel_rfl
  have h2:([84,82,85,69]:Str)∈J4:=by decide+kernel
  have h3:([70,65,76,83,69]:Str)∈J4:=by decide+kernel
  rw [h1];unfold oh;by_cases a:s=[84,82,85,69]
  · subst a;simp [h2]
  by_cases b:s=[70,65,76,83,69]
  · subst b;simp [h3]
  by_cases c:s∈J4<;>simp [a,b,c]
theorem aiE:Hg.length=52:=by kernel_rfl
theorem aes (s:Str):(rM s).length=s.length:=by simp [rM]
theorem aeu (s:Str) {i:Nat} (h:i<s.length):(rM s)[i]? =some (s[i].toNat:Int):=by simp [rM,h]
theorem akY (c:UInt8):IntKind.wrap .i64 (c.toNat:Int)=(c.toNat:Int):=by have:=c.toNat_lt;exact wrap64 (by omega) (by omega)
def LP (s:Str):Nat:=s.countP isLet
theorem aiF (s:Str):decide ((LP s:Int)>0)=s.any isLet:=by
  unfold LP
  induction s with
  |nil=>rfl
  |cons c l ih=>
    rw [List.countP_cons,List.any_cons];by_cases h:isLet c=true
    · simp only [h,if_true,Bool.true_or,decide_eq_true_eq];omega
    · rw [if_neg h,Nat.add_zero,ih];simp [h]
theorem Vm (c:UInt8):(Option.bind (gJ (c.toNat:Int) 97 122) fun p26=>xW (c.toNat:Int) p26)=some (isLet c):=by
  unfold xW;simp only [qB,Option.bind_some,akY];unfold isLet;have e1:((97:Int)<=(c.toNat:Int)/\(c.toNat:Int)<=122)=(97<=c.toNat/\c.toNat<=122):=by rw [eq_iff_iff];omega
  have e2:((65:Int)<=(c.toNat:Int)/\(c.toNat:Int)<=90)=(65<=c.toNat/\c.toNat<=90):=by rw [eq_iff_iff];omega
  simp only [e1,e2];cases decide (97<=c.toNat/\c.toNat<=122)<;>rfl
theorem yc (s:Str):Ev (fun k=>tH k s) (rName s):=by
  unfold tH Ch;simp only [qB,Option.bind_some,atz];by_cases h1:1<=s.length/\s.length<=24
  · have e1:(decide ((1:Int)<=(s.length:Int)/\(s.length:Int)<=24))=true:=decide_eq_true (by omega);simp only [e1,Bool.not_true,cond_false];refine Ev.bind (x:=NZ s||decide (s∈Hg)) ?_ ?_
    · unfold NZ;cases decide (s.take 3=[87,70,95])
      · cases decide (s.take 3=[83,70,95])
        · exact Ev.bind (yB _ _ (by rw [aiE];omega)) (Ev.some' (by simp only [Bool.false_or]))
        · exact Ev.some
      · exact Ev.some
    · have hspec:rName s=(!(NZ s||decide (s∈Hg))&&s.all ni&&s.any isLet):=by
        rw [aiD];unfold rName bName;simp only [h1,and_self,decide_true,Bool.true_and];cases decide (s∈J4)<;>cases oh s<;>cases NZ s<;>cases s.all ni<;>cases s.any isLet<;>rfl
      rw [hspec];cases(NZ s||decide (s∈Hg))
      · simp only [cond_false,Bool.not_false,Bool.true_and];have hb:s.length<=1099511627776:=by omega
        have key: ∀m:Nat,m<=0->Ev (fun k=>kr k (m:Int) (rM s) (s.length:Int) ((0:Nat):Int)) (if(s.drop 0).all ni=true then .inl ((m+LP (s.drop 0):Nat):Int)else .inr false):=by
          refine lK (len:=s.length) (p:=fun i=> ∀m:Nat,m<=i->Ev (fun k=>kr k (m:Int) (rM s) (s.length:Int) (i:Int)) (if(s.drop i).all ni=true then .inl ((m+LP (s.drop i):Nat):Int)else .inr false)) ?_ fun i hi ih m hm=> ?_
          · intro m hm;refine Ev.succ ?_;simp only [kr];exact Ev.cF (jP _) (Ev.some' (by simp only [List.drop_length,List.all_nil,if_true,LP,List.countP_nil,Nat.add_zero]))
          · refine Ev.succ ?_;have hp1:=Vm s[i];simp only [qB,Option.bind_some]at hp1;simp only [kr,Int.toNat_natCast,aeu s hi,Option.bind_some,nn,if_true,lC hi,cond_true,eO hi hb,qB,akY];refine Ev.lY hp1 ?_;have hcount:LP (s.drop i)=(if isLet s[i]=true then 1 else 0)+LP (s.drop (i+1)):=by
              unfold LP;rw [drop_cons hi,List.countP_cons,Nat.add_comm]
            rw [hcount];have hall:(s.drop i).all ni=(ni s[i]&&(s.drop (i+1)).all ni):=by rw [drop_cons hi,List.all_cons]
            rw [hall];by_cases h2:isLet s[i]=true
            · have hc:ni s[i]=true:=by unfold ni;rw [h2];rfl
              refine Ev.cT h2 ?_;rw [eO (i:=m) (n:=i+1) (by omega) (by omega)];refine(ih (m+1) (by omega)).to ?_;simp only [hc,h2,if_true,Bool.true_and,Nat.add_assoc]
            · have h2':isLet s[i]=false:=by simpa using h2
              refine Ev.cF h2' ?_;simp only [h2',Bool.false_eq_true,if_false,Nat.zero_add];have e3:((48:Int)<=(s[i].toNat:Int)/\(s[i].toNat:Int)<=57)=(48<=s[i].toNat/\s[i].toNat<=57):=by rw [eq_iff_iff];omega
              by_cases h3:48<=s[i].toNat/\s[i].toNat<=57
              · have hc:ni s[i]=true:=by unfold ni Ce;simp [h3]
                refine Ev.cT (decide_eq_true (e3▸h3)) ((ih m (by omega)).to ?_);simp only [hc,Bool.true_and]
              · refine Ev.cF (decide_eq_false (e3▸h3)) ?_;by_cases h4:s[i].toNat=95
                · have hc:ni s[i]=true:=by unfold ni;simp [h4]
                  refine Ev.cF (by rw [h4];rfl) ((ih m (by omega)).to ?_);simp only [hc,Bool.true_and]
                · have hc:ni s[i]=false:=by unfold ni Ce;rw [h2'];simp [h4];omega
                  refine Ev.cT (by rw [bne_iff_ne];omega) (Ev.some' ?_);simp only [hc,Bool.false_and,Bool.false_eq_true,if_false]
        have arf:=key 0 (Nat.le_refl _);rw [List.drop_zero,Nat.zero_add]at arf;simp only [aes];refine Ev.bind arf ?_;by_cases h3:s.all ni=true
        · simp only [h3,if_true,bL,Bool.true_and];exact Ev.some' (aiF s)
        · simp only [h3,if_false,bP];exact Ev.some' (by simp [h3])
      · exact Ev.some
  · have e1:(decide ((1:Int)<=(s.length:Int)/\(s.length:Int)<=24))=false:=decide_eq_false (by omega);simp only [e1,Bool.not_false,cond_true,Option.bind_some];exact Ev.some' (by simp [rName,bName,h1])
theorem Q6 (s:Str):(Lib.indexByte s 33= -1/\bang s=none)\/ ∃i:Nat,Lib.indexByte s 33=(i:Int)/\i<s.length/\bang s=some (s.take i,s.drop (i+1)):=by
  induction s with
  |nil=>exact .inl ⟨rfl,rfl⟩
  |cons c l ih=>
    by_cases h:c=33
    · subst h;exact .inr ⟨0,rfl,by simp,by simp [bang]⟩
    · have hc:(c==33)=false:=beq_eq_false_iff_ne.2 h;rcases ih with⟨h1,h2⟩|⟨i,h1,h2,h3⟩
      · exact .inl ⟨by simp [Lib.indexByte,hc,h1],by simp [bang,h,h2]⟩
      · refine .inr ⟨i+1,?_,by simp;omega,by simp [bang,h,h3]⟩;have:((i:Int)== -1)=false:=by rw [beq_eq_false_iff_ne];omega
        simp [Lib.indexByte,hc,h1,this]
theorem LQ {s:Str} (h:rName s=true):s.length<=24:=by
  unfold rName bName at h;simp only [Bool.and_eq_true,decide_eq_true_eq]at h;exact h.1.1.1.1.1.2
theorem Kh (s:Str) (hb:s.length<=1000000):Ev (fun k=>wO k s) (iX s):=by
  unfold wO ahV;by_cases hl:s.length<=49
  · refine Ev.cF (decide_eq_false (by omega)) ?_;unfold iX;rcases Q6 s with⟨h1,h2⟩|⟨i,h1,h2,h3⟩
    · simp only [h1,h2,Option.bind_some];refine Ev.cF (by decide) (Ev.bind (yc s) ?_);cases rName s<;>exact Ev.some
    · simp only [h1,h3,Option.bind_some];refine Ev.cT (decide_eq_true (by omega)) (Ev.mZ ⟨by omega,by omega⟩ ?_);rw [eO h2 (by omega)];refine Ev.mZ ⟨by omega,by omega⟩ (Ev.bind (yc _) ?_);simp only [Int.toNat_natCast];cases rName (s.take i)
      · exact Ev.some
      · simp only [cond_true,Bool.true_and];exact Ev.bind (yc _) Ev.some
  · refine Ev.cT (decide_eq_true (by omega)) (Ev.some' ?_);unfold iX;rcases Q6 s with⟨h1,h2⟩|⟨i,h1,h2,h3⟩
    · simp only [h2];cases h:rName s
      · rfl
      · exact absurd (LQ h) (by omega)
    · simp only [h3];cases h:rName (s.take i)
      · rfl
      · cases h':rName (s.drop (i+1))
        · rfl
        · have a:=LQ h;have b:=LQ h';rw [List.length_take]at a;rw [List.length_drop]at b;omega
theorem abR (s:Str):vU s=some (vT s):=by
  unfold vU vT;have h:(!aeh s)=s.all Ll:=by
    unfold aeh
    induction s with
    |nil=>rfl
    |cons c l ih=>
      rw [List.any_cons,List.all_cons,Bool.not_or,ih];congr 1
      unfold Pt Ll;generalize c.toNat=n;by_cases h1:32<=n<;>by_cases h2:n<=126<;>by_cases h3:n=34<;>by_cases h4:n=92<;>simp [h1,h2,h3,h4]
  rw [h];by_cases hl:s.length<=40
  · have:(s.length:Int)<=40:=by omega
    simp [hl,this]
  · have: ¬(s.length:Int)<=40:=by omega
    simp [hl,this]
theorem LU {l:List Operator} {t:Str} (h: ¬t∈l.map (·.text)):dn l t=(Iu,false):=by
  induction l with
  |nil=>rfl
  |cons o l ih=>
    simp only [List.map_cons,List.mem_cons,not_or]at h;rw [dn,if_neg (fun e=>h.1 e.symm),ih h.2]
theorem aw6 (t:Str):dn nN t=dn eG t:=by
  have h1:((nN.map (·.text)).all fun t=>decide (dn nN t=dn eG t))=true:=by kernel_rfl
  have h2:((eG.map (·.text)).all fun t=>decide (t∈nN.map (·.text)))=true:=by kernel_rfl
  by_cases h:t∈nN.map (·.text)
  · exact of_decide_eq_true (List.all_eq_true.1 h1 t h)
  · rw [LU h,LU (fun h'=>h (of_decide_eq_true (List.all_eq_true.1 h2 t h')))]
theorem aiG:nN.length=42:=by kernel_rfl
theorem vg (t:Str):Ev (fun k=>ku k t) (dn eG t):=by
  rw [<-aw6];have hl:nN.length<=1099511627776:=by rw [aiG];omega
  have key: ∃o:Unit⊕Int,Ev (fun k=>aX k nN t (nN.length:Int) ((0:Nat):Int)) o/\((o= .inl ()/\dn (nN.drop 0) t=(Iu,false))\/ ∃(j:Nat) (x:Operator),o= .inr (j:Int)/\nN[j]? =some x/\dn (nN.drop 0) t=(x,true)):=by
    refine lK (len:=nN.length) (p:=fun i=> ∃o:Unit⊕Int,Ev (fun k=>aX k nN t (nN.length:Int) (i:Int)) o/\((o= .inl ()/\dn (nN.drop i) t=(Iu,false))\/ ∃(j:Nat) (x:Operator),o= .inr (j:Int)/\nN[j]? =some x/\dn (nN.drop i) t=(x,true))) ?_ fun i hi ⟨o,ih,ho⟩=> ?_
    · refine⟨.inl (),Ev.succ ?_,.inl ⟨rfl,by simp [dn]⟩⟩;simp only [aX];exact Ev.cF (jP _) Ev.some
    · by_cases h:nN[i].text=t
      · refine⟨.inr (i:Int),Ev.succ ?_,.inr ⟨i,nN[i],rfl,bI hi,by rw [drop_cons hi,dn,if_pos h]⟩⟩;simp only [aX,rR,Int.toNat_natCast,bI hi,Option.bind_some,nn,if_true,lC hi,cond_true,eO hi hl];exact Ev.cT (by rw [beq_iff_eq];exact h) Ev.some
      · refine⟨o,Ev.succ ?_,by rw [drop_cons hi,dn,if_neg h];exact ho⟩;simp only [aX,rR,Int.toNat_natCast,bI hi,Option.bind_some,nn,if_true,lC hi,cond_true,eO hi hl];exact Ev.cF (by rw [beq_eq_false_iff_ne];exact h) ih
  obtain⟨o,h1,h2⟩:=key;rw [List.drop_zero]at h2;unfold ku fq;rcases h2 with⟨rfl,h2⟩|⟨j,x,rfl,h3,h2⟩
  · refine Ev.bind (x:= -1) (Ev.bind h1 Ev.some) ?_;rw [h2];exact Ev.cT (by decide) Ev.some
  · refine Ev.bind (x:=(j:Int)) (Ev.bind h1 Ev.some) ?_;rw [h2];simp only [Int.toNat_natCast,h3,Option.bind_some,nn,if_true];exact Ev.cF (decide_eq_false (by omega)) Ev.some
def IW:List Int->Int
  |[]=>0
  |a::l=>if a=0 then IW l else a
theorem wW (l:List Int) (hl:l.length<=1099511627776):Ev (fun k=>gK k l) (IW l):=by
  have key:Ev (fun k=>iy k l (l.length:Int) ((0:Nat):Int)) (if IW (l.drop 0)=0 then .inl ()else .inr (IW (l.drop 0))):=by
    refine lK (len:=l.length) (p:=fun i=>Ev (fun k=>iy k l (l.length:Int) (i:Int)) (if IW (l.drop i)=0 then .inl ()else .inr (IW (l.drop i)))) ?_ fun i hi ih=> ?_
    · refine Ev.succ ?_;simp only [iy];exact Ev.cF (jP _) (Ev.some' (by simp [IW]))
    · refine Ev.succ ?_;simp only [iy,Int.toNat_natCast,bI hi,Option.bind_some,nn,if_true,lC hi,cond_true,eO hi hl];rw [drop_cons hi,IW];by_cases h:l[i]=0
      · refine Ev.cF (by rw [h];rfl) (ih.to ?_);simp only [h,if_true]
      · refine Ev.cT (by rw [bne_iff_ne];exact h) (Ev.some' ?_);simp only [h,if_false]
  unfold gK;refine Ev.bind key ?_;rw [List.drop_zero];by_cases h:IW l=0
  · simp only [h,if_true,bL];exact Ev.some
  · simp only [h,if_false,bP];exact Ev.some
theorem abS (l:List Str) (hl:l.length<=1099511627776):Ev (fun k=>fJ k l) (!l.all rName):=by
  have key: ∃o:Unit⊕Int,Ev (fun k=>bJ k l (l.length:Int) ((0:Nat):Int)) o/\((o= .inl ()/\(l.drop 0).all rName=true)\/(∃j:Nat,o= .inr (j:Int))/\(l.drop 0).all rName=false):=by
    refine lK (len:=l.length) (p:=fun i=> ∃o:Unit⊕Int,Ev (fun k=>bJ k l (l.length:Int) (i:Int)) o/\((o= .inl ()/\(l.drop i).all rName=true)\/(∃j:Nat,o= .inr (j:Int))/\(l.drop i).all rName=false)) ?_ fun i hi ⟨o,ih,ho⟩=> ?_
    · refine⟨.inl (),Ev.succ ?_,.inl ⟨rfl,by simp⟩⟩;simp only [bJ];exact Ev.cF (jP _) Ev.some
    · have hn:Ev (fun k=>wz k l[i]) (!rName l[i]):=by unfold wz;exact Ev.bind (yc _) Ev.some
      by_cases h:rName l[i]=true
      · refine⟨o,Ev.succ ?_,by rw [drop_cons hi,List.all_cons,h,Bool.true_and];exact ho⟩;simp only [bJ,Int.toNat_natCast,bI hi,Option.bind_some,nn,if_true,lC hi,cond_true,eO hi hl];exact Ev.bind hn (Ev.cF (by rw [h];rfl) ih)
      · have h:rName l[i]=false:=by simpa using h
        refine⟨.inr (i:Int),Ev.succ ?_,.inr ⟨⟨i,rfl⟩,by rw [drop_cons hi,List.all_cons,h,Bool.false_and]⟩⟩;simp only [bJ,Int.toNat_natCast,bI hi,Option.bind_some,nn,if_true,lC hi,cond_true,eO hi hl];exact Ev.bind hn (Ev.cT (by rw [h];rfl) Ev.some)
  obtain⟨o,h1,h2⟩:=key;rw [List.drop_zero]at h2;unfold fJ;rcases h2 with⟨rfl,h2⟩|⟨⟨j,rfl⟩,h2⟩
  · refine Ev.bind (x:= -1) (by unfold gG;exact Ev.bind h1 Ev.some) (Ev.some' ?_);rw [h2];rfl
  · refine Ev.bind (x:=(j:Int)) (by unfold gG;exact Ev.bind h1 Ev.some) (Ev.some' ?_);rw [h2];simp
theorem aiH (a b:Int) (c:Str) (l:List Str) (d:List Int) (hl:l.length<=1099511627776):Ev (fun k=>iV k a b c l d false l (l.length:Int) 0) (pQ [] l):=by
  have key: ∀x:Bool,Ev (fun k=>iV k a b c l d x l (l.length:Int) ((0:Nat):Int)) (x||pQ (l.take 0) (l.drop 0)):=by
    refine lK (len:=l.length) (p:=fun i=> ∀x:Bool,Ev (fun k=>iV k a b c l d x l (l.length:Int) (i:Int)) (x||pQ (l.take i) (l.drop i))) (fun x=> ?_) fun i hi ih x=> ?_
    · refine Ev.succ ?_;simp only [iV];exact Ev.cF (jP _) (Ev.some' (by simp [pQ]))
    · refine Ev.succ ?_;have h2:i<=l.length:=by omega
      simp only [iV,Int.toNat_natCast,bI hi,Option.bind_some,nn,if_true,lC hi,cond_true,eO hi hl,true_and,h2];rw [drop_cons hi,pQ,<-List.take_succ_eq_append_getElem hi];cases x
      · refine Ev.cF rfl (Ev.bind (yB _ _ (by rw [List.length_take];omega)) ?_);simp only [Bool.false_or];exact ih _
      · exact Ev.cT rfl ((ih true).to (by simp))
  exact key false
def Z5 (n:Nd):Bool:= !(n.names.all rName)||(decide (n.kind=2)&& !oh n.text&& !iX n.text)||(decide (n.kind=3)&& !(dn eG n.text).2&& !iX n.text)||(decide (n.kind=18)&& !rName n.text)
def arT (n:Nd):Bool:=decide (n.kind=3)&&(dn eG n.text).2&& !gZ (n.args.length:Int) (dn eG n.text).1.least (dn eG n.text).1.most
def IX (n:Nd):Int:=if Z5 n=true then 7 else if arT n=true then 17 else if pQ [] n.names=true then 12 else 0
theorem XT (n:Nd) (h1:n.text.length<=1000000) (h2:n.names.length<=1000000):Ev (fun k=>om k n) (IX n):=by
  unfold om;refine Ev.bind (abS _ (by omega)) (Ev.bind (vg _) (Ev.bind (x:=(Z5 n,arT n)) ?_ ?_))
  · unfold yI Z5 arT gZ;by_cases a:n.kind=2
    · simp only [a];refine Ev.cT rfl (Ev.bind (x:= !(n.names.all rName)||(!oh n.text&& !iX n.text)) ?_ (Ev.some' (by simp)));unfold yC;cases n.names.all rName
      · exact Ev.some
      · refine Ev.cF rfl ?_;simp only [Lj,Option.bind_some];cases oh n.text
        · exact Ev.bind (Kh _ h1) (Ev.some' (by simp))
        · exact Ev.some
    by_cases b:n.kind=3
    · simp only [b];refine Ev.cF rfl (Ev.cT rfl (Ev.bind (x:= !(n.names.all rName)||(!(dn eG n.text).2&& !iX n.text)) ?_ ?_))
      · unfold yD;cases n.names.all rName
        · exact Ev.some
        · refine Ev.cF rfl ?_;cases(dn eG n.text).2
          · exact Ev.bind (Kh _ h1) (Ev.some' (by simp))
          · exact Ev.some
      · unfold yE;simp only [qB,Option.bind_some];cases(dn eG n.text).2
        · exact Ev.some' (by simp)
        · exact Ev.some' (by simp)
    by_cases c:n.kind=18
    · simp only [c];refine Ev.cF rfl (Ev.cF rfl (Ev.cT rfl (Ev.bind (x:= !(n.names.all rName)|| !rName n.text) ?_ (Ev.some' (by simp)))));unfold yH;cases n.names.all rName
      · exact Ev.some
      · exact Ev.cF rfl (Ev.bind (yc _) (Ev.some' (by simp)))
    · refine Ev.cF (beq_eq_false_iff_ne.2 a) (Ev.cF (beq_eq_false_iff_ne.2 b) (Ev.cF (beq_eq_false_iff_ne.2 c) (Ev.some' ?_)));simp [a,b,c]
  · refine Ev.bind (aiH _ _ _ n.names _ (by omega)) ?_;simp only [qC,Option.bind_some];refine Ev.bind (wW _ (by simp)) (Ev.some' ?_);unfold IX;cases Z5 n<;>cases arT n<;>cases pQ [] n.names<;>rfl
def CS (n:Nd):Shape:=
  if n.kind=0 then Shape.mk (0,0) (0,0) false true else
  if n.kind=1\/n.kind=2 then Shape.mk (0,0) (0,0) true false else
  if n.kind=3 then(if(dn eG n.text).2=true then Shape.mk (0,0) ((n.args.length:Int),(n.args.length:Int)) true false else Shape.mk (0,0) (1,4) true false)else
  if n.kind=4\/n.kind=5 then Shape.mk (0,0) (0,30) false false else
  if n.kind=6\/n.kind=12 then Shape.mk (1,1) (2,2) false false else
  if n.kind=7\/n.kind=8\/n.kind=9\/n.kind=13 then Shape.mk (1,4) ((n.names.length:Int)+1,(n.names.length:Int)+1) false false else
  if n.kind=10\/n.kind=11 then Shape.mk (1,4) (1,1) false false else
  if n.kind=14 then Shape.mk (0,0) (2,5) false false else
  if n.kind=16\/n.kind=17 then Shape.mk (1,30) ((n.names.length:Int),(n.names.length:Int)) false false else
  if n.kind=18 then Shape.mk (0,0) (1,1) true false else
  if n.kind=19\/n.kind=21 then Shape.mk (0,0) (3,3) false false else
  if n.kind=20 then Shape.mk (0,0) (0,0) false false else
  if n.kind=22 then Shape.mk (0,0) (2,30) false false else
  if n.kind=23 then Shape.mk (1,5) (2,2) false true else
  if n.kind=24 then Shape.mk (1,4) (1,1) false false else Shape.mk (0,0) (2,2) false false
theorem kinds {k:Int} (h:gZ k 0 28=true):k=0\/k=1\/k=2\/k=3\/k=4\/k=5\/k=6\/k=7\/k=8\/k=9\/k=10\/k=11\/k=12\/k=13\/k=14\/k=15\/k=16\/k=17\/k=18\/k=19\/k=20\/k=21\/k=22\/k=23\/k=24\/k=25\/k=26\/k=27\/k=28:=by
  unfold gZ at h;rw [decide_eq_true_eq]at h;omega
theorem Z6 (n:Nd) (hk:gZ n.kind 0 28=true) (h2:n.names.length<=1000000):Ev (fun k=>y9 k n) (CS n):=by
  have hw:IntKind.wrap .i64 ((n.names.length:Int)+1)=(n.names.length:Int)+1:=wrap64 (by omega) (by omega);rcases kinds hk with h|h|h|h|h|h|h|h|h|h|h|h|h|h|h|h|h|h|h|h|h|h|h|h|h|h|h|h|h
  case' inr.inr.inr.inl=>
    unfold y9 wo CS;simp only [h];refine Ev.cF rfl ?_;refine Ev.cg (Ev.bind (vg n.text) (g:=fun k (xu:Operator×Bool)=>cond xu.2 (some (Shape.mk (0,0) ((n.args.length:Int),(n.args.length:Int)) true false)) (some (Shape.mk (0,0) (1,4) true false))) ?_) (fun k=>rfl);cases(dn eG n.text).2<;>exact Ev.some
  all_goals
    unfold y9 wo Ai Aj Ak Al Am Ao uG CS;simp only [h,hw];exact Ev.some
theorem arh (n:Nd) (hk:gZ n.kind 0 28=true):(gZ (n.names.length:Int) (CS n).names.1 (CS n).names.2&&gZ (n.args.length:Int) (CS n).operands.1 (CS n).operands.2)=mD n:=by
  have d {a b:Int} (P:Prop) [Decidable P] (h:a=b) (x y:Int):gZ a x y=gZ b x y:=by rw [h]
  rcases kinds hk with h|h|h|h|h|h|h|h|h|h|h|h|h|h|h|h|h|h|h|h|h|h|h|h|h|h|h|h|h
  case' inr.inr.inr.inl=>
    unfold CS mD;simp only [h];cases(dn eG n.text).2
    · show(gZ _ 0 0&&gZ _ 1 4)=(gZ _ 0 0&&gZ _ 1 4)
      simp [ig,rP,sV]
    · show(gZ _ 0 0&&gZ _ _ _)=(gZ _ 0 0&&gZ _ 0 _)
      unfold gZ;simp [ig,rP,sV]
  all_goals
    unfold CS mD;simp only [h];unfold gZ;rw [Bool.eq_iff_iff];simp [ig,rP,sV,zM,zN,zO,zP,zQ,zR];try omega
def clT (n:Nd):Bool:=((CS n).text||decide (n.text=[]))&&((CS n).number||decide (n.n=0))&&(!decide (n.kind=1)||vT n.text)&&(!decide (n.kind=23)||gZ n.n 0 1)
theorem ari (n:Nd) (hk:gZ n.kind 0 28=true):clT n=kU n:=by
  rcases kinds hk with h|h|h|h|h|h|h|h|h|h|h|h|h|h|h|h|h|h|h|h|h|h|h|h|h|h|h|h|h
  case' inr.inr.inr.inl=>
    unfold clT kU CS;simp only [h];cases(dn eG n.text).2<;>simp
  all_goals
    unfold clT kU CS;simp only [h];simp [and_comm]
theorem agm (n:Nd):IX n=if mE n≠0 then mE n else if pQ [] n.names=true then 12 else 0:=by
  unfold IX Z5 arT mE;cases n.names.all rName
  · simp
  by_cases a:n.kind=2
  · simp only [a];cases oh n.text<;>cases iX n.text<;>simp
  by_cases b:n.kind=3
  · simp only [b];cases(dn eG n.text).2<;>cases iX n.text<;>cases gZ (n.args.length:Int) (dn eG n.text).1.least (dn eG n.text).1.most<;>simp
  by_cases c:n.kind=18
  · simp only [c];cases rName n.text<;>simp
  · simp [a,b,c]
theorem aw7 {e:List Nd} {i:Nat} {acc:List Int} (h:pR e i acc) (hi:i<=1000000) (l:List Int): ∀(m:Nat),m<=l.length-> ∀nx:Nat,nx<=i-> ∀tg:Bool,
    ∃z,nA m acc ((nx:Int) -1) tg l=some (if rT acc nx (l.take m).reverse=true then .inr (z,tg)else .inl (z,false)):=by
  intro m
  induction m with
  |zero=>intro _ nx _ tg;exact⟨(nx:Int) -1,by simp [nA,rT]⟩
  |succ m ih=>
    intro hm nx hnx tg;have hm':m<l.length:=by omega
    rw [nA,bI hm',Option.bind_some,ZM hm',rT];by_cases h1:l[m]=(nx:Int) -1
    · rw [nR (by rw [h1];simp)];by_cases h2:nx<1
      · refine⟨(nx:Int) -1,?_⟩;rw [vG (decide_eq_true (by omega))];have: ¬(1:Int)<=nx:=by omega
        simp [this]
      · obtain⟨j,rfl⟩: ∃j,nx=j+1:=⟨nx -1,by omega⟩;have e2:(((j+1:Nat):Int) -1)=(j:Int):=by omega
        rw [e2]at h1⊢;obtain⟨n',b,h3,h4,h5,h6,_⟩:=h.at_ j (by omega);obtain⟨b,rfl⟩: ∃b':Nat,b=b':=⟨b.toNat,by omega⟩;obtain⟨z,hz⟩:=ih (by omega) b (by omega) tg;refine⟨z,?_⟩;rw [nR (decide_eq_false (by omega)),if_pos (by omega),Int.toNat_natCast,h4,Option.bind_some,wrap64 (by omega) (by omega),hz];have e3:(1:Int)<=((j+1:Nat):Int):=by omega
        simp only [h1,e3,decide_true,Bool.true_and,Option.getD_some]
    · refine⟨(nx:Int) -1,?_⟩;rw [vG (by rw [bne_iff_ne];exact h1)];simp [h1]
theorem Z7 {e:List Nd} {i:Nat} {acc:List Int} (h:pR e i acc) (hi:i<=1000000) {n:Nd} (hn:e[i]? =some n) (h1:n.text.length<=1000000) (h2:n.names.length<=1000000) (h3:n.args.length<=1000000):
    Ev (fun k=>CQ k e (i:Int) acc) (bO (rT acc i n.args.reverse) n):=by
  unfold CQ;simp only [Int.toNat_natCast,hn,Option.bind_some,nn,if_true,qB,qC];unfold bO;by_cases hk:gZ n.kind 0 28=true
  case neg=>exact Ev.to (Ev.cF (by simpa [gZ]using hk) Ev.some) (if_pos (by simpa using hk)).symm
  refine Ev.to ?_ (if_neg (by simp [hk])).symm;refine Ev.cT hk (Ev.bind (Z6 n hk h2) (Ev.lY (x:= !mD n) ?_ ?_))
  · rw [<-arh n hk];unfold Az gZ;simp only [qB,Option.bind_some];cases decide ((CS n).names.1<=(n.names.length:Int)/\(n.names.length:Int)<=(CS n).names.2)
    · rfl
    · rfl
  cases hs:mD n
  · exact Ev.some
  simp only [Bool.not_true,cond_false,Bool.true_eq_false,if_false];obtain⟨z,hz⟩:=aw7 h hi n.args n.args.length (Nat.le_refl _) i (Nat.le_refl _) true;rw [List.take_length]at hz;generalize rT acc (i:Int) n.args.reverse=pl at hz⊢;have hj:wD acc n.kind n.n n.text n.names n.args (IntKind.wrap .i64 ((i:Int) -1)) true=some (z,pl):=by
    unfold wD;rw [if_pos (by omega),wrap64 (by omega) (by omega),hz];cases pl<;>rfl
  refine Ev.lY hj (Ev.lY (x:=kU n) ?_ ?_)
  · rw [<-ari n hk];unfold AP clT gZ;simp only [abR,qB,Option.bind_some,Iw,bne];have e1:((n.n==0):Bool)=decide (n.n=0):=by by_cases h:n.n=0<;>simp [h]
    have e2:((n.kind==1):Bool)=decide (n.kind=1):=by by_cases h:n.kind=1<;>simp [h]
    have e3:((n.kind==23):Bool)=decide (n.kind=23):=by by_cases h:n.kind=23<;>simp [h]
    simp only [e1,e2,e3];cases(CS n).text<;>cases(CS n).number<;>cases decide (n.text=[])<;>cases decide (n.n=0)<;>cases decide (n.kind=1)<;>cases vT n.text<;>cases decide (n.kind=23)<;>rfl
  have fin:Ev (fun k=>Option.bind (om k n) fun p=>Option.bind (gK k [if(!(pl&&kU n))=true then 5 else 0,if(!decide (n.kind=23)&& !gZ n.n 0 10000)=true then 3 else 0,p]) fun q=>some q) (IW [if(!(pl&&kU n))=true then 5 else 0,if(!decide (n.kind=23)&& !gZ n.n 0 10000)=true then 3 else 0,IX n]):=
    Ev.bind (XT n h1 h2) (Ev.bind (wW _ (by simp)) Ev.some)
  have hval:IW [if(!(pl&&kU n))=true then 5 else 0,if(!decide (n.kind=23)&& !gZ n.n 0 10000)=true then 3 else 0,IX n]=
      if(pl&&kU n)=false then 5 else if(decide (n.kind=0)&& !gZ n.n 0 10000)=true then 3 else if mE n≠0 then mE n else if pQ [] n.names=true then 12 else 0:=by
    rw [<-agm];cases hpc:(pl&&kU n)
    · rfl
    · have hcl:kU n=true:=by revert hpc;cases pl<;>simp
      have hrg:(!decide (n.kind=23)&& !gZ n.n 0 10000)=(decide (n.kind=0)&& !gZ n.n 0 10000):=by
        unfold kU at hcl;simp only [Bool.and_eq_true]at hcl;have hx:=hcl.1.1.2;by_cases a:n.kind=0
        · simp [a]
        by_cases b:n.kind=23
        · simp [b]
        have hx:n.n=0:=by simpa [a,b]using hx
        simp [a,b,hx,gZ]
      simp only [Bool.not_true,Bool.false_eq_true,if_false,Bool.true_eq_false,IW,if_true,hrg];cases(decide (n.kind=0)&& !gZ n.n 0 10000)
      · simp only [Bool.false_eq_true,if_false,if_true];split
        · rename_i h;exact h.symm
        · rfl
      · rfl
  rw [<-hval];refine Ev.cg fin fun k=> ?_;cases pl
  · simp only [cond_false];by_cases hl:n.kind=23
    · simp only [hl];rfl
    · rw [nR (beq_eq_false_iff_ne.2 hl)];simp only [hl,decide_false,Bool.not_false,Bool.true_and,Bool.false_and];rfl
  · simp only [cond_true];by_cases hl:n.kind=23
    · simp only [hl];rfl
    · rw [nR (beq_eq_false_iff_ne.2 hl)];simp only [hl,decide_false,Bool.not_false,Bool.true_and];rfl
theorem Dx {e:List Nd} (hL:nk e): ∀i,i<=e.length-> ∀acc,pR e i acc->Ev (fun k=>jd k e acc (e.length:Int) (i:Int)) (jT acc (e.drop i)):=by
  have hlen:=hL.len;refine down (fun acc h=> ?_) (fun i hi ih acc h=> ?_)
  · refine Ev.succ ?_;simp only [jd];exact Ev.cF (jP _) (Ev.some' (by simp [jT]))
  · refine Ev.succ ?_;obtain⟨h1,h2,h3⟩:=hL.nd i _ (bI hi);simp only [jd];refine Ev.cT (lC hi) (Ev.bind (Z7 h (by omega) (bI hi) h1 h2 h3) ?_);rw [drop_cons hi,jT,h.len];by_cases hc:bO (rT acc i e[i].args.reverse) e[i]=0
    · refine Ev.cF (by rw [hc];rfl) ?_;have aev:=h.len;have hp:=uI hc;have hok:=h.succ (bI hi) hp;refine Ev.mZ (by omega) (Ev.lY (x:=uQ acc e[i]) ?_ (Ev.mZ (nn i) (Ev.lY (x:=0) ?_ ?_)))
      · unfold MU uQ;simp only [Int.toNat_natCast,bI hi,Option.bind_some,nn,if_true];cases hargs:e[i].args with
        |nil=>simp [aev]
        |cons a l=>
          have ha:=U1 h _ i (Nat.le_refl _) hp a (by rw [hargs];simp);obtain⟨n',b,h4,h5,_⟩:=h.at_ a.toNat (by omega);rw [nR (by rw [beq_eq_false_iff_ne,List.length_cons];omega),List.getElem?_cons_zero,Option.bind_some,if_pos ha.1,List.getElem?_append_left (by omega),h5];simp only [h5,Option.getD_some,Option.bind_some]
      · rw [Int.toNat_natCast,List.getElem?_append_right (by omega),aev,Nat.sub_self];rfl
      · have e1:(acc++[0]).set ((i:Int).toNat) (uQ acc e[i])=acc++[uQ acc e[i]]:=by
          rw [Int.toNat_natCast,List.set_append_right _ _ (by omega),aev,Nat.sub_self];rfl
        rw [e1,eO hi (by omega)];refine(ih _ hok).to ?_;simp only [hc,ne_eq,not_true_eq_false,if_false]
    · refine Ev.cT (by rw [bne_iff_ne];exact hc) (Ev.some' ?_);simp only [ne_eq,hc,not_false_eq_true,if_true]
inductive Tm where
  |mk (x:Nd) (cs:List Tm)
namespace Tm
mutual
def size:Tm->Nat
  | .mk _ cs=>sizes cs+1
def sizes:List Tm->Nat
  |[]=>0
  |c::cs=>size c+sizes cs
end
def roots:Nat->List Tm->List Int
  |_,[]=>[]
  |b,c::cs=>((b+c.size -1:Nat):Int)::roots (b+c.size) cs
def nd (x:Nd) (b:Nat) (cs:List Tm):Nd:={x with args:=roots b cs}
mutual
def flat (b:Nat):Tm->List Nd
  | .mk x cs=>bq b cs++[nd x b cs]
def bq (b:Nat):List Tm->List Nd
  |[]=>[]
  |c::cs=>flat b c++bq (b+c.size) cs
end
theorem kY {b:Nat} {x:Nd} {cs:List Tm}:flat b (.mk x cs)=bq b cs++[nd x b cs]:=by rw [flat]
theorem iC {b:Nat} {c:Tm} {cs:List Tm}:bq b (c::cs)=flat b c++bq (b+c.size) cs:=by rw [bq]
theorem size_pos: ∀t:Tm,0<t.size
  | .mk x cs=>by unfold size;omega
mutual
theorem bT (b:Nat): ∀t:Tm,(flat b t).length=t.size
  | .mk x cs=>by unfold flat size;rw [List.length_append,bX b cs];rfl
theorem bX (b:Nat): ∀cs:List Tm,(bq b cs).length=sizes cs
  |[]=>rfl
  |c::cs=>by unfold bq sizes;rw [List.length_append,bT b c,bX (b+c.size) cs]
end
theorem jg: ∀(b:Nat) (cs:List Tm),(roots b cs).length=cs.length
  |_,[]=>rfl
  |b,c::cs=>by unfold roots;rw [List.length_cons,List.length_cons,jg (b+c.size) cs]
theorem dG: ∀a b:List Tm,sizes (a++b)=sizes a+sizes b
  |[],b=>by simp [sizes]
  |c::a,b=>by simp only [List.cons_append,sizes,dG a b];omega
theorem pU: ∀(b:Nat) (l m:List Tm),bq b (l++m)=bq b l++bq (b+sizes l) m
  |b,[],m=>by simp [bq,sizes]
  |b,c::l,m=>by simp only [List.cons_append,bq,sizes,pU (b+c.size) l m,List.append_assoc,Nat.add_assoc]
theorem AV: ∀(b:Nat) (l m:List Tm),roots b (l++m)=roots b l++roots (b+sizes l) m
  |b,[],m=>by simp [roots,sizes]
  |b,c::l,m=>by simp only [List.cons_append,roots,sizes,AV (b+c.size) l m,Nat.add_assoc]
def Seg (e:List Nd) (b:Nat) (s:Tm):Prop:= ∃pre post,e=pre++(flat b s++post)/\pre.length=b
theorem Seg.whole (t:Tm):Seg (flat 0 t) 0 t:=⟨[],[],by simp,rfl⟩
theorem Seg.lt {e:List Nd} {b:Nat} {s:Tm} (h:Seg e b s):b+s.size<=e.length:=by
  obtain⟨pre,post,rfl,rfl⟩:=h;simp only [List.length_append,bT];omega
theorem Seg.node {e:List Nd} {b:Nat} {x:Nd} {cs:List Tm} (h:Seg e b (.mk x cs)):e[b+sizes cs]? =some (nd x b cs):=by
  obtain⟨pre,post,rfl,rfl⟩:=h;rw [List.getElem?_append_right (by omega),show pre.length+sizes cs -pre.length=sizes cs by omega];rw [kY,List.append_assoc,List.getElem?_append_right (by rw [bX];exact Nat.le_refl _),bX,Nat.sub_self];rfl
theorem Seg.kid {e:List Nd} {b:Nat} {x:Nd} {l m:List Tm} {c:Tm} (h:Seg e b (.mk x (l++c::m))):Seg e (b+sizes l) c:=by
  obtain⟨pre,post,rfl,rfl⟩:=h;refine⟨pre++bq pre.length l,bq (pre.length+sizes l+c.size) m++([nd x pre.length (l++c::m)]++post),?_,by rw [List.length_append,bX]⟩;rw [kY,pU,iC];simp only [List.append_assoc]
theorem Gx {b:Nat} {l m:List Tm} {c:Tm}:(roots b (l++c::m))[l.length]? =some (((b+sizes l+c.size -1:Nat):Int)):=by
  rw [AV,List.getElem?_append_right (by rw [jg];exact Nat.le_refl _),jg,Nat.sub_self];rfl
end Tm
end Go.VL
end
section
namespace Go.VL
namespace Tm
mutual
def bgT (b:Nat):Tm->List Int
  | .mk _ cs=>ru b cs++[(b:Int)]
def ru (b:Nat):List Tm->List Int
  |[]=>[]
  |c::cs=>bgT b c++ru (b+c.size) cs
end
theorem Z8 {b:Nat} {x:Nd} {cs:List Tm}:bgT b (.mk x cs)=ru b cs++[(b:Int)]:=by rw [bgT]
mutual
theorem acY (b:Nat): ∀t:Tm,(bgT b t).length=t.size
  | .mk x cs=>by rw [Z8];unfold size;rw [List.length_append,tJ b cs];rfl
theorem tJ (b:Nat): ∀cs:List Tm,(ru b cs).length=sizes cs
  |[]=>rfl
  |c::cs=>by unfold ru sizes;rw [List.length_append,acY b c,tJ (b+c.size) cs]
end
theorem yg: ∀(b:Nat) (l m:List Tm),ru b (l++m)=ru b l++ru (b+sizes l) m
  |b,[],m=>by simp [ru,sizes]
  |b,c::l,m=>by simp only [List.cons_append,ru,sizes,yg (b+c.size) l m,List.append_assoc,Nat.add_assoc]
theorem aiI {b:Nat} {t:Tm}:(bgT b t)[t.size -1]? =some (b:Int):=by
  cases t with
  |mk x cs=>
    rw [Z8];have:(mk x cs).size -1=sizes cs:=by unfold size;omega
    rw [this,List.getElem?_append_right (by rw [tJ];exact Nat.le_refl _),tJ,Nat.sub_self];rfl
theorem nD (t:Tm):sizes [t]=t.size:=by simp [sizes]
theorem wH (b:Nat) (t:Tm):bq b [t]=flat b t:=by simp [bq]
theorem aiJ (b:Nat) (t:Tm):ru b [t]=bgT b t:=by simp [ru]
theorem Ww (b:Nat) (t:Tm):roots b [t]=[((b+t.size -1:Nat):Int)]:=by simp [roots]
theorem Vn {b:Nat} {l m:List Tm} {t:Tm}:(ru b (l++t::m))[sizes l+t.size -1]? =some ((b+sizes l:Nat):Int):=by
  have hp:=t.size_pos;rw [yg,List.getElem?_append_right (by rw [tJ];omega),tJ];unfold ru;rw [List.getElem?_append_left (by rw [acY];omega),show sizes l+t.size -1 -sizes l=t.size -1 by omega,aiI]
theorem Z9 {ts:List Tm} {acc:List Int} (ha:acc=ru 0 ts): ∀(l:List Int) (t1 rest:List Tm),ts=t1++rest->rT acc ((sizes t1:Nat):Int) l=true-> ∃front mid,t1=front++mid/\l.reverse=roots (sizes front) mid
  |[],t1,rest,_,_=>⟨t1,[],by simp,by simp [roots]⟩
  |a::l,t1,rest,hts,hp=>by
    rw [rT,Bool.and_eq_true,Bool.and_eq_true,decide_eq_true_eq,decide_eq_true_eq]at hp;obtain⟨⟨h1,h2⟩,h3⟩:=hp;rcases List.eq_nil_or_concat t1 with rfl|⟨t2,t,rfl⟩
    · simp [sizes]at h2
    rw [List.concat_eq_append]at*;have hpos:=t.size_pos;have hsz:sizes (t2++[t])=sizes t2+t.size:=by rw [dG,nD]
    have hget:acc[(((sizes (t2++[t]):Nat):Int) -1).toNat]? =some ((sizes t2:Nat):Int):=by
      rw [ha,hts,List.append_assoc,hsz,show((((sizes t2+t.size:Nat):Int) -1).toNat)=sizes t2+t.size -1 by omega];have:=Vn (b:=0) (l:=t2) (m:=rest) (t:=t);rw [Nat.zero_add]at this;exact this
    rw [hget,Option.getD_some]at h3;obtain⟨front,mid,e1,e2⟩:=Z9 ha l t2 ([t]++rest) (by rw [hts,List.append_assoc]) h3;refine⟨front,mid++[t],by rw [e1,List.append_assoc],?_⟩;rw [List.reverse_cons,e2,AV,Ww];congr 2
    rw [h1,hsz,e1,dG];omega
def bare (n:Nd):Nd:={n with args:=[]}
theorem amx {n:Nd} {b:Nat} {cs:List Tm} (h:n.args=roots b cs):nd (bare n) b cs=n:=by
  unfold nd bare;cases n;simp only at h⊢;rw [h]
theorem row_step {ts:List Tm} {acc:List Int} {n:Nd} (ha:acc=ru 0 ts) (hp:rT acc (acc.length:Int) n.args.reverse=true):
    ∃front last,ts=front++last/\n.args=roots (sizes front) last/\bq 0 (front++[.mk (bare n) last])=bq 0 ts++[n]/\ru 0 (front++[.mk (bare n) last])=acc++[uQ acc n]:=by
  have hl:acc.length=sizes ts:=by rw [ha,tJ]
  rw [hl]at hp;obtain⟨front,last,e1,e2⟩:=Z9 ha n.args.reverse ts [] (by simp) hp;rw [List.reverse_reverse]at e2;refine⟨front,last,e1,e2,?_,?_⟩
  · rw [pU,wH,kY,amx (by rw [Nat.zero_add];exact e2),e1,pU,List.append_assoc]
  · rw [yg,aiJ,Z8,ha,e1,yg,List.append_assoc];congr 3
    rw [Nat.zero_add];unfold uQ;rw [e2];cases last with
    |nil=>simp [roots,ru,tJ]
    |cons c cs=>
      simp only [roots];have h1:=Vn (b:=0) (l:=front) (m:=cs) (t:=c);rw [Nat.zero_add,yg,Nat.zero_add]at h1;rw [Int.toNat_natCast,h1,Option.getD_some]
mutual
def AX (b:Nat) (p k:Int):Tm->List (Int×Int)
  | .mk _ cs=>iN b ((b+sizes cs:Nat):Int) 0 cs++[(p,k)]
def iN (b:Nat) (p:Int) (k:Nat):List Tm->List (Int×Int)
  |[]=>[]
  |c::cs=>AX b p k c++iN (b+c.size) p (k+1) cs
end
def bH (b:Nat):List Tm->List (Int×Int)
  |[]=>[]
  |c::cs=>AX b (-1) 0 c++bH (b+c.size) cs
theorem za {b:Nat} {p k:Int} {x:Nd} {cs:List Tm}:AX b p k (.mk x cs)=iN b ((b+sizes cs:Nat):Int) 0 cs++[(p,k)]:=by rw [AX]
mutual
theorem jk (b:Nat) (p k:Int): ∀t:Tm,(AX b p k t).length=t.size
  | .mk x cs=>by rw [za];unfold size;rw [List.length_append,jW];rfl
theorem jW (b:Nat) (p:Int) (k:Nat): ∀cs:List Tm,(iN b p k cs).length=sizes cs
  |[]=>rfl
  |c::cs=>by unfold iN sizes;rw [List.length_append,jk b p k c,jW (b+c.size) p (k+1) cs]
end
theorem sG: ∀(b:Nat) (cs:List Tm),(bH b cs).length=sizes cs
  |_,[]=>rfl
  |b,c::cs=>by unfold bH sizes;rw [List.length_append,jk,sG (b+c.size) cs]
theorem Fe: ∀(b:Nat) (l m:List Tm),bH b (l++m)=bH b l++bH (b+sizes l) m
  |b,[],m=>by simp [bH,sizes]
  |b,c::l,m=>by simp only [List.cons_append,bH,sizes,Fe (b+c.size) l m,List.append_assoc,Nat.add_assoc]
theorem Wx (b:Nat) (t:Tm):bH b [t]=AX b (-1) 0 t:=by simp [bH]
theorem Wy: ∀(b:Nat) (p:Int) (k:Nat) (cs:List Tm) (j:Nat) (a:Int),(roots b cs)[j]? =some a-> ∃r:Nat,a=((b+r:Nat):Int)/\r<sizes cs/\(iN b p k cs)[r]? =some (p,((k+j:Nat):Int))
  |b,p,k,[],j,a,h=>by simp [roots]at h
  |b,p,k,c::cs,j,a,h=>by
    have hpos:=c.size_pos;cases j with
    |zero=>
      simp only [roots,List.getElem?_cons_zero,Option.some.injEq]at h;refine⟨c.size -1,by rw [<-h];congr 1;omega,by simp only [sizes];omega,?_⟩;unfold iN;rw [List.getElem?_append_left (by rw [jk];omega)];cases c with
      |mk x ds=>
        rw [za,show(mk x ds).size -1=sizes ds by unfold size;omega,List.getElem?_append_right (by rw [jW];exact Nat.le_refl _),jW,Nat.sub_self];rfl
    |succ j=>
      simp only [roots,List.getElem?_cons_succ]at h;obtain⟨r,h1,h2,h3⟩:=Wy (b+c.size) p (k+1) cs j a h;refine⟨c.size+r,by rw [h1,Nat.add_assoc],by simp only [sizes];omega,?_⟩;unfold iN;rw [List.getElem?_append_right (by rw [jk];omega),jk,show c.size+r -c.size=r by omega,h3];congr 3
      omega
mutual
theorem acZ: ∀(b:Nat) (p k:Int) (t:Tm) (q:Nat) (n:Nd) (j:Nat) (a:Int),(flat b t)[q]? =some n->n.args[j]? =some a-> ∃r:Nat,a=((b+r:Nat):Int)/\r<q/\(AX b p k t)[r]? =some (((b+q:Nat):Int),(j:Int))
  |b,p,k,.mk x cs,q,n,j,a,h1,h2=>by
    rw [kY]at h1;rw [za];by_cases hq:q<sizes cs
    · rw [List.getElem?_append_left (by rw [bX];exact hq)]at h1;obtain⟨r,h3,h4,h5⟩:=aac b ((b+sizes cs:Nat):Int) 0 cs q n j a h1 h2;exact⟨r,h3,h4,by rw [List.getElem?_append_left (by rw [jW];omega)];exact h5⟩
    · have hlt:=(List.getElem?_eq_some_iff.1 h1).1;rw [List.length_append,bX]at hlt;obtain rfl:q=sizes cs:=by simp at hlt;omega
      rw [List.getElem?_append_right (by rw [bX];exact Nat.le_refl _),bX,Nat.sub_self,List.getElem?_cons_zero,Option.some.injEq]at h1;subst h1;obtain⟨r,h3,h4,h5⟩:=Wy b ((b+sizes cs:Nat):Int) 0 cs j a h2;refine⟨r,h3,h4,?_⟩;rw [List.getElem?_append_left (by rw [jW];exact h4),h5,Nat.zero_add]
theorem aac: ∀(b:Nat) (p:Int) (k:Nat) (cs:List Tm) (q:Nat) (n:Nd) (j:Nat) (a:Int),(bq b cs)[q]? =some n->n.args[j]? =some a-> ∃r:Nat,a=((b+r:Nat):Int)/\r<q/\(iN b p k cs)[r]? =some (((b+q:Nat):Int),(j:Int))
  |b,p,k,[],q,n,j,a,h1,h2=>by simp [bq]at h1
  |b,p,k,c::cs,q,n,j,a,h1,h2=>by
    rw [iC]at h1;unfold iN;by_cases hq:q<c.size
    · rw [List.getElem?_append_left (by rw [bT];exact hq)]at h1;obtain⟨r,h3,h4,h5⟩:=acZ b p k c q n j a h1 h2;exact⟨r,h3,h4,by rw [List.getElem?_append_left (by rw [jk];omega)];exact h5⟩
    · rw [List.getElem?_append_right (by rw [bT];omega),bT]at h1;obtain⟨r,h3,h4,h5⟩:=aac (b+c.size) p (k+1) cs (q -c.size) n j a h1 h2;refine⟨c.size+r,by rw [h3,Nat.add_assoc],by omega,?_⟩;rw [List.getElem?_append_right (by rw [jk];omega),jk,show c.size+r -c.size=r by omega,h5];congr 3
      omega
end
theorem PD: ∀(b:Nat) (cs:List Tm) (q:Nat) (n:Nd) (j:Nat) (a:Int),(bq b cs)[q]? =some n->n.args[j]? =some a-> ∃r:Nat,a=((b+r:Nat):Int)/\r<q/\(bH b cs)[r]? =some (((b+q:Nat):Int),(j:Int))
  |b,[],q,n,j,a,h1,h2=>by simp [bq]at h1
  |b,c::cs,q,n,j,a,h1,h2=>by
    rw [iC]at h1;unfold bH;by_cases hq:q<c.size
    · rw [List.getElem?_append_left (by rw [bT];exact hq)]at h1;obtain⟨r,h3,h4,h5⟩:=acZ b (-1) 0 c q n j a h1 h2;exact⟨r,h3,h4,by rw [List.getElem?_append_left (by rw [jk];omega)];exact h5⟩
    · rw [List.getElem?_append_right (by rw [bT];omega),bT]at h1;obtain⟨r,h3,h4,h5⟩:=PD (b+c.size) cs (q -c.size) n j a h1 h2;refine⟨c.size+r,by rw [h3,Nat.add_assoc],by omega,?_⟩;rw [List.getElem?_append_right (by rw [jk];omega),jk,show c.size+r -c.size=r by omega,h5];congr 3
      omega
def Says (b:Nat) (l:List Nd) (r:Nat) (P j:Int):Prop:= ∃(q j':Nat) (n:Nd),P=((b+q:Nat):Int)/\j=(j':Int)/\r<q/\l[q]? =some n/\n.args[j']? =some ((b+r:Nat):Int)
theorem LV {b:Nat} {l m:List Nd} {r:Nat} {P j:Int} (h:Says b l r P j):Says b (l++m) r P j:=by
  obtain⟨q,j',n,h1,h2,h3,h4,h5⟩:=h;exact⟨q,j',n,h1,h2,h3,by rw [List.getElem?_append_left (List.getElem?_eq_some_iff.1 h4).1];exact h4,h5⟩
theorem Q7 {b:Nat} {l m:List Nd} {r:Nat} {P j:Int} (h:Says (b+l.length) m r P j):Says b (l++m) (l.length+r) P j:=by
  obtain⟨q,j',n,h1,h2,h3,h4,h5⟩:=h;exact⟨l.length+q,j',n,by rw [h1,Nat.add_assoc],h2,by omega,by rw [List.getElem?_append_right (by omega),show l.length+q -l.length=q by omega];exact h4,by rw [h5,Nat.add_assoc]⟩
theorem aew: ∀(b:Nat) (cs:List Tm) (k:Nat) (c:Tm) (l m:List Tm),cs=l++c::m->(roots b cs)[l.length]? =some ((b+(sizes l+c.size -1):Nat):Int):=by
  intro b cs k c l m h;have hp:=c.size_pos;rw [h,Gx];congr 2
  omega
mutual
theorem Wz: ∀(b:Nat) (p k:Int) (t:Tm) (r:Nat) (P j:Int),(AX b p k t)[r]? =some (P,j)->(r=t.size -1/\P=p/\j=k)\/Says b (flat b t) r P j
  |b,p,k,.mk x cs,r,P,j,h=>by
    rw [za]at h;by_cases hr:r<sizes cs
    · rw [List.getElem?_append_left (by rw [jW];exact hr)]at h;rw [kY];rcases Q8 b ((b+sizes cs:Nat):Int) 0 cs r P j h with⟨l,c,m,e1,e2,e3,e4⟩|hs
      · right;refine⟨sizes cs,l.length,nd x b cs,e3,by rw [e4,Nat.zero_add],hr,?_,?_⟩
        · rw [List.getElem?_append_right (by rw [bX];exact Nat.le_refl _),bX,Nat.sub_self];rfl
        · show(roots b cs)[l.length]? =_
          rw [aew b cs 0 c l m e1,e2]
      · exact .inr (LV hs)
    · have hlt:=(List.getElem?_eq_some_iff.1 h).1;rw [List.length_append,jW]at hlt;obtain rfl:r=sizes cs:=by simp at hlt;omega
      rw [List.getElem?_append_right (by rw [jW];exact Nat.le_refl _),jW,Nat.sub_self,List.getElem?_cons_zero]at h;cases h;left;exact⟨by unfold size;omega,rfl,rfl⟩
theorem Q8: ∀(b:Nat) (p:Int) (k:Nat) (cs:List Tm) (r:Nat) (P j:Int),(iN b p k cs)[r]? =some (P,j)->
    (∃l c m,cs=l++c::m/\r=sizes l+c.size -1/\P=p/\j=((k+l.length:Nat):Int))\/Says b (bq b cs) r P j
  |b,p,k,[],r,P,j,h=>by simp [iN]at h
  |b,p,k,c::cs,r,P,j,h=>by
    unfold iN at h;rw [iC];by_cases hr:r<c.size
    · rw [List.getElem?_append_left (by rw [jk];exact hr)]at h;rcases Wz b p k c r P j h with⟨e1,e2,e3⟩|hs
      · exact .inl ⟨[],c,cs,rfl,by simp [sizes,e1],e2,by simp [e3]⟩
      · exact .inr (LV hs)
    · rw [List.getElem?_append_right (by rw [jk];omega),jk]at h;rcases Q8 (b+c.size) p (k+1) cs (r -c.size) P j h with⟨l,d,m,e1,e2,e3,e4⟩|hs
      · refine .inl ⟨c::l,d,m,by rw [e1];rfl,?_,e3,by rw [e4,List.length_cons];omega⟩;have:=d.size_pos;simp only [sizes];omega
      · right;have h2:Says (b+(flat b c).length) (bq (b+c.size) cs) (r -c.size) P j:=by rw [bT];exact hs
        have:=Q7 h2;rw [bT,show c.size+(r -c.size)=r by omega]at this;exact this
end
theorem JD: ∀(b:Nat) (cs:List Tm) (r:Nat) (P j:Int),(bH b cs)[r]? =some (P,j)->(P= -1/\j=0)\/Says b (bq b cs) r P j
  |b,[],r,P,j,h=>by simp [bH]at h
  |b,c::cs,r,P,j,h=>by
    unfold bH at h;rw [iC];by_cases hr:r<c.size
    · rw [List.getElem?_append_left (by rw [jk];exact hr)]at h;rcases Wz b (-1) 0 c r P j h with⟨e1,e2,e3⟩|hs
      · exact .inl ⟨e2,e3⟩
      · exact .inr (LV hs)
    · rw [List.getElem?_append_right (by rw [jk];omega),jk]at h;rcases JD (b+c.size) cs (r -c.size) P j h with hs|hs
      · exact .inl hs
      · right;have h2:Says (b+(flat b c).length) (bq (b+c.size) cs) (r -c.size) P j:=by rw [bT];exact hs
        have:=Q7 h2;rw [bT,show c.size+(r -c.size)=r by omega]at this;exact this
end Tm
end Go.VL
end
section
namespace Go.VL
open Tm
theorem ac0: ∀(l:List Nd) (acc acc':List Int),jT acc l= .inl acc'-> ∀(i:Nat) n,l[i]? =some n->bO true n=0
  |[],_,_,_,i,n,hn=>by simp at hn
  |m::l,acc,acc',h,i,n,hn=>by
    rw [jT]at h;by_cases hc:bO (rT acc acc.length m.args.reverse) m=0
    · rw [if_neg (fun k=>k hc)]at h;cases i with
      |zero=>
        simp only [List.getElem?_cons_zero,Option.some.injEq]at hn;subst hn;rw [uI hc]at hc;exact hc
      |succ i=>exact ac0 l _ acc' h i n (by simpa using hn)
    · rw [if_pos hc]at h;cases h
def IY (a:Int):List Int->Nat->Option Nat
  |[],_=>none
  |x::l,j=>if x=a then some j else IY a l (j+1)
def xG (a:Int):List Nd->Nat->Option (Nat×Nat)
  |[],_=>none
  |n::l,k=>match IY a n.args 0 with
    |some j=>some (k,j)
    |none=>xG a l (k+1)
theorem aad {a:Int}: ∀{l:List Int} {j j':Nat},IY a l j=some j'-> ∃d,j'=j+d/\l[d]? =some a
  |[],j,j',h=>by simp [IY]at h
  |x::l,j,j',h=>by
    rw [IY]at h;by_cases hx:x=a
    · rw [if_pos hx]at h;cases h;exact⟨0,rfl,by simp [hx]⟩
    · rw [if_neg hx]at h;obtain⟨d,e1,e2⟩:=aad h;exact⟨d+1,by omega,by simpa using e2⟩
theorem aae {a:Int}: ∀{l:List Int} {j:Nat},IY a l j=none-> ∀d:Nat,l[d]? ≠some a
  |[],j,h,d=>by simp
  |x::l,j,h,d=>by
    rw [IY]at h;by_cases hx:x=a
    · rw [if_pos hx]at h;cases h
    · rw [if_neg hx]at h;cases d with
      |zero=>simpa using hx
      |succ d=>simpa using aae h d
theorem WA {a:Int}: ∀{l:List Nd} {k k' j:Nat},xG a l k=some (k',j)-> ∃d n,k'=k+d/\l[d]? =some n/\n.args[j]? =some a
  |[],k,k',j,h=>by simp [xG]at h
  |n::l,k,k',j,h=>by
    rw [xG]at h;cases hf:IY a n.args 0 with
    |some j'=>
      rw [hf]at h;cases h;obtain⟨d,e1,e2⟩:=aad hf;exact⟨0,n,rfl,rfl,by rw [e1,Nat.zero_add];exact e2⟩
    |none=>
      rw [hf]at h;obtain⟨d,m,e1,e2,e3⟩:=WA h;exact⟨d+1,m,by omega,by simpa using e2,e3⟩
theorem WB {a:Int}: ∀{l:List Nd} {k:Nat},xG a l k=none-> ∀(d:Nat) n (j:Nat),l[d]? =some n->n.args[j]? ≠some a
  |[],k,h,d,n,j,hn=>by simp at hn
  |m::l,k,h,d,n,j,hn=>by
    rw [xG]at h;cases hf:IY a m.args 0 with
    |some j'=>rw [hf]at h;cases h
    |none=>
      rw [hf]at h;cases d with
      |zero=>simp only [List.getElem?_cons_zero,Option.some.injEq]at hn;subst hn;exact aae hf j
      |succ d=>exact WB h d n j (by simpa using hn)
theorem Vo {e:List Nd} {k:Nat} {n:Nd} (hn:e[k]? =some n) (hl:n.args.length<=1000000) (a:Int): ∀j,j<=n.args.length->Ev (fun f=>oG f e a (k:Int) (j:Int)) (match IY a (n.args.drop j) j with|some j'=> .inr ((k:Int),(j':Int))|none=> .inl ()):=by
  refine down ?_ fun j hj ih=> ?_
  · refine Ev.succ ?_;simp only [oG,Int.toNat_natCast,hn,Option.bind_some,nn,if_true];exact Ev.cF (jP _) (Ev.some' (by simp [IY]))
  · refine Ev.succ ?_;simp only [oG,Int.toNat_natCast,hn,bI hj,Option.bind_some,nn,if_true,lC hj,cond_true,eO hj (show n.args.length<=1099511627776 by omega)];rw [drop_cons hj,IY];by_cases h:n.args[j]=a
    · refine Ev.cT (by rw [beq_iff_eq];exact h) (Ev.some' ?_);rw [if_pos h]
    · refine Ev.cF (by rw [beq_eq_false_iff_ne];exact h) ?_;rw [if_neg h];exact ih
theorem IZ {e:List Nd} (hL:nk e) (a:Int): ∀k,k<=e.length->Ev (fun f=>oH f e a (k:Int)) (match xG a (e.drop k) k with|some (k',j)=> .inr ((k':Int),(j:Int))|none=> .inl ()):=by
  have hlen:=hL.len;refine down ?_ fun k hk ih=> ?_
  · refine Ev.succ ?_;simp only [oH];exact Ev.cF (jP _) (Ev.some' (by simp [xG]))
  · refine Ev.succ ?_;simp only [oH];rw [eO hk (by omega)];have h0:=Vo (bI hk) (hL.nd k _ (bI hk)).2.2 a 0 (Nat.zero_le _);rw [List.drop_zero]at h0;refine Ev.cT (lC hk) (Ev.bind h0 ?_);rw [drop_cons hk,xG];cases IY a e[k].args 0 with
    |some j=>simp only [bP];exact Ev.some
    |none=>simp only [bL];exact ih
theorem yh {ts:List Tm} {e:List Nd} (he:e=bq 0 ts) (hL:nk e) {i:Nat} {P j:Int} (hi:i<e.length) (hp:(bH 0 ts)[i]? =some (P,j)):Ev (fun k=>pJ k e (i:Int)) (P,j):=by
  have hlen:=hL.len;unfold pJ;rw [eO hi (by omega)];refine Ev.bind (IZ hL (i:Int) (i+1) (by omega)) ?_;cases hf:xG (i:Int) (e.drop (i+1)) (i+1)with
  |some q=>
    obtain⟨k',j'⟩:=q;obtain⟨d,n,e1,e2,e3⟩:=WA hf;rw [List.getElem?_drop]at e2;rw [he]at e2;obtain⟨r,h1,h2,h3⟩:=PD 0 ts (i+1+d) n j' (i:Int) e2 e3;obtain rfl:r=i:=by omega
    rw [hp]at h3;cases h3;simp only [bP];exact Ev.some' (by rw [e1,Nat.zero_add])
  |none=>
    simp only [bL];rcases JD 0 ts i P j hp with⟨rfl,rfl⟩|⟨q,j',n,h1,h2,h3,h4,h5⟩
    · exact Ev.some
    · exfalso;rw [<-he]at h4;have:=WB hf (q -(i+1)) n j' (by rw [List.getElem?_drop,show i+1+(q -(i+1))=q by omega];exact h4);rw [Nat.zero_add]at h5;exact this h5
theorem agn {b:Nat} {p k p' k':Int} (t:Tm):(AX b p k t).set (t.size -1) (p',k')=AX b p' k' t:=by
  cases t with
  |mk x cs=>
    rw [za,za,show(mk x cs).size -1=sizes cs by unfold size;omega,List.set_append_right _ _ (by rw [jW];exact Nat.le_refl _),jW,Nat.sub_self];rfl
theorem Q9 {i:Nat} {args:List Int} (hl:args.length<=1000000) (A B:List (Int×Int)) (last:List Tm) (ha:args=roots A.length last):
    ∀(rest:List Tm) (done:List Tm),last=done++rest->Ev (fun k=>nu k ((A++iN A.length (i:Int) 0 done++bH (A.length+sizes done) rest++B).map Prod.fst) ((A++iN A.length (i:Int) 0 done++bH (A.length+sizes done) rest++B).map Prod.snd) (i:Int) args (args.length:Int) (done.length:Int))
      ((A++iN A.length (i:Int) 0 last++B).map Prod.fst,(A++iN A.length (i:Int) 0 last++B).map Prod.snd):=by
  intro rest
  induction rest with
  |nil=>
    intro done hd;rw [List.append_nil]at hd;subst hd;refine Ev.succ ?_;simp only [nu];have:args.length=last.length:=by rw [ha,jg]
    rw [this];exact Ev.cF (jP _) (Ev.some' (by simp [bH]))
  |cons c rest ih=>
    intro done hd;have hpos:=c.size_pos;have hal:args.length=last.length:=by rw [ha,jg]
    have hdl:done.length<args.length:=by rw [hal,hd];simp
    have hget:args[done.length]? =some ((A.length+sizes done+c.size -1:Nat):Int):=by rw [ha,hd];exact Gx
    refine Ev.succ ?_;simp only [nu,Int.toNat_natCast,hget,Option.bind_some,nn,if_true,eO hdl (show args.length<=1099511627776 by omega)];refine Ev.cT (lC hdl) ?_;have hL:(A++iN A.length (i:Int) 0 done).length=A.length+sizes done:=by rw [List.length_append,jW]
    have hset:(A++iN A.length (i:Int) 0 done++bH (A.length+sizes done) (c::rest)++B).set (A.length+sizes done+c.size -1) ((i:Int),(done.length:Int))=A++iN A.length (i:Int) 0 (done++[c])++bH (A.length+sizes (done++[c])) rest++B:=by
      have e1:iN A.length (i:Int) 0 (done++[c])=iN A.length (i:Int) 0 done++AX (A.length+sizes done) (i:Int) (done.length:Int) c:=by
        have gen: ∀(d:List Tm) (b k:Nat),iN b (i:Int) k (d++[c])=iN b (i:Int) k d++AX (b+sizes d) (i:Int) ((k+d.length:Nat):Int) c:=by
          intro d
          induction d with
          |nil=>intro b k;simp [iN,sizes]
          |cons x d ih=>
            intro b k;simp only [List.cons_append,iN,ih,List.append_assoc,sizes,Nat.add_assoc,List.length_cons];congr 4
            omega
        rw [gen,Nat.zero_add]
      rw [e1,dG,nD];show(A++iN A.length (i:Int) 0 done++(AX (A.length+sizes done) (-1) 0 c++bH (A.length+sizes done+c.size) rest)++B).set _ _=_
      rw [List.append_assoc,List.set_append_right _ _ (by rw [hL];omega),hL,show A.length+sizes done+c.size -1 -(A.length+sizes done)=c.size -1 by omega];rw [List.append_assoc (AX (A.length+sizes done) (-1) 0 c),List.set_append_left _ _ (by rw [jk];omega),agn];simp only [List.append_assoc,Nat.add_assoc]
    have hin:A.length+sizes done+c.size -1<(A++iN A.length (i:Int) 0 done++bH (A.length+sizes done) (c::rest)++B).length:=by
      rw [List.length_append,List.length_append,hL,sG];simp only [sizes];omega
    rw [List.getElem?_map,List.getElem?_map,bI hin];simp only [Option.map_some,Option.bind_some];have:=ih (done++[c]) (by rw [hd,List.append_assoc];rfl);rw [<-hset,List.map_set,List.map_set]at this;rw [List.length_append]at this;exact this
theorem Ra {e:List Nd} (hL:nk e): ∀(l:List Nd) (acc:List Int) (ts:List Tm) (acc':List Int) (i:Nat),acc=ru 0 ts->sizes ts=i->l=e.drop i->i<=e.length->jT acc l= .inl acc'->
    ∃ts',bq 0 ts'=bq 0 ts++l/\acc'=ru 0 ts'/\Ev (fun k=>ny k ((bH 0 ts++List.replicate (e.length -i) ((-1:Int),(0:Int))).map Prod.fst) ((bH 0 ts++List.replicate (e.length -i) ((-1:Int),(0:Int))).map Prod.snd) e (e.length:Int) (i:Int)) ((bH 0 ts').map Prod.fst,(bH 0 ts').map Prod.snd):=by
  have hlen:=hL.len;intro l
  induction l with
  |nil=>
    intro acc ts acc' i ha hs hl hi h;have:e.length<=i:=by
      have:=congrArg List.length hl;rw [List.length_drop,List.length_nil]at this;omega
    obtain rfl:i=e.length:=by omega
    refine⟨ts,by simp,by rw [jT]at h;cases h;exact ha,Ev.succ ?_⟩;simp only [ny];exact Ev.cF (jP _) (Ev.some' (by simp))
  |cons n l ih=>
    intro acc ts acc' i ha hs hl hi h;have hlt:i<e.length:=by
      have:=congrArg List.length hl;rw [List.length_drop,List.length_cons]at this;omega
    rw [drop_cons hlt]at hl;obtain⟨rfl,rfl⟩:=List.cons.inj hl;rw [jT]at h;have hc:bO (rT acc acc.length e[i].args.reverse) e[i]=0:=by
      by_cases hc:bO (rT acc acc.length e[i].args.reverse) e[i]=0
      · exact hc
      · rw [if_pos hc]at h;cases h
    rw [if_neg (fun k=>k hc)]at h;obtain⟨front,last,e1,e2,e3,e4⟩:=row_step ha (uI hc);have hsz:sizes (front++[.mk (bare e[i]) last])=i+1:=by
      rw [dG,nD];unfold size;rw [<-hs,e1,dG];omega
    obtain⟨ts',h1,hb,h2⟩:=ih _ _ acc' (i+1) e4.symm hsz rfl hlt h;refine⟨ts',by rw [h1,e3,List.append_assoc];rfl,hb,Ev.succ ?_⟩;simp only [ny,Int.toNat_natCast,bI hlt,Option.bind_some,nn,if_true];rw [eO hlt (by omega)];refine Ev.cT (lC hlt) ?_;have hrep:List.replicate (e.length -i) ((-1:Int),(0:Int))=((-1:Int),(0:Int))::List.replicate (e.length -(i+1)) ((-1:Int),(0:Int)):=by
      rw [show e.length -i=(e.length -(i+1))+1 by omega,List.replicate_succ]
    have hA:(bH 0 front).length=sizes front:=sG 0 front;have key:=Q9 (i:=i) (args:=e[i].args) (hL.nd i _ (bI hlt)).2.2 (bH 0 front) (List.replicate (e.length -i) ((-1:Int),(0:Int))) last (by rw [hA];exact e2) last [] rfl;have hstart:bH 0 front++iN (bH 0 front).length (i:Int) 0 []++bH ((bH 0 front).length+sizes []) last++List.replicate (e.length -i) ((-1:Int),(0:Int))=bH 0 ts++List.replicate (e.length -i) ((-1:Int),(0:Int)):=by
      rw [hA,e1,Fe];simp [iN,sizes]
    rw [hstart]at key;refine Ev.bind key ?_;have hend:bH 0 front++iN (bH 0 front).length (i:Int) 0 last++List.replicate (e.length -i) ((-1:Int),(0:Int))=bH 0 (front++[.mk (bare e[i]) last])++List.replicate (e.length -(i+1)) ((-1:Int),(0:Int)):=by
      rw [hA,Fe,Wx,za,hrep];have:sizes front+sizes last=i:=by rw [<-dG,<-e1,hs]
      simp [this]
    rw [hend];exact h2
end Go.VL
end
