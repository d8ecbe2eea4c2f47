/- Part 9. -/
import Derived.Test.YtpkbfdgohkakaaaGreatDoorKc8
import Derived.Test.YtpkbfdgohkakaaaGreatDoorRows
import Derived.RangeFuncOwn
import Derived.TacticsIn
import Derived.TacticsInMore
import Derived.LoopIn
import Derived.Walk
import Derived.WalkKit
import Derived.KernelRfl
import Derived.Lib.SlicesCompact
import Derived.Lib.RowBridge
set_option maxRecDepth 8000
set_option linter.unusedVariables false
set_option linter.unusedSectionVars false
set_option linter.unusedSimpArgs false
section
set_option maxHeartbeats 4000000
namespace Go.VL
open Go.Proofs
def pW:Nat->(List Int)->(List Int)->Int->(List Int)->Int->Int->Option (((List Int)×(List Int)))
 |0,_,_,_,_,_,_=>none
 |k+1,xP,lD,qm,jQ,kU,fI=>
  cond (decide (fI<kU)) (if 0<=fI then (jQ[fI.toNat]?).bind fun x21=>if 0<=x21 then (xP[x21.toNat]?).bind fun x24=>(lD[x21.toNat]?).bind fun x41=>pW k (xP.set x21.toNat qm) (lD.set x21.toNat fI) qm jQ kU (IntKind.wrap .i64 (fI+1))else none else none) (some ((xP,lD)))
def NY:List Nat:=[8,9]++List.range' 27 14
theorem YF: ∀(k:Nat) (tH:PV) (kV:List Nat) (lq:PV) (iF:List Nat) (M:List Nat) (xP:List Int) (lD:List Int) (qm:Int) (jQ:List Int) (kU:Int) (fI:Int) (aC σ:Nat->PV) (H0 H:AH) (f0:Fr NY aC σ) (hf0:HF M H0 H) (sl:σ 4=tH/\σ 5=lq/\σ 6=(.int .i64 qm)/\σ 25=(.ah (jQ.map aK) .unk)/\σ 26=(.int .i64 kU)/\σ 27=(.int .i64 fI)) (tJ:aG H aK 1 xP tH kV) (sQ:Nw H0 M kV) (mP:aG H aK 1 lD lq iF) (lZ:Nw H0 M iF) (iY:Dj kV iF) (o:((List Int)×(List Int))) (h:pW k xP lD qm jQ kU fI=some o) (Q:Post) (q0: ∀(p:(List Int)×(List Int)) (v0:PV) (wF:List Nat) (v1:PV) (UR:List Nat) (σ':Nat->PV) (H':AH),o=p->Fr NY aC σ'->HF M H0 H'->(σ' 4=v0/\σ' 5=v1)->aG H' aK 1 p.1 v0 wF->Nw H0 M wF->aG H' aK 1 p.2 v1 UR->Nw H0 M UR->Dj wF UR->Q (.exit 2) σ' H'),W Tryz.prog (.loop Tk) Q σ H:=by
 intro k
 induction k with
 |zero=>intro tH kV lq iF M xP lD qm jQ kU fI aC σ H0 H f0 hf0 sl tJ sQ mP lZ iY o h Q q0;simp only [pW,reduceCtorEq]at h
 |succ k ih=>
  intro tH kV lq iF M xP lD qm jQ kU fI aC σ H0 H f0 hf0 sl tJ sQ mP lZ iY o h Q q0;obtain⟨s4,s5,s6,s25,s26,s27⟩:=sl;have hle0:=hf0.1;unfold pW at h;refine bA (fun K hK=>aJ ?_);unfold Tk;obtain⟨e19,h⟩|⟨e19,h⟩:=aA h
  ·obtain⟨e20,h⟩:=aZ h;obtain⟨x21,e22,h⟩:=ak h;obtain⟨e23,h⟩:=aZ h;obtain⟨x24,e25,h⟩:=ak h;obtain⟨w26,w27,axV,hil,w28,hC,hL,hD,hI⟩:=aG.content tJ e25;have w29:=ne_next hil;have w30:=aO hil;have w31:jR 1 tH (.int .i64 x21)=some (.ref w26 (x21.toNat)):=by simpa using hI .i64 x21 (by first|omega|decide) (by first|rfl|omega)
   have aKe:w27[x21.toNat]? =some (.int .i64 x24):=by simpa using hC 0 _ rfl
   clear hC hL hD hI;refine dI ?_;refine pJ (f:=aK) (id:=w26) (o:=x21.toNat) (i:=x21.toNat) (j:=0) (a:=x24) (y:=qm) (vs:=[(.int .i64 qm)]) aH axV (by omega) (by repeat (first|exact tJ|apply aG.new|refine aG.put ?_ (fun hm=>by have:=aG.lt tJ _ hm;omega))) e25 aH rfl rfl (by first|decide|(simp only [List.length_cons,List.length_nil];omega)) rfl (fun H34 r35 YG axW=> ?_);have le:=YG.1;try simp only [AH.aS,AH.aT,AH.aU,AH.aV]at le
   have r39:=aG.hf (by repeat (first|exact mP|apply aG.new|refine aG.put ?_ (fun hm=>by have:=aG.lt mP _ hm;omega))) YG (Dj.symm iY);obtain⟨x41,e42,h⟩:=ak h;obtain⟨w43,w44,axY,hil,w45,hC,hL,hD,hI⟩:=aG.content r39 e42;have w46:=ne_next hil;have w47:=aO hil;have w48:jR 1 lq (.int .i64 x21)=some (.ref w43 (x21.toNat)):=by simpa using hI .i64 x21 (by first|omega|decide) (by first|rfl|omega)
   have aKf:w44[x21.toNat]? =some (.int .i64 x41):=by simpa using hC 0 _ rfl
   clear hC hL hD hI;refine dI ?_;refine pJ (f:=aK) (id:=w43) (o:=x21.toNat) (i:=x21.toNat) (j:=0) (a:=x41) (y:=fI) (vs:=[(.int .i64 fI)]) aH axY (by omega) (by repeat (first|exact r39|apply aG.new|refine aG.put ?_ (fun hm=>by have:=aG.lt r39 _ hm;omega))) e42 aH rfl rfl (by first|decide|(simp only [List.length_cons,List.length_nil];omega)) rfl (fun H51 r52 anG axZ=> ?_);have le:=anG.1;try simp only [AH.aS,AH.aT,AH.aU,AH.aV]at le
   have r56:=aG.hf (by repeat (first|exact r35|apply aG.new|refine aG.put ?_ (fun hm=>by have:=aG.lt r35 _ hm;omega))) anG iY;refine dI ?_;refine hK _ _ ?_;exact ih tH kV lq iF M (xP.set x21.toNat qm) (lD.set x21.toNat fI) qm jQ kU (IntKind.wrap .i64 (fI+1)) _ _ _ _ aN (by repeat (first|exact hf0|refine HF.new ?_|refine HF.UH ?_|refine HF.used ?_|refine HF.put (by first|(right;omega)|(left;simp only [List.mem_cons,true_or,or_true])) ?_|refine HF.via YG sQ ?_|refine HF.via anG lZ ?_)) aH (by repeat (first|exact r56|apply aG.new|refine aG.put ?_ (fun hm=>by have:=aG.lt r56 _ hm;omega))) sQ (by repeat (first|exact r52|apply aG.new|refine aG.put ?_ (fun hm=>by have:=aG.lt r52 _ hm;omega))) lZ iY _ h _ q0
  ·cases h;refine dI ?_;exact q0 _ tH kV lq iF _ _ rfl aN nL aH (by repeat (first|exact tJ|apply aG.new|refine aG.put ?_ (fun hm=>by have:=aG.lt tJ _ hm;omega))) sQ (by repeat (first|exact mP|apply aG.new|refine aG.put ?_ (fun hm=>by have:=aG.lt mP _ hm;omega))) lZ iY
def pX:Nat->(List Int)->(List Int)->(List Nd)->Int->Int->Option (((List Int)×(List Int)))
 |0,_,_,_,_,_=>none
 |k+1,xP,lD,kW,nT,ER=>
  cond (decide (ER<nT)) (if 0<=ER then (kW[ER.toNat]?).bind fun Ka=>Option.bind (pW k xP lD ER Ka.args (Ka.args.length:Int) 0) (fun p60=>pX k p60.1 p60.2 kW nT (IntKind.wrap .i64 (ER+1)))else none) (some ((xP,lD)))
def NZ:List Nat:=[6,7,8,9]++List.range' 19 23
theorem YH: ∀(k:Nat) (tH:PV) (kV:List Nat) (lq:PV) (iF:List Nat) (M:List Nat) (xP:List Int) (lD:List Int) (kW:List Nd) (nT:Int) (ER:Int) (aC σ:Nat->PV) (H0 H:AH) (f0:Fr NZ aC σ) (hf0:HF M H0 H) (sl:σ 4=tH/\σ 5=lq/\σ 17=(.ah (kW.map Nd.cells) .unk)/\σ 18=(.int .i64 nT)/\σ 19=(.int .i64 ER)) (tJ:aG H aK 1 xP tH kV) (sQ:Nw H0 M kV) (mP:aG H aK 1 lD lq iF) (lZ:Nw H0 M iF) (iY:Dj kV iF) (o:((List Int)×(List Int))) (h:pX k xP lD kW nT ER=some o) (Q:Post) (q0: ∀(p:(List Int)×(List Int)) (v0:PV) (wF:List Nat) (v1:PV) (UR:List Nat) (σ':Nat->PV) (H':AH),o=p->Fr NZ aC σ'->HF M H0 H'->(σ' 4=v0/\σ' 5=v1)->aG H' aK 1 p.1 v0 wF->Nw H0 M wF->aG H' aK 1 p.2 v1 UR->Nw H0 M UR->Dj wF UR->Q (.exit 0) σ' H'),W Tryz.prog (.loop Tn) Q σ H:=by
 intro k
 induction k with
 |zero=>intro tH kV lq iF M xP lD kW nT ER aC σ H0 H f0 hf0 sl tJ sQ mP lZ iY o h Q q0;simp only [pX,reduceCtorEq]at h
 |succ k ih=>
  intro tH kV lq iF M xP lD kW nT ER aC σ H0 H f0 hf0 sl tJ sQ mP lZ iY o h Q q0;obtain⟨s4,s5,yU,nk,wZ⟩:=sl;have hle0:=hf0.1;unfold pX at h;refine bA (fun K hK=>aJ ?_);unfold Tn;obtain⟨e15,h⟩|⟨e15,h⟩:=aA h
  ·obtain⟨e16,h⟩:=aZ h;obtain⟨Ka,e18,h⟩:=ak h;refine dI ?_;rw [dO];refine dI ?_;obtain⟨o58,h59,h⟩:=ak h;refine YF k tH kV lq iF (kV++(iF++[])) xP lD ER Ka.args (Ka.args.length:Int) 0 _ _ _ _ (Fr.refl _ _) (HF.refl _ _) aH (by repeat (first|exact tJ|apply aG.new|refine aG.put ?_ (fun hm=>by have:=aG.lt tJ _ hm;omega))) (fun i hi=>Or.inl (by simp only [List.mem_append,List.mem_cons,hi,true_or,or_true])) (by repeat (first|exact mP|apply aG.new|refine aG.put ?_ (fun hm=>by have:=aG.lt mP _ hm;omega))) (fun i hi=>Or.inl (by simp only [List.mem_append,List.mem_cons,hi,true_or,or_true])) iY _ h59 _ ?_
   ·rintro p60 v64 aCj v69 aCk σ' H63 eo anH ax0 ⟨s68,s73⟩ r66 aFF r71 aFG aFH;rw [eo]at h;have s75:σ' 17=(.ah (kW.map Nd.cells) .unk):=(anH 17 (by decide)).trans aH;have s76:σ' 18=(.int .i64 nT):=(anH 18 (by decide)).trans aH;have s77:σ' 19=(.int .i64 ER):=(anH 19 (by decide)).trans aH;have le:=ax0.1;try simp only [AH.aS,AH.aT,AH.aU,AH.aV]at le
    refine dI ?_;refine hK _ _ ?_;exact ih v64 aCj v69 aCk M p60.1 p60.2 kW nT (IntKind.wrap .i64 (ER+1)) _ _ _ _ rY (by repeat (first|exact hf0|refine HF.new ?_|refine HF.UH ?_|refine HF.used ?_|refine HF.put (by first|(right;omega)|(left;simp only [List.mem_cons,true_or,or_true])) ?_|refine HF.via ax0 (List.forall_mem_append.2 ⟨sQ,(List.forall_mem_append.2 ⟨lZ,(fun _ h=>absurd h List.not_mem_nil)⟩)⟩) ?_)) aH (by repeat (first|exact r66|apply aG.new|refine aG.put ?_ (fun hm=>by have:=aG.lt r66 _ hm;omega))) (Nw.via (List.forall_mem_append.2 ⟨sQ,(List.forall_mem_append.2 ⟨lZ,(fun _ h=>absurd h List.not_mem_nil)⟩)⟩) aQ aFF) (by repeat (first|exact r71|apply aG.new|refine aG.put ?_ (fun hm=>by have:=aG.lt r71 _ hm;omega))) (Nw.via (List.forall_mem_append.2 ⟨sQ,(List.forall_mem_append.2 ⟨lZ,(fun _ h=>absurd h List.not_mem_nil)⟩)⟩) aQ aFG) aFH _ h _ q0
  ·cases h;refine dI ?_;exact q0 _ tH kV lq iF _ _ rfl aN nL aH (by repeat (first|exact tJ|apply aG.new|refine aG.put ?_ (fun hm=>by have:=aG.lt tJ _ hm;omega))) sQ (by repeat (first|exact mP|apply aG.new|refine aG.put ?_ (fun hm=>by have:=aG.lt mP _ hm;omega))) lZ iY
def yV (k:Nat) (aB:List Nd):Option ((List Int)×(List Int)):=
 if [(-1)].length=1/\0<=(aB.length:Int)/\(aB.length:Int)<=1000000 then if 0<=(aB.length:Int)/\(aB.length:Int)<=1099511627776/\8*(aB.length:Int)<=1099511627776 then Option.bind (pX k (LG [(-1)] (aB.length:Int):List Int) (List.replicate aB.length 0) aB (aB.length:Int) 0) (fun xX=>some (xX.1,xX.2))else none else none
theorem aft {k:Nat} {aB:List Nd} {c0:Ck} {r:(List Int)×(List Int)} (h:yV k aB=some r):aD Tryz.prog 179 [(.ah (aB.map Nd.cells) c0)] (.dn [(.ah (r.1.map aK) .unk),(.ah (r.2.map aK) .unk)]):=by
 refine aD.lw (.ah .nil) (aD.bH (dA.mem (.cons (bE Nd.pu _) .nil)) (aM aAS (by simp) (aJ ?_)) (.dn _ (dA.mem (.cons (bE cZ _) (.cons (bE cZ _) .nil)))));unfold yV at h;unfold apm;obtain⟨e13,h⟩:=aZ h;obtain⟨e14,h⟩:=aZ h;refine dI ?_
 refine XI (akc (a:=3) (b:=6) (f:=aK) (sz:=1) (xs:=(LG [(-1)] (aB.length:Int):List Int)) (g:=aK) (sz2:=1) (ys:=(List.replicate aB.length 0)) (fun x y i=>match i with|0=>(.ah ([(-1)].map aK) .exact)|1=>(.ah (aB.map Nd.cells) .unk)|2=>(.int .i64 (aB.length:Int))|3=>x|4=>(.ah (aB.map Nd.cells) .unk)|5=>(.int .i64 (aB.length:Int))|6=>y|7=>x|_=>ud) rfl (by decide) rfl rfl (fun _ _=>rfl) (fun _ _=>rfl) (by
  intro x x' y i h1 h2;rcases i with _|i
  · first|rfl|exact absurd rfl h1|exact absurd h2 (by decide)
  rcases i with _|i
  · first|rfl|exact absurd rfl h1|exact absurd h2 (by decide)
  rcases i with _|i
  · first|rfl|exact absurd rfl h1|exact absurd h2 (by decide)
  rcases i with _|i
  · first|rfl|exact absurd rfl h1|exact absurd h2 (by decide)
  rcases i with _|i
  · first|rfl|exact absurd rfl h1|exact absurd h2 (by decide)
  rcases i with _|i
  · first|rfl|exact absurd rfl h1|exact absurd h2 (by decide)
  rcases i with _|i
  · first|rfl|exact absurd rfl h1|exact absurd h2 (by decide)
  rcases i with _|i
  · first|rfl|exact absurd rfl h1|exact absurd h2 (by decide)
  rfl) (by
  intro x y y' i h1 h2;rcases i with _|i
  · first|rfl|exact absurd rfl h1|exact absurd h2 (by decide)
  rcases i with _|i
  · first|rfl|exact absurd rfl h1|exact absurd h2 (by decide)
  rcases i with _|i
  · first|rfl|exact absurd rfl h1|exact absurd h2 (by decide)
  rcases i with _|i
  · first|rfl|exact absurd rfl h1|exact absurd h2 (by decide)
  rcases i with _|i
  · first|rfl|exact absurd rfl h1|exact absurd h2 (by decide)
  rcases i with _|i
  · first|rfl|exact absurd rfl h1|exact absurd h2 (by decide)
  rcases i with _|i
  · first|rfl|exact absurd rfl h1|exact absurd h2 (by decide)
  rcases i with _|i
  · first|rfl|exact absurd rfl h1|exact absurd h2 (by decide)
  rfl) (by
  intro x y;refine⟨.inr ⟨rfl,fun H=>by(try simp -implicitDefEqProofs only [d9,bT,evs,List.map,List.nil_append,List.append_nil,go_sem]);first|done|exact⟨rfl,rfl⟩⟩,?_⟩;refine⟨.inr ⟨rfl,fun H=>by(try simp -implicitDefEqProofs only [d9,bT,evs,List.map,List.nil_append,List.append_nil,go_sem]);first|done|exact⟨rfl,rfl⟩⟩,?_⟩;refine⟨.inr ⟨rfl,fun H=>by(try simp -implicitDefEqProofs only [d9,bT,evs,List.map,List.nil_append,List.append_nil,go_sem]);first|done|exact⟨rfl,rfl⟩⟩,?_⟩;refine⟨.inl rfl,?_⟩;refine⟨.inr ⟨rfl,fun H=>by(try simp -implicitDefEqProofs only [d9,bT,evs,List.map,List.nil_append,List.append_nil,go_sem]);first|done|exact⟨rfl,rfl⟩⟩,?_⟩;refine⟨.inr ⟨rfl,fun H=>by(try simp -implicitDefEqProofs only [d9,bT,evs,List.map,List.nil_append,List.append_nil,go_sem]);first|done|exact⟨rfl,rfl⟩⟩,?_⟩;refine⟨.inl rfl,?_⟩;refine⟨.inr ⟨rfl,fun H=>by(try simp -implicitDefEqProofs only [d9,bT,evs,List.map,List.nil_append,List.append_nil,go_sem]);first|done|exact⟨rfl,rfl⟩⟩,?_⟩;exact trivial) (fun y H=>⟨trivial,asC (axU [(-1)] (aB.length:Int) e13) (by simp -implicitDefEqProofs only [bT,evs,List.map,List.nil_append,List.append_nil,go_sem])⟩) (fun x H=>⟨trivial,asB (f:=aK) (k:= .i64) (k':= .i64) (n:=(aB.length:Int)) 0 rfl (by simp -implicitDefEqProofs only [bT,evs,List.map,List.nil_append,List.append_nil,go_sem]) (by simp -implicitDefEqProofs only [bT,evs,List.map,List.nil_append,List.append_nil,go_sem]) e14 (by decide)⟩) (fun v1 v8 ax2 ax3 H3 r4 r10 aFI nw5 aLf hf6 ok7=> ?_))
 simp only [bT,List.length_cons,List.length_nil,Nat.reduceAdd];have le:=hf6.1;try simp only [AH.aS,AH.aT,AH.aU,AH.aV]at le
 refine dI ?_;obtain⟨o78,h79,h⟩:=ak h;refine YH k v1 ax2 v8 ax3 (ax2++(ax3++[])) (LG [(-1)] (aB.length:Int):List Int) (List.replicate aB.length 0) aB (aB.length:Int) 0 _ _ _ _ (Fr.refl _ _) (HF.refl _ _) aH (by repeat (first|exact r4|apply aG.new|refine aG.put ?_ (fun hm=>by have:=aG.lt r4 _ hm;omega))) (fun i hi=>Or.inl (by simp only [List.mem_append,List.mem_cons,hi,true_or,or_true])) (by repeat (first|exact r10|apply aG.new|refine aG.put ?_ (fun hm=>by have:=aG.lt r10 _ hm;omega))) (fun i hi=>Or.inl (by simp only [List.mem_append,List.mem_cons,hi,true_or,or_true])) aFI _ h79 _ ?_
 ·rintro xX v84 aKg v89 aKh σ' H83 eo aiD anI ⟨s88,s93⟩ r86 aLg r91 aLh aLi;rw [eo]at h;have le:=anI.1;try simp only [AH.aS,AH.aT,AH.aU,AH.aV]at le
  cases h;refine dI ?_;exact(jr (.cons (aG.fz cZ (by repeat (first|exact r86|apply aG.new|refine aG.put ?_ (fun hm=>by have:=aG.lt r86 _ hm;omega)))) (.cons (aG.fz cZ (by repeat (first|exact r91|apply aG.new|refine aG.put ?_ (fun hm=>by have:=aG.lt r91 _ hm;omega)))) .nil)))
end Go.VL
end
section
namespace Go.VL
open Go.Proofs Go.RowKit
set_option maxRecDepth 100000
theorem akX:Enters Tryz.prog 268:=⟨_,Tryz.func268,rfl,by kernel_rfl⟩
theorem anJ:VA Tryz.prog 268 1 false:=by
 intro l m bx n J Jx W hn hc hY h0;refine callsIn_of_wp Tryz.func268 rfl trivial ?_ rfl;simp only [Tryz.ntmps268,List.size_toArray,List.length_cons,List.length_nil,Nat.reduceAdd,Nat.reduceSub,Array.replicate_succ,Array.replicate_zero,List.push_toArray,List.append_toArray,List.nil_append,List.cons_append];obtain⟨ad0,cap0,hc0⟩:=hc
 gi_wp2
 gi_loopw [3] (fun v3 wr=> ∃k:Nat,v3= .int .i64 ((k:Int) -1)/\k<=n/\J k wr) (fun v3 wr=>(RowKit.intOf v3+1).toNat)
 case atStart=>exact⟨n,rfl,Nat.le_refl _,h0⟩
 case round=>
  obtain⟨k,rfl,hk,hJ⟩:=hrel;cases k with
  |zero=>
   have c1: ¬(0:Int)<=((0:Nat):Int) -1:=by omega
   gi_wp2
   go_end0
   exact⟨⟨_,rfl⟩,.inl hJ⟩
  |succ k=>
   obtain⟨b,o,cap,vs,hb,hkn,hvs,hld,fn,tmps,assign,body,hy,hR⟩:=hY k wr hJ;have e1:((k+1:Nat):Int) -1=(k:Int):=by omega
   rw [e1];have c1:(0:Int)<=(k:Int):=by omega
   have c2:(k:Int)<(n:Int):=by omega
   have aLj:wr.cell? ⟨b,o+k,none⟩=some (elemV false vs):=by
    have:=hld 0 (elemV false vs) (by simp [elemV,hvs]);simpa using this
   clear hld;generalize elemV false vs=v at*
   gi_wp2
   refine⟨fun hd=>absurd hd (by simp [Fence.wide]),(Ra hR).mono ?_⟩;rintro e W' (⟨rfl,hJ'⟩|⟨rfl,hJx⟩)
   · gi_wp2
     go_roundw
     case rel=>exact⟨k,rfl,by omega,hJ'⟩
     case measure=>simp [RowKit.intOf]
   · gi_wp2
     refine bodyPost_ret (results_none rfl _ _ _) rfl ?_;exact⟨⟨_,rfl⟩,.inr hJx⟩
end Go.VL
end
section
set_option maxHeartbeats 4000000
namespace Go.VL
open Go.Proofs
def yX (dH:Int):Option Bool:=
 cond (dH==1) (some ((dH==1))) (some ((dH==2)))
instance asS (dH:Int):Lp Tryz.prog (TT) (yX dH) [(15,18)] [(11,(.int .i64 dH))] (fun p=>(.normal,[(15,(.bool p))])):=GJ TT.eq_1 (by unfold yX;exact bW)
def Dt (dH:Int):Option Bool:=
 cond (dH==4) (some ((dH==4))) (some ((dH==5)))
instance asT (dH:Int):Lp Tryz.prog (TU) (Dt dH) [(38,41)] [(11,(.int .i64 dH))] (fun p=>(.normal,[(38,(.bool p))])):=GJ TU.eq_1 (by unfold Dt;exact bW)
def Du (dH:Int):Option Bool:=
 cond (dH==6) (some ((dH==6))) (some ((dH==12)))
instance asU (dH:Int):Lp Tryz.prog (TV) (Du dH) [(43,46)] [(11,(.int .i64 dH))] (fun p=>(.normal,[(43,(.bool p))])):=GJ TV.eq_1 (by unfold Du;exact bW)
def Dv (dH:Int):Option Bool:=
 cond (dH==7) (some ((dH==7))) (cond (dH==8) (some ((dH==8))) (cond (dH==9) (some ((dH==9))) (some ((dH==13)))))
instance asV (dH:Int):Lp Tryz.prog (TW) (Dv dH) [(48,53)] [(11,(.int .i64 dH))] (fun p=>(.normal,[(48,(.bool p))])):=GJ TW.eq_1 (by unfold Dv;exact bW)
def Dw (dH:Int):Option Bool:=
 cond (dH==10) (some ((dH==10))) (some ((dH==11)))
instance asW (dH:Int):Lp Tryz.prog (TY) (Dw dH) [(60,63)] [(11,(.int .i64 dH))] (fun p=>(.normal,[(60,(.bool p))])):=GJ TY.eq_1 (by unfold Dw;exact bW)
def Dx (dH:Int):Option Bool:=
 cond (dH==16) (some ((dH==16))) (some ((dH==17)))
instance asX (dH:Int):Lp Tryz.prog (T9) (Dx dH) [(70,73)] [(11,(.int .i64 dH))] (fun p=>(.normal,[(70,(.bool p))])):=GJ T9.eq_1 (by unfold Dx;exact bW)
def Dy (dH:Int):Option Bool:=
 cond (dH==19) (some ((dH==19))) (some ((dH==21)))
instance asY (dH:Int):Lp Tryz.prog (Ua) (Dy dH) [(82,85)] [(11,(.int .i64 dH))] (fun p=>(.normal,[(82,(.bool p))])):=GJ Ua.eq_1 (by unfold Dy;exact bW)
def yY (k:Nat) (aY:Nd):Option Shape:=
 cond (aY.kind==0) (some (Shape.mk (0,0) (0,0) false true)) (Option.bind (yX aY.kind) (fun p5=>cond p5 (some (Shape.mk (0,0) (0,0) true false)) (cond (aY.kind==3) ((nI k aY.text).bind fun uX=>cond uX.2 (some (Shape.mk (0,0) ((aY.args.length:Int),(aY.args.length:Int)) true false)) (some (Shape.mk (0,0) (1,4) true false))) (Option.bind (Dt aY.kind) (fun J9=>cond J9 (some (Shape.mk (0,0) (0,30) false false)) (Option.bind (Du aY.kind) (fun p36=>cond p36 ((xH 1 2).bind fun p47=>some p47) (Option.bind (Dv aY.kind) (fun p53=>cond p53 (some (Shape.mk (1,4) ((IntKind.wrap .i64 ((aY.names.length:Int)+1)),(IntKind.wrap .i64 ((aY.names.length:Int)+1))) false false)) (Option.bind (Dw aY.kind) (fun p66=>cond p66 (some (Shape.mk (1,4) (1,1) false false)) (cond (aY.kind==14) (some (Shape.mk (0,0) (2,5) false false)) (Option.bind (Dx aY.kind) (fun xX=>cond xX (some (Shape.mk (1,30) ((aY.names.length:Int),(aY.names.length:Int)) false false)) (cond (aY.kind==18) (some (Shape.mk (0,0) (1,1) true false)) (Option.bind (Dy aY.kind) (fun NP=>cond NP ((xH 0 3).bind fun aic=>some aic) (cond (aY.kind==20) (some (Shape.mk (0,0) (0,0) false false)) (cond (aY.kind==22) (some (Shape.mk (0,0) (2,30) false false)) (cond (aY.kind==23) (some (Shape.mk (1,5) (2,2) false true)) (cond (aY.kind==24) (some (Shape.mk (1,4) (1,1) false false)) ((xH 0 2).bind fun aFJ=>some aFJ))))))))))))))))))))))
instance afu (k:Nat) (aY:Nd):dN Tryz.prog 226 [(.agg (Nd.cells aY))] (yY k aY) (fun r=>(.agg (Shape.cells r))):=bZ aBd (by unfold yY apI;exact bJ)
theorem afv {k:Nat} {aY:Nd} {r:Shape} (h:yY k aY=some r):aD Tryz.prog 226 [(.agg (Nd.cells aY))] (.agg (Shape.cells r)):=(afu _ _).c _ h
def uI:Nat->(List Nd)->(List Int)->(List Int)->Int->Option (Unit⊕Bool)
 |0,_,_,_,_=>none
 |k+1,aB,Bu,qw,QN=>
  if 0<=QN then (Bu[QN.toNat]?).bind fun x16=>cond (x16 !=(-1)) (if 0<=x16 then (aB[x16.toNat]?).bind fun x20=>cond (x20.kind==19) ((qw[QN.toNat]?).bind fun x23=>cond (x23==2) (some (.inr (false))) (uI k aB Bu qw x16)) (uI k aB Bu qw x16)else none) (some (.inl ()))else none
instance atY (k:Nat): ∀(aB:List Nd) (Bu:List Int) (qw:List Int) (QN:Int),Lp Tryz.prog (.loop Tp) (uI k aB Bu qw QN) [(8,9),(11,12),(51,76)] [(0,(.ah (aB.map Nd.cells) .unk)),(2,(.ah (Bu.map aK) .unk)),(3,(.ah (qw.map aK) .unk)),(11,(.int .i64 QN))] (Sum.elim (fun p=>(.exit 1,[])) (fun p=>(.ret,[(8,(.bool p))]))):=by
 induction k with
 |zero=>exact fun _ _ _ _=>qL rfl
 |succ k ih=>exact fun _ _ _ _=>qM Tp.eq_1 (by unfold uI;exact bW)
def ES (k:Nat) (aB:List Nd) (dS:Int) (Bu:List Int) (qw:List Int):Option Bool:=
 if 0<=dS then (aB[dS.toNat]?).bind fun x2=>cond (x2.kind==24) ((Bu[dS.toNat]?).bind fun x5=>cond (x5==(-1)) (some true) (if 0<=x5 then (aB[x5.toNat]?).bind fun x9=>cond (x9.kind !=3) (some true) ((nI k x9.text).bind fun xW=>some xW.2)else none)) (cond (x2.kind==20) (Option.bind (uI k aB Bu qw dS) (fun o=>Sum.elim (fun p28=>some true) (fun p32=>some p32) o)) (some false))else none
instance aiE (k:Nat) (aB:List Nd) (dS:Int) (Bu:List Int) (qw:List Int):dN Tryz.prog 180 [(.ah (aB.map Nd.cells) .unk),(.int .i64 dS),(.ah (Bu.map aK) .unk),(.ah (qw.map aK) .unk)] (ES k aB dS Bu qw) (fun r=>(.bool r)):=bZ aAT (by unfold ES apn;exact bJ)
theorem aiF {k:Nat} {aB:List Nd} {dS:Int} {Bu:List Int} {qw:List Int} {c0 c2 c3:Ck} {r:Bool} (h:ES k aB dS Bu qw=some r):aD Tryz.prog 180 [(.ah (aB.map Nd.cells) c0),(.int .i64 dS),(.ah (Bu.map aK) c2),(.ah (qw.map aK) c3)] (.bool r):=((aiE _ _ _ _ _).c _ h).wk (.ah (.same (.ah (.ah .nil))))
def yZ (k:Nat) (s_0:Str):Option Bool:=
 (uH k s_0).bind fun p2=>some (!p2)
instance asZ (k:Nat) (s_0:Str):dN Tryz.prog 271 [(.str s_0)] (yZ k s_0) (fun r=>(.bool r)):=bZ aBH (by unfold yZ aqc;exact bJ)
def bS:Nat->(List Str)->Int->Int->Option (Unit⊕Int)
 |0,_,_,_=>none
 |k+1,s_0,jV,iI=>
  cond (decide (iI<jV)) (if 0<=iI then (s_0[iI.toNat]?).bind fun x3=>(yZ k x3).bind fun p6=>cond p6 (some (.inr (iI))) (bS k s_0 jV (IntKind.wrap .i64 (iI+1)))else none) (some (.inl ()))
instance PL (k:Nat): ∀(s_0:List Str) (jV:Int) (iI:Int),Lp Tryz.prog (.loop Uv) (bS k s_0 jV iI) [(4,6),(8,19)] [(0,(.ah (s_0.map aF) .unk)),(1,(.fn (.func 271) [] [])),(7,(.int .i64 jV)),(8,(.int .i64 iI))] (Sum.elim (fun p=>(.exit 0,[])) (fun p=>(.ret,[(4,(.int .i64 p))]))):=by
 induction k with
 |zero=>exact fun _ _ _=>qL rfl
 |succ k ih=>exact fun _ _ _=>qM Uv.eq_1 (by unfold bS;exact bW)
def iJ (k:Nat) (s_0:List Str):Option Int:=
 Option.bind (bS k s_0 (s_0.length:Int) 0) (fun o=>Sum.elim (fun kQ=>some (-1)) (fun mq=>some mq) o)
instance Ru (k:Nat) (s_0:List Str):dN Tryz.prog 274 [(.ah (s_0.map aF) .unk),(.fn (.func 271) [] [])] (iJ k s_0) (fun r=>(.int .i64 r)):=bZ aBK (by unfold iJ aqf;exact bJ)
def eF (k:Nat) (s_0:List Str):Option Bool:=
 (iJ k s_0).bind fun p2=>some (decide (p2>=0))
instance y5 (k:Nat) (s_0:List Str):dN Tryz.prog 232 [(.ah (s_0.map aF) .unk),(.fn (.func 271) [] [])] (eF k s_0) (fun r=>(.bool r)):=bZ aBi (by unfold eF apN;exact bJ)
theorem y7 {k:Nat} {s_0:List Str} {c0:Ck} {r:Bool} (h:eF k s_0=some r):aD Tryz.prog 232 [(.ah (s_0.map aF) c0),(.fn (.func 271) [] [])] (.bool r):=((y5 _ _).c _ h).wk (.ah (.same .nil))
def Bc (k:Nat) (eX:Int) (fP:Int) (eH:Str) (eZ:List Str) (fD:List Int) (wH:Bool):Option Bool:=
 cond wH (some (true)) ((BP eH).bind fun p8=>cond p8 (some (false)) ((zM k eH).bind fun Ag=>some ((!Ag))))
def LJ:List Nat:=List.range' 25 11
theorem V8 (k:Nat): ∀(fQ:Nat) (eX:Int) (fP:Int) (eH:Str) (eZ:List Str) (fD:List Int) (wH:Bool) (aC σ:Nat->PV) (H:AH) (f0:Fr LJ aC σ) (sl:σ 1=(.ref (fQ) 0)/\σ 24=(.bool wH)/\H.obj fQ=some [(.int .i64 eX),(.int .i64 fP),(.str eH),(.ah (eZ.map aF) .unk),(.ah (fD.map aK) .unk)]) (je:fQ<H.next) (o:Bool) (h:Bc k eX fP eH eZ fD wH=some o) (Q:Post) (q0: ∀(p:Bool) (σ':Nat->PV),o=p->Fr LJ aC σ'->(σ' 35=(.bool p))->Q .normal σ' H),dM Tryz.prog Uc (Q .normal) σ H:=by
 intro fQ eX fP eH eZ fD wH aC σ H f0 sl je o h Q q0;obtain⟨s1,s24,LK⟩:=sl;have LM:=ne_next je;have LP:=aO je;unfold Bc at h;refine eO ?_;unfold Uc;obtain⟨e6,h⟩|⟨e6,h⟩:=aA h
 ·cases h;refine aj ?_;exact q0 _ _ rfl aN av
 ·obtain⟨p8,e7,h⟩:=ak h;refine aj ?_;refine au (afq e7) ?_;obtain⟨e9,h⟩|⟨e9,h⟩:=aA h
  ·cases h;refine aj ?_;exact q0 _ _ rfl aN av
  ·obtain⟨Ag,e10,h⟩:=ak h;refine aj ?_;refine au (PI e10) ?_;cases h;refine aj ?_;exact q0 _ _ rfl aN av
def Bd (k:Nat) (eX:Int) (fP:Int) (eH:Str) (eZ:List Str) (fD:List Int) (jC:Bool) (Dz:Bool):Option Bool:=
 cond Dz (some (true)) (cond jC (some (false)) ((zM k eH).bind fun p25=>some ((!p25))))
def LQ:List Nat:=List.range' 40 9
theorem V9 (k:Nat): ∀(fQ:Nat) (eX:Int) (fP:Int) (eH:Str) (eZ:List Str) (fD:List Int) (jC:Bool) (Dz:Bool) (aC σ:Nat->PV) (H:AH) (f0:Fr LQ aC σ) (sl:σ 1=(.ref (fQ) 0)/\σ 5=(.bool jC)/\σ 39=(.bool Dz)/\H.obj fQ=some [(.int .i64 eX),(.int .i64 fP),(.str eH),(.ah (eZ.map aF) .unk),(.ah (fD.map aK) .unk)]) (je:fQ<H.next) (o:Bool) (h:Bd k eX fP eH eZ fD jC Dz=some o) (Q:Post) (q0: ∀(p:Bool) (σ':Nat->PV),o=p->Fr LQ aC σ'->(σ' 48=(.bool p))->Q .normal σ' H),dM Tryz.prog Ud (Q .normal) σ H:=by
 intro fQ eX fP eH eZ fD jC Dz aC σ H f0 sl je o h Q q0;obtain⟨s1,s5,s39,LK⟩:=sl;have LM:=ne_next je;have LP:=aO je;unfold Bd at h;refine eO ?_;unfold Ud;obtain⟨e22,h⟩|⟨e22,h⟩:=aA h
 ·cases h;refine aj ?_;exact q0 _ _ rfl aN av
 ·obtain⟨e23,h⟩|⟨e23,h⟩:=aA h
  ·cases h;refine aj ?_;exact q0 _ _ rfl aN av
  ·obtain⟨p25,e24,h⟩:=ak h;refine aj ?_;refine au (PI e24) ?_;cases h;refine aj ?_;exact q0 _ _ rfl aN av
def Bf (eX:Int) (fP:Int) (eH:Str) (eZ:List Str) (fD:List Int) (DC:Str) (DF:Int) (DI:Int) (DJ:Int) (DL:Bool) (Bg:Int) (Bh:Int) (ada:Bool):Option Bool:=
 cond ada ((iy (fD.length:Int) Bg Bh).bind fun p38=>some ((!p38))) (some (false))
def LU:List Nat:=List.range' 51 10
theorem Wh: ∀(fQ:Nat) (zT:Nat) (eX:Int) (fP:Int) (eH:Str) (eZ:List Str) (fD:List Int) (DC:Str) (DF:Int) (DI:Int) (DJ:Int) (DL:Bool) (Bg:Int) (Bh:Int) (ada:Bool) (aC σ:Nat->PV) (H:AH) (f0:Fr LU aC σ) (sl:σ 1=(.ref (fQ) 0)/\σ 4=(.ref (zT) 0)/\σ 50=(.bool ada)/\H.obj fQ=some [(.int .i64 eX),(.int .i64 fP),(.str eH),(.ah (eZ.map aF) .unk),(.ah (fD.map aK) .unk)]/\H.obj zT=some [(.str DC),(.int .i64 DF),(.int .i64 DI),(.int .i64 DJ),(.bool DL),(.int .i64 Bg),(.int .i64 Bh)]) (je:fQ<H.next) (ET:zT<H.next) (qG:fQ≠zT) (o:Bool) (h:Bf eX fP eH eZ fD DC DF DI DJ DL Bg Bh ada=some o) (Q:Post) (q0: ∀(p:Bool) (σ':Nat->PV),o=p->Fr LU aC σ'->(σ' 60=(.bool p))->Q .normal σ' H),dM Tryz.prog Ue (Q .normal) σ H:=by
 intro fQ zT eX fP eH eZ fD DC DF DI DJ DL Bg Bh ada aC σ H f0 sl je ET qG o h Q q0;obtain⟨s1,s4,s50,LK,as0⟩:=sl;have LM:=ne_next je;have LP:=aO je;have as1:=ne_next ET;have as2:=aO ET;have aaV:=eq_false qG;have aaW:=eq_false (Ne.symm qG);unfold Bf at h;refine eO ?_;unfold Ue;obtain⟨e36,h⟩|⟨e36,h⟩:=aA h
 ·obtain⟨p38,e37,h⟩:=ak h;refine aj ?_;refine au (jg e37) ?_;cases h;refine aj ?_;exact q0 _ _ rfl aN av
 ·cases h;refine aj ?_;exact q0 _ _ rfl aN av
def Bj (k:Nat) (eX:Int) (fP:Int) (eH:Str) (eZ:List Str) (fD:List Int) (adb:Bool):Option Bool:=
 cond adb (some (true)) ((uH k eH).bind fun p51=>some ((!p51)))
def LV:List Nat:=[65,66,67,68,69]
theorem Wi (k:Nat): ∀(fQ:Nat) (eX:Int) (fP:Int) (eH:Str) (eZ:List Str) (fD:List Int) (adb:Bool) (aC σ:Nat->PV) (H:AH) (f0:Fr LV aC σ) (sl:σ 1=(.ref (fQ) 0)/\σ 64=(.bool adb)/\H.obj fQ=some [(.int .i64 eX),(.int .i64 fP),(.str eH),(.ah (eZ.map aF) .unk),(.ah (fD.map aK) .unk)]) (je:fQ<H.next) (o:Bool) (h:Bj k eX fP eH eZ fD adb=some o) (Q:Post) (q0: ∀(p:Bool) (σ':Nat->PV),o=p->Fr LV aC σ'->(σ' 69=(.bool p))->Q .normal σ' H),dM Tryz.prog Uf (Q .normal) σ H:=by
 intro fQ eX fP eH eZ fD adb aC σ H f0 sl je o h Q q0;obtain⟨s1,s64,LK⟩:=sl;have LM:=ne_next je;have LP:=aO je;unfold Bj at h;refine eO ?_;unfold Uf;obtain⟨e49,h⟩|⟨e49,h⟩:=aA h
 ·cases h;refine aj ?_;exact q0 _ _ rfl aN av
 ·obtain⟨p51,e50,h⟩:=ak h;refine aj ?_;refine au (Dq e50) ?_;cases h;refine aj ?_;exact q0 _ _ rfl aN av
def Bl (k:Nat) (eX:Int) (fP:Int) (eH:Str) (eZ:List Str) (fD:List Int) (DN:Bool) (DC:Str) (DF:Int) (DI:Int) (DJ:Int) (DL:Bool) (Bg:Int) (Bh:Int) (jC:Bool):Option ((Bool×Bool)):=
 cond (eX==2) (Option.bind (Bc k eX fP eH eZ fD DN) (fun mq=>some ((mq,false)))) (cond (eX==3) (Option.bind (Bd k eX fP eH eZ fD jC DN) (fun p28=>Option.bind (Bf eX fP eH eZ fD DC DF DI DJ DL Bg Bh jC) (fun p41=>some ((p28,p41))))) (cond (eX==18) (Option.bind (Bj k eX fP eH eZ fD DN) (fun p54=>some ((p54,false)))) (some ((DN,false)))))
def LW:List Nat:=[3,6]++List.range' 19 51
theorem Wj (k:Nat): ∀(fQ:Nat) (zT:Nat) (eX:Int) (fP:Int) (eH:Str) (eZ:List Str) (fD:List Int) (DN:Bool) (DC:Str) (DF:Int) (DI:Int) (DJ:Int) (DL:Bool) (Bg:Int) (Bh:Int) (jC:Bool) (aC σ:Nat->PV) (H:AH) (f0:Fr LW aC σ) (sl:σ 1=(.ref (fQ) 0)/\σ 3=(.bool DN)/\σ 4=(.ref (zT) 0)/\σ 5=(.bool jC)/\σ 6=(.bool false)/\H.obj fQ=some [(.int .i64 eX),(.int .i64 fP),(.str eH),(.ah (eZ.map aF) .unk),(.ah (fD.map aK) .unk)]/\H.obj zT=some [(.str DC),(.int .i64 DF),(.int .i64 DI),(.int .i64 DJ),(.bool DL),(.int .i64 Bg),(.int .i64 Bh)]) (je:fQ<H.next) (ET:zT<H.next) (qG:fQ≠zT) (o:(Bool×Bool)) (h:Bl k eX fP eH eZ fD DN DC DF DI DJ DL Bg Bh jC=some o) (Q:Post) (q0: ∀(p:Bool×Bool) (σ':Nat->PV),o=p->Fr LW aC σ'->(σ' 3=(.bool p.1)/\σ' 6=(.bool p.2))->Q .normal σ' H),W Tryz.prog Ug Q σ H:=by
 intro fQ zT eX fP eH eZ fD DN DC DF DI DJ DL Bg Bh jC aC σ H f0 sl je ET qG o h Q q0;obtain⟨s1,s3,s4,s5,s6,LK,as0⟩:=sl;have LM:=ne_next je;have LP:=aO je;have as1:=ne_next ET;have as2:=aO ET;have aaV:=eq_false qG;have aaW:=eq_false (Ne.symm qG);unfold Bl at h;refine aJ ?_;unfold Ug;obtain⟨e5,h⟩|⟨e5,h⟩:=aA h
 ·refine aj ?_;obtain⟨o12,VO,h⟩:=ak h;refine V8 k (fQ) eX fP eH eZ fD DN _ _ _ (Fr.refl _ _) av aQ _ VO _ ?_
  ·rintro mq σ' eo M0 nk;rw [eo]at h;have wZ:σ' 1=(.ref (fQ) 0):=(M0 1 (by decide)).trans av;have s20:σ' 6=(.bool false):=(M0 6 (by decide)).trans av;cases h;refine aj ?_;exact q0 _ _ rfl rY av
 ·obtain⟨e21,h⟩|⟨e21,h⟩:=aA h
  ·refine aj ?_;obtain⟨o26,h27,h⟩:=ak h;refine V9 k (fQ) eX fP eH eZ fD jC DN _ _ _ (Fr.refl _ _) av aQ _ h27 _ ?_
   ·rintro p28 σ' eo acu s32;rw [eo]at h;have s33:σ' 1=(.ref (fQ) 0):=(acu 1 (by decide)).trans av;have s34:σ' 4=(.ref (zT) 0):=(acu 4 (by decide)).trans av;have s35:σ' 5=(.bool jC):=(acu 5 (by decide)).trans av;refine aj ?_;obtain⟨o39,h40,h⟩:=ak h;refine Wh (fQ) (zT) eX fP eH eZ fD DC DF DI DJ DL Bg Bh jC _ _ _ (Fr.refl _ _) av aQ aQ aQ _ h40 _ ?_
    ·rintro p41 σ' eo ax5 s45;rw [eo]at h;have s46:σ' 1=(.ref (fQ) 0):=(ax5 1 (by decide)).trans av;have s47:σ' 3=(.bool p28):=(ax5 3 (by decide)).trans av;cases h;refine aj ?_;exact q0 _ _ rfl rY av
  ·obtain⟨e48,h⟩|⟨e48,h⟩:=aA h
   ·refine aj ?_;obtain⟨o52,h53,h⟩:=ak h;refine Wi k (fQ) eX fP eH eZ fD DN _ _ _ (Fr.refl _ _) av aQ _ h53 _ ?_
    ·rintro p54 σ' eo anE s58;rw [eo]at h;have s59:σ' 1=(.ref (fQ) 0):=(anE 1 (by decide)).trans av;have s60:σ' 6=(.bool false):=(anE 6 (by decide)).trans av;cases h;refine aj ?_;exact q0 _ _ rfl rY av
   ·cases h;refine aj ?_;exact q0 _ _ rfl aN av
def jD:Nat->Int->Int->Str->(List Str)->(List Int)->Bool->(List Str)->Int->Int->Option Bool
 |0,_,_,_,_,_,_,_,_,_=>none
 |k+1,eX,fP,eH,eZ,fD,EU,KO,KP,uJ=>
  cond (decide (uJ<KP)) (if 0<=uJ then (KO[uJ.toNat]?).bind fun x72=>cond EU (jD k eX fP eH eZ fD true KO KP (IntKind.wrap .i64 (uJ+1))) (if 0<=uJ/\uJ.toNat<=eZ.length then (bM k (eZ.take uJ.toNat) x72).bind fun Ey=>jD k eX fP eH eZ fD Ey KO KP (IntKind.wrap .i64 (uJ+1))else none)else none) (some (EU))
def LX:List Nat:=[7,8,9]++List.range' 73 15
theorem Wm: ∀(k:Nat) (fQ:Nat) (eX:Int) (fP:Int) (eH:Str) (eZ:List Str) (fD:List Int) (EU:Bool) (KO:List Str) (KP:Int) (uJ:Int) (aC σ:Nat->PV) (H:AH) (f0:Fr LX aC σ) (sl:σ 1=(.ref (fQ) 0)/\σ 7=(.bool EU)/\σ 71=(.ah (KO.map aF) .unk)/\σ 72=(.int .i64 KP)/\σ 73=(.int .i64 uJ)/\H.obj fQ=some [(.int .i64 eX),(.int .i64 fP),(.str eH),(.ah (eZ.map aF) .unk),(.ah (fD.map aK) .unk)]) (je:fQ<H.next) (o:Bool) (h:jD k eX fP eH eZ fD EU KO KP uJ=some o) (Q:Post) (q0: ∀(p:Bool) (σ':Nat->PV),o=p->Fr LX aC σ'->(σ' 7=(.bool p))->Q (.exit 1) σ' H),W Tryz.prog (.loop Uh) Q σ H:=by
 intro k
 induction k with
 |zero=>intro fQ eX fP eH eZ fD EU KO KP uJ aC σ H f0 sl je o h Q q0;simp only [jD,reduceCtorEq]at h
 |succ k ih=>
  intro fQ eX fP eH eZ fD EU KO KP uJ aC σ H f0 sl je o h Q q0;obtain⟨s1,s7,s71,s72,s73,LK⟩:=sl;have LM:=ne_next je;have LP:=aO je;unfold jD at h;refine bA (fun K hK=>aJ ?_);unfold Uh;obtain⟨ZM,h⟩|⟨ZM,h⟩:=aA h
  ·obtain⟨e71,h⟩:=aZ h;obtain⟨x72,VQ,h⟩:=ak h;obtain⟨e74,h⟩|⟨e74,h⟩:=aA h
   ·refine aj ?_;refine hK _ _ ?_;exact ih fQ eX fP eH eZ fD true KO KP (IntKind.wrap .i64 (uJ+1)) _ _ _ aN av aQ _ h _ q0
   ·obtain⟨e75,h⟩:=aZ h;obtain⟨Ey,e76,h⟩:=ak h;refine aj ?_;refine au (iL e76) ?_;refine aj ?_;refine hK _ _ ?_;exact ih fQ eX fP eH eZ fD Ey KO KP (IntKind.wrap .i64 (uJ+1)) _ _ _ aN av aQ _ h _ q0
  ·cases h;refine aj ?_;exact q0 _ _ rfl aN av
def qW (k:Nat) (aY:Nd):Option Int:=
 (eF k aY.names).bind fun p2=>(nI k aY.text).bind fun p4=>Option.bind (Bl k aY.kind aY.n aY.text aY.names aY.args p2 p4.1.text p4.1.fix p4.1.low p4.1.high p4.1.left p4.1.least p4.1.most p4.2) (fun p63=>Option.bind (jD k aY.kind aY.n aY.text aY.names aY.args false aY.names (aY.names.length:Int) 0) (fun xX=>(ou p63.1 7).bind fun p88=>(ou p63.2 17).bind fun Rk=>(ou xX 12).bind fun N7=>(gT k [p88,Rk,N7]).bind fun NP=>some NP))
theorem DR {k:Nat} {aY:Nd} {r:Int} (h:qW k aY=some r):aD Tryz.prog 229 [(.agg (Nd.cells aY))] (.int .i64 r):=by
 refine aD.bH (dA.mem (.cons (.agg _ (Nd.pu _)) .nil)) (aM aBg (by simp) (aJ ?_)) (.int _ _);unfold qW at h;unfold apL;obtain⟨p2,e1,h⟩:=ak h;refine aj ?_;refine au (y7 e1) ?_;obtain⟨p4,e3,h⟩:=ak h;refine aj ?_;refine au (LD e3) ?_;refine aj ?_;obtain⟨o61,VW,h⟩:=ak h;refine Wj k (AH.empty.next) (AH.empty.next+1) aY.kind aY.n aY.text aY.names aY.args p2 p4.1.text p4.1.fix p4.1.low p4.1.high p4.1.left p4.1.least p4.1.most p4.2 _ _ _ (Fr.refl _ _) av aQ aQ aQ _ VW _ ?_
 ·rintro p63 σ' eo M4 ⟨s67,s68⟩;rw [eo]at h;have s69:σ' 1=(.ref (AH.empty.next) 0):=(M4 1 (by decide)).trans av;refine aj ?_;obtain⟨o78,h79,h⟩:=ak h;refine Wm k (AH.empty.next) aY.kind aY.n aY.text aY.names aY.args false aY.names (aY.names.length:Int) 0 _ _ _ (Fr.refl _ _) av aQ _ h79 _ ?_
  ·rintro xX σ' eo aiD s84;rw [eo]at h;have s85:σ' 3=(.bool p63.1):=(aiD 3 (by decide)).trans av;have s86:σ' 6=(.bool p63.2):=(aiD 6 (by decide)).trans av;obtain⟨p88,e87,h⟩:=ak h;refine aj ?_;refine au (pR e87) ?_;obtain⟨Rk,e89,h⟩:=ak h;refine aj ?_;refine au (pR e89) ?_;obtain⟨N7,e91,h⟩:=ak h;refine aj ?_;refine au (pR e91) ?_;obtain⟨NP,VR,h⟩:=ak h;refine aj ?_;refine au (mE VR) ?_;cases h;refine aj ?_;exact(.pure _ (.int _ _))
def DT (qx:Int) (lu:Int) (oW:Str) (uQ:List Str) (nZ:List Int) (G8:Int) (G9:Int) (FE:Int) (FH:Int) (He:Bool) (DU:Bool) (Je:Bool):Option Bool:=
 cond Je (some (true)) ((iy (nZ.length:Int) FE FH).bind fun xW=>some ((!xW)))
def N8:List Nat:=List.range' 37 12
theorem YI: ∀(kM:Nat) (DV:Nat) (qx:Int) (lu:Int) (oW:Str) (uQ:List Str) (nZ:List Int) (G8:Int) (G9:Int) (FE:Int) (FH:Int) (He:Bool) (DU:Bool) (Je:Bool) (aC σ:Nat->PV) (H:AH) (f0:Fr N8 aC σ) (sl:σ 7=(.ref (kM) 0)/\σ 8=(.ref (DV) 0)/\σ 36=(.bool Je)/\H.obj kM=some [(.int .i64 qx),(.int .i64 lu),(.str oW),(.ah (uQ.map aF) .unk),(.ah (nZ.map aK) .unk)]/\H.obj DV=some [(.int .i64 G8),(.int .i64 G9),(.int .i64 FE),(.int .i64 FH),(.bool He),(.bool DU)]) (vE:kM<H.next) (EW:DV<H.next) (qH:kM≠DV) (o:Bool) (h:DT qx lu oW uQ nZ G8 G9 FE FH He DU Je=some o) (Q:Post) (q0: ∀(p:Bool) (σ':Nat->PV),o=p->Fr N8 aC σ'->(σ' 48=(.bool p))->Q .normal σ' H),dM Tryz.prog Tg (Q .normal) σ H:=by
 intro kM DV qx lu oW uQ nZ G8 G9 FE FH He DU Je aC σ H f0 sl vE EW qH o h Q q0;obtain⟨s7,s8,s36,agP,as3⟩:=sl;have agQ:=ne_next vE;have agR:=aO vE;have as4:=ne_next EW;have as5:=aO EW;have aaX:=eq_false qH;have aaY:=eq_false (Ne.symm qH);unfold DT at h;refine eO ?_;unfold Tg;obtain⟨e11,h⟩|⟨e11,h⟩:=aA h
 ·cases h;refine aj ?_;exact q0 _ _ rfl aN av
 ·obtain⟨xW,e12,h⟩:=ak h;refine aj ?_;refine au (jg e12) ?_;cases h;refine aj ?_;exact q0 _ _ rfl aN av
def pY:Nat->(List Int)->Int->Bool->(List Int)->Option ((Int×Bool)⊕(Int×Bool))
 |0,jl,j6,fC,qI=>some (.inr ((j6,fC)))
 |m+1,jl,j6,fC,qI=>
  (qI[m]?).bind fun x27=>cond (x27 !=j6) (some (.inl (j6,false))) (cond (decide (j6<0)) (some (.inl (j6,false))) (if 0<=j6 then (jl[j6.toNat]?).bind fun x31=>pY m jl (IntKind.wrap .i64 (x31 -1)) fC qI else none))
theorem YJ: ∀(m:Nat) (iq:Nat) (iC:Nat) (bF:Nat) (uK:Nat) (jl:List Int) (j6:Int) (fC:Bool) (qI:List Int) (aC σ:Nat->PV) (H0 H:AH) (f0:Fr [] aC σ) (hf0:HF [iC,bF] H0 H) (sl:σ 5=(.ref (iq) 0)/\σ 9=(.ref (iC) 0)/\σ 10=(.ref (bF) 0)/\σ 53=(.fn (.func 268) [] [(.ref (uK) 0)])/\H.obj iq=some [(.ah (jl.map aK) .unk)]/\H.obj iC=some [(.int .i64 j6)]/\H.obj bF=some [(.bool fC)]/\H.obj uK=some [(.ah (qI.map aK) .unk)]) (lN:iq<H.next) (rC:iC<H.next) (jw:bF<H.next) (zU:uK<H.next) (fE:iq≠iC) (dK:iq≠bF) (kg:iq≠uK) (dY:iC≠bF) (mQ:iC≠uK) (jv:bF≠uK) (o:(Int×Bool)⊕(Int×Bool)) (h:pY m jl j6 fC qI=some o) (Q:Post) (q0: ∀(p:Int×Bool) (σ':Nat->PV) (H':AH),o= .inl p->Fr [] aC σ'->HF [iC,bF] H0 H'->(H'.obj iC=some [(.int .i64 p.1)]/\H'.obj bF=some [(.bool p.2)])->Q (.exit 0) σ' H') (q1: ∀(p:Int×Bool) (σ':Nat->PV) (H':AH),o= .inr (p)->Fr [] aC σ'->HF [iC,bF] H0 H'->(H'.obj iC=some [(.int .i64 p.1)]/\H'.obj bF=some [(.bool p.2)])->Q .normal σ' H'),GU (fun Q' σ' H'=>W Tryz.prog O7 (JQ (fun rM gy=>W Tryz.prog O8 Q' rM gy)) σ' H') Q σ uK [(.ah (qI.map aK) .unk)] 54 55 ((qI.map aK).map (Fp false)) m H:=by
 intro m
 induction m with
 |zero=>
  intro iq iC bF uK jl j6 fC qI aC σ H0 H f0 hf0 sl lN rC jw zU fE dK kg dY mQ jv o h Q q0 q1;obtain⟨s5,s9,s10,s53,PN,ZN,Kh,Wn⟩:=sl;have PO:=ne_next lN;have PS:=aO lN;have ZO:=ne_next rC;have ZP:=aO rC;have Ki:=ne_next jw;have Kj:=aO jw;have aiG:=ne_next zU;have aiH:=aO zU;have DW:=eq_false fE;have DX:=eq_false (Ne.symm fE);have xq:=eq_false dK;have xu:=eq_false (Ne.symm dK);have LY:=eq_false kg;have LZ:=eq_false (Ne.symm kg);have Ai:=eq_false dY;have Aj:=eq_false (Ne.symm dY);have PU:=eq_false mQ;have PW:=eq_false (Ne.symm mQ);have Jf:=eq_false jv;have Jg:=eq_false (Ne.symm jv);have hle0:=hf0.1;rw [pY]at h;cases h;exact q1 _ _ _ rfl f0 hf0 av
 |succ m ih=>
  intro iq iC bF uK jl j6 fC qI aC σ H0 H f0 hf0 sl lN rC jw zU fE dK kg dY mQ jv o h Q q0 q1;obtain⟨s5,s9,s10,s53,PN,ZN,Kh,Wn⟩:=sl;have PO:=ne_next lN;have PS:=aO lN;have ZO:=ne_next rC;have ZP:=aO rC;have Ki:=ne_next jw;have Kj:=aO jw;have aiG:=ne_next zU;have aiH:=aO zU;have DW:=eq_false fE;have DX:=eq_false (Ne.symm fE);have xq:=eq_false dK;have xu:=eq_false (Ne.symm dK);have LY:=eq_false kg;have LZ:=eq_false (Ne.symm kg);have Ai:=eq_false dY;have Aj:=eq_false (Ne.symm dY);have PU:=eq_false mQ;have PW:=eq_false (Ne.symm mQ);have Jf:=eq_false jv;have Jg:=eq_false (Ne.symm jv);have hle0:=hf0.1;rw [pY]at h;cases erf:qI[m]?
  case none=>rw [Cz erf]at h;cases h
  case some x27=>
   rw [CB erf]at h;refine⟨Wn,Fp false (aK x27),by simp only [List.getElem?_map,erf,Option.map_some],aJ ?_⟩;unfold O7;refine aj ?_;refine aJ ?_;unfold O8;obtain⟨e28,h⟩|⟨e28,h⟩:=aA h
   ·cases h;refine aj ?_;exact q0 _ _ _ rfl aN nL av
   ·obtain⟨e29,h⟩|⟨e29,h⟩:=aA h
    ·cases h;refine aj ?_;exact q0 _ _ _ rfl aN nL av
    ·obtain⟨e30,h⟩:=aZ h;obtain⟨x31,e32,h⟩:=ak h;refine aj ?_;exact ih iq iC bF uK jl (IntKind.wrap .i64 (x31 -1)) fC qI _ _ _ _ f0 nL av aQ aQ aQ aQ aQ aQ aQ aQ aQ aQ _ h _ q0 q1
def y8 (jl:List Int) (qx:Int) (lu:Int) (oW:Str) (uQ:List Str) (nZ:List Int) (j6:Int) (fC:Bool):Option ((Int×Bool)):=
 if nZ.length<=1099511627776 then Option.bind (pY nZ.length jl j6 fC nZ) (fun o=>Sum.elim (fun p35=>some ((p35.1,p35.2))) (fun p49=>some ((p49.1,p49.2))) o)else none
def N9:List Nat:=[12]++List.range' 51 17
theorem YK: ∀(iq:Nat) (kM:Nat) (iC:Nat) (bF:Nat) (jl:List Int) (qx:Int) (lu:Int) (oW:Str) (uQ:List Str) (nZ:List Int) (j6:Int) (fC:Bool) (aC σ:Nat->PV) (H0 H:AH) (f0:Fr N9 aC σ) (hf0:HF [iC,bF] H0 H) (sl:σ 5=(.ref (iq) 0)/\σ 7=(.ref (kM) 0)/\σ 9=(.ref (iC) 0)/\σ 10=(.ref (bF) 0)/\H.obj iq=some [(.ah (jl.map aK) .unk)]/\H.obj kM=some [(.int .i64 qx),(.int .i64 lu),(.str oW),(.ah (uQ.map aF) .unk),(.ah (nZ.map aK) .unk)]/\H.obj iC=some [(.int .i64 j6)]/\H.obj bF=some [(.bool fC)]) (lN:iq<H.next) (vE:kM<H.next) (rC:iC<H.next) (jw:bF<H.next) (y9:iq≠kM) (fE:iq≠iC) (dK:iq≠bF) (DY:kM≠iC) (vF:kM≠bF) (dY:iC≠bF) (o:(Int×Bool)) (h:y8 jl qx lu oW uQ nZ j6 fC=some o) (Q:Post) (q0: ∀(p:Int×Bool) (σ':Nat->PV) (H':AH),o=p->Fr N9 aC σ'->HF [iC,bF] H0 H'->(H'.obj iC=some [(.int .i64 p.1)]/\H'.obj bF=some [(.bool p.2)])->Q .normal σ' H'),W Tryz.prog Ti Q σ H:=by
 intro iq kM iC bF jl qx lu oW uQ nZ j6 fC aC σ H0 H f0 hf0 sl lN vE rC jw y9 fE dK DY vF dY o h Q q0;obtain⟨s5,s7,s9,s10,PN,agP,ZN,Kh⟩:=sl;have PO:=ne_next lN;have PS:=aO lN;have agQ:=ne_next vE;have agR:=aO vE;have ZO:=ne_next rC;have ZP:=aO rC;have Ki:=ne_next jw;have Kj:=aO jw;have akZ:=eq_false y9;have ak0:=eq_false (Ne.symm y9);have DW:=eq_false fE;have DX:=eq_false (Ne.symm fE);have xq:=eq_false dK;have xu:=eq_false (Ne.symm dK);have aq2:=eq_false DY;have aq3:=eq_false (Ne.symm DY);have agS:=eq_false vF;have agT:=eq_false (Ne.symm vF);have Ai:=eq_false dY;have Aj:=eq_false (Ne.symm dY);have hle0:=hf0.1;unfold y8 at h;refine aJ ?_;unfold Ti;refine aj ?_;refine aM aBe (by simp) (aJ ?_);unfold apJ;obtain⟨e63,h⟩:=aZ h;refine aj ?_;obtain⟨o33,h34,h⟩:=ak h;refine aoH (g:=268) (id:=H.next) (sz:=1) (agg:=false) (es:=nZ.map aK) (c:= .unk) av akX anJ (by decide) av (by rw [List.length_map];exact e63) (FT (ni.len (f:=aK)) _) ?_;rw [List.length_map];refine YJ _ (iq) (iC) (bF) (H.next) jl j6 fC nZ _ _ _ _ (Fr.refl _ _) (HF.refl _ _) av aQ aQ aQ aQ aQ aQ aQ aQ aQ aQ _ h34 _ ?_ ?_
 ·rintro p35 σ' H38 eo ax9 YG ⟨g39,g40⟩;subst eo;rw [dZ]at h;have s41:σ' 7=(.ref (kM) 0):=(ax9 7 (by decide)).trans av;have s42:σ' 10=(.ref (bF) 0):=(ax9 10 (by decide)).trans av;have le:=YG.1;try simp only [AH.aS,AH.aT,AH.aU,AH.aV]at le
  have g43:H38.obj (kM)=some [(.int .i64 qx),(.int .i64 lu),(.str oW),(.ah (uQ.map aF) .unk),(.ah (nZ.map aK) .unk)]:=(YG.2 _ aQ (by first|exact List.not_mem_nil|(simp only [List.mem_cons,List.not_mem_nil,or_false,not_or];omega))).trans av;have n44:=ne_next (show kM<H38.next from aQ);have m45:=aO (show kM<H38.next from aQ);have n47:=ne_next (show bF<H38.next from aQ);have m48:=aO (show bF<H38.next from aQ);cases h;refine aj ?_;exact q0 _ _ _ rfl rY GH av
 ·rintro p49 σ' H52 eo UK aiI ⟨g53,g54⟩;subst eo;rw [eT]at h;have s55:σ' 7=(.ref (kM) 0):=(UK 7 (by decide)).trans av;have s56:σ' 10=(.ref (bF) 0):=(UK 10 (by decide)).trans av;have le:=aiI.1;try simp only [AH.aS,AH.aT,AH.aU,AH.aV]at le
  have g57:H52.obj (kM)=some [(.int .i64 qx),(.int .i64 lu),(.str oW),(.ah (uQ.map aF) .unk),(.ah (nZ.map aK) .unk)]:=(aiI.2 _ aQ (by first|exact List.not_mem_nil|(simp only [List.mem_cons,List.not_mem_nil,or_false,not_or];omega))).trans av;have n58:=ne_next (show kM<H52.next from aQ);have m59:=aO (show kM<H52.next from aQ);have n61:=ne_next (show bF<H52.next from aQ);have m62:=aO (show bF<H52.next from aQ);cases h;refine aj ?_;exact q0 _ _ _ rfl rY GH av
def DZ (qx:Int) (lu:Int) (oW:Str) (uQ:List Str) (nZ:List Int) (G8:Int) (G9:Int) (FE:Int) (FH:Int) (He:Bool) (DU:Bool) (xw:Bool) (uJ:Bool):Option Bool:=
 cond uJ (cond DU (cond (qx !=1) (cond xw ((iy lu 0 1).bind fun ZG=>some (ZG)) (some (true))) ((yO oW).bind fun oh=>cond oh (cond xw ((iy lu 0 1).bind fun ZH=>some (ZH)) (some (true))) (some (false)))) (cond (lu==0) (cond (qx !=1) (cond xw ((iy lu 0 1).bind fun acD=>some (acD)) (some (true))) ((yO oW).bind fun aya=>cond aya (cond xw ((iy lu 0 1).bind fun UU=>some (UU)) (some (true))) (some (false)))) (some (false)))) (cond (oW==[]) (cond DU (cond (qx !=1) (cond xw ((iy lu 0 1).bind fun ayb=>some (ayb)) (some (true))) ((yO oW).bind fun acE=>cond acE (cond xw ((iy lu 0 1).bind fun acF=>some (acF)) (some (true))) (some (false)))) (cond (lu==0) (cond (qx !=1) (cond xw ((iy lu 0 1).bind fun ayc=>some (ayc)) (some (true))) ((yO oW).bind fun ayd=>cond ayd (cond xw ((iy lu 0 1).bind fun aye=>some (aye)) (some (true))) (some (false)))) (some (false)))) (some (false)))
def Oa:List Nat:=List.range' 74 32
theorem YL: ∀(kM:Nat) (DV:Nat) (qx:Int) (lu:Int) (oW:Str) (uQ:List Str) (nZ:List Int) (G8:Int) (G9:Int) (FE:Int) (FH:Int) (He:Bool) (DU:Bool) (xw:Bool) (uJ:Bool) (aC σ:Nat->PV) (H:AH) (f0:Fr Oa aC σ) (sl:σ 7=(.ref (kM) 0)/\σ 8=(.ref (DV) 0)/\σ 13=(.bool xw)/\σ 73=(.bool uJ)/\H.obj kM=some [(.int .i64 qx),(.int .i64 lu),(.str oW),(.ah (uQ.map aF) .unk),(.ah (nZ.map aK) .unk)]/\H.obj DV=some [(.int .i64 G8),(.int .i64 G9),(.int .i64 FE),(.int .i64 FH),(.bool He),(.bool DU)]) (vE:kM<H.next) (EW:DV<H.next) (qH:kM≠DV) (o:Bool) (h:DZ qx lu oW uQ nZ G8 G9 FE FH He DU xw uJ=some o) (Q:Post) (q0: ∀(p:Bool) (σ':Nat->PV),o=p->Fr Oa aC σ'->(σ' 105=(.bool p))->Q .normal σ' H),dM Tryz.prog Tj (Q .normal) σ H:=by
 intro kM DV qx lu oW uQ nZ G8 G9 FE FH He DU xw uJ aC σ H f0 sl vE EW qH o h Q q0;obtain⟨s7,s8,s13,s73,agP,as3⟩:=sl;have agQ:=ne_next vE;have agR:=aO vE;have as4:=ne_next EW;have as5:=aO EW;have aaX:=eq_false qH;have aaY:=eq_false (Ne.symm qH);unfold DZ at h;refine eO ?_;unfold Tj;obtain⟨e84,h⟩|⟨e84,h⟩:=aA h
 ·obtain⟨e85,h⟩|⟨e85,h⟩:=aA h
  ·obtain⟨e86,h⟩|⟨e86,h⟩:=aA h
   ·obtain⟨e87,h⟩|⟨e87,h⟩:=aA h
    ·obtain⟨ZG,e88,h⟩:=ak h;refine aj ?_;refine au (jg e88) ?_;cases h;refine aj ?_;exact q0 _ _ rfl aN av
    ·cases h;refine aj ?_;exact q0 _ _ rfl aN av
   ·obtain⟨oh,e90,h⟩:=ak h;refine aj ?_;refine au (G7 e90) ?_;obtain⟨e92,h⟩|⟨e92,h⟩:=aA h
    ·obtain⟨VR,h⟩|⟨VR,h⟩:=aA h
     ·obtain⟨ZH,e94,h⟩:=ak h;refine aj ?_;refine au (jg e94) ?_;cases h;refine aj ?_;exact q0 _ _ rfl aN av
     ·cases h;refine aj ?_;exact q0 _ _ rfl aN av
    ·cases h;refine aj ?_;exact q0 _ _ rfl aN av
  ·obtain⟨e96,h⟩|⟨e96,h⟩:=aA h
   ·obtain⟨e97,h⟩|⟨e97,h⟩:=aA h
    ·obtain⟨e98,h⟩|⟨e98,h⟩:=aA h
     ·obtain⟨acD,e99,h⟩:=ak h;refine aj ?_;refine au (jg e99) ?_;cases h;refine aj ?_;exact q0 _ _ rfl aN av
     ·cases h;refine aj ?_;exact q0 _ _ rfl aN av
    ·obtain⟨aya,acI,h⟩:=ak h;refine aj ?_;refine au (G7 acI) ?_;obtain⟨UJ,h⟩|⟨UJ,h⟩:=aA h
     ·obtain⟨aiz,h⟩|⟨aiz,h⟩:=aA h
      ·obtain⟨UU,Yq,h⟩:=ak h;refine aj ?_;refine au (jg Yq) ?_;cases h;refine aj ?_;exact q0 _ _ rfl aN av
      ·cases h;refine aj ?_;exact q0 _ _ rfl aN av
     ·cases h;refine aj ?_;exact q0 _ _ rfl aN av
   ·cases h;refine aj ?_;exact q0 _ _ rfl aN av
 ·obtain⟨YB,h⟩|⟨YB,h⟩:=aA h
  ·obtain⟨e108,h⟩|⟨e108,h⟩:=aA h
   ·obtain⟨e109,h⟩|⟨e109,h⟩:=aA h
    ·obtain⟨acJ,h⟩|⟨acJ,h⟩:=aA h
     ·obtain⟨ayb,anj,h⟩:=ak h;refine aj ?_;refine au (jg anj) ?_;cases h;refine aj ?_;exact q0 _ _ rfl aN av
     ·cases h;refine aj ?_;exact q0 _ _ rfl aN av
    ·obtain⟨acE,ank,h⟩:=ak h;refine aj ?_;refine au (G7 ank) ?_;obtain⟨e115,h⟩|⟨e115,h⟩:=aA h
     ·obtain⟨e116,h⟩|⟨e116,h⟩:=aA h
      ·obtain⟨acF,e117,h⟩:=ak h;refine aj ?_;refine au (jg e117) ?_;cases h;refine aj ?_;exact q0 _ _ rfl aN av
      ·cases h;refine aj ?_;exact q0 _ _ rfl aN av
     ·cases h;refine aj ?_;exact q0 _ _ rfl aN av
   ·obtain⟨e119,h⟩|⟨e119,h⟩:=aA h
    ·obtain⟨e120,h⟩|⟨e120,h⟩:=aA h
     ·obtain⟨aFK,h⟩|⟨aFK,h⟩:=aA h
      ·obtain⟨ayc,anl,h⟩:=ak h;refine aj ?_;refine au (jg anl) ?_;cases h;refine aj ?_;exact q0 _ _ rfl aN av
      ·cases h;refine aj ?_;exact q0 _ _ rfl aN av
     ·obtain⟨ayd,aFL,h⟩:=ak h;refine aj ?_;refine au (G7 aFL) ?_;obtain⟨e126,h⟩|⟨e126,h⟩:=aA h
      ·obtain⟨e127,h⟩|⟨e127,h⟩:=aA h
       ·obtain⟨aye,e128,h⟩:=ak h;refine aj ?_;refine au (jg e128) ?_;cases h;refine aj ?_;exact q0 _ _ rfl aN av
       ·cases h;refine aj ?_;exact q0 _ _ rfl aN av
      ·cases h;refine aj ?_;exact q0 _ _ rfl aN av
    ·cases h;refine aj ?_;exact q0 _ _ rfl aN av
  ·cases h;refine aj ?_;exact q0 _ _ rfl aN av
def F4 (k:Nat) (aB:List Nd) (dS:Int) (ow:List Int):Option Int:=
 if 0<=dS then (aB[dS.toNat]?).bind fun x2=>(iy x2.kind 0 28).bind fun p5=>cond p5 ((yY k x2).bind fun p8=>(iy (x2.names.length:Int) p8.names.1 p8.names.2).bind fun kQ=>Option.bind (DT x2.kind x2.n x2.text x2.names x2.args p8.names.1 p8.names.2 p8.operands.1 p8.operands.2 p8.text p8.number (!kQ)) (fun p16=>cond p16 (some 6) (Option.bind (y8 ow x2.kind x2.n x2.text x2.names x2.args (IntKind.wrap .i64 (dS -1)) true) (fun p66=>Option.bind (DZ x2.kind x2.n x2.text x2.names x2.args p8.names.1 p8.names.2 p8.operands.1 p8.operands.2 p8.text p8.number (x2.kind==23) p8.text) (fun ayf=>cond p66.2 ((ou (!ayf) 5).bind fun anK=>cond (x2.kind==23) ((ou false 3).bind fun ayg=>(qW k x2).bind fun ayh=>(gT k [anK,ayg,ayh]).bind fun ayi=>some ayi) ((iy x2.n 0 10000).bind fun ayj=>(ou (!ayj) 3).bind fun acK=>(qW k x2).bind fun ayk=>(gT k [anK,acK,ayk]).bind fun ayl=>some ayl)) ((ou true 5).bind fun anL=>cond (x2.kind==23) ((ou false 3).bind fun aym=>(qW k x2).bind fun ayn=>(gT k [anL,aym,ayn]).bind fun ayo=>some ayo) ((iy x2.n 0 10000).bind fun acL=>(ou (!acL) 3).bind fun ayp=>(qW k x2).bind fun aif=>(gT k [anL,ayp,aif]).bind fun ayq=>some ayq))))))) (some 4)else none
theorem afw {k:Nat} {aB:List Nd} {dS:Int} {ow:List Int} {c0 c2:Ck} {r:Int} (h:F4 k aB dS ow=some r):aD Tryz.prog 177 [(.ah (aB.map Nd.cells) c0),(.int .i64 dS),(.ah (ow.map aK) c2)] (.int .i64 r):=by
 refine aD.lw (.ah (.same (.ah .nil))) (aD.bH (dA.mem (.cons (bE Nd.pu _) (.cons (.int _ _) (.cons (bE cZ _) .nil)))) (aM aAQ (by simp) (aJ ?_)) (.int _ _));unfold F4 at h;unfold apk;obtain⟨e1,h⟩:=aZ h;obtain⟨x2,e3,h⟩:=ak h;obtain⟨p5,e4,h⟩:=ak h;refine aj ?_;refine au (jg e4) ?_;obtain⟨e6,h⟩|⟨e6,h⟩:=aA h
 ·obtain⟨p8,e7,h⟩:=ak h;refine aj ?_;refine au (afv e7) ?_;obtain⟨kQ,e9,h⟩:=ak h;refine aj ?_;refine au (jg e9) ?_;refine aj ?_;obtain⟨o14,h15,h⟩:=ak h;refine YI (AH.empty.next+1) (AH.empty.next+2) x2.kind x2.n x2.text x2.names x2.args p8.names.1 p8.names.2 p8.operands.1 p8.operands.2 p8.text p8.number (!kQ) _ _ _ (Fr.refl _ _) av aQ aQ aQ _ h15 _ ?_
  ·rintro p16 σ' eo ade s20;rw [eo]at h;have s21:σ' 1=(.int .i64 dS):=(ade 1 (by decide)).trans av;have s22:σ' 5=(.ref (AH.empty.next) 0):=(ade 5 (by decide)).trans av;have s23:σ' 7=(.ref (AH.empty.next+1) 0):=(ade 7 (by decide)).trans av;have s24:σ' 8=(.ref (AH.empty.next+2) 0):=(ade 8 (by decide)).trans av;obtain⟨e25,h⟩|⟨e25,h⟩:=aA h
   ·cases h;refine aj ?_;exact(.pure _ (.int _ _))
   ·refine aj ?_;obtain⟨o64,h65,h⟩:=ak h;refine YK (AH.empty.next) (AH.empty.next+1) (AH.empty.next+3) (AH.empty.next+4) ow x2.kind x2.n x2.text x2.names x2.args (IntKind.wrap .i64 (dS -1)) true _ _ _ _ (Fr.refl _ _) (HF.refl _ _) av aQ aQ aQ aQ aQ aQ aQ aQ aQ aQ _ h65 _ ?_
    ·rintro p66 σ' ZQ eo anM anN ⟨g70,g71⟩;rw [eo]at h;have s72:σ' 7=(.ref (AH.empty.next+1) 0):=(anM 7 (by decide)).trans av;have s73:σ' 8=(.ref (AH.empty.next+2) 0):=(anM 8 (by decide)).trans av;have s74:σ' 10=(.ref (AH.empty.next+4) 0):=(anM 10 (by decide)).trans av;have le:=anN.1;try simp only [AH.aS,AH.aT,AH.aU,AH.aV]at le
     have g75:ZQ.obj (AH.empty.next+1)=some [(.int .i64 x2.kind),(.int .i64 x2.n),(.str x2.text),(.ah (x2.names.map aF) .unk),(.ah (x2.args.map aK) .unk)]:=(anN.2 _ aQ (by first|exact List.not_mem_nil|(simp only [List.mem_cons,List.not_mem_nil,or_false,not_or];omega))).trans av;have n76:=ne_next (show AH.empty.next+1<ZQ.next from aQ);have m77:=aO (show AH.empty.next+1<ZQ.next from aQ);have g78:ZQ.obj (AH.empty.next+2)=some [(.int .i64 p8.names.1),(.int .i64 p8.names.2),(.int .i64 p8.operands.1),(.int .i64 p8.operands.2),(.bool p8.text),(.bool p8.number)]:=(anN.2 _ aQ (by first|exact List.not_mem_nil|(simp only [List.mem_cons,List.not_mem_nil,or_false,not_or];omega))).trans av;have n79:=ne_next (show AH.empty.next+2<ZQ.next from aQ);have m80:=aO (show AH.empty.next+2<ZQ.next from aQ);have n82:=ne_next (show AH.empty.next+4<ZQ.next from aQ);have m83:=aO (show AH.empty.next+4<ZQ.next from aQ);refine aj ?_;obtain⟨aLk,aFM,h⟩:=ak h;refine YL (AH.empty.next+1) (AH.empty.next+2) x2.kind x2.n x2.text x2.names x2.args p8.names.1 p8.names.2 p8.operands.1 p8.operands.2 p8.text p8.number (x2.kind==23) p8.text _ _ _ (Fr.refl _ _) av aQ aQ aQ _ aFM _ ?_
     ·rintro ayf σ' eo aiJ aLl;rw [eo]at h;have aLm:σ' 7=(.ref (AH.empty.next+1) 0):=(aiJ 7 (by decide)).trans av;have aLn:σ' 10=(.ref (AH.empty.next+4) 0):=(aiJ 10 (by decide)).trans av;have aLo:σ' 13=(.bool (x2.kind==23)):=(aiJ 13 (by decide)).trans av;refine aj ?_;refine jI ?_;obtain⟨anm,h⟩|⟨anm,h⟩:=aA h
      ·obtain⟨anK,aFN,h⟩:=ak h;refine aj ?_;refine PC.mk (pR aFN) ?_;obtain⟨e143,h⟩|⟨e143,h⟩:=aA h
       ·obtain⟨ayg,aFO,h⟩:=ak h;refine aj ?_;refine PC.mk (pR aFO) ?_;obtain⟨ayh,aFP,h⟩:=ak h;refine aj ?_;refine au (DR aFP) ?_;obtain⟨ayi,aFQ,h⟩:=ak h;refine aj ?_;refine au (mE aFQ) ?_;cases h;refine aj ?_;exact(.pure _ (.int _ _))
       ·obtain⟨ayj,anp,h⟩:=ak h;refine aj ?_;refine PC.mk (jg anp) ?_;obtain⟨acK,e152,h⟩:=ak h;refine aj ?_;refine PC.mk (pR e152) ?_;obtain⟨ayk,e154,h⟩:=ak h;refine aj ?_;refine au (DR e154) ?_;obtain⟨ayl,aFR,h⟩:=ak h;refine aj ?_;refine au (mE aFR) ?_;cases h;refine aj ?_;exact(.pure _ (.int _ _))
      ·obtain⟨anL,aFS,h⟩:=ak h;refine aj ?_;refine PC.mk (pR aFS) ?_;obtain⟨aFT,h⟩|⟨aFT,h⟩:=aA h
       ·obtain⟨aym,aFU,h⟩:=ak h;refine aj ?_;refine PC.mk (pR aFU) ?_;obtain⟨ayn,ano,h⟩:=ak h;refine aj ?_;refine au (DR ano) ?_;obtain⟨ayo,e165,h⟩:=ak h;refine aj ?_;refine au (mE e165) ?_;cases h;refine aj ?_;exact(.pure _ (.int _ _))
       ·obtain⟨acL,e167,h⟩:=ak h;refine aj ?_;refine PC.mk (jg e167) ?_;obtain⟨ayp,e169,h⟩:=ak h;refine aj ?_;refine PC.mk (pR e169) ?_;obtain⟨aif,aFV,h⟩:=ak h;refine aj ?_;refine au (DR aFV) ?_;obtain⟨ayq,aFW,h⟩:=ak h;refine aj ?_;refine au (mE aFW) ?_;cases h;refine aj ?_;exact(.pure _ (.int _ _))
 ·cases h;refine aj ?_;exact(.pure _ (.int _ _))
def jJ:Nat->(List Nd)->(List Int)->Int->Int->Option (List Int⊕(Int×Int))
 |0,_,_,_,_=>none
 |k+1,aB,oD,kU,fI=>
  cond (decide (fI<kU)) ((F4 k aB fI oD).bind fun kQ=>cond (kQ !=0) (some (.inr ((fI,kQ)))) (if(oD.length+1)*8<=1099511627776 then (Ls aB fI (oD++[0])).bind fun wY=>if 0<=fI then ((oD++[0])[fI.toNat]?).bind fun x23=>jJ k aB ((oD++[0]).set fI.toNat wY) kU (IntKind.wrap .i64 (fI+1))else none else none)) (some (.inl oD))
def D5:List Nat:=[2,3,5,6,7]++List.range' 27 22
theorem UW: ∀(k:Nat) (zV:PV) (za:List Nat) (M:List Nat) (aB:List Nd) (oD:List Int) (kU:Int) (fI:Int) (aC σ:Nat->PV) (H0 H:AH) (f0:Fr D5 aC σ) (hf0:HF M H0 H) (sl:σ 0=(.ah (aB.map Nd.cells) .unk)/\σ 5=zV/\σ 26=(.int .i64 kU)/\σ 27=(.int .i64 fI)) (tK:aG H aK 1 oD zV za) (xJ:Nw H0 M za) (o:List Int⊕(Int×Int)) (h:jJ k aB oD kU fI=some o) (Q:Post) (q0: ∀(p:List Int) (v0:PV) (wF:List Nat) (σ':Nat->PV) (H':AH),o= .inl p->Fr D5 aC σ'->HF M H0 H'->(σ' 5=v0)->aG H' aK 1 p v0 wF->Nw H0 M wF->Q (.exit 0) σ' H') (q1: ∀(p:Int×Int) (σ':Nat->PV) (H':AH),o= .inr (p)->Fr D5 aC σ'->HF M H0 H'->(σ' 2=(.int .i64 p.1)/\σ' 3=(.int .i64 p.2))->Q .ret σ' H'),W Tryz.prog (.loop Sk) Q σ H:=by
 intro k
 induction k with
 |zero=>intro zV za M aB oD kU fI aC σ H0 H f0 hf0 sl tK xJ o h Q q0 q1;simp only [jJ,reduceCtorEq]at h
 |succ k ih=>
  intro zV za M aB oD kU fI aC σ H0 H f0 hf0 sl tK xJ o h Q q0 q1;obtain⟨s0,s5,s26,s27⟩:=sl;have hle0:=hf0.1;unfold jJ at h;refine bA (fun K hK=>aJ ?_);unfold Sk;obtain⟨e8,h⟩|⟨e8,h⟩:=aA h
  ·obtain⟨kQ,e9,h⟩:=ak h;refine dI ?_;refine FV (afw e9) (.cons (cK Nd.pu _ _) (dz (.cons (aG.fz cZ (by repeat (first|exact tK|apply aG.new|refine aG.put ?_ (fun hm=>by have:=aG.lt tK _ hm;omega)))) .nil))) (.cons (bE Nd.pu _) (.cons (.int _ _) (.cons (bE cZ _) .nil))) (.int _ _) ?_;obtain⟨e11,h⟩|⟨e11,h⟩:=aA h
   ·cases h;refine dI ?_;exact q1 _ _ _ rfl aN nL aH
   ·obtain⟨e12,h⟩:=aZ h;refine dI ?_;refine JX (f:=aK) (v:=zV) sK oD ([0]:List Int) .exact aH (by repeat (first|exact tK|apply aG.new|refine aG.put ?_ (fun hm=>by have:=aG.lt tK _ hm;omega))) aH (by decide) (by simp only [List.length_cons,List.length_nil];exact e12) (fun v13 aCl H15 r16 ays aiK ahQ=> ?_);have le:=aiK.1;try simp only [AH.aS,AH.aT,AH.aU,AH.aV]at le
    obtain⟨wY,e20,h⟩:=ak h;refine dI ?_;refine FV (akD e20) (.cons (cK Nd.pu _ _) (dz (.cons (aG.fz cZ (by repeat (first|exact r16|apply aG.new|refine aG.put ?_ (fun hm=>by have:=aG.lt r16 _ hm;omega)))) .nil))) (.cons (bE Nd.pu _) (.cons (.int _ _) (.cons (bE cZ _) .nil))) (.int _ _) ?_;obtain⟨e22,h⟩:=aZ h;obtain⟨x23,e24,h⟩:=ak h;obtain⟨w25,w26,ayt,hil,w27,hC,hL,hD,hI⟩:=aG.content r16 e24;have w28:=ne_next hil;have w29:=aO hil;have w30:jR 1 v13 (.int .i64 fI)=some (.ref w25 (fI.toNat)):=by simpa using hI .i64 fI (by first|omega|decide) (by first|rfl|omega)
    have aKi:w26[fI.toNat]? =some (.int .i64 x23):=by simpa using hC 0 _ rfl
    clear hC hL hD hI;refine dI ?_;refine pJ (f:=aK) (id:=w25) (o:=fI.toNat) (i:=fI.toNat) (j:=0) (a:=x23) (y:=wY) (vs:=[(.int .i64 wY)]) aH ayt (by omega) (by repeat (first|exact r16|apply aG.new|refine aG.put ?_ (fun hm=>by have:=aG.lt r16 _ hm;omega))) e24 aH rfl rfl (by first|decide|(simp only [List.length_cons,List.length_nil];omega)) rfl (fun H33 r34 ayu aLp=> ?_);have le:=ayu.1;try simp only [AH.aS,AH.aT,AH.aU,AH.aV]at le
    refine dI ?_;refine hK _ _ ?_;exact ih v13 aCl M aB ((oD++[0]).set fI.toNat wY) kU (IntKind.wrap .i64 (fI+1)) _ _ _ _ aN (by repeat (first|exact hf0|refine HF.new ?_|refine HF.UH ?_|refine HF.used ?_|refine HF.put (by first|(right;omega)|(left;simp only [List.mem_cons,true_or,or_true])) ?_|refine HF.via aiK xJ ?_|refine HF.via ayu (Nw.trans xJ aQ ays) ?_)) aH (by repeat (first|exact r34|apply aG.new|refine aG.put ?_ (fun hm=>by have:=aG.lt r34 _ hm;omega))) (Nw.trans xJ aQ ays) _ h _ q0 q1
  ·cases h;refine dI ?_;exact q0 _ zV za _ _ rfl aN nL aH (by repeat (first|exact tK|apply aG.new|refine aG.put ?_ (fun hm=>by have:=aG.lt tK _ hm;omega))) xJ
def jK:Nat->(List Nd)->(List Int)->(List Int)->Int->Int->Option (Unit⊕(Int×Int))
 |0,_,_,_,_,_=>none
 |k+1,aB,PX,ze,PY,KQ=>
  cond (decide (KQ<PY)) ((ES k aB KQ PX ze).bind fun p54=>cond p54 (some (.inr ((KQ,30)))) (jK k aB PX ze PY (IntKind.wrap .i64 (KQ+1)))) (some (.inl ()))
def D6:List Nat:=[2,3,11]++List.range' 59 10
theorem UY: ∀(k:Nat) (aB:List Nd) (PX:List Int) (ze:List Int) (PY:Int) (KQ:Int) (aC σ:Nat->PV) (H:AH) (f0:Fr D6 aC σ) (sl:σ 0=(.ah (aB.map Nd.cells) .unk)/\σ 9=(.ah (PX.map aK) .unk)/\σ 10=(.ah (ze.map aK) .unk)/\σ 58=(.int .i64 PY)/\σ 59=(.int .i64 KQ)) (o:Unit⊕(Int×Int)) (h:jK k aB PX ze PY KQ=some o) (Q:Post) (q0: ∀(p:Unit) (σ':Nat->PV),o= .inl p->Fr D6 aC σ'->Q (.exit 2) σ' H) (q1: ∀(p:Int×Int) (σ':Nat->PV),o= .inr (p)->Fr D6 aC σ'->(σ' 2=(.int .i64 p.1)/\σ' 3=(.int .i64 p.2))->Q .ret σ' H),W Tryz.prog (.loop Sm) Q σ H:=by
 intro k
 induction k with
 |zero=>intro aB PX ze PY KQ aC σ H f0 sl o h Q q0 q1;simp only [jK,reduceCtorEq]at h
 |succ k ih=>
  intro aB PX ze PY KQ aC σ H f0 sl o h Q q0 q1;obtain⟨s0,s9,s10,s58,s59⟩:=sl;unfold jK at h;refine bA (fun K hK=>aJ ?_);unfold Sm;obtain⟨e52,h⟩|⟨e52,h⟩:=aA h
  ·obtain⟨p54,e53,h⟩:=ak h;refine dI ?_;refine au (aiF e53) ?_;obtain⟨e55,h⟩|⟨e55,h⟩:=aA h
   ·cases h;refine dI ?_;exact q1 _ _ rfl aN aH
   ·refine dI ?_;refine hK _ _ ?_;exact ih aB PX ze PY (IntKind.wrap .i64 (KQ+1)) _ _ _ aN aH _ h _ q0 q1
  ·cases h;refine dI ?_;exact q0 _ _ rfl aN
def iG (k:Nat) (aB:List Nd):Option (Int×Int):=
 (ou ((aB.length:Int)==0) 1).bind fun p2=>(ou (decide ((aB.length:Int)>160)) 2).bind fun p4=>(gT k [p2,p4]).bind fun p6=>cond (p6 !=0) (some (0,p6)) (Option.bind (jJ k aB ([]:List Int) (aB.length:Int) 0) (fun o=>Sum.elim (fun p40=>(yV k aB).bind fun p51=>Option.bind (jK k aB p51.1 p51.2 (aB.length:Int) 0) (fun o=>Sum.elim (fun p58=>if 0<=(IntKind.wrap .i64 ((aB.length:Int) -1))then (p40[(IntKind.wrap .i64 ((aB.length:Int) -1)).toNat]?).bind fun x65=>cond (x65 !=0) (some ((IntKind.wrap .i64 ((aB.length:Int) -1)),15)) (some (0,0))else none) (fun p74=>some (p74.1,p74.2)) o)) (fun xX=>some (xX.1,xX.2)) o))
theorem Ob {k:Nat} {aB:List Nd} {c0:Ck} {r:Int×Int} (h:iG k aB=some r):aD Tryz.prog 119 [(.ah (aB.map Nd.cells) c0)] (.dn [(.int .i64 r.1),(.int .i64 r.2)]):=by
 refine aD.lw (.ah .nil) (aD.bH (dA.mem (.cons (bE Nd.pu _) .nil)) (aM aAt (by simp) (aJ ?_)) (.dn _ (dA.mem (.cons (.int _ _) (.cons (.int _ _) .nil)))));unfold iG at h;unfold aoW;obtain⟨p2,e1,h⟩:=ak h;refine dI ?_;refine au (pR e1) ?_;obtain⟨p4,e3,h⟩:=ak h;refine dI ?_;refine au (pR e3) ?_;obtain⟨p6,e5,h⟩:=ak h;refine dI ?_;refine au (mE e5) ?_;obtain⟨e7,h⟩|⟨e7,h⟩:=aA h
 ·cases h;refine dI ?_;exact(jr (dz (dz .nil)))
 ·refine dI ?_;obtain⟨o38,h39,h⟩:=ak h;refine UW k (.ah [] .nil) [] ([]++[]) aB ([]:List Int) (aB.length:Int) 0 _ _ _ _ (Fr.refl _ _) (HF.refl _ _) aH (by repeat (first|exact aG.nil|apply aG.new|refine aG.put ?_ (fun hm=>by have:=aG.lt aG.nil _ hm;omega))) (fun i hi=>Or.inl (by simp only [List.mem_append,List.mem_cons,hi,true_or,or_true])) _ h39 _ ?_ ?_
  ·rintro p40 v44 aKj σ' H43 eo aFX ayv s48 r46 aLq;subst eo;rw [dZ]at h;have s49:σ' 0=(.ah (aB.map Nd.cells) .unk):=(aFX 0 (by decide)).trans aH;have le:=ayv.1;try simp only [AH.aS,AH.aT,AH.aU,AH.aV]at le
   obtain⟨p51,e50,h⟩:=ak h;refine dI ?_;refine au (aft e50) ?_;refine dI ?_;obtain⟨o56,h57,h⟩:=ak h;refine UY k aB p51.1 p51.2 (aB.length:Int) 0 _ _ _ (Fr.refl _ _) aH _ h57 _ ?_ ?_
   ·rintro p58 σ' eo ayw;subst eo;rw [dZ]at h;have s62:σ' 5=v44:=(ayw 5 (by decide)).trans aH;have s63:σ' 8=(.int .i64 (IntKind.wrap .i64 ((aB.length:Int) -1))):=(ayw 8 (by decide)).trans aH;obtain⟨e64,h⟩:=aZ h;obtain⟨x65,e66,h⟩:=ak h;obtain⟨w67,w68,aIC,hil,w69,hC,hL,hD,hI⟩:=aG.content r46 e66;have w70:=ne_next hil;have w71:=aO hil;have w72:jR 1 v44 (.int .i64 (IntKind.wrap .i64 ((aB.length:Int) -1)))=some (.ref w67 ((IntKind.wrap .i64 ((aB.length:Int) -1)).toNat)):=by simpa using hI .i64 (IntKind.wrap .i64 ((aB.length:Int) -1)) (by first|omega|decide) (by first|rfl|omega)
    have aKk:w68[(IntKind.wrap .i64 ((aB.length:Int) -1)).toNat]? =some (.int .i64 x65):=by simpa using hC 0 _ rfl
    clear hC hL hD hI;obtain⟨VQ,h⟩|⟨VQ,h⟩:=aA h
    ·cases h;refine dI ?_;exact(jr (dz (dz .nil)))
    ·cases h;refine dI ?_;exact(jr (dz (dz .nil)))
   ·rintro p74 σ' eo aFY ⟨s78,s79⟩;subst eo;rw [eT]at h;cases h;refine dI ?_;exact(jr (dz (dz .nil)))
  ·rintro xX σ' H83 eo aiD anI ⟨s84,s85⟩;subst eo;rw [eT]at h;have le:=anI.1;try simp only [AH.aS,AH.aT,AH.aU,AH.aV]at le
   cases h;refine dI ?_;exact(jr (dz (dz .nil)))
instance atZ (k:Nat) (aB:List Nd):dN Tryz.prog 119 [(.ah (aB.map Nd.cells) .unk)] (iG k aB) (fun r=>(.dn [(.int .i64 r.1),(.int .i64 r.2)])):=⟨fun _ h=>Ob h⟩
def qb (k:Nat) (aB:List Nd):Option Int:=
 (iG k aB).bind fun p2=>some p2.2
instance afx (k:Nat) (aB:List Nd):dN Tryz.prog 186 [(.ah (aB.map Nd.cells) .unk)] (qb k aB) (fun r=>(.int .i64 r)):=bZ aAU (by unfold qb apo;exact bJ)
theorem Rv {k:Nat} {aB:List Nd} {c0:Ck} {r:Int} (h:qb k aB=some r):aD Tryz.prog 186 [(.ah (aB.map Nd.cells) c0)] (.int .i64 r):=((afx _ _).c _ h).wk (.ah .nil)
end Go.VL
end
section
namespace Go.VL
theorem as6 (s p:Str):kY s p=some (decide (p.length<=s.length)&&decide (s.take p.length=p)):=by
 unfold kY xY;by_cases h:p.length<=s.length
 · have h':(s.length:Int)>=(p.length:Int):=by omega
   simp only [h,h',decide_true,cond_true,if_true,Option.bind_some,Bool.true_and,LB]
 · have h': ¬(s.length:Int)>=(p.length:Int):=by omega
   simp only [h,h',decide_false,cond_false,Option.bind_some,Bool.false_and]
theorem aCm (s:Str) (a b c:UInt8):kY s [a,b,c]=some (decide (s.take 3=[a,b,c])):=by
 rw [as6];congr 1;show(decide (3<=s.length)&&decide (s.take 3=[a,b,c]))=_
 by_cases h:s.take 3=[a,b,c]
 · have:=congrArg List.length h;rw [List.length_take]at this;have h3:3<=s.length:=by simp at this;omega
   simp [h,h3]
 · simp [h]
theorem anO (s:Str):decide (s∈KL)=(decide (s∈Rp)||vo s):=by
 have h1:KL=Rp++[[66,79,79,76,69,65,78],[83,84,82,73,78,71]]:=by kernel_rfl
 have h2:([84,82,85,69]:Str)∈Rp:=by decide+kernel
 have h3:([70,65,76,83,69]:Str)∈Rp:=by decide+kernel
 rw [h1];unfold vo;by_cases a:s=[84,82,85,69]
 · subst a;simp [h2]
 by_cases b:s=[70,65,76,83,69]
 · subst b;simp [h3]
 by_cases c:s∈Rp<;>simp [a,b,c]
theorem anP:KL.length=52:=by kernel_rfl
theorem aiL (s:Str):(uV s).length=s.length:=by simp [uV]
theorem aiM (s:Str) {i:Nat} (h:i<s.length):(uV s)[i]? =some (s[i].toNat:Int):=by simp [uV,h]
theorem aq5 (c:UInt8):IntKind.wrap .i64 (c.toNat:Int)=(c.toNat:Int):=by have:=c.toNat_lt;exact wrap64 (by omega) (by omega)
def PZ (s:Str):Nat:=s.countP isLet
theorem anQ (s:Str):decide ((PZ s:Int)>0)=s.any isLet:=by
 unfold PZ
 induction s with
 |nil=>rfl
 |cons c l ih=>
  rw [List.countP_cons,List.any_cons];by_cases h:isLet c=true
  · simp only [h,if_true,Bool.true_or,decide_eq_true_eq];omega
  · rw [if_neg h,Nat.add_zero,ih];simp [h]
theorem YM (c:UInt8):((iy (c.toNat:Int) 97 122).bind fun p26=>AJ (c.toNat:Int) p26)=some (isLet c):=by
 unfold AJ;simp only [tu,Option.bind_some,aq5];unfold isLet;have e1:((97:Int)<=(c.toNat:Int)/\(c.toNat:Int)<=122)=(97<=c.toNat/\c.toNat<=122):=by rw [eq_iff_iff];omega
 have e2:((65:Int)<=(c.toNat:Int)/\(c.toNat:Int)<=90)=(65<=c.toNat/\c.toNat<=90):=by rw [eq_iff_iff];omega
 simp only [e1,e2];cases decide (97<=c.toNat/\c.toNat<=122)<;>rfl
theorem AO (s:Str):Ev (fun k=>uH k s) (rName s):=by
 unfold uH FB;simp only [tu,Option.bind_some,aCm];by_cases h1:1<=s.length/\s.length<=24
 · have e1:(decide ((1:Int)<=(s.length:Int)/\(s.length:Int)<=24))=true:=decide_eq_true (by omega);simp only [e1,Bool.not_true,cond_false];refine Ev.bind (x:=ZK s||decide (s∈KL)) ?_ ?_
   · unfold ZK;cases decide (s.take 3=[87,70,95])
     · cases decide (s.take 3=[83,70,95])
       · exact Ev.bind (sP _ _ (by rw [anP];omega)) (Ev.some' (by simp only [Bool.false_or]))
       · exact Ev.some
     · exact Ev.some
   · have hspec:rName s=(!(ZK s||decide (s∈KL))&&s.all rR&&s.any isLet):=by
      rw [anO];unfold rName bName;simp only [h1,and_self,decide_true,Bool.true_and];cases decide (s∈Rp)<;>cases vo s<;>cases ZK s<;>cases s.all rR<;>cases s.any isLet<;>rfl
     rw [hspec];cases(ZK s||decide (s∈KL))
     · simp only [cond_false,Bool.not_false,Bool.true_and];have hb:s.length<=1099511627776:=by omega
       have key: ∀m:Nat,m<=0->Ev (fun k=>lM k (m:Int) (uV s) (s.length:Int) ((0:Nat):Int)) (if(s.drop 0).all rR=true then .inl ((m+PZ (s.drop 0):Nat):Int)else .inr false):=by
        refine gF (len:=s.length) (p:=fun i=> ∀m:Nat,m<=i->Ev (fun k=>lM k (m:Int) (uV s) (s.length:Int) (i:Int)) (if(s.drop i).all rR=true then .inl ((m+PZ (s.drop i):Nat):Int)else .inr false)) ?_ fun i hi ih m hm=> ?_
        · intro m hm;refine Ev.succ ?_;simp only [lM];exact Ev.cF (fT _) (Ev.some' (by simp only [List.drop_length,List.all_nil,if_true,PZ,List.countP_nil,Nat.add_zero]))
        · refine Ev.succ ?_;have hp1:=YM s[i];simp only [tu,Option.bind_some]at hp1;simp only [lM,Int.toNat_natCast,aiM s hi,Option.bind_some,nn,if_true,gP hi,cond_true,dw hi hb,tu,aq5];refine Ev.iK hp1 ?_;have hcount:PZ (s.drop i)=(if isLet s[i]=true then 1 else 0)+PZ (s.drop (i+1)):=by
           unfold PZ;rw [drop_cons hi,List.countP_cons,Nat.add_comm]
          rw [hcount];have hall:(s.drop i).all rR=(rR s[i]&&(s.drop (i+1)).all rR):=by rw [drop_cons hi,List.all_cons]
          rw [hall];by_cases h2:isLet s[i]=true
          · have hc:rR s[i]=true:=by unfold rR;rw [h2];rfl
            refine Ev.cT h2 ?_;rw [dw (i:=m) (n:=i+1) (by omega) (by omega)];refine(ih (m+1) (by omega)).to ?_;simp only [hc,h2,if_true,Bool.true_and,Nat.add_assoc]
          · have h2':isLet s[i]=false:=by simpa using h2
            refine Ev.cF h2' ?_;simp only [h2',Bool.false_eq_true,if_false,Nat.zero_add];have e3:((48:Int)<=(s[i].toNat:Int)/\(s[i].toNat:Int)<=57)=(48<=s[i].toNat/\s[i].toNat<=57):=by rw [eq_iff_iff];omega
            by_cases h3:48<=s[i].toNat/\s[i].toNat<=57
            · have hc:rR s[i]=true:=by unfold rR GZ;simp [h3]
              refine Ev.cT (decide_eq_true (e3▸h3)) ((ih m (by omega)).to ?_);simp only [hc,Bool.true_and]
            · refine Ev.cF (decide_eq_false (e3▸h3)) ?_;by_cases h4:s[i].toNat=95
              · have hc:rR s[i]=true:=by unfold rR;simp [h4]
                refine Ev.cF (by rw [h4];rfl) ((ih m (by omega)).to ?_);simp only [hc,Bool.true_and]
              · have hc:rR s[i]=false:=by unfold rR GZ;rw [h2'];simp [h4];omega
                refine Ev.cT (by rw [bne_iff_ne];omega) (Ev.some' ?_);simp only [hc,Bool.false_and,Bool.false_eq_true,if_false]
       have ayy:=key 0 (Nat.le_refl _);rw [List.drop_zero,Nat.zero_add]at ayy;simp only [aiL];refine Ev.bind ayy ?_;by_cases h3:s.all rR=true
       · simp only [h3,if_true,dZ,Bool.true_and];exact Ev.some' (anQ s)
       · simp only [h3,if_false,eT];exact Ev.some' (by simp [h3])
     · exact Ev.some
 · have e1:(decide ((1:Int)<=(s.length:Int)/\(s.length:Int)<=24))=false:=decide_eq_false (by omega);simp only [e1,Bool.not_false,cond_true,Option.bind_some];exact Ev.some' (by simp [rName,bName,h1])
theorem Wo (s:Str):(Lib.indexByte s 33= -1/\bang s=none)\/ ∃i:Nat,Lib.indexByte s 33=(i:Int)/\i<s.length/\bang s=some (s.take i,s.drop (i+1)):=by
 induction s with
 |nil=>exact .inl ⟨rfl,rfl⟩
 |cons c l ih=>
  by_cases h:c=33
  · subst h;exact .inr ⟨0,rfl,by simp,by simp [bang]⟩
  · have hc:(c==33)=false:=beq_eq_false_iff_ne.2 h;rcases ih with⟨h1,h2⟩|⟨i,h1,h2,h3⟩
    · exact .inl ⟨by simp [Lib.indexByte,hc,h1],by simp [bang,h,h2]⟩
    · refine .inr ⟨i+1,?_,by simp;omega,by simp [bang,h,h3]⟩;have:((i:Int)== -1)=false:=by rw [beq_eq_false_iff_ne];omega
      simp [Lib.indexByte,hc,h1,this]
theorem P5 {s:Str} (h:rName s=true):s.length<=24:=by
 unfold rName bName at h;simp only [Bool.and_eq_true,decide_eq_true_eq]at h;exact h.1.1.1.1.1.2
theorem Oc (s:Str) (hb:s.length<=1000000):Ev (fun k=>zM k s) (ku s):=by
 unfold zM am9;by_cases hl:s.length<=49
 · refine Ev.cF (decide_eq_false (by omega)) ?_;unfold ku;rcases Wo s with⟨h1,h2⟩|⟨i,h1,h2,h3⟩
   · simp only [h1,h2,Option.bind_some];refine Ev.cF (by decide) (Ev.bind (AO s) ?_);cases rName s<;>exact Ev.some
   · simp only [h1,h3,Option.bind_some];refine Ev.cT (decide_eq_true (by omega)) (Ev.lg ⟨by omega,by omega⟩ ?_);rw [dw h2 (by omega)];refine Ev.lg ⟨by omega,by omega⟩ (Ev.bind (AO _) ?_);simp only [Int.toNat_natCast];cases rName (s.take i)
     · exact Ev.some
     · simp only [cond_true,Bool.true_and];exact Ev.bind (AO _) Ev.some
 · refine Ev.cT (decide_eq_true (by omega)) (Ev.some' ?_);unfold ku;rcases Wo s with⟨h1,h2⟩|⟨i,h1,h2,h3⟩
   · simp only [h2];cases h:rName s
     · rfl
     · exact absurd (P5 h) (by omega)
   · simp only [h3];cases h:rName (s.take i)
     · rfl
     · cases h':rName (s.drop (i+1))
       · rfl
       · have a:=P5 h;have b:=P5 h';rw [List.length_take]at a;rw [List.length_drop]at b;omega
theorem afy (s:Str):yO s=some (yN s):=by
 unfold yO yN;have h:(!aiA s)=s.all Pw:=by
  unfold aiA
  induction s with
  |nil=>rfl
  |cons c l ih=>
   rw [List.any_cons,List.all_cons,Bool.not_or,ih];congr 1;unfold UQ Pw;generalize c.toNat=n;by_cases h1:32<=n<;>by_cases h2:n<=126<;>by_cases h3:n=34<;>by_cases h4:n=92<;>simp [h1,h2,h3,h4]
 rw [h];by_cases hl:s.length<=40
 · have:(s.length:Int)<=40:=by omega
   simp [hl,this]
 · have: ¬(s.length:Int)<=40:=by omega
   simp [hl,this]
theorem P6 {l:List Operator} {t:Str} (h: ¬t∈l.map (·.text)):dL l t=(Lv,false):=by
 induction l with
 |nil=>rfl
 |cons o l ih=>
  simp only [List.map_cons,List.mem_cons,not_or]at h;rw [dL,if_neg (fun e=>h.1 e.symm),ih h.2]
theorem aFZ (t:Str):dL qF t=dL eG t:=by
 have h1:((qF.map (·.text)).all fun t=>decide (dL qF t=dL eG t))=true:=by kernel_rfl
 have h2:((eG.map (·.text)).all fun t=>decide (t∈qF.map (·.text)))=true:=by kernel_rfl
 by_cases h:t∈qF.map (·.text)
 · exact of_decide_eq_true (List.all_eq_true.1 h1 t h)
 · rw [P6 h,P6 (fun h'=>h (of_decide_eq_true (List.all_eq_true.1 h2 t h')))]
theorem anR:qF.length=42:=by kernel_rfl
theorem xZ (t:Str):Ev (fun k=>nI k t) (dL eG t):=by
 rw [<-aFZ];have hl:qF.length<=1099511627776:=by rw [anR];omega
 have key: ∃o:Unit⊕Int,Ev (fun k=>bB k qF t (qF.length:Int) ((0:Nat):Int)) o/\((o= .inl ()/\dL (qF.drop 0) t=(Lv,false))\/ ∃(j:Nat) (x:Operator),o= .inr (j:Int)/\qF[j]? =some x/\dL (qF.drop 0) t=(x,true)):=by
  refine gF (len:=qF.length) (p:=fun i=> ∃o:Unit⊕Int,Ev (fun k=>bB k qF t (qF.length:Int) (i:Int)) o/\((o= .inl ()/\dL (qF.drop i) t=(Lv,false))\/ ∃(j:Nat) (x:Operator),o= .inr (j:Int)/\qF[j]? =some x/\dL (qF.drop i) t=(x,true))) ?_ fun i hi ⟨o,ih,ho⟩=> ?_
  · refine⟨.inl (),Ev.succ ?_,.inl ⟨rfl,by simp [dL]⟩⟩;simp only [bB];exact Ev.cF (fT _) Ev.some
  · by_cases h:qF[i].text=t
    · refine⟨.inr (i:Int),Ev.succ ?_,.inr ⟨i,qF[i],rfl,aW hi,by rw [drop_cons hi,dL,if_pos h]⟩⟩;simp only [bB,vg,Int.toNat_natCast,aW hi,Option.bind_some,nn,if_true,gP hi,cond_true,dw hi hl];exact Ev.cT (by rw [beq_iff_eq];exact h) Ev.some
    · refine⟨o,Ev.succ ?_,by rw [drop_cons hi,dL,if_neg h];exact ho⟩;simp only [bB,vg,Int.toNat_natCast,aW hi,Option.bind_some,nn,if_true,gP hi,cond_true,dw hi hl];exact Ev.cF (by rw [beq_eq_false_iff_ne];exact h) ih
 obtain⟨o,h1,h2⟩:=key;rw [List.drop_zero]at h2;unfold nI dW;rcases h2 with⟨rfl,h2⟩|⟨j,x,rfl,h3,h2⟩
 · refine Ev.bind (x:= -1) (Ev.bind h1 Ev.some) ?_;rw [h2];exact Ev.cT (by decide) Ev.some
 · refine Ev.bind (x:=(j:Int)) (Ev.bind h1 Ev.some) ?_;rw [h2];simp only [Int.toNat_natCast,h3,Option.bind_some,nn,if_true];exact Ev.cF (decide_eq_false (by omega)) Ev.some
def L6:List Int->Int
 |[]=>0
 |a::l=>if a=0 then L6 l else a
theorem zW (l:List Int) (hl:l.length<=1099511627776):Ev (fun k=>gT k l) (L6 l):=by
 have key:Ev (fun k=>jM k l (l.length:Int) ((0:Nat):Int)) (if L6 (l.drop 0)=0 then .inl ()else .inr (L6 (l.drop 0))):=by
  refine gF (len:=l.length) (p:=fun i=>Ev (fun k=>jM k l (l.length:Int) (i:Int)) (if L6 (l.drop i)=0 then .inl ()else .inr (L6 (l.drop i)))) ?_ fun i hi ih=> ?_
  · refine Ev.succ ?_;simp only [jM];exact Ev.cF (fT _) (Ev.some' (by simp [L6]))
  · refine Ev.succ ?_;simp only [jM,Int.toNat_natCast,aW hi,Option.bind_some,nn,if_true,gP hi,cond_true,dw hi hl];rw [drop_cons hi,L6];by_cases h:l[i]=0
    · refine Ev.cF (by rw [h];rfl) (ih.to ?_);simp only [h,if_true]
    · refine Ev.cT (by rw [bne_iff_ne];exact h) (Ev.some' ?_);simp only [h,if_false]
 unfold gT;refine Ev.bind key ?_;rw [List.drop_zero];by_cases h:L6 l=0
 · simp only [h,if_true,dZ];exact Ev.some
 · simp only [h,if_false,eT];exact Ev.some
theorem afz (l:List Str) (hl:l.length<=1099511627776):Ev (fun k=>eF k l) (!l.all rName):=by
 have key: ∃o:Unit⊕Int,Ev (fun k=>bS k l (l.length:Int) ((0:Nat):Int)) o/\((o= .inl ()/\(l.drop 0).all rName=true)\/(∃j:Nat,o= .inr (j:Int))/\(l.drop 0).all rName=false):=by
  refine gF (len:=l.length) (p:=fun i=> ∃o:Unit⊕Int,Ev (fun k=>bS k l (l.length:Int) (i:Int)) o/\((o= .inl ()/\(l.drop i).all rName=true)\/(∃j:Nat,o= .inr (j:Int))/\(l.drop i).all rName=false)) ?_ fun i hi ⟨o,ih,ho⟩=> ?_
  · refine⟨.inl (),Ev.succ ?_,.inl ⟨rfl,by simp⟩⟩;simp only [bS];exact Ev.cF (fT _) Ev.some
  · have hn:Ev (fun k=>yZ k l[i]) (!rName l[i]):=by unfold yZ;exact Ev.bind (AO _) Ev.some
    by_cases h:rName l[i]=true
    · refine⟨o,Ev.succ ?_,by rw [drop_cons hi,List.all_cons,h,Bool.true_and];exact ho⟩;simp only [bS,Int.toNat_natCast,aW hi,Option.bind_some,nn,if_true,gP hi,cond_true,dw hi hl];exact Ev.bind hn (Ev.cF (by rw [h];rfl) ih)
    · have h:rName l[i]=false:=by simpa using h
      refine⟨.inr (i:Int),Ev.succ ?_,.inr ⟨⟨i,rfl⟩,by rw [drop_cons hi,List.all_cons,h,Bool.false_and]⟩⟩;simp only [bS,Int.toNat_natCast,aW hi,Option.bind_some,nn,if_true,gP hi,cond_true,dw hi hl];exact Ev.bind hn (Ev.cT (by rw [h];rfl) Ev.some)
 obtain⟨o,h1,h2⟩:=key;rw [List.drop_zero]at h2;unfold eF;rcases h2 with⟨rfl,h2⟩|⟨⟨j,rfl⟩,h2⟩
 · refine Ev.bind (x:= -1) (by unfold iJ;exact Ev.bind h1 Ev.some) (Ev.some' ?_);rw [h2];rfl
 · refine Ev.bind (x:=(j:Int)) (by unfold iJ;exact Ev.bind h1 Ev.some) (Ev.some' ?_);rw [h2];simp
theorem anS (a b:Int) (c:Str) (l:List Str) (d:List Int) (hl:l.length<=1099511627776):Ev (fun k=>jD k a b c l d false l (l.length:Int) 0) (vv [] l):=by
 have key: ∀x:Bool,Ev (fun k=>jD k a b c l d x l (l.length:Int) ((0:Nat):Int)) (x||vv (l.take 0) (l.drop 0)):=by
  refine gF (len:=l.length) (p:=fun i=> ∀x:Bool,Ev (fun k=>jD k a b c l d x l (l.length:Int) (i:Int)) (x||vv (l.take i) (l.drop i))) (fun x=> ?_) fun i hi ih x=> ?_
  · refine Ev.succ ?_;simp only [jD];exact Ev.cF (fT _) (Ev.some' (by simp [vv]))
  · refine Ev.succ ?_;have h2:i<=l.length:=by omega
    simp only [jD,Int.toNat_natCast,aW hi,Option.bind_some,nn,if_true,gP hi,cond_true,dw hi hl,true_and,h2];rw [drop_cons hi,vv,<-List.take_succ_eq_append_getElem hi];cases x
    · refine Ev.cF rfl (Ev.bind (sP _ _ (by rw [List.length_take];omega)) ?_);simp only [Bool.false_or];exact ih _
    · exact Ev.cT rfl ((ih true).to (by simp))
 exact key false
def adg (n:Nd):Bool:= !(n.names.all rName)||(decide (n.kind=2)&& !vo n.text&& !ku n.text)||(decide (n.kind=3)&& !(dL eG n.text).2&& !ku n.text)||(decide (n.kind=18)&& !rName n.text)
def arT (n:Nd):Bool:=decide (n.kind=3)&&(dL eG n.text).2&& !gY (n.args.length:Int) (dL eG n.text).1.least (dL eG n.text).1.most
def L8 (n:Nd):Int:=if adg n=true then 7 else if arT n=true then 17 else if vv [] n.names=true then 12 else 0
theorem aaZ (n:Nd) (h1:n.text.length<=1000000) (h2:n.names.length<=1000000):Ev (fun k=>qW k n) (L8 n):=by
 unfold qW;refine Ev.bind (afz _ (by omega)) (Ev.bind (xZ _) (Ev.bind (x:=(adg n,arT n)) ?_ ?_))
 · unfold Bl adg arT gY;by_cases a:n.kind=2
   · simp only [a];refine Ev.cT rfl (Ev.bind (x:= !(n.names.all rName)||(!vo n.text&& !ku n.text)) ?_ (Ev.some' (by simp)));unfold Bc;cases n.names.all rName
     · exact Ev.some
     · refine Ev.cF rfl ?_;simp only [Pv,Option.bind_some];cases vo n.text
       · exact Ev.bind (Oc _ h1) (Ev.some' (by simp))
       · exact Ev.some
   by_cases b:n.kind=3
   · simp only [b];refine Ev.cF rfl (Ev.cT rfl (Ev.bind (x:= !(n.names.all rName)||(!(dL eG n.text).2&& !ku n.text)) ?_ ?_))
     · unfold Bd;cases n.names.all rName
       · exact Ev.some
       · refine Ev.cF rfl ?_;cases(dL eG n.text).2
         · exact Ev.bind (Oc _ h1) (Ev.some' (by simp))
         · exact Ev.some
     · unfold Bf;simp only [tu,Option.bind_some];cases(dL eG n.text).2
       · exact Ev.some' (by simp)
       · exact Ev.some' (by simp)
   by_cases c:n.kind=18
   · simp only [c];refine Ev.cF rfl (Ev.cF rfl (Ev.cT rfl (Ev.bind (x:= !(n.names.all rName)|| !rName n.text) ?_ (Ev.some' (by simp)))));unfold Bj;cases n.names.all rName
     · exact Ev.some
     · exact Ev.cF rfl (Ev.bind (AO _) (Ev.some' (by simp)))
   · refine Ev.cF (beq_eq_false_iff_ne.2 a) (Ev.cF (beq_eq_false_iff_ne.2 b) (Ev.cF (beq_eq_false_iff_ne.2 c) (Ev.some' ?_)));simp [a,b,c]
 · refine Ev.bind (anS _ _ _ n.names _ (by omega)) ?_;simp only [tC,Option.bind_some];refine Ev.bind (zW _ (by simp)) (Ev.some' ?_);unfold L8;cases adg n<;>cases arT n<;>cases vv [] n.names<;>rfl
def F5 (n:Nd):Shape:=
 if n.kind=0 then Shape.mk (0,0) (0,0) false true else
 if n.kind=1\/n.kind=2 then Shape.mk (0,0) (0,0) true false else
 if n.kind=3 then(if(dL eG n.text).2=true then Shape.mk (0,0) ((n.args.length:Int),(n.args.length:Int)) true false else Shape.mk (0,0) (1,4) true false)else
 if n.kind=4\/n.kind=5 then Shape.mk (0,0) (0,30) false false else
 if n.kind=6\/n.kind=12 then Shape.mk (1,1) (2,2) false false else
 if n.kind=7\/n.kind=8\/n.kind=9\/n.kind=13 then Shape.mk (1,4) ((n.names.length:Int)+1,(n.names.length:Int)+1) false false else
 if n.kind=10\/n.kind=11 then Shape.mk (1,4) (1,1) false false else
 if n.kind=14 then Shape.mk (0,0) (2,5) false false else
 if n.kind=16\/n.kind=17 then Shape.mk (1,30) ((n.names.length:Int),(n.names.length:Int)) false false else
 if n.kind=18 then Shape.mk (0,0) (1,1) true false else
 if n.kind=19\/n.kind=21 then Shape.mk (0,0) (3,3) false false else
 if n.kind=20 then Shape.mk (0,0) (0,0) false false else
 if n.kind=22 then Shape.mk (0,0) (2,30) false false else
 if n.kind=23 then Shape.mk (1,5) (2,2) false true else
 if n.kind=24 then Shape.mk (1,4) (1,1) false false else Shape.mk (0,0) (2,2) false false
theorem kinds {k:Int} (h:gY k 0 28=true):k=0\/k=1\/k=2\/k=3\/k=4\/k=5\/k=6\/k=7\/k=8\/k=9\/k=10\/k=11\/k=12\/k=13\/k=14\/k=15\/k=16\/k=17\/k=18\/k=19\/k=20\/k=21\/k=22\/k=23\/k=24\/k=25\/k=26\/k=27\/k=28:=by
 unfold gY at h;rw [decide_eq_true_eq]at h;omega
theorem adh (n:Nd) (hk:gY n.kind 0 28=true) (h2:n.names.length<=1000000):Ev (fun k=>yY k n) (F5 n):=by
 have hw:IntKind.wrap .i64 ((n.names.length:Int)+1)=(n.names.length:Int)+1:=wrap64 (by omega) (by omega);rcases kinds hk with h|h|h|h|h|h|h|h|h|h|h|h|h|h|h|h|h|h|h|h|h|h|h|h|h|h|h|h|h
 case' inr.inr.inr.inl=>
  unfold yY yX F5;simp only [h];refine Ev.cF rfl ?_;refine Ev.cg (Ev.bind (xZ n.text) (g:=fun k (uX:Operator×Bool)=>cond uX.2 (some (Shape.mk (0,0) ((n.args.length:Int),(n.args.length:Int)) true false)) (some (Shape.mk (0,0) (1,4) true false))) ?_) (fun k=>rfl);cases(dL eG n.text).2<;>exact Ev.some
 all_goals
  unfold yY yX Dt Du Dv Dw Dx Dy xH F5;simp only [h,hw];exact Ev.some
theorem ayz (n:Nd) (hk:gY n.kind 0 28=true):(gY (n.names.length:Int) (F5 n).names.1 (F5 n).names.2&&gY (n.args.length:Int) (F5 n).operands.1 (F5 n).operands.2)=qo n:=by
 have d {a b:Int} (P:Prop) [Decidable P] (h:a=b) (x y:Int):gY a x y=gY b x y:=by rw [h]
 rcases kinds hk with h|h|h|h|h|h|h|h|h|h|h|h|h|h|h|h|h|h|h|h|h|h|h|h|h|h|h|h|h
 case' inr.inr.inr.inl=>
  unfold F5 qo;simp only [h];cases(dL eG n.text).2
  · show(gY _ 0 0&&gY _ 1 4)=(gY _ 0 0&&gY _ 1 4)
    simp [iW,sM,wz]
  · show(gY _ 0 0&&gY _ _ _)=(gY _ 0 0&&gY _ 0 _)
    unfold gY;simp [iW,sM,wz]
 all_goals
  unfold F5 qo;simp only [h];unfold gY;rw [Bool.eq_iff_iff];simp [iW,sM,wz,CP,CQ,CS,CU,CV,CW];try omega
def clT (n:Nd):Bool:=((F5 n).text||decide (n.text=[]))&&((F5 n).number||decide (n.n=0))&&(!decide (n.kind=1)||yN n.text)&&(!decide (n.kind=23)||gY n.n 0 1)
theorem ayA (n:Nd) (hk:gY n.kind 0 28=true):clT n=pV n:=by
 rcases kinds hk with h|h|h|h|h|h|h|h|h|h|h|h|h|h|h|h|h|h|h|h|h|h|h|h|h|h|h|h|h
 case' inr.inr.inr.inl=>
  unfold clT pV F5;simp only [h];cases(dL eG n.text).2<;>simp
 all_goals
  unfold clT pV F5;simp only [h];simp [and_comm]
theorem ak4 (n:Nd):L8 n=if qp n≠0 then qp n else if vv [] n.names=true then 12 else 0:=by
 unfold L8 adg arT qp;cases n.names.all rName
 · simp
 by_cases a:n.kind=2
 · simp only [a];cases vo n.text<;>cases ku n.text<;>simp
 by_cases b:n.kind=3
 · simp only [b];cases(dL eG n.text).2<;>cases ku n.text<;>cases gY (n.args.length:Int) (dL eG n.text).1.least (dL eG n.text).1.most<;>simp
 by_cases c:n.kind=18
 · simp only [c];cases rName n.text<;>simp
 · simp [a,b,c]
theorem aF0 {e:List Nd} {i:Nat} {acc:List Int} (h:rT e i acc) (hi:i<=1000000) (l:List Int): ∀(m:Nat),m<=l.length-> ∀nx:Nat,nx<=i-> ∀tg:Bool,
 ∃z,pY m acc ((nx:Int) -1) tg l=some (if tF acc nx (l.take m).reverse=true then .inr (z,tg)else .inl (z,false)):=by
 intro m
 induction m with
 |zero=>intro _ nx _ tg;exact⟨(nx:Int) -1,by simp [pY,tF]⟩
 |succ m ih=>
  intro hm nx hnx tg;have hm':m<l.length:=by omega
  rw [pY,aW hm',Option.bind_some,acZ hm',tF];by_cases h1:l[m]=(nx:Int) -1
  · rw [pI (by rw [h1];simp)];by_cases h2:nx<1
    · refine⟨(nx:Int) -1,?_⟩;rw [wX (decide_eq_true (by omega))];have: ¬(1:Int)<=nx:=by omega
      simp [this]
    · obtain⟨j,rfl⟩: ∃j,nx=j+1:=⟨nx -1,by omega⟩;have e2:(((j+1:Nat):Int) -1)=(j:Int):=by omega
      rw [e2]at h1⊢;obtain⟨n',b,h3,h4,h5,h6,_⟩:=h.at_ j (by omega);obtain⟨b,rfl⟩: ∃b':Nat,b=b':=⟨b.toNat,by omega⟩;obtain⟨z,hz⟩:=ih (by omega) b (by omega) tg;refine⟨z,?_⟩;rw [pI (decide_eq_false (by omega)),if_pos (by omega),Int.toNat_natCast,h4,Option.bind_some,wrap64 (by omega) (by omega),hz];have e3:(1:Int)<=((j+1:Nat):Int):=by omega
      simp only [h1,e3,decide_true,Bool.true_and,Option.getD_some]
  · refine⟨(nx:Int) -1,?_⟩;rw [wX (by rw [bne_iff_ne];exact h1)];simp [h1]
theorem adi {e:List Nd} {i:Nat} {acc:List Int} (h:rT e i acc) (hi:i<=1000000) {n:Nd} (hn:e[i]? =some n) (h1:n.text.length<=1000000) (h2:n.names.length<=1000000) (h3:n.args.length<=1000000):
 Ev (fun k=>F4 k e (i:Int) acc) (bV (tF acc i n.args.reverse) n):=by
 unfold F4;simp only [Int.toNat_natCast,hn,Option.bind_some,nn,if_true,tu,tC];unfold bV;by_cases hk:gY n.kind 0 28=true
 case neg=>exact Ev.to (Ev.cF (by simpa [gY]using hk) Ev.some) (if_pos (by simpa using hk)).symm
 refine Ev.to ?_ (if_neg (by simp [hk])).symm;refine Ev.cT hk (Ev.bind (adh n hk h2) (Ev.iK (x:= !qo n) ?_ ?_))
 · rw [<-ayz n hk];unfold DT gY;simp only [tu,Option.bind_some];cases decide ((F5 n).names.1<=(n.names.length:Int)/\(n.names.length:Int)<=(F5 n).names.2)
   · rfl
   · rfl
 cases hs:qo n
 · exact Ev.some
 simp only [Bool.not_true,cond_false,Bool.true_eq_false,if_false];obtain⟨z,hz⟩:=aF0 h hi n.args n.args.length (Nat.le_refl _) i (Nat.le_refl _) true;rw [List.take_length]at hz;generalize tF acc (i:Int) n.args.reverse=pl at hz⊢;have hj:y8 acc n.kind n.n n.text n.names n.args (IntKind.wrap .i64 ((i:Int) -1)) true=some (z,pl):=by
  unfold y8;rw [if_pos (by omega),wrap64 (by omega) (by omega),hz];cases pl<;>rfl
 refine Ev.iK hj (Ev.iK (x:=pV n) ?_ ?_)
 · rw [<-ayA n hk];unfold DZ clT gY;simp only [afy,tu,Option.bind_some,LB,bne];have e1:((n.n==0):Bool)=decide (n.n=0):=by by_cases h:n.n=0<;>simp [h]
   have e2:((n.kind==1):Bool)=decide (n.kind=1):=by by_cases h:n.kind=1<;>simp [h]
   have e3:((n.kind==23):Bool)=decide (n.kind=23):=by by_cases h:n.kind=23<;>simp [h]
   simp only [e1,e2,e3];cases(F5 n).text<;>cases(F5 n).number<;>cases decide (n.text=[])<;>cases decide (n.n=0)<;>cases decide (n.kind=1)<;>cases yN n.text<;>cases decide (n.kind=23)<;>rfl
 have fin:Ev (fun k=>(qW k n).bind fun p=>(gT k [if(!(pl&&pV n))=true then 5 else 0,if(!decide (n.kind=23)&& !gY n.n 0 10000)=true then 3 else 0,p]).bind fun q=>some q) (L6 [if(!(pl&&pV n))=true then 5 else 0,if(!decide (n.kind=23)&& !gY n.n 0 10000)=true then 3 else 0,L8 n]):=
  Ev.bind (aaZ n h1 h2) (Ev.bind (zW _ (by simp)) Ev.some)
 have hval:L6 [if(!(pl&&pV n))=true then 5 else 0,if(!decide (n.kind=23)&& !gY n.n 0 10000)=true then 3 else 0,L8 n]=
  if(pl&&pV n)=false then 5 else if(decide (n.kind=0)&& !gY n.n 0 10000)=true then 3 else if qp n≠0 then qp n else if vv [] n.names=true then 12 else 0:=by
  rw [<-ak4];cases hpc:(pl&&pV n)
  · rfl
  · have hcl:pV n=true:=by revert hpc;cases pl<;>simp
    have hrg:(!decide (n.kind=23)&& !gY n.n 0 10000)=(decide (n.kind=0)&& !gY n.n 0 10000):=by
     unfold pV at hcl;simp only [Bool.and_eq_true]at hcl;have hx:=hcl.1.1.2;by_cases a:n.kind=0
     · simp [a]
     by_cases b:n.kind=23
     · simp [b]
     have hx:n.n=0:=by simpa [a,b]using hx
     simp [a,b,hx,gY]
    simp only [Bool.not_true,Bool.false_eq_true,if_false,Bool.true_eq_false,L6,if_true,hrg];cases(decide (n.kind=0)&& !gY n.n 0 10000)
    · simp only [Bool.false_eq_true,if_false,if_true];split
      · rename_i h;exact h.symm
      · rfl
    · rfl
 rw [<-hval];refine Ev.cg fin fun k=> ?_;cases pl
 · simp only [cond_false];by_cases hl:n.kind=23
   · simp only [hl];rfl
   · rw [pI (beq_eq_false_iff_ne.2 hl)];simp only [hl,decide_false,Bool.not_false,Bool.true_and,Bool.false_and];rfl
 · simp only [cond_true];by_cases hl:n.kind=23
   · simp only [hl];rfl
   · rw [pI (beq_eq_false_iff_ne.2 hl)];simp only [hl,decide_false,Bool.not_false,Bool.true_and];rfl
theorem GL {e:List Nd} (hL:oz e): ∀i,i<=e.length-> ∀acc,rT e i acc->Ev (fun k=>jJ k e acc (e.length:Int) (i:Int)) (jA acc (e.drop i)):=by
 have hlen:=hL.len;refine down (fun acc h=> ?_) (fun i hi ih acc h=> ?_)
 · refine Ev.succ ?_;simp only [jJ];exact Ev.cF (fT _) (Ev.some' (by simp [jA]))
 · refine Ev.succ ?_;obtain⟨h1,h2,h3⟩:=hL.nd i _ (aW hi);simp only [jJ];refine Ev.cT (gP hi) (Ev.bind (adi h (by omega) (aW hi) h1 h2 h3) ?_);rw [drop_cons hi,jA,h.len];by_cases hc:bV (tF acc i e[i].args.reverse) e[i]=0
   · refine Ev.cF (by rw [hc];rfl) ?_;have aiN:=h.len;have hp:=Ay hc;have hok:=h.succ (aW hi) hp;refine Ev.lg (by omega) (Ev.iK (x:=xO acc e[i]) ?_ (Ev.lg (nn i) (Ev.iK (x:=0) ?_ ?_)))
     · unfold Ls xO;simp only [Int.toNat_natCast,aW hi,Option.bind_some,nn,if_true];cases hargs:e[i].args with
       |nil=>simp [aiN]
       |cons a l=>
        have ha:=YA h _ i (Nat.le_refl _) hp a (by rw [hargs];simp);obtain⟨n',b,h4,h5,_⟩:=h.at_ a.toNat (by omega);rw [pI (by rw [beq_eq_false_iff_ne,List.length_cons];omega),List.getElem?_cons_zero,Option.bind_some,if_pos ha.1,List.getElem?_append_left (by omega),h5];simp only [h5,Option.getD_some,Option.bind_some]
     · rw [Int.toNat_natCast,List.getElem?_append_right (by omega),aiN,Nat.sub_self];rfl
     · have e1:(acc++[0]).set ((i:Int).toNat) (xO acc e[i])=acc++[xO acc e[i]]:=by
        rw [Int.toNat_natCast,List.set_append_right _ _ (by omega),aiN,Nat.sub_self];rfl
       rw [e1,dw hi (by omega)];refine(ih _ hok).to ?_;simp only [hc,ne_eq,not_true_eq_false,if_false]
   · refine Ev.cT (by rw [bne_iff_ne];exact hc) (Ev.some' ?_);simp only [ne_eq,hc,not_false_eq_true,if_true]
inductive Tm where
 |mk (x:Nd) (cs:List Tm)
namespace Tm
mutual
def size:Tm->Nat
 | .mk _ cs=>sizes cs+1
def sizes:List Tm->Nat
 |[]=>0
 |c::cs=>size c+sizes cs
end
def roots:Nat->List Tm->List Int
 |_,[]=>[]
 |b,c::cs=>((b+c.size -1:Nat):Int)::roots (b+c.size) cs
def nd (x:Nd) (b:Nat) (cs:List Tm):Nd:={x with args:=roots b cs}
mutual
def flat (b:Nat):Tm->List Nd
 | .mk x cs=>bn b cs++[nd x b cs]
def bn (b:Nat):List Tm->List Nd
 |[]=>[]
 |c::cs=>flat b c++bn (b+c.size) cs
end
theorem lF {b:Nat} {x:Nd} {cs:List Tm}:flat b (.mk x cs)=bn b cs++[nd x b cs]:=by rw [flat]
theorem iZ {b:Nat} {c:Tm} {cs:List Tm}:bn b (c::cs)=flat b c++bn (b+c.size) cs:=by rw [bn]
def root:Tm->Nd| .mk x _=>x
theorem size_pos: ∀t:Tm,0<t.size
 | .mk x cs=>by unfold size;omega
mutual
theorem bG (b:Nat): ∀t:Tm,(flat b t).length=t.size
 | .mk x cs=>by unfold flat size;rw [List.length_append,dF b cs];rfl
theorem dF (b:Nat): ∀cs:List Tm,(bn b cs).length=sizes cs
 |[]=>rfl
 |c::cs=>by unfold bn sizes;rw [List.length_append,bG b c,dF (b+c.size) cs]
end
theorem jh: ∀(b:Nat) (cs:List Tm),(roots b cs).length=cs.length
 |_,[]=>rfl
 |b,c::cs=>by unfold roots;rw [List.length_cons,List.length_cons,jh (b+c.size) cs]
theorem dJ: ∀a b:List Tm,sizes (a++b)=sizes a+sizes b
 |[],b=>by simp [sizes]
 |c::a,b=>by simp only [List.cons_append,sizes,dJ a b];omega
theorem rV: ∀(b:Nat) (l m:List Tm),bn b (l++m)=bn b l++bn (b+sizes l) m
 |b,[],m=>by simp [bn,sizes]
 |b,c::l,m=>by simp only [List.cons_append,bn,sizes,rV (b+c.size) l m,List.append_assoc,Nat.add_assoc]
theorem zf: ∀(b:Nat) (l m:List Tm),roots b (l++m)=roots b l++roots (b+sizes l) m
 |b,[],m=>by simp [roots,sizes]
 |b,c::l,m=>by simp only [List.cons_append,roots,sizes,zf (b+c.size) l m,Nat.add_assoc]
def Seg (e:List Nd) (b:Nat) (s:Tm):Prop:= ∃pre post,e=pre++(flat b s++post)/\pre.length=b
theorem Seg.whole (t:Tm):Seg (flat 0 t) 0 t:=⟨[],[],by simp,rfl⟩
theorem Seg.lt {e:List Nd} {b:Nat} {s:Tm} (h:Seg e b s):b+s.size<=e.length:=by
 obtain⟨pre,post,rfl,rfl⟩:=h;simp only [List.length_append,bG];omega
theorem Seg.node {e:List Nd} {b:Nat} {x:Nd} {cs:List Tm} (h:Seg e b (.mk x cs)):e[b+sizes cs]? =some (nd x b cs):=by
 obtain⟨pre,post,rfl,rfl⟩:=h;rw [List.getElem?_append_right (by omega),show pre.length+sizes cs -pre.length=sizes cs by omega];rw [lF,List.append_assoc,List.getElem?_append_right (by rw [dF];exact Nat.le_refl _),dF,Nat.sub_self];rfl
theorem Seg.kid {e:List Nd} {b:Nat} {x:Nd} {l m:List Tm} {c:Tm} (h:Seg e b (.mk x (l++c::m))):Seg e (b+sizes l) c:=by
 obtain⟨pre,post,rfl,rfl⟩:=h;refine⟨pre++bn pre.length l,bn (pre.length+sizes l+c.size) m++([nd x pre.length (l++c::m)]++post),?_,by rw [List.length_append,dF]⟩;rw [lF,rV,iZ];simp only [List.append_assoc]
theorem F6 {b:Nat} {l m:List Tm} {c:Tm}:(roots b (l++c::m))[l.length]? =some (((b+sizes l+c.size -1:Nat):Int)):=by
 rw [zf,List.getElem?_append_right (by rw [jh];exact Nat.le_refl _),jh,Nat.sub_self];rfl
end Tm
end Go.VL
end
section
namespace Go.VL
namespace Tm
mutual
def Rw (b:Nat):Tm->List Int
 | .mk _ cs=>lQ b cs++[(b:Int)]
def lQ (b:Nat):List Tm->List Int
 |[]=>[]
 |c::cs=>Rw b c++lQ (b+c.size) cs
end
theorem Wp {b:Nat} {x:Nd} {cs:List Tm}:Rw b (.mk x cs)=lQ b cs++[(b:Int)]:=by rw [Rw]
mutual
theorem YN (b:Nat): ∀t:Tm,(Rw b t).length=t.size
 | .mk x cs=>by rw [Wp];unfold size;rw [List.length_append,uL b cs];rfl
theorem uL (b:Nat): ∀cs:List Tm,(lQ b cs).length=sizes cs
 |[]=>rfl
 |c::cs=>by unfold lQ sizes;rw [List.length_append,YN b c,uL (b+c.size) cs]
end
theorem AP: ∀(b:Nat) (l m:List Tm),lQ b (l++m)=lQ b l++lQ (b+sizes l) m
 |b,[],m=>by simp [lQ,sizes]
 |b,c::l,m=>by simp only [List.cons_append,lQ,sizes,AP (b+c.size) l m,List.append_assoc,Nat.add_assoc]
theorem adj {b:Nat} {t:Tm}:(Rw b t)[t.size -1]? =some (b:Int):=by
 cases t with
 |mk x cs=>
  rw [Wp];have:(mk x cs).size -1=sizes cs:=by unfold size;omega
  rw [this,List.getElem?_append_right (by rw [uL];exact Nat.le_refl _),uL,Nat.sub_self];rfl
theorem rD (t:Tm):sizes [t]=t.size:=by simp [sizes]
theorem zh (b:Nat) (t:Tm):bn b [t]=flat b t:=by simp [bn]
theorem anT (b:Nat) (t:Tm):lQ b [t]=Rw b t:=by simp [lQ]
theorem ZR (b:Nat) (t:Tm):roots b [t]=[((b+t.size -1:Nat):Int)]:=by simp [roots]
theorem L9 {b:Nat} {l m:List Tm} {t:Tm}:(lQ b (l++t::m))[sizes l+t.size -1]? =some ((b+sizes l:Nat):Int):=by
 have hp:=t.size_pos;rw [AP,List.getElem?_append_right (by rw [uL];omega),uL];unfold lQ;rw [List.getElem?_append_left (by rw [YN];omega),show sizes l+t.size -1 -sizes l=t.size -1 by omega,adj]
theorem adk {ts:List Tm} {acc:List Int} (ha:acc=lQ 0 ts): ∀(l:List Int) (t1 rest:List Tm),ts=t1++rest->tF acc ((sizes t1:Nat):Int) l=true-> ∃front mid,t1=front++mid/\l.reverse=roots (sizes front) mid
 |[],t1,rest,_,_=>⟨t1,[],by simp,by simp [roots]⟩
 |a::l,t1,rest,hts,hp=>by
  rw [tF,Bool.and_eq_true,Bool.and_eq_true,decide_eq_true_eq,decide_eq_true_eq]at hp;obtain⟨⟨h1,h2⟩,h3⟩:=hp;rcases List.eq_nil_or_concat t1 with rfl|⟨t2,t,rfl⟩
  · simp [sizes]at h2
  rw [List.concat_eq_append]at*;have hpos:=t.size_pos;have hsz:sizes (t2++[t])=sizes t2+t.size:=by rw [dJ,rD]
  have hget:acc[(((sizes (t2++[t]):Nat):Int) -1).toNat]? =some ((sizes t2:Nat):Int):=by
   rw [ha,hts,List.append_assoc,hsz,show((((sizes t2+t.size:Nat):Int) -1).toNat)=sizes t2+t.size -1 by omega];have:=L9 (b:=0) (l:=t2) (m:=rest) (t:=t);rw [Nat.zero_add]at this;exact this
  rw [hget,Option.getD_some]at h3;obtain⟨front,mid,e1,e2⟩:=adk ha l t2 ([t]++rest) (by rw [hts,List.append_assoc]) h3;refine⟨front,mid++[t],by rw [e1,List.append_assoc],?_⟩;rw [List.reverse_cons,e2,zf,ZR];congr 2;rw [h1,hsz,e1,dJ];omega
def bare (n:Nd):Nd:={n with args:=[]}
theorem as7 {n:Nd} {b:Nat} {cs:List Tm} (h:n.args=roots b cs):nd (bare n) b cs=n:=by
 unfold nd bare;cases n;simp only at h⊢;rw [h]
theorem row_step {ts:List Tm} {acc:List Int} {n:Nd} (ha:acc=lQ 0 ts) (hp:tF acc (acc.length:Int) n.args.reverse=true):
 ∃front last,ts=front++last/\n.args=roots (sizes front) last/\bn 0 (front++[.mk (bare n) last])=bn 0 ts++[n]/\lQ 0 (front++[.mk (bare n) last])=acc++[xO acc n]:=by
 have hl:acc.length=sizes ts:=by rw [ha,uL]
 rw [hl]at hp;obtain⟨front,last,e1,e2⟩:=adk ha n.args.reverse ts [] (by simp) hp;rw [List.reverse_reverse]at e2;refine⟨front,last,e1,e2,?_,?_⟩
 · rw [rV,zh,lF,as7 (by rw [Nat.zero_add];exact e2),e1,rV,List.append_assoc]
 · rw [AP,anT,Wp,ha,e1,AP,List.append_assoc];congr 3;rw [Nat.zero_add];unfold xO;rw [e2];cases last with
   |nil=>simp [roots,lQ,uL]
   |cons c cs=>
    simp only [roots];have h1:=L9 (b:=0) (l:=front) (m:=cs) (t:=c);rw [Nat.zero_add,AP,Nat.zero_add]at h1;rw [Int.toNat_natCast,h1,Option.getD_some]
mutual
def nW (b:Nat) (p k:Int):Tm->List (Int×Int)
 | .mk _ cs=>fV b ((b+sizes cs:Nat):Int) 0 cs++[(p,k)]
def fV (b:Nat) (p:Int) (k:Nat):List Tm->List (Int×Int)
 |[]=>[]
 |c::cs=>nW b p k c++fV (b+c.size) p (k+1) cs
end
def bL (b:Nat):List Tm->List (Int×Int)
 |[]=>[]
 |c::cs=>nW b (-1) 0 c++bL (b+c.size) cs
theorem vG {b:Nat} {p k:Int} {x:Nd} {cs:List Tm}:nW b p k (.mk x cs)=fV b ((b+sizes cs:Nat):Int) 0 cs++[(p,k)]:=by rw [nW]
mutual
theorem gu (b:Nat) (p k:Int): ∀t:Tm,(nW b p k t).length=t.size
 | .mk x cs=>by rw [vG];unfold size;rw [List.length_append,fq];rfl
theorem fq (b:Nat) (p:Int) (k:Nat): ∀cs:List Tm,(fV b p k cs).length=sizes cs
 |[]=>rfl
 |c::cs=>by unfold fV sizes;rw [List.length_append,gu b p k c,fq (b+c.size) p (k+1) cs]
end
theorem vQ: ∀(b:Nat) (cs:List Tm),(bL b cs).length=sizes cs
 |_,[]=>rfl
 |b,c::cs=>by unfold bL sizes;rw [List.length_append,gu,vQ (b+c.size) cs]
theorem Jh: ∀(b:Nat) (l m:List Tm),bL b (l++m)=bL b l++bL (b+sizes l) m
 |b,[],m=>by simp [bL,sizes]
 |b,c::l,m=>by simp only [List.cons_append,bL,sizes,Jh (b+c.size) l m,List.append_assoc,Nat.add_assoc]
theorem Kk (b:Nat) (t:Tm):bL b [t]=nW b (-1) 0 t:=by simp [bL]
theorem ZT: ∀(b:Nat) (p:Int) (k:Nat) (cs:List Tm) (j:Nat) (a:Int),(roots b cs)[j]? =some a-> ∃r:Nat,a=((b+r:Nat):Int)/\r<sizes cs/\(fV b p k cs)[r]? =some (p,((k+j:Nat):Int))
 |b,p,k,[],j,a,h=>by simp [roots]at h
 |b,p,k,c::cs,j,a,h=>by
  have hpos:=c.size_pos;cases j with
  |zero=>
   simp only [roots,List.getElem?_cons_zero,Option.some.injEq]at h;refine⟨c.size -1,by rw [<-h];congr 1;omega,by simp only [sizes];omega,?_⟩;unfold fV;rw [List.getElem?_append_left (by rw [gu];omega)];cases c with
   |mk x ds=>
    rw [vG,show(mk x ds).size -1=sizes ds by unfold size;omega,List.getElem?_append_right (by rw [fq];exact Nat.le_refl _),fq,Nat.sub_self];rfl
  |succ j=>
   simp only [roots,List.getElem?_cons_succ]at h;obtain⟨r,h1,h2,h3⟩:=ZT (b+c.size) p (k+1) cs j a h;refine⟨c.size+r,by rw [h1,Nat.add_assoc],by simp only [sizes];omega,?_⟩;unfold fV;rw [List.getElem?_append_right (by rw [gu];omega),gu,show c.size+r -c.size=r by omega,h3];congr 3;omega
mutual
theorem agU: ∀(b:Nat) (p k:Int) (t:Tm) (q:Nat) (n:Nd) (j:Nat) (a:Int),(flat b t)[q]? =some n->n.args[j]? =some a-> ∃r:Nat,a=((b+r:Nat):Int)/\r<q/\(nW b p k t)[r]? =some (((b+q:Nat):Int),(j:Int))
 |b,p,k,.mk x cs,q,n,j,a,h1,h2=>by
  rw [lF]at h1;rw [vG];by_cases hq:q<sizes cs
  · rw [List.getElem?_append_left (by rw [dF];exact hq)]at h1;obtain⟨r,h3,h4,h5⟩:=adl b ((b+sizes cs:Nat):Int) 0 cs q n j a h1 h2;exact⟨r,h3,h4,by rw [List.getElem?_append_left (by rw [fq];omega)];exact h5⟩
  · have hlt:=(List.getElem?_eq_some_iff.1 h1).1;rw [List.length_append,dF]at hlt;obtain rfl:q=sizes cs:=by simp at hlt;omega
    rw [List.getElem?_append_right (by rw [dF];exact Nat.le_refl _),dF,Nat.sub_self,List.getElem?_cons_zero,Option.some.injEq]at h1;subst h1;obtain⟨r,h3,h4,h5⟩:=ZT b ((b+sizes cs:Nat):Int) 0 cs j a h2;refine⟨r,h3,h4,?_⟩;rw [List.getElem?_append_left (by rw [fq];exact h4),h5,Nat.zero_add]
theorem adl: ∀(b:Nat) (p:Int) (k:Nat) (cs:List Tm) (q:Nat) (n:Nd) (j:Nat) (a:Int),(bn b cs)[q]? =some n->n.args[j]? =some a-> ∃r:Nat,a=((b+r:Nat):Int)/\r<q/\(fV b p k cs)[r]? =some (((b+q:Nat):Int),(j:Int))
 |b,p,k,[],q,n,j,a,h1,h2=>by simp [bn]at h1
 |b,p,k,c::cs,q,n,j,a,h1,h2=>by
  rw [iZ]at h1;unfold fV;by_cases hq:q<c.size
  · rw [List.getElem?_append_left (by rw [bG];exact hq)]at h1;obtain⟨r,h3,h4,h5⟩:=agU b p k c q n j a h1 h2;exact⟨r,h3,h4,by rw [List.getElem?_append_left (by rw [gu];omega)];exact h5⟩
  · rw [List.getElem?_append_right (by rw [bG];omega),bG]at h1;obtain⟨r,h3,h4,h5⟩:=adl (b+c.size) p (k+1) cs (q -c.size) n j a h1 h2;refine⟨c.size+r,by rw [h3,Nat.add_assoc],by omega,?_⟩;rw [List.getElem?_append_right (by rw [gu];omega),gu,show c.size+r -c.size=r by omega,h5];congr 3;omega
end
theorem UZ: ∀(b:Nat) (cs:List Tm) (q:Nat) (n:Nd) (j:Nat) (a:Int),(bn b cs)[q]? =some n->n.args[j]? =some a-> ∃r:Nat,a=((b+r:Nat):Int)/\r<q/\(bL b cs)[r]? =some (((b+q:Nat):Int),(j:Int))
 |b,[],q,n,j,a,h1,h2=>by simp [bn]at h1
 |b,c::cs,q,n,j,a,h1,h2=>by
  rw [iZ]at h1;unfold bL;by_cases hq:q<c.size
  · rw [List.getElem?_append_left (by rw [bG];exact hq)]at h1;obtain⟨r,h3,h4,h5⟩:=agU b (-1) 0 c q n j a h1 h2;exact⟨r,h3,h4,by rw [List.getElem?_append_left (by rw [gu];omega)];exact h5⟩
  · rw [List.getElem?_append_right (by rw [bG];omega),bG]at h1;obtain⟨r,h3,h4,h5⟩:=UZ (b+c.size) cs (q -c.size) n j a h1 h2;refine⟨c.size+r,by rw [h3,Nat.add_assoc],by omega,?_⟩;rw [List.getElem?_append_right (by rw [gu];omega),gu,show c.size+r -c.size=r by omega,h5];congr 3;omega
def Says (b:Nat) (l:List Nd) (r:Nat) (P j:Int):Prop:= ∃(q j':Nat) (n:Nd),P=((b+q:Nat):Int)/\j=(j':Int)/\r<q/\l[q]? =some n/\n.args[j']? =some ((b+r:Nat):Int)
theorem P7 {b:Nat} {l m:List Nd} {r:Nat} {P j:Int} (h:Says b l r P j):Says b (l++m) r P j:=by
 obtain⟨q,j',n,h1,h2,h3,h4,h5⟩:=h;exact⟨q,j',n,h1,h2,h3,by rw [List.getElem?_append_left (List.getElem?_eq_some_iff.1 h4).1];exact h4,h5⟩
theorem Wq {b:Nat} {l m:List Nd} {r:Nat} {P j:Int} (h:Says (b+l.length) m r P j):Says b (l++m) (l.length+r) P j:=by
 obtain⟨q,j',n,h1,h2,h3,h4,h5⟩:=h;exact⟨l.length+q,j',n,by rw [h1,Nat.add_assoc],h2,by omega,by rw [List.getElem?_append_right (by omega),show l.length+q -l.length=q by omega];exact h4,by rw [h5,Nat.add_assoc]⟩
theorem aiO: ∀(b:Nat) (cs:List Tm) (k:Nat) (c:Tm) (l m:List Tm),cs=l++c::m->(roots b cs)[l.length]? =some ((b+(sizes l+c.size -1):Nat):Int):=by
 intro b cs k c l m h;have hp:=c.size_pos;rw [h,F6];congr 2;omega
mutual
theorem ZU: ∀(b:Nat) (p k:Int) (t:Tm) (r:Nat) (P j:Int),(nW b p k t)[r]? =some (P,j)->(r=t.size -1/\P=p/\j=k)\/Says b (flat b t) r P j
 |b,p,k,.mk x cs,r,P,j,h=>by
  rw [vG]at h;by_cases hr:r<sizes cs
  · rw [List.getElem?_append_left (by rw [fq];exact hr)]at h;rw [lF];rcases Ws b ((b+sizes cs:Nat):Int) 0 cs r P j h with⟨l,c,m,e1,e2,e3,e4⟩|hs
    · right;refine⟨sizes cs,l.length,nd x b cs,e3,by rw [e4,Nat.zero_add],hr,?_,?_⟩
      · rw [List.getElem?_append_right (by rw [dF];exact Nat.le_refl _),dF,Nat.sub_self];rfl
      · show(roots b cs)[l.length]? =_
        rw [aiO b cs 0 c l m e1,e2]
    · exact .inr (P7 hs)
  · have hlt:=(List.getElem?_eq_some_iff.1 h).1;rw [List.length_append,fq]at hlt;obtain rfl:r=sizes cs:=by simp at hlt;omega
    rw [List.getElem?_append_right (by rw [fq];exact Nat.le_refl _),fq,Nat.sub_self,List.getElem?_cons_zero]at h;cases h;left;exact⟨by unfold size;omega,rfl,rfl⟩
theorem Ws: ∀(b:Nat) (p:Int) (k:Nat) (cs:List Tm) (r:Nat) (P j:Int),(fV b p k cs)[r]? =some (P,j)->
 (∃l c m,cs=l++c::m/\r=sizes l+c.size -1/\P=p/\j=((k+l.length:Nat):Int))\/Says b (bn b cs) r P j
 |b,p,k,[],r,P,j,h=>by simp [fV]at h
 |b,p,k,c::cs,r,P,j,h=>by
  unfold fV at h;rw [iZ];by_cases hr:r<c.size
  · rw [List.getElem?_append_left (by rw [gu];exact hr)]at h;rcases ZU b p k c r P j h with⟨e1,e2,e3⟩|hs
    · exact .inl ⟨[],c,cs,rfl,by simp [sizes,e1],e2,by simp [e3]⟩
    · exact .inr (P7 hs)
  · rw [List.getElem?_append_right (by rw [gu];omega),gu]at h;rcases Ws (b+c.size) p (k+1) cs (r -c.size) P j h with⟨l,d,m,e1,e2,e3,e4⟩|hs
    · refine .inl ⟨c::l,d,m,by rw [e1];rfl,?_,e3,by rw [e4,List.length_cons];omega⟩;have:=d.size_pos;simp only [sizes];omega
    · right;have h2:Says (b+(flat b c).length) (bn (b+c.size) cs) (r -c.size) P j:=by rw [bG];exact hs
      have:=Wq h2;rw [bG,show c.size+(r -c.size)=r by omega]at this;exact this
end
theorem Na: ∀(b:Nat) (cs:List Tm) (r:Nat) (P j:Int),(bL b cs)[r]? =some (P,j)->(P= -1/\j=0)\/Says b (bn b cs) r P j
 |b,[],r,P,j,h=>by simp [bL]at h
 |b,c::cs,r,P,j,h=>by
  unfold bL at h;rw [iZ];by_cases hr:r<c.size
  · rw [List.getElem?_append_left (by rw [gu];exact hr)]at h;rcases ZU b (-1) 0 c r P j h with⟨e1,e2,e3⟩|hs
    · exact .inl ⟨e2,e3⟩
    · exact .inr (P7 hs)
  · rw [List.getElem?_append_right (by rw [gu];omega),gu]at h;rcases Na (b+c.size) cs (r -c.size) P j h with hs|hs
    · exact .inl hs
    · right;have h2:Says (b+(flat b c).length) (bn (b+c.size) cs) (r -c.size) P j:=by rw [bG];exact hs
      have:=Wq h2;rw [bG,show c.size+(r -c.size)=r by omega]at this;exact this
end Tm
end Go.VL
end
section
namespace Go.VL
open Tm
theorem agV: ∀(l:List Nd) (acc acc':List Int),jA acc l= .inl acc'-> ∀(i:Nat) n,l[i]? =some n->bV true n=0
 |[],_,_,_,i,n,hn=>by simp at hn
 |m::l,acc,acc',h,i,n,hn=>by
  rw [jA]at h;by_cases hc:bV (tF acc acc.length m.args.reverse) m=0
  · rw [if_neg (fun k=>k hc)]at h;cases i with
    |zero=>
     simp only [List.getElem?_cons_zero,Option.some.injEq]at hn;subst hn;rw [Ay hc]at hc;exact hc
    |succ i=>exact agV l _ acc' h i n (by simpa using hn)
  · rw [if_pos hc]at h;cases h
def Ma (a:Int):List Int->Nat->Option Nat
 |[],_=>none
 |x::l,j=>if x=a then some j else Ma a l (j+1)
def Gw (a:Int):List Nd->Nat->Option (Nat×Nat)
 |[],_=>none
 |n::l,k=>match Ma a n.args 0 with
  |some j=>some (k,j)
  |none=>Gw a l (k+1)
theorem adn {a:Int}: ∀{l:List Int} {j j':Nat},Ma a l j=some j'-> ∃d,j'=j+d/\l[d]? =some a
 |[],j,j',h=>by simp [Ma]at h
 |x::l,j,j',h=>by
  rw [Ma]at h;by_cases hx:x=a
  · rw [if_pos hx]at h;cases h;exact⟨0,rfl,by simp [hx]⟩
  · rw [if_neg hx]at h;obtain⟨d,e1,e2⟩:=adn h;exact⟨d+1,by omega,by simpa using e2⟩
theorem ado {a:Int}: ∀{l:List Int} {j:Nat},Ma a l j=none-> ∀d:Nat,l[d]? ≠some a
 |[],j,h,d=>by simp
 |x::l,j,h,d=>by
  rw [Ma]at h;by_cases hx:x=a
  · rw [if_pos hx]at h;cases h
  · rw [if_neg hx]at h;cases d with
    |zero=>simpa using hx
    |succ d=>simpa using ado h d
theorem ZV {a:Int}: ∀{l:List Nd} {k k' j:Nat},Gw a l k=some (k',j)-> ∃d n,k'=k+d/\l[d]? =some n/\n.args[j]? =some a
 |[],k,k',j,h=>by simp [Gw]at h
 |n::l,k,k',j,h=>by
  rw [Gw]at h;cases hf:Ma a n.args 0 with
  |some j'=>
   rw [hf]at h;cases h;obtain⟨d,e1,e2⟩:=adn hf;exact⟨0,n,rfl,rfl,by rw [e1,Nat.zero_add];exact e2⟩
  |none=>
   rw [hf]at h;obtain⟨d,m,e1,e2,e3⟩:=ZV h;exact⟨d+1,m,by omega,by simpa using e2,e3⟩
theorem ZW {a:Int}: ∀{l:List Nd} {k:Nat},Gw a l k=none-> ∀(d:Nat) n (j:Nat),l[d]? =some n->n.args[j]? ≠some a
 |[],k,h,d,n,j,hn=>by simp at hn
 |m::l,k,h,d,n,j,hn=>by
  rw [Gw]at h;cases hf:Ma a m.args 0 with
  |some j'=>rw [hf]at h;cases h
  |none=>
   rw [hf]at h;cases d with
   |zero=>simp only [List.getElem?_cons_zero,Option.some.injEq]at hn;subst hn;exact ado hf j
   |succ d=>exact ZW h d n j (by simpa using hn)
theorem YO {e:List Nd} {k:Nat} {n:Nd} (hn:e[k]? =some n) (hl:n.args.length<=1000000) (a:Int): ∀j,j<=n.args.length->Ev (fun f=>uF f e a (k:Int) (j:Int)) (match Ma a (n.args.drop j) j with|some j'=> .inr ((k:Int),(j':Int))|none=> .inl ()):=by
 refine down ?_ fun j hj ih=> ?_
 · refine Ev.succ ?_;simp only [uF,Int.toNat_natCast,hn,Option.bind_some,nn,if_true];exact Ev.cF (fT _) (Ev.some' (by simp [Ma]))
 · refine Ev.succ ?_;simp only [uF,Int.toNat_natCast,hn,aW hj,Option.bind_some,nn,if_true,gP hj,cond_true,dw hj (show n.args.length<=1099511627776 by omega)];rw [drop_cons hj,Ma];by_cases h:n.args[j]=a
   · refine Ev.cT (by rw [beq_iff_eq];exact h) (Ev.some' ?_);rw [if_pos h]
   · refine Ev.cF (by rw [beq_eq_false_iff_ne];exact h) ?_;rw [if_neg h];exact ih
theorem Mc {e:List Nd} (hL:oz e) (a:Int): ∀k,k<=e.length->Ev (fun f=>uG f e a (k:Int)) (match Gw a (e.drop k) k with|some (k',j)=> .inr ((k':Int),(j:Int))|none=> .inl ()):=by
 have hlen:=hL.len;refine down ?_ fun k hk ih=> ?_
 · refine Ev.succ ?_;simp only [uG];exact Ev.cF (fT _) (Ev.some' (by simp [Gw]))
 · refine Ev.succ ?_;simp only [uG];rw [dw hk (by omega)];have h0:=YO (aW hk) (hL.nd k _ (aW hk)).2.2 a 0 (Nat.zero_le _);rw [List.drop_zero]at h0;refine Ev.cT (gP hk) (Ev.bind h0 ?_);rw [drop_cons hk,Gw];cases Ma a e[k].args 0 with
   |some j=>simp only [eT];exact Ev.some
   |none=>simp only [dZ];exact ih
theorem AQ {ts:List Tm} {e:List Nd} (he:e=bn 0 ts) (hL:oz e) {i:Nat} {P j:Int} (hi:i<e.length) (hp:(bL 0 ts)[i]? =some (P,j)):Ev (fun k=>qD k e (i:Int)) (P,j):=by
 have hlen:=hL.len;unfold qD;rw [dw hi (by omega)];refine Ev.bind (Mc hL (i:Int) (i+1) (by omega)) ?_;cases hf:Gw (i:Int) (e.drop (i+1)) (i+1)with
 |some q=>
  obtain⟨k',j'⟩:=q;obtain⟨d,n,e1,e2,e3⟩:=ZV hf;rw [List.getElem?_drop]at e2;rw [he]at e2;obtain⟨r,h1,h2,h3⟩:=UZ 0 ts (i+1+d) n j' (i:Int) e2 e3;obtain rfl:r=i:=by omega
  rw [hp]at h3;cases h3;simp only [eT];exact Ev.some' (by rw [e1,Nat.zero_add])
 |none=>
  simp only [dZ];rcases Na 0 ts i P j hp with⟨rfl,rfl⟩|⟨q,j',n,h1,h2,h3,h4,h5⟩
  · exact Ev.some
  · exfalso;rw [<-he]at h4;have:=ZW hf (q -(i+1)) n j' (by rw [List.getElem?_drop,show i+1+(q -(i+1))=q by omega];exact h4);rw [Nat.zero_add]at h5;exact this h5
theorem ak5 {b:Nat} {p k p' k':Int} (t:Tm):(nW b p k t).set (t.size -1) (p',k')=nW b p' k' t:=by
 cases t with
 |mk x cs=>
  rw [vG,vG,show(mk x cs).size -1=sizes cs by unfold size;omega,List.set_append_right _ _ (by rw [fq];exact Nat.le_refl _),fq,Nat.sub_self];rfl
theorem Wt {i:Nat} {args:List Int} (hl:args.length<=1000000) (A B:List (Int×Int)) (last:List Tm) (ha:args=roots A.length last):
 ∀(rest:List Tm) (done:List Tm),last=done++rest->Ev (fun k=>pW k ((A++fV A.length (i:Int) 0 done++bL (A.length+sizes done) rest++B).map Prod.fst) ((A++fV A.length (i:Int) 0 done++bL (A.length+sizes done) rest++B).map Prod.snd) (i:Int) args (args.length:Int) (done.length:Int))
   ((A++fV A.length (i:Int) 0 last++B).map Prod.fst,(A++fV A.length (i:Int) 0 last++B).map Prod.snd):=by
 intro rest
 induction rest with
 |nil=>
  intro done hd;rw [List.append_nil]at hd;subst hd;refine Ev.succ ?_;simp only [pW];have:args.length=last.length:=by rw [ha,jh]
  rw [this];exact Ev.cF (fT _) (Ev.some' (by simp [bL]))
 |cons c rest ih=>
  intro done hd;have hpos:=c.size_pos;have hal:args.length=last.length:=by rw [ha,jh]
  have hdl:done.length<args.length:=by rw [hal,hd];simp
  have hget:args[done.length]? =some ((A.length+sizes done+c.size -1:Nat):Int):=by rw [ha,hd];exact F6
  refine Ev.succ ?_;simp only [pW,Int.toNat_natCast,hget,Option.bind_some,nn,if_true,dw hdl (show args.length<=1099511627776 by omega)];refine Ev.cT (gP hdl) ?_;have hL:(A++fV A.length (i:Int) 0 done).length=A.length+sizes done:=by rw [List.length_append,fq]
  have hset:(A++fV A.length (i:Int) 0 done++bL (A.length+sizes done) (c::rest)++B).set (A.length+sizes done+c.size -1) ((i:Int),(done.length:Int))=A++fV A.length (i:Int) 0 (done++[c])++bL (A.length+sizes (done++[c])) rest++B:=by
   have e1:fV A.length (i:Int) 0 (done++[c])=fV A.length (i:Int) 0 done++nW (A.length+sizes done) (i:Int) (done.length:Int) c:=by
    have gen: ∀(d:List Tm) (b k:Nat),fV b (i:Int) k (d++[c])=fV b (i:Int) k d++nW (b+sizes d) (i:Int) ((k+d.length:Nat):Int) c:=by
     intro d
     induction d with
     |nil=>intro b k;simp [fV,sizes]
     |cons x d ih=>
      intro b k;simp only [List.cons_append,fV,ih,List.append_assoc,sizes,Nat.add_assoc,List.length_cons];congr 4;omega
    rw [gen,Nat.zero_add]
   rw [e1,dJ,rD];show(A++fV A.length (i:Int) 0 done++(nW (A.length+sizes done) (-1) 0 c++bL (A.length+sizes done+c.size) rest)++B).set _ _=_;rw [List.append_assoc,List.set_append_right _ _ (by rw [hL];omega),hL,show A.length+sizes done+c.size -1 -(A.length+sizes done)=c.size -1 by omega];rw [List.append_assoc (nW (A.length+sizes done) (-1) 0 c),List.set_append_left _ _ (by rw [gu];omega),ak5];simp only [List.append_assoc,Nat.add_assoc]
  have hin:A.length+sizes done+c.size -1<(A++fV A.length (i:Int) 0 done++bL (A.length+sizes done) (c::rest)++B).length:=by
   rw [List.length_append,List.length_append,hL,vQ];simp only [sizes];omega
  rw [List.getElem?_map,List.getElem?_map,aW hin];simp only [Option.map_some,Option.bind_some];have:=ih (done++[c]) (by rw [hd,List.append_assoc];rfl);rw [<-hset,List.map_set,List.map_set]at this;rw [List.length_append]at this;exact this
theorem Wu {e:List Nd} (hL:oz e): ∀(l:List Nd) (acc:List Int) (ts:List Tm) (acc':List Int) (i:Nat),acc=lQ 0 ts->sizes ts=i->l=e.drop i->i<=e.length->jA acc l= .inl acc'->
 ∃ts',bn 0 ts'=bn 0 ts++l/\acc'=lQ 0 ts'/\Ev (fun k=>pX k ((bL 0 ts++List.replicate (e.length -i) ((-1:Int),(0:Int))).map Prod.fst) ((bL 0 ts++List.replicate (e.length -i) ((-1:Int),(0:Int))).map Prod.snd) e (e.length:Int) (i:Int)) ((bL 0 ts').map Prod.fst,(bL 0 ts').map Prod.snd):=by
 have hlen:=hL.len;intro l
 induction l with
 |nil=>
  intro acc ts acc' i ha hs hl hi h;have:e.length<=i:=by
   have:=congrArg List.length hl;rw [List.length_drop,List.length_nil]at this;omega
  obtain rfl:i=e.length:=by omega
  refine⟨ts,by simp,by rw [jA]at h;cases h;exact ha,Ev.succ ?_⟩;simp only [pX];exact Ev.cF (fT _) (Ev.some' (by simp))
 |cons n l ih=>
  intro acc ts acc' i ha hs hl hi h;have hlt:i<e.length:=by
   have:=congrArg List.length hl;rw [List.length_drop,List.length_cons]at this;omega
  rw [drop_cons hlt]at hl;obtain⟨rfl,rfl⟩:=List.cons.inj hl;rw [jA]at h;have hc:bV (tF acc acc.length e[i].args.reverse) e[i]=0:=by
   by_cases hc:bV (tF acc acc.length e[i].args.reverse) e[i]=0
   · exact hc
   · rw [if_pos hc]at h;cases h
  rw [if_neg (fun k=>k hc)]at h;obtain⟨front,last,e1,e2,e3,e4⟩:=row_step ha (Ay hc);have hsz:sizes (front++[.mk (bare e[i]) last])=i+1:=by
   rw [dJ,rD];unfold size;rw [<-hs,e1,dJ];omega
  obtain⟨ts',h1,hb,h2⟩:=ih _ _ acc' (i+1) e4.symm hsz rfl hlt h;refine⟨ts',by rw [h1,e3,List.append_assoc];rfl,hb,Ev.succ ?_⟩;simp only [pX,Int.toNat_natCast,aW hlt,Option.bind_some,nn,if_true];rw [dw hlt (by omega)];refine Ev.cT (gP hlt) ?_;have hrep:List.replicate (e.length -i) ((-1:Int),(0:Int))=((-1:Int),(0:Int))::List.replicate (e.length -(i+1)) ((-1:Int),(0:Int)):=by
   rw [show e.length -i=(e.length -(i+1))+1 by omega,List.replicate_succ]
  have hA:(bL 0 front).length=sizes front:=vQ 0 front;have key:=Wt (i:=i) (args:=e[i].args) (hL.nd i _ (aW hlt)).2.2 (bL 0 front) (List.replicate (e.length -i) ((-1:Int),(0:Int))) last (by rw [hA];exact e2) last [] rfl;have hstart:bL 0 front++fV (bL 0 front).length (i:Int) 0 []++bL ((bL 0 front).length+sizes []) last++List.replicate (e.length -i) ((-1:Int),(0:Int))=bL 0 ts++List.replicate (e.length -i) ((-1:Int),(0:Int)):=by
   rw [hA,e1,Jh];simp [fV,sizes]
  rw [hstart]at key;refine Ev.bind key ?_;have hend:bL 0 front++fV (bL 0 front).length (i:Int) 0 last++List.replicate (e.length -i) ((-1:Int),(0:Int))=bL 0 (front++[.mk (bare e[i]) last])++List.replicate (e.length -(i+1)) ((-1:Int),(0:Int)):=by
   rw [hA,Jh,Kk,vG,hrep];have:sizes front+sizes last=i:=by rw [<-dJ,<-e1,hs]
   simp [this]
  rw [hend];exact h2
theorem P8 {e:List Nd} (hL:oz e) {acc':List Int} (h:jA [] e= .inl acc'): ∃ts,e=bn 0 ts/\acc'=lQ 0 ts/\Ev (fun k=>yV k e) ((bL 0 ts).map Prod.fst,(bL 0 ts).map Prod.snd):=by
 have hlen:=hL.len;obtain⟨ts',h1,hb,h2⟩:=Wu hL e [] [] acc' 0 rfl rfl rfl (Nat.zero_le _) h;refine⟨ts',by rw [h1];rfl,hb,?_⟩;unfold yV;refine Ev.lg ⟨rfl,by omega,by omega⟩ (Ev.lg ⟨by omega,by omega,by omega⟩ ?_);have e1:((bL 0 ([]:List Tm)++List.replicate (e.length -0) ((-1:Int),(0:Int))).map Prod.fst)=(LG [(-1)] (e.length:Int):List Int):=by simp [bL,LG]
 have e2:((bL 0 ([]:List Tm)++List.replicate (e.length -0) ((-1:Int),(0:Int))).map Prod.snd)=List.replicate e.length (0:Int):=by simp [bL]
 rw [e1,e2]at h2;exact Ev.bind h2 Ev.some
theorem P9 {ts:List Tm} {i:Nat} {P j:Int} (hp:(bL 0 ts)[i]? =some (P,j)):(P= -1/\j=0)\/ ∃q:Nat,P=(q:Int)/\i<q/\q<(bn 0 ts).length:=by
 rcases Na 0 ts i P j hp with h|⟨q,j',n,h1,h2,h3,h4,h5⟩
 · exact .inl h
 · exact .inr ⟨q,by rw [h1,Nat.zero_add],h3,(List.getElem?_eq_some_iff.1 h4).1⟩
def Ao (e:List Nd) (U:List (Int×Int)):Nat->Nat->Bool
 |0,_=>false
 |m+1,i=>match U[i]? with
  |some (P,j)=>if P<0 then false else(decide ((e[P.toNat]?.map Nd.kind)=some 19)&&decide (j=2))||Ao e U m P.toNat
  |none=>false
section
variable {ts:List Tm} {e:List Nd}
theorem YP (he:e=bn 0 ts): ∀(m i:Nat),e.length<=i+m->i<e.length->Ev (fun k=>uI k e ((bL 0 ts).map Prod.fst) ((bL 0 ts).map Prod.snd) (i:Int)) (if Ao e (bL 0 ts) m i=true then .inr false else .inl ()):=by
 intro m
 induction m with
 |zero=>intro i h1 h2;omega
 |succ m ih=>
  intro i h1 h2;have hlt:i<(bL 0 ts).length:=by rw [vQ,<-dF 0 ts,<-he];exact h2
  obtain⟨P,j,hU⟩: ∃P j,(bL 0 ts)[i]? =some (P,j):=⟨_,_,aW hlt⟩;refine Ev.succ ?_;have hf:((bL 0 ts).map Prod.fst)[i]? =some P:=by rw [List.getElem?_map,hU];rfl
  have hs:((bL 0 ts).map Prod.snd)[i]? =some j:=by rw [List.getElem?_map,hU];rfl
  simp only [uI,Int.toNat_natCast,hf,hs,Option.bind_some,nn,if_true];rw [Ao,hU];simp only;rcases P9 hU with⟨rfl,rfl⟩|⟨q,rfl,hq,hq2⟩
  · exact Ev.cF (by rfl) Ev.some
  · have hqe:q<e.length:=by rw [he];exact hq2
    refine Ev.cT (by rw [bne_iff_ne];omega) (Ev.lg (by omega) ?_);simp only [Int.toNat_natCast,aW hqe,Option.bind_some,Option.map_some,Option.some.injEq,show ¬(q:Int)<0 by omega,if_false];have ihq:=ih q (by omega) hqe;by_cases h3:e[q].kind=19
    · refine Ev.cT (by rw [h3];rfl) ?_;by_cases h4:j=2
      · refine Ev.cT (by rw [h4];rfl) (Ev.some' ?_);simp [h3,h4]
      · refine Ev.cF (by rw [beq_eq_false_iff_ne];exact h4) (ihq.to ?_);simp [h4]
    · refine Ev.cF (by rw [beq_eq_false_iff_ne];exact h3) (ihq.to ?_);simp [h3]
theorem anU (he:e=bn 0 ts) (hL:oz e): ∀(m i:Nat),e.length<=i+m->i<e.length-> ∀P j,(bL 0 ts)[i]? =some (P,j)-> ∀o:Bool,Ev (fun k=>wD k e P j o) (o||Ao e (bL 0 ts) m i):=by
 intro m
 induction m with
 |zero=>intro i h1 h2;omega
 |succ m ih=>
  intro i h1 h2 P j hU o;refine Ev.succ ?_;rw [Ao,hU];simp only;rcases P9 hU with⟨rfl,rfl⟩|⟨q,rfl,hq,hq2⟩
  · simp only [wD];exact Ev.cF (by rfl) (Ev.some' (by simp))
  · have hqe:q<e.length:=by rw [he];exact hq2
    have hlt:q<(bL 0 ts).length:=by rw [vQ,<-dF 0 ts];exact hq2
    obtain⟨P',j',hU'⟩: ∃P j,(bL 0 ts)[q]? =some (P,j):=⟨_,_,aW hlt⟩;simp only [wD];refine Ev.cT (decide_eq_true (by omega)) (Ev.iK (x:=o||(decide (e[q].kind=19)&&decide (j=2))) ?_ (Ev.bind (AQ he hL hqe hU') ?_))
    · unfold GY;cases o
      · simp only [Int.toNat_natCast,aW hqe,Option.bind_some,cond_false,nn,if_true,Bool.false_or];by_cases h3:e[q].kind=19
        · rw [wX (by rw [h3];rfl)];by_cases h4:j=2
          · simp [h3,h4]
          · simp [h4]
        · rw [pI (by rw [beq_eq_false_iff_ne];exact h3)];simp [h3]
      · rfl
    · refine(ih q (by omega) hqe P' j' hU' _).to ?_;simp only [Int.toNat_natCast,aW hqe,Option.map_some,Option.some.injEq,show ¬(q:Int)<0 by omega,if_false,Bool.or_assoc]
theorem adp (t:Str) (h:(dL eG t).2=true):ku t=false:=by
 have h1:((eG.map (·.text)).all fun t=> !ku t)=true:=by kernel_rfl
 by_cases hm:t∈eG.map (·.text)
 · simpa using List.all_eq_true.1 h1 t hm
 · rw [P6 hm]at h;cases h
theorem adq {n:Nd} (h:bV true n=0) (hk:n.kind=3):(dL eG n.text).2= !ku n.text:=by
 cases ho:(dL eG n.text).2
 · unfold bV at h
   split at h;·cases h
   split at h;·cases h
   split at h;·cases h
   split at h;·cases h
   split at h
   · rename_i h1;exact absurd h h1
   · rename_i h1;have h1:qp n=0:=by omega
     unfold qp at h1
     split at h1;·cases h1
     cases hr:ku n.text
     · simp [hk,ho,hr]at h1
     · rfl
 · rw [adp _ ho];rfl
def D7 (e:List Nd) (U:List (Int×Int)) (i:Nat):Bool:=match e[i]?,U[i]? with
 |some n,some (P,j)=>if n.kind=24 then(if P<0 then true else match e[P.toNat]? with
  |some m=>if m.kind=3 then(dL eG m.text).2 else true
  |none=>true)else if n.kind=20 then !Ao e U e.length i else false
 |_,_=>false
theorem afA (he:e=bn 0 ts) (hL:oz e) {i:Nat} (hi:i<e.length):Ev (fun k=>ES k e (i:Int) ((bL 0 ts).map Prod.fst) ((bL 0 ts).map Prod.snd)) (D7 e (bL 0 ts) i):=by
 have hlt:i<(bL 0 ts).length:=by rw [vQ,<-dF 0 ts,<-he];exact hi
 obtain⟨P,j,hU⟩: ∃P j,(bL 0 ts)[i]? =some (P,j):=⟨_,_,aW hlt⟩;have hf:((bL 0 ts).map Prod.fst)[i]? =some P:=by rw [List.getElem?_map,hU];rfl
 unfold ES D7;simp only [Int.toNat_natCast,aW hi,hf,Option.bind_some,nn,if_true,hU];by_cases h1:e[i].kind=24
 · refine Ev.cT (by rw [h1];rfl) ?_;simp only [h1,if_true];rcases P9 hU with⟨rfl,rfl⟩|⟨q,rfl,hq,hq2⟩
   · exact Ev.cT (by rfl) Ev.some
   · have hqe:q<e.length:=by rw [he];exact hq2
     refine Ev.cF (by rw [beq_eq_false_iff_ne];omega) (Ev.lg (by omega) ?_);simp only [Int.toNat_natCast,aW hqe,Option.bind_some,show ¬(q:Int)<0 by omega,if_false];by_cases h2:e[q].kind=3
     · refine Ev.cF (by rw [h2];rfl) (Ev.bind (xZ _) (Ev.some' ?_));simp only [h2,if_true]
     · refine Ev.cT (by rw [bne_iff_ne];exact h2) (Ev.some' ?_);simp only [h2,if_false]
 · refine Ev.cF (by rw [beq_eq_false_iff_ne];exact h1) ?_;simp only [h1,if_false];by_cases h2:e[i].kind=20
   · refine Ev.cT (by rw [h2];rfl) (Ev.bind (YP he e.length i (by omega) hi) ?_);simp only [h2,if_true];cases Ao e (bL 0 ts) e.length i
     · simp only [Bool.false_eq_true,if_false,dZ];exact Ev.some
     · simp only [if_true,eT];exact Ev.some
   · refine Ev.cF (by rw [beq_eq_false_iff_ne];exact h2) (Ev.some' ?_);simp only [h2,if_false]
def zX (e:List Nd) (U:List (Int×Int)):Nat->Nat->Option Nat
 |0,_=>none
 |m+1,i=>if D7 e U i=true then some i else zX e U m (i+1)
theorem GN (he:e=bn 0 ts) (hL:oz e): ∀i,i<=e.length->Ev (fun k=>jK k e ((bL 0 ts).map Prod.fst) ((bL 0 ts).map Prod.snd) (e.length:Int) (i:Int)) (match zX e (bL 0 ts) (e.length -i) i with|some j=> .inr ((j:Int),30)|none=> .inl ()):=by
 have hlen:=hL.len;refine down ?_ fun i hi ih=> ?_
 · refine Ev.succ ?_;simp only [jK];exact Ev.cF (fT _) (Ev.some' (by simp [zX]))
 · refine Ev.succ ?_;simp only [jK];rw [dw hi (by omega)];refine Ev.cT (gP hi) (Ev.bind (afA he hL hi) ?_);rw [show e.length -i=(e.length -(i+1))+1 by omega,zX];cases D7 e (bL 0 ts) i
   · simp only [cond_false,Bool.false_eq_true,if_false];exact ih
   · exact Ev.some
theorem aa0 (he:e=bn 0 ts) (hL:oz e) (hok: ∀(i:Nat) n,e[i]? =some n->bV true n=0): ∀i,i<=e.length->Ev (fun k=>qV k e (i:Int)) (match zX e (bL 0 ts) (e.length -i) i with|some j=> .inr ((j:Int),30)|none=> .inl ()):=by
 have hlen:=hL.len;refine down ?_ fun i hi ih=> ?_
 · refine Ev.succ ?_;simp only [qV];exact Ev.cF (fT _) (Ev.some' (by simp [zX]))
 · refine Ev.succ ?_;have hlt:i<(bL 0 ts).length:=by rw [vQ,<-dF 0 ts,<-he];exact hi
   obtain⟨P,j,hU⟩: ∃P j,(bL 0 ts)[i]? =some (P,j):=⟨_,_,aW hlt⟩;simp only [qV,Int.toNat_natCast,aW hi,Option.bind_some,nn,if_true];rw [dw hi (by omega)];refine Ev.cT (gP hi) (Ev.bind (AQ he hL hi hU) ?_);have aF1:Ev (fun k=>Dc k e P (decide (P>=0))) (match e[P.toNat]? with|some m=>decide (0<=P)&&decide (m.kind=3)&&ku m.text|none=>false):=by
    unfold Dc;rcases P9 hU with⟨rfl,rfl⟩|⟨q,rfl,hq,hq2⟩
    · refine Ev.cF (by rfl) (Ev.some' ?_);cases e[(-1:Int).toNat]? <;>rfl
    · have hqe:q<e.length:=by rw [he];exact hq2
      refine Ev.cT (decide_eq_true (by omega)) (Ev.lg (by omega) ?_);simp only [Int.toNat_natCast,aW hqe,Option.bind_some,nn,decide_true,Bool.true_and];by_cases h2:e[q].kind=3
      · refine Ev.cT (by rw [h2];rfl) (Ev.bind (Fy _ (by have:=(hL.nd q _ (aW hqe)).1;omega)) (Ev.some' ?_));simp only [h2,decide_true,Bool.true_and]
      · refine Ev.cF (by rw [beq_eq_false_iff_ne];exact h2) (Ev.some' ?_);simp only [h2,decide_false,Bool.false_and]
   refine Ev.bind aF1 ?_;have hold:=anU he hL e.length i (by omega) hi P j hU false;rw [Bool.false_or]at hold;rw [show e.length -i=(e.length -(i+1))+1 by omega,zX];have hl:D7 e (bL 0 ts) i=if e[i].kind=24 then !(match e[P.toNat]? with|some m=>decide (0<=P)&&decide (m.kind=3)&&ku m.text|none=>false)else if e[i].kind=20 then !Ao e (bL 0 ts) e.length i else false:=by
    unfold D7;simp only [aW hi,hU];rcases P9 hU with⟨rfl,rfl⟩|⟨q,rfl,hq,hq2⟩
    · simp only [show(-1:Int)<0 by omega,if_true,show ¬(0:Int)<= -1 by omega,decide_false,Bool.false_and];cases e[(-1:Int).toNat]? <;>rfl
    · have hqe:q<e.length:=by rw [he];exact hq2
      simp only [Int.toNat_natCast,aW hqe,show ¬(q:Int)<0 by omega,if_false,nn,decide_true,Bool.true_and];by_cases h2:e[q].kind=3
      · simp only [h2,if_true,decide_true,Bool.true_and,adq (hok q _ (aW hqe)) h2]
      · simp only [h2,if_false,decide_false,Bool.false_and,Bool.not_false]
   rw [hl];generalize(match e[P.toNat]? with|some m=>decide (0<=P)&&decide (m.kind=3)&&ku m.text|none=>false)=lam
   refine Ev.iK (x:=decide (e[i].kind=24)&& !lam) (by
    unfold GX;by_cases h1:e[i].kind=24
    · rw [wX (by rw [h1];rfl)];simp [h1]
    · rw [pI (by rw [beq_eq_false_iff_ne];exact h1)];simp [h1]) ?_
   by_cases h1:e[i].kind=24
   · simp only [h1,decide_true,Bool.true_and,if_true];cases lam
     · exact Ev.some
     · refine Ev.cF rfl (Ev.bind hold ?_);exact Ev.cF (by rfl) ih
   · simp only [h1,decide_false,Bool.false_and,cond_false,if_false];refine Ev.bind hold ?_;by_cases h2:e[i].kind=20
     · refine Ev.cT (by rw [h2];rfl) ?_;simp only [h2,if_true];cases Ao e (bL 0 ts) e.length i
       · exact Ev.some
       · exact ih
     · refine Ev.cF (by rw [beq_eq_false_iff_ne];exact h2) (ih.to ?_);simp only [h2,if_false,Bool.false_eq_true]
end
structure Valid (e:List Nd):Prop where
 tree: ∃t,e=flat 0 t
 len:e.length<=160
 ok: ∀(i:Nat) n,e[i]? =some n->bV true n=0
theorem adr: ∀(l:List Nd) (acc:List Int) (p:Int×Int),jA acc l= .inr p->p.2≠0
 |[],acc,p,h=>by rw [jA]at h;cases h
 |n::l,acc,p,h=>by
  rw [jA]at h;by_cases hc:bV (tF acc acc.length n.args.reverse) n=0
  · rw [if_neg (fun k=>k hc)]at h;exact adr l _ p h
  · rw [if_pos hc]at h;cases h;exact hc
theorem Wv (e:List Nd) (hL:oz e): ∃r,Ev (fun k=>iG k e) r/\Ev (fun k=>BN k e) r/\(r.2=0->Valid e):=by
 have hlen:=hL.len;by_cases h0:e.length=0
 · refine⟨(0,1),?_,?_,fun h=>by cases h⟩
   · unfold iG;simp only [tC,Option.bind_some,h0];refine Ev.bind (zW _ (by simp)) ?_;exact Ev.cT (by rfl) Ev.some
   · unfold BN;simp only [h0];exact Ev.cT (by rfl) Ev.some
 by_cases h1:160<e.length
 · refine⟨(0,2),?_,?_,fun h=>by cases h⟩
   · unfold iG;have a:((e.length:Int)==0)=false:=by rw [beq_eq_false_iff_ne];omega
     have b:decide ((e.length:Int)>160)=true:=decide_eq_true (by omega);simp only [tC,Option.bind_some,a,b];refine Ev.bind (zW _ (by simp)) ?_;exact Ev.cT (by rfl) Ev.some
   · unfold BN;refine Ev.cF (by rw [beq_eq_false_iff_ne];omega) ?_;exact Ev.cT (decide_eq_true (by omega)) Ev.some
 have a:((e.length:Int)==0)=false:=by rw [beq_eq_false_iff_ne];omega
 have b:decide ((e.length:Int)>160)=false:=decide_eq_false (by omega);have st:=GL hL 0 (Nat.zero_le _) [] (rT.zero e);have sr:=aaN hL 0 (Nat.zero_le _) [] (rT.zero e);rw [List.drop_zero]at st sr;have Ji: ∀r,Ev (fun k=>Option.bind (jJ k e ([]:List Int) (e.length:Int) ((0:Nat):Int)) (fun o=>Sum.elim (fun p40=>(yV k e).bind fun p51=>Option.bind (jK k e p51.1 p51.2 (e.length:Int) ((0:Nat):Int)) (fun o=>Sum.elim (fun p58=>if 0<=(IntKind.wrap .i64 ((e.length:Int) -1))then (p40[(IntKind.wrap .i64 ((e.length:Int) -1)).toNat]?).bind fun x65=>cond (x65 !=0) (some ((IntKind.wrap .i64 ((e.length:Int) -1)),15)) (some (0,0))else none) (fun p74=>some (p74.1,p74.2)) o)) (fun xX=>some (xX.1,xX.2)) o)) r->Ev (fun k=>iG k e) r:=by
  intro r hr;unfold iG;simp only [tC,Option.bind_some,a,b];refine Ev.bind (zW _ (by simp)) ?_;exact Ev.cF (by rfl) hr
 have ads: ∀r,Ev (fun k=>Option.bind (sV k e ((0:Nat):Int)) (fun o=>Sum.elim (fun p9=>Option.bind (qV k e ((0:Nat):Int)) (fun o=>Sum.elim (fun p81=>(uY k e (IntKind.wrap .i64 ((e.length:Int) -1))).bind fun VP=>cond (VP !=0) (some ((IntKind.wrap .i64 ((e.length:Int) -1)),15)) (some (0,0))) (fun ZG=>some (ZG.1,ZG.2)) o)) (fun ZH=>some (ZH.1,ZH.2)) o)) r->Ev (fun k=>BN k e) r:=by
  intro r hr;unfold BN;exact Ev.cF a (Ev.cF b hr)
 cases hs:jA [] e with
 |inr p=>
  rw [hs]at st sr;refine⟨p,Ji _ (Ev.bind st ?_),ads _ (Ev.bind sr ?_),fun h=>absurd h (adr _ _ _ hs)⟩
  · simp only [eT];exact Ev.some
  · simp only [eT];exact Ev.some
 |inl acc=>
  rw [hs]at st sr;obtain⟨ts,he,hacc,hpar⟩:=P8 hL hs;have hok:=agV e [] acc hs;have lt:=GN he hL 0 (Nat.zero_le _);have lr:=aa0 he hL hok 0 (Nat.zero_le _);cases hl:zX e (bL 0 ts) (e.length -0) 0 with
  |some j=>
   rw [hl]at lt lr;refine⟨((j:Int),30),Ji _ (Ev.bind st ?_),ads _ (Ev.bind sr ?_),fun h=>by cases h⟩
   · simp only [dZ];refine Ev.bind hpar (Ev.bind lt ?_);simp only [eT];exact Ev.some
   · simp only [dZ];refine Ev.bind lr ?_;simp only [eT];exact Ev.some
  |none=>
   rw [hl]at lt lr;have hOk:rT e e.length acc:=by
    have gen: ∀(l:List Nd) (i:Nat) (a:List Int),l=e.drop i->i<=e.length->rT e i a->jA a l= .inl acc->rT e e.length acc:=by
     intro l
     induction l with
     |nil=>
            intro i a hl hi ho h;rw [jA]at h;cases h;have:=congrArg List.length hl;rw [List.length_drop,List.length_nil]at this;obtain rfl:i=e.length:=by omega
            exact ho
     |cons n l ih=>
            intro i a hl hi ho h;have hlt:i<e.length:=by
             have:=congrArg List.length hl;rw [List.length_drop,List.length_cons]at this;omega
            rw [drop_cons hlt]at hl;obtain⟨rfl,rfl⟩:=List.cons.inj hl;rw [jA,ho.len]at h;by_cases hc:bV (tF a i e[i].args.reverse) e[i]=0
            · rw [if_neg (fun k=>k hc)]at h;exact ih (i+1) _ rfl hlt (ho.succ (aW hlt) (Ay hc)) h
            · rw [if_pos hc]at h;cases h
    exact gen e 0 [] rfl (Nat.zero_le _) (rT.zero e) hs
   obtain⟨n,bb,h3,h4,h5,h6,_⟩:=hOk.at_ (e.length -1) (by omega);have hw:IntKind.wrap .i64 ((e.length:Int) -1)=((e.length -1:Nat):Int):=by rw [wrap64 (by omega) (by omega)];omega
   refine⟨if bb=0 then(0,0)else(((e.length -1:Nat):Int),15),Ji _ (Ev.bind st ?_),ads _ (Ev.bind sr ?_),fun hr=> ?_⟩
   · simp only [dZ];refine Ev.bind hpar (Ev.bind lt ?_);simp only [dZ,hw,Int.toNat_natCast,h4,Option.bind_some,nn,if_true];by_cases hb:bb=0
     · exact Ev.cF (by rw [hb];rfl) (Ev.some' (by simp [hb]))
     · exact Ev.cT (by rw [bne_iff_ne];exact hb) (Ev.some' (by simp [hb]))
   · simp only [dZ];refine Ev.bind lr ?_;simp only [dZ,hw];refine Ev.bind (V5 hOk hlen h4) ?_;by_cases hb:bb=0
     · exact Ev.cF (by rw [hb];rfl) (Ev.some' (by simp [hb]))
     · exact Ev.cT (by rw [bne_iff_ne];exact hb) (Ev.some' (by simp [hb]))
   · by_cases hb:bb=0
     case neg=>rw [if_neg hb]at hr;cases hr
     refine⟨?_,by omega,hok⟩;rcases List.eq_nil_or_concat ts with rfl|⟨l,t,rfl⟩
     · rw [he]at h0;simp [bn]at h0
     · rw [List.concat_eq_append]at*;have hsz:e.length=sizes l+t.size:=by rw [he,dF,dJ,rD]
       have hpos:=t.size_pos;have hg:=L9 (b:=0) (l:=l) (m:=[]) (t:=t);rw [<-hacc,Nat.zero_add,show sizes l+t.size -1=e.length -1 by omega,h4]at hg;have hl0:sizes l=0:=by have:=Option.some.inj hg;omega
       cases l with
       |nil=>exact⟨t,by rw [he];simp [bn]⟩
       |cons c l=>
            have:=c.size_pos;simp only [sizes]at hl0;omega
end Go.VL
end
section
namespace Go.VL
open Go.Proofs Go.RowKit
theorem adt {α:Type} (f:α->List PV) (sz:Nat) [hr:ni f sz] (l:List α):ql sz (.ah (l.map f) .unk) none (some (.int .i64 (l.length:Int))) (some (.int .i64 (l.length:Int)))=some (.ah (l.map f) .exact):=by
 have hl:MB sz (l.map f):=fun cs h=>by
  obtain⟨x,_,rfl⟩:=List.mem_map.1 h;exact hr.len x
 have h0:(0:Int)<=(l.length:Int):=by omega
 simp only [ql,oJ];rw [if_pos h0];simp only [Int.toNat_natCast,List.length_map,Option.isSome_some,and_true];rw [if_pos ⟨Nat.zero_le _,Nat.le_refl _,hl⟩];simp only [if_true];rw [List.take_of_length_le (by rw [List.length_map];exact Nat.le_refl _),List.drop_zero]
theorem adu (l:List Str):Pu (.ah (l.map aF) .exact):=by
 have h:=bE gJ l;cases h with
 |ah _ _ h1 h2=>exact .ah _ _ h1 (by simp)
theorem ak6 (l:List Str) {c:Ck}:aD Tryz.prog 239 [.ah (l.map aF) c] (.ah (l.map aF) .exact):=by
 refine aD.wk (args:=[.ah (l.map aF) .unk]) ?_ (.ah .nil);refine aD.bH (dA.mem (.cons (bE gJ _) .nil)) (aM aBm (by simp) (aJ ?_)) (adu l);unfold apR;simp -implicitDefEqProofs only [go_sem,adt aF 1];first|done|exact .pure _ (adu l)
end Go.VL
end
section
namespace Go.VL
open Go.Proofs
theorem agW {α:Type} {σ:Nat->PV} {H:AH} {sz b:Nat} {x y:AE} {f:α->List PV} (hf: ∀x,jY sz (f x)) (xs ys:List α) (c c2:Ck)
 (hx:x.ev σ= .ah (xs.map f) c) (hy:K6 (y.ev σ)= .ah (ys.map f) c2) (hok:bf H c) (hb:(xs.length+ys.length)*b<=1099511627776):
 ∃c' H',jo (.app sz b x y) σ H=some (.ah ((xs++ys).map f) c',H')/\bf H' c'/\H.next<=H'.next/\(∀i,H'.obj i=H.obj i)/\(∀c3,bf H c3->lI c c3->bf H' c3/\lI c' c3):=by
 have h:=gW (P:=Tryz.prog) (s:=[]) (Q:=fun e σ' H'=> ∃c',σ'=upd σ (some 0) (.ah ((xs++ys).map f) c')/\bf H' c'/\H.next<=H'.next/\(∀i,H'.obj i=H.obj i)/\(∀c3,bf H c3->lI c c3->bf H' c3/\lI c' c3)) (d:=some 0) (l:=[]) (H:=H) hf xs ys c c2 hx hy hok hb
  (fun c' H' h1 h2 h3 h4=>⟨c',rfl,h1,h2,h3,h4⟩)
 have h2:WD Tryz.prog (jo (.app sz b x y) σ H) (some 0) [] [] (fun e σ' H'=> ∃c',σ'=upd σ (some 0) (.ah ((xs++ys).map f) c')/\bf H' c'/\H.next<=H'.next/\(∀i,H'.obj i=H.obj i)/\(∀c3,bf H c3->lI c c3->bf H' c3/\lI c' c3)) σ:=by
  have h3:WO Tryz.prog (⟨some 0,.d (.app sz b x y),none⟩::[]) [] _ σ H:=h;rw [WO,ajX]at h3;revert h3;cases jo (.app sz b x y) σ H with
  |none=>intro h3;exact h3
  |some q=>intro h3;exact h3
 revert h2;cases jo (.app sz b x y) σ H with
 |none=>intro h2;exact h2.elim
 |some q=>
  intro h2;obtain⟨c',e,h3⟩:=(h2: ∃c',upd σ (some 0) q.1=upd σ (some 0) (.ah ((xs++ys).map f) c')/\bf q.2 c'/\H.next<=q.2.next/\(∀i,q.2.obj i=H.obj i)/\(∀c3,bf H c3->lI c c3->bf q.2 c3/\lI c' c3));have e2:=congrFun e 0;simp only [upd,if_true]at e2;exact⟨c',q.2,by rw [<-e2],h3⟩
section
variable {α:Type}
def Kl (rec:Int->List Str->α->Option α) (n:Nd) (bound:List Str):Nat->List Int->α->Option α
 |_,[],a=>some a
 |i,op::l,a=>(iM n (i:Int)).bind fun b=>if(bound.length+b.length)*16<=1099511627776 then (rec op (bound++b) a).bind fun a'=>Kl rec n bound (i+1) l a' else none
def zY (step:α->Int->List Str->Option α) (e:List Nd):Nat->Int->List Str->α->Option α
 |0,_,_,_=>none
 |k+1,at_,bound,a=>(step a at_ bound).bind fun a'=>if 0<=at_ then (e[at_.toNat]?).bind fun n=>if n.args.length<=1099511627776 then Kl (zY step e k) n bound 0 n.args a' else none else none
structure Visit (g:FuncId) (caps:List PV) (S:α->AH->Prop) (step:α->Int->List Str->Option α):Prop where
 stable: ∀a H H',S a H->H.next<=H'.next->(∀i,H'.obj i=H.obj i)->(∀c,bf H c->bf H' c)->S a H'
 call: ∀a at_ bound a' H,S a H->step a at_ bound=some a'->bg Tryz.prog g (.int .i64 at_:: .ah (bound.map aF) .unk::caps) H fun _ H'=>S a' H'
theorem ak7 {g:FuncId} {caps:List PV} {S:α->AH->Prop} {step:α->Int->List Str->Option α} (hv:Visit g caps S step) (e:List Nd) (k:Nat)
 (ih: ∀(at_:Int) (bound:List Str) (a a':α) (H:AH),S a H->zY step e k at_ bound a=some a'->bg Tryz.prog 189 [gN e,.int .i64 at_,FR bound,.fn (.func g) [] caps] H fun _ H'=>S a' H')
 (at_:Int) (bound:List Str) (n:Nd) (e2:0<=at_) (e3:e[at_.toNat]? =some n) (e4:n.args.length<=1099511627776):
 ∀(l:List Int) (i:Nat) (a a':α) (σ:Nat->PV) (H:AH),l=n.args.drop i->i<=n.args.length->σ 0=gN e->σ 1= .int .i64 at_->σ 2=FR bound->σ 3= .fn (.func g) [] caps->σ 18=ajY n.args->σ 19= .int .i64 n.args.length->σ 20= .int .i64 i->
   S a H->Kl (zY step e k) n bound i l a=some a'-> ∀(Q:Post),(∀σ' H',S a' H'->Q (.exit 0) σ' H')->W Tryz.prog (.loop MN) Q σ H:=by
 intro l
 induction l with
 |nil=>
  intro i a a' σ H hl hi s0 s1 s2 s3 nk wZ s20 hS h Q q0;have hii:i=n.args.length:=by
   have:=congrArg List.length hl;rw [List.length_drop,List.length_nil]at this;omega
  rw [Kl]at h;cases h;refine bA (fun K hK=>aJ ?_);unfold MN;have hd:decide ((i:Int)<(n.args.length:Int))=false:=decide_eq_false (by omega);simp -implicitDefEqProofs only [go_sem,wZ,s20,hd];exact q0 _ _ hS
 |cons op l ihl=>
  intro i a a' σ H hl hi s0 s1 s2 s3 nk wZ s20 hS h Q q0;have hlt:i<n.args.length:=by
   have:=congrArg List.length hl;rw [List.length_drop,List.length_cons]at this;omega
  have hop:n.args[i]? =some op:=by
   have:=congrArg (·[0]?) hl
   simpa [List.getElem?_drop]using this.symm
  have hl':l=n.args.drop (i+1):=by
   have:=congrArg List.tail hl;simpa using this
  rw [Kl]at h;cases e5:iM n (i:Int)with
  |none=>rw [Cz e5]at h;cases h
  |some b=>
  rw [CB e5]at h;by_cases e6:(bound.length+b.length)*16<=1099511627776
  case neg=>rw [if_neg e6]at h;cases h
  rw [if_pos e6]at h;cases e7:zY step e k op (bound++b) a with
  |none=>rw [Cz e7]at h;cases h
  |some a1=>
  rw [CB e7]at h;refine bA (fun K hK=>aJ ?_);unfold MN;have hd:decide ((i:Int)<(n.args.length:Int))=true:=decide_eq_true (by omega);simp -implicitDefEqProofs only [go_sem,s0,s1,s2,s3,nk,wZ,s20,hd,List.getElem?_map,hop,Option.map_some];have hb:=akH e5;have hw:IntKind.wrap .i64 ((i:Int)+1)=((i+1:Nat):Int):=by rw [IntKind.wrap_i64];omega
  refine⟨fun _=>True,trivial,?_⟩;refine eu (gN e) (fun H' _=>by simp -implicitDefEqProofs only [go_sem,s0,s1,s2,s3,nk,wZ,s20,e2,e3,List.getElem?_map,Option.map_some]) ?_;refine eu (.int .i64 op) (fun H' _=>by simp -implicitDefEqProofs only [go_sem,s0,s1,s2,s3,nk,wZ,s20,e2,e3,List.getElem?_map,Option.map_some]) ?_;refine eu (FR bound) (fun H' _=>by simp -implicitDefEqProofs only [go_sem,s0,s1,s2,s3,nk,wZ,s20,e2,e3,List.getElem?_map,Option.map_some]) ?_;refine BJ (.ah (bound.map aF) .exact) (by simp -implicitDefEqProofs only [go_sem,s0,s1,s2,s3,nk,wZ,s20,e2,e3,List.getElem?_map,Option.map_some];exact ak6 bound) ?_;refine eu (gN e) (fun H' _=>by simp -implicitDefEqProofs only [go_sem,s0,s1,s2,s3,nk,wZ,s20,e2,e3,List.getElem?_map,Option.map_some]) ?_;refine eu (.int .i64 at_) (fun H' _=>by simp -implicitDefEqProofs only [go_sem,s0,s1,s2,s3,nk,wZ,s20,e2,e3,List.getElem?_map,Option.map_some]) ?_;refine eu (.bY n.cells 0) (fun H' _=>by simp -implicitDefEqProofs only [go_sem,s0,s1,s2,s3,nk,wZ,s20,e2,e3,List.getElem?_map,Option.map_some]) ?_;refine eu (.agg n.cells) (fun H' _=>by simp -implicitDefEqProofs only [go_sem,s0,s1,s2,s3,nk,wZ,s20,e2,e3,List.getElem?_map,Option.map_some]) ?_;refine eu (.int .i64 i) (fun H' _=>by simp -implicitDefEqProofs only [go_sem,s0,s1,s2,s3,nk,wZ,s20,e2,e3,List.getElem?_map,Option.map_some]) ?_;refine BJ (FR b) (by simp -implicitDefEqProofs only [go_sem,s0,s1,s2,s3,nk,wZ,s20,e2,e3,List.getElem?_map,Option.map_some];exact hb) ?_;obtain⟨c',H',f1,f2,f3,f4,f5⟩:=agW (σ:=(upd (upd (upd (upd (upd (upd (upd (upd (upd (upd (upd (upd (upd (upd (upd (upd σ (some 21) (PV.bool true)) (some 22) (PV.int IntKind.i64 ↑i)) (some 23) (PV.bY [PV.int IntKind.i64 op] 0)) (some 24) (PV.int IntKind.i64 op)) (some 8) (PV.int IntKind.i64 ↑i)) (some 9) (PV.int IntKind.i64 op)) (some 25) (gN e)) (some 26) (.int .i64 op)) (some 27) (FR bound)) (some 28) (.ah (bound.map aF) .exact)) (some 29) (gN e)) (some 30) (.int .i64 at_)) (some 31) (.bY n.cells 0)) (some 32) (.agg n.cells)) (some 33) (.int .i64 i)) (some 34) (FR b))) (H:=H) (sz:=1) (b:=16) (x:=AE.t 28) (y:=AE.t 34) lC bound b .exact .unk (by simp -implicitDefEqProofs only [go_sem,s0,s1,s2,s3,nk,wZ,s20,e2,e3,List.getElem?_map,Option.map_some]) (by simp -implicitDefEqProofs only [go_sem,s0,s1,s2,s3,nk,wZ,s20,e2,e3,List.getElem?_map,Option.map_some]) trivial e6;refine VE _ H' f1 trivial ?_;refine eu (.fn (.func g) [] caps) (fun H' _=>by simp -implicitDefEqProofs only [go_sem,s0,s1,s2,s3,nk,wZ,s20,e2,e3,List.getElem?_map,Option.map_some]) ?_;have hS':S a H':=hv.stable a H H' hS f3 f4 fun c hc=>(f5 c hc .exact).1;rw [amC];refine eO ?_;simp -implicitDefEqProofs only [go_sem,s0,s1,s2,s3,nk,wZ,s20,e2,e3,List.getElem?_map,Option.map_some];refine bg.mono (bg.wk (ih op (bound++b) a a1 H' hS' e7) (.same (.same (.ah (.same .nil))))) fun r H2 hS2=> ?_;simp -implicitDefEqProofs only [go_sem,s0,s1,s2,s3,nk,wZ,s20,e2,e3,List.getElem?_map,Option.map_some];refine hK _ _ ?_;refine ihl (i+1) a1 a' _ H2 hl' hlt ?_ ?_ ?_ ?_ ?_ ?_ ?_ hS2 h Q q0
  all_goals (simp -implicitDefEqProofs only [go_sem,s0,s1,s2,s3,nk,wZ,s20,e2,e3,List.getElem?_map,Option.map_some,hw];try rfl)
theorem ayB {g:FuncId} {caps:List PV} {S:α->AH->Prop} {step:α->Int->List Str->Option α} (hv:Visit g caps S step) (e:List Nd):
 ∀(k:Nat) (at_:Int) (bound:List Str) (a a':α) (H:AH),S a H->zY step e k at_ bound a=some a'->bg Tryz.prog 189 [gN e,.int .i64 at_,FR bound,.fn (.func g) [] caps] H fun _ H'=>S a' H':=by
 intro k
 induction k with
 |zero=>intro at_ bound a a' H hS h;simp only [zY,reduceCtorEq]at h
 |succ k ih=>
  intro at_ bound a a' H hS h
  rw [zY]at h;cases e1:step a at_ bound with
  |none=>rw [Cz e1]at h;cases h
  |some a1=>
  rw [CB e1]at h;by_cases e2:0<=at_
  case neg=>rw [if_neg e2]at h;cases h
  rw [if_pos e2]at h;cases e3:e[at_.toNat]? with
  |none=>rw [Cz e3]at h;cases h
  |some n=>
  rw [CB e3]at h;by_cases e4:n.args.length<=1099511627776
  case neg=>rw [if_neg e4]at h;cases h
  rw [if_pos e4]at h;refine aM aAW (by simp) (aJ ?_);unfold apr;simp -implicitDefEqProofs only [go_sem];refine bg.mono (hv.call a at_ bound a1 H hS e1) fun r H1 hS1=> ?_;simp -implicitDefEqProofs only [go_sem,e2,e3];refine ak7 hv e k ih at_ bound n e2 e3 e4 n.args 0 a1 a' _ H1 rfl (Nat.zero_le _) ?_ ?_ ?_ ?_ ?_ ?_ ?_ hS1 h _ ?_
  all_goals first
   |(simp -implicitDefEqProofs only [go_sem];done)
   |skip
  intro σ' H' hS';exact hS'
end
end Go.VL
end
section
set_option maxHeartbeats 4000000
namespace Go.VL
open Go.Proofs
def wI:Nat->(List Str)->Str->Int->Option Int
 |0,_,_,_=>none
 |k+1,aX,s_1,Gx=>
  cond (decide (Gx<(aX.length:Int))) (if 0<=Gx then (aX[Gx.toNat]?).bind fun x3=>cond (strLt x3 s_1) (wI k aX s_1 (IntKind.wrap .i64 (Gx+1))) (some (Gx))else none) (some (Gx))
def ZX:List Nat:=[5]++List.range' 7 14
theorem aiP: ∀(k:Nat) (aX:List Str) (s_1:Str) (Gx:Int) (aC σ:Nat->PV) (H:AH) (f0:Fr ZX aC σ) (sl:σ 0=(.ah (aX.map aF) .unk)/\σ 1=(.str s_1)/\σ 5=(.int .i64 Gx)) (o:Int) (h:wI k aX s_1 Gx=some o) (Q:Post) (q0: ∀(p:Int) (σ':Nat->PV),o=p->Fr ZX aC σ'->(σ' 5=(.int .i64 p))->Q (.exit 0) σ' H),W Tryz.prog (.loop Ul) Q σ H:=by
 intro k
 induction k with
 |zero=>intro aX s_1 Gx aC σ H f0 sl o h Q q0;simp only [wI,reduceCtorEq]at h
 |succ k ih=>
  intro aX s_1 Gx aC σ H f0 sl o h Q q0;obtain⟨s0,s1,s5⟩:=sl;unfold wI at h;refine bA (fun K hK=>aJ ?_);unfold Ul;obtain⟨e1,h⟩|⟨e1,h⟩:=aA h
  ·obtain⟨e2,h⟩:=aZ h;obtain⟨x3,e4,h⟩:=ak h;obtain⟨e5,h⟩|⟨e5,h⟩:=aA h
   ·refine aj ?_;refine hK _ _ ?_;exact ih aX s_1 (IntKind.wrap .i64 (Gx+1)) _ _ _ aN av _ h _ q0
   ·cases h;refine aj ?_;exact q0 _ _ rfl aN av
  ·cases h;refine aj ?_;exact q0 _ _ rfl aN av
def Ww (k:Nat) (aX:List Str) (s_1:Str):Option (List Str):=
 Option.bind (wI k aX s_1 0) (fun p8=>cond (decide (p8<(aX.length:Int))) (if 0<=p8 then (aX[p8.toNat]?).bind fun Ka=>cond (Ka==s_1) (some aX) (if 0<=p8/\p8.toNat<=aX.length then if(([]:List Str).length+(aX.take p8.toNat).length)*16<=1099511627776 then if((([]:List Str)++(aX.take p8.toNat)).length+1)*16<=1099511627776 then if(((([]:List Str)++(aX.take p8.toNat))++[s_1]).length+(aX.drop p8.toNat).length)*16<=1099511627776 then some (((([]:List Str)++(aX.take p8.toNat))++[s_1])++(aX.drop p8.toNat))else none else none else none else none)else none) (if 0<=p8/\p8.toNat<=aX.length then if(([]:List Str).length+(aX.take p8.toNat).length)*16<=1099511627776 then if((([]:List Str)++(aX.take p8.toNat)).length+1)*16<=1099511627776 then if(((([]:List Str)++(aX.take p8.toNat))++[s_1]).length+(aX.drop p8.toNat).length)*16<=1099511627776 then some (((([]:List Str)++(aX.take p8.toNat))++[s_1])++(aX.drop p8.toNat))else none else none else none else none))
theorem as8 {k:Nat} {aX:List Str} {s_1:Str} {c0:Ck} {r:List Str} (h:Ww k aX s_1=some r):aD Tryz.prog 250 [(.ah (aX.map aF) c0),(.str s_1)] (.ah (r.map aF) .unk):=by
 refine aD.lw (.ah (.same .nil)) (aD.bH (dA.mem (.cons (bE gJ _) (.cons (.str _) .nil))) (aM aBu (by simp) (aJ ?_)) (bE gJ _));unfold Ww at h;unfold apZ;refine aj ?_;obtain⟨o6,h7,h⟩:=ak h;refine aiP k aX s_1 0 _ _ _ (Fr.refl _ _) av _ h7 _ ?_
 ·rintro p8 σ' eo ZY s12;rw [eo]at h;have s13:σ' 0=(.ah (aX.map aF) .unk):=(ZY 0 (by decide)).trans av;have Rm:σ' 1=(.str s_1):=(ZY 1 (by decide)).trans av;obtain⟨e15,h⟩|⟨e15,h⟩:=aA h
  ·obtain⟨e16,h⟩:=aZ h;obtain⟨Ka,e18,h⟩:=ak h;obtain⟨e19,h⟩|⟨e19,h⟩:=aA h
   ·cases h;refine aj ?_;exact(cK gJ _ _)
   ·obtain⟨e20,h⟩:=aZ h;refine aj ?_;refine aM ace (by simp) (aJ ?_);unfold X5;obtain⟨e26,h⟩:=aZ h;refine aj ?_;refine gW (f:=aF) lC ([]:List Str) ((aX.take p8.toNat):List Str) .exact .unk av av eY (by first|exact e26|(simp only [List.length_cons,List.length_nil];exact e26)) (fun c22 H23 am1 le aF2 aLr=> ?_);have aLs:HF [] _ H23:=⟨le,fun i _ _=>aF2 i⟩;try simp only [AH.aS,AH.aT,AH.aU,AH.aV]at le
    obtain⟨e33,h⟩:=aZ h;refine aj ?_;refine gW (f:=aF) lC (([]:List Str)++(aX.take p8.toNat)) ([s_1]:List Str) c22 .exact av av eY (by first|exact e33|(simp only [List.length_cons,List.length_nil];exact e33)) (fun c29 H30 aLt le aF3 aLu=> ?_);have aiQ:HF [] _ H30:=⟨le,fun i _ _=>aF3 i⟩;try simp only [AH.aS,AH.aT,AH.aU,AH.aV]at le
    obtain⟨e40,h⟩:=aZ h;refine aj ?_;refine gW (f:=aF) lC ((([]:List Str)++(aX.take p8.toNat))++[s_1]) ((aX.drop p8.toNat):List Str) c29 .unk av av eY (by first|exact e40|(simp only [List.length_cons,List.length_nil];exact e40)) (fun c36 H37 axW le aF4 aLv=> ?_);have ayv:HF [] _ H37:=⟨le,fun i _ _=>aF4 i⟩;try simp only [AH.aS,AH.aT,AH.aU,AH.aV]at le
    cases h;refine aj ?_;exact(cK gJ _ _)
  ·obtain⟨e43,h⟩:=aZ h;refine aj ?_;refine aM ace (by simp) (aJ ?_);unfold X5;obtain⟨e49,h⟩:=aZ h;refine aj ?_;refine gW (f:=aF) lC ([]:List Str) ((aX.take p8.toNat):List Str) .exact .unk av av eY (by first|exact e49|(simp only [List.length_cons,List.length_nil];exact e49)) (fun c45 H46 aF5 le anV aF6=> ?_);have aiI:HF [] _ H46:=⟨le,fun i _ _=>anV i⟩;try simp only [AH.aS,AH.aT,AH.aU,AH.aV]at le
   obtain⟨e56,h⟩:=aZ h;refine aj ?_;refine gW (f:=aF) lC (([]:List Str)++(aX.take p8.toNat)) ([s_1]:List Str) c45 .exact av av eY (by first|exact e56|(simp only [List.length_cons,List.length_nil];exact e56)) (fun c52 Z0 aLw le anW aLx=> ?_);have anX:HF [] _ Z0:=⟨le,fun i _ _=>anW i⟩;try simp only [AH.aS,AH.aT,AH.aU,AH.aV]at le
   obtain⟨e63,h⟩:=aZ h;refine aj ?_;refine gW (f:=aF) lC ((([]:List Str)++(aX.take p8.toNat))++[s_1]) ((aX.drop p8.toNat):List Str) c52 .unk av av eY (by first|exact e63|(simp only [List.length_cons,List.length_nil];exact e63)) (fun c59 H60 aLy le aF7 aLz=> ?_);have anY:HF [] _ H60:=⟨le,fun i _ _=>aF7 i⟩;try simp only [AH.aS,AH.aT,AH.aU,AH.aV]at le
   cases h;refine aj ?_;exact(cK gJ _ _)
def qc:Nat->(List Nd)->(List Str)->Int->Int->Option (List Str)
 |0,_,_,_,_=>none
 |k+1,aB,jm,Nb,Im=>
  cond (decide (Nb>=0)) (if 0<=Nb then (aB[Nb.toNat]?).bind fun x5=>(vk x5 Im).bind fun p8=>if(([]:List Str).length+p8.length)*16<=1099511627776 then if((([]:List Str)++p8).length+jm.length)*16<=1099511627776 then (qD k aB Nb).bind fun p25=>qc k aB ((([]:List Str)++p8)++jm) p25.1 p25.2 else none else none else none) (some (jm))
def Od:List Nat:=[5,6,7]++List.range' 14 17
theorem YQ: ∀(k:Nat) (aB:List Nd) (jm:List Str) (Nb:Int) (Im:Int) (D8:Ck) (aC σ:Nat->PV) (H0 H:AH) (f0:Fr Od aC σ) (hf0:HF [] H0 H) (sl:σ 0=(.ah (aB.map Nd.cells) .unk)/\σ 5=(.ah (jm.map aF) D8)/\σ 6=(.int .i64 Nb)/\σ 7=(.int .i64 Im)) (o:List Str) (h:qc k aB jm Nb Im=some o) (Q:Post) (q0: ∀(p:List Str) (c0:Ck) (σ':Nat->PV) (H':AH),o=p->Fr Od aC σ'->HF [] H0 H'->(σ' 5=(.ah (p.map aF) c0))->Q (.exit 0) σ' H'),W Tryz.prog (.loop Sb) Q σ H:=by
 intro k
 induction k with
 |zero=>intro aB jm Nb Im D8 aC σ H0 H f0 hf0 sl o h Q q0;simp only [qc,reduceCtorEq]at h
 |succ k ih=>
  intro aB jm Nb Im D8 aC σ H0 H f0 hf0 sl o h Q q0;obtain⟨s0,s5,s6,s7⟩:=sl;have hle0:=hf0.1;unfold qc at h;refine bA (fun K hK=>aJ ?_);unfold Sb;obtain⟨e3,h⟩|⟨e3,h⟩:=aA h
  ·obtain⟨e4,h⟩:=aZ h;obtain⟨x5,e6,h⟩:=ak h;obtain⟨p8,e7,h⟩:=ak h;refine aj ?_;refine au (ZJ e7) ?_;refine aj ?_;refine aM ace (by simp) (aJ ?_);unfold X5;obtain⟨e14,h⟩:=aZ h;refine aj ?_;refine gW (f:=aF) lC ([]:List Str) (p8:List Str) .exact .unk av av eY (by first|exact e14|(simp only [List.length_cons,List.length_nil];exact e14)) (fun c10 H11 au6 le aF8 aLA=> ?_);have aiB:HF [] _ H11:=⟨le,fun i _ _=>aF8 i⟩;try simp only [AH.aS,AH.aT,AH.aU,AH.aV]at le
   obtain⟨e21,h⟩:=aZ h;refine aj ?_;refine gW (f:=aF) lC (([]:List Str)++p8) (jm:List Str) c10 D8 av av eY (by first|exact e21|(simp only [List.length_cons,List.length_nil];exact e21)) (fun c17 H18 ahQ le aF9 anZ=> ?_);have aLB:HF [] _ H18:=⟨le,fun i _ _=>aF9 i⟩;try simp only [AH.aS,AH.aT,AH.aU,AH.aV]at le
   obtain⟨p25,e24,h⟩:=ak h;refine aj ?_;refine au (VX e24) ?_;refine aj ?_;refine hK _ _ ?_;exact ih aB ((([]:List Str)++p8)++jm) p25.1 p25.2 c17 _ _ _ _ aN GH av _ h _ q0
  ·cases h;refine aj ?_;exact q0 _ D8 _ _ rfl aN nL av
def zi (k:Nat) (aB:List Nd) (dS:Int):Option (List Str):=
 (qD k aB dS).bind fun p2=>Option.bind (qc k aB ([]:List Str) p2.1 p2.2) (fun p28=>some p28)
theorem afB {k:Nat} {aB:List Nd} {dS:Int} {c0:Ck} {r:List Str} (h:zi k aB dS=some r):aD Tryz.prog 113 [(.ah (aB.map Nd.cells) c0),(.int .i64 dS)] (.ah (r.map aF) .unk):=by
 refine aD.lw (.ah (.same .nil)) (aD.bH (dA.mem (.cons (bE Nd.pu _) (.cons (.int _ _) .nil))) (aM aAq (by simp) (aJ ?_)) (bE gJ _));unfold zi at h;unfold aoT;obtain⟨p2,e1,h⟩:=ak h;refine aj ?_;refine au (VX e1) ?_;refine aj ?_;obtain⟨o26,h27,h⟩:=ak h;refine YQ k aB ([]:List Str) p2.1 p2.2 .nil _ _ _ _ (Fr.refl _ _) (HF.refl _ _) av _ h27 _ ?_
 ·rintro p28 c32 σ' H31 eo acu anf s33;rw [eo]at h;have le:=anf.1;try simp only [AH.aS,AH.aT,AH.aU,AH.aV]at le
  cases h;refine aj ?_;exact(cK gJ _ _)
end Go.VL
end
section
namespace Go.VL
open Tm
def zZ (n:Nd) (p:Nat):List Str:=(iM n (p:Int)).getD []
theorem U0 {n:Nd} (h:bV true n=0) (hk:n.kind=23):n.args.length=2/\1<=n.names.length:=by
 unfold bV at h
 split at h;·cases h
 split at h;·cases h
 rename_i _ h1;have h1:qo n=true:=by simpa using h1
 unfold qo at h1;have hs:iW 23=((1,5,2,2),false):=by kernel_rfl
 rw [hk,hs]at h1;simp [gY]at h1;omega
theorem Oe {n:Nd} (h:bV true n=0) (hl:n.args.length<=1000000) (p:Nat):iM n (p:Int)=some (zZ n p):=by
 have hj: ∃b,kL n.kind=some b:=by
  unfold kL
  repeat' first
   |exact⟨_,rfl⟩
   |(generalize(n.kind==_)=b;cases b<;>simp only [cond_true,cond_false])
 obtain⟨b,hb⟩:=hj;have: ∃r,iM n (p:Int)=some r:=by
  unfold iM;rw [hb,Option.bind_some];cases b with
  |true=>rw [cond_true];cases((p:Int)==IntKind.wrap .i64 ((n.args.length:Int) -1))<;>exact⟨_,rfl⟩
  |false=>
   rw [cond_false];by_cases hk:n.kind=23
   · obtain⟨h1,h2⟩:=U0 h hk;rw [wX (by rw [hk];rfl)];rw [if_pos h2,if_pos h2];cases((p:Int)==IntKind.wrap .i64 ((n.args.length:Int) -1))<;>cases(n.n==1)<;>exact⟨_,rfl⟩
   · rw [pI (by rw [beq_eq_false_iff_ne];exact hk)];exact⟨_,rfl⟩
 obtain⟨r,hr⟩:=this;unfold zZ;rw [hr];rfl
theorem Og {n:Nd} (h:bV true n=0) (hl:n.args.length<=1000000) (p:Nat):vk n (p:Int)=some (zZ n p):=by
 rw [<-Oe h hl];unfold vk iM;show Option.bind (kL n.kind) _=_;cases kL n.kind with
 |none=>rfl
 |some b=>
  rw [Option.bind_some,Option.bind_some];cases b with
  |true=>rfl
  |false=>
   rw [cond_false,cond_false];by_cases hk:n.kind=23
   · obtain⟨h1,h2⟩:=U0 h hk;rw [h1];rfl
   · rw [pI (by rw [beq_eq_false_iff_ne];exact hk),pI (by rw [beq_eq_false_iff_ne];exact hk)]
theorem Qa {n:Nd} {m:Nat} (hm:n.names.length<=m) (p:Nat):(zZ n p).length<=m:=by
 have key: ∀r,iM n (p:Int)=some r->r.length<=m:=by
  intro r hr;unfold iM at hr;cases hj:kL n.kind with
  |none=>rw [hj]at hr;cases hr
  |some b=>
   rw [hj,Option.bind_some]at hr;cases b with
   |true=>
    rw [cond_true]at hr;cases e:((p:Int)==IntKind.wrap .i64 ((n.args.length:Int) -1))<;>rw [e]at hr<;>cases hr
    · exact Nat.zero_le _
    · exact hm
   |false=>
    rw [cond_false]at hr;cases e0:(n.kind==23)<;>rw [e0]at hr
    · cases hr;exact Nat.zero_le _
    · rw [cond_true]at hr;by_cases h1:1<=n.names.length
      · rw [if_pos h1,if_pos h1]at hr;cases e:((p:Int)==IntKind.wrap .i64 ((n.args.length:Int) -1))<;>rw [e]at hr
        · cases e2:(n.n==1)<;>rw [e2]at hr<;>cases hr
          · simp;omega
          · exact hm
        · cases hr;simp;omega
      · rw [if_neg h1,if_neg h1]at hr;cases e:((p:Int)==IntKind.wrap .i64 ((n.args.length:Int) -1))<;>rw [e]at hr
        · cases e2:(n.n==1)<;>rw [e2]at hr<;>cases hr;exact hm
        · cases hr
 unfold zZ;cases h:iM n (p:Int)with
 |none=>exact Nat.zero_le _
 |some r=>exact key r h
mutual
def vis (b:Nat) (bd:List Str):Tm->List (Nat×List Str)
 | .mk x cs=>(b+sizes cs,bd)::EX b bd (nd x b cs) 0 cs
def EX (b:Nat) (bd:List Str) (n:Nd) (j:Nat):List Tm->List (Nat×List Str)
 |[]=>[]
 |c::cs=>vis b (bd++zZ n j) c++EX (b+c.size) bd n (j+1) cs
end
theorem Km {b:Nat} {bd:List Str} {n:Nd} {j:Nat} {c:Tm} {cs:List Tm}:EX b bd n j (c::cs)=vis b (bd++zZ n j) c++EX (b+c.size) bd n (j+1) cs:=by rw [EX]
theorem Wx {b:Nat} {bd:List Str} {x:Nd} {cs:List Tm}:vis b bd (.mk x cs)=(b+sizes cs,bd)::EX b bd (nd x b cs) 0 cs:=by rw [vis]
section
variable {α:Type}
def D9 (step:α->Int->List Str->Option α):List (Nat×List Str)->α->Option α
 |[],a=>some a
 |v::l,a=>(step a (v.1:Int) v.2).bind fun a'=>D9 step l a'
theorem Rx (step:α->Int->List Str->Option α): ∀(l m:List (Nat×List Str)) (a:α),D9 step (l++m) a=(D9 step l a).bind fun a'=>D9 step m a'
 |[],m,a=>rfl
 |v::l,m,a=>by
  rw [List.cons_append,D9,D9];cases step a (v.1:Int) v.2 with
  |none=>rfl
  |some a'=>exact Rx step l m a'
structure Bv (e:List Nd):Prop where
 len:e.length<=170
 ok: ∀(i:Nat) n,e[i]? =some n->bV true n=0
 few: ∀(i:Nat) n,e[i]? =some n->n.args.length<=34/\n.names.length<=34
variable {e:List Nd} (hF:Bv e) (step:α->Int->List Str->Option α)
include hF
mutual
theorem adv: ∀(t:Tm) (b:Nat) (bd:List Str) (k:Nat) (a:α),Seg e b t->t.size<=k->bd.length+34*(b+t.size -1)<=10000->zY step e k ((b+t.size -1:Nat):Int) bd a=D9 step (vis b bd t) a
 | .mk x cs,b,bd,k,a,hS,hk,hb=>by
  have hn:=hS.node;have hsz:b+(Tm.mk x cs).size -1=b+sizes cs:=by simp only [size];omega
  rw [hsz]at hb⊢;obtain⟨k,rfl⟩: ∃j,k=j+1:=⟨k -1,by simp only [size]at hk;omega⟩;rw [zY,Wx,D9];cases step a ((b+sizes cs:Nat):Int) bd with
  |none=>rfl
  |some a'=>
   simp only [Option.bind_some,nn,if_true,Int.toNat_natCast,hn];have hl:(nd x b cs).args.length<=1099511627776:=by have:=(hF.few _ _ hn).1;omega
   rw [if_pos hl];exact Z4 cs x [] b bd k a' hS (by simp only [size]at hk;omega) (by simp only [List.nil_append];omega)
theorem Z4: ∀(cs:List Tm) (x:Nd) (l:List Tm) (b:Nat) (bd:List Str) (k:Nat) (a:α),Seg e b (.mk x (l++cs))->sizes cs<=k->bd.length+34*(b+sizes (l++cs))<=10000->
 Kl (zY step e k) (nd x b (l++cs)) bd l.length (roots (b+sizes l) cs) a=D9 step (EX (b+sizes l) bd (nd x b (l++cs)) l.length cs) a
 |[],x,l,b,bd,k,a,hS,hk,hb=>by rw [roots,Kl,EX,D9]
 |c::cs,x,l,b,bd,k,a,hS,hk,hb=>by
  have hn:=hS.node;have Ea:=hF.few _ _ hn;have hbl:=Qa Ea.2 l.length;have hcp:=c.size_pos;have hsz:sizes (l++c::cs)=sizes l+(c.size+sizes cs):=by rw [dJ,sizes]
  rw [hsz]at hb;rw [roots,Kl,Km,Rx,Oe (hF.ok _ _ hn) (by omega),Option.bind_some,if_pos (by omega)];have hk2:sizes (c::cs)=c.size+sizes cs:=by rw [sizes]
  rw [adv c (b+sizes l) (bd++zZ (nd x b (l++c::cs)) l.length) k a hS.kid (by omega) (by rw [List.length_append];omega)];cases D9 step (vis (b+sizes l) (bd++zZ (nd x b (l++c::cs)) l.length) c) a with
  |none=>rfl
  |some a'=>
   have e1:l++c::cs=(l++[c])++cs:=by simp
   have e2:l.length+1=(l++[c]).length:=by simp
   have e3:b+sizes l+c.size=b+sizes (l++[c]):=by rw [dJ,rD];omega
   rw [Option.bind_some,Option.bind_some,e1,e2,e3];exact Z4 cs x (l++[c]) b bd k a' (by rw [<-e1];exact hS) (by omega) (by rw [<-e1,hsz];omega)
end
end
end Go.VL
end
section
namespace Go.VL
theorem Qb: ∀a b:Str,strLt a b=true↔a<b
 |[],[]=>by simp [strLt]
 |a::x,[]=>by simp [strLt]
 |[],b::y=>by simp [strLt]
 |a::x,b::y=>by
  rw [strLt,List.cons_lt_cons_iff,Bool.or_eq_true,Bool.and_eq_true,decide_eq_true_eq,beq_iff_eq,Qb x y]
theorem tri (a b:Str):a<b\/a=b\/b<a:=by
 rcases List.le_total a b with h|h
 · by_cases e:a=b
   · exact .inr (.inl e)
   · by_cases h2:a<b
     · exact .inl h2
     · exact absurd (List.le_antisymm h (List.not_lt.1 h2)) e
 · by_cases e:a=b
   · exact .inr (.inl e)
   · by_cases h2:b<a
     · exact .inr (.inr h2)
     · exact absurd (List.le_antisymm (List.not_lt.1 h2) h) e
def wJ (s:Str):List Str->List Str
 |[]=>[s]
 |x::l=>if strLt x s=true then x::wJ s l else if x=s then x::l else s::x::l
def Nc (l:List Str):List Str:=l.foldl (fun a s=>wJ s a) []
theorem Nf {s y:Str}: ∀{l:List Str},y∈wJ s l↔y=s\/y∈l
 |[]=>by simp [wJ]
 |x::l=>by
  rw [wJ];split
  · simp only [List.mem_cons,Nf (l:=l)];constructor
    · rintro(h|h|h)<;>simp [h]
    · rintro(h|h|h)<;>simp [h]
  · split
    · rename_i h;subst h;simp
    · simp
theorem U1 {s:Str}: ∀{l:List Str},l.Pairwise (·< ·)->(wJ s l).Pairwise (·< ·)
 |[],_=>by simp [wJ]
 |x::l,h=>by
  rw [wJ];obtain⟨h1,h2⟩:=List.pairwise_cons.1 h;split
  · rename_i hx;refine List.pairwise_cons.2 ⟨fun y hy=> ?_,U1 h2⟩;rcases Nf.1 hy with rfl|hy
    · exact(Qb _ _).1 hx
    · exact h1 y hy
  · rename_i hx;split
    · exact h
    · rename_i hne;have hlt:s<x:=by
       rcases tri s x with h|h|h
       · exact h
       · exact absurd h.symm hne
       · exact absurd ((Qb _ _).2 h) hx
      refine List.pairwise_cons.2 ⟨fun y hy=> ?_,h⟩;rcases List.mem_cons.1 hy with rfl|hy
      · exact hlt
      · exact List.lt_trans hlt (h1 y hy)
theorem U2: ∀(l a:List Str),a.Pairwise (·< ·)->(l.foldl (fun a s=>wJ s a) a).Pairwise (·< ·)/\ ∀y,y∈l.foldl (fun a s=>wJ s a) a↔y∈l\/y∈a
 |[],a,h=>⟨h,fun y=>by simp⟩
 |s::l,a,h=>by
  obtain⟨h1,h2⟩:=U2 l (wJ s a) (U1 h);refine⟨h1,fun y=> ?_⟩;rw [List.foldl_cons,h2 y,Nf,List.mem_cons];constructor
  · rintro(h|h|h)<;>simp [h]
  · rintro((h|h)|h)<;>simp [h]
theorem adw (l:List Str):(Nc l).Pairwise (·< ·):=(U2 l [] List.Pairwise.nil).1
theorem adx {l:List Str} {y:Str}:y∈Nc l↔y∈l:=by rw [Nc,(U2 l [] List.Pairwise.nil).2 y];simp
theorem ady {l m:List Str} (hl:l.Pairwise (·< ·)) (hm:m.Pairwise (·< ·)) (h: ∀y,y∈l↔y∈m):l=m:=by
 have nd: ∀{l:List Str},l.Pairwise (·< ·)->l.Nodup:=fun h=>h.imp (S:=fun a b=>a≠b) fun{a b} hab e=>List.lt_irrefl a (by rw [<-e]at hab;exact hab)
 have hp:l.Perm m:=(List.perm_ext_iff_of_nodup (nd hl) (nd hm)).2 h
 exact List.Perm.eq_of_pairwise (le:=(·< ·)) (fun a b _ _ h1 h2=>absurd (List.lt_trans h1 h2) (List.lt_irrefl a)) hl hm hp
theorem Jj (d:Array Str) (hd: ∀i j,i<j->j<d.size->d[i]! <=d[j]!): ∀m,m<=d.size->(Lib.compactUpTo d m).Pairwise (·< ·)/\(∀x∈Lib.compactUpTo d m,∃j,j<m/\x=d[j]!)/\(∀j,j<m->d[j]! ∈Lib.compactUpTo d m)
 |0,_=>⟨List.Pairwise.nil,fun x h=>(by simp [Lib.compactUpTo]at h),fun j h=>absurd h (Nat.not_lt_zero _)⟩
 |m+1,hm=>by
  obtain⟨h1,h2,h3⟩:=Jj d hd m (by omega);rw [Lib.compactUpTo_succ];cases hk:Lib.keeps d m with
  |true=>
   rw [if_pos rfl];refine⟨List.pairwise_append.2 ⟨h1,List.pairwise_singleton _ _,fun a ha b hb=> ?_⟩,fun x hx=> ?_,fun j hj=> ?_⟩
   · rw [List.mem_singleton]at hb;subst hb;obtain⟨j,hj,rfl⟩:=h2 a ha;have hne:d[m]! ≠d[m -1]! :=by
      unfold Lib.keeps at hk;rw [decide_eq_true_eq]at hk;rcases hk with h|h
      · omega
      · exact h
     have h4:d[j]! <=d[m -1]! :=by
      by_cases e:j=m -1
      · rw [e];exact List.le_refl _
      · exact hd j (m -1) (by omega) (by omega)
     have h5:d[m -1]! <=d[m]! :=hd (m -1) m (by omega) (by omega);have h6:d[m -1]! <d[m]! :=by
      rcases tri d[m -1]! d[m]! with h|h|h
      · exact h
      · exact absurd h.symm hne
      · exact absurd (List.le_antisymm h5 (List.le_of_lt h)).symm hne
     rcases tri d[j]! d[m]! with h|h|h
     · exact h
     · rw [h]at h4;exact absurd (List.le_antisymm h4 h5) hne
     · have h7:=List.lt_trans h6 h;exact absurd (List.le_antisymm h4 (List.le_of_lt h7)) (fun e=>List.lt_irrefl _ (e▸h7))
   · rcases List.mem_append.1 hx with hx|hx
     · obtain⟨j,hj,e⟩:=h2 x hx;exact⟨j,by omega,e⟩
     · rw [List.mem_singleton]at hx;exact⟨m,Nat.lt_succ_self _,hx⟩
   · by_cases e:j=m
     · subst e;exact List.mem_append_right _ (List.mem_singleton.2 rfl)
     · exact List.mem_append_left _ (h3 j (by omega))
  |false=>
   rw [if_neg (by simp),List.append_nil];refine⟨h1,fun x hx=> ?_,fun j hj=> ?_⟩
   · obtain⟨j,hj,e⟩:=h2 x hx;exact⟨j,by omega,e⟩
   · by_cases e:j=m
     · subst e;unfold Lib.keeps at hk;rw [decide_eq_false_iff_not,not_or,Decidable.not_not]at hk;rw [hk.2];exact h3 (j -1) (by omega)
     · exact h3 j (by omega)
theorem adz (l:List Str):Lib.compact (l.mergeSort fun x y=>decide (x<=y))=Nc l:=by
 have tr: ∀a b c:Str,decide (a<=b)=true->decide (b<=c)=true->decide (a<=c)=true:=fun a b c h1 h2=>by simp only [decide_eq_true_eq]at*;exact List.le_trans h1 h2
 have tot: ∀a b:Str,(decide (a<=b)||decide (b<=a))=true:=fun a b=>by simp only [Bool.or_eq_true,decide_eq_true_eq];exact List.le_total a b
 have hs:=List.pairwise_mergeSort (le:=fun x y:Str=>decide (x<=y)) tr tot l;have hp:=List.mergeSort_perm l (fun x y:Str=>decide (x<=y));generalize(l.mergeSort fun x y=>decide (x<=y))=m at hs hp;have hd: ∀i j,i<j->j<m.toArray.size->m.toArray[i]! <=m.toArray[j]! :=fun i j hij hj=>by
  have hj':j<m.length:=by simpa using hj
  have:=List.pairwise_iff_getElem.1 hs i j (by omega) hj' hij;rw [decide_eq_true_eq]at this;simp [hj',show i<m.length by omega];exact this
 obtain⟨h1,h2,h3⟩:=Jj m.toArray hd m.length (by simp);refine ady h1 (adw l) fun y=> ?_;rw [adx,<-hp.mem_iff];constructor
 · intro h;obtain⟨j,hj,rfl⟩:=h2 y h;simp [hj]
 · intro h;obtain⟨j,hj,rfl⟩:=List.getElem_of_mem h;have:=h3 j hj;unfold Lib.compact;simpa [hj]using this
end Go.VL
end
section
set_option maxHeartbeats 4000000
namespace Go.VL
open Go.Proofs
def jL:Nat->(List Nd)->(List Str)->Int->Option (List Str)
 |0,_,_,_=>none
 |k+1,aB,eU,gB=>
  cond (decide (gB<(aB.length:Int))) (if 0<=gB then (aB[gB.toNat]?).bind fun x3=>(zL k x3).bind fun p6=>cond p6 ((zi k aB gB).bind fun p9=>(nG k p9 x3.text).bind fun Ag=>cond Ag (jL k aB eU (IntKind.wrap .i64 (gB+1))) ((Ww k eU x3.text).bind fun mq=>jL k aB mq (IntKind.wrap .i64 (gB+1)))) (jL k aB eU (IntKind.wrap .i64 (gB+1)))else none) (some (eU))
def Qc:List Nat:=List.range' 3 32
theorem aa1: ∀(k:Nat) (aB:List Nd) (eU:List Str) (gB:Int) (fU:Ck) (aC σ:Nat->PV) (H:AH) (f0:Fr Qc aC σ) (sl:σ 0=(.ah (aB.map Nd.cells) .unk)/\σ 3=(.ah (eU.map aF) fU)/\σ 4=(.int .i64 gB)) (o:List Str) (h:jL k aB eU gB=some o) (Q:Post) (q0: ∀(p:List Str) (c0:Ck) (σ':Nat->PV),o=p->Fr Qc aC σ'->(σ' 3=(.ah (p.map aF) c0))->Q (.exit 0) σ' H),W Tryz.prog (.loop TL) Q σ H:=by
 intro k
 induction k with
 |zero=>intro aB eU gB fU aC σ H f0 sl o h Q q0;simp only [jL,reduceCtorEq]at h
 |succ k ih=>
  intro aB eU gB fU aC σ H f0 sl o h Q q0;obtain⟨s0,s3,s4⟩:=sl;unfold jL at h;refine bA (fun K hK=>aJ ?_);unfold TL;obtain⟨e1,h⟩|⟨e1,h⟩:=aA h
  ·refine aj ?_;refine jI ?_;obtain⟨e2,h⟩:=aZ h;obtain⟨x3,e4,h⟩:=ak h;obtain⟨p6,e5,h⟩:=ak h;refine aj ?_;refine PC.mk (ZI e5) ?_;obtain⟨e7,h⟩|⟨e7,h⟩:=aA h
   ·obtain⟨p9,e8,h⟩:=ak h;refine aj ?_;refine PC.mk (afB e8) ?_;obtain⟨Ag,e10,h⟩:=ak h;refine aj ?_;refine au (CG e10) ?_;obtain⟨e12,h⟩|⟨e12,h⟩:=aA h
    ·refine aj ?_;refine hK _ _ ?_;exact ih aB eU (IntKind.wrap .i64 (gB+1)) fU _ _ _ aN av _ h _ q0
    ·obtain⟨mq,e13,h⟩:=ak h;refine aj ?_;refine au (as8 e13) ?_;refine aj ?_;refine hK _ _ ?_;exact ih aB mq (IntKind.wrap .i64 (gB+1)) .unk _ _ _ aN av _ h _ q0
   ·refine aj ?_;refine hK _ _ ?_;exact ih aB eU (IntKind.wrap .i64 (gB+1)) fU _ _ _ aN av _ h _ q0
  ·cases h;refine aj ?_;exact q0 _ fU _ rfl aN av
def zk (k:Nat) (aB:List Nd):Option (List Str):=
 Option.bind (jL k aB ([]:List Str) 0) (fun I5=>some I5)
theorem aiR {k:Nat} {aB:List Nd} {c0:Ck} {r:List Str} (h:zk k aB=some r):aD Tryz.prog 198 [(.ah (aB.map Nd.cells) c0)] (.ah (r.map aF) .unk):=by
 refine aD.lw (.ah .nil) (aD.bH (dA.mem (.cons (bE Nd.pu _) .nil)) (aM aA3 (by simp) (aJ ?_)) (bE gJ _));unfold zk at h;unfold apy;refine aj ?_;obtain⟨o15,h16,h⟩:=ak h;refine aa1 k aB ([]:List Str) 0 .nil _ _ _ (Fr.refl _ _) av _ h16 _ ?_
 ·rintro I5 c21 σ' eo Ng s22;rw [eo]at h;cases h;refine aj ?_;exact(cK gJ _ _)
end Go.VL
end
section
namespace Go.VL
def nB (s:Str):List Str->Nat
 |[]=>0
 |x::l=>if strLt x s=true then nB s l+1 else 0
theorem aiS (s:Str): ∀l,nB s l<=l.length
 |[]=>Nat.le_refl _
 |x::l=>by
  rw [nB];split
  · have:=aiS s l;simp only [List.length_cons];omega
  · omega
theorem YR (s:Str): ∀l,wJ s l=if l[nB s l]? =some s then l else l.take (nB s l)++s::l.drop (nB s l)
 |[]=>by simp [wJ,nB]
 |x::l=>by
  rw [wJ,nB];by_cases h:strLt x s=true
  · rw [if_pos h,if_pos h,YR s l];simp only [List.getElem?_cons_succ,List.take_succ_cons,List.drop_succ_cons];split<;>rfl
  · rw [if_neg h,if_neg h];by_cases h2:x=s
    · subst h2;simp
    · simp [h2]
theorem afC (l:List Str) (s:Str) (hl:l.length<=1000000):Ev (fun k=>wI k l s ((0:Nat):Int)) (((0+nB s (l.drop 0):Nat):Int)):=by
 refine gF (len:=l.length) (p:=fun i=>Ev (fun k=>wI k l s (i:Int)) (((i+nB s (l.drop i):Nat):Int))) ?_ fun i hi ih=> ?_
 · refine Ev.succ ?_;simp only [wI];exact Ev.cF (fT _) (Ev.some' (by simp [nB]))
 · refine Ev.succ ?_;simp only [wI,Int.toNat_natCast,aW hi,Option.bind_some,nn,if_true,gP hi,cond_true,dw hi (show l.length<=1099511627776 by omega)];rw [drop_cons hi,nB];by_cases h:strLt l[i] s=true
   · refine Ev.cT h (ih.to ?_);rw [if_pos h];omega
   · refine Ev.cF (by simpa using h) (Ev.some' ?_);rw [if_neg h];rfl
theorem an0 (l:List Str) (s:Str) (hl:l.length<=1000000):Ev (fun k=>Ww k l s) (wJ s l):=by
 have h0:=afC l s hl;rw [List.drop_zero,Nat.zero_add]at h0;have hle:=aiS s l;unfold Ww;refine Ev.bind h0 ?_;rw [YR];have e1:(([]:List Str).length+(l.take (nB s l)).length)*16<=1099511627776:=by simp;omega
 have e2:((([]:List Str)++(l.take (nB s l))).length+1)*16<=1099511627776:=by simp;omega
 have e3:(((([]:List Str)++(l.take (nB s l)))++[s]).length+(l.drop (nB s l)).length)*16<=1099511627776:=by simp;omega
 have e4:(0:Int)<=((nB s l:Nat):Int)/\nB s l<=l.length:=⟨by omega,hle⟩;have tail:Ev (fun _:Nat=>if(0:Int)<=((nB s l:Nat):Int)/\nB s l<=l.length then(if(([]:List Str).length+(l.take (nB s l)).length)*16<=1099511627776 then(if((([]:List Str)++(l.take (nB s l))).length+1)*16<=1099511627776 then(if(((([]:List Str)++(l.take (nB s l)))++[s]).length+(l.drop (nB s l)).length)*16<=1099511627776 then some (((([]:List Str)++(l.take (nB s l)))++[s])++(l.drop (nB s l)))else none)else none)else none)else none) (l.take (nB s l)++s::l.drop (nB s l)):=by
  rw [if_pos e4,if_pos e1,if_pos e2,if_pos e3];exact Ev.some' (by simp)
 by_cases h:nB s l<l.length
 · simp only [Int.toNat_natCast,aW h,Option.bind_some,nn,if_true];refine Ev.cT (gP h) ?_;by_cases h2:l[nB s l]=s
   · refine Ev.cT (by rw [beq_iff_eq];exact h2) (Ev.some' ?_);rw [if_pos (by rw [h2])]
   · refine Ev.cF (by rw [beq_eq_false_iff_ne];exact h2) ?_;refine Ev.to ?_ (if_neg (fun e=>h2 (Option.some.inj e))).symm;simpa only [nn,true_and]using tail
 · have h2:l[nB s l]? =none:=List.getElem?_eq_none (by omega);simp only [Int.toNat_natCast];refine Ev.cF (decide_eq_false (by omega)) ?_;exact Ev.to tail (if_neg (fun e=>by rw [h2]at e;cases e)).symm
theorem adA (s:Str) (l:List Str):(wJ s l).length<=l.length+1:=by
 rw [YR];split
 · omega
 · have:=aiS s l;simp;omega
end Go.VL
end
section
set_option maxHeartbeats 4000000
namespace Go.VL
open Go.Proofs
def nP (k:Nat) (aY:Nd):Option Bool:=
 (nI k aY.text).bind fun p2=>cond (aY.kind==2) ((BP aY.text).bind fun p5=>cond p5 (cond (aY.kind==3) (some (!p2.2)) (some false)) (some true)) (cond (aY.kind==3) (some (!p2.2)) (some false))
instance afD (k:Nat) (aY:Nd):dN Tryz.prog 191 [(.agg (Nd.cells aY))] (nP k aY) (fun r=>(.bool r)):=bZ aAX (by unfold nP aps;exact bJ)
theorem Ry {k:Nat} {aY:Nd} {r:Bool} (h:nP k aY=some r):aD Tryz.prog 191 [(.agg (Nd.cells aY))] (.bool r):=(afD _ _).c _ h
def l8 (iT:Int):Option Bool:=
 cond (iT !=16) (some (iT !=17)) (some false)
instance adB (iT:Int):dN Tryz.prog 283 [(.int .i64 iT)] (l8 iT) (fun r=>(.bool r)):=bZ aBP (by unfold l8 aqk;exact bJ)
theorem adC {iT:Int} {r:Bool} (h:l8 iT=some r):aD Tryz.prog 283 [(.int .i64 iT)] (.bool r):=(adB _).c _ h
def vR:Nat->Int->Int->Int->Str->(List Str)->(List Int)->(List Int)->Int->Option (List Int)
 |0,_,_,_,_,_,_,_,_=>none
 |k+1,lS,Jk,Jl,Jm,Jo,Eb,xK,KR=>
  cond (decide (KR<(Eb.length:Int))) (if 0<=KR then (Eb[KR.toNat]?).bind fun Z5=>if(xK.length+1)*8<=1099511627776 then vR k lS Jk Jl Jm Jo Eb (xK++[(IntKind.wrap .i64 (Z5+lS))]) (IntKind.wrap .i64 (KR+1))else none else none) (some (xK))
def Wy:List Nat:=[11,12]++List.range' 47 17
theorem afE: ∀(k:Nat) (F7:Nat) (lS:Int) (Jk:Int) (Jl:Int) (Jm:Str) (Jo:List Str) (Eb:List Int) (xK:List Int) (KR:Int) (qd:Ck) (mR:Ck) (z8:Ck) (aC σ:Nat->PV) (H0 H:AH) (f0:Fr Wy aC σ) (hf0:HF [] H0 H) (sl:σ 8=(.int .i64 lS)/\σ 10=(.ref (F7) 0)/\σ 11=(.ah (xK.map aK) qd)/\σ 12=(.int .i64 KR)/\H.obj F7=some [(.int .i64 Jk),(.int .i64 Jl),(.str Jm),(.ah (Jo.map aF) .unk),(.ah (Eb.map aK) .unk)]) (Nh:F7<H.next) (Wz:bf H qd) (Ec:bf H mR) (aq7:bf H z8) (sF:lI qd mR) (sG:lI qd z8) (tL:lI mR z8) (o:List Int) (h:vR k lS Jk Jl Jm Jo Eb xK KR=some o) (Q:Post) (q0: ∀(p:List Int) (c0:Ck) (σ':Nat->PV) (H':AH),o=p->Fr Wy aC σ'->HF [] H0 H'->(σ' 11=(.ah (p.map aK) c0))->bf H' mR->bf H' z8->lI mR z8->Q (.exit 4) σ' H'),W Tryz.prog (.loop Sg) Q σ H:=by
 intro k
 induction k with
 |zero=>intro F7 lS Jk Jl Jm Jo Eb xK KR qd mR z8 aC σ H0 H f0 hf0 sl Nh Wz Ec aq7 sF sG tL o h Q q0;simp only [vR,reduceCtorEq]at h
 |succ k ih=>
  intro F7 lS Jk Jl Jm Jo Eb xK KR qd mR z8 aC σ H0 H f0 hf0 sl Nh Wz Ec aq7 sF sG tL o h Q q0;obtain⟨s8,s10,s11,s12,aGa⟩:=sl;have aGb:=ne_next Nh;have aGc:=aO Nh;have hle0:=hf0.1;unfold vR at h;refine bA (fun K hK=>aJ ?_);unfold Sg;obtain⟨e13,h⟩|⟨e13,h⟩:=aA h
  ·obtain⟨e14,h⟩:=aZ h;obtain⟨Z5,e16,h⟩:=ak h;obtain⟨e21,h⟩:=aZ h;refine aj ?_;refine gW (f:=aK) sK xK ([(IntKind.wrap .i64 (Z5+lS))]:List Int) qd .exact av av eY (by first|exact e21|(simp only [List.length_cons,List.length_nil];exact e21)) (fun c17 H18 ahQ le aGd anZ=> ?_);have aLC:HF [] _ H18:=⟨le,fun i _ _=>aGd i⟩;try simp only [AH.aS,AH.aT,AH.aU,AH.aV]at le
   obtain⟨ave,aGe⟩:=anZ mR eY sF;obtain⟨am1,aGf⟩:=anZ z8 eY sG;have n28:=ne_next (show F7<H18.next from aQ);have m29:=aO (show F7<H18.next from aQ);refine aj ?_;refine hK _ _ ?_;exact ih F7 lS Jk Jl Jm Jo Eb (xK++[(IntKind.wrap .i64 (Z5+lS))]) (IntKind.wrap .i64 (KR+1)) c17 mR z8 _ _ _ _ aN GH av aQ eY eY eY aGe aGf tL _ h _ q0
  ·cases h;refine aj ?_;exact q0 _ qd _ _ rfl aN nL av eY eY tL
def vS:Nat->(List (List Nd))->(List Nd)->Int->Int->Int->Option (List Nd)
 |0,_,_,_,_,_=>none
 |k+1,bR,jm,gZ,lS,Ak=>
  if 0<=gZ then (bR[gZ.toNat]?).bind fun x5=>cond (decide (Ak<(x5.length:Int))) (if 0<=Ak then (x5[Ak.toNat]?).bind fun x9=>(lY x9.names).bind fun pK=>Option.bind (vR k lS x9.kind x9.n x9.text pK x9.args ([]:List Int) 0) (fun p32=>if(jm.length+1)*80<=1099511627776 then vS k bR (jm++[(Nd.mk x9.kind x9.n x9.text pK p32)]) gZ lS (IntKind.wrap .i64 (Ak+1))else none)else none) (some (jm))else none
def WA:List Nat:=[5,9,10,11,12]++List.range' 27 43
theorem afF: ∀(k:Nat) (bR:List (List Nd)) (jm:List Nd) (gZ:Int) (lS:Int) (Ak:Int) (qX:Ck) (mU:Ck) (aC σ:Nat->PV) (H0 H:AH) (f0:Fr WA aC σ) (hf0:HF [] H0 H) (sl:σ 1=(.ah (bR.map (dx Nd.cells)) .unk)/\σ 5=(.ah (jm.map Nd.cells) qX)/\σ 7=(.int .i64 gZ)/\σ 8=(.int .i64 lS)/\σ 9=(.int .i64 Ak)) (Jp:bf H qX) (Ec:bf H mU) (qy:lI qX mU) (o:List Nd) (h:vS k bR jm gZ lS Ak=some o) (Q:Post) (q0: ∀(p:List Nd) (c0:Ck) (σ':Nat->PV) (H':AH),o=p->Fr WA aC σ'->HF [] H0 H'->(σ' 5=(.ah (p.map Nd.cells) c0))->bf H' c0->bf H' mU->lI c0 mU->Q (.exit 2) σ' H'),W Tryz.prog (.loop Si) Q σ H:=by
 intro k
 induction k with
 |zero=>intro bR jm gZ lS Ak qX mU aC σ H0 H f0 hf0 sl Jp Ec qy o h Q q0;simp only [vS,reduceCtorEq]at h
 |succ k ih=>
  intro bR jm gZ lS Ak qX mU aC σ H0 H f0 hf0 sl Jp Ec qy o h Q q0;obtain⟨s1,s5,s7,s8,s9⟩:=sl;have hle0:=hf0.1;unfold vS at h;refine bA (fun K hK=>aJ ?_);unfold Si;obtain⟨e4,h⟩:=aZ h;obtain⟨x5,e6,h⟩:=ak h;obtain⟨e7,h⟩|⟨e7,h⟩:=aA h
  ·obtain⟨e8,h⟩:=aZ h;obtain⟨x9,e10,h⟩:=ak h;obtain⟨pK,e11,h⟩:=ak h;refine aj ?_;refine au (Df e11) ?_;refine aj ?_;obtain⟨o30,h31,h⟩:=ak h;refine afE k (H.next) lS x9.kind x9.n x9.text pK x9.args ([]:List Int) 0 .nil qX mU _ _ _ _ (Fr.refl _ _) (HF.refl _ _) av aQ eY eY eY lI.nil lI.nil qy _ h31 _ ?_
   ·rintro p32 c36 σ' H35 eo Gv ayG s37 axW aLD aGg;rw [eo]at h;have s41:σ' 1=(.ah (bR.map (dx Nd.cells)) .unk):=(Gv 1 (by decide)).trans av;have s42:σ' 5=(.ah (jm.map Nd.cells) qX):=(Gv 5 (by decide)).trans av;have s43:σ' 7=(.int .i64 gZ):=(Gv 7 (by decide)).trans av;have s44:σ' 8=(.int .i64 lS):=(Gv 8 (by decide)).trans av;have s45:σ' 9=(.int .i64 Ak):=(Gv 9 (by decide)).trans av;have s46:σ' 10=(.ref (H.next) 0):=(Gv 10 (by decide)).trans av;have le:=ayG.1;try simp only [AH.aS,AH.aT,AH.aU,AH.aV]at le
    have g47:H35.obj (H.next)=some [(.int .i64 x9.kind),(.int .i64 x9.n),(.str x9.text),(.ah (pK.map aF) .unk),(.ah (x9.args.map aK) .unk)]:=(ayG.2 _ aQ (by first|exact List.not_mem_nil|(simp only [List.mem_cons,List.not_mem_nil,or_false,not_or];omega))).trans av;have n48:=ne_next (show H.next<H35.next from aQ);have m49:=aO (show H.next<H35.next from aQ);obtain⟨e54,h⟩:=aZ h;refine aj ?_;refine gW (f:=Nd.cells) Nd.row jm ([(Nd.mk x9.kind x9.n x9.text pK p32)]:List Nd) qX .exact av av eY (by first|exact e54|(simp only [List.length_cons,List.length_nil];exact e54)) (fun c50 H51 aLE le anW aGh=> ?_);have anX:HF [] _ H51:=⟨le,fun i _ _=>anW i⟩;try simp only [AH.aS,AH.aT,AH.aU,AH.aV]at le
    obtain⟨axZ,aGi⟩:=aGh mU eY aGg;have n59:=ne_next (show H.next<H51.next from aQ);have m60:=aO (show H.next<H51.next from aQ);refine aj ?_;refine hK _ _ ?_;exact ih bR (jm++[(Nd.mk x9.kind x9.n x9.text pK p32)]) gZ lS (IntKind.wrap .i64 (Ak+1)) c50 mU _ _ _ _ rY GH av eY eY aGi _ h _ q0
  ·cases h;refine aj ?_;exact q0 _ qX _ _ rfl aN nL av eY eY qy
def vT:Nat->(List (List Nd))->(List Nd)->Int->Int->Str->(List Str)->(List Int)->Int->Option (((List Nd)×Int×Int×Str×(List Str)×(List Int)))
 |0,_,_,_,_,_,_,_,_=>none
 |k+1,bR,jm,Hf,Hg,Hl,Ho,Ed,gZ=>
  cond (decide (gZ<(bR.length:Int))) (Option.bind (vS k bR jm gZ (jm.length:Int) 0) (fun p63=>if(Ed.length+1)*8<=1099511627776 then vT k bR p63 Hf Hg Hl Ho (Ed++[(IntKind.wrap .i64 ((p63.length:Int) -1))]) (IntKind.wrap .i64 (gZ+1))else none)) (some ((jm,Hf,Hg,Hl,Ho,Ed)))
def WB:List Nat:=[5,7,8,9,10,11,12]++List.range' 19 59
theorem afG: ∀(k:Nat) (wK:Nat) (bR:List (List Nd)) (jm:List Nd) (Hf:Int) (Hg:Int) (Hl:Str) (Ho:List Str) (Ed:List Int) (gZ:Int) (wL:Ck) (qY:Ck) (aC σ:Nat->PV) (H0 H:AH) (f0:Fr WB aC σ) (hf0:HF [wK] H0 H) (sl:σ 1=(.ah (bR.map (dx Nd.cells)) .unk)/\σ 5=(.ah (jm.map Nd.cells) wL)/\σ 6=(.ref (wK) 0)/\σ 7=(.int .i64 gZ)/\H.obj wK=some [(.int .i64 Hf),(.int .i64 Hg),(.str Hl),(.ah (Ho.map aF) .unk),(.ah (Ed.map aK) qY)]) (QO:wK<H.next) (Jp:bf H wL) (adD:bf H qY) (rW:lI wL qY) (o:((List Nd)×Int×Int×Str×(List Str)×(List Int))) (h:vT k bR jm Hf Hg Hl Ho Ed gZ=some o) (Q:Post) (q0: ∀(p:(List Nd)×Int×Int×Str×(List Str)×(List Int)) (c0:Ck) (c5:Ck) (σ':Nat->PV) (H':AH),o=p->Fr WB aC σ'->HF [wK] H0 H'->(σ' 5=(.ah (p.1.map Nd.cells) c0)/\H'.obj wK=some [(.int .i64 p.2.1),(.int .i64 p.2.2.1),(.str p.2.2.2.1),(.ah (p.2.2.2.2.1.map aF) .unk),(.ah (p.2.2.2.2.2.map aK) c5)])->bf H' c0->Q (.exit 0) σ' H'),W Tryz.prog (.loop Sj) Q σ H:=by
 intro k
 induction k with
 |zero=>intro wK bR jm Hf Hg Hl Ho Ed gZ wL qY aC σ H0 H f0 hf0 sl QO Jp adD rW o h Q q0;simp only [vT,reduceCtorEq]at h
 |succ k ih=>
  intro wK bR jm Hf Hg Hl Ho Ed gZ wL qY aC σ H0 H f0 hf0 sl QO Jp adD rW o h Q q0;obtain⟨s1,s5,s6,s7,aG9⟩:=sl;have aHa:=ne_next QO;have aHb:=aO QO;have hle0:=hf0.1;unfold vT at h;refine bA (fun K hK=>aJ ?_);unfold Sj;obtain⟨e3,h⟩|⟨e3,h⟩:=aA h
  ·refine aj ?_;obtain⟨o61,VW,h⟩:=ak h;refine afF k bR jm gZ (jm.length:Int) 0 wL qY _ _ _ _ (Fr.refl _ _) (HF.refl _ _) av eY eY rW _ VW _ ?_
   ·rintro p63 c67 σ' H66 eo M4 anY s69 am3 aFy aGj;rw [eo]at h;have s72:σ' 1=(.ah (bR.map (dx Nd.cells)) .unk):=(M4 1 (by decide)).trans av;have s73:σ' 6=(.ref (wK) 0):=(M4 6 (by decide)).trans av;have s74:σ' 7=(.int .i64 gZ):=(M4 7 (by decide)).trans av;have le:=anY.1;try simp only [AH.aS,AH.aT,AH.aU,AH.aV]at le
    have g75:H66.obj (wK)=some [(.int .i64 Hf),(.int .i64 Hg),(.str Hl),(.ah (Ho.map aF) .unk),(.ah (Ed.map aK) qY)]:=(anY.2 _ aQ (by first|exact List.not_mem_nil|(simp only [List.mem_cons,List.not_mem_nil,or_false,not_or];omega))).trans av;have n76:=ne_next (show wK<H66.next from aQ);have m77:=aO (show wK<H66.next from aQ);obtain⟨e82,h⟩:=aZ h;refine aj ?_;refine gW (f:=aK) sK Ed ([(IntKind.wrap .i64 ((p63.length:Int) -1))]:List Int) qY .exact av av eY (by first|exact e82|(simp only [List.length_cons,List.length_nil];exact e82)) (fun c78 H79 am5 le aGk aGl=> ?_);have aLF:HF [] _ H79:=⟨le,fun i _ _=>aGk i⟩;try simp only [AH.aS,AH.aT,AH.aU,AH.aV]at le
    obtain⟨avF,aGm⟩:=aGl c67 eY (lI.symm aGj);have n87:=ne_next (show wK<H79.next from aQ);have m88:=aO (show wK<H79.next from aQ);refine aj ?_;refine hK _ _ ?_;exact ih wK bR p63 Hf Hg Hl Ho (Ed++[(IntKind.wrap .i64 ((p63.length:Int) -1))]) (IntKind.wrap .i64 (gZ+1)) c67 c78 _ _ _ _ rY GH av aQ eY eY (lI.symm aGm) _ h _ q0
  ·cases h;refine aj ?_;exact q0 _ wL qY _ _ rfl aN nL av eY
def Md (k:Nat) (AU:Nd) (bR:List (List Nd)):Option (List Nd):=
 (lY AU.names).bind fun p2=>Option.bind (vT k bR ([]:List Nd) AU.kind AU.n AU.text p2 ([]:List Int) 0) (fun oh=>if(oh.1.length+1)*80<=1099511627776 then some (oh.1++[(Nd.mk oh.2.1 oh.2.2.1 oh.2.2.2.1 oh.2.2.2.2.1 oh.2.2.2.2.2)])else none)
theorem an1 {k:Nat} {AU:Nd} {bR:List (List Nd)} {c1:Ck} {r:List Nd} (h:Md k AU bR=some r):aD Tryz.prog 118 [(.agg (Nd.cells AU)),(.ah (bR.map (dx Nd.cells)) c1)] (.ah (r.map Nd.cells) .unk):=by
 refine aD.lw (.same (.ah .nil)) (aD.bH (dA.mem (.cons (.agg _ (Nd.pu _)) (.cons (bE (fA Nd.pu) _) .nil))) (aM aAs (by simp) (aJ ?_)) (bE Nd.pu _));unfold Md at h;unfold aoV;obtain⟨p2,e1,h⟩:=ak h;refine aj ?_;refine au (Df e1) ?_;refine aj ?_;obtain⟨o89,h90,h⟩:=ak h;refine afG k (AH.empty.next+1) bR ([]:List Nd) AU.kind AU.n AU.text p2 ([]:List Int) 0 .nil .nil _ _ _ _ (Fr.refl _ _) (HF.refl _ _) av aQ eY eY lI.nil _ h90 _ ?_
 ·rintro oh c95 c98 σ' H94 eo anB anC ⟨s97,g99⟩ aLG;rw [eo]at h;have anD:σ' 6=(.ref (AH.empty.next+1) 0):=(anB 6 (by decide)).trans av;have le:=anC.1;try simp only [AH.aS,AH.aT,AH.aU,AH.aV]at le
  have n102:=ne_next (show AH.empty.next+1<H94.next from aQ);have aLH:=aO (show AH.empty.next+1<H94.next from aQ);obtain⟨e108,h⟩:=aZ h;refine aj ?_;refine gW (f:=Nd.cells) Nd.row oh.1 ([(Nd.mk oh.2.1 oh.2.2.1 oh.2.2.2.1 oh.2.2.2.2.1 oh.2.2.2.2.2)]:List Nd) c95 .exact av av eY (by first|exact e108|(simp only [List.length_cons,List.length_nil];exact e108)) (fun aLI adE aKl le aCn aKm=> ?_);have aKn:HF [] _ adE:=⟨le,fun i _ _=>aCn i⟩;try simp only [AH.aS,AH.aT,AH.aU,AH.aV]at le
  have n111:=ne_next (show AH.empty.next<adE.next from aQ);have aLJ:=aO (show AH.empty.next<adE.next from aQ);have n113:=ne_next (show AH.empty.next+1<adE.next from aQ);have aLK:=aO (show AH.empty.next+1<adE.next from aQ);cases h;refine aj ?_;exact(cK Nd.pu _ _)
end Go.VL
end
section
namespace Go.VL
open Go.Proofs
def EY (k:Nat) (e:List Nd) (out:List Str) (at_:Int) (bound:List Str):Option (List Str):=
 if 0<=at_ then (e[at_.toNat]?).bind fun n=>(nP k n).bind fun b=>cond b ((bM k bound n.text).bind fun c=>cond c (some out) (if(out.length+1)*16<=1099511627776 then some (out++[n.text])else none)) (some out)else none
def aq8 (e:List Nd) (o0 o1:Nat) (out:List Str) (H:AH):Prop:=o0<H.next/\o1<H.next/\o0≠o1/\H.obj o0=some [gN e]/\ ∃v ids,H.obj o1=some [v]/\aG H aF 1 out v ids/\o0∉ids/\o1∉ids
theorem aiT (k:Nat) (e:List Nd) (o0 o1:Nat):Visit 242 [.ref o0 0,.ref o1 0] (aq8 e o0 o1) (EY k e) where
 stable:=by
  rintro a H H' ⟨h1,h2,h3,h4,v,ids,h5,h6,h7,h8⟩ hn ho hc;exact⟨by omega,by omega,h3,(ho _).trans h4,v,ids,(ho _).trans h5,h6.hf (M:=[]) ⟨hn,fun i _ _=>ho i⟩ (fun _ _ h=>by cases h),h7,h8⟩
 call:=by
  rintro a at_ bound a' H ⟨h1,h2,h3,h4,v,ids,h5,h6,h7,h8⟩ h
  unfold EY at h;by_cases e1:0<=at_
  case neg=>rw [if_neg e1]at h;cases h
  rw [if_pos e1]at h;cases e2:e[at_.toNat]? with
  |none=>rw [Cz e2]at h;cases h
  |some n=>
  rw [CB e2]at h;cases e3:nP k n with
  |none=>rw [Cz e3]at h;cases h
  |some b=>
  rw [CB e3]at h;refine aM aBo (by simp) (aJ ?_);unfold apT;simp -implicitDefEqProofs only [go_sem,h4,e1,e2,List.getElem?_map,Option.map_some];refine au (Ry e3) ?_;cases b with
  |false=>
   rw [pI rfl]at h;cases h;simp -implicitDefEqProofs only [go_sem,h4,e1,e2,List.getElem?_map,Option.map_some];exact⟨h1,h2,h3,h4,v,ids,h5,h6,h7,h8⟩
  |true=>
   rw [wX rfl]at h;cases e4:bM k bound n.text with
   |none=>rw [Cz e4]at h;cases h
   |some c=>
   rw [CB e4]at h;simp -implicitDefEqProofs only [go_sem,h4,e1,e2,List.getElem?_map,Option.map_some];refine au (iL e4) ?_;cases c with
   |true=>
    rw [wX rfl]at h;cases h;simp -implicitDefEqProofs only [go_sem,h4,e1,e2,List.getElem?_map,Option.map_some];exact⟨h1,h2,h3,h4,v,ids,h5,h6,h7,h8⟩
   |false=>
    rw [pI rfl]at h;by_cases e5:(a.length+1)*16<=1099511627776
    case neg=>rw [if_neg e5]at h;cases h
    rw [if_pos e5]at h;cases h;simp -implicitDefEqProofs only [go_sem,h4,e1,e2,List.getElem?_map,Option.map_some];refine jI ?_;simp -implicitDefEqProofs only [go_sem,h4,h5,e1,e2,List.getElem?_map,Option.map_some];refine JX (f:=aF) lC a [n.text] .exact aH h6 aH (by simp) (by simpa using e5) (fun v' gK H' g1 g2 g3 g4=> ?_);have k0:H'.obj o0=some [gN e]:=(g3.2 o0 h1 h7).trans h4;have k1:H'.obj o1=some [v]:=(g3.2 o1 h2 h8).trans h5;have n0: ¬o0∈gK:=fun hm=>by
     rcases g2 o0 hm with q|q
     · exact h7 q
     · omega
    have n1: ¬o1∈gK:=fun hm=>by
     rcases g2 o1 hm with q|q
     · exact h8 q
     · omega
    have g1':=g1;rcases g1 with⟨_,q,_⟩|⟨id,cap,junk,rfl,rfl,q1,q2,q3,q4⟩
    · simp at q
    · have hid:id≠o1:=fun e=>n1 (by rw [e];exact List.mem_singleton.2 rfl);simp -implicitDefEqProofs only [go_sem,dO,k1,Nat.le_refl];refine⟨Nat.lt_of_lt_of_le h1 g3.1,Nat.lt_of_lt_of_le h2 g3.1,h3,?_,_,[id],?_,g1'.put n1,n0,n1⟩
      · show(if o0=o1 then _ else H'.obj o0)=_
        rw [if_neg h3];exact k0
      · show(if o1=o1 then _ else H'.obj o1)=_
        rw [if_pos rfl]
end Go.VL
end
section
namespace Go.VL
open Go.Proofs Go.RowKit
section
variable {B:Nat->Prop} {G:Gh} {H:AH} {w w':World}
theorem HM.putRow (hM:HM B H G w) {id b:Nat} {cs cs':List PV} {arr:Array Value} {t:TypeId} (d:Array (List UInt8)) (n:Nat) (os:Array Obj) (ho:H.obj id=some cs) (hm:G.m id=some b) (hb:w.heap[b]? =some (.cells arr t (0,0)))
 (hV:Vs G H.next cs' (Sort.putCells encStr 0 d arr)):HM B (H.put id cs') G (Sort.grow (Sort.putRow encStr (Sort.ahead w n) b 0 d) os)/\Tr B w (Sort.grow (Sort.putRow encStr (Sort.ahead w n) b 0 d) os):=by
 obtain⟨h1,h2⟩:=hM.putObj ho hm hb hV;have hh:(Sort.putRow encStr (Sort.ahead w n) b 0 d).heap=(w.setRow b (Sort.putCells encStr 0 d arr)).heap:=by
  apply Array.ext_getElem?
  intro k;by_cases hk:k=b
  · subst hk;rw [setRow_heap w k arr _ t (0,0) hb];show(w.heap.modify k _)[k]? =_;rw [Array.getElem?_modify,if_pos rfl,hb];rfl
  · rw [setRow_other w b k _ hk];show(w.heap.modify b _)[k]? =_;rw [Array.getElem?_modify,if_neg (Ne.symm hk)]
 have hB:Below (w.setRow b (Sort.putCells encStr 0 d arr)).heap.size (w.setRow b (Sort.putCells encStr 0 d arr)) (Sort.grow (Sort.putRow encStr (Sort.ahead w n) b 0 d) os):=by
  refine⟨rfl,rfl,rfl,?_,fun k hk=> ?_⟩
  · rw [Sort.size_grow,hh];exact Nat.le_add_right _ _
  · rw [<-hh]at hk⊢;rw [Sort.heap_grow_old _ _ hk]
 exact⟨h1.below hB,(Tr.setRow h2 _).trans (Tr.below hB)⟩
theorem aCo {n:Nat} {s:List UInt8} {v:Value} (h:V G n (.str s) v):v= .string ⟨s.toArray⟩:=by cases h;rfl
theorem aq9 {n id off len cap sz:Nat} {v:Value} (h:V G n (.bO id off len cap sz) v): ∃b,id<n/\G.m id=some b/\v= .slice (some ⟨b,off,none⟩) len cap:=by
 cases h with
 |bO _ _ _ _ _ b h1 h2=>exact⟨b,h1,h2,rfl⟩
theorem F8 (l:List Str):(l.map aF).flatten=l.map PV.str:=by
 induction l with
 |nil=>rfl
 |cons s l ih=>rw [List.map_cons,List.flatten_cons,ih];rfl
theorem Z6 {l:List Str} {junk:List PV} {arr:Array Value} {b:Nat} {t:TypeId} (hb:w.heap[b]? =some (.cells arr t (0,0))) (hV:Vs G H.next ((l.map aF).flatten++junk) arr):Sort.Holds encStr w b 0 l.toArray:=by
 intro j hj;have hj':j<l.length:=by simpa using hj
 have hlt:j<arr.size:=by rw [hV.1,List.length_append,F8,List.length_map];omega
 have hv:=aCo (hV.2 j (.str l[j]) arr[j] (by rw [F8,List.getElem?_append_left (by simpa using hj')];simp [hj']) (by simp [hlt]));refine⟨?_,?_⟩
 · have:arr[j]? =some arr[j]:=by simp [hlt]
   simp only [World.cell?,hb,Nat.zero_add,this,hv];simp [encStr,hj']
 · simp [World.frozen?,hb]
theorem ala {n:Nat} {l m:List Str} {junk:List PV} {arr:Array Value} (hl:m.length=l.length) (hV:Vs G n ((l.map aF).flatten++junk) arr):Vs G n ((m.map aF).flatten++junk) (Sort.putCells encStr 0 m.toArray arr):=by
 rw [F8]at hV⊢;have hs:=hV.1;rw [List.length_append,List.length_map]at hs;refine⟨by simp [Sort.putCells,hs,hl],fun j c x hc hx=> ?_⟩;simp only [Sort.putCells,Array.getElem?_mapIdx,Option.map_eq_some_iff]at hx;obtain⟨y,hy,rfl⟩:=hx;by_cases hj:j<m.length
 · rw [List.getElem?_append_left (by simpa using hj)]at hc;simp [hj]at hc;subst hc;have h2:0<=j/\j<0+m.toArray.size:=by simpa using hj
   rw [if_pos h2];simp [encStr,hj];exact .str _
 · have h2: ¬(0<=j/\j<0+m.toArray.size):=by simp;omega
   rw [if_neg h2];rw [List.getElem?_append_right (by simp;omega),List.length_map,hl]at hc;refine hV.2 j c y ?_ hy;rw [List.getElem?_append_right (by simp;omega),List.length_map];exact hc
end
def Kn (l:List Str):List Str:=l.mergeSort fun x y=>decide (x<=y)
theorem ayI {H:AH} {l:List Str} {v:PV} {ids:List Nat} (h:aG H aF 1 l v ids) (hl:l.length<4611686018427387904):bg Tryz.prog 243 [v] H fun _ H'=>aG H' aF 1 (Kn l) v ids/\HF ids H H'/\ ∀c,bf H c->bf H' c:=by
 refine⟨⟨_,Tryz.func243,rfl,by kernel_rfl⟩,fun B G w vs hU hM hv=> ?_⟩;obtain⟨u,rfl,hu⟩: ∃u,vs=#[u]/\V G H.next v u:=by
  obtain⟨h1,h2⟩:=hv
  match vs,h1,h2 with
  |⟨[u]⟩,_,h2=>exact⟨u,rfl,h2 0 v u rfl rfl⟩
 rcases h with⟨rfl,rfl,rfl⟩|⟨id,cap,junk,rfl,rfl,h2,h3,h4,h5⟩
 · rw [abm hu];refine(Tryz.slices_Sort_string_none none 0 w).mono ?_;rintro e w' ⟨rfl,rfl⟩;exact⟨.dn [],_,H,G,rfl,Tr.refl _ _,Ext.refl _ _ _,Nat.le_refl _,hM,.dn [] #[] rfl (fun j c x e=>by simp at e),.inl ⟨rfl,by simp [Kn],rfl⟩,HF.refl _ _,fun _ h=>h⟩
 · obtain⟨b,_,hm,rfl⟩:=aq9 hu;obtain⟨_,b',arr,t,k1,k2,k3,k4,k5⟩:=hM.obj id _ h4;obtain rfl:b'=b:=by rw [hm]at k1;exact(Option.some.inj k1).symm
   have hlt:=hM.lt k3;refine(Tryz.slices_Sort_string b' 0 cap l w (Z6 k3 k4) hlt hl).mono ?_;rintro e w' ⟨rfl,n,os,rfl⟩;have hlen:(Kn l).length=l.length:=List.length_mergeSort _;obtain⟨e1,e2⟩:=hM.putRow (cs':=((Kn l).map aF).flatten++junk) (Kn l).toArray n os h4 hm k3 (ala hlen k4);refine⟨.dn [],_,H.put id (((Kn l).map aF).flatten++junk),G,rfl,e2,Ext.refl _ _ _,Nat.le_refl _,e1,.dn [] #[] rfl (fun j c x e=>by simp at e),.inr ⟨id,cap,junk,rfl,by rw [hlen],by rw [hlen];exact h2,h3,?_,by rw [hlen];exact h5⟩,HF.put (.inl (List.mem_singleton.2 rfl)) (HF.refl _ _),fun c hc=>hc.put⟩;show(if id=id then some _ else _)=_;rw [if_pos rfl]
theorem aiU (l:List Str):(Lib.compact l).length<=l.length:=Lib.compact_length_le l
theorem aiV {H:AH} {l:List Str} {v:PV} {ids:List Nat} (h:aG H aF 1 l v ids) (hl:l.length<4611686018427387904):bg Tryz.prog 244 [v] H fun r H'=>aG H' aF 1 (Lib.compact l) r ids/\HF ids H H'/\ ∀c,bf H c->bf H' c:=by
 refine⟨⟨_,Tryz.func244,rfl,by kernel_rfl⟩,fun B G w vs hU hM hv=> ?_⟩;obtain⟨u,rfl,hu⟩: ∃u,vs=#[u]/\V G H.next v u:=by
  obtain⟨h1,h2⟩:=hv
  match vs,h1,h2 with
  |⟨[u]⟩,_,h2=>exact⟨u,rfl,h2 0 v u rfl rfl⟩
 rcases h with⟨rfl,rfl,rfl⟩|⟨id,cap,junk,rfl,rfl,h2,h3,h4,h5⟩
 · rw [abm hu];refine(Tryz.slices_Compact_string_empty none 0 w).mono ?_;rintro e w' ⟨rfl,rfl⟩;exact⟨.ah [] .nil,_,H,G,rfl,Tr.refl _ _,Ext.refl _ _ _,Nat.le_refl _,hM,abm hu▸hu,.inl ⟨rfl,rfl,rfl⟩,HF.refl _ _,fun _ h=>h⟩
 · obtain⟨b,_,hm,rfl⟩:=aq9 hu;obtain⟨_,b',arr,t,k1,k2,k3,k4,k5⟩:=hM.obj id _ h4;obtain rfl:b'=b:=by rw [hm]at k1;exact(Option.some.inj k1).symm
   refine(Tryz.slices_Compact_string b' 0 cap l w (Z6 k3 k4) (by omega) h2).mono ?_;rintro e w' ⟨rfl,q,rfl⟩;have hc:=aiU l;have hlen:(Lib.compact l++List.replicate (l.length -(Lib.compact l).length) []).length=l.length:=by rw [List.length_append,List.length_replicate];omega
   obtain⟨e1,e2⟩:=hM.putRow (cs':=((Lib.compact l++List.replicate (l.length -(Lib.compact l).length) []).map aF).flatten++junk) (Lib.compact l++List.replicate (l.length -(Lib.compact l).length) []).toArray q #[] h4 hm k3 (ala hlen k4);rw [Sort.grow_empty]at e1 e2;refine⟨.bO id 0 (Lib.compact l).length cap 1,_,H.put id (((Lib.compact l++List.replicate (l.length -(Lib.compact l).length) []).map aF).flatten++junk),G,rfl,e2,Ext.refl _ _ _,Nat.le_refl _,e1,.bO _ _ _ _ _ b' h3 hm,.inr ⟨id,cap,(List.replicate (l.length -(Lib.compact l).length) ([]:Str)).map PV.str++junk,rfl,rfl,by omega,h3,?_,?_⟩,HF.put (.inl (List.mem_singleton.2 rfl)) (HF.refl _ _),fun c hc=>hc.put⟩
   · show(if id=id then some _ else _)=_
     rw [if_pos rfl,F8,List.map_append,F8,List.append_assoc]
   · rw [List.length_append,List.length_map,List.length_replicate,h5];omega
end Go.VL
end
section
namespace Go.VL
open Go.Proofs
def Ee (k:Nat) (e:List Nd):Option (List Str):=
 (zY (EY k e) e k (IntKind.wrap .i64 ((e.length:Int) -1)) [] []).bind fun out=>if out.length<4611686018427387904 then some (Nc out)else none
theorem an2 (k:Nat) (e:List Nd) {c:Ck} {r:List Str} (h:Ee k e=some r):aD Tryz.prog 193 [.ah (e.map Nd.cells) c] (.ah (r.map aF) .unk):=by
 refine aD.wk (args:=[gN e]) ?_ (.ah .nil);refine aD.bH (dA.mem (.cons (bE Nd.pu _) .nil)) (aM aAY (by simp) (aJ ?_)) (bE gJ _);unfold Ee at h;cases e1:zY (EY k e) e k (IntKind.wrap .i64 ((e.length:Int) -1)) [] []with
 |none=>rw [Cz e1]at h;cases h
 |some out=>
 rw [CB e1]at h;by_cases e2:out.length<4611686018427387904
 case neg=>rw [if_neg e2]at h;cases h
 rw [if_pos e2]at h;have h:=Option.some.inj h;subst h;unfold apt;simp -implicitDefEqProofs only [go_sem];have hS:aq8 e (AH.empty.next) (AH.empty.next+1) [] ((AH.empty.new [gN e]).new [.ah [] .nil]):=by
  refine⟨(show 0<2 by omega),(show 1<2 by omega),by decide,rfl,.ah [] .nil,[],rfl,aG.nil,List.not_mem_nil,List.not_mem_nil⟩
 refine bg.mono (bg.wk (ayB (aiT k e _ _) e k _ [] [] out _ hS e1) (.same (.same (.ah (.same .nil))))) fun r H1 hS1=> ?_;obtain⟨h1,h2,h3,h4,v,ids,h5,h6,h7,h8⟩:=hS1;simp -implicitDefEqProofs only [go_sem,h5];refine bg.mono (ayI h6 e2) fun r2 H2 ⟨g1,g2,g3⟩=> ?_;have h5':H2.obj (AH.empty.next+1)=some [v]:=(g2.2 _ h2 h8).trans h5;simp -implicitDefEqProofs only [go_sem,h5'];refine bg.mono (aiV g1 (by rw [show(Kn out).length=out.length from List.length_mergeSort _];exact e2)) fun r3 H3 ⟨f1,f2,f3⟩=> ?_;simp -implicitDefEqProofs only [go_sem];have hc:Lib.compact (Kn out)=Nc out:=adz out;rw [<-hc];exact f1.fz gJ
end Go.VL
end
section
namespace Go.VL
open Tm
def adF (e:List Nd) (R:Nat) (bd:List Str):Prop:= ∃P j,Ev (fun k=>qD k e (R:Int)) (P,j)/\ ∀out:List Str,out.length<=34*R->Ev (fun k=>qc k e out P j) (bd++out)
section
variable {t0:Tm} {e:List Nd} (he:e=flat 0 t0) (hL:oz e) (hF:Bv e)
include he hL hF
theorem as9:adF e (t0.size -1) []:=by
 have hs:=t0.size_pos;refine⟨-1,0,AQ (ts:=[t0]) (by rw [zh];exact he) hL (by rw [he,bG];omega) ?_,fun out _=>Ev.succ ?_⟩
 · rw [Kk];cases t0 with
   |mk x cs=>
    rw [vG,show(Tm.mk x cs).size -1=(fV 0 ((0+sizes cs:Nat):Int) 0 cs).length by rw [fq];simp only [size];omega,List.getElem?_concat_length]
 · simp only [qc];exact Ev.cF (by rfl) Ev.some
theorem ayJ {b:Nat} {bd:List Str} {x:Nd} {l m:List Tm} {c:Tm} (hS:Seg e b (.mk x (l++c::m))) (hU:adF e (b+sizes (l++c::m)) bd):adF e (b+sizes l+c.size -1) (bd++zZ (nd x b (l++c::m)) l.length):=by
 have hn:=hS.node;have hlt:=(List.getElem?_eq_some_iff.1 hn).1;have Ea:=hF.few _ _ hn;have hbl:=Qa Ea.2 l.length;have hcp:=c.size_pos;have hsz:sizes (l++c::m)=sizes l+(c.size+sizes m):=by rw [dJ,sizes]
 obtain⟨P,j,hP,hout⟩:=hU;have ha:(nd x b (l++c::m)).args[l.length]? =some ((b+sizes l+c.size -1:Nat):Int):=F6;obtain⟨r,h1,h2,h3⟩:=UZ 0 [t0] (b+sizes (l++c::m)) (nd x b (l++c::m)) l.length _ (by rw [zh,<-he];exact hn) ha;obtain rfl:r=b+sizes l+c.size -1:=by omega
 refine⟨_,_,AQ (ts:=[t0]) (by rw [zh];exact he) hL (by omega) h3,fun out ho=>Ev.succ ?_⟩;simp only [qc,Nat.zero_add];refine Ev.cT (decide_eq_true (by omega)) (Ev.lg (by omega) ?_);simp only [Int.toNat_natCast,hn,Option.bind_some];rw [Og (hF.ok _ _ hn) (by omega)];simp only [Option.bind_some,List.nil_append,List.length_nil,Nat.zero_add];refine Ev.lg (by omega) (Ev.lg (by have:=hF.len;omega) (Ev.bind hP ((hout _ ?_).to ?_)))
 · rw [List.length_append];omega
 · rw [List.append_assoc]
mutual
theorem Z7: ∀(t:Tm) (b:Nat) (bd:List Str),Seg e b t->adF e (b+t.size -1) bd->bd.length+34*(b+t.size -1)<=10000-> ∀v∈vis b bd t,Ev (fun k=>zi k e (v.1:Int)) v.2/\v.2.length<=10000/\v.1<e.length
 | .mk x cs,b,bd,hS,hU,hb,v,hv=>by
  have hsz:b+(Tm.mk x cs).size -1=b+sizes cs:=by simp only [size];omega
  rw [hsz]at hb hU;rw [Wx,List.mem_cons]at hv;rcases hv with rfl|hv
  · refine⟨?_,(show bd.length<=10000 by omega),(List.getElem?_eq_some_iff.1 hS.node).1⟩;obtain⟨P,j,hP,hout⟩:=hU;unfold zi;refine Ev.bind hP (Ev.bind (hout [] (Nat.zero_le _)) (Ev.some' ?_));rw [List.append_nil]
  · exact WC cs x [] b bd hS hU (by simp only [List.nil_append];omega) v hv
theorem WC: ∀(cs:List Tm) (x:Nd) (l:List Tm) (b:Nat) (bd:List Str),Seg e b (.mk x (l++cs))->adF e (b+sizes (l++cs)) bd->bd.length+34*(b+sizes (l++cs))<=10000->
 ∀v∈EX (b+sizes l) bd (nd x b (l++cs)) l.length cs,Ev (fun k=>zi k e (v.1:Int)) v.2/\v.2.length<=10000/\v.1<e.length
 |[],x,l,b,bd,hS,hU,hb,v,hv=>by rw [EX]at hv;cases hv
 |c::cs,x,l,b,bd,hS,hU,hb,v,hv=>by
  have hn:=hS.node;have hbl:=Qa (hF.few _ _ hn).2 l.length;have hcp:=c.size_pos;have hsz:sizes (l++c::cs)=sizes l+(c.size+sizes cs):=by rw [dJ,sizes]
  rw [Km,List.mem_append]at hv;rcases hv with hv|hv
  · exact Z7 c _ _ hS.kid (ayJ he hL hF hS hU) (by rw [hsz]at hb;rw [List.length_append];omega) v hv
  · have e1:l++c::cs=(l++[c])++cs:=by simp
    have e2:l.length+1=(l++[c]).length:=by simp
    have e3:b+sizes l+c.size=b+sizes (l++[c]):=by rw [dJ,rD];omega
    rw [e1,e2,e3]at hv;rw [e1]at hS hU hb;exact WC cs x (l++[c]) b bd hS hU hb v hv
end
end
mutual
theorem agX: ∀(t:Tm) (b:Nat) (bd:List Str) (i:Nat),b<=i->i<b+t.size-> ∃q,(i,q)∈vis b bd t
 | .mk x cs,b,bd,i,h1,h2=>by
  rw [Wx];by_cases h:i=b+sizes cs
  · exact⟨bd,by rw [h];exact List.mem_cons_self⟩
  · simp only [size]at h2;obtain⟨q,hq⟩:=adG cs b bd (nd x b cs) 0 i h1 (by omega);exact⟨q,List.mem_cons_of_mem _ hq⟩
theorem adG: ∀(cs:List Tm) (b:Nat) (bd:List Str) (n:Nd) (j:Nat) (i:Nat),b<=i->i<b+sizes cs-> ∃q,(i,q)∈EX b bd n j cs
 |[],b,bd,n,j,i,h1,h2=>by simp only [sizes]at h2;omega
 |c::cs,b,bd,n,j,i,h1,h2=>by
  rw [Km];simp only [sizes]at h2;by_cases h:i<b+c.size
  · obtain⟨q,hq⟩:=agX c b (bd++zZ n j) i h1 h;exact⟨q,List.mem_append_left _ hq⟩
  · obtain⟨q,hq⟩:=adG cs (b+c.size) bd n (j+1) i (by omega) (by omega);exact⟨q,List.mem_append_right _ hq⟩
end
mutual
theorem agY: ∀(t:Tm) (b:Nat) (bd:List Str),(vis b bd t).length=t.size
 | .mk x cs,b,bd=>by rw [Wx,List.length_cons,adH cs];rfl
theorem adH: ∀(cs:List Tm) (b:Nat) (bd:List Str) (n:Nd) (j:Nat),(EX b bd n j cs).length=sizes cs
 |[],b,bd,n,j=>by rw [EX];rfl
 |c::cs,b,bd,n,j=>by rw [Km,List.length_append,agY c,adH cs];rfl
end
def kR (n:Nd):Bool:=(decide (n.kind=2)&& !vo n.text)||(decide (n.kind=3)&& !(dL eG n.text).2)
theorem Qd (n:Nd):Ev (fun k=>nP k n) (kR n):=by
 unfold nP kR;refine Ev.bind (xZ n.text) ?_;rw [Pv];by_cases h:n.kind=2
 · refine Ev.cT (by rw [h];rfl) ?_;simp only [h,decide_true,Bool.true_and,Option.bind_some];cases vo n.text
   · exact Ev.cF rfl (Ev.some' rfl)
   · exact Ev.cT rfl (Ev.cF (by rfl) (Ev.some' rfl))
 · refine Ev.cF (by rw [beq_eq_false_iff_ne];exact h) ?_;simp only [h,decide_false,Bool.false_and,Bool.false_or];by_cases h2:n.kind=3
   · exact Ev.cT (by rw [h2];rfl) (Ev.some' (by simp [h2]))
   · exact Ev.cF (by rw [beq_eq_false_iff_ne];exact h2) (Ev.some' (by simp [h2]))
theorem WI {n:Nd} (h0:bV true n=0) (hl:n.text.length<=1000000):Ev (fun k=>zL k n) (kR n):=by
 unfold zL kR;rw [Dn];by_cases h:n.kind=2
 · refine Ev.cT (by rw [h];rfl) ?_;simp only [h,decide_true,Bool.true_and,Option.bind_some];cases vo n.text
   · exact Ev.cF rfl (Ev.some' rfl)
   · exact Ev.cT rfl (Ev.cF (by rfl) (Ev.some' rfl))
 · refine Ev.cF (by rw [beq_eq_false_iff_ne];exact h) ?_;simp only [h,decide_false,Bool.false_and,Bool.false_or];by_cases h2:n.kind=3
   · refine Ev.cT (by rw [h2];rfl) (Ev.bind (Fy _ (by omega)) (Ev.some' ?_));rw [adq h0 h2];simp [h2]
   · exact Ev.cF (by rw [beq_eq_false_iff_ne];exact h2) (Ev.some' (by simp [h2]))
def qZ (e:List Nd) (v:Nat×List Str):Option Str:=match e[v.1]? with
 |some n=>if(kR n&& !decide (n.text∈v.2))=true then some n.text else none
 |none=>none
theorem adI {e:List Nd}: ∀(l:List (Nat×List Str)) (out:List Str),(∀v∈l,v.2.length<=10000/\v.1<e.length)->out.length+l.length<=10000->Ev (fun k=>D9 (EY k e) l out) (out++l.filterMap (qZ e))
 |[],out,h,hb=>Ev.some' (by simp)
 |v::l,out,h,hb=>by
  obtain⟨h1,h2⟩:=h v List.mem_cons_self;rw [List.length_cons]at hb;have ih:=fun o=>adI l o (fun w hw=>h w (List.mem_cons_of_mem _ hw));have hf:qZ e v=if(kR e[v.1]&& !decide (e[v.1].text∈v.2))=true then some e[v.1].text else none:=by unfold qZ;rw [aW h2]
  simp only [D9];refine Ev.bind (x:=out++(qZ e v).toList) ?_ ?_
  · unfold EY;simp only [nn,if_true,Int.toNat_natCast,aW h2,Option.bind_some];refine Ev.bind (Qd _) ?_;rw [hf];cases kR e[v.1]
    · exact Ev.cF rfl (Ev.some' (by simp))
    · refine Ev.cT rfl (Ev.bind (sP _ _ (by omega)) ?_);by_cases h3:e[v.1].text∈v.2
      · exact Ev.cT (decide_eq_true h3) (Ev.some' (by simp [h3]))
      · refine Ev.cF (decide_eq_false h3) (Ev.lg (by omega) (Ev.some' (by simp [h3])))
  · have hl:(qZ e v).toList.length<=1:=by cases qZ e v<;>simp
    refine(ih _ (by rw [List.length_append];omega)).to ?_;rw [List.filterMap_cons,List.append_assoc];cases qZ e v<;>rfl
end Go.VL
end
