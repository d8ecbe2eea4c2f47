/- Part 7. -/
import Derived.Test.YthebklihgmhgoaaGreatDoorKh6
import Derived.Test.YthebklihgmhgoaaGreatDoorRows
import Derived.RangeFuncOwn
import Derived.TacticsIn
import Derived.TacticsInMore
import Derived.LoopIn
import Derived.Walk
import Derived.WalkKit
import Derived.KernelRfl
import Derived.OwnWalk
import Derived.Laws.AppendOwn
import Derived.Lib.SliceRun
import Derived.Lib.Walk
set_option maxRecDepth 8000
set_option linter.unusedVariables false
set_option linter.unusedSectionVars false
set_option linter.unusedSimpArgs false
section
set_option maxHeartbeats 4000000
namespace Go.VL
open Go.Proofs
def nO:Nat->(List Nd)->Int->Int->Int->Int->Str->(List Str)->(List Int)->Int->Option ((Int×Int×Str×(List Str)×(List Int)))
  |0,_,_,_,_,_,_,_,_,_=>none
  |k+1,aG,jY,jq,FX,FY,FZ,F3,BI,lN=>
    if 0<=jq then Option.bind (aG[jq.toNat]?) fun x10=>cond (decide (lN<(x10.args.length:Int))) (if 0<=lN then Option.bind (x10.args[lN.toNat]?) fun x14=>if(BI.length+1)*8<=1099511627776 then nO k aG jY jq FX FY FZ F3 (BI++[(IntKind.wrap .i64 (x14 -jY))]) (IntKind.wrap .i64 (lN+1))else none else none) (some ((FX,FY,FZ,F3,BI)))else none
def Qw:List Nat:=[9]++List.range' 28 25
theorem aaq: ∀(k:Nat) (Av:Nat) (aG:List Nd) (jY:Int) (jq:Int) (FX:Int) (FY:Int) (FZ:Str) (F3:List Str) (BI:List Int) (lN:Int) (sK:Ck) (kJ:Ck) (aC σ:Nat->PV) (H0 H:AH) (f0:Fr Qw aC σ) (hf0:HF [Av] H0 H) (sl:σ 0=(.aB (aG.map Nd.cells) .unk)/\σ 5=(.int .i64 jY)/\σ 7=(.int .i64 jq)/\σ 8=(.ref (Av) 0)/\σ 9=(.int .i64 lN)/\H.obj Av=some [(.int .i64 FX),(.int .i64 FY),(.str FZ),(.aB (F3.map aX) .unk),(.aB (BI.map aY) sK)]) (Mg:Av<H.next) (Zk:cB H sK) (FT:cB H kJ) (rz:nZ sK kJ) (o:(Int×Int×Str×(List Str)×(List Int))) (h:nO k aG jY jq FX FY FZ F3 BI lN=some o) (Q:Post) (q0: ∀(p:Int×Int×Str×(List Str)×(List Int)) (c4:Ck) (σ':Nat->PV) (H':AH),o=p->Fr Qw aC σ'->HF [Av] H0 H'->(H'.obj Av=some [(.int .i64 p.1),(.int .i64 p.2.1),(.str p.2.2.1),(.aB (p.2.2.2.1.map aX) .unk),(.aB (p.2.2.2.2.map aY) c4)])->cB H' kJ->Q (.exit 2) σ' H'),W Tryz.prog (.loop RS) Q σ H:=by
  intro k
  induction k with
  |zero=>intro Av aG jY jq FX FY FZ F3 BI lN sK kJ aC σ H0 H f0 hf0 sl Mg Zk FT rz o h Q q0;simp only [nO,reduceCtorEq]at h
  |succ k ih=>
    intro Av aG jY jq FX FY FZ F3 BI lN sK kJ aC σ H0 H f0 hf0 sl Mg Zk FT rz o h Q q0;obtain⟨s0,s5,s7,s8,s9,at7⟩:=sl;have aua:=ne_next Mg;have aub:=aS Mg;have hle0:=hf0.1;unfold nO at h;refine aV (fun K hK=>aD ?_);unfold RS;obtain⟨e9,h⟩:=aO h;obtain⟨x10,e11,h⟩:=aj h;rcases av h with⟨e12,h⟩|⟨e12,h⟩
    ·try refine ah ?_
     refine eF ?_;obtain⟨e13,h⟩:=aO h;obtain⟨x14,e15,h⟩:=aj h;obtain⟨e20,h⟩:=aO h;try refine ah ?_
     refine ku (f:=aY) DN BI ([(IntKind.wrap .i64 (x14 -jY))]:List Int) sK .exact au au fE (by first|exact e20|(simp only [List.length_cons,List.length_nil];exact e20)) (fun c16 H17 akJ le atA atB=> ?_);have atC:HF [] _ H17:=⟨le,fun i _ _=>atA i⟩;try simp only [AH.aI,AH.aJ,AH.aL,AH.aM]at le
     obtain⟨afu,atD⟩:=atB kJ fE rz;have n25:=ne_next (show Av<H17.next by first|omega|(simp only [AH.aI,AH.aJ,AH.aL,AH.aM];omega));have m26:=aS (show Av<H17.next by first|omega|(simp only [AH.aI,AH.aJ,AH.aL,AH.aM];omega));try refine ah ?_
     refine hK _ _ ?_;exact ih Av aG jY jq FX FY FZ F3 (BI++[(IntKind.wrap .i64 (x14 -jY))]) (IntKind.wrap .i64 (lN+1)) c16 kJ _ _ _ _ aN (by repeat (first|exact hf0|refine HF.new ?_|refine HF.eG ?_|refine HF.used ?_|refine HF.put (by first|(right;omega)|(left;simp only [List.mem_cons,true_or,or_true])) ?_|refine HF.via atC (by first|exact fun i hi=>absurd hi List.not_mem_nil|(intro i hi;simp only [List.mem_cons,List.not_mem_nil,or_false]at hi⊢;first|exact .inl hi|omega)) ?_)) au bO fE fE atD _ h _ q0
    ·obtain rfl:=ak h;try refine ah ?_
     exact q0 _ sK _ _ rfl aN (by repeat (first|exact hf0|refine HF.new ?_|refine HF.eG ?_|refine HF.used ?_|refine HF.put (by first|(right;omega)|(left;simp only [List.mem_cons,true_or,or_true])) ?_)) au fE
def ql:Nat->(List Nd)->Int->Int->(List Nd)->Int->Option (List Nd)
  |0,_,_,_,_,_=>none
  |k+1,aG,fA,jY,Aw,jq=>
    cond (decide (jq<=fA)) (if 0<=jq then Option.bind (aG[jq.toNat]?) fun x5=>Option.bind (iZ x5.names) fun p8=>Option.bind (nO k aG jY jq x5.kind x5.n x5.text p8 ([]:List Int) 0) (fun p29=>if(Aw.length+1)*80<=1099511627776 then ql k aG fA jY (Aw++[(Nd.mk p29.1 p29.2.1 p29.2.2.1 p29.2.2.2.1 p29.2.2.2.2)]) (IntKind.wrap .i64 (jq+1))else none)else none) (some (Aw))
def Qx:List Nat:=[6,7,8,9]++List.range' 14 43
theorem aar: ∀(k:Nat) (aG:List Nd) (fA:Int) (jY:Int) (Aw:List Nd) (jq:Int) (qm:Ck) (aC σ:Nat->PV) (H0 H:AH) (f0:Fr Qx aC σ) (hf0:HF [] H0 H) (sl:σ 0=(.aB (aG.map Nd.cells) .unk)/\σ 1=(.int .i64 fA)/\σ 5=(.int .i64 jY)/\σ 6=(.aB (Aw.map Nd.cells) qm)/\σ 7=(.int .i64 jq)) (Zl:cB H qm) (o:List Nd) (h:ql k aG fA jY Aw jq=some o) (Q:Post) (q0: ∀(p:List Nd) (c0:Ck) (σ':Nat->PV) (H':AH),o=p->Fr Qx aC σ'->HF [] H0 H'->(σ' 6=(.aB (p.map Nd.cells) c0))->Q (.exit 0) σ' H'),W Tryz.prog (.loop RU) Q σ H:=by
  intro k
  induction k with
  |zero=>intro aG fA jY Aw jq qm aC σ H0 H f0 hf0 sl Zl o h Q q0;simp only [ql,reduceCtorEq]at h
  |succ k ih=>
    intro aG fA jY Aw jq qm aC σ H0 H f0 hf0 sl Zl o h Q q0;obtain⟨s0,s1,s5,s6,s7⟩:=sl;have hle0:=hf0.1;unfold ql at h;refine aV (fun K hK=>aD ?_);unfold RU;rcases av h with⟨e3,h⟩|⟨e3,h⟩
    ·obtain⟨e4,h⟩:=aO h;obtain⟨x5,e6,h⟩:=aj h;obtain⟨p8,e7,h⟩:=aj h;try refine ah ?_
     refine aA (vk e7) ?_;try refine ah ?_
     obtain⟨o27,h28,h⟩:=aj h;refine aaq k (H.next) aG jY jq x5.kind x5.n x5.text p8 ([]:List Int) 0 .nil qm _ _ _ _ (Fr.refl _ _) (HF.refl _ _) au bO fE fE nZ.nil _ h28 _ ?_
     ·rintro p29 c33 σ' H32 eo Gd an3 g34 akW;rw [eo]at h;have s36:σ' 0=(.aB (aG.map Nd.cells) .unk):=(Gd 0 (by decide)).trans au;have s37:σ' 1=(.int .i64 fA):=(Gd 1 (by decide)).trans au;have s38:σ' 5=(.int .i64 jY):=(Gd 5 (by decide)).trans au;have s39:σ' 6=(.aB (Aw.map Nd.cells) qm):=(Gd 6 (by decide)).trans au;have s40:σ' 7=(.int .i64 jq):=(Gd 7 (by decide)).trans au;have s41:σ' 8=(.ref (H.next) 0):=(Gd 8 (by decide)).trans au;have le:=an3.1;try simp only [AH.aI,AH.aJ,AH.aL,AH.aM]at le
      have n43:=ne_next (show H.next<H32.next by first|omega|(simp only [AH.aI,AH.aJ,AH.aL,AH.aM];omega));have m44:=aS (show H.next<H32.next by first|omega|(simp only [AH.aI,AH.aJ,AH.aL,AH.aM];omega));obtain⟨e49,h⟩:=aO h;try refine ah ?_
      refine ku (f:=Nd.cells) Nd.row Aw ([(Nd.mk p29.1 p29.2.1 p29.2.2.1 p29.2.2.2.1 p29.2.2.2.2)]:List Nd) qm .exact au au fE (by first|exact e49|(simp only [List.length_cons,List.length_nil];exact e49)) (fun c45 H46 ak8 le atE ax0=> ?_);have YG:HF [] _ H46:=⟨le,fun i _ _=>atE i⟩;try simp only [AH.aI,AH.aJ,AH.aL,AH.aM]at le
      have n52:=ne_next (show H.next<H46.next by first|omega|(simp only [AH.aI,AH.aJ,AH.aL,AH.aM];omega));have m53:=aS (show H.next<H46.next by first|omega|(simp only [AH.aI,AH.aJ,AH.aL,AH.aM];omega));try refine ah ?_
      refine hK _ _ ?_;exact ih aG fA jY (Aw++[(Nd.mk p29.1 p29.2.1 p29.2.2.1 p29.2.2.2.1 p29.2.2.2.2)]) (IntKind.wrap .i64 (jq+1)) c45 _ _ _ _ (by repeat (first|exact f0|refine Fr.upd (by decide) ?_|refine Fr.via Gd (by decide) ?_)) (by repeat (first|exact hf0|refine HF.new ?_|refine HF.eG ?_|refine HF.used ?_|refine HF.put (by first|(right;omega)|(left;simp only [List.mem_cons,true_or,or_true])) ?_|refine HF.via an3 (by first|exact fun i hi=>absurd hi List.not_mem_nil|(intro i hi;simp only [List.mem_cons,List.not_mem_nil,or_false]at hi⊢;first|exact .inl hi|omega)) ?_|refine HF.via YG (by first|exact fun i hi=>absurd hi List.not_mem_nil|(intro i hi;simp only [List.mem_cons,List.not_mem_nil,or_false]at hi⊢;first|exact .inl hi|omega)) ?_)) au fE _ h _ q0
    ·obtain rfl:=ak h;try refine ah ?_
     exact q0 _ qm _ _ rfl aN (by repeat (first|exact hf0|refine HF.new ?_|refine HF.eG ?_|refine HF.used ?_|refine HF.put (by first|(right;omega)|(left;simp only [List.mem_cons,true_or,or_true])) ?_)) au
def La (k:Nat) (aG:List Nd) (fA:Int):Option (List Nd):=
  Option.bind (qR k aG fA) fun p2=>Option.bind (ql k aG fA p2 ([]:List Nd) p2) (fun p56=>some p56)
theorem agS {k:Nat} {aG:List Nd} {fA:Int} {c0:Ck} {r:List Nd} (h:La k aG fA=some r):aF Tryz.prog 62 [(.aB (aG.map Nd.cells) c0),(.int .i64 fA)] (.aB (r.map Nd.cells) .unk):=by
  refine aF.lw (.aB (.same .nil)) (aF.aP (bg.mem (.cons (aU Nd.pu _) (.cons (.int _ _) .nil))) (aH arH (by simp) (aD ?_)) (aU Nd.pu _));unfold La at h;unfold aln;obtain⟨p2,e1,h⟩:=aj h;try refine ah ?_
  refine aA (FE e1) ?_;try refine ah ?_
  obtain⟨o54,h55,h⟩:=aj h;refine aar k aG fA p2 ([]:List Nd) p2 .nil _ _ _ _ (Fr.refl _ _) (HF.refl _ _) au fE _ h55 _ ?_
  ·rintro p56 c60 σ' H59 eo ax1 agt s61;rw [eo]at h;have le:=agt.1;try simp only [AH.aI,AH.aJ,AH.aL,AH.aM]at le
   obtain rfl:=ak h;try refine ah ?_
   exact(dN Nd.pu _ _)
def Cn (k:Nat) (aG:List Nd) (bW:Int):Option (List Nd):=
  Option.bind (G5 aG) fun p2=>if 0<=bW then Option.bind (p2.args[bW.toNat]?) fun x4=>Option.bind (La k aG x4) fun p7=>some p7 else none
theorem aas {k:Nat} {aG:List Nd} {bW:Int} {c0:Ck} {r:List Nd} (h:Cn k aG bW=some r):aF Tryz.prog 22 [(.aB (aG.map Nd.cells) c0),(.int .i64 bW)] (.aB (r.map Nd.cells) .unk):=by
  refine aF.lw (.aB (.same .nil)) (aF.aP (bg.mem (.cons (aU Nd.pu _) (.cons (.int _ _) .nil))) (aH akN (by simp) (aD ?_)) (aU Nd.pu _));unfold Cn at h;unfold akM;obtain⟨p2,e1,h⟩:=aj h;try refine ah ?_
  refine aA (Yc e1) ?_;obtain⟨e3,h⟩:=aO h;obtain⟨x4,e5,h⟩:=aj h;obtain⟨p7,e6,h⟩:=aj h;try refine ah ?_
  refine aA (agS e6) ?_;obtain rfl:=ak h;try refine ah ?_
  exact(dN Nd.pu _ _)
end Go.VL
end
section
namespace Go.VL
open Go.Proofs Go.RowKit
theorem ajI {α:Type} {H:AH} {f g:α->List PV} {sz:Nat} {l:List α} {v:PV} {ids:List Nat} [hr:rR f sz] (h:aK H f sz l v ids) (hg: ∀x,(g x).length=sz) (hz: ∀x∈l,∀(j:Nat) (c c':PV),(f x)[j]? =some c->(g x)[j]? =some c'->Fz H c c'):Fz H v (.aB (l.map g) .unk):=by
  have h0:=h;rcases h with⟨rfl,rfl,_⟩|⟨id,cap,junk,rfl,rfl,h2,h3,h4,h5⟩
  · exact .aB [] [] .nil .unk (.inl rfl) rfl (fun i cs cs' e=>by simp at e) (fun i cs cs' e=>by simp at e)
  · refine .dh id 0 l.length cap sz _ _ (fun i j=>((l.map f)[i]?.bind (·[j]?)).getD .any) h4 (by simp) h2 (fun i cs e=> ?_) (fun i cs e j c ec=> ?_) (fun i cs e j c ec=> ?_)
    · simp only [List.getElem?_map,Option.map_eq_some_iff]at e;obtain⟨x,_,rfl⟩:=e;exact hg x
    · simp only [List.getElem?_map,Option.map_eq_some_iff]at e;obtain⟨x,hx,rfl⟩:=e;obtain⟨id',C,e1,_,e2,e3,_⟩:=h0.content hx;cases e1;rw [h4]at e2;cases e2;have hj:j<(f x).length:=by rw [hr.len x,<-hg x];exact(List.getElem?_eq_some_iff.1 ec).1
      rw [List.getElem?_map,hx,Option.map_some,Option.bind_some,List.getElem?_eq_getElem hj,Option.getD_some,Nat.zero_add];exact e3 j _ (List.getElem?_eq_getElem hj)
    · simp only [List.getElem?_map,Option.map_eq_some_iff]at e;obtain⟨x,hx,rfl⟩:=e;have hj:j<(f x).length:=by rw [hr.len x,<-hg x];exact(List.getElem?_eq_some_iff.1 ec).1
      rw [List.getElem?_map,hx,Option.map_some,Option.bind_some,List.getElem?_eq_getElem hj,Option.getD_some];exact hz x (List.mem_of_getElem? hx) j _ _ (List.getElem?_eq_getElem hj) ec
end Go.VL
end
section
namespace Go.VL
open Tm
def Zm (d:Int) (n:Nd):Nd:={n with args:=n.args.map (·-d)}
theorem Zn (d:Nat): ∀(cs:List Tm) (b:Nat),(roots (b+d) cs).map (·-(d:Int))=roots b cs
  |[],b=>rfl
  |c::cs,b=>by
    have h:=Zn d cs (b+c.size);have hp:=size_pos c;rw [roots,roots,List.map_cons,show b+d+c.size=b+c.size+d by omega,h];congr 1
    omega
theorem apJ (d:Nat) (x:Nd) (b:Nat) (cs:List Tm):Zm d (nd x (b+d) cs)=nd x b cs:=by
  unfold Zm nd;simp only [Zn]
mutual
theorem abg (d:Nat): ∀(t:Tm) (b:Nat),(flat (b+d) t).map (Zm d)=flat b t
  | .mk x cs,b=>by rw [iJ,iJ,List.map_append,OE d cs b,List.map_cons,List.map_nil,apJ]
theorem OE (d:Nat): ∀(cs:List Tm) (b:Nat),(bL (b+d) cs).map (Zm d)=bL b cs
  |[],b=>by rw [bL,bL];rfl
  |c::cs,b=>by
    rw [gK,gK,List.map_append,abg d c b,show b+d+c.size=b+c.size+d by omega,OE d cs (b+c.size)]
end
section
variable {e:List Nd} (hlen:e.length<=1000000)
include hlen
theorem Qy: ∀(t:Tm) (b:Nat),Seg e b t->Ev (fun k=>lT k e ((b+t.size -1:Nat):Int)) (.inl (b:Int))
  | .mk x [],b,h=>by
    have hn:=h.node;have e1:b+(Tm.mk x []).size -1=b:=by simp [size,sizes]
    simp only [sizes,Nat.add_zero]at hn;rw [e1];refine Ev.succ ?_;simp only [lT,nn,if_true,Int.toNat_natCast,hn,Option.bind_some];exact Ev.cF (by simp [nd,roots]) Ev.some
  | .mk x (c::cs),b,h=>by
    have hn:=h.node;have hlt:=h.lt;have hp:=size_pos c;have hk:Seg e (b+sizes []) c:=h.kid (l:=[]);simp only [sizes,Nat.add_zero]at hk;have ih:=Qy c b hk;have e1:b+(Tm.mk x (c::cs)).size -1=b+sizes (c::cs):=by simp only [size];omega
    have hs:sizes (c::cs)=c.size+sizes cs:=by simp only [sizes]
    simp only [size]at hlt;have e2:(nd x b (c::cs)).args=((b+c.size -1:Nat):Int)::roots (b+c.size) cs:=by unfold nd;simp only [roots]
    rw [e1];refine Ev.succ ?_;simp only [lT,nn,if_true,Int.toNat_natCast,hn,Option.bind_some,e2,List.getElem?_cons_zero,jT];refine Ev.cT (by simp<;>omega) (Ev.cT ?_ ih);rw [wrap64 (by omega) (by omega)];exact decide_eq_true ⟨trivial,by omega⟩
theorem Lb {t:Tm} {b:Nat} (h:Seg e b t):Ev (fun k=>qR k e ((b+t.size -1:Nat):Int)) (b:Int):=by
  unfold qR;refine Ev.cF (decide_eq_false (by omega)) (Ev.bind (Qy hlen t b h) ?_);simp only [bT];exact Ev.some
theorem Zo {aT:Int} (hf:0<=aT/\aT<=1000000) {i:Nat} {n:Nd} (hn:e[i]? =some n) (ha:n.args.length<=1000) (hr: ∀a∈n.args,-1000000<=a/\a<=1000000) (nm:List Str):
    Ev (fun k=>nO k e aT (i:Int) n.kind n.n n.text nm [] 0) (n.kind,n.n,n.text,nm,n.args.map (·-aT)):=by
  have key:Ev (fun k=>nO k e aT (i:Int) n.kind n.n n.text nm ((n.args.take 0).map (·-aT)) ((0:Nat):Int)) (n.kind,n.n,n.text,nm,n.args.map (·-aT)):=by
    refine mH (len:=n.args.length) (p:=fun j=>Ev (fun k=>nO k e aT (i:Int) n.kind n.n n.text nm ((n.args.take j).map (·-aT)) (j:Int)) (n.kind,n.n,n.text,nm,n.args.map (·-aT))) ?_ fun j hj ih=> ?_
    · refine Ev.succ ?_;simp only [nO,nn,if_true,Int.toNat_natCast,hn,Option.bind_some];exact Ev.cF (kV _) (Ev.some' (by rw [List.take_length]))
    · have h1:=hr _ (List.getElem_mem hj);refine Ev.succ ?_;simp only [nO,nn,if_true,Int.toNat_natCast,hn,Option.bind_some,mZ hj,cond_true,bM hj,fK hj (show n.args.length<=1099511627776 by omega)];rw [wrap64 (x:=n.args[j] -aT) (by omega) (by omega)];refine Ev.kg (by simp;omega) ?_
      have e1:(n.args.take (j+1)).map (·-aT)=(n.args.take j).map (·-aT)++[n.args[j] -aT]:=by rw [List.take_succ_eq_append_getElem hj,List.map_append];rfl
      rw [<-e1];exact ih
  exact key
theorem aat (hnd: ∀(i:Nat) n,e[i]? =some n->n.names.length<=1000/\n.args.length<=1000/\ ∀a∈n.args,-1000000<=a/\a<=1000000) {t:Tm} {b:Nat} (h:Seg e b t):Ev (fun k=>La k e ((b+t.size -1:Nat):Int)) (flat 0 t):=by
  have hlt:=h.lt;have hp:=size_pos t;obtain⟨pre,post,he,hpre⟩:=h;have hget: ∀j,j<t.size->e[b+j]? =(flat b t)[j]? :=fun j hj=>by
    rw [he,List.getElem?_append_right (by omega),hpre,show b+j -b=j by omega,List.getElem?_append_left (by rw [bV];exact hj)]
  have hfl:=abg b t 0;rw [Nat.zero_add]at hfl;have key:Ev (fun k=>ql k e ((b+t.size -1:Nat):Int) (b:Int) ((flat 0 t).take 0) ((b+0:Nat):Int)) (flat 0 t):=by
    refine mH (len:=t.size) (p:=fun j=>Ev (fun k=>ql k e ((b+t.size -1:Nat):Int) (b:Int) ((flat 0 t).take j) ((b+j:Nat):Int)) (flat 0 t)) ?_ fun j hj ih=> ?_
    · refine Ev.succ ?_;simp only [ql];exact Ev.cF (decide_eq_false (by omega)) (Ev.some' (by rw [List.take_of_length_le (by rw [bV];exact Nat.le_refl _)]))
    · have hj0:j<(flat 0 t).length:=by rw [bV];exact hj
      have hj1:j<(flat b t).length:=by rw [bV];exact hj
      have hn:e[b+j]? =some (flat b t)[j]:=by rw [hget j hj,bM hj1]
      have e0:(flat 0 t)[j]=Zm b (flat b t)[j]:=by
        have:=congrArg (·[j]?) hfl
        simp only [List.getElem?_map,bM hj1,bM hj0,Option.map_some,Option.some.injEq]at this;exact this.symm
      obtain⟨g1,g2,g3⟩:=hnd _ _ hn;have e2:iZ (flat b t)[j].names=some (flat b t)[j].names:=by
        unfold iZ;rw [if_pos (by simp;omega)];rfl
      have hw:IntKind.wrap .i64 (((b+j:Nat):Int)+1)=((b+(j+1):Nat):Int):=by rw [wrap64 (by omega) (by omega)];omega
      refine Ev.succ ?_;simp only [ql,hw];refine Ev.cT (decide_eq_true (by omega)) (Ev.kg (by omega) ?_);simp only [Int.toNat_natCast,hn,Option.bind_some,e2];refine Ev.bind (Zo hlen ⟨by omega,by omega⟩ hn g2 g3 _) (Ev.kg (by rw [List.length_take];omega) ?_);rw [List.take_succ_eq_append_getElem hj0,e0]at ih;exact ih
  unfold La;exact Ev.bind (Lb hlen ⟨pre,post,he,hpre⟩) (Ev.bind key Ev.some)
end
theorem Vg (x:Nd) (cs:List Tm) (h:sizes cs<=1000000):G5 (flat 0 (.mk x cs))=some (nd x 0 cs):=by
  have hn:=(Seg.whole (.mk x cs)).node;rw [Nat.zero_add]at hn;have hl:(flat 0 (.mk x cs)).length=sizes cs+1:=by rw [bV];simp [size]
  unfold G5;have hw:IntKind.wrap .i64 (((flat 0 (.mk x cs)).length:Int) -1)=(sizes cs:Int):=by rw [hl,wrap64 (by omega) (by omega)];omega
  simp only [hw,nn,if_true,Int.toNat_natCast,hn,Option.bind_some]
theorem Zp: ∀(cs:List Tm) (b:Nat) (a:Int),a∈roots b cs->0<=a/\a<=b+sizes cs
  |[],b,a,h=>by rw [roots]at h;cases h
  |c::cs,b,a,h=>by
    rw [roots,List.mem_cons]at h;simp only [sizes];rcases h with rfl|h
    · omega
    · have:=Zp cs _ a h;omega
mutual
theorem F4: ∀(t:Tm) (b:Nat) (n:Nd),n∈flat b t-> ∀a∈n.args,0<=a/\a<=b+t.size
  | .mk x cs,b,n,h,a,ha=>by
    rw [iJ,List.mem_append,List.mem_singleton]at h;simp only [size];rcases h with h|rfl
    · have:=Qz cs b n h a ha;omega
    · have:=Zp cs b a ha;omega
theorem Qz: ∀(cs:List Tm) (b:Nat) (n:Nd),n∈bL b cs-> ∀a∈n.args,0<=a/\a<=b+sizes cs
  |[],b,n,h,a,ha=>by rw [bL]at h;cases h
  |c::cs,b,n,h,a,ha=>by
    rw [gK,List.mem_append]at h;simp only [sizes];rcases h with h|h
    · have:=F4 c b n h a ha;omega
    · have:=Qz cs _ n h a ha;omega
end
theorem Ur {x:Nd} {cs l m:List Tm} {c:Tm} (hcs:cs=l++c::m) (hs:sizes cs<=1000) (hnd: ∀(i:Nat) n,(flat 0 (.mk x cs))[i]? =some n->n.names.length<=1000/\n.args.length<=1000/\ ∀a∈n.args,-1000000<=a/\a<=1000000):
    Ev (fun k=>Cn k (flat 0 (.mk x cs)) (l.length:Int)) (flat 0 c):=by
  subst hcs;have hk:Seg (flat 0 (.mk x (l++c::m))) (0+sizes l) c:=(Seg.whole _).kid;rw [Nat.zero_add]at hk;have ha:(nd x 0 (l++c::m)).args[l.length]? =some ((sizes l+c.size -1:Nat):Int):=by
    unfold nd;have:=Cb (b:=0) (l:=l) (m:=m) (c:=c);rw [Nat.zero_add]at this;exact this
  unfold Cn;simp only [Vg x _ (show sizes (l++c::m)<=1000000 by omega),Option.bind_some,nn,if_true,Int.toNat_natCast,ha];exact Ev.bind (aat (by rw [bV];simp only [size];omega) hnd hk) Ev.some
theorem agT {i:Nat} (h:i<=1099511627776):IntKind.wrap .i64 ((i:Int)+1)=((i+1:Nat):Int):=by rw [wrap64 (by omega) (by omega)];omega
def F5 (d:Int) (n:Nd):Nd:={n with args:=n.args.map (·+d)}
theorem Vh (d:Nat): ∀(cs:List Tm) (b:Nat),(roots b cs).map (·+(d:Int))=roots (b+d) cs
  |[],b=>rfl
  |c::cs,b=>by
    have:=c.size_pos;rw [roots,roots,List.map_cons,Vh d cs,show b+c.size+d=b+d+c.size by omega];congr 1
    omega
mutual
theorem I7 (d:Nat): ∀(t:Tm) (b:Nat),(flat b t).map (F5 d)=flat (b+d) t
  | .mk x cs,b=>by
    rw [iJ,iJ,List.map_append,Lc d cs b,List.map_cons,List.map_nil];congr 2
    unfold F5 nd;simp only;rw [Vh d cs b]
theorem Lc (d:Nat): ∀(cs:List Tm) (b:Nat),(bL b cs).map (F5 d)=bL (b+d) cs
  |[],b=>rfl
  |c::cs,b=>by rw [gK,gK,List.map_append,I7 d c b,Lc d cs (b+c.size),show b+c.size+d=b+d+c.size by omega]
end
theorem Vi: ∀(cs:List Tm) (b:Nat),∀a∈roots b cs,0<=a/\a<((b+sizes cs:Nat):Int)
  |[],b,a,h=>by cases h
  |c::cs,b,a,h=>by
    have:=c.size_pos;rw [roots]at h;rw [sizes];rcases List.mem_cons.1 h with rfl|h
    · omega
    · have:=Vi cs (b+c.size) a h;omega
mutual
theorem Zq: ∀(t:Tm) (b:Nat),∀n∈flat b t,∀a∈n.args,0<=a/\a<((b+t.size:Nat):Int)
  | .mk x cs,b,n,hn,a,ha=>by
    rw [iJ]at hn;simp only [size];rcases List.mem_append.1 hn with h|h
    · have:=Vj cs b n h a ha;omega
    · rw [List.mem_singleton.1 h]at ha;have:=Vi cs b a ha;omega
theorem Vj: ∀(cs:List Tm) (b:Nat),∀n∈bL b cs,∀a∈n.args,0<=a/\a<((b+sizes cs:Nat):Int)
  |[],b,n,hn,a,ha=>by cases hn
  |c::cs,b,n,hn,a,ha=>by
    rw [gK]at hn;rw [sizes];rcases List.mem_append.1 hn with h|h
    · have:=Zq c b n h a ha;omega
    · have:=Vj cs (b+c.size) n h a ha;omega
end
theorem JI {l:List Str} (h:l.length<=1000000):iZ l=some l:=by
  unfold iZ;rw [if_pos (by simp;omega)];rfl
theorem Zr {aT:Int} (hf:0<=aT/\aT<=1000000) (p q:Int) (r:Str) (ns:List Str) (xs:List Int) (hx: ∀a∈xs,0<=a/\a<=1000000) (hl:xs.length<=1000000): ∀(m j:Nat) (done:List Int),j+m=xs.length->done.length+m<=1000000->
    Ev (fun k=>rF k aT p q r ns xs done (j:Int)) (done++(xs.drop j).map (·+aT)):=by
  intro m
  induction m with
  |zero=>
    intro j done hj hd;refine Ev.succ ?_;simp only [rF];refine Ev.cF (decide_eq_false (by omega)) (Ev.some' ?_);rw [List.drop_of_length_le (by omega)];simp
  |succ m ih=>
    intro j done hj hd;have hjl:j<xs.length:=by omega
    have hb:=hx xs[j] (List.getElem_mem hjl);refine Ev.succ ?_;simp only [rF,Int.toNat_natCast];refine Ev.cT (decide_eq_true (by omega)) (Ev.kg (by omega) (Ev.jh (bM hjl) (Ev.kg (by omega) ?_)));rw [agT (by omega),wrap64 (by omega) (by omega)];refine(ih (j+1) _ (by omega) (by simp;omega)).to ?_;rw [List.drop_eq_getElem_cons hjl,List.append_assoc];rfl
theorem Zt {aT:Int} (hf:0<=aT/\aT<=1000000) {ops:List (List Nd)} {i:Nat} {x:List Nd} (hi:ops[i]? =some x) (hx: ∀n∈x,n.names.length<=1000000/\n.args.length<=1000000/\ ∀a∈n.args,0<=a/\a<=1000000) (hl:x.length<=1000000): ∀(m j:Nat) (out:List Nd),j+m=x.length->out.length+m<=1000000->
    Ev (fun k=>rG k ops out (i:Int) aT (j:Int)) (out++(x.drop j).map (F5 aT)):=by
  intro m
  induction m with
  |zero=>
    intro j out hj hd;refine Ev.succ ?_;simp only [rG,Int.toNat_natCast];refine Ev.kg (by omega) (Ev.jh hi (Ev.cF (decide_eq_false (by omega)) (Ev.some' ?_)));rw [List.drop_of_length_le (by omega)];simp
  |succ m ih=>
    intro j out hj hd;have hjl:j<x.length:=by omega
    obtain⟨h1,h2,h3⟩:=hx x[j] (List.getElem_mem hjl);refine Ev.succ ?_;simp only [rG,Int.toNat_natCast];refine Ev.kg (by omega) (Ev.jh hi (Ev.cT (decide_eq_true (by omega)) (Ev.kg (by omega) (Ev.jh (bM hjl) (Ev.jh (JI h1) ?_)))));refine Ev.bind (Zr hf _ _ _ _ x[j].args h3 h2 x[j].args.length 0 [] (by omega) (by simp;omega)) (Ev.kg (by omega) ?_);rw [agT (by omega)];refine(ih (j+1) _ (by omega) (by simp;omega)).to ?_;rw [List.drop_eq_getElem_cons hjl,List.append_assoc];rfl
theorem Zu (cs:List Tm) (hs:sizes cs<=1000) (hcl:cs.length<=1000) (hnm: ∀c∈cs,∀n∈flat 0 c,n.names.length<=1000000/\n.args.length<=1000000) (p q:Int) (r:Str) (ns:List Str): ∀(m i:Nat),i+m=cs.length->
    Ev (fun k=>rH k (cs.map (flat 0)) (bL 0 (cs.take i)) p q r ns (roots 0 (cs.take i)) (i:Int)) (bL 0 cs,p,q,r,ns,roots 0 cs):=by
  intro m
  induction m with
  |zero=>
    intro i hi;refine Ev.succ ?_;simp only [rH,List.length_map];refine Ev.cF (decide_eq_false (by omega)) (Ev.some' ?_);rw [List.take_of_length_le (by omega)]
  |succ m ih=>
    intro i hi;have hil:i<cs.length:=by omega
    have hc:=(cs[i]).size_pos;have hsz:sizes cs=sizes (cs.take i)+(cs[i].size+sizes (cs.drop (i+1))):=by
      conv=>lhs;rw [<-List.take_append_drop i cs,List.drop_eq_getElem_cons hil,dU,sizes]
    refine Ev.succ ?_;simp only [rH,List.length_map];refine Ev.cT (decide_eq_true (by omega)) ?_;have hget:(cs.map (flat 0))[i]? =some (flat 0 cs[i]):=by rw [List.getElem?_map,bM hil];rfl
    have hfl:(bL 0 (cs.take i)).length=sizes (cs.take i):=dW 0 _;rw [hfl];have hx: ∀n∈flat 0 cs[i],n.names.length<=1000000/\n.args.length<=1000000/\ ∀a∈n.args,0<=a/\a<=1000000:=fun n hn=>by
      obtain⟨h1,h2⟩:=hnm cs[i] (List.getElem_mem hil) n hn;exact⟨h1,h2,fun a ha=>by have:=Zq _ _ n hn a ha;omega⟩
    have h1:=Zt (aT:=((sizes (cs.take i):Nat):Int)) ⟨by omega,by omega⟩ hget hx (by rw [bV];omega) (flat 0 cs[i]).length 0 (bL 0 (cs.take i)) (by omega) (by rw [dW,bV];omega);rw [List.drop_zero,I7,Nat.zero_add]at h1;have et:bL 0 (cs.take (i+1))=bL 0 (cs.take i)++flat (sizes (cs.take i)) cs[i]:=by
      rw [List.take_succ_eq_append_getElem hil,vT,Cc,Nat.zero_add]
    have er:roots 0 (cs.take (i+1))=roots 0 (cs.take i)++[((sizes (cs.take i)+cs[i].size -1:Nat):Int)]:=by
      rw [List.take_succ_eq_append_getElem hil,Ah,U0,Nat.zero_add]
    refine Ev.bind h1 (Ev.kg (by rw [qd,List.length_take];omega) ?_)
    rw [<-et,agT (by omega),wrap64 (by rw [dW];omega) (by
      rw [et,List.length_append,dW,bV];omega)]
    have el:((bL 0 (cs.take (i+1))).length:Int) -1=((sizes (cs.take i)+cs[i].size -1:Nat):Int):=by rw [et,List.length_append,dW,bV];omega
    rw [el,<-er];exact ih (i+1) (by omega)
theorem aeD (x:Nd) (cs:List Tm) (hs:sizes cs<=1000) (hcl:cs.length<=1000) (hx:x.names.length<=1000000) (hnm: ∀c∈cs,∀n∈flat 0 c,n.names.length<=1000000/\n.args.length<=1000000):Ev (fun k=>H8 k x (cs.map (flat 0))) (flat 0 (.mk x cs)):=by
  unfold H8;refine Ev.jh (JI hx) ?_;have:=Zu cs hs hcl hnm x.kind x.n x.text x.names cs.length 0 (by omega);rw [List.take_zero]at this;refine Ev.bind this (Ev.kg (by rw [dW];omega) (Ev.some' ?_));rw [iJ];rfl
end Go.VL
end
section
namespace Go.VL
namespace Tm
mutual
def put:Tm->Nat->Tm->Tm
  | .mk x cs,p,s=>if p=sizes cs then s else .mk x (puts cs p s)
def puts:List Tm->Nat->Tm->List Tm
  |[],_,_=>[]
  |c::cs,p,s=>if p<c.size then put c p s::cs else c::puts cs (p -c.size) s
end
mutual
def I8:Tm->Nat->Tm
  | .mk x cs,p=>if p=sizes cs then .mk x cs else Dx cs p x
def Dx:List Tm->Nat->Nd->Tm
  |[],_,x=> .mk x []
  |c::cs,p,x=>if p<c.size then I8 c p else Dx cs (p -c.size) x
end
mutual
def Ay:Tm->Nat->Nat
  | .mk x cs,p=>if p=sizes cs then 0 else E5 cs p
def E5:List Tm->Nat->Nat
  |[],_=>0
  |c::cs,p=>if p<c.size then Ay c p else c.size+E5 cs (p -c.size)
end
mutual
theorem Us: ∀(t:Tm) (p:Nat),p<t.size->Ay t p+(I8 t p).size=p+1
  | .mk x cs,p,h=>by
    rw [Ay,I8];simp only [size]at h;by_cases hp:p=sizes cs
    · rw [if_pos hp,if_pos hp];simp only [size];omega
    · rw [if_neg hp,if_neg hp];exact OG cs p x (by omega)
theorem OG: ∀(cs:List Tm) (p:Nat) (x:Nd),p<sizes cs->E5 cs p+(Dx cs p x).size=p+1
  |[],p,x,h=>by simp [sizes]at h
  |c::cs,p,x,h=>by
    rw [E5,Dx];simp only [sizes]at h;by_cases hp:p<c.size
    · rw [if_pos hp,if_pos hp];exact Us c p hp
    · rw [if_neg hp,if_neg hp];have:=OG cs (p -c.size) x (by omega);omega
end
mutual
theorem abh {e:List Nd}: ∀(t:Tm) (b p:Nat),p<t.size->Seg e b t->Seg e (b+Ay t p) (I8 t p)
  | .mk x cs,b,p,h,hS=>by
    rw [Ay,I8];simp only [size]at h;by_cases hp:p=sizes cs
    · rw [if_pos hp,if_pos hp];exact hS
    · rw [if_neg hp,if_neg hp];have:=Zv cs [] x x b p (by omega) hS;simpa [sizes]using this
theorem Zv {e:List Nd}: ∀(cs l:List Tm) (x y:Nd) (b p:Nat),p<sizes cs->Seg e b (.mk y (l++cs))->Seg e (b+sizes l+E5 cs p) (Dx cs p x)
  |[],l,x,y,b,p,h,hS=>by simp [sizes]at h
  |c::cs,l,x,y,b,p,h,hS=>by
    rw [E5,Dx];simp only [sizes]at h;by_cases hp:p<c.size
    · rw [if_pos hp,if_pos hp];exact abh c _ p hp hS.kid
    · rw [if_neg hp,if_neg hp];have:=Zv cs (l++[c]) x y b (p -c.size) (by omega) (by simpa using hS);rw [dU]at this;simp only [sizes]at this;rw [show b+sizes l+(c.size+E5 cs (p -c.size))=b+(sizes l+(c.size+0))+E5 cs (p -c.size) by omega];exact this
end
mutual
theorem AO (s:Tm): ∀(t:Tm) (p:Nat),p<t.size->(put t p s).size+(I8 t p).size=t.size+s.size
  | .mk x cs,p,h=>by
    rw [put,I8];simp only [size]at h;by_cases hp:p=sizes cs
    · rw [if_pos hp,if_pos hp];omega
    · rw [if_neg hp,if_neg hp];have:=Ld s cs p x (by omega);simp only [size];omega
theorem Ld (s:Tm): ∀(cs:List Tm) (p:Nat) (x:Nd),p<sizes cs->sizes (puts cs p s)+(Dx cs p x).size=sizes cs+s.size
  |[],p,x,h=>by simp [sizes]at h
  |c::cs,p,x,h=>by
    rw [puts,Dx];simp only [sizes]at h;by_cases hp:p<c.size
    · rw [if_pos hp,if_pos hp];have:=AO s c p hp;simp only [sizes];omega
    · rw [if_neg hp,if_neg hp];have:=Ld s cs (p -c.size) x (by omega);simp only [sizes];omega
end
theorem Zw (s:Tm): ∀(cs:List Tm) (p:Nat),(puts cs p s).length=cs.length
  |[],p=>by rw [puts]
  |c::cs,p=>by
    rw [puts];by_cases hp:p<c.size
    · rw [if_pos hp];rfl
    · rw [if_neg hp,List.length_cons,List.length_cons,Zw s cs]
end Tm
open Tm
def QA (ab g a:Int):Int:=if ab<=a then a+g else a
def Le (ab g:Int) (n:Nd):Nd:={n with args:=n.args.map (QA ab g)}
theorem Nf (b1 b2:Nat): ∀(cs:List Tm),True-> ∀(d:Nat),(roots (b1+d) cs).map (·+((b2:Int) -b1))=roots (b2+d) cs
  |[],_,d=>rfl
  |c::cs,_,d=>by
    have h:=Nf b1 b2 cs trivial (d+c.size);have hp:=size_pos c;rw [roots,roots,List.map_cons,Nat.add_assoc,Nat.add_assoc,h];congr 1
    omega
theorem ajJ (a b:Int) (n:Nd):F5 b (Zm a n)=F5 (b -a) n:=by
  unfold F5 Zm;simp only [List.map_map];congr 2
  funext x
  simp only [Function.comp];omega
theorem Ng (b1 b2:Nat) (cs:List Tm):(bL b1 cs).map (F5 ((b2:Int) -b1))=bL b2 cs:=by
  have h1:=OE b1 cs 0;have h2:=Lc b2 cs 0;rw [Nat.zero_add]at h1 h2;rw [<-h2,<-h1,List.map_map];congr 1
  funext n
  exact(ajJ _ _ n).symm
theorem acP (b1 b2:Nat) (t:Tm):(flat b1 t).map (F5 ((b2:Int) -b1))=flat b2 t:=by
  have h:=Ng b1 b2 [t];simpa [bL]using h
theorem OH: ∀(cs:List Tm) (b:Nat),∀a∈roots b cs,(b:Int)<=a
  |[],b,a,h=>by rw [roots]at h;cases h
  |c::cs,b,a,h=>by
    have hp:=size_pos c;rw [roots,List.mem_cons]at h;rcases h with rfl|h
    · omega
    · have:=OH cs _ a h;omega
mutual
theorem ajK: ∀(t:Tm) (b:Nat),∀n∈flat b t,∀a∈n.args,(b:Int)<=a
  | .mk x cs,b,n,h,a,ha=>by
    rw [iJ,List.mem_append,List.mem_singleton]at h;rcases h with h|rfl
    · exact OI cs b n h a ha
    · exact OH cs b a ha
theorem OI: ∀(cs:List Tm) (b:Nat),∀n∈bL b cs,∀a∈n.args,(b:Int)<=a
  |[],b,n,h,a,ha=>by rw [bL]at h;cases h
  |c::cs,b,n,h,a,ha=>by
    rw [gK,List.mem_append]at h;rcases h with h|h
    · exact ajK c b n h a ha
    · have:=OI cs _ n h a ha;omega
end
theorem an5 {ab g:Int} {l:List Nd} (h: ∀n∈l,∀a∈n.args,ab<=a):l.map (Le ab g)=l.map (F5 g):=by
  refine List.map_congr_left fun n hn=> ?_;unfold Le F5;congr 1
  refine List.map_congr_left fun a ha=> ?_;unfold QA;rw [if_pos (h n hn a ha)]
theorem aau {ab g:Int} {l:List Int} (h: ∀a∈l,ab<=a):l.map (QA ab g)=l.map (·+g):=by
  refine List.map_congr_left fun a ha=> ?_;unfold QA;rw [if_pos (h a ha)]
theorem Vk (s:Tm): ∀(cs:List Tm) (b p:Nat),p<sizes cs->roots b (puts cs p s)=(roots b cs).map (QA ((b+p:Nat):Int) ((sizes (puts cs p s):Int) -sizes cs))
  |[],b,p,h=>by simp [sizes]at h
  |c::cs,b,p,h=>by
    simp only [sizes]at h;have hp1:=size_pos c;rw [puts];by_cases hp:p<c.size
    · rw [if_pos hp];have hp2:=size_pos (put c p s);have hi: ∀a∈roots b (c::cs),((b+p:Nat):Int)<=a:=by
        intro a ha;rw [roots,List.mem_cons]at ha;rcases ha with rfl|ha
        · omega
        · have:=OH cs _ a ha;omega
      rw [aau hi];simp only [sizes,roots,List.map_cons];have e2:=Nf (b+c.size) (b+(put c p s).size) cs trivial 0;simp only [Nat.add_zero]at e2;rw [<-e2];congr 1
      · omega
      · refine List.map_congr_left fun a ha=> ?_;omega
    · rw [if_neg hp];have ih:=Vk s cs (b+c.size) (p -c.size) (by omega);rw [show b+c.size+(p -c.size)=b+p by omega]at ih;simp only [sizes,roots,List.map_cons];rw [ih];congr 1
      · unfold QA;rw [if_neg (by omega)]
      · refine List.map_congr_left fun a ha=> ?_;unfold QA;split<;>omega
mutual
theorem OJ (s:Tm): ∀(t:Tm) (b p:Nat),p<t.size->flat b (put t p s)=(flat b t).take (Ay t p)++flat (b+Ay t p) s++((flat b t).drop (p+1)).map (Le ((b+p:Nat):Int) (((put t p s).size:Int) -t.size))
  | .mk x cs,b,p,h=>by
    rw [put,Ay];simp only [size]at h;by_cases hp:p=sizes cs
    · rw [if_pos hp,if_pos hp,List.drop_of_length_le (by rw [bV];simp only [size];omega)];simp
    · rw [if_neg hp,if_neg hp];have hlt:p<sizes cs:=by omega
      have ih:=Lf s cs b p hlt;have hr:=Vk s cs b p hlt;have hb:=OG cs p x hlt;have hsz:(((Tm.mk x (puts cs p s)).size:Int) -(Tm.mk x cs).size)=(sizes (puts cs p s):Int) -sizes cs:=by simp only [size];omega
      rw [hsz,iJ,iJ,ih,List.take_append_of_le_length (by rw [dW];omega),List.drop_append_of_le_length (by rw [dW];omega),List.map_append];simp only [List.append_assoc,List.map_cons,List.map_nil];congr 4
      unfold nd Le;simp only [hr]
theorem Lf (s:Tm): ∀(cs:List Tm) (b p:Nat),p<sizes cs->bL b (puts cs p s)=(bL b cs).take (E5 cs p)++flat (b+E5 cs p) s++((bL b cs).drop (p+1)).map (Le ((b+p:Nat):Int) ((sizes (puts cs p s):Int) -sizes cs))
  |[],b,p,h=>by simp [sizes]at h
  |c::cs,b,p,h=>by
    simp only [sizes]at h;have hp1:=size_pos c;rw [puts,E5];by_cases hp:p<c.size
    · rw [if_pos hp,if_pos hp];have ih:=OJ s c b p hp;have hb:=Us c p hp;have hsz:((sizes (put c p s::cs):Int) -sizes (c::cs))=((put c p s).size:Int) -c.size:=by simp only [sizes];omega
      have e2:=Ng (b+c.size) (b+(put c p s).size) cs;have e3:=an5 (ab:=((b+p:Nat):Int)) (g:=((put c p s).size:Int) -c.size) (l:=bL (b+c.size) cs) (fun n hn a ha=>by have:=OI cs _ n hn a ha;omega);have e4:(((b+(put c p s).size:Nat):Int) -((b+c.size:Nat):Int))=((put c p s).size:Int) -c.size:=by omega
      rw [e4]at e2;rw [hsz,gK,gK,ih,List.take_append_of_le_length (by rw [bV];omega),List.drop_append_of_le_length (by rw [bV];omega),List.map_append,e3,<-e2];simp only [List.append_assoc]
    · rw [if_neg hp,if_neg hp];have ih:=Lf s cs (b+c.size) (p -c.size) (by omega);rw [show b+c.size+(p -c.size)=b+p by omega]at ih;have hsz:((sizes (c::puts cs (p -c.size) s):Int) -sizes (c::cs))=(sizes (puts cs (p -c.size) s):Int) -sizes cs:=by simp only [sizes];omega
      have t1: ∀(F:List Nd) (x:Nat),(flat b c++F).take (c.size+x)=flat b c++F.take x:=fun F x=>by rw [<-bV b c];exact List.take_length_add_append x
      have t2: ∀(F:List Nd) (x:Nat),(flat b c++F).drop (c.size+x)=F.drop x:=fun F x=>by rw [<-bV b c];exact List.drop_length_add_append x
      rw [hsz,gK,gK,ih,t1,show p+1=c.size+(p -c.size+1) by omega,t2,Nat.add_assoc b];simp only [List.append_assoc]
end
end Go.VL
end
section
set_option maxHeartbeats 4000000
namespace Go.VL
open Go.Proofs
def JJ:List Nat:=[8,9,10,11]++List.range' 21 35
mutual
def jZ:Nat->(List Nd)->Int->(List Nd)->Int->Int->Str->(List Str)->(List Int)->(List (List Nd))->Int->Option (List (List Nd))
  |0,_,_,_,_,_,_,_,_,_,_=>none
  |k+1,aG,dI,jC,sM,sN,sO,sP,ow,F6,lN=>
    cond (decide (lN<(ow.length:Int))) (if 0<=lN then Option.bind (ow[lN.toNat]?) fun x8=>Option.bind (qR k aG x8) fun rC=>Option.bind (Cn k aG lN) fun qF=>Option.bind (gH dI rC x8) fun GN=>cond GN (Option.bind (qo k qF (IntKind.wrap .i64 (dI -rC)) jC) fun qQ=>if(F6.length+1)*24<=1099511627776 then jZ k aG dI jC sM sN sO sP ow (F6++[qQ]) (IntKind.wrap .i64 (lN+1))else none) (if(F6.length+1)*24<=1099511627776 then jZ k aG dI jC sM sN sO sP ow (F6++[qF]) (IntKind.wrap .i64 (lN+1))else none)else none) (some (F6))
def qo:Nat->(List Nd)->Int->(List Nd)->Option (List Nd)
  |0,_,_,_=>none
  |k+1,aG,dI,jC=>
    cond (dI==(IntKind.wrap .i64 ((aG.length:Int) -1))) (Option.bind (vo k jC) fun p3=>some p3) (Option.bind (G5 aG) fun p5=>Option.bind (jZ k aG dI jC p5.kind p5.n p5.text p5.names p5.args ([]:List (List Nd)) 0) (fun p39=>Option.bind (H8 k p5 p39) fun p50=>some p50))
end
mutual
theorem Ii (k:Nat): ∀(oz:Nat) (aG:List Nd) (dI:Int) (jC:List Nd) (sM:Int) (sN:Int) (sO:Str) (sP:List Str) (ow:List Int) (F6:List (List Nd)) (lN:Int) (yx:Ck) (aC σ:Nat->PV) (H0 H:AH) (f0:Fr JJ aC σ) (hf0:HF [] H0 H) (sl:σ 0=(.aB (aG.map Nd.cells) .unk)/\σ 1=(.int .i64 dI)/\σ 2=(.aB (jC.map Nd.cells) .unk)/\σ 7=(.ref (oz) 0)/\σ 8=(.aB (F6.map (y5 Nd.cells)) yx)/\σ 9=(.int .i64 lN)/\H.obj oz=some [(.int .i64 sM),(.int .i64 sN),(.str sO),(.aB (sP.map aX) .unk),(.aB (ow.map aY) .unk)]) (Dy:oz<H.next) (aeE:cB H yx) (o:List (List Nd)) (h:jZ k aG dI jC sM sN sO sP ow F6 lN=some o) (Q:Post) (q0: ∀(p:List (List Nd)) (c0:Ck) (σ':Nat->PV) (H':AH),o=p->Fr JJ aC σ'->HF [] H0 H'->(σ' 8=(.aB (p.map (y5 Nd.cells)) c0))->Q (.exit 0) σ' H'),W Tryz.prog (.loop Ro) Q σ H:=by
  match k with
  |0=>intro oz aG dI jC sM sN sO sP ow F6 lN yx aC σ H0 H f0 hf0 sl Dy aeE o h Q q0;rw [jZ]at h;cases h
  |k+1=>
    have ih:=Ii k;intro oz aG dI jC sM sN sO sP ow F6 lN yx aC σ H0 H f0 hf0 sl Dy aeE o h Q q0;obtain⟨s0,s1,s2,s7,s8,s9,apK⟩:=sl;have apL:=ne_next Dy;have apM:=aS Dy;have hle0:=hf0.1;rw [jZ]at h;refine aV (fun K hK=>aD ?_);unfold Ro;rcases av h with⟨e6,h⟩|⟨e6,h⟩
    ·obtain⟨e7,h⟩:=aO h;obtain⟨x8,e9,h⟩:=aj h;obtain⟨rC,e10,h⟩:=aj h;try refine ah ?_
     refine aA (FE e10) ?_;obtain⟨qF,e12,h⟩:=aj h;try refine ah ?_
     refine aA (aas e12) ?_;obtain⟨GN,e14,h⟩:=aj h;try refine ah ?_
     refine aA (gM e14) ?_;rcases av h with⟨e16,h⟩|⟨e16,h⟩
     ·obtain⟨qQ,e17,h⟩:=aj h;try refine ah ?_
      refine aA ((Nh k qF (IntKind.wrap .i64 (dI -rC)) jC _ e17).wk (.aB (.same (.aB .nil)))) ?_;obtain⟨e23,h⟩:=aO h;try refine ah ?_
      refine ku (f:=(y5 Nd.cells)) adA F6 ([qQ]:List (List Nd)) yx .exact au au fE (by first|exact e23|(simp only [List.length_cons,List.length_nil];exact e23)) (fun c19 H20 afu le atF ax2=> ?_);have atG:HF [] _ H20:=⟨le,fun i _ _=>atF i⟩;try simp only [AH.aI,AH.aJ,AH.aL,AH.aM]at le
      have n33:=ne_next (show oz<H20.next by first|omega|(simp only [AH.aI,AH.aJ,AH.aL,AH.aM];omega));have m34:=aS (show oz<H20.next by first|omega|(simp only [AH.aI,AH.aJ,AH.aL,AH.aM];omega));try refine ah ?_
      refine hK _ _ ?_;exact ih oz aG dI jC sM sN sO sP ow (F6++[qQ]) (IntKind.wrap .i64 (lN+1)) c19 _ _ _ _ aN (by repeat (first|exact hf0|refine HF.new ?_|refine HF.eG ?_|refine HF.used ?_|refine HF.put (by first|(right;omega)|(left;simp only [List.mem_cons,true_or,or_true])) ?_|refine HF.via atG (by first|exact fun i hi=>absurd hi List.not_mem_nil|(intro i hi;simp only [List.mem_cons,List.not_mem_nil,or_false]at hi⊢;first|exact .inl hi|omega)) ?_)) au bO fE _ h _ q0
     ·obtain⟨e30,h⟩:=aO h;try refine ah ?_
      refine ku (f:=(y5 Nd.cells)) adA F6 ([qF]:List (List Nd)) yx .exact au au fE (by first|exact e30|(simp only [List.length_cons,List.length_nil];exact e30)) (fun c26 MO ax3 le atH ax4=> ?_);have atI:HF [] _ MO:=⟨le,fun i _ _=>atH i⟩;try simp only [AH.aI,AH.aJ,AH.aL,AH.aM]at le
      have n35:=ne_next (show oz<MO.next by first|omega|(simp only [AH.aI,AH.aJ,AH.aL,AH.aM];omega));have m36:=aS (show oz<MO.next by first|omega|(simp only [AH.aI,AH.aJ,AH.aL,AH.aM];omega));try refine ah ?_
      refine hK _ _ ?_;exact ih oz aG dI jC sM sN sO sP ow (F6++[qF]) (IntKind.wrap .i64 (lN+1)) c26 _ _ _ _ aN (by repeat (first|exact hf0|refine HF.new ?_|refine HF.eG ?_|refine HF.used ?_|refine HF.put (by first|(right;omega)|(left;simp only [List.mem_cons,true_or,or_true])) ?_|refine HF.via atI (by first|exact fun i hi=>absurd hi List.not_mem_nil|(intro i hi;simp only [List.mem_cons,List.not_mem_nil,or_false]at hi⊢;first|exact .inl hi|omega)) ?_)) au bO fE _ h _ q0
    ·obtain rfl:=ak h;try refine ah ?_
     exact q0 _ yx _ _ rfl aN (by repeat (first|exact hf0|refine HF.new ?_|refine HF.eG ?_|refine HF.used ?_|refine HF.put (by first|(right;omega)|(left;simp only [List.mem_cons,true_or,or_true])) ?_)) au
theorem Nh (k:Nat): ∀(aG:List Nd) (dI:Int) (jC:List Nd) (r:List Nd) (h:qo k aG dI jC=some r),aF Tryz.prog 41 [(.aB (aG.map Nd.cells) .unk),(.int .i64 dI),(.aB (jC.map Nd.cells) .unk)] (.aB (r.map Nd.cells) .unk):=by
  match k with
  |0=>intro aG dI jC r h;rw [qo]at h;cases h
  |k+1=>
    intro aG dI jC r h;refine aF.aP (bg.mem (.cons (aU Nd.pu _) (.cons (.int _ _) (.cons (aU Nd.pu _) .nil)))) (aH ars (by simp) (aD ?_)) (aU Nd.pu _);rw [qo]at h;unfold ak4;rcases av h with⟨e1,h⟩|⟨e1,h⟩
    ·obtain⟨p3,e2,h⟩:=aj h;try refine ah ?_
     refine aA (Bv e2) ?_;obtain rfl:=ak h;try refine ah ?_
     exact(dN Nd.pu _ _)
    ·obtain⟨p5,e4,h⟩:=aj h;try refine ah ?_
     refine aA (Yc e4) ?_;try refine ah ?_
     obtain⟨o37,h38,h⟩:=aj h;refine Ii k (AH.empty.next) aG dI jC p5.kind p5.n p5.text p5.names p5.args ([]:List (List Nd)) 0 .nil _ _ _ _ (Fr.refl _ _) (HF.refl _ _) au bO fE _ h38 _ ?_
     ·rintro p39 c43 σ' H42 eo atJ an8 s44;rw [eo]at h;have s45:σ' 7=(.ref (AH.empty.next) 0):=(atJ 7 (by decide)).trans au;have le:=an8.1;try simp only [AH.aI,AH.aJ,AH.aL,AH.aM]at le
      have g46:H42.obj (AH.empty.next)=some [(.int .i64 p5.kind),(.int .i64 p5.n),(.str p5.text),(.aB (p5.names.map aX) .unk),(.aB (p5.args.map aY) .unk)]:=(an8.2 _ bO (by first|exact List.not_mem_nil|(simp only [List.mem_cons,List.not_mem_nil,or_false,not_or];omega))).trans au;have n47:=ne_next (show AH.empty.next<H42.next by first|omega|(simp only [AH.aI,AH.aJ,AH.aL,AH.aM];omega));have m48:=aS (show AH.empty.next<H42.next by first|omega|(simp only [AH.aI,AH.aJ,AH.aL,AH.aM];omega));obtain⟨p50,e49,h⟩:=aj h;try refine ah ?_
      refine aA (Y2 e49) ?_;obtain rfl:=ak h;try refine ah ?_
      exact(dN Nd.pu _ _)
end
theorem aav {k:Nat} {aG:List Nd} {dI:Int} {jC:List Nd} {c0 c2:Ck} {r:List Nd} (h:qo k aG dI jC=some r):aF Tryz.prog 41 [(.aB (aG.map Nd.cells) c0),(.int .i64 dI),(.aB (jC.map Nd.cells) c2)] (.aB (r.map Nd.cells) .unk):=(Nh k aG dI jC r h).wk (.aB (.same (.aB .nil)))
end Go.VL
end
section
namespace Go.VL
open Tm
def Mod (l:List Nd):Prop:= ∀n∈l,n.names.length<=1000/\n.args.length<=1000
theorem Mod.map {l:List Nd} {f:Nd->Nd} (h:Mod l) (hf: ∀n,(f n).names.length=n.names.length/\(f n).args.length=n.args.length):Mod (l.map f):=by
  intro n hn;obtain⟨m,hm,rfl⟩:=List.mem_map.1 hn;have:=h m hm;have:=hf m;omega
theorem Mod.app {l m:List Nd} (h:Mod l) (h':Mod m):Mod (l++m):=fun n hn=>(List.mem_append.1 hn).elim (h n) (h' n)
theorem Mod.sub {l m:List Nd} (h:Mod l) (hs: ∀n∈m,n∈l):Mod m:=fun n hn=>h n (hs n hn)
theorem Vl {b1:Nat} {t:Tm} (b2:Nat) (h:Mod (flat b1 t)):Mod (flat b2 t):=by
  rw [<-acP b1 b2 t];exact h.map fun n=>⟨rfl,by simp [F5]⟩
theorem Ut: ∀{cs:List Tm} {b:Nat},Mod (bL b cs)-> ∀c∈cs,Mod (flat 0 c)
  |[],b,h,c,hc=>by cases hc
  |d::cs,b,h,c,hc=>by
    rw [gK]at h;rcases List.mem_cons.1 hc with rfl|hc
    · exact Vl 0 (h.sub fun n hn=>List.mem_append_left _ hn)
    · exact Ut (h.sub fun n hn=>List.mem_append_right _ hn) c hc
theorem agU {s:Tm} {cs:List Tm} {p:Nat} (h:Mod (bL 0 cs)) (hs:Mod (flat 0 s)) (hp:p<sizes cs):Mod (bL 0 (puts cs p s)):=by
  rw [Lf s cs 0 p hp];exact((h.sub fun n hn=>List.mem_of_mem_take hn).app (Vl _ hs)).app ((h.sub fun n hn=>List.mem_of_mem_drop hn).map fun n=>⟨rfl,by simp [Le]⟩)
theorem an9 {t:Tm} (h:Mod (flat 0 t)) (hb:t.size<=1000): ∀(i:Nat) n,(flat 0 t)[i]? =some n->n.names.length<=1000/\n.args.length<=1000/\ ∀a∈n.args,-1000000<=a/\a<=1000000:=by
  intro i n hn;have hm:=List.mem_of_getElem? hn;obtain⟨g1,g2⟩:=h n hm;exact⟨g1,g2,fun a ha=>by have:=F4 t 0 n hm a ha;omega⟩
section
variable {s:Tm} (hs:s.size<=400) (hm:Mod (flat 0 s)) (hL:jd (flat 0 s))
include hs hm hL
mutual
theorem Zx: ∀(t:Tm) (p:Nat),p<t.size->t.size<=400->Mod (flat 0 t)->Ev (fun k=>qo k (flat 0 t) (p:Int) (flat 0 s)) (flat 0 (put t p s))
  | .mk x cs,p,hp,ht,hM=>by
    have hsz:(Tm.mk x cs).size=sizes cs+1:=by simp only [size]
    have hl:((flat 0 (.mk x cs)).length:Int)=sizes cs+1:=by rw [bV,hsz];omega
    have hw:IntKind.wrap .i64 (((flat 0 (.mk x cs)).length:Int) -1)=(sizes cs:Int):=by rw [hl,wrap64 (by omega) (by omega)];omega
    refine Ev.succ ?_;simp only [qo,hw];by_cases hq:p=sizes cs
    · rw [put,if_pos hq];exact Ev.cT (by rw [beq_iff_eq,hq]) (Ev.bind (EN hL) Ev.some)
    · rw [put,if_neg hq];have hlt:p<sizes cs:=by omega
      have hM':Mod (bL 0 cs):=hM.sub fun n hn=>by rw [iJ];exact List.mem_append_left _ hn
      have hroot:=Vg x cs (by omega);have key:=Zy cs [] x p [] rfl (by rw [List.nil_append];omega) hM;simp only [sizes,Nat.not_lt_zero,if_false,Nat.sub_zero,List.nil_append,List.length_nil]at key;have hp2:=agU hM' hm hlt;have hpz:=Ld s cs p x hlt;have hsp:=size_pos (Dx cs p x);have hx:x.names.length<=1000:=(hM (nd x 0 cs) (by rw [iJ];simp)).1;have hcl:(nd x 0 cs).args.length<=1000:=(hM (nd x 0 cs) (by rw [iJ];simp)).2;have ax5:(nd x 0 cs).args.length=cs.length:=qd 0 cs;have hj:=aeD (nd x 0 cs) (puts cs p s) (by omega) (by rw [Zw];omega) (show x.names.length<=1000000 by omega) (fun c hc n hn=>by have:=Ut hp2 c hc n hn;omega);have ef:flat 0 (.mk (nd x 0 cs) (puts cs p s))=flat 0 (.mk x (puts cs p s)):=by rw [iJ,iJ];rfl
      rw [ef]at hj;refine Ev.cF (by rw [beq_eq_false_iff_ne];omega) ?_;simp only [hroot,Option.bind_some];exact Ev.bind key (Ev.bind hj Ev.some)
theorem Zy: ∀(cs l:List Tm) (x:Nd) (p:Nat) (acc:List (List Nd)),acc.length=l.length->sizes (l++cs)<=399->Mod (flat 0 (.mk x (l++cs)))->
    Ev (fun k=>jZ k (flat 0 (.mk x (l++cs))) (p:Int) (flat 0 s) (nd x 0 (l++cs)).kind (nd x 0 (l++cs)).n (nd x 0 (l++cs)).text (nd x 0 (l++cs)).names (nd x 0 (l++cs)).args acc ((l.length:Nat):Int)) (acc++(if p<sizes l then cs else puts cs (p -sizes l) s).map (flat 0))
  |[],l,x,p,acc,ha,hsz,hM=>by
    have hal:(nd x 0 (l++[])).args.length=l.length:=by rw [List.append_nil];exact qd 0 l
    refine Ev.succ ?_;simp only [jZ];refine Ev.cF (decide_eq_false (by omega)) (Ev.some' ?_);rw [puts];simp
  |c::cs,l,x,p,acc,ha,hsz,hM=>by
    have hp1:=size_pos c;have hzz:sizes (l++c::cs)=sizes l+(c.size+sizes cs):=by rw [dU];simp only [sizes]
    have hal:(nd x 0 (l++c::cs)).args.length=l.length+(cs.length+1):=by rw [show(nd x 0 (l++c::cs)).args=roots 0 (l++c::cs)from rfl,qd];simp
    have hget:(nd x 0 (l++c::cs)).args[l.length]? =some ((sizes l+c.size -1:Nat):Int):=by
      have:=Cb (b:=0) (l:=l) (m:=cs) (c:=c);rw [Nat.zero_add]at this;exact this
    have hll:(nd x 0 (l++c::cs)).args.length<=1000:=(hM (nd x 0 (l++c::cs)) (by rw [iJ];simp)).2;have hk:Seg (flat 0 (.mk x (l++c::cs))) (0+sizes l) c:=(Seg.whole _).kid;rw [Nat.zero_add]at hk;have hnd:=an9 hM (by simp only [size];omega);have hlen:(flat 0 (.mk x (l++c::cs))).length<=1000000:=by rw [bV];simp only [size];omega
    have hMc:Mod (flat 0 c):=Ut (cs:=l++c::cs) (b:=0) (hM.sub fun n hn=>by rw [iJ];exact List.mem_append_left _ hn) c (by simp);have hw:IntKind.wrap .i64 (((l.length:Nat):Int)+1)=(((l++[c]).length:Nat):Int):=by rw [wrap64 (by omega) (by omega),List.length_append,List.length_singleton];omega
    have e1:l++c::cs=(l++[c])++cs:=by simp
    have ez:sizes (l++[c])=sizes l+c.size:=by rw [dU];simp [sizes]
    have next: ∀y:List Nd,Ev (fun k=>jZ k (flat 0 (.mk x (l++c::cs))) (p:Int) (flat 0 s) (nd x 0 (l++c::cs)).kind (nd x 0 (l++c::cs)).n (nd x 0 (l++c::cs)).text (nd x 0 (l++c::cs)).names (nd x 0 (l++c::cs)).args (acc++[y]) (((l++[c]).length:Nat):Int)) ((acc++[y])++(if p<sizes (l++[c])then cs else puts cs (p -sizes (l++[c])) s).map (flat 0)):=by
      intro y;have:=Zy cs (l++[c]) x p (acc++[y]) (by simp [ha]) (by rw [<-e1];exact hsz) (by rw [<-e1];exact hM);rw [<-e1]at this;exact this
    refine Ev.succ ?_;simp only [jZ,hw,nn,if_true,Int.toNat_natCast,hget,Option.bind_some];refine Ev.cT (decide_eq_true (by omega)) (Ev.bind (Lb hlen hk) (Ev.bind (Ur rfl (by omega) hnd) ?_));simp only [jT,Option.bind_some];by_cases hb:sizes l<=p/\p<sizes l+c.size
    · have hwp:IntKind.wrap .i64 ((p:Int) -(sizes l:Int))=((p -sizes l:Nat):Int):=by rw [wrap64 (by omega) (by omega)];omega
      rw [hwp];refine Ev.cT (decide_eq_true (by omega)) (Ev.bind (Zx c (p -sizes l) (by omega) (by omega) hMc) (Ev.kg (by omega) ?_));refine(next _).to ?_;rw [if_pos (by omega),if_neg (by omega),puts,if_pos (by omega),List.map_cons,List.append_assoc,List.singleton_append]
    · refine Ev.cF (decide_eq_false (by omega)) (Ev.kg (by omega) ?_);refine(next _).to ?_;by_cases hlt:p<sizes l
      · rw [if_pos (by omega),if_pos hlt,List.map_cons,List.append_assoc,List.singleton_append]
      · rw [if_neg (by omega),if_neg hlt,puts,if_neg (by omega),List.map_cons,List.append_assoc,List.singleton_append,ez,show p -(sizes l+c.size)=p -sizes l -c.size by omega]
end
end
end Go.VL
end
section
namespace Go.VL
open Go.Proofs Go.RowKit
inductive AV where
  |p (l:List Int)
  |m (id len cap:Nat)
def AV.pv:AV->PV
  | .p l=> .aB (l.map aY) .unk
  | .m id len cap=> .dh id 0 len cap 1
def AV.ids:AV->List Nat
  | .p _=>[]
  | .m id _ _=>[id]
def JK (x:Nd×AV):List PV:=[.int .i64 x.1.kind,.int .i64 x.1.n,.str x.1.text,.aB (x.1.names.map aX) .unk,x.2.pv]
instance:rR JK 5:=⟨fun _=>rfl,fun x=>by obtain⟨n,v⟩:=x;cases v<;>rfl⟩
def xW (H:AH) (x:Nd×AV):Prop:=match x.2 with
  | .p l=>l=[]/\x.1.args=[]
  | .m id len cap=>x.1.args≠[]/\aK H aY 1 x.1.args (.dh id 0 len cap 1) [id]
theorem xW.hf {M:List Nat} {H H':AH} {x:Nd×AV} (h:xW H x) (hf:HF M H H') (hd:Dj x.2.ids M):xW H' x:=by
  obtain⟨n,v⟩:=x;cases v with
  |p l=>exact h
  |m id len cap=>exact⟨h.1,h.2.hf hf hd⟩
theorem xW.lt {H:AH} {x:Nd×AV} (h:xW H x): ∀j∈x.2.ids,j<H.next:=by
  obtain⟨n,v⟩:=x;cases v with
  |p l=>intro j hj;cases hj
  |m id len cap=>exact h.2.lt
structure wZ (H:AH) (l:List (Nd×AV)) (v:PV) (id:Nat) (k lo:Nat):Prop where
  row:aK H JK 5 l v [id]
  Zz: ∀(i:Nat) (x:Nd×AV),l[i]? =some x->if i<k then xW H x else x.2= .p x.1.args
  dj: ∀(i j:Nat) (x y:Nd×AV),l[i]? =some x->l[j]? =some y->i≠j->Dj x.2.ids y.2.ids
  ne: ∀(i:Nat) (x:Nd×AV),l[i]? =some x->id∉x.2.ids
  lob: ∀(i:Nat) (x:Nd×AV),l[i]? =some x-> ∀j∈x.2.ids,lo<=j
  aoa:lo<=id
theorem aaw (l:List Int) (h0:l≠[]) (hl:l.length<=1000000):zK Tryz.prog 128 [.aB (l.map aY) .unk] aY 1 l:=by
  intro H;refine aH Cf.apH (by simp) (aD ?_);unfold Cf.aio;have hp:0<l.length:=List.length_pos_iff.2 h0;have h1: ¬(l.map aY).length=0:=by rw [List.length_map];omega
  simp -implicitDefEqProofs only [go_sem,show ¬l.length=0 by omega,if_true,ne_eq,not_false_eq_true];refine Zg (f:=aY) DN l .unk aZ aZ hp (by omega) (fun v' jD H' g1 g2 g3 g4=> ?_);simp -implicitDefEqProofs only [go_sem];exact⟨jD,g1,g2,g3,g4⟩
theorem ZA (n:Nd) (hl:n.args.length<=1000000) (H:AH):cK Tryz.prog 128 [.aB (n.args.map aY) .unk] H fun v H'=> ∃y:AV,v=y.pv/\xW H' (n,y)/\(∀j∈y.ids,H.next<=j)/\HF [] H H'/\ ∀c,cB H c->cB H' c:=by
  by_cases h0:n.args=[]
  · refine cK.mono (Qt n.args hl H) fun v H' ⟨h1,h2⟩=>⟨.p [],?_,(show xW H' (n,.p [])from⟨rfl,h0⟩),fun j hj=>absurd hj List.not_mem_nil,?_,?_⟩
    · rw [h1,h0];rfl
    · subst h2;exact HF.refl _ _
    · subst h2;exact fun _ h=>h
  · refine cK.mono (aaw n.args h0 hl H) fun v H' ⟨ids,h1,h2,h3,h4⟩=> ?_;have h1':=h1;rcases h1 with⟨_,h,_⟩|⟨id,cap,junk,rfl,rfl,_⟩
    · exact absurd h h0
    · refine⟨.m id n.args.length cap,rfl,⟨h0,h1'⟩,fun j hj=> ?_,h3,h4⟩;rcases h2 j hj with q|q
      · cases q
      · exact q
def wP:List (aQ×Bool):=[(oM 12 3,false),(oM 13 4,false),(oM 14 3,false),(oM 15 4,false),(oM 16 3,false),(oM 17 4,false),(oX 18 5 16 17,false),(oF 19 3 18,false),(oL 20 1 19,false),(oC 21 72 [(.t 20)],false),(oM 22 3,false),(oM 23 4,false),(oX 24 5 22 23,false),(oF 25 4 24,false),(oL 26 1 25,false),(oC 27 128 [(.t 26)],true),(oX 28 5 12 13,false),(oF 29 3 28,false),(oS 1 29 21,true)]
def sQ (v:PV) (i:Nat) (id:Nat) (n:Nd) (y:PV):Nat->PV
  |0|2|4|10=>v
  |1|3|5|11=> .int .i64 i
  |6|12|16=> .ref id (i*5)
  |7|17=> .ref id (i*5+3)
  |8|9=> .aB (n.names.map aX) .unk
  |15=>y
  |13=> .ref id (i*5+4)
  |14=> .aB (n.args.map aY) .unk
  |18=> .any
  |_=>ud
theorem acQ (n:Nd) (h1:n.names.length<=1000000) (h2:n.args.length<=1000000) {l:List (Nd×AV)} {i id:Nat} {v:PV} {σ:Nat->PV} {H:AH} {K:(Nat->PV)->AH->Prop}
    (hrow:aK H JK 5 l v [id]) (hx:l[i]? =some (n,.p n.args)) (s3:σ 3=v) (s4:σ 4= .int .i64 i)
    (hK: ∀(y:AV) (σ':Nat->PV) (H':AH),xW H' (n,y)->(∀j∈y.ids,H.next<=j)->HF [] H H'->(∀c,cB H c->cB H' c)->σ'=dL wP (sQ v i id n y.pv) σ 19->K σ' H'):
    ∃val:Nat->PV,yF Tryz.prog apI wP K σ (AP wP).length (AP wP) val H:=by
  obtain⟨id',C,e1,hid,hC,hcell,hle,hdrop,hI⟩:=aK.content hrow hx;obtain rfl:id=id':=by simpa using e1
  have hI':jG 5 v (.int .i64 i)=some (.ref id (i*5)):=hI .i64 i (by omega) (by omega);have c3:C[i*5+3]? =some (.aB (n.names.map aX) .unk):=hcell 3 _ rfl;have c4:C[i*5+4]? =some (.aB (n.args.map aY) .unk):=hcell 4 _ rfl;have apN:AP wP=[15,18]:=by kernel_rfl
  refine⟨sQ v i id n ud,?_⟩;have key: ∀(y:PV) (H':AH),H'.obj id=some C->LZ Tryz.prog H' (fun _=>false) 0 wP (sQ v i id n y) σ:=by
    intro y H' hC';unfold wP;refine⟨.inr (.inr ⟨rfl,?_⟩),.inr (.inr ⟨rfl,?_⟩),.inr (.inr ⟨rfl,?_⟩),.inr (.inr ⟨rfl,?_⟩),.inr (.inr ⟨rfl,?_⟩),.inr (.inr ⟨rfl,?_⟩),.inr (.inr ⟨rfl,?_⟩),.inr (.inr ⟨rfl,?_⟩),.inr (.inr ⟨rfl,?_⟩),.inr (.inr ⟨rfl,?_⟩),.inr (.inr ⟨rfl,?_⟩),.inr (.inr ⟨rfl,?_⟩),.inr (.inr ⟨rfl,?_⟩),.inr (.inr ⟨rfl,?_⟩),.inr (.inr ⟨rfl,?_⟩),.inl rfl,.inr (.inr ⟨rfl,?_⟩),.inr (.inr ⟨rfl,?_⟩),.inl rfl,trivial⟩
    all_goals simp -implicitDefEqProofs only [iN,go_sem,sQ,s3,s4,hI',hC',c3,c4,Nat.reduceAdd,and_self]
    exact U7 n.names h1 H'
  refine ajo (fun rem val H'=>(rem=[15,18]/\val=sQ v i id n ud/\H'=H)\/
    ((rem=[18]\/rem=[])/\ ∃y:AV,val=sQ v i id n y.pv/\xW H' (n,y)/\(∀j∈y.ids,H.next<=j)/\HF [] H H'/\ ∀c,cB H c->cB H' c)) ?_ ?_ ?_ _ _ _ _ (Nat.le_refl _) (.inl ⟨apN,rfl,rfl⟩)
  ·
    rintro rem val H' (⟨rfl,rfl,rfl⟩|⟨_,y,rfl,g1,g2,g3,g4⟩)
    · exact⟨fun _=>false,key _ _ hC,fun i h=>by cases h⟩
    · exact⟨fun _=>false,key _ _ ((g3.2 id hid List.not_mem_nil).trans hC),fun i h=>by cases h⟩
  · have hvf: ∀(a b:PV) (k:Nat),k≠15->sQ v i id n a k=sQ v i id n b k:=by
      intro a b k hk;unfold sQ;split<;>first|rfl|exact absurd rfl hk
    rintro rem val H' j o (⟨rfl,rfl,rfl⟩|⟨rfl|rfl,y,rfl,g1,g2,g3,g4⟩) hj ho hb
    · have hj9:j=15:=by
        simp only [List.mem_cons,List.not_mem_nil,or_false]at hj;rcases hj with rfl|rfl
        · rfl
        · rcases hb 15 (by simp)with h|h
          · exact absurd h (by decide+kernel)
          · cases h
      subst hj9;have ho':o=oC 27 128 [(.t 26)]:=by
        have:wP[15]? =some (oC 27 128 [(.t 26)],true):=rfl;rw [this]at ho;exact(Prod.mk.inj (Option.some.inj ho)).1.symm
      subst ho';refine⟨trivial,?_⟩;show cK Tryz.prog 128 [dL wP (sQ v i id n ud) σ 15 26] H' _
      have e20:dL wP (sQ v i id n ud) σ 15 26= .aB (n.args.map aY) .unk:=rfl;rw [e20];refine cK.mono (ZA n h2 H') fun r H1 ⟨y,k1,k2,k3,k4,k5⟩=>⟨sQ v i id n y.pv,fun k hk _=>hvf _ _ k (fun h=>hk (by rw [h];simp)),k1.symm,.inr ⟨.inl (by rfl),y,rfl,k2,k3,k4,k5⟩⟩
    · have atK:j=18:=by simpa using hj
      subst atK;have ho':o=oS 1 29 21:=by
        have:wP[18]? =some (oS 1 29 21,true):=rfl;rw [this]at ho;exact(Prod.mk.inj (Option.some.inj ho)).1.symm
      subst ho';refine⟨trivial,?_⟩;have d1:kM (.store 1 (.t 29) (.t 21)) (dL wP (sQ v i id n y.pv) σ 18) H'=some (.any,H'):=I6 (id:=id) (o:=i*5+3) (p:= .aB (n.names.map aX) .unk) (C:=C) rfl rfl rfl ((g3.2 id hid List.not_mem_nil).trans hC) c3;show(match kM (.store 1 (.t 29) (.t 21)) (dL wP (sQ v i id n y.pv) σ 18) H' with|some (p,H2)=>_|none=>False)
      rw [d1];exact⟨sQ v i id n y.pv,fun _ _ _=>rfl,rfl,.inr ⟨.inr (by rfl),y,rfl,g1,g2,g3,g4⟩⟩
    · cases hj
  · rintro val H' (⟨h,_⟩|⟨_,y,rfl,g1,g2,g3,g4⟩)
    · cases h
    · exact hK y _ H' g1 g2 g3 g4 rfl
theorem agV {H H':AH} {l:List (Nd×AV)} {v:PV} {id i lo:Nat} {n:Nd} {w:AV} (hO:wZ H l v id i lo) (hx:l[i]? =some (n,w)) {y:AV} (g1:xW H' (n,y)) (g2: ∀j∈y.ids,H.next<=j) (g3:aK H' JK 5 (l.set i (n,y)) v [id]) (g4:HF [id] H H') (hlo:lo<=H.next):wZ H' (l.set i (n,y)) v id (i+1) lo:=by
  have hi:=(List.getElem?_eq_some_iff.1 hx).1;have hget: ∀k x,(l.set i (n,y))[k]? =some x->(k=i/\x=(n,y))\/(k≠i/\l[k]? =some x):=by
    intro k x h;rw [List.getElem?_set]at h;by_cases hk:i=k
    · subst hk;rw [if_pos rfl,if_pos hi]at h;exact .inl ⟨rfl,(Option.some.inj h).symm⟩
    · rw [if_neg hk]at h;exact .inr ⟨fun e=>hk e.symm,h⟩
  have hold: ∀k x,k≠i->l[k]? =some x-> ∀j∈x.2.ids,j<H.next:=by
    intro k x hk h j hj;have:=hO.Zz k x h;by_cases hlt:k<i
    · rw [if_pos hlt]at this;exact this.lt j hj
    · rw [if_neg hlt]at this;rw [this]at hj;cases hj
  refine⟨g3,?_,?_,?_,?_,hO.aoa⟩
  · intro k x h;rcases hget k x h with⟨rfl,rfl⟩|⟨hk,h⟩
    · rw [if_pos (Nat.lt_succ_self _)];exact g1
    · have:=hO.Zz k x h;by_cases hlt:k<i
      · rw [if_pos hlt]at this;rw [if_pos (by omega)];refine this.hf g4 fun a ha hm=>hO.ne k x h ?_;rw [<-List.mem_singleton.1 hm];exact ha
      · rw [if_neg hlt]at this;rw [if_neg (by omega)];exact this
  · intro k k' x x' h h' hne a ha ha';rcases hget k x h with⟨q1,q2⟩|⟨hk,hx1⟩<;>rcases hget k' x' h' with⟨q3,q4⟩|⟨hk',hx2⟩
    · exact hne (q1.trans q3.symm)
    · subst q2;have:=g2 a ha;have:=hold k' x' hk' hx2 a ha';omega
    · subst q4;have:=g2 a ha';have:=hold k x hk hx1 a ha;omega
    · exact hO.dj k k' x x' hx1 hx2 hne a ha ha'
  · intro k x h hm;rcases hget k x h with⟨rfl,rfl⟩|⟨hk,h⟩
    · have:=g2 id hm;have:=hO.row.lt id (List.mem_singleton.2 rfl);omega
    · exact hO.ne k x h hm
  · intro k x h j hj;rcases hget k x h with⟨rfl,rfl⟩|⟨hk,h⟩
    · have:=g2 j hj;omega
    · exact hO.lob k x h j hj
theorem agW (e:List Nd) (hn: ∀(i:Nat) n,e[i]? =some n->n.names.length<=1000000/\n.args.length<=1000000) (hl:e.length<=1000000) (lo:Nat): ∀(m i:Nat) (σ:Nat->PV) (H:AH) (v:PV) (id:Nat) (l:List (Nd×AV)) (Q:Post),i+m=e.length->σ 3=v->σ 8= .int .i64 e.length->σ 9= .int .i64 i->l.map Prod.fst=e->wZ H l v id i lo->lo<=H.next->
    (∀σ' H' l',σ' 3=v->l'.map Prod.fst=e->wZ H' l' v id e.length lo->HF [id] H H'->(∀c,cB H c->cB H' c)->Q (.exit 0) σ' H')->W Tryz.prog (.loop Ce.tK) Q σ H:=by
  intro m
  induction m with
  |zero=>
    intro i σ H v id l Q hi s3 s8 s9 he hO hlo q0;refine aV (fun K hK=>aD ?_);unfold Ce.tK;have hd:decide ((i:Int)<(e.length:Int))=false:=decide_eq_false (by omega);simp -implicitDefEqProofs only [go_sem,s3,s8,s9,hd];have hi':i=e.length:=by omega
    subst hi';exact q0 _ _ l aZ he hO (HF.refl _ _) (fun _ h=>h)
  |succ m ih=>
    intro i σ H v id l Q hi s3 s8 s9 he hO hlo q0;have hlt:i<e.length:=by omega
    have hll:l.length=e.length:=by rw [<-he,List.length_map]
    obtain⟨⟨n,w⟩,hx0⟩: ∃x,l[i]? =some x:=⟨_,List.getElem?_eq_getElem (by omega)⟩;have hxe:e[i]? =some n:=by
      have:=congrArg (·[i]?) he
      simp only [List.getElem?_map,hx0,Option.map_some]at this;exact this.symm
    obtain⟨h1,h2⟩:=hn i _ hxe;have hp:=hO.Zz i _ hx0;rw [if_neg (Nat.lt_irrefl _)]at hp;have hx:l[i]? =some (n,.p n.args):=by rw [hx0];simp only at hp;rw [hp]
    refine aV (fun K hK=>aD ?_);unfold Ce.tK;have hd:decide ((i:Int)<(e.length:Int))=true:=decide_eq_true (by omega);simp -implicitDefEqProofs only [go_sem,s3,s8,s9,hd];refine aaU (acQ n h1 h2 hO.row hx aZ aZ fun y σ' H' g1 g2 g3 g5 hσ=> ?_);have hrow':=hO.row.hf g3 (fun _ _ h=>by cases h);obtain⟨id',C,e1,hid,hC,hcell,hle,hdrop,hI⟩:=aK.content hrow' hx;obtain rfl:id=id':=by simpa using e1
    have hI':jG 5 v (.int .i64 i)=some (.ref id (i*5)):=hI .i64 i (by omega) (by omega);have t14:σ' 14=v:=by rw [hσ];rfl
    have t15:σ' 15= .int .i64 i:=by rw [hσ];rfl
    have t27:σ' 27=y.pv:=by rw [hσ];rfl
    have t3:σ' 3=v:=by rw [hσ];exact s3
    have t8:σ' 8= .int .i64 e.length:=by rw [hσ];exact s8
    have t9:σ' 9= .int .i64 i:=by rw [hσ];exact s9
    clear hσ;simp -implicitDefEqProofs only [go_sem,t14,t15,hI'];refine nK (f:=JK) (id:=id) (o:=i*5+4) (i:=i) (j:=4) (a:=(n,.p n.args)) (y:=(n,y)) (vs:=[y.pv]) aZ rfl rfl hrow' hx (by simp -implicitDefEqProofs only [go_sem,t27];cases y<;>rfl) rfl (by cases y<;>rfl) (by decide) (by cases y<;>rfl) (fun H2 r2 f2 ok2=> ?_);have hO':wZ H2 (l.set i (n,y)) v id (i+1) lo:=agV hO hx (g1.hf f2 fun a ha hm=>by have:=List.mem_singleton.1 hm;have:=g2 a ha;have:=hO.row.lt id (List.mem_singleton.2 rfl);omega) g2 r2 ⟨Nat.le_trans g3.1 f2.1,fun a ha hm=>(f2.2 a (Nat.lt_of_lt_of_le ha g3.1) hm).trans (g3.2 a ha List.not_mem_nil)⟩ hlo;have hw:IntKind.wrap .i64 ((i:Int)+1)=((i+1:Nat):Int):=by rw [IntKind.wrap_i64];omega
    simp -implicitDefEqProofs only [go_sem,t9];refine hK _ _ (ih (i+1) _ H2 v id _ Q (by omega) aZ aZ (by simp -implicitDefEqProofs only [go_sem];rw [hw]) ?_ hO' (Nat.le_trans hlo (Nat.le_trans g3.1 f2.1)) fun σ2 H3 l2 k1 k2 k3 k4 k5=>q0 σ2 H3 l2 k1 k2 k3 ?_ (fun c h=>k5 c (ok2 c (g5 c h))))
    · rw [List.map_set,he];exact(by obtain⟨h,rfl⟩:=List.getElem?_eq_some_iff.1 hxe;exact List.set_getElem_self h)
    · exact⟨Nat.le_trans (Nat.le_trans g3.1 f2.1) k4.1,fun a ha hm=>(k4.2 a (Nat.lt_of_lt_of_le ha (Nat.le_trans g3.1 f2.1)) hm).trans ((f2.2 a (Nat.lt_of_lt_of_le ha g3.1) hm).trans (g3.2 a ha List.not_mem_nil))⟩
theorem aeF (e:List Nd) (h0:0<e.length) (hn: ∀(i:Nat) n,e[i]? =some n->n.names.length<=1000000/\n.args.length<=1000000) (hl:e.length<=1000000) (H:AH):
    cK Tryz.prog 78 [eU e] H fun v H'=> ∃id l,l.map Prod.fst=e/\wZ H' l v id e.length H.next/\HF [] H H'/\ ∀c,cB H c->cB H' c:=by
  refine aH Ce.abT (by simp) (aD ?_);unfold Ce.R9;simp -implicitDefEqProofs only [go_sem];refine He (Nb e h0 hl) fun v ids H' g1 g2 g3 g4=> ?_;have hlen:=g1.Ym;obtain⟨id,rfl⟩: ∃id,ids=[id]:=by
    rcases g1 with⟨_,h,_⟩|⟨id,_,_,h,_⟩
    · rw [h]at h0;simp at h0
    · exact⟨id,h⟩
  have agO:H.next<=id:=by
    rcases g2 id (List.mem_singleton.2 rfl)with h|h
    · cases h
    · exact h
  have hmap:(e.map fun n=>((n,AV.p n.args):Nd×AV)).map JK=e.map Nd.cells:=by
    rw [List.map_map];rfl
  have hO:wZ H' (e.map fun n=>(n,AV.p n.args)) v id 0 H.next:=by
    refine⟨?_,fun i x hx=> ?_,fun i j x y hx hy _=> ?_,fun i x hx=> ?_,fun i x hx=> ?_,agO⟩
    · rcases g1 with⟨_,h,_⟩|⟨id',cap,junk,h1,h2,h3,h4,h5,h6⟩
      · rw [h]at h0;simp at h0
      · exact .inr ⟨id',cap,junk,h1,by rw [List.length_map];exact h2,by rw [List.length_map];exact h3,h4,by rw [hmap];exact h5,by rw [List.length_map];exact h6⟩
    all_goals
      rw [List.getElem?_map,Option.map_eq_some_iff]at hx;obtain⟨n,hn',rfl⟩:=hx
    · rfl
    · intro a ha;cases ha
    · intro hm;cases hm
    · intro a ha;cases ha
  simp -implicitDefEqProofs only [go_sem,hlen];refine agW e hn hl H.next e.length 0 _ H' v id _ _ (by omega) aZ aZ aZ (by rw [List.map_map];exact List.map_id _) hO g3.1 fun σ' H2 l2 s3 k2 k3 k4 k5=> ?_;simp -implicitDefEqProofs only [go_sem,s3];exact⟨id,l2,k2,k3,⟨Nat.le_trans g3.1 k4.1,fun a ha hm=>(k4.2 a (Nat.lt_of_lt_of_le ha g3.1) (fun q=>by have:=List.mem_singleton.1 q;omega)).trans (g3.2 a ha hm)⟩,fun c h=>k5 c (g4 c h)⟩
theorem wZ.atL {H H':AH} {l:List (Nd×AV)} {v:PV} {id lo:Nat} (h:wZ H l v id l.length lo) {i:Nat} {n:Nd} {id' len cap:Nat} {ns:List Int} (hx:l[i]? =some (n,.m id' len cap)) (h0:ns≠[])
    (hr:aK H' aY 1 ns (.dh id' 0 len cap 1) [id']) (hf:HF [id'] H H'):wZ H' (l.set i ({n with args:=ns},.m id' len cap)) v id l.length lo:=by
  have hi:=(List.getElem?_eq_some_iff.1 hx).1;have hne:id≠id':=fun e=>h.ne i _ hx (by rw [e];exact List.mem_singleton.2 rfl);have hget: ∀(k:Nat) (x:Nd×AV),(l.set i (({n with args:=ns}:Nd),AV.m id' len cap))[k]? =some x->(k=i/\x=(({n with args:=ns}:Nd),AV.m id' len cap))\/(k≠i/\l[k]? =some x):=by
    intro k x e;rw [List.getElem?_set]at e;by_cases hk:i=k
    · subst hk;rw [if_pos rfl,if_pos hi]at e;cases e;exact .inl ⟨rfl,rfl⟩
    · rw [if_neg hk]at e;exact .inr ⟨fun e=>hk e.symm,e⟩
  have acR: ∀(k:Nat) (x:Nd×AV),(l.set i (({n with args:=ns}:Nd),AV.m id' len cap))[k]? =some x-> ∃x0,l[k]? =some x0/\x.2=x0.2:=by
    intro k x e;rcases hget k x e with⟨rfl,rfl⟩|⟨_,e⟩
    · exact⟨_,hx,rfl⟩
    · exact⟨x,e,rfl⟩
  have hrow:aK H' JK 5 (l.set i (({n with args:=ns}:Nd),AV.m id' len cap)) v [id]:=by
    have:=h.row.hf hf (fun a ha hm=>hne ((List.mem_singleton.1 ha).symm.trans (List.mem_singleton.1 hm)));have em:(l.set i (({n with args:=ns}:Nd),AV.m id' len cap)).map JK=l.map JK:=by
      rw [List.map_set];have:JK (({n with args:=ns}:Nd),AV.m id' len cap)=(l.map JK)[i]'(by simpa using hi):=by
        rw [List.getElem_map,(List.getElem?_eq_some_iff.1 hx).2];rfl
      rw [this,List.set_getElem_self]
    unfold aK at this⊢;rw [em,List.length_set];rcases this with⟨h1,h2,h3⟩|h
    · subst h2;simp at hi
    · exact .inr h
  refine⟨hrow,fun k x e=> ?_,fun k k' x x' e e' hne=> ?_,fun k x e=> ?_,fun k x e=> ?_,h.aoa⟩
  · have hk':k<l.length:=by have:=(List.getElem?_eq_some_iff.1 e).1;rwa [List.length_set]at this
    rw [if_pos hk'];rcases hget k x e with⟨rfl,rfl⟩|⟨hk,e⟩
    · exact⟨h0,hr⟩
    · have Gz:=h.Zz k x e;rw [if_pos (List.getElem?_eq_some_iff.1 e).1]at Gz;exact Gz.hf hf fun a ha hm=>h.dj k i x _ e hx hk a ha hm
  · obtain⟨x0,e0,q1⟩:=acR k x e;obtain⟨x0',e0',q1'⟩:=acR k' x' e';rw [q1,q1'];exact h.dj k k' x0 x0' e0 e0' hne
  · obtain⟨x0,e0,q1⟩:=acR k x e;rw [q1];exact h.ne k x0 e0
  · obtain⟨x0,e0,q1⟩:=acR k x e;rw [q1];exact h.lob k x0 e0
def QB (ab bi a:Int):Int:=cond (decide (a>=ab)) (IntKind.wrap .i64 (a+bi)) a
def Lg (ab bi:Int) (n:Nd):Nd:={n with args:=n.args.map (QB ab bi)}
section
variable {l:List (Nd×AV)} {v:PV} {id lo:Nat} {i:Nat} {n:Nd} {y:AV} {ab bi:Int} {Q:Post}
theorem apO (hx:l[i]? =some (n,y)) (hnl:n.args.length<=1000000): ∀(m k:Nat) (done:List Int) (σ:Nat->PV) (H:AH),done.length=k->k+m=n.args.length->
    wZ H (l.set i ({n with args:=done++n.args.drop k},y)) v id l.length lo->σ 0=v->σ 1= .int .i64 ab->σ 2= .int .i64 bi->σ 7= .int .i64 i->σ 21=y.pv->σ 22= .int .i64 n.args.length->σ 23= .int .i64 k->
    (∀σ' H',(∀j,j≠8->j≠9->j<23->σ' j=σ j)->wZ H' (l.set i ({n with args:=done++(n.args.drop k).map (QB ab bi)},y)) v id l.length lo->Q (.exit 2) σ' H')->W Tryz.prog (.loop Cf.Mf) Q σ H:=by
  have hi:i<l.length:=(List.getElem?_eq_some_iff.1 hx).1;intro m
  induction m with
  |zero=>
    intro k done σ H hd hk hV s0 s1 s2 s7 s21 Xw Ph q0;have hge:decide ((k:Int)<(n.args.length:Int))=false:=decide_eq_false (by omega);refine aV (fun K hK=>aD ?_);unfold Cf.Mf;simp -implicitDefEqProofs only [go_sem,Xw,Ph,hge];rw [List.drop_of_length_le (by omega)]at hV;refine q0 _ H (fun j h8 h9 hj=> ?_) (by rw [List.drop_of_length_le (by omega)];exact hV);have:j≠24:=by omega
    simp only [upd,this,↓reduceIte]
  |succ m ih=>
    intro k done σ H hd hk hV s0 s1 s2 s7 s21 Xw Ph q0;have hlt:decide ((k:Int)<(n.args.length:Int))=true:=decide_eq_true (by omega);have hset:(l.set i (({n with args:=done++n.args.drop k}:Nd),y))[i]? =some (({n with args:=done++n.args.drop k}:Nd),y):=by rw [List.getElem?_set,if_pos rfl,if_pos hi]
    have Gz:=hV.Zz i _ hset;rw [if_pos hi]at Gz;obtain⟨id0,C,e1,hid,hC,hcell,hle,hdrop,hI⟩:=aK.content hV.row hset;obtain rfl:id=id0:=by simpa using e1
    have hI':jG 5 v (.int .i64 i)=some (.ref id (i*5)):=hI .i64 i (by omega) (by omega);have hmem:(done++n.args.drop k)[k]? =some (n.args[k]'(by omega)):=by
      rw [List.getElem?_append_right (by omega),hd,Nat.sub_self,List.getElem?_drop,Nat.add_zero,List.getElem?_eq_getElem]
    cases y with
    |p l0=>
      have h2:done++n.args.drop k=[]:=Gz.2;rw [h2]at hmem;cases hmem
    |m id' len cap=>
    obtain⟨h0,hr0⟩:=Gz;have hr0:aK H aY 1 (done++n.args.drop k) (.dh id' 0 len cap 1) [id']:=hr0;have c4:C[i*5+4]? =some (.dh id' 0 len cap 1):=hcell 4 _ rfl;obtain⟨id2,C2,e2,ax6,hC2,hcell2,_,_,hI2⟩:=aK.content hr0 hmem;obtain rfl:id'=id2:=by simpa using e2
    have aod:jG 1 (.dh id' 0 len cap 1) (.int .i64 k)=some (.ref id' (k*1)):=hI2 .i64 k (by omega) (by omega);have c0:C2[k]? =some (.int .i64 n.args[k]):=(show C2[k*1+0]? =_ from hcell2 0 _ rfl)▸(by rw [Nat.mul_one,Nat.add_zero]);have aoe:σ 21= .dh id' 0 len cap 1:=s21;have hw:IntKind.wrap .i64 ((k:Int)+1)=((k+1:Nat):Int):=by rw [IntKind.wrap_i64];omega
    have hdr:n.args.drop k=n.args[k]::n.args.drop (k+1):=List.drop_eq_getElem_cons (by omega);refine aV (fun K hK=>aD ?_);unfold Cf.Mf;simp -implicitDefEqProofs only [go_sem,Xw,Ph,hlt,aoe,aod,hC2,c0,s1];cases hc:decide (n.args[k]>=ab)with
    |false=>
      have em:QB ab bi n.args[k]=n.args[k]:=by unfold QB;rw [hc];rfl
      simp -implicitDefEqProofs only [go_sem,Ph,hw];refine hK _ _ (ih (k+1) (done++[n.args[k]]) _ H (by simp [hd]) (by omega) (by rw [List.append_assoc];rw [hdr]at hV;exact hV) aZ aZ aZ aZ aZ aZ aZ fun σ' H3 g1 g2=> ?_);refine q0 σ' H3 (fun j h8 h9 hj=>(g1 j h8 h9 hj).trans ?_) ?_
      · have:j≠23/\j≠24/\j≠25/\j≠26/\j≠27/\j≠28/\j≠29/\j≠30/\j≠41:=by omega
        simp only [upd,h8,h9,this,↓reduceIte]
      · rw [hdr,List.map_cons,em];rw [List.append_assoc]at g2;exact g2
    |true=>
      have em:QB ab bi n.args[k]=IntKind.wrap .i64 (n.args[k]+bi):=by unfold QB;rw [hc];rfl
      simp -implicitDefEqProofs only [go_sem,s0,s2,s7,aoe,hI',hC,c4,aod];refine nK (f:=aY) (id:=id') (o:=k*1) (i:=k) (j:=0) (a:=n.args[k]) (y:=IntKind.wrap .i64 (n.args[k]+bi)) (vs:=[.int .i64 (IntKind.wrap .i64 (n.args[k]+bi))]) aZ rfl rfl hr0 hmem aZ rfl rfl (by decide) rfl (fun H' r' hf' ok'=> ?_);have es:(done++n.args.drop k).set k (IntKind.wrap .i64 (n.args[k]+bi))=(done++[QB ab bi n.args[k]])++n.args.drop (k+1):=by
        rw [List.set_append_right _ _ (by omega),hd,Nat.sub_self,hdr,List.set_cons_zero,List.append_assoc,em];rfl
      rw [es]at r';have hlen:(l.set i (({n with args:=done++n.args.drop k}:Nd),AV.m id' len cap)).length=l.length:=List.length_set;have hV2:=wZ.atL (hlen.symm▸hV) hset (by simp) r' hf';rw [List.set_set,hlen]at hV2;simp -implicitDefEqProofs only [go_sem,Ph,hw];refine hK _ _ (ih (k+1) (done++[QB ab bi n.args[k]]) _ H' (by simp [hd]) (by omega) hV2 aZ aZ aZ aZ aZ aZ aZ fun σ' H3 g1 g2=> ?_);refine q0 σ' H3 (fun j h8 h9 hj=>(g1 j h8 h9 hj).trans ?_) ?_
      · have:j≠23/\j≠24/\j≠25/\j≠26/\j≠27/\j≠28/\j≠29/\j≠30/\j≠31/\j≠32/\j≠33/\j≠34/\j≠35/\j≠36/\j≠37/\j≠38/\j≠39/\j≠40/\j≠41:=by omega
        simp only [upd,h8,h9,this,↓reduceIte]
      · rw [hdr,List.map_cons];rw [List.append_assoc]at g2;exact g2
end
theorem aof (e:List Nd) (hn: ∀(i:Nat) n,e[i]? =some n->n.args.length<=1000000) (hl:e.length<=1000000) (ab bi:Int) {v:PV} {id lo:Nat} {Q:Post}: ∀(m i:Nat) (l:List (Nd×AV)) (σ:Nat->PV) (H:AH),i+m=e.length->l.map Prod.fst=(e.take i).map (Lg ab bi)++e.drop i->wZ H l v id e.length lo->
    σ 0=v->σ 1= .int .i64 ab->σ 2= .int .i64 bi->σ 13= .int .i64 e.length->σ 14= .int .i64 i->
    (∀σ' H' l',σ' 0=v->l'.map Prod.fst=e.map (Lg ab bi)->wZ H' l' v id e.length lo->Q (.exit 0) σ' H')->W Tryz.prog (.loop Cf.Ih) Q σ H:=by
  intro m
  induction m with
  |zero=>
    intro i l σ H hi he hO s0 s1 s2 s13 MN q0;refine aV (fun K hK=>aD ?_);unfold Cf.Ih;have hd:decide ((i:Int)<(e.length:Int))=false:=decide_eq_false (by omega);simp -implicitDefEqProofs only [go_sem,s13,MN,hd];rw [List.take_of_length_le (by omega),List.drop_of_length_le (by omega),List.append_nil]at he;exact q0 _ _ l aZ he hO
  |succ m ih=>
    intro i l σ H hi he hO s0 s1 s2 s13 MN q0;have hlt:i<e.length:=by omega
    have hll:l.length=e.length:=by
      have:=congrArg List.length he;simp only [List.length_map,List.length_append,List.length_take,List.length_drop]at this;omega
    obtain⟨⟨n,y⟩,hx⟩: ∃x,l[i]? =some x:=⟨_,List.getElem?_eq_getElem (by omega)⟩;have hxe:e[i]? =some n:=by
      have:=congrArg (·[i]?) he
      simp only [List.getElem?_map,hx,Option.map_some]at this;rw [List.getElem?_append_right (by simp;omega),List.getElem?_drop]at this;rw [this];congr 1;simp;omega
    have h2:=hn i _ hxe;have Gz:=hO.Zz i _ hx;rw [if_pos hlt]at Gz;obtain⟨id0,C,e1,hid,hC,hcell,hle,hdrop,hI⟩:=aK.content hO.row hx;obtain rfl:id=id0:=by simpa using e1
    have hI':jG 5 v (.int .i64 i)=some (.ref id (i*5)):=hI .i64 i (by omega) (by omega);have c4:C[i*5+4]? =some y.pv:=hcell 4 _ rfl;have hlen:CZ y.pv=some (.int .i64 n.args.length):=by
      cases y with
      |p l0=>obtain⟨h3,h4⟩:l0=[]/\n.args=[]:=Gz;subst h3;rw [h4];rfl
      |m a b c=>
        have hr:aK H aY 1 n.args (.dh a 0 b c 1) [a]:=Gz.2;exact hr.Ym
    have hw:IntKind.wrap .i64 ((i:Int)+1)=((i+1:Nat):Int):=by rw [IntKind.wrap_i64];omega
    refine aV (fun K hK=>aD ?_);unfold Cf.Ih;have hd:decide ((i:Int)<(e.length:Int))=true:=decide_eq_true (by omega);simp -implicitDefEqProofs only [go_sem,s0,s13,MN,hd,hI',hC,c4,hlen];have hself:l.set i (({n with args:=[]++n.args.drop 0}:Nd),y)=l:=by
      obtain⟨h,e⟩:=List.getElem?_eq_some_iff.1 hx;have:(({n with args:=[]++n.args.drop 0}:Nd),y)=l[i]:=by rw [e];rfl
      rw [this,List.set_getElem_self]
    refine apO (l:=l) (v:=v) (id:=id) (lo:=lo) (i:=i) (n:=n) (y:=y) (ab:=ab) (bi:=bi) hx h2 n.args.length 0 [] _ H rfl (by omega) (by rw [hself,hll];exact hO) aZ aZ aZ aZ aZ aZ aZ fun σ' H' g1 g2=> ?_;have t0:σ' 0=v:=(g1 0 (by decide) (by decide) (by decide)).trans (by simp -implicitDefEqProofs only [go_sem,s0]);have t1:σ' 1= .int .i64 ab:=(g1 1 (by decide) (by decide) (by decide)).trans (by simp -implicitDefEqProofs only [go_sem,s1]);have t2:σ' 2= .int .i64 bi:=(g1 2 (by decide) (by decide) (by decide)).trans (by simp -implicitDefEqProofs only [go_sem,s2]);have t13:σ' 13= .int .i64 e.length:=(g1 13 (by decide) (by decide) (by decide)).trans (by simp -implicitDefEqProofs only [go_sem,s13]);have t14:σ' 14= .int .i64 i:=(g1 14 (by decide) (by decide) (by decide)).trans (by simp -implicitDefEqProofs only [go_sem,MN]);clear g1;simp -implicitDefEqProofs only [go_sem,t14,hw];rw [hll]at g2;refine hK _ _ (ih (i+1) _ _ H' (by omega) ?_ g2 aZ aZ aZ aZ aZ q0);rw [List.map_set,he];have e3:e[i]=n:=(List.getElem?_eq_some_iff.1 hxe).2;have e4:e.take (i+1)=e.take i++[n]:=by rw [List.take_succ_eq_append_getElem hlt,e3]
    have e5:e.drop i=n::e.drop (i+1):=by rw [List.drop_eq_getElem_cons hlt,e3]
    rw [e4,e5,List.set_append_right _ _ (by simp;omega)];simp [Nat.min_eq_left (Nat.le_of_lt hlt),Lg]
theorem ajL {H:AH} {n:Nd} {y:AV} (h:xW H (n,y)):Kg H (JK (n,y)) n.cells:=by
  have hn:Fz H y.pv (.aB (n.args.map aY) .unk):=by
    cases y with
    |p l=>
      obtain⟨h1,h2⟩:l=[]/\n.args=[]:=h;subst h1;rw [h2];exact dN gG [] .unk
    |m id len cap=>
      have hr:aK H aY 1 n.args (.dh id 0 len cap 1) [id]:=h.2;exact aK.fz gG hr
  exact .cons (.pure _ (.int _ _)) (.cons (.pure _ (.int _ _)) (.cons (.pure _ (.str _)) (.cons (dN bN n.names .unk) (.cons hn .nil))))
theorem aog {H:AH} {l:List (Nd×AV)} {v:PV} {id lo:Nat} (h:wZ H l v id l.length lo):Fz H v (eU (l.map (·.1))):=by
  have:=ajI (g:=fun x:Nd×AV=>x.1.cells) h.row (fun _=>rfl) fun x hx j c c' e e'=>by
    obtain⟨i,hi⟩:=List.mem_iff_getElem?.1 hx;have hn:=h.Zz i x hi;rw [if_pos (List.getElem?_eq_some_iff.1 hi).1]at hn;obtain⟨n,y⟩:=x;exact(ajL hn).get.2 j c c' e e'
  have e2:l.map (fun x:Nd×AV=>x.1.cells)=(l.map (·.1)).map Nd.cells:=by rw [List.map_map];rfl
  rw [e2]at this;exact this
end Go.VL
end
section
namespace Go.VL
open Go.Proofs Go.RowKit Go.Lib
set_option maxHeartbeats 2000000 in
set_option maxRecDepth 100000 in
theorem VY (n c:Nat) (w:World):Calls Tryz.prog 127 #[.slice none n c] w fun e w'=>e= .returned (.slice none 0 0)/\w'=w:=by
  have mixed:=Tryz.growOp.mixed;have t4:=Tryz.underlying4;have a4:=Tryz.isAgg4;have z4:=Tryz.sizeOf4;have v4:=Tryz.zeroValue4;have t23:=Tryz.underlying23;have a23:=Tryz.isAgg23;have z23:=Tryz.sizeOf23;have v23:=Tryz.zeroValue23;have t40:=Tryz.underlying40;have q23: ∀(w:World) (a:Option Addr) (n c n' c':Nat),(binOp .eql 23 (.slice a n c) (.slice none n' c')).run Tryz.prog w= .ok (.bool a.isNone) w:=fun w a n c n' c'=>Lib.run_eql_slice_nil w _ _ a n c n' c' Tryz.underlying23
  go_enter Tryz.func127,(show Tryz.f127.ntmps=8 from rfl)
  go_wp2
  go_ret
  exact⟨rfl,rfl⟩
set_option maxHeartbeats 2000000 in
set_option maxRecDepth 100000 in
theorem VZ (a:Addr) (c:Nat) (w:World):Calls Tryz.prog 127 #[.slice (some a) 0 c] w fun e w'=> ∃v',e= .returned v'/\w'.ownsRow w.heap.size 40 5 v' 0 []/\Below w.heap.size w w':=by
  have mixed:=Tryz.growOp.mixed;have t4:=Tryz.underlying4;have a4:=Tryz.isAgg4;have z4:=Tryz.sizeOf4;have v4:=Tryz.zeroValue4;have t23:=Tryz.underlying23;have a23:=Tryz.isAgg23;have z23:=Tryz.sizeOf23;have v23:=Tryz.zeroValue23;have t40:=Tryz.underlying40;have q23: ∀(w:World) (a:Option Addr) (n c n' c':Nat),(binOp .eql 23 (.slice a n c) (.slice none n' c')).run Tryz.prog w= .ok (.bool a.isNone) w:=fun w a n c n' c'=>Lib.run_eql_slice_nil w _ _ a n c n' c' Tryz.underlying23;have u23: ∀w,Sem.run Tryz.prog (underlying 23) w= .ok (TypeDesc.slice 40) w:=run_underlying t23;obtain⟨i0,z,hi,hz0,hz1,hz2,hz3⟩: ∃i0 z,Tryz.prog.info? 40=some i0/\i0.zero=some z/\i0.size=5/\i0.bytes=80/\z.cells.size=5:=by
    have h:(Tryz.prog.info? 40).map (fun i0=>((i0.zero.map fun z=>z.cells.size),i0.size,i0.bytes))=some (some 5,5,80):=by kernel_rfl
    cases hi:Tryz.prog.info? 40 with
    |none=>rw [hi]at h;cases h
    |some i0=>
      rw [hi]at h;simp only [Option.map_some,Option.some.injEq,Prod.mk.injEq]at h;obtain⟨z,e1,e2⟩:=Option.map_eq_some_iff.1 h.1;exact⟨i0,z,rfl,e1,h.2.1,h.2.2,e2⟩
  go_enter Tryz.func127,(show Tryz.f127.ntmps=8 from rfl)
  go_wp2_with (at_builtin;refine wpList_append_own _ rfl _ _ 23 rfl w.heap.size 40 i0 z 5 80 t23 hi hz0 hz1 hz2 hz3 (by decide) _ _ _ rfl (World.ownsRow_made w #[] 0 (Nat.le_refl _) (Nat.zero_le _) rfl) a 0 c [] rfl rfl (by intro j u hj;simp at hj) (by intro u hu;cases hu) (by unfold maxLen;omega) (by omega) (by simp) ?_)
  intro v' w1 hown hgrow hnil
  go_wp2
  go_ret
  refine⟨v',rfl,by simpa using hown,?_⟩;exact((Below.refl _ w).alloc (Nat.le_refl _) _).grown hgrow (by simp) (by intro k hk;simp [Value.ownBlock]at hk;omega)
theorem ZB {c:Ck}:aF Tryz.prog 127 [.aB [] c] (.aB [] .unk):=by
  refine aF.wk (args:=[.aB [] .unk]) ?_ (.aB .nil);refine Gp ⟨_,Tryz.func127,rfl,by kernel_rfl⟩ (fun w G vs hg hi hv=> ?_) (bg.mem (.cons (aU (f:=Nd.cells) Nd.pu []) .nil));obtain⟨u,rfl,hu⟩: ∃u,vs=#[u]/\V G 0 (.aB [] .unk) u:=by
    obtain⟨h1,h2⟩:=hv
    match vs,h1,h2 with
    |⟨[u]⟩,_,h2=>exact⟨u,rfl,h2 0 _ u rfl rfl⟩
  obtain⟨ad,cap,rfl,hcap,hx⟩:=acz hu;cases ad with
  |none=>
    refine(VY 0 cap w).mono ?_;rintro e w' ⟨rfl,rfl⟩;exact⟨_,rfl,Below.refl _ _,fun G' n _=> .aB [] .unk 1 none 0 (fun _ _=> .bool true) (fun i cs e=>by simp at e) (Nat.le_refl _) (fun h=>absurd rfl h) (fun i cs j c e=>by simp at e) trivial⟩
  |some a=>
    refine(VZ a cap w).mono ?_;rintro e w' ⟨v',rfl,⟨_,hown⟩,hb⟩;refine⟨_,rfl,hb,fun G' n _=> ?_⟩;rcases hown with⟨rfl,_⟩|⟨g,cp,cur,rfl,_,_,h1,_⟩
    · exact .aB [] .unk 1 none 0 (fun _ _=> .bool true) (fun i cs e=>by simp at e) (Nat.le_refl _) (fun h=>absurd rfl h) (fun i cs j c e=>by simp at e) trivial
    · exact .aB [] .unk 1 (some ⟨g,0,none⟩) cp (fun _ _=> .bool true) (fun i cs e=>by simp at e) h1 (fun h=>absurd rfl h) (fun i cs j c e=>by simp at e) trivial
def OL (e:List Nd):Bool:=xV e||e.isEmpty
theorem abj {e:List Nd} {c:Ck} (h:OL e=true):aF Tryz.prog 78 [.aB (e.map Nd.cells) c] (.aB (e.map Nd.cells) .unk):=by
  refine aF.wk (args:=[eU e]) ?_ (.aB .nil);unfold OL at h;rcases Bool.or_eq_true _ _▸h with h|h
  · exact aF.aP (bg.mem (.cons (aU Nd.pu _) .nil)) ((Zh h AH.empty).mono fun v H' ⟨ids,h1,_⟩=>h1.fz Nd.pu) (aU Nd.pu _)
  · obtain rfl:e=[]:=List.isEmpty_iff.1 h;refine aF.aP (bg.mem (.cons (aU Nd.pu _) .nil)) (aH abT (by simp) (aD ?_)) (aU Nd.pu _);unfold R9;simp -implicitDefEqProofs only [go_sem];refine aA ZB ?_;simp -implicitDefEqProofs only [go_sem];refine aV (fun K hK=>aD ?_);unfold tK;simp -implicitDefEqProofs only [go_sem,show decide ((0:Int)<((([]:List (List PV)).length:Nat):Int))=false from rfl];exact dN Nd.pu [] _
def QC (e:List Nd):Option (List Nd):=if OL e=true then some e else none
theorem ajM (e:List Nd) {r:List Nd} {c:Ck} (h:QC e=some r):aF Tryz.prog 78 [.aB (e.map Nd.cells) c] (.aB (r.map Nd.cells) .unk):=by
  unfold QC at h;obtain⟨h1,h2⟩:=aO h;cases h2;exact abj h1
def DW (e:List Nd) (ab bi:Int):Option (List Nd):=if OL e=true then some (e.map (Lg ab bi))else none
theorem Vm (e:List Nd) (ab bi:Int) {r:List Nd} {c:Ck} (h:DW e ab bi=some r):aF Tryz.prog 82 [.aB (e.map Nd.cells) c,.int .i64 ab,.int .i64 bi] (.aB (r.map Nd.cells) .unk):=by
  refine aF.wk (args:=[eU e,.int .i64 ab,.int .i64 bi]) ?_ (.aB (.same (.same .nil)));unfold DW at h;obtain⟨h1,h2⟩:=aO h;cases h2;refine aF.aP (bg.mem (.cons (aU Nd.pu _) (.cons (.int _ _) (.cons (.int _ _) .nil)))) (aH Cf.atz (by simp) (aD ?_)) (aU Nd.pu _);unfold Cf.an2;simp -implicitDefEqProofs only [go_sem];unfold OL at h1;rcases Bool.or_eq_true _ _▸h1 with h1|h1
  · simp only [xV,Bool.and_eq_true,decide_eq_true_eq,List.all_eq_true]at h1;refine cK.mono (aeF e h1.1.1 (fun i n hi=>h1.2 n (List.mem_of_getElem? hi)) h1.1.2 AH.empty) ?_;rintro v H1 ⟨id,l,hle,hO,hf1,hok⟩;have hll:l.length=e.length:=by rw [<-hle,List.length_map]
    have hlen:=hO.row.Ym;rw [hll]at hlen;simp -implicitDefEqProofs only [go_sem,hlen];refine aof e (fun i n hi=>(h1.2 n (List.mem_of_getElem? hi)).2) h1.1.2 ab bi e.length 0 l _ H1 (by omega) (by simpa using hle) hO aZ aZ aZ aZ aZ fun σ' H2 l2 t0 e2 hO2=> ?_;simp -implicitDefEqProofs only [go_sem,t0];have hl2:l2.length=e.length:=by
      have:=congrArg List.length e2;simpa using this
    rw [<-hl2]at hO2;have:=aog hO2;rw [e2]at this;exact this
  · obtain rfl:e=[]:=List.isEmpty_iff.1 h1;refine aA (abj (e:=[]) rfl) ?_;simp -implicitDefEqProofs only [go_sem];refine aV (fun K hK=>aD ?_);unfold Cf.Ih;simp -implicitDefEqProofs only [go_sem,show decide ((0:Int)<((([]:List (List PV)).length:Nat):Int))=false from rfl];exact dN Nd.pu [] _
end Go.VL
end
section
set_option maxRecDepth 100000
namespace Go.Proofs
def Tryz.growNd_ren:Go.Shelf.Ren:=⟨fun|4=>131|n=>n,fun|22=>23|25=>40|3=>3|4=>4|9=>9|20=>20|0=>0|n=>n,fun|n=>n⟩
theorem Tryz.growNd:Go.Proofs.Lays8.n4 Tryz.prog Tryz.growNd_ren:={
  mixed:=by kernel_rfl
  f4:=⟨Tryz.f131.name,by decide,Tryz.func131.trans (congrArg some (by kernel_rfl))⟩
  t0:=Tryz.underlying0
  a0:=Tryz.isAgg0
  z0:=Tryz.sizeOf0
  v0:=Tryz.zeroValue0
  t3:=Tryz.underlying3
  a3:=Tryz.isAgg3
  z3:=Tryz.sizeOf3
  v3:=Tryz.zeroValue3
  t4:=Tryz.underlying4
  a4:=Tryz.isAgg4
  z4:=Tryz.sizeOf4
  v4:=Tryz.zeroValue4
  t9:=Tryz.underlying9
  a9:=Tryz.isAgg9
  z9:=Tryz.sizeOf9
  v9:=Tryz.zeroValue9
  t20:=Tryz.underlying20
  a20:=Tryz.isAgg20
  z20:=Tryz.sizeOf20
  v20:=Tryz.zeroValue20
  t22:=Tryz.underlying23
  a22:=Tryz.isAgg23
  z22:=Tryz.sizeOf23
  v22:=Tryz.zeroValue23}
end Go.Proofs
namespace Go.VL
open Go.Proofs Go.RowKit
theorem aeG (n:Int) (h:0<n/\n<=1000000):zK Tryz.prog 131 [.aB [] .nil,.int .i64 n] Nd.cells 5 []:=by
  intro H;refine⟨⟨_,Tryz.func131,rfl,by kernel_rfl⟩,fun B G w vs hU hM hv=> ?_⟩;obtain⟨n,rfl⟩: ∃k:Nat,n=k:=⟨n.toNat,by omega⟩;rw [Vs.ad8 hv];obtain⟨i0,hi0,hq⟩: ∃i0,Tryz.prog.info? (Tryz.growNd_ren.t 25)=some i0/\(i0.zero.map fun z=>z.cells.size)=some 5/\i0.size=5/\i0.bytes=80:=by
    have h:(Tryz.prog.info? (Tryz.growNd_ren.t 25)).map (fun i0=>((i0.zero.map fun z=>z.cells.size),i0.size,i0.bytes))=some (some 5,5,80):=by kernel_rfl
    cases hi:Tryz.prog.info? (Tryz.growNd_ren.t 25)with
    |none=>rw [hi]at h;cases h
    |some i0=>rw [hi]at h;simp only [Option.map_some,Option.some.injEq,Prod.mk.injEq]at h;exact⟨i0,rfl,h.1,h.2.1,h.2.2⟩
  obtain⟨hz,hs,hb⟩:=hq;obtain⟨z,hz0,hz1⟩:=Option.map_eq_some_iff.1 hz;have key:=Any8.slices_Grow_grow Tryz.growNd i0 z hi0 hz0 (by omega) none 0 0 n [] w (Nat.le_refl _) (by omega) (by rw [hb];omega) (by omega) (by simp) (fun _=>rfl) (fun a e=>by cases e);have hge:=grownCap_ge w (0+n) 0 (Tryz.growNd_ren.t 25);refine key.mono ?_;rintro e w' ⟨rfl,rfl⟩
  obtain⟨G',e1,e2,e3⟩:=HM.newObj (w:=w.drew) hU hM.drew (Tryz.growNd_ren.t 25) (Vs.LG (G:=G) H.next (grownCap w (0+n) 0 (Tryz.growNd_ren.t 25)*5) _ (by
    show((#[]:Array Value)++Builtin.zeroCells z.cells (0+n -0)++Builtin.zeroCells z.cells (grownCap w (0+n) 0 (Tryz.growNd_ren.t 25) -(0+n))).size=_
    rw [Array.size_append,Array.size_append,Wi,Wi,hz1];simp only [Array.size_empty];omega))
  refine⟨_,_,_,G',rfl,Tr.yE w _,e1,Nat.le_succ _,e2,.dh H.next 0 0 _ 5 _ (Nat.lt_succ_self _) e3,[H.next],.inr ⟨H.next,_,List.replicate (grownCap w (0+n) 0 (Tryz.growNd_ren.t 25)*5) .any,rfl,rfl,Nat.zero_le _,Nat.lt_succ_self _,?_,?_⟩,?_,(HF.refl _ _).new,fun c3 hc=>hc.new⟩
  · show(if H.next=H.next then some _ else _)=_
    rw [if_pos rfl];rfl
  · rw [List.length_replicate,List.length_nil,Nat.sub_zero]
  · intro i hi;rw [List.mem_singleton.1 hi];exact .inr (Nat.le_refl _)
section
variable [Glob] {P:Program} {Q:Post} {σ:Nat->PV} {s:List Fm} {α:Type} {H:AH} {f:α->List PV} {sz:Nat} {v:PV} {ids:List Nat}
theorem acS {d:Option Nat} {b:Nat} {x y:AE} {l:List aQ} [hr:rR f sz] (hf: ∀x,nP sz (f x)) (xs ys:List α) (c2:Ck)
    (hx:x.ev σ=v) (hrow:aK H f sz xs v ids) (hy:y.ev σ= .aB (ys.map f) c2) (hb:(xs.length+ys.length)*b<=1099511627776)
    (h: ∀(v':PV) (jD:List Nat) (H':AH),aK H' f sz (xs++ys) v' jD->Nw H ids jD->HF ids H H'->(∀c3,cB H c3->cB H' c3)->WO P l s Q (upd σ d v') H'):
    WO P (⟨d,.n (.app sz b x y),none⟩::l) s Q σ H:=by
  by_cases h0:0<ys.length
  · exact BX hf xs ys c2 hx hrow hy h0 hb h
  obtain rfl:ys=[]:=List.length_eq_zero_iff.1 (by omega);rw [List.append_nil]at h;have fin:=h v ids H hrow Nw.refl (HF.refl _ _) (fun _ k=>k);show cO P _ _ σ H
  rw [GJ];simp only [nop,hx,hy];rcases hrow with⟨rfl,rfl,rfl⟩|⟨id,cap,junk,rfl,rfl,h2,h3,h4,h5⟩
  · simp only [uJ,rowOf,List.map_nil,List.length_nil,if_true];exact fin
  · have hfl:=nJ (f:=f) hr.len xs;have hrow:rowOf sz H (.dh id 0 xs.length cap sz)=some (xs.map f):=by
      simp only [rowOf,h4];rw [if_pos ⟨trivial,by rw [List.length_append,hfl];omega⟩,List.drop_zero];have:=zJ (sz:=sz) (xs.map f) junk (fun cs hcs=>by obtain⟨x,_,rfl⟩:=List.mem_map.1 hcs;exact hr.len x);rw [List.length_map]at this;rw [this]
    simp only [uJ,hrow];have:rowOf sz H (.aB (([]:List α).map f) c2)=some []:=rfl;simp only [this,List.length_nil,if_true];rw [if_pos h2];exact fin
end
end Go.VL
end
section
set_option maxHeartbeats 4000000
namespace Go.VL
open Go.Proofs
theorem aax {P:Program} {H:AH} {K:(Nat->PV)->AH->Prop} {σ:Nat->PV} {d:Option Nat} {n:Nat} {g:FuncId} {fs cs:List PV} {xs:List AE} {l:List (aQ×Bool)} (hn:σ n= .fn (.func g) fs cs) (h:PC P g (fs++evs σ xs++cs) fun p=>iK P (·=H) l K (upd σ d p) H):
    iK P (·=H) ((⟨d,.call (.t n) xs,none⟩,false)::l) K σ H:=by
  obtain⟨p,h1,h2⟩:=h;refine .inr ⟨trivial,p,fun H' hH=> ?_,h2⟩;subst hH;show(match σ n with| .fn (.func g) first caps=>cK P g (first++evs σ xs++caps) _ _|_=>False)
  rw [hn];exact h1 _
def lq:Nat->(List Nd)->Int->Option Int
  |0,_,_=>none
  |k+1,aG,Co=>
    if 0<=Co then Option.bind (aG[Co.toNat]?) fun X7=>cond (decide ((X7.args.length:Int)>0)) (Option.bind (X7.args[0]?) fun Jt=>lq k aG Jt) (some (Co))else none
def Ij:List Nat:=[9]++List.range' 31 14
theorem QD: ∀(k:Nat) (aG:List Nd) (Co:Int) (aC σ:Nat->PV) (H:AH) (f0:Fr Ij aC σ) (sl:σ 0=(.aB (aG.map Nd.cells) .unk)/\σ 9=(.int .i64 Co)) (o:Int) (h:lq k aG Co=some o) (Q:Post) (q0: ∀(p:Int) (σ':Nat->PV),o=p->Fr Ij aC σ'->(σ' 9=(.int .i64 p))->Q (.exit 0) σ' H),W Tryz.prog (.loop Rm) Q σ H:=by
  intro k
  induction k with
  |zero=>intro aG Co aC σ H f0 sl o h Q q0;simp only [lq,reduceCtorEq]at h
  |succ k ih=>
    intro aG Co aC σ H f0 sl o h Q q0;obtain⟨s0,s9⟩:=sl;unfold lq at h;refine aV (fun K hK=>aD ?_);unfold Rm;obtain⟨e12,h⟩:=aO h;obtain⟨X7,e14,h⟩:=aj h;rcases av h with⟨e15,h⟩|⟨e15,h⟩
    ·obtain⟨Jt,e17,h⟩:=aj h;try refine bK ?_
     refine hK _ _ ?_;exact ih aG Jt _ _ _ aN aZ _ h _ q0
    ·obtain rfl:=ak h;try refine bK ?_
     exact q0 _ _ rfl aN aZ
def gy:Nat->Int->(List (List Nd))->Int->Option Int
  |0,_,_,_=>none
  |k+1,kW,u7,bI=>
    cond (decide (bI<3)) (if 0<=bI then Option.bind (u7[bI.toNat]?) fun x39=>cond (decide ((IntKind.wrap .i64 (kW+(x39.length:Int)))<0)) (none) (gy k (IntKind.wrap .i64 (kW+(x39.length:Int))) u7 (IntKind.wrap .i64 (bI+1)))else none) (some (kW))
def Cq:List Nat:=[3,5]++List.range' 11 12
theorem JM: ∀(k:Nat) (kW:Int) (u7:List (List Nd)) (bI:Int) (sG:Ck) (aC σ:Nat->PV) (H:AH) (f0:Fr Cq aC σ) (sl:σ 3=(.int .i64 kW)/\σ 9=(.aB (u7.map (y5 Nd.cells)) sG)/\σ 10=(.int .i64 3)/\σ 11=(.int .i64 bI)) (o:Int) (h:gy k kW u7 bI=some o) (Q:Post) (q0: ∀(p:Int) (σ':Nat->PV),o=p->Fr Cq aC σ'->(σ' 3=(.int .i64 p))->Q (.exit 0) σ' H),W Tryz.prog (.loop Sb) Q σ H:=by
  intro k
  induction k with
  |zero=>intro kW u7 bI sG aC σ H f0 sl o h Q q0;simp only [gy,reduceCtorEq]at h
  |succ k ih=>
    intro kW u7 bI sG aC σ H f0 sl o h Q q0;obtain⟨s3,s9,s10,s11⟩:=sl;unfold gy at h;refine aV (fun K hK=>aD ?_);unfold Sb;rcases av h with⟨e37,h⟩|⟨e37,h⟩
    ·obtain⟨e38,h⟩:=aO h;obtain⟨x39,e40,h⟩:=aj h;rcases av h with⟨e41,h⟩|⟨e41,h⟩
     ·cases h
     ·try refine bK ?_
      refine hK _ _ ?_;exact ih (IntKind.wrap .i64 (kW+(x39.length:Int))) u7 (IntKind.wrap .i64 (bI+1)) sG _ _ _ aN aZ _ h _ q0
    ·obtain rfl:=ak h;try refine bK ?_
     exact q0 _ _ rfl aN aZ
def gB:Nat->(List Nd)->(List (List Nd))->Int->Option (List Nd)
  |0,_,_,_=>none
  |k+1,eu,fV,dQ=>
    cond (decide (dQ<3)) (if 0<=dQ then Option.bind (fV[dQ.toNat]?) fun x60=>if(eu.length+x60.length)*80<=1099511627776 then gB k (eu++x60) fV (IntKind.wrap .i64 (dQ+1))else none else none) (some (eu))
def Cr:List Nat:=[6,8]++List.range' 27 8
theorem JN: ∀(k:Nat) (iC:PV) (iD:List Nat) (M:List Nat) (eu:List Nd) (fV:List (List Nd)) (dQ:Int) (pX:Ck) (aC σ:Nat->PV) (H0 H:AH) (f0:Fr Cr aC σ) (hf0:HF M H0 H) (sl:σ 6=iC/\σ 25=(.aB (fV.map (y5 Nd.cells)) pX)/\σ 26=(.int .i64 3)/\σ 27=(.int .i64 dQ)) (iE:aK H Nd.cells 5 eu iC iD) (iQ:Nw H0 M iD) (o:List Nd) (h:gB k eu fV dQ=some o) (Q:Post) (q0: ∀(p:List Nd) (v0:PV) (oQ:List Nat) (σ':Nat->PV) (H':AH),o=p->Fr Cr aC σ'->HF M H0 H'->(σ' 6=v0)->aK H' Nd.cells 5 p v0 oQ->Nw H0 M oQ->Q (.exit 2) σ' H'),W Tryz.prog (.loop Sd) Q σ H:=by
  intro k
  induction k with
  |zero=>intro iC iD M eu fV dQ pX aC σ H0 H f0 hf0 sl iE iQ o h Q q0;simp only [gB,reduceCtorEq]at h
  |succ k ih=>
    intro iC iD M eu fV dQ pX aC σ H0 H f0 hf0 sl iE iQ o h Q q0;obtain⟨s6,uD,uS,wT⟩:=sl;have hle0:=hf0.1;unfold gB at h;refine aV (fun K hK=>aD ?_);unfold Sd;rcases av h with⟨e58,h⟩|⟨e58,h⟩
    ·obtain⟨e59,h⟩:=aO h;obtain⟨x60,e61,h⟩:=aj h;obtain⟨e62,h⟩:=aO h;try refine bK ?_
     refine acS (f:=Nd.cells) (v:=iC) Nd.row eu (x60:List Nd) .unk aZ (by repeat (first|exact iE|apply aK.new|refine aK.put ?_ (fun hm=>by have:=aK.lt iE _ hm;omega))) aZ e62 (fun v63 apP H65 r66 afZ TV alu=> ?_);have le:=TV.1;try simp only [AH.aI,AH.aJ,AH.aL,AH.aM]at le
     try refine bK ?_
     refine hK _ _ ?_;exact ih v63 apP M (eu++x60) fV (IntKind.wrap .i64 (dQ+1)) pX _ _ _ _ aN (by repeat (first|exact hf0|refine HF.new ?_|refine HF.eG ?_|refine HF.used ?_|refine HF.put (by first|(right;omega)|(left;simp only [List.mem_cons,true_or,or_true])) ?_|refine HF.via TV iQ ?_)) aZ (by repeat (first|exact r66|apply aK.new|refine aK.put ?_ (fun hm=>by have:=aK.lt r66 _ hm;omega))) (Nw.trans iQ bO afZ) _ h _ q0
    ·obtain rfl:=ak h;try refine bK ?_
     exact q0 _ iC iD _ _ rfl aN (by repeat (first|exact hf0|refine HF.new ?_|refine HF.eG ?_|refine HF.used ?_|refine HF.put (by first|(right;omega)|(left;simp only [List.mem_cons,true_or,or_true])) ?_)) aZ (by repeat (first|exact iE|apply aK.new|refine aK.put ?_ (fun hm=>by have:=aK.lt iE _ hm;omega))) iQ
def qp (k:Nat) (aG:List Nd) (dI:Int) (jC:List Nd):Option ((List Nd)×Int):=
  Option.bind (fF k aG) fun p2=>Option.bind (fP dI 0 (IntKind.wrap .i64 ((aG.length:Int) -1))) fun p4=>Option.bind (kE (!p4) 10) fun p6=>Option.bind (fF k jC) fun p8=>Option.bind (fG k [p2,p6,p8]) fun gT=>cond (gT !=0) (some ([],gT)) (Option.bind (lq k aG dI) (fun lI=>if 0<=lI/\lI.toNat<=aG.length then Option.bind (QC (aG.take lI.toNat)) fun p30=>Option.bind (DW jC 0 lI) fun p32=>if 0<=(IntKind.wrap .i64 (dI+1))/\(IntKind.wrap .i64 (dI+1)).toNat<=aG.length then Option.bind (DW (aG.drop (IntKind.wrap .i64 (dI+1)).toNat) dI (IntKind.wrap .i64 ((jC.length:Int) -(IntKind.wrap .i64 ((IntKind.wrap .i64 (dI -lI))+1))))) fun p35=>Option.bind (gy k 0 [p30,p32,p35] 0) (fun p44=>if 0<p44/\p44<=1000000 then Option.bind (gB k ([]:List Nd) [p30,p32,p35] 0) (fun p72=>Option.bind (fF k p72) fun Vb=>cond (Vb !=0) (some ([],Vb)) (some (p72,0)))else none)else none else none))
theorem ZC {k:Nat} {aG:List Nd} {dI:Int} {jC:List Nd} {c0 c2:Ck} {r:(List Nd)×Int} (h:qp k aG dI jC=some r):aF Tryz.prog 39 [(.aB (aG.map Nd.cells) c0),(.int .i64 dI),(.aB (jC.map Nd.cells) c2)] (.dw [(.aB (r.1.map Nd.cells) .unk),(.int .i64 r.2)]):=by
  refine aF.lw (.aB (.same (.aB .nil))) (aF.aP (bg.mem (.cons (aU Nd.pu _) (.cons (.int _ _) (.cons (aU Nd.pu _) .nil)))) (aH ak2 (by simp) (aD ?_)) (.dw _ (bg.mem (.cons (aU Nd.pu _) (.cons (.int _ _) .nil)))));unfold qp at h;unfold ak1;obtain⟨p2,e1,h⟩:=aj h;try refine bK ?_
  refine aA (tX e1) ?_;obtain⟨p4,e3,h⟩:=aj h;try refine bK ?_
  refine aA (fQ e3) ?_;obtain⟨p6,e5,h⟩:=aj h;try refine bK ?_
  refine aA (jI e5) ?_;obtain⟨p8,e7,h⟩:=aj h;try refine bK ?_
  refine aA (tX e7) ?_;obtain⟨gT,e9,h⟩:=aj h;try refine bK ?_
  refine aA (jk e9) ?_;rcases av h with⟨e11,h⟩|⟨e11,h⟩
  ·obtain rfl:=ak h;try refine bK ?_
   exact(bR (.cons (dN Nd.pu [] _) (.cons (.pure _ (.int _ _)) .nil)))
  ·try refine bK ?_
   obtain⟨o18,h19,h⟩:=aj h;refine QD k aG dI _ _ _ (Fr.refl _ _) aZ _ h19 _ ?_
   ·rintro lI σ' eo ab2 s24;rw [eo]at h;have uD:σ' 0=(.aB (aG.map Nd.cells) .unk):=(ab2 0 (by decide)).trans aZ;have uS:σ' 1=(.int .i64 dI):=(ab2 1 (by decide)).trans aZ;have wT:σ' 2=(.aB (jC.map Nd.cells) .unk):=(ab2 2 (by decide)).trans aZ;try refine bK ?_
    refine⟨(·=_),rfl,?_⟩
    obtain⟨e28,h⟩:=aO h;obtain⟨p30,e29,h⟩:=aj h;refine dX ?_;simp -implicitDefEqProofs only [go_sem,s24,uD,uS,wT,e28];refine dX ?_;simp -implicitDefEqProofs only [go_sem,s24,uD,uS,wT,e28];refine dX ?_;simp -implicitDefEqProofs only [go_sem,s24,uD,uS,wT,e28];refine rQ ?_;simp -implicitDefEqProofs only [go_sem,s24,uD,uS,wT,e28];refine PC.mk (ajM (aG.take lI.toNat) e29) ?_;obtain⟨p32,e31,h⟩:=aj h;refine dX ?_;simp -implicitDefEqProofs only [go_sem,s24,uD,uS,wT,e28];refine dX ?_;simp -implicitDefEqProofs only [go_sem,s24,uD,uS,wT,e28];refine dX ?_;simp -implicitDefEqProofs only [go_sem,s24,uD,uS,wT,e28];refine aax (g:=82) (fs:=[]) (cs:=[]) aZ ?_;simp -implicitDefEqProofs only [go_sem,s24,uD,uS,wT,e28];refine PC.mk (Vm jC 0 lI e31) ?_;obtain⟨e33,h⟩:=aO h;obtain⟨p35,e34,h⟩:=aj h;refine dX ?_;simp -implicitDefEqProofs only [go_sem,s24,uD,uS,wT,e28,e33];refine dX ?_;simp -implicitDefEqProofs only [go_sem,s24,uD,uS,wT,e28,e33];refine dX ?_;simp -implicitDefEqProofs only [go_sem,s24,uD,uS,wT,e28,e33];refine dX ?_;simp -implicitDefEqProofs only [go_sem,s24,uD,uS,wT,e28,e33];refine dX ?_;simp -implicitDefEqProofs only [go_sem,s24,uD,uS,wT,e28,e33];refine dX ?_;simp -implicitDefEqProofs only [go_sem,s24,uD,uS,wT,e28,e33];refine dX ?_;simp -implicitDefEqProofs only [go_sem,s24,uD,uS,wT,e28,e33];show WO _ _ _ _ _ _
    simp -implicitDefEqProofs only [go_sem,s24,uD,uS,wT,e28,e33];refine aA (Vm (aG.drop (IntKind.wrap .i64 (dI+1)).toNat) dI (IntKind.wrap .i64 ((jC.length:Int) -(IntKind.wrap .i64 ((IntKind.wrap .i64 (dI -lI))+1)))) e34) ?_;try refine bK ?_
    refine aH alG (by simp) (aD ?_);unfold alF;try refine bK ?_
    obtain⟨o42,h43,h⟩:=aj h;refine JM k 0 [p30,p32,p35] 0 .exact _ _ _ (Fr.refl _ _) aZ _ h43 _ ?_
    ·rintro p44 σ' eo atM s48;rw [eo]at h;have s49:σ' 0=(.aB ([p30,p32,p35].map (y5 Nd.cells)) .exact):=(atM 0 (by decide)).trans aZ;obtain⟨e50,h⟩:=aO h;try refine bK ?_
     refine He (f:=Nd.cells) (xs:=([]:List Nd)) (aeG p44 e50) (fun v51 air H53 r54 ax7 atN ali=> ?_);have le:=atN.1;try simp only [AH.aI,AH.aJ,AH.aL,AH.aM]at le
     try refine bK ?_
     obtain⟨o70,h71,h⟩:=aj h;refine JN k v51 air (air++[]) ([]:List Nd) [p30,p32,p35] 0 .exact _ _ _ _ (Fr.refl _ _) (HF.refl _ _) aZ (by repeat (first|exact r54|apply aK.new|refine aK.put ?_ (fun hm=>by have:=aK.lt r54 _ hm;omega))) (fun i hi=>Or.inl (by simp only [List.mem_append,List.mem_cons,hi,true_or,or_true])) _ h71 _ ?_
     ·rintro p72 v76 awy σ' H75 eo ax8 atO s80 r78 ax9;rw [eo]at h;have le:=atO.1;try simp only [AH.aI,AH.aJ,AH.aL,AH.aM]at le
      obtain⟨Vb,XJ,h⟩:=aj h;try refine bK ?_
      refine Fq (tX XJ) (.cons (aK.fz Nd.pu (by repeat (first|exact r78|apply aK.new|refine aK.put ?_ (fun hm=>by have:=aK.lt r78 _ hm;omega)))) .nil) (.cons (aU Nd.pu _) .nil) (.int _ _) ?_;rcases av h with⟨e83,h⟩|⟨e83,h⟩
      ·obtain rfl:=ak h;try refine bK ?_
       exact(bR (.cons (dN Nd.pu [] _) (.cons (.pure _ (.int _ _)) .nil)))
      ·obtain rfl:=ak h;try refine bK ?_
       exact(bR (.cons (aK.fz Nd.pu (by repeat (first|exact r78|apply aK.new|refine aK.put ?_ (fun hm=>by have:=aK.lt r78 _ hm;omega)))) (.cons (.pure _ (.int _ _)) .nil)))
end Go.VL
end
section
namespace Go.VL
open Tm
theorem Lh {e:List Nd}: ∀(t:Tm) (b:Nat),Seg e b t->Ev (fun k=>lq k e ((b+t.size -1:Nat):Int)) (b:Int)
  | .mk x [],b,h=>by
    have hn:=h.node;have e1:b+(Tm.mk x []).size -1=b:=by simp [size,sizes]
    simp only [sizes,Nat.add_zero]at hn;rw [e1];refine Ev.succ ?_;simp only [lq,nn,if_true,Int.toNat_natCast,hn,Option.bind_some];exact Ev.cF (by simp [nd,roots]) Ev.some
  | .mk x (c::cs),b,h=>by
    have hn:=h.node;have hp:=size_pos c;have hk:Seg e (b+sizes []) c:=h.kid (l:=[]);simp only [sizes,Nat.add_zero]at hk;have ih:=Lh c b hk;have e1:b+(Tm.mk x (c::cs)).size -1=b+sizes (c::cs):=by simp only [size];omega
    have e2:(nd x b (c::cs)).args=((b+c.size -1:Nat):Int)::roots (b+c.size) cs:=by unfold nd;simp only [roots]
    rw [e1];refine Ev.succ ?_;simp only [lq,nn,if_true,Int.toNat_natCast,hn,Option.bind_some,e2,List.getElem?_cons_zero];exact Ev.cT (by simp<;>omega) ih
theorem jd.sub {l m:List Nd} (h:jd l) (hl:m.length<=l.length) (hs: ∀n∈m,n∈l):jd m:=⟨Nat.le_trans hl h.len,fun i n hn=>by
  obtain⟨j,hj⟩:=List.mem_iff_getElem?.1 (hs n (List.mem_of_getElem? hn));exact h.nd j n hj⟩
theorem abk {l:List Nd} (hL:jd l):OL l=true:=by
  unfold OL;by_cases h:0<l.length
  · rw [OD hL h];rfl
  · rw [List.length_eq_zero_iff.1 (show l.length=0 by omega)];rfl
theorem agX {l:List Nd} (hL:jd l):QC l=some l:=by unfold QC;rw [if_pos (abk hL)]
theorem QE {l:List Nd} (hL:jd l) (a b:Int):DW l a b=some (l.map (Lg a b)):=by unfold DW;rw [if_pos (abk hL)]
theorem ait {ab g:Int} (hg: -1000000<=g/\g<=1000000) {n:Nd} (h: ∀a∈n.args,0<=a/\a<=1000000):Lg ab g n=Le ab g n:=by
  unfold Lg Le;congr 1
  refine List.map_congr_left fun a ha=> ?_;have:=h a ha;unfold QB QA;by_cases hc:ab<=a
  · rw [if_pos hc,show decide (a>=ab)=true from decide_eq_true hc,cond_true,wrap64 (by omega) (by omega)]
  · rw [if_neg hc,show decide (a>=ab)=false from decide_eq_false hc,cond_false]
theorem ajN {a b c:List Nd} (ha:a.length<=1000000) (hb:b.length<=1000000) (hc:c.length<=1000000):Ev (fun k=>gy k 0 [a,b,c] 0) ((a.length+b.length+c.length:Nat):Int):=by
  have w1:IntKind.wrap .i64 ((0:Int)+1)=1:=rfl;have w2:IntKind.wrap .i64 ((1:Int)+1)=2:=rfl;have w3:IntKind.wrap .i64 ((2:Int)+1)=3:=rfl;have s1:IntKind.wrap .i64 ((0:Int)+(a.length:Int))=a.length:=by rw [wrap64 (by omega) (by omega)];omega
  have s2:IntKind.wrap .i64 ((a.length:Int)+(b.length:Int))=((a.length+b.length:Nat):Int):=by rw [wrap64 (by omega) (by omega)];omega
  have s3:IntKind.wrap .i64 (((a.length+b.length:Nat):Int)+(c.length:Int))=((a.length+b.length+c.length:Nat):Int):=by rw [wrap64 (by omega) (by omega)];omega
  refine Ev.succ ?_;simp only [gy,w1,s1];refine Ev.cT rfl (Ev.kg (by omega) (Ev.jh rfl (Ev.cF (by rw [s1];exact decide_eq_false (by omega)) ?_)));rw [s1];refine Ev.succ ?_;simp only [gy,w2];refine Ev.cT rfl (Ev.kg (by omega) (Ev.jh rfl (Ev.cF (by rw [s2];exact decide_eq_false (by omega)) ?_)));rw [s2];refine Ev.succ ?_;simp only [gy,w3];refine Ev.cT rfl (Ev.kg (by omega) (Ev.jh rfl (Ev.cF (by rw [s3];exact decide_eq_false (by omega)) ?_)));rw [s3];refine Ev.succ ?_;simp only [gy];exact Ev.cF rfl Ev.some
theorem ajO {a b c:List Nd} (ha:a.length<=1000000) (hb:b.length<=1000000) (hc:c.length<=1000000):Ev (fun k=>gB k ([]:List Nd) [a,b,c] 0) (a++b++c):=by
  have w1:IntKind.wrap .i64 ((0:Int)+1)=1:=rfl;have w2:IntKind.wrap .i64 ((1:Int)+1)=2:=rfl;have w3:IntKind.wrap .i64 ((2:Int)+1)=3:=rfl;refine Ev.succ ?_;simp only [gB,w1];refine Ev.cT rfl (Ev.kg (by omega) (Ev.jh rfl (Ev.kg (by simp only [List.length_nil];omega) ?_)));refine Ev.succ ?_;simp only [gB,w2];refine Ev.cT rfl (Ev.kg (by omega) (Ev.jh rfl (Ev.kg (by rw [List.nil_append];omega) ?_)));refine Ev.succ ?_;simp only [gB,w3];refine Ev.cT rfl (Ev.kg (by omega) (Ev.jh rfl (Ev.kg (by rw [List.nil_append,List.length_append];omega) ?_)));refine Ev.succ ?_;simp only [gB];exact Ev.cF rfl (Ev.some' (by rw [List.nil_append]))
theorem I9 {e f:List Nd} {p c1 c3:Int} (h1:Ev (fun k=>fF k e) c1) (h3:Ev (fun k=>fF k f) c3) (hlen:e.length<=1000000) (hn:vS [c1,if 0<=p/\p<=(e.length:Int) -1 then 0 else 10,c3]≠0):
    Ev (fun k=>qp k e p f) ([],vS [c1,if 0<=p/\p<=(e.length:Int) -1 then 0 else 10,c3]):=by
  have hw:IntKind.wrap .i64 ((e.length:Int) -1)=(e.length:Int) -1:=wrap64 (by omega) (by omega);unfold qp;refine Ev.bind h1 ?_;simp only [lV,nC,Option.bind_some,hw];refine Ev.bind h3 ?_;have eb:(if(!decide (0<=p/\p<=(e.length:Int) -1))=true then(10:Int)else 0)=if 0<=p/\p<=(e.length:Int) -1 then 0 else 10:=by
    by_cases hp:0<=p/\p<=(e.length:Int) -1<;>simp [hp]
  rw [eb];exact Ev.bind (wJ _ (by simp)) (Ev.cT (by rw [bne_iff_ne];exact hn) Ev.some)
theorem aeI {t s:Tm} {p:Nat} {c:Int} (hp:p<t.size) (ht:t.size<=400) (hs:s.size<=400) (hLt:jd (flat 0 t)) (hLs:jd (flat 0 s)) (h1:Ev (fun k=>fF k (flat 0 t)) 0) (h3:Ev (fun k=>fF k (flat 0 s)) 0)
    (hc:Ev (fun k=>fF k (flat 0 (put t p s))) c):Ev (fun k=>qp k (flat 0 t) (p:Int) (flat 0 s)) (if c=0 then(flat 0 (put t p s),0)else([],c)):=by
  have hlen:(flat 0 t).length=t.size:=bV 0 t;have hls:(flat 0 s).length=s.size:=bV 0 s;have hb:=Us t p hp;have hsp:=size_pos (I8 t p);have hss:=size_pos s;have hpz:=Tm.AO s t p hp;have hw:IntKind.wrap .i64 (((flat 0 t).length:Int) -1)=(t.size:Int) -1:=by rw [hlen];exact wrap64 (by omega) (by omega)
  have hseg:=abh t 0 p hp (Seg.whole t);have aoh:=Lh _ _ hseg;rw [show 0+Ay t p+(I8 t p).size -1=p by omega,Nat.zero_add]at aoh;have hg:IntKind.wrap .i64 (((flat 0 s).length:Int) -IntKind.wrap .i64 (IntKind.wrap .i64 ((p:Int) -(Ay t p:Int))+1))=((put t p s).size:Int) -t.size:=by
    rw [hls,wrap64 (x:=(p:Int) -(Ay t p:Int)) (by omega) (by omega),wrap64 (x:=(p:Int) -(Ay t p:Int)+1) (by omega) (by omega),wrap64 (by omega) (by omega)];omega
  have hp1:IntKind.wrap .i64 ((p:Int)+1)=((p+1:Nat):Int):=by rw [wrap64 (by omega) (by omega)];omega
  have m1:(flat 0 s).map (Lg 0 (Ay t p:Int))=flat (0+Ay t p) s:=by
    rw [<-I7 (Ay t p) s 0];refine List.map_congr_left fun n hn=> ?_;have hr:=F4 s 0 n hn;rw [ait (by omega) (fun a ha=>by have:=hr a ha;omega)];unfold Le F5;congr 1
    refine List.map_congr_left fun a ha=> ?_;unfold QA;rw [if_pos (hr a ha).1]
  have m2:((flat 0 t).drop (p+1)).map (Lg (p:Int) (((put t p s).size:Int) -t.size))=((flat 0 t).drop (p+1)).map (Le ((0+p:Nat):Int) (((put t p s).size:Int) -t.size)):=by
    refine List.map_congr_left fun n hn=> ?_;have hr:=F4 t 0 n (List.mem_of_mem_drop hn);rw [ait (by omega) (fun a ha=>by have:=hr a ha;omega),Nat.zero_add]
  have hout:=OJ s t 0 p hp;rw [<-m1,<-m2]at hout;have l1:((flat 0 t).take (Ay t p)).length<=1000000:=by rw [List.length_take];omega
  have l2:((flat 0 s).map (Lg 0 (Ay t p:Int))).length<=1000000:=by rw [List.length_map];omega
  have l3:(((flat 0 t).drop (p+1)).map (Lg (p:Int) (((put t p s).size:Int) -t.size))).length<=1000000:=by rw [List.length_map,List.length_drop];omega
  unfold qp;refine Ev.bind h1 ?_;simp only [lV,nC,Option.bind_some,hw];refine Ev.bind h3 (Ev.bind (wJ _ (by simp)) ?_);rw [show decide ((0:Int)<=(p:Int)/\(p:Int)<=(t.size:Int) -1)=true from decide_eq_true (by omega)];refine Ev.cF rfl (Ev.bind aoh (Ev.kg (by omega) ?_))
  simp only [Int.toNat_natCast,agX (hLt.sub (m:=(flat 0 t).take (Ay t p)) (by rw [List.length_take];omega) (fun n hn=>List.mem_of_mem_take hn)),QE hLs,Option.bind_some,hp1,hg,
    QE (hLt.sub (m:=(flat 0 t).drop (p+1)) (by rw [List.length_drop];omega) (fun n hn=>List.mem_of_mem_drop hn))]
  refine Ev.kg (by omega) (Ev.bind (ajN l1 l2 l3) (Ev.kg ?_ (Ev.bind (ajO l1 l2 l3) ?_)))
  · rw [List.length_take,List.length_map,List.length_map,List.length_drop];omega
  · rw [<-hout];refine Ev.bind hc ?_;by_cases h0:c=0
    · rw [if_pos h0];exact Ev.cF (by rw [h0];rfl) Ev.some
    · rw [if_neg h0];exact Ev.cT (by rw [bne_iff_ne];exact h0) Ev.some
end Go.VL
end
section
set_option maxHeartbeats 4000000
namespace Go.VL
open Go.Proofs
def oD (k:Nat) (mM:Str) (mO:Str) (qI:Int) (qw:List Nd) (ZE:Bool):Option Bool:=
  cond ZE (some (true)) (Option.bind (LX k qw) fun p5=>cond p5 (cond (decide ((mM.length:Int)>100)) (some (true)) (some ((decide ((mO.length:Int)>100))))) (some (true)))
def CU:List Nat:=List.range' 21 17
theorem Li (k:Nat): ∀(qJ:Nat) (mM:Str) (mO:Str) (qI:Int) (qw:List Nd) (ZE:Bool) (aC σ:Nat->PV) (H:AH) (f0:Fr CU aC σ) (sl:σ 3=(.ref (qJ) 0)/\σ 20=(.bool ZE)/\H.obj qJ=some [(.str mM),(.str mO),(.int .i64 qI),(.aB (qw.map Nd.cells) .unk)]) (rA:qJ<H.next) (o:Bool) (h:oD k mM mO qI qw ZE=some o) (Q:Post) (q0: ∀(p:Bool) (σ':Nat->PV),o=p->Fr CU aC σ'->(σ' 37=(.bool p))->Q .normal σ' H),cO Tryz.prog Xd (Q .normal) σ H:=by
  intro qJ mM mO qI qw ZE aC σ H f0 sl rA o h Q q0;obtain⟨s3,s20,abl⟩:=sl;have abm:=ne_next rA;have abn:=aS rA;unfold oD at h;refine dx ?_;unfold Xd;rcases av h with⟨e3,h⟩|⟨e3,h⟩
  ·obtain rfl:=ak h;try refine ah ?_
   exact q0 _ _ rfl aN au
  ·obtain⟨p5,e4,h⟩:=aj h;try refine ah ?_
   refine aA (aaS e4) ?_;rcases av h with⟨e6,h⟩|⟨e6,h⟩
   ·rcases av h with⟨e7,h⟩|⟨e7,h⟩
    ·obtain rfl:=ak h;try refine ah ?_
     exact q0 _ _ rfl aN au
    ·obtain rfl:=ak h;try refine ah ?_
     exact q0 _ _ rfl aN au
   ·obtain rfl:=ak h;try refine ah ?_
    exact q0 _ _ rfl aN au
def sS (Lj:List Nd) (Ct:List Nd) (g_8:Int) (d_9:Int) (uV:Bool):Option Bool:=
  cond uV (cond ((Lj.length:Int)==0) (cond (g_8==d_9) (some (((Ct.length:Int)==0))) (some (false))) (some (false))) (some (false))
def CV:List Nat:=List.range' 67 14
theorem Ll: ∀(Lj:List Nd) (Ct:List Nd) (g_8:Int) (d_9:Int) (uV:Bool) (aC σ:Nat->PV) (H:AH) (f0:Fr CV aC σ) (sl:σ 5=(.aB (Lj.map Nd.cells) .unk)/\σ 7=(.aB (Ct.map Nd.cells) .unk)/\σ 8=(.int .i64 g_8)/\σ 9=(.int .i64 d_9)/\σ 66=(.bool uV)) (o:Bool) (h:sS Lj Ct g_8 d_9 uV=some o) (Q:Post) (q0: ∀(p:Bool) (σ':Nat->PV),o=p->Fr CV aC σ'->(σ' 80=(.bool p))->Q .normal σ' H),cO Tryz.prog Xe (Q .normal) σ H:=by
  intro Lj Ct g_8 d_9 uV aC σ H f0 sl o h Q q0;obtain⟨s5,s7,s8,s9,s66⟩:=sl;unfold sS at h;refine dx ?_;unfold Xe;rcases av h with⟨e31,h⟩|⟨e31,h⟩
  ·rcases av h with⟨e32,h⟩|⟨e32,h⟩
   ·rcases av h with⟨e33,h⟩|⟨e33,h⟩
    ·obtain rfl:=ak h;try refine ah ?_
     exact q0 _ _ rfl aN au
    ·obtain rfl:=ak h;try refine ah ?_
     exact q0 _ _ rfl aN au
   ·obtain rfl:=ak h;try refine ah ?_
    exact q0 _ _ rfl aN au
  ·obtain rfl:=ak h;try refine ah ?_
   exact q0 _ _ rfl aN au
def oG (k:Nat) (mM:Str) (mO:Str) (qI:Int) (qw:List Nd) (ZF:Bool):Option Bool:=
  cond ZF (Option.bind (og k mO) fun p45=>some (p45)) (some (false))
theorem Lm (k:Nat): ∀(qJ:Nat) (mM:Str) (mO:Str) (qI:Int) (qw:List Nd) (ZF:Bool) (aC σ:Nat->PV) (H:AH) (f0:Fr [85,86,87,88] aC σ) (sl:σ 3=(.ref (qJ) 0)/\σ 84=(.bool ZF)/\H.obj qJ=some [(.str mM),(.str mO),(.int .i64 qI),(.aB (qw.map Nd.cells) .unk)]) (rA:qJ<H.next) (o:Bool) (h:oG k mM mO qI qw ZF=some o) (Q:Post) (q0: ∀(p:Bool) (σ':Nat->PV),o=p->Fr [85,86,87,88] aC σ'->(σ' 88=(.bool p))->Q .normal σ' H),cO Tryz.prog Xf (Q .normal) σ H:=by
  intro qJ mM mO qI qw ZF aC σ H f0 sl rA o h Q q0;obtain⟨s3,s84,abl⟩:=sl;have abm:=ne_next rA;have abn:=aS rA;unfold oG at h;refine dx ?_;unfold Xf;rcases av h with⟨e43,h⟩|⟨e43,h⟩
  ·obtain⟨p45,e44,h⟩:=aj h;try refine ah ?_
   refine aA (rV e44) ?_;obtain rfl:=ak h;try refine ah ?_
   exact q0 _ _ rfl aN au
  ·obtain rfl:=ak h;try refine ah ?_
   exact q0 _ _ rfl aN au
def jm (k:Nat) (aG:List Nd) (mM:Str) (mO:Str) (qI:Int) (qw:List Nd) (pG:List Nd):Option (((List Nd)×Int)):=
  Option.bind (og k mM) fun p42=>Option.bind (oG k mM mO qI qw p42) (fun p48=>cond p48 (Option.bind (Bo k aG mM mO) fun p59=>some ((p59.1,p59.2))) (some ((pG,7))))
def CW:List Nat:=[10,11]++List.range' 81 17
theorem Lp (k:Nat): ∀(qJ:Nat) (aG:List Nd) (mM:Str) (mO:Str) (qI:Int) (qw:List Nd) (pG:List Nd) (Az:Ck) (aC σ:Nat->PV) (H:AH) (f0:Fr CW aC σ) (sl:σ 0=(.aB (aG.map Nd.cells) .unk)/\σ 3=(.ref (qJ) 0)/\σ 10=(.aB (pG.map Nd.cells) Az)/\σ 11=(.int .i64 7)/\H.obj qJ=some [(.str mM),(.str mO),(.int .i64 qI),(.aB (qw.map Nd.cells) .unk)]) (rA:qJ<H.next) (o:((List Nd)×Int)) (h:jm k aG mM mO qI qw pG=some o) (Q:Post) (q0: ∀(p:(List Nd)×Int) (c0:Ck) (σ':Nat->PV),o=p->Fr CW aC σ'->(σ' 10=(.aB (p.1.map Nd.cells) c0)/\σ' 11=(.int .i64 p.2))->Q .normal σ' H),W Tryz.prog Xg Q σ H:=by
  intro qJ aG mM mO qI qw pG Az aC σ H f0 sl rA o h Q q0;obtain⟨s0,s3,s10,s11,abl⟩:=sl;have abm:=ne_next rA;have abn:=aS rA;unfold jm at h;refine aD ?_;unfold Xg;obtain⟨p42,e41,h⟩:=aj h;try refine ah ?_
  refine aA (rV e41) ?_;try refine ah ?_
  obtain⟨o46,h47,h⟩:=aj h;refine Lm k (qJ) mM mO qI qw p42 _ _ _ (Fr.refl _ _) au bO _ h47 _ ?_
  ·rintro p48 σ' eo Uu s52;rw [eo]at h;have s53:σ' 0=(.aB (aG.map Nd.cells) .unk):=(Uu 0 (by decide)).trans au;have s54:σ' 3=(.ref (qJ) 0):=(Uu 3 (by decide)).trans au;have s55:σ' 10=(.aB (pG.map Nd.cells) Az):=(Uu 10 (by decide)).trans au;have s56:σ' 11=(.int .i64 7):=(Uu 11 (by decide)).trans au;rcases av h with⟨e57,h⟩|⟨e57,h⟩
   ·obtain⟨p59,e58,h⟩:=aj h;try refine ah ?_
    refine aA (acO k aG mM mO e58) ?_;obtain rfl:=ak h;try refine ah ?_
    exact q0 _ .unk _ rfl (by repeat (first|exact f0|refine Fr.upd (by decide) ?_|refine Fr.via Uu (by decide) ?_)) au
   ·obtain rfl:=ak h;try refine ah ?_
    exact q0 _ Az _ rfl (by repeat (first|exact f0|refine Fr.upd (by decide) ?_|refine Fr.via Uu (by decide) ?_)) au
def sU (k:Nat) (Lj:List Nd) (pG:List Nd) (QF:Bool):Option Bool:=
  cond QF (some (true)) (Option.bind (wo k Lj pG) fun p77=>some ((!p77)))
def CX:List Nat:=[102,103,104,105,106]
theorem Lr (k:Nat): ∀(Lj:List Nd) (pG:List Nd) (QF:Bool) (Ls:Ck) (aC σ:Nat->PV) (H:AH) (f0:Fr CX aC σ) (sl:σ 5=(.aB (Lj.map Nd.cells) .unk)/\σ 10=(.aB (pG.map Nd.cells) Ls)/\σ 101=(.bool QF)) (o:Bool) (h:sU k Lj pG QF=some o) (Q:Post) (q0: ∀(p:Bool) (σ':Nat->PV),o=p->Fr CX aC σ'->(σ' 106=(.bool p))->Q .normal σ' H),cO Tryz.prog Xh (Q .normal) σ H:=by
  intro Lj pG QF Ls aC σ H f0 sl o h Q q0;obtain⟨s5,s10,amR⟩:=sl;unfold sU at h;refine dx ?_;unfold Xh;rcases av h with⟨Kk,h⟩|⟨Kk,h⟩
  ·obtain rfl:=ak h;try refine ah ?_
   exact q0 _ _ rfl aN au
  ·obtain⟨p77,MK,h⟩:=aj h;try refine ah ?_
   refine aA (Kz MK) ?_;obtain rfl:=ak h;try refine ah ?_
   exact q0 _ _ rfl aN au
def sV (Ct:List Nd) (QG:Bool):Option Bool:=
  cond QG (some (((Ct.length:Int)==0))) (some (false))
theorem Lu: ∀(Ct:List Nd) (QG:Bool) (aC σ:Nat->PV) (H:AH) (f0:Fr [130,131,132,133] aC σ) (sl:σ 7=(.aB (Ct.map Nd.cells) .unk)/\σ 129=(.bool QG)) (o:Bool) (h:sV Ct QG=some o) (Q:Post) (q0: ∀(p:Bool) (σ':Nat->PV),o=p->Fr [130,131,132,133] aC σ'->(σ' 133=(.bool p))->Q .normal σ' H),cO Tryz.prog Xj (Q .normal) σ H:=by
  intro Ct QG aC σ H f0 sl o h Q q0;obtain⟨s7,aya⟩:=sl;unfold sV at h;refine dx ?_;unfold Xj;rcases av h with⟨UG,h⟩|⟨UG,h⟩
  ·obtain rfl:=ak h;try refine ah ?_
   exact q0 _ _ rfl aN au
  ·obtain rfl:=ak h;try refine ah ?_
   exact q0 _ _ rfl aN au
def sW (Ct:List Nd) (QH:Bool):Option Bool:=
  cond QH (some (((Ct.length:Int)==0))) (some (false))
theorem Lv: ∀(Ct:List Nd) (QH:Bool) (aC σ:Nat->PV) (H:AH) (f0:Fr [117,118,119,120] aC σ) (sl:σ 7=(.aB (Ct.map Nd.cells) .unk)/\σ 116=(.bool QH)) (o:Bool) (h:sW Ct QH=some o) (Q:Post) (q0: ∀(p:Bool) (σ':Nat->PV),o=p->Fr [117,118,119,120] aC σ'->(σ' 120=(.bool p))->Q .normal σ' H),cO Tryz.prog Xi (Q .normal) σ H:=by
  intro Ct QH aC σ H f0 sl o h Q q0;obtain⟨s7,ayb⟩:=sl;unfold sW at h;refine dx ?_;unfold Xi;rcases av h with⟨Ob,h⟩|⟨Ob,h⟩
  ·obtain rfl:=ak h;try refine ah ?_
   exact q0 _ _ rfl aN au
  ·obtain rfl:=ak h;try refine ah ?_
   exact q0 _ _ rfl aN au
def xX (k:Nat) (aG:List Nd) (x_1:Change):Option Bool:=
  Option.bind (LX k aG) fun p2=>Option.bind (oD k x_1.from_ x_1.to x_1.node x_1.qN (!p2)) (fun gT=>cond gT (some true) (Option.bind (vo k aG) fun uz=>Option.bind (qj k uz x_1.from_ x_1.to) fun mF=>Option.bind (vo k x_1.qN) fun p25=>Option.bind (qp k uz x_1.node p25) fun p27=>Option.bind (qG k aG) fun p29=>cond (p29 !=0) (Option.bind (sS mF.1 p27.1 p27.2 p29 (mF.2==p29)) (fun p36=>some p36)) (Option.bind (jm k aG x_1.from_ x_1.to x_1.node x_1.qN ([]:List Nd)) (fun p62=>Option.bind (sU k mF.1 p62.1 (mF.2 !=p62.2)) (fun wS=>cond wS (some false) (Option.bind (gH x_1.node 0 (IntKind.wrap .i64 ((aG.length:Int) -1))) fun kN=>cond kN (Option.bind (qG k x_1.qN) fun GU=>cond (GU !=0) (Option.bind (sV p27.1 (p27.2==GU)) (fun Ze=>some Ze)) (Option.bind (qo k aG x_1.node x_1.qN) fun agY=>Option.bind (qG k agY) fun Td=>cond (Td !=0) (cond (p27.2==Td) (some ((p27.1.length:Int)==0)) (some false)) (cond (p27.2==0) (Option.bind (wo k p27.1 agY) fun CK=>some CK) (some false)))) (Option.bind (sW p27.1 (p27.2==10)) (fun aoi=>some aoi))))))))
theorem QI {k:Nat} {aG:List Nd} {x_1:Change} {c0:Ck} {r:Bool} (h:xX k aG x_1=some r):aF Tryz.prog 9 [(.aB (aG.map Nd.cells) c0),(.agg (Change.cells x_1))] (.bool r):=by
  refine aF.lw (.aB (.same .nil)) (aF.aP (bg.mem (.cons (aU Nd.pu _) (.cons (.agg _ (Change.pu _)) .nil))) (aH ok9 (by simp) (aD ?_)) (.bool _));unfold xX at h;unfold ac9;try refine ah ?_
  refine aA (ajF) ?_;obtain⟨p2,e1,h⟩:=aj h;try refine ah ?_
  refine aA (aaS e1) ?_;try refine ah ?_
  obtain⟨o8,h9,h⟩:=aj h;refine Li k (AH.empty.next) x_1.from_ x_1.to x_1.node x_1.qN (!p2) _ _ _ (Fr.refl _ _) au bO _ h9 _ ?_
  ·rintro gT σ' eo Iz MN;rw [eo]at h;have s15:σ' 0=(.aB (aG.map Nd.cells) .unk):=(Iz 0 (by decide)).trans au;have s16:σ' 3=(.ref (AH.empty.next) 0):=(Iz 3 (by decide)).trans au;rcases av h with⟨e17,h⟩|⟨e17,h⟩
   ·obtain rfl:=ak h;try refine ah ?_
    exact(.pure _ (.bool _))
   ·try refine ah ?_
    refine eF ?_;obtain⟨uz,e18,h⟩:=aj h;try refine ah ?_
    refine PC.mk (Bv e18) ?_;obtain⟨mF,e20,h⟩:=aj h;try refine ah ?_
    refine PC.mk (aao k uz x_1.from_ x_1.to e20) ?_;try refine ah ?_
    refine eF ?_;try refine ah ?_
    refine PC.mk (Bv e18) ?_;obtain⟨p25,e24,h⟩:=aj h;try refine ah ?_
    refine PC.mk (Bv e24) ?_;obtain⟨p27,e26,h⟩:=aj h;try refine ah ?_
    refine PC.mk (ZC e26) ?_;obtain⟨p29,e28,h⟩:=aj h;try refine ah ?_
    refine aA (Tq e28) ?_;rcases av h with⟨e30,h⟩|⟨e30,h⟩
    ·try refine ah ?_
     obtain⟨o34,h35,h⟩:=aj h;refine Ll mF.1 p27.1 p27.2 p29 (mF.2==p29) _ _ _ (Fr.refl _ _) au _ h35 _ ?_
     ·rintro p36 σ' eo YA s40;rw [eo]at h;obtain rfl:=ak h;try refine ah ?_
      exact(.pure _ (.bool _))
    ·try refine ah ?_
     obtain⟨o60,h61,h⟩:=aj h;refine Lp k (AH.empty.next) aG x_1.from_ x_1.to x_1.node x_1.qN ([]:List Nd) .nil _ _ _ (Fr.refl _ _) au bO _ h61 _ ?_
     ·rintro p62 c66 σ' eo Uv ⟨s67,s68⟩;rw [eo]at h;have s69:σ' 0=(.aB (aG.map Nd.cells) .unk):=(Uv 0 (by decide)).trans au;have s70:σ' 3=(.ref (AH.empty.next) 0):=(Uv 3 (by decide)).trans au;have s71:σ' 5=(.aB (mF.1.map Nd.cells) .unk):=(Uv 5 (by decide)).trans au;have s72:σ' 6=(.int .i64 mF.2):=(Uv 6 (by decide)).trans au;have Xx:σ' 7=(.aB (p27.1.map Nd.cells) .unk):=(Uv 7 (by decide)).trans au;have s74:σ' 8=(.int .i64 p27.2):=(Uv 8 (by decide)).trans au;try refine ah ?_
      obtain⟨o78,Yz,h⟩:=aj h;refine Lr k mF.1 p62.1 (mF.2 !=p62.2) c66 _ _ _ (Fr.refl _ _) au _ Yz _ ?_
      ·rintro wS σ' eo zL s84;rw [eo]at h;have s85:σ' 0=(.aB (aG.map Nd.cells) .unk):=(zL 0 (by decide)).trans au;have s86:σ' 3=(.ref (AH.empty.next) 0):=(zL 3 (by decide)).trans au;have s87:σ' 7=(.aB (p27.1.map Nd.cells) .unk):=(zL 7 (by decide)).trans au;have s88:σ' 8=(.int .i64 p27.2):=(zL 8 (by decide)).trans au;rcases av h with⟨Kl,h⟩|⟨Kl,h⟩
       ·obtain rfl:=ak h;try refine ah ?_
        exact(.pure _ (.bool _))
       ·obtain⟨kN,Pm,h⟩:=aj h;try refine ah ?_
        refine aA (gM Pm) ?_;rcases av h with⟨e92,h⟩|⟨e92,h⟩
        ·obtain⟨GU,Kn,h⟩:=aj h;try refine ah ?_
         refine aA (Tq Kn) ?_;rcases av h with⟨e95,h⟩|⟨e95,h⟩
         ·try refine ah ?_
          obtain⟨o97,h98,h⟩:=aj h;refine Lu p27.1 (p27.2==GU) _ _ _ (Fr.refl _ _) au _ h98 _ ?_
          ·rintro Ze σ' eo awz ayc;rw [eo]at h;obtain rfl:=ak h;try refine ah ?_
           exact(.pure _ (.bool _))
         ·obtain⟨agY,Yq,h⟩:=aj h;try refine ah ?_
          refine aA (aav Yq) ?_;obtain⟨Td,XL,h⟩:=aj h;try refine ah ?_
          refine aA (Tq XL) ?_;rcases av h with⟨e108,h⟩|⟨e108,h⟩
          ·rcases av h with⟨e109,h⟩|⟨e109,h⟩
           ·obtain rfl:=ak h;try refine ah ?_
            exact(.pure _ (.bool _))
           ·obtain rfl:=ak h;try refine ah ?_
            exact(.pure _ (.bool _))
          ·rcases av h with⟨Kq,h⟩|⟨Kq,h⟩
           ·obtain⟨CK,Oa,h⟩:=aj h;try refine ah ?_
            refine aA (Kz Oa) ?_;obtain rfl:=ak h;try refine ah ?_
            exact(.pure _ (.bool _))
           ·obtain rfl:=ak h;try refine ah ?_
            exact(.pure _ (.bool _))
        ·try refine ah ?_
         obtain⟨ayd,atP,h⟩:=aj h;refine Lv p27.1 (p27.2==10) _ _ _ (Fr.refl _ _) au _ atP _ ?_
         ·rintro aoi σ' eo awC aye;rw [eo]at h;obtain rfl:=ak h;try refine ah ?_
          exact(.pure _ (.bool _))
end Go.VL
end
section
namespace Go.VL
open Tm
theorem abo {e:List Nd} (h:wX e=true):Mod e:=fun n hn=>by
  obtain⟨i,hi⟩:=List.mem_iff_getElem?.1 hn;have:=(EM h).2 i n hi;omega
theorem Uw {e qN:List Nd} {aT bf:Str} {node:Int} (hf:wX e=true) (UR:wX qN=true) (aoj:bf.length<=100):
    ∃(a b w:List Nd) (f g c:Int),Ev (fun k=>qj k e aT bf) (a,f)/\Ev (fun k=>qp k e node qN) (b,g)/\(∀d,Ev (fun k=>qG k e) d->(d≠0->a=[]/\f=d/\b=[]/\g=d)/\(d=0->
      Ev (fun k=>jm k e aT bf node qN ([]:List Nd)) (w,c)/\a=w/\f=c/\jd a/\(¬(0<=node/\node<=(e.length:Int) -1)->b=[]/\g=10)/\(0<=node/\node<=(e.length:Int) -1-> ∃d2,Ev (fun k=>qG k qN) d2/\(d2≠0->b=[]/\g=d2)/\
        (d2=0-> ∃(q:List Nd) (d3:Int),Ev (fun k=>qo k e node qN) q/\Ev (fun k=>qG k q) d3/\jd q/\(d3≠0->b=[]/\g=d3)/\(d3=0->b=q/\g=0))))):=by
  have hL:=I5 hf;have ZG:=I5 UR;have hlen:=hL.len;obtain⟨r,ht,hr,hv⟩:=Dq e hL;obtain⟨rb,htb,hrb,hvb⟩:=Dq qN ZG;have acT:Ev (fun k=>fF k e) r.2:=by unfold fF;exact Ev.bind ht Ev.some
  have F7:Ev (fun k=>qG k e) r.2:=by unfold qG;exact Ev.bind hr Ev.some
  have Ik:Ev (fun k=>fF k qN) rb.2:=by unfold fF;exact Ev.bind htb Ev.some
  have ZH:Ev (fun k=>qG k qN) rb.2:=by unfold qG;exact Ev.bind hrb Ev.some
  have nm2:Ev (fun k=>EZ k aT bf) (!(rName aT&&rName bf)):=by
    unfold EZ;refine Ev.bind (l5 aT) ?_;cases h1:rName aT with
    |false=>exact Ev.cF rfl (Ev.some' rfl)
    |true=>exact Ev.cT rfl (Ev.bind (l5 bf) (Ev.some' (by simp)))
  have abp: ∀c,r.2≠0\/(rName aT&&rName bf)=false->vS [r.2,if(!(rName aT&&rName bf))=true then 7 else 0]=c->c≠0->Ev (fun k=>qj k e aT bf) ([],c):=by
    intro c _ hc h0;unfold qj;refine Ev.bind acT (Ev.bind nm2 ?_);simp only [nC,Option.bind_some];refine Ev.bind (wJ _ (by simp)) ?_;rw [hc];exact Ev.cT (by rw [bne_iff_ne];exact h0) Ev.some
  by_cases h0:r.2=0
  case neg=>
    have e1: ∀c,vS [r.2,c]=r.2:=fun c=>by simp [vS,h0]
    have e2: ∀c c',vS [r.2,c,c']=r.2:=fun c c'=>by simp [vS,h0]
    have rp:=I9 (p:=node) acT Ik hlen (by rw [e2];exact h0);rw [e2]at rp;refine⟨[],[],[],r.2,r.2,0,abp _ (.inl h0) (e1 _) h0,rp,fun d hd=> ?_⟩;obtain rfl:=F7.uniq hd;exact⟨fun _=>⟨rfl,rfl,rfl,rfl⟩,fun h=>absurd h h0⟩
  have hV:=hv h0;have hF:=agK hf hV;obtain⟨vs,h⟩:=apG hV hL hF;have LA:Ev (fun k=>fF k e) 0:=h0▸acT;obtain⟨a,f,rn1,rn2,rn3⟩: ∃(a:List Nd) (f:Int),Ev (fun k=>qj k e aT bf) (a,f)/\Ev (fun k=>jm k e aT bf node qN ([]:List Nd)) (a,f)/\jd a:=by
    cases hn:(rName aT&&rName bf)with
    |false=>
      refine⟨[],7,abp 7 (.inr hn) (by rw [hn,h0];rfl) (by decide),?_,⟨by simp,fun i n hi=>by simp at hi⟩⟩;unfold jm oG;refine Ev.bind (lW aT) ?_;cases h1:rName aT with
      |false=>exact Ev.bind (x:=false) (Ev.cF rfl Ev.some) (Ev.cF rfl Ev.some)
      |true=>
        have h2:rName bf=false:=by rw [h1]at hn;exact hn
        exact Ev.bind (x:=false) (Ev.cT rfl (Ev.bind (lW bf) (Ev.some' h2))) (Ev.cF rfl Ev.some)
    |true=>
      obtain⟨h1,h2⟩:=Bool.and_eq_true _ _▸hn;have q1:=Zj h hL LA h1 h2;have q2:=aap h hL hF aT bf;have lt:=agP (aT:=aT) (bf:=bf) h hL (by omega);have j3: ∀v:List Nd×Int,Ev (fun k=>Bo k e aT bf) v->Ev (fun k=>jm k e aT bf node qN ([]:List Nd)) (v.1,v.2):=by
        intro v hv;unfold jm oG;refine Ev.bind (lW aT) (Ev.bind (x:=true) (Ev.cT h1 (Ev.bind (lW bf) (Ev.some' h2))) (Ev.cT rfl (Ev.bind hv Ev.some)))
      cases hc:(vs.any fun v=>lD e aT v&&decide (bf∈v.2))with
      |true=>
        rw [hc]at q1 q2;exact⟨[],19,q1,j3 _ q2,⟨by simp,fun i n hi=>by simp at hi⟩⟩
      |false=>
        rw [hc]at q1 q2;exact⟨_,0,q1,j3 _ q2,lt⟩
  by_cases hp:0<=node/\node<=(e.length:Int) -1
  case neg=>
    have rp:=I9 (p:=node) LA Ik hlen (by rw [if_neg hp];simp [vS]);rw [if_neg hp,show vS [0,10,rb.2]=10 from rfl]at rp;refine⟨a,[],a,f,10,f,rn1,rp,fun d hd=> ?_⟩;obtain rfl:=F7.uniq hd;exact⟨fun h=>absurd h0 h,fun _=>⟨rn2,rfl,rfl,rn3,fun _=>⟨rfl,rfl⟩,fun h=>absurd h hp⟩⟩
  by_cases hb0:rb.2=0
  case neg=>
    have e2:vS [0,if 0<=node/\node<=(e.length:Int) -1 then 0 else 10,rb.2]=rb.2:=by rw [if_pos hp];simp [vS,eq_comm]
    have rp:=I9 (p:=node) LA Ik hlen (by rw [e2];exact hb0);rw [e2]at rp;refine⟨a,[],a,f,rb.2,f,rn1,rp,fun d hd=> ?_⟩;obtain rfl:=F7.uniq hd;exact⟨fun h=>absurd h0 h,fun _=>⟨rn2,rfl,rfl,rn3,fun h=>absurd hp h,fun _=>⟨rb.2,ZH,fun _=>⟨rfl,rfl⟩,fun h=>absurd h hb0⟩⟩⟩
  obtain⟨t,he⟩:=hV.tree;obtain⟨s,hs⟩:=(hvb hb0).tree;have hl1:=(EM hf).1;have hl2:=(EM UR).1;have hts:e.length=t.size:=by rw [he,bV]
  have hss:qN.length=s.size:=by rw [hs,bV]
  have hm1:=abo hf;have hm2:=abo UR;obtain⟨p,rfl⟩: ∃p:Nat,node=p:=⟨node.toNat,by omega⟩;have hpt:p<t.size:=by omega
  rw [he]at hL LA hm1;rw [hs]at ZG hm2 Ik;rw [hb0]at Ik;have hsz:=Tm.AO s t p hpt;have hLq:jd (flat 0 (put t p s)):=by
    refine⟨by rw [bV];omega,fun i n hn=> ?_⟩;have hmem:=List.mem_of_getElem? hn;rw [OJ s t 0 p hpt]at hmem;rcases List.mem_append.1 hmem with hmem|hmem
    · rcases List.mem_append.1 hmem with hmem|hmem
      · obtain⟨j,hj⟩:=List.mem_iff_getElem?.1 (List.mem_of_mem_take hmem);exact hL.nd j n hj
      · rw [<-I7 (Ay t p) s 0]at hmem;obtain⟨m,hm,rfl⟩:=List.mem_map.1 hmem;obtain⟨j,hj⟩:=List.mem_iff_getElem?.1 hm;simpa [F5]using ZG.nd j m hj
    · obtain⟨m,hm,rfl⟩:=List.mem_map.1 hmem;obtain⟨j,hj⟩:=List.mem_iff_getElem?.1 (List.mem_of_mem_drop hm);simpa [Le]using hL.nd j m hj
  obtain⟨rq,htq,hrq,_⟩:=Dq _ hLq;have aok:Ev (fun k=>fF k (flat 0 (put t p s))) rq.2:=by unfold fF;exact Ev.bind htq Ev.some
  have aeM:Ev (fun k=>qG k (flat 0 (put t p s))) rq.2:=by unfold qG;exact Ev.bind hrq Ev.some
  have rp:=aeI hpt (by omega) (by omega) hL ZG LA Ik aok;have rr:=Zx (s:=s) (by omega) hm2 ZG t p hpt (by omega) hm1;rw [<-he,<-hs]at rp rr;by_cases hq0:rq.2=0
  · rw [if_pos hq0]at rp;refine⟨a,_,a,f,0,f,rn1,rp,fun d hd=> ?_⟩;obtain rfl:=F7.uniq hd;exact⟨fun h=>absurd h0 h,fun _=>⟨rn2,rfl,rfl,rn3,fun h=>absurd hp h,fun _=>⟨rb.2,ZH,fun h=>absurd hb0 h,fun _=>⟨_,rq.2,rr,aeM,hLq,fun h=>absurd hq0 h,fun _=>⟨rfl,rfl⟩⟩⟩⟩⟩
  · rw [if_neg hq0]at rp;refine⟨a,[],a,f,rq.2,f,rn1,rp,fun d hd=> ?_⟩;obtain rfl:=F7.uniq hd;exact⟨fun h=>absurd h0 h,fun _=>⟨rn2,rfl,rfl,rn3,fun h=>absurd hp h,fun _=>⟨rb.2,ZH,fun h=>absurd hb0 h,fun _=>⟨_,rq.2,rr,aeM,hLq,fun _=>⟨rfl,rfl⟩,fun h=>absurd h hq0⟩⟩⟩⟩
theorem OM (e:List Nd) (x:Change):Ev (fun k=>xX k e x) true:=by
  obtain⟨aT,bf,node,qN⟩:=x;unfold xX;refine Ev.bind (Y9 e) ?_;have p0:Ev (fun k=>oD k aT bf node qN (!wX e)) (!wX e||(!wX qN||(decide (100<aT.length)||decide (100<bf.length)))):=by
    unfold oD;cases wX e with
    |false=>exact Ev.cT rfl (Ev.some' rfl)
    |true=>
      refine Ev.cF rfl (Ev.bind (Y9 qN) ?_);cases wX qN with
      |false=>exact Ev.cF rfl (Ev.some' rfl)
      |true=>
        refine Ev.cT rfl ?_;by_cases h1:100<aT.length
        · exact Ev.cT (decide_eq_true (by omega)) (Ev.some' (by simp [h1]))
        · refine Ev.cF (decide_eq_false (by omega)) (Ev.some' ?_);simp [h1];omega
  refine Ev.bind p0 ?_;cases hq:(!wX e||(!wX qN||(decide (100<aT.length)||decide (100<bf.length))))with
  |true=>exact Ev.cT rfl Ev.some
  |false=>
  simp only [Bool.or_eq_false_iff,Bool.not_eq_false',decide_eq_false_iff_not,Nat.not_lt]at hq;obtain⟨hf,UR,_,aoj⟩:=hq;have hL:=I5 hf;have ZG:=I5 UR;have hlen:=hL.len;have hw:IntKind.wrap .i64 ((e.length:Int) -1)=(e.length:Int) -1:=wrap64 (by omega) (by omega);obtain⟨a,b,w,f,g,c,h1,h2,h3⟩:=Uw (aT:=aT) (node:=node) hf UR aoj;obtain⟨r,ht,hr,hv⟩:=Dq e hL;have F7:Ev (fun k=>qG k e) r.2:=by unfold qG;exact Ev.bind hr Ev.some
  obtain⟨k1,k2⟩:=h3 _ F7;refine Ev.cF rfl (Ev.bind (EN hL) (Ev.bind h1 (Ev.bind (EN ZG) (Ev.bind h2 (Ev.bind F7 ?_)))));by_cases h0:r.2=0
  case neg=>
    obtain⟨rfl,rfl,rfl,rfl⟩:=k1 h0;refine Ev.cT (by rw [bne_iff_ne];exact h0) (Ev.jh (x:=true) ?_ Ev.some);unfold sS;simp
  obtain⟨j3,rfl,rfl,hLa,n1,n2⟩:=k2 h0;refine Ev.cF (by rw [h0];rfl) (Ev.bind j3 (Ev.bind (x:=false) ?_ (Ev.cF rfl ?_)))
  · unfold sU;exact Ev.cF (by simp) (Ev.bind (JH hLa) (Ev.some' (by simp)))
  · simp only [hw,jT,Option.bind_some];by_cases hp:0<=node/\node<=(e.length:Int) -1
    case neg=>
      obtain⟨rfl,rfl⟩:=n1 hp;refine Ev.cF (decide_eq_false hp) (Ev.jh (x:=true) ?_ Ev.some);unfold sW;simp
    obtain⟨d2,g1,g2,g3⟩:=n2 hp;refine Ev.cT (decide_eq_true hp) (Ev.bind g1 ?_);by_cases hd:d2=0
    case neg=>
      obtain⟨rfl,rfl⟩:=g2 hd;refine Ev.cT (by rw [bne_iff_ne];exact hd) (Ev.jh (x:=true) ?_ Ev.some);unfold sV;simp
    obtain⟨q,d3,r1,r2,hLq,r3,r4⟩:=g3 hd;refine Ev.cF (by rw [hd];rfl) (Ev.bind r1 (Ev.bind r2 ?_));by_cases hd3:d3=0
    · obtain⟨rfl,rfl⟩:=r4 hd3;exact Ev.cF (by rw [hd3];rfl) (Ev.cT rfl (Ev.bind (JH hLq) (Ev.some' (by simp))))
    · obtain⟨rfl,rfl⟩:=r3 hd3;exact Ev.cT (by rw [bne_iff_ne];exact hd3) (Ev.cT (by simp) (Ev.some' (by simp)))
end Go.VL
end
