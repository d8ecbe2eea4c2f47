/- Part 8. -/
import Derived.Test.YtpkbfdgohkakaaaGreatDoorKa7
import Derived.IntWalk
import Derived.KernelRfl
set_option maxRecDepth 8000
set_option linter.unusedVariables false
set_option linter.unusedSectionVars false
set_option linter.unusedSimpArgs false
section
namespace Go.VL
open Go.Proofs Go.RowKit
theorem akI {H H':AH} {l:List (Nd×NV)} {v:PV} {id i lo:Nat} {n:Nd} {w:NV} (hO:Nj H l v id i lo) (hx:l[i]? =some (n,w)) {y:NV} (g1:jc H' (n,y)) (g2: ∀j∈y.ids,H.next<=j) (g3:aJ H' jr 5 (l.set i (n,y)) v [id]) (g4:HF [id] H H') (hlo:lo<=H.next):Nj H' (l.set i (n,y)) v id (i+1) lo:=by
 have hi:=(List.getElem?_eq_some_iff.1 hx).1;have hget: ∀k x,(l.set i (n,y))[k]? =some x->(k=i/\x=(n,y))\/(k≠i/\l[k]? =some x):=by
  intro k x h;rw [List.getElem?_set]at h;by_cases hk:i=k
  · subst hk;rw [if_pos rfl,if_pos hi]at h;exact .inl ⟨rfl,(Option.some.inj h).symm⟩
  · rw [if_neg hk]at h;exact .inr ⟨fun e=>hk e.symm,h⟩
 have hold: ∀k x,k≠i->l[k]? =some x-> ∀j∈x.2.ids,j<H.next:=by
  intro k x hk h j hj;have:=hO.ED k x h;by_cases hlt:k<i
  · rw [if_pos hlt]at this;exact this.lt j hj
  · rw [if_neg hlt]at this;rw [this]at hj;cases hj
 refine⟨g3,?_,?_,?_,?_,hO.Wx⟩
 · intro k x h;rcases hget k x h with⟨rfl,rfl⟩|⟨hk,h⟩
   · rw [if_pos (Nat.lt_succ_self _)];exact g1
   · have:=hO.ED k x h;by_cases hlt:k<i
     · rw [if_pos hlt]at this;rw [if_pos (by omega)];refine this.hf g4 fun a ha hm=>hO.ne k x h ?_;rw [<-List.mem_singleton.1 hm];exact ha
     · rw [if_neg hlt]at this;rw [if_neg (by omega)];exact this
 · intro k k' x x' h h' hne a ha ha';rcases hget k x h with⟨q1,q2⟩|⟨hk,hx1⟩<;>rcases hget k' x' h' with⟨q3,q4⟩|⟨hk',hx2⟩
   · exact hne (q1.trans q3.symm)
   · subst q2;have:=g2 a ha;have:=hold k' x' hk' hx2 a ha';omega
   · subst q4;have:=g2 a ha';have:=hold k x hk hx1 a ha;omega
   · exact hO.dj k k' x x' hx1 hx2 hne a ha ha'
 · intro k x h hm;rcases hget k x h with⟨rfl,rfl⟩|⟨hk,h⟩
   · have:=g2 id hm;have:=hO.row.lt id (List.mem_singleton.2 rfl);omega
   · exact hO.ne k x h hm
 · intro k x h j hj;rcases hget k x h with⟨rfl,rfl⟩|⟨hk,h⟩
   · have:=g2 j hj;omega
   · exact hO.lob k x h j hj
theorem ail (e:List Nd) (hn: ∀(i:Nat) n,e[i]? =some n->n.names.length<=1000000/\n.args.length<=1000000) (hl:e.length<=1000000) (lo:Nat): ∀(m i:Nat) (σ:Nat->PV) (H:AH) (v:PV) (id:Nat) (l:List (Nd×NV)) (Q:Post),i+m=e.length->σ 3=v->σ 8= .int .i64 e.length->σ 9= .int .i64 i->l.map Prod.fst=e->Nj H l v id i lo->lo<=H.next->
 (∀σ' H' l',σ' 3=v->l'.map Prod.fst=e->Nj H' l' v id e.length lo->HF [id] H H'->(∀c,bq H c->bq H' c)->Q (.exit 0) σ' H')->W Tryz.prog (.loop Cd.K8) Q σ H:=by
 intro m
 induction m with
 |zero=>
  intro i σ H v id l Q hi s3 s8 s9 he hO hlo q0;refine aW (fun K hK=>aC ?_);unfold Cd.K8;have hd:decide ((i:Int)<(e.length:Int))=false:=decide_eq_false (by omega);simp -implicitDefEqProofs only [go_sem,s3,s8,s9,hd];have hi':i=e.length:=by omega
  subst hi';exact q0 _ _ l aP he hO (HF.refl _ _) (fun _ h=>h)
 |succ m ih=>
  intro i σ H v id l Q hi s3 s8 s9 he hO hlo q0;have hlt:i<e.length:=by omega
  have hll:l.length=e.length:=by rw [<-he,List.length_map]
  obtain⟨⟨n,w⟩,hx0⟩: ∃x,l[i]? =some x:=⟨_,List.getElem?_eq_getElem (by omega)⟩;have hxe:e[i]? =some n:=by
   have:=congrArg (·[i]?) he
   simp only [List.getElem?_map,hx0,Option.map_some]at this;exact this.symm
  obtain⟨h1,h2⟩:=hn i _ hxe;have hp:=hO.ED i _ hx0;rw [if_neg (Nat.lt_irrefl _)]at hp;have hx:l[i]? =some (n,.p n.names):=by rw [hx0];simp only at hp;rw [hp]
  refine aW (fun K hK=>aC ?_);unfold Cd.K8;have hd:decide ((i:Int)<(e.length:Int))=true:=decide_eq_true (by omega);simp -implicitDefEqProofs only [go_sem,s3,s8,s9,hd];refine VU (agl n h1 h2 hO.row hx aP aP fun y σ' H' g1 g2 g3 g4 g5 hσ=> ?_);have hO':=akI hO hx g1 g2 g3 g4 hlo;have hx2:(l.set i (n,y))[i]? =some (n,y):=by rw [List.getElem?_set,if_pos rfl,if_pos (by omega)]
  obtain⟨id',C,e1,hid,hC,hcell,hle,hdrop,hI⟩:=aJ.content g3 hx2;obtain rfl:id=id':=by simpa using e1
  have hI':jV 5 v (.int .i64 i)=some (.ref id (i*5)):=hI .i64 i (by omega) (by omega);have c4:C[i*5+4]? =some (.ak (n.args.map aS) .unk):=hcell 4 _ (by cases y<;>rfl);have t14:σ' 14=v:=by rw [hσ];rfl
  have t15:σ' 15= .int .i64 i:=by rw [hσ];rfl
  have t27:σ' 27= .ak (n.args.map aS) .unk:=by rw [hσ];rfl
  have t3:σ' 3=v:=by rw [hσ];exact s3
  have t8:σ' 8= .int .i64 e.length:=by rw [hσ];exact s8
  have t9:σ' 9= .int .i64 i:=by rw [hσ];exact s9
  clear hσ;simp -implicitDefEqProofs only [go_sem,t14,t15,t27,hI',hC,c4];refine apH (agh (id:=id) (o:=i*5+4) (p:= .ak (n.args.map aS) .unk) (C:=C) (by simp -implicitDefEqProofs only [go_sem,t14,t15,t27,hI',hC,c4]) (by simp -implicitDefEqProofs only [go_sem,t14,t15,t27,hI',hC,c4]) rfl hC c4) ?_;have hw:IntKind.wrap .i64 ((i:Int)+1)=((i+1:Nat):Int):=by rw [IntKind.wrap_i64];omega
  simp -implicitDefEqProofs only [go_sem,t9];refine hK _ _ (ih (i+1) _ H' v id _ Q (by omega) aP aP (by simp -implicitDefEqProofs only [go_sem];rw [hw]) ?_ hO' (Nat.le_trans hlo g4.1) fun σ2 H2 l2 k1 k2 k3 k4 k5=>q0 σ2 H2 l2 k1 k2 k3 ?_ (fun c h=>k5 c (g5 c h)))
  · rw [List.map_set,he];exact(by obtain⟨h,rfl⟩:=List.getElem?_eq_some_iff.1 hxe;exact List.set_getElem_self h)
  · exact⟨Nat.le_trans g4.1 k4.1,fun a ha hm=>(k4.2 a (Nat.lt_of_lt_of_le ha g4.1) hm).trans (g4.2 a ha hm)⟩
theorem agm (e:List Nd) (h0:0<e.length) (hn: ∀(i:Nat) n,e[i]? =some n->n.names.length<=1000000/\n.args.length<=1000000) (hl:e.length<=1000000) (H:AH):
 bA Tryz.prog 188 [fT e] H fun v H'=> ∃id l,l.map Prod.fst=e/\Nj H' l v id e.length H.next/\HF [] H H'/\ ∀c,bq H c->bq H' c:=by
 refine aF Cd.aw3 (by simp) (aC ?_);unfold Cd.anV;simp -implicitDefEqProofs only [go_sem];refine aij (adU e h0 hl) fun v ids H' g1 g2 g3 g4=> ?_;have hlen:=g1.aaL;obtain⟨id,rfl⟩: ∃id,ids=[id]:=by
  rcases g1 with⟨_,h,_⟩|⟨id,_,_,h,_⟩
  · rw [h]at h0;simp at h0
  · exact⟨id,h⟩
 have azw:H.next<=id:=by
  rcases g2 id (List.mem_singleton.2 rfl)with h|h
  · cases h
  · exact h
 have hmap:(e.map fun n=>((n,NV.p n.names):Nd×NV)).map jr=e.map Nd.cells:=by
  rw [List.map_map];rfl
 have hO:Nj H' (e.map fun n=>(n,NV.p n.names)) v id 0 H.next:=by
  refine⟨?_,fun i x hx=> ?_,fun i j x y hx hy _=> ?_,fun i x hx=> ?_,fun i x hx=> ?_,azw⟩
  · rcases g1 with⟨_,h,_⟩|⟨id',cap,junk,h1,h2,h3,h4,h5,h6⟩
    · rw [h]at h0;simp at h0
    · exact .inr ⟨id',cap,junk,h1,by rw [List.length_map];exact h2,by rw [List.length_map];exact h3,h4,by rw [hmap];exact h5,by rw [List.length_map];exact h6⟩
  all_goals
   rw [List.getElem?_map,Option.map_eq_some_iff]at hx;obtain⟨n,hn',rfl⟩:=hx
  · rfl
  · intro a ha;cases ha
  · intro hm;cases hm
  · intro a ha;cases ha
 simp -implicitDefEqProofs only [go_sem,hlen];refine ail e hn hl H.next e.length 0 _ H' v id _ _ (by omega) aP aP aP (by rw [List.map_map];exact List.map_id _) hO g3.1 fun σ' H2 l2 s3 k2 k3 k4 k5=> ?_;simp -implicitDefEqProofs only [go_sem,s3];exact⟨id,l2,k2,k3,⟨Nat.le_trans g3.1 k4.1,fun a ha hm=>(k4.2 a (Nat.lt_of_lt_of_le ha g3.1) (fun q=>by have:=List.mem_singleton.1 q;omega)).trans (g3.2 a ha hm)⟩,fun c h=>k5 c (g4 c h)⟩
end Go.VL
end
section
namespace Go.VL
open Go.Proofs Go.RowKit Go.Sort
theorem apI {w:World} (hw:WH (fun b=>w.heap.size<=b) w):Lib.TabIs Tryz.prog w "internal/strconv.uint64pow10" .u64 Lib.pow10Tab:=by
 obtain⟨_,t,fr,h⟩:=hw 3 _ (by kernel_rfl:Glob.wb 3=some (Qx.map (Value.int .u64)).toArray);unfold Lib.TabIs World.var?;rw [show Tryz.prog.globalNamed "internal/strconv.uint64pow10" =some 3 by kernel_rfl,Option.bind_some,h];exact congrArg some (by kernel_rfl)
theorem below_grow (w:World) (os:Array Obj):Below w.heap.size w (grow w os):=⟨rfl,rfl,rfl,by simp [grow],fun k hk=>by
 show(w.heap++os)[k]? =_
 rw [Array.getElem?_append_left hk]⟩
theorem ar2 (n:Int) (h: -9223372036854775808<=n/\n<=9223372036854775807):aD Tryz.prog 320 [.int .i64 n] (.str (Lib.itoa n)):=by
 refine Na ⟨_,Tryz.func320,rfl,by kernel_rfl⟩ (fun w G vs hg hi hw hv=> ?_) (aX.mem (.cons (.int _ _) .nil));rw [Vs.ay7 hv];refine(Tryz.strconv_Itoa n h.1 h.2 w (apI hw)).mono ?_;rintro e w' ⟨rfl,k,os,rfl⟩;exact⟨_,rfl,(below_drewN w k).trans ((below_grow (w.drewN k) os).mono (below_drewN w k).size),fun G n=> .str _⟩
end Go.VL
end
section
set_option maxHeartbeats 4000000
namespace Go.VL
open Go.Proofs
def Uc (K9:Bool):Option Int:=
 cond K9 (some 1) (some 0)
theorem aeQ {K9:Bool} {r:Int} (h:Uc K9=some r):aD Tryz.prog 87 [(.bool K9)] (.int .i64 r):=by
 refine aD.aO (aX.mem (.cons (.bool _) .nil)) (aF azs (by simp) (aC ?_)) (.int _ _);unfold Uc at h;unfold arS;obtain⟨e1,h⟩|⟨e1,h⟩:=aA h
 ·cases h;refine ah ?_;exact(.pure _ (.int _ _))
 ·cases h;refine ah ?_;exact(.pure _ (.int _ _))
def iP (bg:Int) (ZV:Int) (Ud:Int):Option Bool:=
 cond (decide (bg>=ZV)) (some (decide (bg<=Ud))) (some false)
theorem jf {bg:Int} {ZV:Int} {Ud:Int} {r:Bool} (h:iP bg ZV Ud=some r):aD Tryz.prog 29 [(.int .i64 bg),(.int .i64 ZV),(.int .i64 Ud)] (.bool r):=by
 refine aD.aO (aX.mem (.cons (.int _ _) (.cons (.int _ _) (.cons (.int _ _) .nil)))) (aF aze (by simp) (aC ?_)) (.bool _);unfold iP at h;unfold arB;obtain⟨e1,h⟩|⟨e1,h⟩:=aA h
 ·cases h;refine ah ?_;exact(.pure _ (.bool _))
 ·cases h;refine ah ?_;exact(.pure _ (.bool _))
def kI:Nat->(List Str)->Str->Int->Option (Unit⊕Bool)
 |0,_,_,_=>none
 |k+1,bB,s_1,dI=>
  cond (decide (dI<(bB.length:Int))) (if 0<=dI then (bB[dI.toNat]?).bind fun x3=>cond (x3==s_1) (some (.inr (true))) (kI k bB s_1 (IntKind.wrap .i64 (dI+1)))else none) (some (.inl ()))
def CO:List Nat:=List.range' 4 14
theorem Ue: ∀(k:Nat) (bB:List Str) (s_1:Str) (dI:Int) (aB σ:Nat->PV) (H:AH) (f0:Fr CO aB σ) (sl:σ 0=(.ak (bB.map aH) .unk)/\σ 1=(.str s_1)/\σ 5=(.int .i64 dI)) (o:Unit⊕Bool) (h:kI k bB s_1 dI=some o) (Q:Post) (q0: ∀(p:Unit) (σ':Nat->PV),o= .inl p->Fr CO aB σ'->Q (.exit 0) σ' H) (q1: ∀(p:Bool) (σ':Nat->PV),o= .inr (p)->Fr CO aB σ'->(σ' 4=(.bool p))->Q .ret σ' H),W Tryz.prog (.loop Ww) Q σ H:=by
 intro k
 induction k with
 |zero=>intro bB s_1 dI aB σ H f0 sl o h Q q0 q1;simp only [kI,reduceCtorEq]at h
 |succ k ih=>
  intro bB s_1 dI aB σ H f0 sl o h Q q0 q1;obtain⟨s0,s1,s5⟩:=sl;unfold kI at h;refine aW (fun K hK=>aC ?_);unfold Ww;obtain⟨e1,h⟩|⟨e1,h⟩:=aA h
  ·obtain⟨e2,h⟩:=aU h;obtain⟨x3,e4,h⟩:=aj h;obtain⟨e5,h⟩|⟨e5,h⟩:=aA h
   ·cases h;refine ah ?_;exact q1 _ _ rfl aI au
   ·refine ah ?_;refine hK _ _ ?_;exact ih bB s_1 (IntKind.wrap .i64 (dI+1)) _ _ _ aI au _ h _ q0 q1
  ·cases h;refine ah ?_;exact q0 _ _ rfl aI
def nu (k:Nat) (bB:List Str) (s_1:Str):Option Bool:=
 Option.bind (kI k bB s_1 0) (fun o=>Sum.elim (fun p8=>some false) (fun ng=>some ng) o)
theorem Am {k:Nat} {bB:List Str} {s_1:Str} {c0:Ck} {r:Bool} (h:nu k bB s_1=some r):aD Tryz.prog 85 [(.ak (bB.map aH) c0),(.str s_1)] (.bool r):=by
 refine aD.lw (.ak (.same .nil)) (aD.aO (aX.mem (.cons (aT bE _) (.cons (.str _) .nil))) (aF azr (by simp) (aC ?_)) (.bool _));unfold nu at h;unfold arR;refine ah ?_;obtain⟨o6,h7,h⟩:=aj h;refine Ue k bB s_1 0 _ _ _ (Fr.refl _ _) au _ h7 _ ?_ ?_
 ·rintro p8 σ' eo Im;subst eo;rw [bI]at h;cases h;refine ah ?_;exact(.pure _ (.bool _))
 ·rintro ng σ' eo La s16;subst eo;rw [bL]at h;cases h;refine ah ?_;exact(.pure _ (.bool _))
def ny:Nat->(List Operator)->(List Operator)->Int->Option (List Operator)
 |0,_,_,_=>none
 |k+1,vN,Ao,dn=>
  cond (decide (dn<(Ao.length:Int))) (if 0<=dn then (Ao[dn.toNat]?).bind fun x3=>(Uc (x3.fix==1)).bind fun p6=>cond (x3.text==([92,88]:Str)) (if(vN.length+1)*64<=1099511627776 then ny k (vN++[(Operator.mk x3.text x3.fix x3.low x3.high x3.left (IntKind.wrap .i64 (1+p6)) 4)]) Ao (IntKind.wrap .i64 (dn+1))else none) (if(vN.length+1)*64<=1099511627776 then ny k (vN++[(Operator.mk x3.text x3.fix x3.low x3.high x3.left (IntKind.wrap .i64 (1+p6)) (IntKind.wrap .i64 (1+p6)))]) Ao (IntKind.wrap .i64 (dn+1))else none)else none) (some (vN))
def PD:List Nat:=[1,3,4]++List.range' 48 27
theorem aaT: ∀(k:Nat) (vN:List Operator) (Ao:List Operator) (dn:Int) (tY:Ck) (Ap:Ck) (aB σ:Nat->PV) (H0 H:AH) (f0:Fr PD aB σ) (hf0:HF [] H0 H) (sl:σ 1=(.ak (vN.map Operator.cells) tY)/\σ 2=(.ak (Ao.map Operator.cells) Ap)/\σ 3=(.int .i64 dn)) (aaU:bq H tY) (o:List Operator) (h:ny k vN Ao dn=some o) (Q:Post) (q0: ∀(p:List Operator) (c0:Ck) (σ':Nat->PV) (H':AH),o=p->Fr PD aB σ'->HF [] H0 H'->(σ' 1=(.ak (p.map Operator.cells) c0))->Q (.exit 0) σ' H'),W Tryz.prog (.loop Ra) Q σ H:=by
 intro k
 induction k with
 |zero=>intro vN Ao dn tY Ap aB σ H0 H f0 hf0 sl aaU o h Q q0;simp only [ny,reduceCtorEq]at h
 |succ k ih=>
  intro vN Ao dn tY Ap aB σ H0 H f0 hf0 sl aaU o h Q q0;obtain⟨s1,s2,s3⟩:=sl;have hle0:=hf0.1;unfold ny at h;refine aW (fun K hK=>aC ?_);unfold Ra;obtain⟨e1,h⟩|⟨e1,h⟩:=aA h
  ·obtain⟨e2,h⟩:=aU h;obtain⟨x3,e4,h⟩:=aj h;obtain⟨p6,e5,h⟩:=aj h;refine ah ?_;refine av (aeQ e5) ?_;obtain⟨e7,h⟩|⟨e7,h⟩:=aA h
   ·obtain⟨e12,h⟩:=aU h;refine ah ?_;refine gq (f:=Operator.cells) Operator.row vN ([(Operator.mk x3.text x3.fix x3.low x3.high x3.left (IntKind.wrap .i64 (1+p6)) 4)]:List Operator) tY .exact au au eZ (by first|exact e12|(simp only [List.length_cons,List.length_nil];exact e12)) (fun c8 H9 aER le azx aES=> ?_);have akJ:HF [] _ H9:=⟨le,fun i _ _=>azx i⟩;try simp only [AH.aK,AH.aL,AH.aM,AH.aN]at le
    have n22:=ne_next (show H.next<H9.next by first|omega|(simp only [AH.aK,AH.aL,AH.aM,AH.aN];omega));have m23:=aZ (show H.next<H9.next by first|omega|(simp only [AH.aK,AH.aL,AH.aM,AH.aN];omega));refine ah ?_;refine hK _ _ ?_;exact ih (vN++[(Operator.mk x3.text x3.fix x3.low x3.high x3.left (IntKind.wrap .i64 (1+p6)) 4)]) Ao (IntKind.wrap .i64 (dn+1)) c8 Ap _ _ _ _ aI (by repeat (first|exact hf0|refine HF.new ?_|refine HF.qJ ?_|refine HF.used ?_|refine HF.put (by first|(right;omega)|(left;simp only [List.mem_cons,true_or,or_true])) ?_|refine HF.via akJ (by first|exact fun i hi=>absurd hi List.not_mem_nil|(intro i hi;simp only [List.mem_cons,List.not_mem_nil,or_false]at hi⊢;first|exact .inl hi|omega)) ?_)) au eZ _ h _ q0
   ·obtain⟨e19,h⟩:=aU h;refine ah ?_;refine gq (f:=Operator.cells) Operator.row vN ([(Operator.mk x3.text x3.fix x3.low x3.high x3.left (IntKind.wrap .i64 (1+p6)) (IntKind.wrap .i64 (1+p6)))]:List Operator) tY .exact au au eZ (by first|exact e19|(simp only [List.length_cons,List.length_nil];exact e19)) (fun c15 H16 aET le azy aEU=> ?_);have akK:HF [] _ H16:=⟨le,fun i _ _=>azy i⟩;try simp only [AH.aK,AH.aL,AH.aM,AH.aN]at le
    have n24:=ne_next (show H.next<H16.next by first|omega|(simp only [AH.aK,AH.aL,AH.aM,AH.aN];omega));have m25:=aZ (show H.next<H16.next by first|omega|(simp only [AH.aK,AH.aL,AH.aM,AH.aN];omega));refine ah ?_;refine hK _ _ ?_;exact ih (vN++[(Operator.mk x3.text x3.fix x3.low x3.high x3.left (IntKind.wrap .i64 (1+p6)) (IntKind.wrap .i64 (1+p6)))]) Ao (IntKind.wrap .i64 (dn+1)) c15 Ap _ _ _ _ aI (by repeat (first|exact hf0|refine HF.new ?_|refine HF.qJ ?_|refine HF.used ?_|refine HF.put (by first|(right;omega)|(left;simp only [List.mem_cons,true_or,or_true])) ?_|refine HF.via akK (by first|exact fun i hi=>absurd hi List.not_mem_nil|(intro i hi;simp only [List.mem_cons,List.not_mem_nil,or_false]at hi⊢;first|exact .inl hi|omega)) ?_)) au eZ _ h _ q0
  ·cases h;refine ah ?_;exact q0 _ tY _ _ rfl aI nZ au
def FE (k:Nat):Option (List Operator):=
 Option.bind (ny k ([]:List Operator) [(Operator.mk ([126]:Str) 0 4 4 false 0 0),(Operator.mk ([69,78,65,66,76,69,68]:Str) 0 4 15 false 0 0),(Operator.mk ([85,78,67,72,65,78,71,69,68]:Str) 0 4 15 false 0 0),(Operator.mk ([91,93]:Str) 0 4 15 false 0 0),(Operator.mk ([60,62]:Str) 0 4 15 false 0 0),(Operator.mk ([83,85,66,83,69,84]:Str) 0 8 8 false 0 0),(Operator.mk ([85,78,73,79,78]:Str) 0 8 8 false 0 0),(Operator.mk ([68,79,77,65,73,78]:Str) 0 9 9 false 0 0),(Operator.mk ([45,46]:Str) 0 12 12 false 0 0),(Operator.mk ([61,62]:Str) 1 1 1 false 0 0),(Operator.mk ([60,61,62]:Str) 1 2 2 false 0 0),(Operator.mk ([126,62]:Str) 1 2 2 false 0 0),(Operator.mk ([47,92]:Str) 1 3 3 true 0 0),(Operator.mk ([92,47]:Str) 1 3 3 true 0 0),(Operator.mk ([61]:Str) 1 5 5 false 0 0),(Operator.mk ([35]:Str) 1 5 5 false 0 0),(Operator.mk ([60]:Str) 1 5 5 false 0 0),(Operator.mk ([60,61]:Str) 1 5 5 false 0 0),(Operator.mk ([62]:Str) 1 5 5 false 0 0),(Operator.mk ([62,61]:Str) 1 5 5 false 0 0),(Operator.mk ([92,105,110]:Str) 1 5 5 false 0 0),(Operator.mk ([92,110,111,116,105,110]:Str) 1 5 5 false 0 0),(Operator.mk ([92,115,117,98,115,101,116,101,113]:Str) 1 5 5 false 0 0),(Operator.mk ([92,115,113,115,117,98,115,101,116,101,113]:Str) 1 5 5 false 0 0),(Operator.mk ([64,64]:Str) 1 6 6 true 0 0),(Operator.mk ([58,62]:Str) 1 7 7 false 0 0),(Operator.mk ([92,99,100,111,116]:Str) 1 5 14 true 0 0),(Operator.mk ([92,99,117,112]:Str) 1 8 8 true 0 0),(Operator.mk ([92,99,97,112]:Str) 1 8 8 true 0 0),(Operator.mk ([92]:Str) 1 8 8 false 0 0),(Operator.mk ([46,46]:Str) 1 9 9 false 0 0),(Operator.mk ([43]:Str) 1 10 10 true 0 0),(Operator.mk ([40,43,41]:Str) 1 10 10 true 0 0),(Operator.mk ([37]:Str) 1 10 11 false 0 0),(Operator.mk ([92,88]:Str) 1 10 13 false 0 0),(Operator.mk ([45]:Str) 1 11 11 true 0 0),(Operator.mk ([40,45,41]:Str) 1 11 11 true 0 0),(Operator.mk ([42]:Str) 1 13 13 true 0 0),(Operator.mk ([92,100,105,118]:Str) 1 13 13 false 0 0),(Operator.mk ([92,111]:Str) 1 13 13 true 0 0),(Operator.mk ([94]:Str) 1 14 14 false 0 0),(Operator.mk ([39]:Str) 2 15 15 false 0 0)] 0) (fun p28=>some p28)
theorem ain {k:Nat} {r:List Operator} (h:FE k=some r):aD Tryz.prog 173 [] (.ak (r.map Operator.cells) .unk):=by
 refine aD.aO (aX.mem .nil) (aF avN (by simp) (aC ?_)) (aT Operator.pu _);unfold FE at h;unfold amF;refine ah ?_;obtain⟨o26,h27,h⟩:=aj h;refine aaT k ([]:List Operator) [(Operator.mk ([126]:Str) 0 4 4 false 0 0),(Operator.mk ([69,78,65,66,76,69,68]:Str) 0 4 15 false 0 0),(Operator.mk ([85,78,67,72,65,78,71,69,68]:Str) 0 4 15 false 0 0),(Operator.mk ([91,93]:Str) 0 4 15 false 0 0),(Operator.mk ([60,62]:Str) 0 4 15 false 0 0),(Operator.mk ([83,85,66,83,69,84]:Str) 0 8 8 false 0 0),(Operator.mk ([85,78,73,79,78]:Str) 0 8 8 false 0 0),(Operator.mk ([68,79,77,65,73,78]:Str) 0 9 9 false 0 0),(Operator.mk ([45,46]:Str) 0 12 12 false 0 0),(Operator.mk ([61,62]:Str) 1 1 1 false 0 0),(Operator.mk ([60,61,62]:Str) 1 2 2 false 0 0),(Operator.mk ([126,62]:Str) 1 2 2 false 0 0),(Operator.mk ([47,92]:Str) 1 3 3 true 0 0),(Operator.mk ([92,47]:Str) 1 3 3 true 0 0),(Operator.mk ([61]:Str) 1 5 5 false 0 0),(Operator.mk ([35]:Str) 1 5 5 false 0 0),(Operator.mk ([60]:Str) 1 5 5 false 0 0),(Operator.mk ([60,61]:Str) 1 5 5 false 0 0),(Operator.mk ([62]:Str) 1 5 5 false 0 0),(Operator.mk ([62,61]:Str) 1 5 5 false 0 0),(Operator.mk ([92,105,110]:Str) 1 5 5 false 0 0),(Operator.mk ([92,110,111,116,105,110]:Str) 1 5 5 false 0 0),(Operator.mk ([92,115,117,98,115,101,116,101,113]:Str) 1 5 5 false 0 0),(Operator.mk ([92,115,113,115,117,98,115,101,116,101,113]:Str) 1 5 5 false 0 0),(Operator.mk ([64,64]:Str) 1 6 6 true 0 0),(Operator.mk ([58,62]:Str) 1 7 7 false 0 0),(Operator.mk ([92,99,100,111,116]:Str) 1 5 14 true 0 0),(Operator.mk ([92,99,117,112]:Str) 1 8 8 true 0 0),(Operator.mk ([92,99,97,112]:Str) 1 8 8 true 0 0),(Operator.mk ([92]:Str) 1 8 8 false 0 0),(Operator.mk ([46,46]:Str) 1 9 9 false 0 0),(Operator.mk ([43]:Str) 1 10 10 true 0 0),(Operator.mk ([40,43,41]:Str) 1 10 10 true 0 0),(Operator.mk ([37]:Str) 1 10 11 false 0 0),(Operator.mk ([92,88]:Str) 1 10 13 false 0 0),(Operator.mk ([45]:Str) 1 11 11 true 0 0),(Operator.mk ([40,45,41]:Str) 1 11 11 true 0 0),(Operator.mk ([42]:Str) 1 13 13 true 0 0),(Operator.mk ([92,100,105,118]:Str) 1 13 13 false 0 0),(Operator.mk ([92,111]:Str) 1 13 13 true 0 0),(Operator.mk ([94]:Str) 1 14 14 false 0 0),(Operator.mk ([39]:Str) 2 15 15 false 0 0)] 0 .nil .exact _ _ _ _ (Fr.refl _ _) (HF.refl _ _) au eZ _ h27 _ ?_
 ·rintro p28 c32 σ' H31 eo SL akL s33;rw [eo]at h;have le:=akL.1;try simp only [AH.aK,AH.aL,AH.aM,AH.aN]at le
  cases h;refine ah ?_;exact(dS Operator.pu _ _)
def jm:Nat->Str->Str->Int->Int->Int->Bool->Int->Int->(List Operator)->Int->Option ((Str×Int×Int×Int×Bool×Int×Int)⊕(Bool×Str×Int×Int×Int×Bool×Int×Int))
 |0,_,_,_,_,_,_,_,_,_,_=>none
 |k+1,lU,Io,Ip,Iq,Ir,Iu,Iw,Iy,eB,dI=>
  cond (decide (dI<(eB.length:Int))) (if 0<=dI then (eB[dI.toNat]?).bind fun x5=>cond (x5.text==lU) (some (.inr ((true,x5.text,x5.fix,x5.low,x5.high,x5.left,x5.least,x5.most)))) (jm k lU Io Ip Iq Ir Iu Iw Iy eB (IntKind.wrap .i64 (dI+1)))else none) (some (.inl (Io,Ip,Iq,Ir,Iu,Iw,Iy)))
def zu:List Nat:=[3,5]++List.range' 7 17
theorem Pg: ∀(k:Nat) (Aq:Nat) (lU:Str) (Io:Str) (Ip:Int) (Iq:Int) (Ir:Int) (Iu:Bool) (Iw:Int) (Iy:Int) (eB:List Operator) (dI:Int) (aB σ:Nat->PV) (H0 H:AH) (f0:Fr zu aB σ) (hf0:HF [Aq] H0 H) (sl:σ 0=(.str lU)/\σ 2=(.ref (Aq) 0)/\σ 4=(.ak (eB.map Operator.cells) .unk)/\σ 5=(.int .i64 dI)/\H.obj Aq=some [(.str Io),(.int .i64 Ip),(.int .i64 Iq),(.int .i64 Ir),(.bool Iu),(.int .i64 Iw),(.int .i64 Iy)]) (OU:Aq<H.next) (o:(Str×Int×Int×Int×Bool×Int×Int)⊕(Bool×Str×Int×Int×Int×Bool×Int×Int)) (h:jm k lU Io Ip Iq Ir Iu Iw Iy eB dI=some o) (Q:Post) (q0: ∀(p:Str×Int×Int×Int×Bool×Int×Int) (σ':Nat->PV) (H':AH),o= .inl p->Fr zu aB σ'->HF [Aq] H0 H'->(H'.obj Aq=some [(.str p.1),(.int .i64 p.2.1),(.int .i64 p.2.2.1),(.int .i64 p.2.2.2.1),(.bool p.2.2.2.2.1),(.int .i64 p.2.2.2.2.2.1),(.int .i64 p.2.2.2.2.2.2)])->Q (.exit 0) σ' H') (q1: ∀(p:Bool×Str×Int×Int×Int×Bool×Int×Int) (σ':Nat->PV) (H':AH),o= .inr (p)->Fr zu aB σ'->HF [Aq] H0 H'->(σ' 3=(.bool p.1)/\H'.obj Aq=some [(.str p.2.1),(.int .i64 p.2.2.1),(.int .i64 p.2.2.2.1),(.int .i64 p.2.2.2.2.1),(.bool p.2.2.2.2.2.1),(.int .i64 p.2.2.2.2.2.2.1),(.int .i64 p.2.2.2.2.2.2.2)])->Q .ret σ' H'),W Tryz.prog (.loop Qy) Q σ H:=by
 intro k
 induction k with
 |zero=>intro Aq lU Io Ip Iq Ir Iu Iw Iy eB dI aB σ H0 H f0 hf0 sl OU o h Q q0 q1;simp only [jm,reduceCtorEq]at h
 |succ k ih=>
  intro Aq lU Io Ip Iq Ir Iu Iw Iy eB dI aB σ H0 H f0 hf0 sl OU o h Q q0 q1;obtain⟨s0,s2,s4,s5,aBA⟩:=sl;have aBB:=ne_next OU;have aBC:=aZ OU;have hle0:=hf0.1;unfold jm at h;refine aW (fun K hK=>aC ?_);unfold Qy;obtain⟨e3,h⟩|⟨e3,h⟩:=aA h
  ·obtain⟨e4,h⟩:=aU h;obtain⟨x5,e6,h⟩:=aj h;obtain⟨e7,h⟩|⟨e7,h⟩:=aA h
   ·cases h;refine ah ?_;exact q1 _ _ _ rfl aI nZ au
   ·refine ah ?_;refine hK _ _ ?_;exact ih Aq lU Io Ip Iq Ir Iu Iw Iy eB (IntKind.wrap .i64 (dI+1)) _ _ _ _ aI nZ au bP _ h _ q0 q1
  ·cases h;refine ah ?_;exact q0 _ _ _ rfl aI nZ au
def sG (k:Nat) (lU:Str):Option (Operator×Bool):=
 (FE k).bind fun p2=>Option.bind (jm k lU ([]:Str) 0 0 0 false 0 0 p2 0) (fun o=>Sum.elim (fun iM=>some ((Operator.mk [] 0 0 0 false 0 0),false)) (fun EF=>some ((Operator.mk EF.2.1 EF.2.2.1 EF.2.2.2.1 EF.2.2.2.2.1 EF.2.2.2.2.2.1 EF.2.2.2.2.2.2.1 EF.2.2.2.2.2.2.2),EF.1)) o)
theorem J3 {k:Nat} {lU:Str} {r:Operator×Bool} (h:sG k lU=some r):aD Tryz.prog 112 [(.str lU)] (.cK [(.agg (Operator.cells r.1)),(.bool r.2)]):=by
 refine aD.aO (aX.mem (.cons (.str _) .nil)) (aF avs (by simp) (aC ?_)) (.cK _ (aX.mem (.cons (.agg _ (Operator.pu _)) (.cons (.bool _) .nil))));unfold sG at h;unfold amf;obtain⟨p2,e1,h⟩:=aj h;refine ah ?_;refine av (ain e1) ?_;refine ah ?_;obtain⟨o8,h9,h⟩:=aj h;refine Pg k (AH.empty.next) lU ([]:Str) 0 0 0 false 0 0 p2 0 _ _ _ _ (Fr.refl _ _) (HF.refl _ _) au bP _ h9 _ ?_ ?_
 ·rintro iM σ' H13 eo CP qK g14;subst eo;rw [bI]at h;have s15:σ' 2=(.ref (AH.empty.next) 0):=(CP 2 (by decide)).trans au;have le:=qK.1;try simp only [AH.aK,AH.aL,AH.aM,AH.aN]at le
  have n17:=ne_next (show AH.empty.next<H13.next by first|omega|(simp only [AH.aK,AH.aL,AH.aM,AH.aN];omega));have m18:=aZ (show AH.empty.next<H13.next by first|omega|(simp only [AH.aK,AH.aL,AH.aM,AH.aN];omega));cases h;refine ah ?_;exact(bW (.cons (bQ (.cons (.pure _ (.str _)) (aQ (aQ (aQ (.cons (.pure _ (.bool _)) (aQ (aQ .nil)))))))) (.cons (.pure _ (.bool _)) .nil)))
 ·rintro EF σ' H22 eo akM akK ⟨s23,g24⟩;subst eo;rw [bL]at h;have s25:σ' 2=(.ref (AH.empty.next) 0):=(akM 2 (by decide)).trans au;have le:=akK.1;try simp only [AH.aK,AH.aL,AH.aM,AH.aN]at le
  have n27:=ne_next (show AH.empty.next<H22.next by first|omega|(simp only [AH.aK,AH.aL,AH.aM,AH.aN];omega));have m28:=aZ (show AH.empty.next<H22.next by first|omega|(simp only [AH.aK,AH.aL,AH.aM,AH.aN];omega));cases h;refine ah ?_;exact(bW (.cons (bQ (.cons (.pure _ (.str _)) (aQ (aQ (aQ (.cons (.pure _ (.bool _)) (aQ (aQ .nil)))))))) (.cons (.pure _ (.bool _)) .nil)))
def Ar:Option (List Str):=
 some [([65,83,83,85,77,69]:Str),([65,83,83,85,77,80,84,73,79,78]:Str),([65,88,73,79,77]:Str),([66,89]:Str),([67,65,83,69]:Str),([67,72,79,79,83,69]:Str),([67,79,78,83,84,65,78,84]:Str),([67,79,78,83,84,65,78,84,83]:Str),([68,69,70]:Str),([68,69,70,73,78,69]:Str),([68,69,70,83]:Str),([68,79,77,65,73,78]:Str),([69,76,83,69]:Str),([69,78,65,66,76,69,68]:Str),([69,88,67,69,80,84]:Str),([69,88,84,69,78,68,83]:Str),([70,65,76,83,69]:Str),([72,65,86,69]:Str),([72,73,68,69]:Str),([73,70]:Str),([73,78]:Str),([73,78,83,84,65,78,67,69]:Str),([76,65,77,66,68,65]:Str),([76,69,77,77,65]:Str),([76,69,84]:Str),([76,79,67,65,76]:Str),([77,79,68,85,76,69]:Str),([78,69,87]:Str),([79,66,86,73,79,85,83]:Str),([79,77,73,84,84,69,68]:Str),([79,84,72,69,82]:Str),([80,73,67,75]:Str),([80,82,79,79,70]:Str),([80,82,79,80,79,83,73,84,73,79,78]:Str),([80,82,79,86,69]:Str),([81,69,68]:Str),([82,69,67,85,82,83,73,86,69]:Str),([83,85,66,83,69,84]:Str),([83,85,70,70,73,67,69,83]:Str),([84,65,75,69]:Str),([84,72,69,78]:Str),([84,72,69,79,82,69,77]:Str),([84,82,85,69]:Str),([85,78,67,72,65,78,71,69,68]:Str),([85,78,73,79,78]:Str),([85,83,69]:Str),([86,65,82,73,65,66,76,69]:Str),([86,65,82,73,65,66,76,69,83]:Str),([87,73,84,72]:Str),([87,73,84,78,69,83,83]:Str)]
theorem aaW {r:List Str} (h:Ar=some r):aD Tryz.prog 246 [] (.ak (r.map aH) .unk):=by
 refine aD.aO (aX.mem .nil) (aF awt (by simp) (aC ?_)) (aT bE _);unfold Ar at h;unfold anj;cases h;refine ah ?_;exact(dS bE [([65,83,83,85,77,69]:Str),([65,83,83,85,77,80,84,73,79,78]:Str),([65,88,73,79,77]:Str),([66,89]:Str),([67,65,83,69]:Str),([67,72,79,79,83,69]:Str),([67,79,78,83,84,65,78,84]:Str),([67,79,78,83,84,65,78,84,83]:Str),([68,69,70]:Str),([68,69,70,73,78,69]:Str),([68,69,70,83]:Str),([68,79,77,65,73,78]:Str),([69,76,83,69]:Str),([69,78,65,66,76,69,68]:Str),([69,88,67,69,80,84]:Str),([69,88,84,69,78,68,83]:Str),([70,65,76,83,69]:Str),([72,65,86,69]:Str),([72,73,68,69]:Str),([73,70]:Str),([73,78]:Str),([73,78,83,84,65,78,67,69]:Str),([76,65,77,66,68,65]:Str),([76,69,77,77,65]:Str),([76,69,84]:Str),([76,79,67,65,76]:Str),([77,79,68,85,76,69]:Str),([78,69,87]:Str),([79,66,86,73,79,85,83]:Str),([79,77,73,84,84,69,68]:Str),([79,84,72,69,82]:Str),([80,73,67,75]:Str),([80,82,79,79,70]:Str),([80,82,79,80,79,83,73,84,73,79,78]:Str),([80,82,79,86,69]:Str),([81,69,68]:Str),([82,69,67,85,82,83,73,86,69]:Str),([83,85,66,83,69,84]:Str),([83,85,70,70,73,67,69,83]:Str),([84,65,75,69]:Str),([84,72,69,78]:Str),([84,72,69,79,82,69,77]:Str),([84,82,85,69]:Str),([85,78,67,72,65,78,71,69,68]:Str),([85,78,73,79,78]:Str),([85,83,69]:Str),([86,65,82,73,65,66,76,69]:Str),([86,65,82,73,65,66,76,69,83]:Str),([87,73,84,72]:Str),([87,73,84,78,69,83,83]:Str)] _)
def Au (yD:Int):Option Bool:=
 cond (decide (yD>=97)) (cond (decide (yD<=122)) (some true) (cond (decide (yD>=65)) (some (decide (yD<=90))) (some false))) (cond (decide (yD>=65)) (some (decide (yD<=90))) (some false))
theorem Nk {yD:Int} {r:Bool} (h:Au yD=some r):aD Tryz.prog 247 [(.int .u8 yD)] (.bool r):=by
 refine aD.aO (aX.mem (.cons (.int _ _) .nil)) (aF awu (by simp) (aC ?_)) (.bool _);unfold Au at h;unfold ank;obtain⟨e1,h⟩|⟨e1,h⟩:=aA h
 ·obtain⟨e2,h⟩|⟨e2,h⟩:=aA h
  ·cases h;refine ah ?_;exact(.pure _ (.bool _))
  ·obtain⟨e3,h⟩|⟨e3,h⟩:=aA h
   ·cases h;refine ah ?_;exact(.pure _ (.bool _))
   ·cases h;refine ah ?_;exact(.pure _ (.bool _))
 ·obtain⟨e4,h⟩|⟨e4,h⟩:=aA h
  ·cases h;refine ah ?_;exact(.pure _ (.bool _))
  ·cases h;refine ah ?_;exact(.pure _ (.bool _))
def DN (yD:Int):Option Bool:=
 cond (decide (yD>=48)) (some (decide (yD<=57))) (some false)
theorem adV {yD:Int} {r:Bool} (h:DN yD=some r):aD Tryz.prog 248 [(.int .u8 yD)] (.bool r):=by
 refine aD.aO (aX.mem (.cons (.int _ _) .nil)) (aF awv (by simp) (aC ?_)) (.bool _);unfold DN at h;unfold anl;obtain⟨e1,h⟩|⟨e1,h⟩:=aA h
 ·cases h;refine ah ?_;exact(.pure _ (.bool _))
 ·cases h;refine ah ?_;exact(.pure _ (.bool _))
def Dn (k:Nat) (s_0:Str):Option (Unit⊕Bool):=
 (iP (s_0.length:Int) 1 24).bind fun p2=>cond p2 ((Ar).bind fun p5=>(nu k p5 s_0).bind fun p7=>cond p7 (some (.inr (false))) (some (.inl ()))) (some (.inr (false)))
def F9:List Nat:=[2]++List.range' 5 9
theorem Y9 (k:Nat): ∀(s_0:Str) (aB σ:Nat->PV) (H:AH) (f0:Fr F9 aB σ) (sl:σ 0=(.str s_0)) (o:Unit⊕Bool) (h:Dn k s_0=some o) (Q:Post) (q0: ∀(p:Unit) (σ':Nat->PV),o= .inl p->Fr F9 aB σ'->Q .normal σ' H) (q1: ∀(p:Bool) (σ':Nat->PV),o= .inr (p)->Fr F9 aB σ'->(σ' 2=(.bool p))->Q .ret σ' H),W Tryz.prog RF Q σ H:=by
 intro s_0 aB σ H f0 sl o h Q q0 q1;have s0:=sl;unfold Dn at h;refine aC ?_;unfold RF;obtain⟨p2,e1,h⟩:=aj h;refine ah ?_;refine av (jf e1) ?_;obtain⟨e3,h⟩|⟨e3,h⟩:=aA h
 ·obtain⟨p5,e4,h⟩:=aj h;refine ah ?_;refine av (aaW e4) ?_;obtain⟨p7,e6,h⟩:=aj h;refine ah ?_;refine av (Am e6) ?_;obtain⟨e8,h⟩|⟨e8,h⟩:=aA h
  ·cases h;refine ah ?_;exact q1 _ _ rfl aI au
  ·cases h;refine ah ?_;exact q0 _ _ rfl aI
 ·cases h;refine ah ?_;exact q1 _ _ rfl aI au
def yM (s_0:Str) (dO:Int) (jh:Bool):Option Bool:=
 cond jh (if 0<=dO then (s_0[dO.toNat]?).bind fun x24=>(DN (x24.toNat:Int)).bind fun p27=>cond p27 (some (false)) (some (((x24.toNat:Int) !=95)))else none) (some (false))
def Nl:List Nat:=List.range' 26 12
theorem Za: ∀(s_0:Str) (dO:Int) (jh:Bool) (aB σ:Nat->PV) (H:AH) (f0:Fr Nl aB σ) (sl:σ 0=(.str s_0)/\σ 4=(.int .i64 dO)/\σ 25=(.bool jh)) (o:Bool) (h:yM s_0 dO jh=some o) (Q:Post) (q0: ∀(p:Bool) (σ':Nat->PV),o=p->Fr Nl aB σ'->(σ' 37=(.bool p))->Q .normal σ' H),dH Tryz.prog RG (Q .normal) σ H:=by
 intro s_0 dO jh aB σ H f0 sl o h Q q0;obtain⟨s0,s4,s25⟩:=sl;unfold yM at h;refine fu ?_;unfold RG;obtain⟨e22,h⟩|⟨e22,h⟩:=aA h
 ·obtain⟨e23,h⟩:=aU h;obtain⟨x24,e25,h⟩:=aj h;obtain⟨p27,e26,h⟩:=aj h;refine ah ?_;refine av (adV e26) ?_;obtain⟨e28,h⟩|⟨e28,h⟩:=aA h
  ·cases h;refine ah ?_;exact q0 _ _ rfl aI au
  ·cases h;refine ah ?_;exact q0 _ _ rfl aI au
 ·cases h;refine ah ?_;exact q0 _ _ rfl aI au
def lK:Nat->Str->Bool->Int->Option (Bool⊕Bool)
 |0,_,_,_=>none
 |k+1,s_0,wz,dO=>
  cond (decide (dO<(s_0.length:Int))) (if 0<=dO then (s_0[dO.toNat]?).bind fun x18=>(Au (x18.toNat:Int)).bind fun qB=>Option.bind (yM s_0 dO (!qB)) (fun p31=>cond p31 (some (.inr (false))) (cond wz (lK k s_0 true (IntKind.wrap .i64 (dO+1))) (lK k s_0 qB (IntKind.wrap .i64 (dO+1)))))else none) (some (.inl wz))
def Ga:List Nat:=[2,3,4]++List.range' 14 31
theorem Zb: ∀(k:Nat) (s_0:Str) (wz:Bool) (dO:Int) (aB σ:Nat->PV) (H:AH) (f0:Fr Ga aB σ) (sl:σ 0=(.str s_0)/\σ 3=(.bool wz)/\σ 4=(.int .i64 dO)) (o:Bool⊕Bool) (h:lK k s_0 wz dO=some o) (Q:Post) (q0: ∀(p:Bool) (σ':Nat->PV),o= .inl p->Fr Ga aB σ'->(σ' 3=(.bool p))->Q (.exit 0) σ' H) (q1: ∀(p:Bool) (σ':Nat->PV),o= .inr (p)->Fr Ga aB σ'->(σ' 2=(.bool p))->Q .ret σ' H),W Tryz.prog (.loop RH) Q σ H:=by
 intro k
 induction k with
 |zero=>intro s_0 wz dO aB σ H f0 sl o h Q q0 q1;simp only [lK,reduceCtorEq]at h
 |succ k ih=>
  intro s_0 wz dO aB σ H f0 sl o h Q q0 q1;obtain⟨s0,s3,s4⟩:=sl;unfold lK at h;refine aW (fun K hK=>aC ?_);unfold RH;obtain⟨e16,h⟩|⟨e16,h⟩:=aA h
  ·obtain⟨e17,h⟩:=aU h;obtain⟨x18,e19,h⟩:=aj h;obtain⟨qB,e20,h⟩:=aj h;refine ah ?_;refine av (Nk e20) ?_;refine ah ?_;obtain⟨o29,h30,h⟩:=aj h;refine Za s_0 dO (!qB) _ _ _ (Fr.refl _ _) au _ h30 _ ?_
   ·rintro p31 σ' eo SN s35;rw [eo]at h;have s36:σ' 0=(.str s_0):=(SN 0 (by decide)).trans au;have s37:σ' 3=(.bool wz):=(SN 3 (by decide)).trans au;have s38:σ' 4=(.int .i64 dO):=(SN 4 (by decide)).trans au;obtain⟨e39,h⟩|⟨e39,h⟩:=aA h
    ·cases h;refine ah ?_;exact q1 _ _ rfl (by repeat (first|exact f0|refine Fr.upd (by decide) ?_|refine Fr.via SN (by decide) ?_)) au
    ·obtain⟨e40,h⟩|⟨e40,h⟩:=aA h
     ·refine ah ?_;refine hK _ _ ?_;exact ih s_0 true (IntKind.wrap .i64 (dO+1)) _ _ _ (by repeat (first|exact f0|refine Fr.upd (by decide) ?_|refine Fr.via SN (by decide) ?_)) au _ h _ q0 q1
     ·refine ah ?_;refine av (Nk e20) ?_;refine ah ?_;refine hK _ _ ?_;exact ih s_0 qB (IntKind.wrap .i64 (dO+1)) _ _ _ (by repeat (first|exact f0|refine Fr.upd (by decide) ?_|refine Fr.via SN (by decide) ?_)) au _ h _ q0 q1
  ·cases h;refine ah ?_;exact q0 _ _ rfl aI au
def Gb (k:Nat) (s_0:Str):Option Bool:=
 Option.bind (Dn k s_0) (fun o=>Sum.elim (fun ni=>Option.bind (lK k s_0 false 0) (fun o=>Sum.elim (fun p45=>some p45) (fun p50=>some p50) o)) (fun p55=>some p55) o)
theorem agn {k:Nat} {s_0:Str} {r:Bool} (h:Gb k s_0=some r):aD Tryz.prog 197 [(.str s_0)] (.bool r):=by
 refine aD.aO (aX.mem (.cons (.str _) .nil)) (aF av3 (by simp) (aC ?_)) (.bool _);unfold Gb at h;unfold amV;refine ah ?_;obtain⟨o9,h10,h⟩:=aj h;refine Y9 k s_0 _ _ _ (Fr.refl _ _) au _ h10 _ ?_ ?_
 ·rintro ni σ' eo qC;subst eo;rw [bI]at h;have s15:σ' 0=(.str s_0):=(qC 0 (by decide)).trans au;refine ah ?_;obtain⟨o43,h44,h⟩:=aj h;refine Zb k s_0 false 0 _ _ _ (Fr.refl _ _) au _ h44 _ ?_ ?_
  ·rintro p45 σ' eo aEV s49;subst eo;rw [bI]at h;cases h;refine ah ?_;exact(.pure _ (.bool _))
  ·rintro p50 σ' eo aEW s54;subst eo;rw [bL]at h;cases h;refine ah ?_;exact(.pure _ (.bool _))
 ·rintro p55 σ' eo ar5 s59;subst eo;rw [bL]at h;cases h;refine ah ?_;exact(.pure _ (.bool _))
def wC (s_0:Str):Option Bool:=
 cond (s_0==([84,82,85,69]:Str)) (some true) (cond (s_0==([70,65,76,83,69]:Str)) (some true) (cond (s_0==([66,79,79,76,69,65,78]:Str)) (some true) (some (s_0==([83,84,82,73,78,71]:Str)))))
theorem Jh {s_0:Str} {r:Bool} (h:wC s_0=some r):aD Tryz.prog 111 [(.str s_0)] (.bool r):=by
 refine aD.aO (aX.mem (.cons (.str _) .nil)) (aF avr (by simp) (aC ?_)) (.bool _);unfold wC at h;unfold ame;obtain⟨e1,h⟩|⟨e1,h⟩:=aA h
 ·cases h;refine ah ?_;exact(.pure _ (.bool _))
 ·obtain⟨e2,h⟩|⟨e2,h⟩:=aA h
  ·cases h;refine ah ?_;exact(.pure _ (.bool _))
  ·obtain⟨e3,h⟩|⟨e3,h⟩:=aA h
   ·cases h;refine ah ?_;exact(.pure _ (.bool _))
   ·cases h;refine ah ?_;exact(.pure _ (.bool _))
def tZ (k:Nat) (s_0:Str):Option Bool:=
 (Gb k s_0).bind fun p2=>cond p2 ((wC s_0).bind fun p5=>cond p5 (some false) (cond (decide ((s_0.length:Int)>2)) (if 3<=s_0.length then cond ((s_0.take 3)==([87,70,95]:Str)) (some false) (some (!((s_0.take 3)==([83,70,95]:Str))))else none) (some true))) (some false)
theorem Av {k:Nat} {s_0:Str} {r:Bool} (h:tZ k s_0=some r):aD Tryz.prog 137 [(.str s_0)] (.bool r):=by
 refine aD.aO (aX.mem (.cons (.str _) .nil)) (aF avC (by simp) (aC ?_)) (.bool _);unfold tZ at h;unfold ams;obtain⟨p2,e1,h⟩:=aj h;refine ah ?_;refine av (agn e1) ?_;obtain⟨e3,h⟩|⟨e3,h⟩:=aA h
 ·obtain⟨p5,e4,h⟩:=aj h;refine ah ?_;refine av (Jh e4) ?_;obtain⟨e6,h⟩|⟨e6,h⟩:=aA h
  ·cases h;refine ah ?_;exact(.pure _ (.bool _))
  ·obtain⟨e7,h⟩|⟨e7,h⟩:=aA h
   ·obtain⟨e8,h⟩:=aU h;obtain⟨e9,h⟩|⟨e9,h⟩:=aA h
    ·cases h;refine ah ?_;exact(.pure _ (.bool _))
    ·cases h;refine ah ?_;exact(.pure _ (.bool _))
   ·cases h;refine ah ?_;exact(.pure _ (.bool _))
 ·cases h;refine ah ?_;exact(.pure _ (.bool _))
def lM:Nat->Str->Int->Option (Unit⊕Bool)
 |0,_,_=>none
 |k+1,s_0,dn=>
  cond (decide (dn<(s_0.length:Int))) (if 0<=dn then (s_0[dn.toNat]?).bind fun x3=>cond ((x3.toNat:Int)==33) (if 0<=dn/\dn.toNat<=s_0.length then (tZ k (s_0.take dn.toNat)).bind fun p8=>cond p8 (if 0<=(IntKind.wrap .i64 (dn+1))/\(IntKind.wrap .i64 (dn+1)).toNat<=s_0.length then (tZ k (s_0.drop (IntKind.wrap .i64 (dn+1)).toNat)).bind fun ng=>some (.inr (ng))else none) (some (.inr (false)))else none) (lM k s_0 (IntKind.wrap .i64 (dn+1)))else none) (some (.inl ()))
def Gc:List Nat:=List.range' 2 23
theorem Zc: ∀(k:Nat) (s_0:Str) (dn:Int) (aB σ:Nat->PV) (H:AH) (f0:Fr Gc aB σ) (sl:σ 0=(.str s_0)/\σ 3=(.int .i64 dn)) (o:Unit⊕Bool) (h:lM k s_0 dn=some o) (Q:Post) (q0: ∀(p:Unit) (σ':Nat->PV),o= .inl p->Fr Gc aB σ'->Q (.exit 0) σ' H) (q1: ∀(p:Bool) (σ':Nat->PV),o= .inr (p)->Fr Gc aB σ'->(σ' 2=(.bool p))->Q .ret σ' H),W Tryz.prog (.loop QY) Q σ H:=by
 intro k
 induction k with
 |zero=>intro s_0 dn aB σ H f0 sl o h Q q0 q1;simp only [lM,reduceCtorEq]at h
 |succ k ih=>
  intro s_0 dn aB σ H f0 sl o h Q q0 q1;obtain⟨s0,s3⟩:=sl;unfold lM at h;refine aW (fun K hK=>aC ?_);unfold QY;obtain⟨e1,h⟩|⟨e1,h⟩:=aA h
  ·obtain⟨e2,h⟩:=aU h;obtain⟨x3,e4,h⟩:=aj h;obtain⟨e5,h⟩|⟨e5,h⟩:=aA h
   ·obtain⟨e6,h⟩:=aU h;obtain⟨p8,e7,h⟩:=aj h;refine ah ?_;refine av (Av e7) ?_;obtain⟨e9,h⟩|⟨e9,h⟩:=aA h
    ·obtain⟨e10,h⟩:=aU h;obtain⟨ng,e11,h⟩:=aj h;refine ah ?_;refine av (Av e11) ?_;cases h;refine ah ?_;exact q1 _ _ rfl aI au
    ·cases h;refine ah ?_;exact q1 _ _ rfl aI au
   ·refine ah ?_;refine hK _ _ ?_;exact ih s_0 (IntKind.wrap .i64 (dn+1)) _ _ _ aI au _ h _ q0 q1
  ·cases h;refine ah ?_;exact q0 _ _ rfl aI
def uf (k:Nat) (s_0:Str):Option Bool:=
 Option.bind (lM k s_0 0) (fun o=>Sum.elim (fun wD=>(tZ k s_0).bind fun qB=>some qB) (fun Gf=>some Gf) o)
theorem Aw {k:Nat} {s_0:Str} {r:Bool} (h:uf k s_0=some r):aD Tryz.prog 135 [(.str s_0)] (.bool r):=by
 refine aD.aO (aX.mem (.cons (.str _) .nil)) (aF avA (by simp) (aC ?_)) (.bool _);unfold uf at h;unfold amq;refine ah ?_;obtain⟨o13,h14,h⟩:=aj h;refine Zc k s_0 0 _ _ _ (Fr.refl _ _) au _ h14 _ ?_ ?_
 ·rintro wD σ' eo Ji;subst eo;rw [bI]at h;have oW:σ' 0=(.str s_0):=(Ji 0 (by decide)).trans au;obtain⟨qB,e20,h⟩:=aj h;refine ah ?_;refine av (Av e20) ?_;cases h;refine ah ?_;exact(.pure _ (.bool _))
 ·rintro Gf σ' eo Wy s26;subst eo;rw [bL]at h;cases h;refine ah ?_;exact(.pure _ (.bool _))
def ug (eB:Int):Option Bool:=
 cond (eB==0) (some ((eB==0))) (cond (eB==1) (some ((eB==1))) (cond (eB==2) (some ((eB==2))) (some ((eB==20)))))
def PE:List Nat:=[5,6,7,8,9]
theorem aaY: ∀(eB:Int) (aB σ:Nat->PV) (H:AH) (f0:Fr PE aB σ) (sl:σ 4=(.int .i64 eB)) (o:Bool) (h:ug eB=some o) (Q:Post) (q0: ∀(p:Bool) (σ':Nat->PV),o=p->Fr PE aB σ'->(σ' 5=(.bool p))->Q .normal σ' H),W Tryz.prog Rt Q σ H:=by
 intro eB aB σ H f0 sl o h Q q0;have s4:=sl;unfold ug at h;refine aC ?_;unfold Rt;obtain⟨e1,h⟩|⟨e1,h⟩:=aA h
 ·cases h;refine ah ?_;exact q0 _ _ rfl aI au
 ·obtain⟨e2,h⟩|⟨e2,h⟩:=aA h
  ·cases h;refine ah ?_;exact q0 _ _ rfl aI au
  ·obtain⟨e3,h⟩|⟨e3,h⟩:=aA h
   ·cases h;refine ah ?_;exact q0 _ _ rfl aI au
   ·cases h;refine ah ?_;exact q0 _ _ rfl aI au
def Ay (eB:Int):Option Bool:=
 cond (eB==4) (some ((eB==4))) (some ((eB==5)))
theorem aaZ: ∀(eB:Int) (aB σ:Nat->PV) (H:AH) (f0:Fr [14,15,16] aB σ) (sl:σ 4=(.int .i64 eB)) (o:Bool) (h:Ay eB=some o) (Q:Post) (q0: ∀(p:Bool) (σ':Nat->PV),o=p->Fr [14,15,16] aB σ'->(σ' 14=(.bool p))->Q .normal σ' H),W Tryz.prog Ru Q σ H:=by
 intro eB aB σ H f0 sl o h Q q0;have s4:=sl;unfold Ay at h;refine aC ?_;unfold Ru;obtain⟨e15,h⟩|⟨e15,h⟩:=aA h
 ·cases h;refine ah ?_;exact q0 _ _ rfl aI au
 ·cases h;refine ah ?_;exact q0 _ _ rfl aI au
def Az (eB:Int):Option Bool:=
 cond (eB==6) (some ((eB==6))) (some ((eB==12)))
theorem aa0: ∀(eB:Int) (aB σ:Nat->PV) (H:AH) (f0:Fr [18,19,20] aB σ) (sl:σ 4=(.int .i64 eB)) (o:Bool) (h:Az eB=some o) (Q:Post) (q0: ∀(p:Bool) (σ':Nat->PV),o=p->Fr [18,19,20] aB σ'->(σ' 18=(.bool p))->Q .normal σ' H),W Tryz.prog Rv Q σ H:=by
 intro eB aB σ H f0 sl o h Q q0;have s4:=sl;unfold Az at h;refine aC ?_;unfold Rv;obtain⟨e26,h⟩|⟨e26,h⟩:=aA h
 ·cases h;refine ah ?_;exact q0 _ _ rfl aI au
 ·cases h;refine ah ?_;exact q0 _ _ rfl aI au
def AA (eB:Int):Option Bool:=
 cond (eB==7) (some ((eB==7))) (cond (eB==8) (some ((eB==8))) (cond (eB==9) (some ((eB==9))) (some ((eB==13)))))
def PG:List Nat:=[22,23,24,25,26]
theorem aa1: ∀(eB:Int) (aB σ:Nat->PV) (H:AH) (f0:Fr PG aB σ) (sl:σ 4=(.int .i64 eB)) (o:Bool) (h:AA eB=some o) (Q:Post) (q0: ∀(p:Bool) (σ':Nat->PV),o=p->Fr PG aB σ'->(σ' 22=(.bool p))->Q .normal σ' H),W Tryz.prog Rw Q σ H:=by
 intro eB aB σ H f0 sl o h Q q0;have s4:=sl;unfold AA at h;refine aC ?_;unfold Rw;obtain⟨e37,h⟩|⟨e37,h⟩:=aA h
 ·cases h;refine ah ?_;exact q0 _ _ rfl aI au
 ·obtain⟨e38,h⟩|⟨e38,h⟩:=aA h
  ·cases h;refine ah ?_;exact q0 _ _ rfl aI au
  ·obtain⟨e39,h⟩|⟨e39,h⟩:=aA h
   ·cases h;refine ah ?_;exact q0 _ _ rfl aI au
   ·cases h;refine ah ?_;exact q0 _ _ rfl aI au
def AB (eB:Int):Option Bool:=
 cond (eB==10) (some ((eB==10))) (some ((eB==11)))
theorem aa2: ∀(eB:Int) (aB σ:Nat->PV) (H:AH) (f0:Fr [28,29,30] aB σ) (sl:σ 4=(.int .i64 eB)) (o:Bool) (h:AB eB=some o) (Q:Post) (q0: ∀(p:Bool) (σ':Nat->PV),o=p->Fr [28,29,30] aB σ'->(σ' 28=(.bool p))->Q .normal σ' H),W Tryz.prog Rx Q σ H:=by
 intro eB aB σ H f0 sl o h Q q0;have s4:=sl;unfold AB at h;refine aC ?_;unfold Rx;obtain⟨e50,h⟩|⟨e50,h⟩:=aA h
 ·cases h;refine ah ?_;exact q0 _ _ rfl aI au
 ·cases h;refine ah ?_;exact q0 _ _ rfl aI au
def AJ (eB:Int):Option Bool:=
 cond (eB==15) (some ((eB==15))) (cond (eB==25) (some ((eB==25))) (cond (eB==26) (some ((eB==26))) (cond (eB==27) (some ((eB==27))) (some ((eB==28))))))
def PI:List Nat:=[35,36,37,38,39,40]
theorem aa3: ∀(eB:Int) (aB σ:Nat->PV) (H:AH) (f0:Fr PI aB σ) (sl:σ 4=(.int .i64 eB)) (o:Bool) (h:AJ eB=some o) (Q:Post) (q0: ∀(p:Bool) (σ':Nat->PV),o=p->Fr PI aB σ'->(σ' 35=(.bool p))->Q .normal σ' H),W Tryz.prog Ry Q σ H:=by
 intro eB aB σ H f0 sl o h Q q0;have s4:=sl;unfold AJ at h;refine aC ?_;unfold Ry;obtain⟨e62,h⟩|⟨e62,h⟩:=aA h
 ·cases h;refine ah ?_;exact q0 _ _ rfl aI au
 ·obtain⟨e63,h⟩|⟨e63,h⟩:=aA h
  ·cases h;refine ah ?_;exact q0 _ _ rfl aI au
  ·obtain⟨e64,h⟩|⟨e64,h⟩:=aA h
   ·cases h;refine ah ?_;exact q0 _ _ rfl aI au
   ·obtain⟨e65,h⟩|⟨e65,h⟩:=aA h
    ·cases h;refine ah ?_;exact q0 _ _ rfl aI au
    ·cases h;refine ah ?_;exact q0 _ _ rfl aI au
def AL (eB:Int):Option Bool:=
 cond (eB==16) (some ((eB==16))) (some ((eB==17)))
theorem aa4: ∀(eB:Int) (aB σ:Nat->PV) (H:AH) (f0:Fr [42,43,44] aB σ) (sl:σ 4=(.int .i64 eB)) (o:Bool) (h:AL eB=some o) (Q:Post) (q0: ∀(p:Bool) (σ':Nat->PV),o=p->Fr [42,43,44] aB σ'->(σ' 42=(.bool p))->Q .normal σ' H),W Tryz.prog RA Q σ H:=by
 intro eB aB σ H f0 sl o h Q q0;have s4:=sl;unfold AL at h;refine aC ?_;unfold RA;obtain⟨e76,h⟩|⟨e76,h⟩:=aA h
 ·cases h;refine ah ?_;exact q0 _ _ rfl aI au
 ·cases h;refine ah ?_;exact q0 _ _ rfl aI au
def sH (eX:Int):Option ((Int×Int×Int×Int)×Bool):=
 Option.bind (ug eX) (fun p6=>cond p6 (some ((0,0,0,0),false)) (cond (eX==3) (some ((0,0,1,4),false)) (Option.bind (Ay eX) (fun DR=>cond DR (some ((0,0,0,30),false)) (Option.bind (Az eX) (fun p29=>cond p29 (some ((1,1,2,2),false)) (Option.bind (AA eX) (fun p42=>cond p42 (some ((1,4,1,1),true)) (Option.bind (AB eX) (fun p53=>cond p53 (some ((1,4,1,1),false)) (cond (eX==14) (some ((0,0,2,5),false)) (Option.bind (AJ eX) (fun p68=>cond p68 (some ((0,0,2,2),false)) (Option.bind (AL eX) (fun p79=>cond p79 (some ((1,30,0,0),true)) (cond (eX==18) (some ((0,0,1,1),false)) (cond (eX==19) (some ((0,0,3,3),false)) (cond (eX==21) (some ((0,0,3,3),false)) (cond (eX==22) (some ((0,0,2,30),false)) (cond (eX==23) (some ((1,5,2,2),false)) (some ((1,4,1,1),false))))))))))))))))))))))
theorem air {eX:Int} {r:(Int×Int×Int×Int)×Bool} (h:sH eX=some r):aD Tryz.prog 194 [(.int .i64 eX)] (.cK [(.agg [(.int .i64 r.1.1),(.int .i64 r.1.2.1),(.int .i64 r.1.2.2.1),(.int .i64 r.1.2.2.2)]),(.bool r.2)]):=by
 refine aD.aO (aX.mem (.cons (.int _ _) .nil)) (aF av0 (by simp) (aC ?_)) (.cK _ (aX.mem (.cons (.agg _ (aX.mem (.cons (.int _ _) (.cons (.int _ _) (.cons (.int _ _) (.cons (.int _ _) .nil)))))) (.cons (.bool _) .nil))));unfold sH at h;unfold amS;refine ah ?_;obtain⟨o4,h5,h⟩:=aj h;refine aaY eX _ _ _ (Fr.refl _ _) au _ h5 _ ?_
 ·rintro p6 σ' eo fr7 s10;rw [eo]at h;have s11:σ' 2=(.ref (AH.empty.next) 0):=(fr7 2 (by decide)).trans au;have s12:σ' 4=(.int .i64 eX):=(fr7 4 (by decide)).trans au;obtain⟨e13,h⟩|⟨e13,h⟩:=aA h
  ·cases h;refine ah ?_;exact(bW (.cons (bQ (aQ (aQ (aQ (aQ .nil))))) (.cons (.pure _ (.bool _)) .nil)))
  ·obtain⟨e14,h⟩|⟨e14,h⟩:=aA h
   ·cases h;refine ah ?_;exact(bW (.cons (bQ (aQ (aQ (aQ (aQ .nil))))) (.cons (.pure _ (.bool _)) .nil)))
   ·refine ah ?_;obtain⟨o16,h17,h⟩:=aj h;refine aaZ eX _ _ _ (Fr.refl _ _) au _ h17 _ ?_
    ·rintro DR σ' eo akN s22;rw [eo]at h;have s23:σ' 2=(.ref (AH.empty.next) 0):=(akN 2 (by decide)).trans au;have s24:σ' 4=(.int .i64 eX):=(akN 4 (by decide)).trans au;obtain⟨e25,h⟩|⟨e25,h⟩:=aA h
     ·cases h;refine ah ?_;exact(bW (.cons (bQ (aQ (aQ (aQ (aQ .nil))))) (.cons (.pure _ (.bool _)) .nil)))
     ·refine ah ?_;obtain⟨o27,h28,h⟩:=aj h;refine aa0 eX _ _ _ (Fr.refl _ _) au _ h28 _ ?_
      ·rintro p29 σ' eo Jj s33;rw [eo]at h;have s34:σ' 2=(.ref (AH.empty.next) 0):=(Jj 2 (by decide)).trans au;have s35:σ' 4=(.int .i64 eX):=(Jj 4 (by decide)).trans au;obtain⟨e36,h⟩|⟨e36,h⟩:=aA h
       ·cases h;refine ah ?_;exact(bW (.cons (bQ (aQ (aQ (aQ (aQ .nil))))) (.cons (.pure _ (.bool _)) .nil)))
       ·refine ah ?_;obtain⟨o40,h41,h⟩:=aj h;refine aa1 eX _ _ _ (Fr.refl _ _) au _ h41 _ ?_
        ·rintro p42 σ' eo aa7 s46;rw [eo]at h;have s47:σ' 2=(.ref (AH.empty.next) 0):=(aa7 2 (by decide)).trans au;have s48:σ' 4=(.int .i64 eX):=(aa7 4 (by decide)).trans au;obtain⟨e49,h⟩|⟨e49,h⟩:=aA h
         ·cases h;refine ah ?_;exact(bW (.cons (bQ (aQ (aQ (aQ (aQ .nil))))) (.cons (.pure _ (.bool _)) .nil)))
         ·refine ah ?_;obtain⟨o51,h52,h⟩:=aj h;refine aa2 eX _ _ _ (Fr.refl _ _) au _ h52 _ ?_
          ·rintro p53 σ' eo Lb s57;rw [eo]at h;have s58:σ' 2=(.ref (AH.empty.next) 0):=(Lb 2 (by decide)).trans au;have s59:σ' 4=(.int .i64 eX):=(Lb 4 (by decide)).trans au;obtain⟨e60,h⟩|⟨e60,h⟩:=aA h
           ·cases h;refine ah ?_;exact(bW (.cons (bQ (aQ (aQ (aQ (aQ .nil))))) (.cons (.pure _ (.bool _)) .nil)))
           ·obtain⟨e61,h⟩|⟨e61,h⟩:=aA h
            ·cases h;refine ah ?_;exact(bW (.cons (bQ (aQ (aQ (aQ (aQ .nil))))) (.cons (.pure _ (.bool _)) .nil)))
            ·refine ah ?_;obtain⟨o66,h67,h⟩:=aj h;refine aa3 eX _ _ _ (Fr.refl _ _) au _ h67 _ ?_
             ·rintro p68 σ' eo ar8 s72;rw [eo]at h;have s73:σ' 2=(.ref (AH.empty.next) 0):=(ar8 2 (by decide)).trans au;have s74:σ' 4=(.int .i64 eX):=(ar8 4 (by decide)).trans au;obtain⟨Uf,h⟩|⟨Uf,h⟩:=aA h
              ·cases h;refine ah ?_;exact(bW (.cons (bQ (aQ (aQ (aQ (aQ .nil))))) (.cons (.pure _ (.bool _)) .nil)))
              ·refine ah ?_;obtain⟨o77,h78,h⟩:=aj h;refine aa4 eX _ _ _ (Fr.refl _ _) au _ h78 _ ?_
               ·rintro p79 σ' eo ar9 s83;rw [eo]at h;have s84:σ' 2=(.ref (AH.empty.next) 0):=(ar9 2 (by decide)).trans au;have s85:σ' 4=(.int .i64 eX):=(ar9 4 (by decide)).trans au;obtain⟨Ug,h⟩|⟨Ug,h⟩:=aA h
                ·cases h;refine ah ?_;exact(bW (.cons (bQ (aQ (aQ (aQ (aQ .nil))))) (.cons (.pure _ (.bool _)) .nil)))
                ·obtain⟨e87,h⟩|⟨e87,h⟩:=aA h
                 ·cases h;refine ah ?_;exact(bW (.cons (bQ (aQ (aQ (aQ (aQ .nil))))) (.cons (.pure _ (.bool _)) .nil)))
                 ·obtain⟨Uh,h⟩|⟨Uh,h⟩:=aA h
                  ·cases h;refine ah ?_;exact(bW (.cons (bQ (aQ (aQ (aQ (aQ .nil))))) (.cons (.pure _ (.bool _)) .nil)))
                  ·obtain⟨Ui,h⟩|⟨Ui,h⟩:=aA h
                   ·cases h;refine ah ?_;exact(bW (.cons (bQ (aQ (aQ (aQ (aQ .nil))))) (.cons (.pure _ (.bool _)) .nil)))
                   ·obtain⟨e90,h⟩|⟨e90,h⟩:=aA h
                    ·cases h;refine ah ?_;exact(bW (.cons (bQ (aQ (aQ (aQ (aQ .nil))))) (.cons (.pure _ (.bool _)) .nil)))
                    ·obtain⟨e91,h⟩|⟨e91,h⟩:=aA h
                     ·cases h;refine ah ?_;exact(bW (.cons (bQ (aQ (aQ (aQ (aQ .nil))))) (.cons (.pure _ (.bool _)) .nil)))
                     ·cases h;refine ah ?_;exact(bW (.cons (bQ (aQ (aQ (aQ (aQ .nil))))) (.cons (.pure _ (.bool _)) .nil)))
def nA:Nat->(List Nd)->Int->Option (Int⊕Int)
 |0,_,_=>none
 |k+1,aG,dD=>
  if 0<=dD then (aG[dD.toNat]?).bind fun x3=>cond (decide ((x3.args.length:Int)>0)) ((x3.args[0]?).bind fun x6=>(iP x6 0 (IntKind.wrap .i64 (dD -1))).bind fun p9=>cond p9 (nA k aG x6) (some (.inr ((-1))))) (some (.inl dD))else none
def Jk:List Nat:=[1,4,5]++List.range' 8 20
theorem abd: ∀(k:Nat) (aG:List Nd) (dD:Int) (aB σ:Nat->PV) (H:AH) (f0:Fr Jk aB σ) (sl:σ 0=(.ak (aG.map Nd.cells) .unk)/\σ 1=(.int .i64 dD)) (o:Int⊕Int) (h:nA k aG dD=some o) (Q:Post) (q0: ∀(p:Int) (σ':Nat->PV),o= .inl p->Fr Jk aB σ'->(σ' 1=(.int .i64 p))->Q (.exit 0) σ' H) (q1: ∀(p:Int) (σ':Nat->PV),o= .inr (p)->Fr Jk aB σ'->(σ' 4=(.int .i64 p))->Q .ret σ' H),W Tryz.prog (.loop QZ) Q σ H:=by
 intro k
 induction k with
 |zero=>intro aG dD aB σ H f0 sl o h Q q0 q1;simp only [nA,reduceCtorEq]at h
 |succ k ih=>
  intro aG dD aB σ H f0 sl o h Q q0 q1;obtain⟨s0,s1⟩:=sl;unfold nA at h;refine aW (fun K hK=>aC ?_);unfold QZ;obtain⟨e2,h⟩:=aU h;obtain⟨x3,e4,h⟩:=aj h;obtain⟨e5,h⟩|⟨e5,h⟩:=aA h
  ·obtain⟨x6,e7,h⟩:=aj h;obtain⟨p9,e8,h⟩:=aj h;refine ah ?_;refine av (jf e8) ?_;obtain⟨e10,h⟩|⟨e10,h⟩:=aA h
   ·refine ah ?_;refine hK _ _ ?_;exact ih aG x6 _ _ _ aI au _ h _ q0 q1
   ·cases h;refine ah ?_;exact q1 _ _ rfl aI au
  ·cases h;refine ah ?_;exact q0 _ _ rfl aI au
def vg (k:Nat) (aG:List Nd) (dD:Int):Option Int:=
 cond (decide (dD<0)) (some (-1)) (Option.bind (nA k aG dD) (fun o=>Sum.elim (fun wE=>some wE) (fun DR=>some DR) o))
theorem Nn {k:Nat} {aG:List Nd} {dD:Int} {c0:Ck} {r:Int} (h:vg k aG dD=some r):aD Tryz.prog 136 [(.ak (aG.map Nd.cells) c0),(.int .i64 dD)] (.int .i64 r):=by
 refine aD.lw (.ak (.same .nil)) (aD.aO (aX.mem (.cons (aT Nd.pu _) (.cons (.int _ _) .nil))) (aF avB (by simp) (aC ?_)) (.int _ _));unfold vg at h;unfold amr;obtain⟨e1,h⟩|⟨e1,h⟩:=aA h
 ·cases h;refine ah ?_;exact(.pure _ (.int _ _))
 ·refine ah ?_;obtain⟨o11,h12,h⟩:=aj h;refine abd k aG dD _ _ _ (Fr.refl _ _) au _ h12 _ ?_ ?_
  ·rintro wE σ' eo asb tK;subst eo;rw [bI]at h;cases h;refine ah ?_;exact(.pure _ (.int _ _))
  ·rintro DR σ' eo akN s22;subst eo;rw [bL]at h;cases h;refine ah ?_;exact(.pure _ (.int _ _))
def qd:Nat->(List Nd)->Int->Int->Int->Option (Unit⊕Bool)
 |0,_,_,_,_=>none
 |k+1,aG,dP,DT,oZ=>
  cond (decide (oZ>=0)) (if 0<=dP then (aG[dP.toNat]?).bind fun x6=>if 0<=oZ then (x6.args[oZ.toNat]?).bind fun x9=>cond (x9 !=(IntKind.wrap .i64 (DT -1))) (some (.inr (false))) (cond (decide (DT<1)) (some (.inr (false))) ((vg k aG (IntKind.wrap .i64 (DT -1))).bind fun iQ=>qd k aG dP iQ (IntKind.wrap .i64 (oZ -1))))else none else none) (some (.inl ()))
def Gg:List Nat:=[4,5,6]++List.range' 15 23
theorem Zd: ∀(k:Nat) (aG:List Nd) (dP:Int) (DT:Int) (oZ:Int) (aB σ:Nat->PV) (H:AH) (f0:Fr Gg aB σ) (sl:σ 0=(.ak (aG.map Nd.cells) .unk)/\σ 1=(.int .i64 dP)/\σ 5=(.int .i64 DT)/\σ 6=(.int .i64 oZ)) (o:Unit⊕Bool) (h:qd k aG dP DT oZ=some o) (Q:Post) (q0: ∀(p:Unit) (σ':Nat->PV),o= .inl p->Fr Gg aB σ'->Q (.exit 0) σ' H) (q1: ∀(p:Bool) (σ':Nat->PV),o= .inr (p)->Fr Gg aB σ'->(σ' 4=(.bool p))->Q .ret σ' H),W Tryz.prog (.loop RB) Q σ H:=by
 intro k
 induction k with
 |zero=>intro aG dP DT oZ aB σ H f0 sl o h Q q0 q1;simp only [qd,reduceCtorEq]at h
 |succ k ih=>
  intro aG dP DT oZ aB σ H f0 sl o h Q q0 q1;obtain⟨s0,s1,s5,s6⟩:=sl;unfold qd at h;refine aW (fun K hK=>aC ?_);unfold RB;obtain⟨e4,h⟩|⟨e4,h⟩:=aA h
  ·obtain⟨e5,h⟩:=aU h;obtain⟨x6,e7,h⟩:=aj h;obtain⟨e8,h⟩:=aU h;obtain⟨x9,e10,h⟩:=aj h;obtain⟨e11,h⟩|⟨e11,h⟩:=aA h
   ·cases h;refine ah ?_;exact q1 _ _ rfl aI au
   ·obtain⟨e12,h⟩|⟨e12,h⟩:=aA h
    ·cases h;refine ah ?_;exact q1 _ _ rfl aI au
    ·obtain⟨iQ,e13,h⟩:=aj h;refine ah ?_;refine av (Nn e13) ?_;refine ah ?_;refine hK _ _ ?_;exact ih aG dP iQ (IntKind.wrap .i64 (oZ -1)) _ _ _ aI au _ h _ q0 q1
  ·cases h;refine ah ?_;exact q0 _ _ rfl aI
def CQ (k:Nat) (aG:List Nd) (dP:Int):Option Bool:=
 if 0<=dP then (aG[dP.toNat]?).bind fun x2=>Option.bind (qd k aG dP dP (IntKind.wrap .i64 ((x2.args.length:Int) -1))) (fun o=>Sum.elim (fun Gi=>some true) (fun qB=>some qB) o)else none
theorem agp {k:Nat} {aG:List Nd} {dP:Int} {c0:Ck} {r:Bool} (h:CQ k aG dP=some r):aD Tryz.prog 195 [(.ak (aG.map Nd.cells) c0),(.int .i64 dP)] (.bool r):=by
 refine aD.lw (.ak (.same .nil)) (aD.aO (aX.mem (.cons (aT Nd.pu _) (.cons (.int _ _) .nil))) (aF av1 (by simp) (aC ?_)) (.bool _));unfold CQ at h;unfold amT;obtain⟨e1,h⟩:=aU h;obtain⟨x2,e3,h⟩:=aj h;refine ah ?_;obtain⟨o15,h16,h⟩:=aj h;refine Zd k aG dP dP (IntKind.wrap .i64 ((x2.args.length:Int) -1)) _ _ _ (Fr.refl _ _) au _ h16 _ ?_ ?_
 ·rintro Gi σ' eo vF;subst eo;rw [bI]at h;cases h;refine ah ?_;exact(.pure _ (.bool _))
 ·rintro qB σ' eo azz s25;subst eo;rw [bL]at h;cases h;refine ah ?_;exact(.pure _ (.bool _))
def lV:Nat->Str->Int->Option (Unit⊕Bool)
 |0,_,_=>none
 |k+1,s_0,dI=>
  cond (decide (dI<(s_0.length:Int))) (if 0<=dI then (s_0[dI.toNat]?).bind fun x4=>cond (decide ((x4.toNat:Int)<32)) (some (.inr (false))) (cond (decide ((x4.toNat:Int)>126)) (some (.inr (false))) (lV k s_0 (IntKind.wrap .i64 (dI+1))))else none) (some (.inl ()))
def Ej:List Nat:=[4,5]++List.range' 10 16
theorem Wz: ∀(k:Nat) (s_0:Str) (dI:Int) (aB σ:Nat->PV) (H:AH) (f0:Fr Ej aB σ) (sl:σ 0=(.str s_0)/\σ 5=(.int .i64 dI)) (o:Unit⊕Bool) (h:lV k s_0 dI=some o) (Q:Post) (q0: ∀(p:Unit) (σ':Nat->PV),o= .inl p->Fr Ej aB σ'->Q (.exit 0) σ' H) (q1: ∀(p:Bool) (σ':Nat->PV),o= .inr (p)->Fr Ej aB σ'->(σ' 4=(.bool p))->Q .ret σ' H),W Tryz.prog (.loop Sd) Q σ H:=by
 intro k
 induction k with
 |zero=>intro s_0 dI aB σ H f0 sl o h Q q0 q1;simp only [lV,reduceCtorEq]at h
 |succ k ih=>
  intro s_0 dI aB σ H f0 sl o h Q q0 q1;obtain⟨s0,s5⟩:=sl;unfold lV at h;refine aW (fun K hK=>aC ?_);unfold Sd;obtain⟨e2,h⟩|⟨e2,h⟩:=aA h
  ·obtain⟨e3,h⟩:=aU h;obtain⟨x4,e5,h⟩:=aj h;obtain⟨e6,h⟩|⟨e6,h⟩:=aA h
   ·cases h;refine ah ?_;exact q1 _ _ rfl aI au
   ·obtain⟨e7,h⟩|⟨e7,h⟩:=aA h
    ·cases h;refine ah ?_;exact q1 _ _ rfl aI au
    ·refine ah ?_;refine hK _ _ ?_;exact ih s_0 (IntKind.wrap .i64 (dI+1)) _ _ _ aI au _ h _ q0 q1
  ·cases h;refine ah ?_;exact q0 _ _ rfl aI
def DU (k:Nat) (s_0:Str) (Uj:Int):Option Bool:=
 cond (decide ((s_0.length:Int)>Uj)) (some false) (Option.bind (lV k s_0 0) (fun o=>Sum.elim (fun iM=>some true) (fun iQ=>some iQ) o))
theorem adW {k:Nat} {s_0:Str} {Uj:Int} {r:Bool} (h:DU k s_0 Uj=some r):aD Tryz.prog 245 [(.str s_0),(.int .i64 Uj)] (.bool r):=by
 refine aD.aO (aX.mem (.cons (.str _) (.cons (.int _ _) .nil))) (aF awr (by simp) (aC ?_)) (.bool _);unfold DU at h;unfold ani;obtain⟨e1,h⟩|⟨e1,h⟩:=aA h
 ·cases h;refine ah ?_;exact(.pure _ (.bool _))
 ·refine ah ?_;obtain⟨o8,h9,h⟩:=aj h;refine Wz k s_0 0 _ _ _ (Fr.refl _ _) au _ h9 _ ?_ ?_
  ·rintro iM σ' eo CP;subst eo;rw [bI]at h;cases h;refine ah ?_;exact(.pure _ (.bool _))
  ·rintro iQ σ' eo sI iX;subst eo;rw [bL]at h;cases h;refine ah ?_;exact(.pure _ (.bool _))
def pF:Nat->Str->Int->Option (Unit⊕Bool)
 |0,_,_=>none
 |k+1,s_0,dn=>
  cond (decide (dn<(s_0.length:Int))) (if 0<=dn then (s_0[dn.toNat]?).bind fun x6=>cond ((x6.toNat:Int)==34) (some (.inr (false))) (cond ((x6.toNat:Int)==92) (some (.inr (false))) (pF k s_0 (IntKind.wrap .i64 (dn+1))))else none) (some (.inl ()))
def Jl:List Nat:=[2,3]++List.range' 7 16
theorem abe: ∀(k:Nat) (s_0:Str) (dn:Int) (aB σ:Nat->PV) (H:AH) (f0:Fr Jl aB σ) (sl:σ 0=(.str s_0)/\σ 3=(.int .i64 dn)) (o:Unit⊕Bool) (h:pF k s_0 dn=some o) (Q:Post) (q0: ∀(p:Unit) (σ':Nat->PV),o= .inl p->Fr Jl aB σ'->Q (.exit 0) σ' H) (q1: ∀(p:Bool) (σ':Nat->PV),o= .inr (p)->Fr Jl aB σ'->(σ' 2=(.bool p))->Q .ret σ' H),W Tryz.prog (.loop RD) Q σ H:=by
 intro k
 induction k with
 |zero=>intro s_0 dn aB σ H f0 sl o h Q q0 q1;simp only [pF,reduceCtorEq]at h
 |succ k ih=>
  intro s_0 dn aB σ H f0 sl o h Q q0 q1;obtain⟨s0,s3⟩:=sl;unfold pF at h;refine aW (fun K hK=>aC ?_);unfold RD;obtain⟨e4,h⟩|⟨e4,h⟩:=aA h
  ·obtain⟨e5,h⟩:=aU h;obtain⟨x6,e7,h⟩:=aj h;obtain⟨e8,h⟩|⟨e8,h⟩:=aA h
   ·cases h;refine ah ?_;exact q1 _ _ rfl aI au
   ·obtain⟨e9,h⟩|⟨e9,h⟩:=aA h
    ·cases h;refine ah ?_;exact q1 _ _ rfl aI au
    ·refine ah ?_;refine hK _ _ ?_;exact ih s_0 (IntKind.wrap .i64 (dn+1)) _ _ _ aI au _ h _ q0 q1
  ·cases h;refine ah ?_;exact q0 _ _ rfl aI
def iK (k:Nat) (s_0:Str):Option Bool:=
 (DU k s_0 40).bind fun p2=>cond p2 (Option.bind (pF k s_0 0) (fun o=>Sum.elim (fun ng=>some true) (fun p16=>some p16) o)) (some false)
theorem mH {k:Nat} {s_0:Str} {r:Bool} (h:iK k s_0=some r):aD Tryz.prog 196 [(.str s_0)] (.bool r):=by
 refine aD.aO (aX.mem (.cons (.str _) .nil)) (aF av2 (by simp) (aC ?_)) (.bool _);unfold iK at h;unfold amU;obtain⟨p2,e1,h⟩:=aj h;refine ah ?_;refine av (adW e1) ?_;obtain⟨e3,h⟩|⟨e3,h⟩:=aA h
 ·refine ah ?_;obtain⟨o10,h11,h⟩:=aj h;refine abe k s_0 0 _ _ _ (Fr.refl _ _) au _ h11 _ ?_ ?_
  ·rintro ng σ' eo La;subst eo;rw [bI]at h;cases h;refine ah ?_;exact(.pure _ (.bool _))
  ·rintro p16 σ' eo WA s20;subst eo;rw [bL]at h;cases h;refine ah ?_;exact(.pure _ (.bool _))
 ·cases h;refine ah ?_;exact(.pure _ (.bool _))
def AO (bF:Int) (bX:Int) (bO:Str) (cZ:List Str) (dA:List Int) (abf:Bool):Option Bool:=
 cond abf (some ((bF==3))) (some (false))
theorem WB: ∀(dJ:Nat) (bF:Int) (bX:Int) (bO:Str) (cZ:List Str) (dA:List Int) (abf:Bool) (aB σ:Nat->PV) (H:AH) (f0:Fr [38,39,40,41] aB σ) (sl:σ 5=(.ref (dJ) 0)/\σ 37=(.bool abf)/\H.obj dJ=some [(.int .i64 bF),(.int .i64 bX),(.str bO),(.ak (cZ.map aH) .unk),(.ak (dA.map aS) .unk)]) (dN:dJ<H.next) (o:Bool) (h:AO bF bX bO cZ dA abf=some o) (Q:Post) (q0: ∀(p:Bool) (σ':Nat->PV),o=p->Fr [38,39,40,41] aB σ'->(σ' 41=(.bool p))->Q .normal σ' H),dH Tryz.prog QJ (Q .normal) σ H:=by
 intro dJ bF bX bO cZ dA abf aB σ H f0 sl dN o h Q q0;obtain⟨s5,s37,zK⟩:=sl;have zL:=ne_next dN;have zM:=aZ dN;unfold AO at h;refine fu ?_;unfold QJ;obtain⟨e11,h⟩|⟨e11,h⟩:=aA h
 ·cases h;refine ah ?_;exact q0 _ _ rfl aI au
 ·cases h;refine ah ?_;exact q0 _ _ rfl aI au
def wF (k:Nat) (bF:Int) (bX:Int) (bO:Str) (cZ:List Str) (dA:List Int) (AP:Int) (AQ:Int) (AU:Int) (AV:Int):Option ((Int×Int×Int×Int)):=
 (sG k bO).bind fun iM=>Option.bind (AO bF bX bO cZ dA iM.2) (fun iQ=>cond iQ (some ((AP,AQ,0,(dA.length:Int)))) (some ((AP,AQ,AU,AV))))
def LX:List Nat:=[8,9]++List.range' 30 17
theorem WC (k:Nat): ∀(dJ:Nat) (uh:Nat) (bF:Int) (bX:Int) (bO:Str) (cZ:List Str) (dA:List Int) (AP:Int) (AQ:Int) (AU:Int) (AV:Int) (aB σ:Nat->PV) (H0 H:AH) (f0:Fr LX aB σ) (hf0:HF [uh] H0 H) (sl:σ 5=(.ref (dJ) 0)/\σ 6=(.ref (uh) 0)/\H.obj dJ=some [(.int .i64 bF),(.int .i64 bX),(.str bO),(.ak (cZ.map aH) .unk),(.ak (dA.map aS) .unk)]/\H.obj uh=some [(.int .i64 AP),(.int .i64 AQ),(.int .i64 AU),(.int .i64 AV)]) (dN:dJ<H.next) (CS:uh<H.next) (El:dJ≠uh) (o:(Int×Int×Int×Int)) (h:wF k bF bX bO cZ dA AP AQ AU AV=some o) (Q:Post) (q0: ∀(p:Int×Int×Int×Int) (σ':Nat->PV) (H':AH),o=p->Fr LX aB σ'->HF [uh] H0 H'->(H'.obj uh=some [(.int .i64 p.1),(.int .i64 p.2.1),(.int .i64 p.2.2.1),(.int .i64 p.2.2.2)])->Q .normal σ' H'),W Tryz.prog QK Q σ H:=by
 intro dJ uh bF bX bO cZ dA AP AQ AU AV aB σ H0 H f0 hf0 sl dN CS El o h Q q0;obtain⟨s5,s6,zK,apJ⟩:=sl;have zL:=ne_next dN;have zM:=aZ dN;have apK:=ne_next CS;have apL:=aZ CS;have aqv:=eq_false El;have aqw:=eq_false (Ne.symm El);have hle0:=hf0.1;unfold wF at h;refine aC ?_;unfold QK;obtain⟨iM,e9,h⟩:=aj h;refine ah ?_;refine av (J3 e9) ?_;refine ah ?_;obtain⟨o12,Uk,h⟩:=aj h;refine WB (dJ) bF bX bO cZ dA iM.2 _ _ _ (Fr.refl _ _) au bP _ Uk _ ?_
 ·rintro iQ σ' eo sI iX;rw [eo]at h;have oW:σ' 5=(.ref (dJ) 0):=(sI 5 (by decide)).trans au;have s20:σ' 6=(.ref (uh) 0):=(sI 6 (by decide)).trans au;obtain⟨e21,h⟩|⟨e21,h⟩:=aA h
  ·refine ah ?_;refine apt (uh) ?_;cases h;refine ah ?_;exact q0 _ _ _ rfl (by repeat (first|exact f0|refine Fr.upd (by decide) ?_|refine Fr.via sI (by decide) ?_)) nZ au
  ·cases h;refine ah ?_;exact q0 _ _ _ rfl (by repeat (first|exact f0|refine Fr.upd (by decide) ?_|refine Fr.via sI (by decide) ?_)) nZ au
def wG (AP:Int) (AQ:Int) (AU:Int) (AV:Int) (J4:Int) (Gj:Bool):Option Bool:=
 cond Gj (some (true)) ((iP J4 AU AV).bind fun p46=>some ((!p46)))
def LY:List Nat:=List.range' 67 8
theorem WI: ∀(uh:Nat) (AP:Int) (AQ:Int) (AU:Int) (AV:Int) (J4:Int) (Gj:Bool) (aB σ:Nat->PV) (H:AH) (f0:Fr LY aB σ) (sl:σ 6=(.ref (uh) 0)/\σ 10=(.int .i64 J4)/\σ 66=(.bool Gj)/\H.obj uh=some [(.int .i64 AP),(.int .i64 AQ),(.int .i64 AU),(.int .i64 AV)]) (CS:uh<H.next) (o:Bool) (h:wG AP AQ AU AV J4 Gj=some o) (Q:Post) (q0: ∀(p:Bool) (σ':Nat->PV),o=p->Fr LY aB σ'->(σ' 74=(.bool p))->Q .normal σ' H),dH Tryz.prog QL (Q .normal) σ H:=by
 intro uh AP AQ AU AV J4 Gj aB σ H f0 sl CS o h Q q0;obtain⟨s6,s10,s66,apJ⟩:=sl;have apK:=ne_next CS;have apL:=aZ CS;unfold wG at h;refine fu ?_;unfold QL;obtain⟨e44,h⟩|⟨e44,h⟩:=aA h
 ·cases h;refine ah ?_;exact q0 _ _ rfl aI au
 ·obtain⟨p46,e45,h⟩:=aj h;refine ah ?_;refine av (jf e45) ?_;cases h;refine ah ?_;exact q0 _ _ rfl aI au
def wH (bF:Int) (bX:Int) (bO:Str) (cZ:List Str) (dA:List Int) (abg:Bool):Option Bool:=
 cond abg (some (true)) (cond (bF==2) (some (true)) (cond (bF==3) (some (true)) (some ((bF==18)))))
def LZ:List Nat:=List.range' 79 14
theorem WJ: ∀(dJ:Nat) (bF:Int) (bX:Int) (bO:Str) (cZ:List Str) (dA:List Int) (abg:Bool) (aB σ:Nat->PV) (H:AH) (f0:Fr LZ aB σ) (sl:σ 5=(.ref (dJ) 0)/\σ 78=(.bool abg)/\H.obj dJ=some [(.int .i64 bF),(.int .i64 bX),(.str bO),(.ak (cZ.map aH) .unk),(.ak (dA.map aS) .unk)]) (dN:dJ<H.next) (o:Bool) (h:wH bF bX bO cZ dA abg=some o) (Q:Post) (q0: ∀(p:Bool) (σ':Nat->PV),o=p->Fr LZ aB σ'->(σ' 92=(.bool p))->Q .normal σ' H),dH Tryz.prog QM (Q .normal) σ H:=by
 intro dJ bF bX bO cZ dA abg aB σ H f0 sl dN o h Q q0;obtain⟨s5,s78,zK⟩:=sl;have zL:=ne_next dN;have zM:=aZ dN;unfold wH at h;refine fu ?_;unfold QM;obtain⟨e58,h⟩|⟨e58,h⟩:=aA h
 ·cases h;refine ah ?_;exact q0 _ _ rfl aI au
 ·obtain⟨e59,h⟩|⟨e59,h⟩:=aA h
  ·cases h;refine ah ?_;exact q0 _ _ rfl aI au
  ·obtain⟨e60,h⟩|⟨e60,h⟩:=aA h
   ·cases h;refine ah ?_;exact q0 _ _ rfl aI au
   ·cases h;refine ah ?_;exact q0 _ _ rfl aI au
def wI (k:Nat) (bF:Int) (bX:Int) (bO:Str) (cZ:List Str) (dA:List Int) (J5:Bool) (abh:Bool):Option Bool:=
 cond abh (some (true)) (cond J5 (cond (bF !=0) (cond (bF !=23) (cond (bX !=0) (some (true)) (cond (bF==23) ((iP bX 0 1).bind fun AX=>cond AX (cond (bF==1) ((iK k bO).bind fun p84=>some ((!p84))) (some (false))) (some (true))) (cond (bF==1) ((iK k bO).bind fun PK=>some ((!PK))) (some (false))))) (cond (bF==23) ((iP bX 0 1).bind fun p90=>cond p90 (cond (bF==1) ((iK k bO).bind fun Yd=>some ((!Yd))) (some (false))) (some (true))) (cond (bF==1) ((iK k bO).bind fun p97=>some ((!p97))) (some (false))))) (cond (bF==23) ((iP bX 0 1).bind fun abj=>cond abj (cond (bF==1) ((iK k bO).bind fun abk=>some ((!abk))) (some (false))) (some (true))) (cond (bF==1) ((iK k bO).bind fun ase=>some ((!ase))) (some (false))))) (cond (bO==[]) (cond (bF !=0) (cond (bF !=23) (cond (bX !=0) (some (true)) (cond (bF==23) ((iP bX 0 1).bind fun abl=>cond abl (cond (bF==1) ((iK k bO).bind fun abm=>some ((!abm))) (some (false))) (some (true))) (cond (bF==1) ((iK k bO).bind fun asf=>some ((!asf))) (some (false))))) (cond (bF==23) ((iP bX 0 1).bind fun asg=>cond asg (cond (bF==1) ((iK k bO).bind fun ash=>some ((!ash))) (some (false))) (some (true))) (cond (bF==1) ((iK k bO).bind fun asi=>some ((!asi))) (some (false))))) (cond (bF==23) ((iP bX 0 1).bind fun asj=>cond asj (cond (bF==1) ((iK k bO).bind fun asl=>some ((!asl))) (some (false))) (some (true))) (cond (bF==1) ((iK k bO).bind fun asn=>some ((!asn))) (some (false))))) (some (true))))
def L6:List Nat:=List.range' 98 45
theorem WK (k:Nat): ∀(dJ:Nat) (bF:Int) (bX:Int) (bO:Str) (cZ:List Str) (dA:List Int) (J5:Bool) (abh:Bool) (aB σ:Nat->PV) (H:AH) (f0:Fr L6 aB σ) (sl:σ 5=(.ref (dJ) 0)/\σ 11=(.bool J5)/\σ 97=(.bool abh)/\H.obj dJ=some [(.int .i64 bF),(.int .i64 bX),(.str bO),(.ak (cZ.map aH) .unk),(.ak (dA.map aS) .unk)]) (dN:dJ<H.next) (o:Bool) (h:wI k bF bX bO cZ dA J5 abh=some o) (Q:Post) (q0: ∀(p:Bool) (σ':Nat->PV),o=p->Fr L6 aB σ'->(σ' 142=(.bool p))->Q .normal σ' H),dH Tryz.prog QN (Q .normal) σ H:=by
 intro dJ bF bX bO cZ dA J5 abh aB σ H f0 sl dN o h Q q0;obtain⟨s5,s11,s97,zK⟩:=sl;have zL:=ne_next dN;have zM:=aZ dN;unfold wI at h;refine fu ?_;unfold QN;obtain⟨Ul,h⟩|⟨Ul,h⟩:=aA h
 ·cases h;refine ah ?_;exact q0 _ _ rfl aI au
 ·obtain⟨e74,h⟩|⟨e74,h⟩:=aA h
  ·obtain⟨Uf,h⟩|⟨Uf,h⟩:=aA h
   ·obtain⟨e76,h⟩|⟨e76,h⟩:=aA h
    ·obtain⟨Ye,h⟩|⟨Ye,h⟩:=aA h
     ·cases h;refine ah ?_;exact q0 _ _ rfl aI au
     ·obtain⟨e78,h⟩|⟨e78,h⟩:=aA h
      ·obtain⟨AX,e79,h⟩:=aj h;refine ah ?_;refine av (jf e79) ?_;obtain⟨e81,h⟩|⟨e81,h⟩:=aA h
       ·obtain⟨e82,h⟩|⟨e82,h⟩:=aA h
        ·obtain⟨p84,e83,h⟩:=aj h;refine ah ?_;refine av (mH e83) ?_;cases h;refine ah ?_;exact q0 _ _ rfl aI au
        ·cases h;refine ah ?_;exact q0 _ _ rfl aI au
       ·cases h;refine ah ?_;exact q0 _ _ rfl aI au
      ·obtain⟨e85,h⟩|⟨e85,h⟩:=aA h
       ·obtain⟨PK,Ug,h⟩:=aj h;refine ah ?_;refine av (mH Ug) ?_;cases h;refine ah ?_;exact q0 _ _ rfl aI au
       ·cases h;refine ah ?_;exact q0 _ _ rfl aI au
    ·obtain⟨Uh,h⟩|⟨Uh,h⟩:=aA h
     ·obtain⟨p90,Ui,h⟩:=aj h;refine ah ?_;refine av (jf Ui) ?_;obtain⟨e91,h⟩|⟨e91,h⟩:=aA h
      ·obtain⟨e92,h⟩|⟨e92,h⟩:=aA h
       ·obtain⟨Yd,e93,h⟩:=aj h;refine ah ?_;refine av (mH e93) ?_;cases h;refine ah ?_;exact q0 _ _ rfl aI au
       ·cases h;refine ah ?_;exact q0 _ _ rfl aI au
      ·cases h;refine ah ?_;exact q0 _ _ rfl aI au
     ·obtain⟨e95,h⟩|⟨e95,h⟩:=aA h
      ·obtain⟨p97,e96,h⟩:=aj h;refine ah ?_;refine av (mH e96) ?_;cases h;refine ah ?_;exact q0 _ _ rfl aI au
      ·cases h;refine ah ?_;exact q0 _ _ rfl aI au
   ·obtain⟨e98,h⟩|⟨e98,h⟩:=aA h
    ·obtain⟨abj,e99,h⟩:=aj h;refine ah ?_;refine av (jf e99) ?_;obtain⟨abo,h⟩|⟨abo,h⟩:=aA h
     ·obtain⟨abp,h⟩|⟨abp,h⟩:=aA h
      ·obtain⟨abk,Lc,h⟩:=aj h;refine ah ?_;refine av (mH Lc) ?_;cases h;refine ah ?_;exact q0 _ _ rfl aI au
      ·cases h;refine ah ?_;exact q0 _ _ rfl aI au
     ·cases h;refine ah ?_;exact q0 _ _ rfl aI au
    ·obtain⟨Np,h⟩|⟨Np,h⟩:=aA h
     ·obtain⟨ase,akO,h⟩:=aj h;refine ah ?_;refine av (mH akO) ?_;cases h;refine ah ?_;exact q0 _ _ rfl aI au
     ·cases h;refine ah ?_;exact q0 _ _ rfl aI au
  ·obtain⟨e108,h⟩|⟨e108,h⟩:=aA h
   ·obtain⟨e109,h⟩|⟨e109,h⟩:=aA h
    ·obtain⟨abq,h⟩|⟨abq,h⟩:=aA h
     ·obtain⟨akP,h⟩|⟨akP,h⟩:=aA h
      ·cases h;refine ah ?_;exact q0 _ _ rfl aI au
      ·obtain⟨azA,h⟩|⟨azA,h⟩:=aA h
       ·obtain⟨abl,akQ,h⟩:=aj h;refine ah ?_;refine av (jf akQ) ?_;obtain⟨e115,h⟩|⟨e115,h⟩:=aA h
        ·obtain⟨e116,h⟩|⟨e116,h⟩:=aA h
         ·obtain⟨abm,e117,h⟩:=aj h;refine ah ?_;refine av (mH e117) ?_;cases h;refine ah ?_;exact q0 _ _ rfl aI au
         ·cases h;refine ah ?_;exact q0 _ _ rfl aI au
        ·cases h;refine ah ?_;exact q0 _ _ rfl aI au
       ·obtain⟨e119,h⟩|⟨e119,h⟩:=aA h
        ·obtain⟨asf,e120,h⟩:=aj h;refine ah ?_;refine av (mH e120) ?_;cases h;refine ah ?_;exact q0 _ _ rfl aI au
        ·cases h;refine ah ?_;exact q0 _ _ rfl aI au
     ·obtain⟨akR,h⟩|⟨akR,h⟩:=aA h
      ·obtain⟨asg,azB,h⟩:=aj h;refine ah ?_;refine av (jf azB) ?_;obtain⟨e125,h⟩|⟨e125,h⟩:=aA h
       ·obtain⟨e126,h⟩|⟨e126,h⟩:=aA h
        ·obtain⟨ash,e127,h⟩:=aj h;refine ah ?_;refine av (mH e127) ?_;cases h;refine ah ?_;exact q0 _ _ rfl aI au
        ·cases h;refine ah ?_;exact q0 _ _ rfl aI au
       ·cases h;refine ah ?_;exact q0 _ _ rfl aI au
      ·obtain⟨e129,h⟩|⟨e129,h⟩:=aA h
       ·obtain⟨asi,azC,h⟩:=aj h;refine ah ?_;refine av (mH azC) ?_;cases h;refine ah ?_;exact q0 _ _ rfl aI au
       ·cases h;refine ah ?_;exact q0 _ _ rfl aI au
    ·obtain⟨azD,h⟩|⟨azD,h⟩:=aA h
     ·obtain⟨asj,azE,h⟩:=aj h;refine ah ?_;refine av (jf azE) ?_;obtain⟨azF,h⟩|⟨azF,h⟩:=aA h
      ·obtain⟨azG,h⟩|⟨azG,h⟩:=aA h
       ·obtain⟨asl,e137,h⟩:=aj h;refine ah ?_;refine av (mH e137) ?_;cases h;refine ah ?_;exact q0 _ _ rfl aI au
       ·cases h;refine ah ?_;exact q0 _ _ rfl aI au
      ·cases h;refine ah ?_;exact q0 _ _ rfl aI au
     ·obtain⟨azH,h⟩|⟨azH,h⟩:=aA h
      ·obtain⟨asn,akS,h⟩:=aj h;refine ah ?_;refine av (mH akS) ?_;cases h;refine ah ?_;exact q0 _ _ rfl aI au
      ·cases h;refine ah ?_;exact q0 _ _ rfl aI au
   ·cases h;refine ah ?_;exact q0 _ _ rfl aI au
def wJ (bF:Int) (bX:Int) (bO:Str) (cZ:List Str) (dA:List Int) (Um:Bool):Option Bool:=
 cond Um ((iP bX 0 10000).bind fun abr=>some ((!abr))) (some (false))
def L8:List Nat:=[147,148,149,150,151]
theorem WL: ∀(dJ:Nat) (bF:Int) (bX:Int) (bO:Str) (cZ:List Str) (dA:List Int) (Um:Bool) (aB σ:Nat->PV) (H:AH) (f0:Fr L8 aB σ) (sl:σ 5=(.ref (dJ) 0)/\σ 146=(.bool Um)/\H.obj dJ=some [(.int .i64 bF),(.int .i64 bX),(.str bO),(.ak (cZ.map aH) .unk),(.ak (dA.map aS) .unk)]) (dN:dJ<H.next) (o:Bool) (h:wJ bF bX bO cZ dA Um=some o) (Q:Post) (q0: ∀(p:Bool) (σ':Nat->PV),o=p->Fr L8 aB σ'->(σ' 151=(.bool p))->Q .normal σ' H),dH Tryz.prog QO (Q .normal) σ H:=by
 intro dJ bF bX bO cZ dA Um aB σ H f0 sl dN o h Q q0;obtain⟨s5,aEX,zK⟩:=sl;have zL:=ne_next dN;have zM:=aZ dN;unfold wJ at h;refine fu ?_;unfold QO;obtain⟨azI,h⟩|⟨azI,h⟩:=aA h
 ·obtain⟨abr,e152,h⟩:=aj h;refine ah ?_;refine av (jf e152) ?_;cases h;refine ah ?_;exact q0 _ _ rfl aI au
 ·cases h;refine ah ?_;exact q0 _ _ rfl aI au
def lW:Nat->Int->Int->Str->(List Str)->(List Int)->Int->Option (Unit⊕Int)
 |0,_,_,_,_,_,_=>none
 |k+1,bF,bX,bO,cZ,dA,Jm=>
  cond (decide (Jm<(cZ.length:Int))) (if 0<=Jm then (cZ[Jm.toNat]?).bind fun asu=>(tZ k asu).bind fun abt=>cond abt (lW k bF bX bO cZ dA (IntKind.wrap .i64 (Jm+1))) (some (.inr (7)))else none) (some (.inl ()))
def Em:List Nat:=[4,12]++List.range' 152 14
theorem WM: ∀(k:Nat) (dJ:Nat) (bF:Int) (bX:Int) (bO:Str) (cZ:List Str) (dA:List Int) (Jm:Int) (aB σ:Nat->PV) (H:AH) (f0:Fr Em aB σ) (sl:σ 5=(.ref (dJ) 0)/\σ 12=(.int .i64 Jm)/\H.obj dJ=some [(.int .i64 bF),(.int .i64 bX),(.str bO),(.ak (cZ.map aH) .unk),(.ak (dA.map aS) .unk)]) (dN:dJ<H.next) (o:Unit⊕Int) (h:lW k bF bX bO cZ dA Jm=some o) (Q:Post) (q0: ∀(p:Unit) (σ':Nat->PV),o= .inl p->Fr Em aB σ'->Q (.exit 0) σ' H) (q1: ∀(p:Int) (σ':Nat->PV),o= .inr (p)->Fr Em aB σ'->(σ' 4=(.int .i64 p))->Q .ret σ' H),W Tryz.prog (.loop QS) Q σ H:=by
 intro k
 induction k with
 |zero=>intro dJ bF bX bO cZ dA Jm aB σ H f0 sl dN o h Q q0 q1;simp only [lW,reduceCtorEq]at h
 |succ k ih=>
  intro dJ bF bX bO cZ dA Jm aB σ H f0 sl dN o h Q q0 q1;obtain⟨s5,s12,zK⟩:=sl;have zL:=ne_next dN;have zM:=aZ dN;unfold lW at h;refine aW (fun K hK=>aC ?_);unfold QS;obtain⟨akT,h⟩|⟨akT,h⟩:=aA h
  ·obtain⟨aEY,h⟩:=aU h;obtain⟨asu,e166,h⟩:=aj h;obtain⟨abt,e167,h⟩:=aj h;refine ah ?_;refine av (Av e167) ?_;obtain⟨e169,h⟩|⟨e169,h⟩:=aA h
   ·refine ah ?_;refine hK _ _ ?_;exact ih dJ bF bX bO cZ dA (IntKind.wrap .i64 (Jm+1)) _ _ _ aI au bP _ h _ q0 q1
   ·cases h;refine ah ?_;exact q1 _ _ rfl aI au
  ·cases h;refine ah ?_;exact q0 _ _ rfl aI
def AY (k:Nat) (bF:Int) (bX:Int) (bO:Str) (cZ:List Str) (dA:List Int) (Un:Bool):Option Bool:=
 cond Un ((uf k bO).bind fun asv=>some ((!asv))) (some (false))
def L9:List Nat:=[197,198,199,200,201]
theorem WQ (k:Nat): ∀(dJ:Nat) (bF:Int) (bX:Int) (bO:Str) (cZ:List Str) (dA:List Int) (Un:Bool) (aB σ:Nat->PV) (H:AH) (f0:Fr L9 aB σ) (sl:σ 5=(.ref (dJ) 0)/\σ 196=(.bool Un)/\H.obj dJ=some [(.int .i64 bF),(.int .i64 bX),(.str bO),(.ak (cZ.map aH) .unk),(.ak (dA.map aS) .unk)]) (dN:dJ<H.next) (o:Bool) (h:AY k bF bX bO cZ dA Un=some o) (Q:Post) (q0: ∀(p:Bool) (σ':Nat->PV),o=p->Fr L9 aB σ'->(σ' 201=(.bool p))->Q .normal σ' H),dH Tryz.prog QT (Q .normal) σ H:=by
 intro dJ bF bX bO cZ dA Un aB σ H f0 sl dN o h Q q0;obtain⟨s5,aEZ,zK⟩:=sl;have zL:=ne_next dN;have zM:=aZ dN;unfold AY at h;refine fu ?_;unfold QT;obtain⟨azJ,h⟩|⟨azJ,h⟩:=aA h
 ·obtain⟨asv,azK,h⟩:=aj h;refine ah ?_;refine av (Aw azK) ?_;cases h;refine ah ?_;exact q0 _ _ rfl aI au
 ·cases h;refine ah ?_;exact q0 _ _ rfl aI au
def wK (k:Nat) (bF:Int) (bX:Int) (bO:Str) (cZ:List Str) (dA:List Int) (OV:Str) (OW:Int) (OX:Int) (OY:Int) (OZ:Bool) (J6:Int) (J7:Int) (Iz:Bool):Option (Unit⊕Int):=
 cond (bF==2) ((uf k bO).bind fun asw=>cond asw (some (.inl ())) ((wC bO).bind fun asx=>cond asx (some (.inl ())) (some (.inr (7))))) (cond (bF==18) ((tZ k bO).bind fun asy=>cond asy (some (.inl ())) (some (.inr (7)))) (cond (bF==3) (Option.bind (AY k bF bX bO cZ dA (!Iz)) (fun asz=>cond asz (some (.inr (7))) (cond Iz ((iP (dA.length:Int) J6 J7).bind fun asA=>cond asA (some (.inl ())) (some (.inr (17)))) (some (.inl ()))))) (some (.inl ()))))
def En:List Nat:=[4]++List.range' 172 42
theorem WT (k:Nat): ∀(dJ:Nat) (FH:Nat) (bF:Int) (bX:Int) (bO:Str) (cZ:List Str) (dA:List Int) (OV:Str) (OW:Int) (OX:Int) (OY:Int) (OZ:Bool) (J6:Int) (J7:Int) (Iz:Bool) (aB σ:Nat->PV) (H:AH) (f0:Fr En aB σ) (sl:σ 5=(.ref (dJ) 0)/\σ 13=(.ref (FH) 0)/\σ 14=(.bool Iz)/\H.obj dJ=some [(.int .i64 bF),(.int .i64 bX),(.str bO),(.ak (cZ.map aH) .unk),(.ak (dA.map aS) .unk)]/\H.obj FH=some [(.str OV),(.int .i64 OW),(.int .i64 OX),(.int .i64 OY),(.bool OZ),(.int .i64 J6),(.int .i64 J7)]) (dN:dJ<H.next) (Nq:FH<H.next) (AZ:dJ≠FH) (o:Unit⊕Int) (h:wK k bF bX bO cZ dA OV OW OX OY OZ J6 J7 Iz=some o) (Q:Post) (q0: ∀(p:Unit) (σ':Nat->PV),o= .inl p->Fr En aB σ'->Q .normal σ' H) (q1: ∀(p:Int) (σ':Nat->PV),o= .inr (p)->Fr En aB σ'->(σ' 4=(.int .i64 p))->Q .ret σ' H),W Tryz.prog QU Q σ H:=by
 intro dJ FH bF bX bO cZ dA OV OW OX OY OZ J6 J7 Iz aB σ H f0 sl dN Nq AZ o h Q q0 q1;obtain⟨s5,s13,J8,zK,axM⟩:=sl;have zL:=ne_next dN;have zM:=aZ dN;have axN:=ne_next Nq;have axO:=aZ Nq;have an3:=eq_false AZ;have an4:=eq_false (Ne.symm AZ);unfold wK at h;refine aC ?_;unfold QU;obtain⟨azL,h⟩|⟨azL,h⟩:=aA h
 ·obtain⟨asw,azM,h⟩:=aj h;refine ah ?_;refine av (Aw azM) ?_;obtain⟨azN,h⟩|⟨azN,h⟩:=aA h
  ·cases h;refine ah ?_;exact q0 _ _ rfl aI
  ·obtain⟨asx,azO,h⟩:=aj h;refine ah ?_;refine av (Jh azO) ?_;obtain⟨e185,h⟩|⟨e185,h⟩:=aA h
   ·cases h;refine ah ?_;exact q0 _ _ rfl aI
   ·cases h;refine ah ?_;exact q1 _ _ rfl aI au
 ·obtain⟨azP,h⟩|⟨azP,h⟩:=aA h
  ·obtain⟨asy,e187,h⟩:=aj h;refine ah ?_;refine av (Av e187) ?_;obtain⟨e189,h⟩|⟨e189,h⟩:=aA h
   ·cases h;refine ah ?_;exact q0 _ _ rfl aI
   ·cases h;refine ah ?_;exact q1 _ _ rfl aI au
  ·obtain⟨e190,h⟩|⟨e190,h⟩:=aA h
   ·refine ah ?_;obtain⟨aE0,azQ,h⟩:=aj h;refine WQ k (dJ) bF bX bO cZ dA (!Iz) _ _ _ (Fr.refl _ _) au bP _ azQ _ ?_
    ·rintro asz σ' eo Ld aE1;rw [eo]at h;have aE2:σ' 5=(.ref (dJ) 0):=(Ld 5 (by decide)).trans au;have aE3:σ' 13=(.ref (FH) 0):=(Ld 13 (by decide)).trans au;have aE4:σ' 14=(.bool Iz):=(Ld 14 (by decide)).trans au;obtain⟨e204,h⟩|⟨e204,h⟩:=aA h
     ·cases h;refine ah ?_;exact q1 _ _ rfl (by repeat (first|exact f0|refine Fr.upd (by decide) ?_|refine Fr.via Ld (by decide) ?_)) au
     ·obtain⟨azR,h⟩|⟨azR,h⟩:=aA h
      ·obtain⟨asA,e206,h⟩:=aj h;refine ah ?_;refine av (jf e206) ?_;obtain⟨e208,h⟩|⟨e208,h⟩:=aA h
       ·cases h;refine ah ?_;exact q0 _ _ rfl (by repeat (first|exact f0|refine Fr.upd (by decide) ?_|refine Fr.via Ld (by decide) ?_))
       ·cases h;refine ah ?_;exact q1 _ _ rfl (by repeat (first|exact f0|refine Fr.upd (by decide) ?_|refine Fr.via Ld (by decide) ?_)) au
      ·cases h;refine ah ?_;exact q0 _ _ rfl (by repeat (first|exact f0|refine Fr.upd (by decide) ?_|refine Fr.via Ld (by decide) ?_))
   ·cases h;refine ah ?_;exact q0 _ _ rfl aI
def ku:Nat->Int->Int->Str->(List Str)->(List Int)->Int->Option (Unit⊕Int)
 |0,_,_,_,_,_,_=>none
 |k+1,bF,bX,bO,cZ,dA,CU=>
  cond (decide (CU<(cZ.length:Int))) (if 0<=CU/\CU.toNat<=cZ.length then if 0<=CU then (cZ[CU.toNat]?).bind fun asB=>(nu k (cZ.take CU.toNat) asB).bind fun asC=>cond asC (some (.inr (12))) (ku k bF bX bO cZ dA (IntKind.wrap .i64 (CU+1)))else none else none) (some (.inl ()))
def Eo:List Nat:=[4,15]++List.range' 214 17
theorem WU: ∀(k:Nat) (dJ:Nat) (bF:Int) (bX:Int) (bO:Str) (cZ:List Str) (dA:List Int) (CU:Int) (aB σ:Nat->PV) (H:AH) (f0:Fr Eo aB σ) (sl:σ 5=(.ref (dJ) 0)/\σ 15=(.int .i64 CU)/\H.obj dJ=some [(.int .i64 bF),(.int .i64 bX),(.str bO),(.ak (cZ.map aH) .unk),(.ak (dA.map aS) .unk)]) (dN:dJ<H.next) (o:Unit⊕Int) (h:ku k bF bX bO cZ dA CU=some o) (Q:Post) (q0: ∀(p:Unit) (σ':Nat->PV),o= .inl p->Fr Eo aB σ'->Q (.exit 3) σ' H) (q1: ∀(p:Int) (σ':Nat->PV),o= .inr (p)->Fr Eo aB σ'->(σ' 4=(.int .i64 p))->Q .ret σ' H),W Tryz.prog (.loop QV) Q σ H:=by
 intro k
 induction k with
 |zero=>intro dJ bF bX bO cZ dA CU aB σ H f0 sl dN o h Q q0 q1;simp only [ku,reduceCtorEq]at h
 |succ k ih=>
  intro dJ bF bX bO cZ dA CU aB σ H f0 sl dN o h Q q0 q1;obtain⟨s5,s15,zK⟩:=sl;have zL:=ne_next dN;have zM:=aZ dN;unfold ku at h;refine aW (fun K hK=>aC ?_);unfold QV;obtain⟨e216,h⟩|⟨e216,h⟩:=aA h
  ·refine ah ?_;refine iJ ?_;obtain⟨e217,h⟩:=aU h;obtain⟨aE5,h⟩:=aU h;obtain⟨asB,e220,h⟩:=aj h;obtain⟨asC,e221,h⟩:=aj h;refine ah ?_;refine av (Am e221) ?_;obtain⟨e223,h⟩|⟨e223,h⟩:=aA h
   ·cases h;refine ah ?_;exact q1 _ _ rfl aI au
   ·refine ah ?_;refine hK _ _ ?_;exact ih dJ bF bX bO cZ dA (IntKind.wrap .i64 (CU+1)) _ _ _ aI au bP _ h _ q0 q1
  ·cases h;refine ah ?_;exact q0 _ _ rfl aI
def DV (k:Nat) (aG:List Nd) (dP:Int):Option Int:=
 if 0<=dP then (aG[dP.toNat]?).bind fun x2=>(iP x2.kind 0 28).bind fun p5=>cond p5 ((sH x2.kind).bind fun p8=>Option.bind (wF k x2.kind x2.n x2.text x2.names x2.args p8.1.1 p8.1.2.1 p8.1.2.2.1 p8.1.2.2.2) (fun yN=>(Uc p8.2).bind fun p41=>(iP (x2.names.length:Int) yN.1 yN.2.1).bind fun p43=>Option.bind (wG yN.1 yN.2.1 yN.2.2.1 yN.2.2.2 (IntKind.wrap .i64 ((x2.args.length:Int) -(IntKind.wrap .i64 ((x2.names.length:Int)*p41)))) (!p43)) (fun p49=>cond p49 (some 6) (Option.bind (wH x2.kind x2.n x2.text x2.names x2.args (x2.kind==1)) (fun p63=>(CQ k aG dP).bind fun p72=>Option.bind (wI k x2.kind x2.n x2.text x2.names x2.args p63 (!p72)) (fun asD=>cond asD (some 5) (Option.bind (wJ x2.kind x2.n x2.text x2.names x2.args (x2.kind==0)) (fun asE=>cond asE (some 3) (Option.bind (lW k x2.kind x2.n x2.text x2.names x2.args 0) (fun o=>Sum.elim (fun agq=>(sG k x2.text).bind fun wL=>Option.bind (wK k x2.kind x2.n x2.text x2.names x2.args wL.1.text wL.1.fix wL.1.low wL.1.high wL.1.left wL.1.least wL.1.most wL.2) (fun o=>Sum.elim (fun azS=>Option.bind (ku k x2.kind x2.n x2.text x2.names x2.args 1) (fun o=>Sum.elim (fun azT=>some 0) (fun asF=>some asF) o)) (fun asG=>some asG) o)) (fun asH=>some asH) o)))))))))) (some 4)else none
theorem adX {k:Nat} {aG:List Nd} {dP:Int} {c0:Ck} {r:Int} (h:DV k aG dP=some r):aD Tryz.prog 133 [(.ak (aG.map Nd.cells) c0),(.int .i64 dP)] (.int .i64 r):=by
 refine aD.lw (.ak (.same .nil)) (aD.aO (aX.mem (.cons (aT Nd.pu _) (.cons (.int _ _) .nil))) (aF avy (by simp) (aC ?_)) (.int _ _));unfold DV at h;unfold amn;obtain⟨e1,h⟩:=aU h;obtain⟨x2,e3,h⟩:=aj h;obtain⟨p5,e4,h⟩:=aj h;refine ah ?_;refine av (jf e4) ?_;obtain⟨e6,h⟩|⟨e6,h⟩:=aA h
 ·obtain⟨p8,e7,h⟩:=aj h;refine ah ?_;refine av (air e7) ?_;refine ah ?_;obtain⟨o22,h23,h⟩:=aj h;refine WC k (AH.empty.next) (AH.empty.next+1) x2.kind x2.n x2.text x2.names x2.args p8.1.1 p8.1.2.1 p8.1.2.2.1 p8.1.2.2.2 _ _ _ _ (Fr.refl _ _) (HF.refl _ _) au bP bP bP _ h23 _ ?_
  ·rintro yN σ' H27 eo abu agr g28;rw [eo]at h;have s29:σ' 0=(.ak (aG.map Nd.cells) .unk):=(abu 0 (by decide)).trans au;have s30:σ' 1=(.int .i64 dP):=(abu 1 (by decide)).trans au;have s31:σ' 5=(.ref (AH.empty.next) 0):=(abu 5 (by decide)).trans au;have s32:σ' 6=(.ref (AH.empty.next+1) 0):=(abu 6 (by decide)).trans au;have s33:σ' 7=(.bool p8.2):=(abu 7 (by decide)).trans au;have le:=agr.1;try simp only [AH.aK,AH.aL,AH.aM,AH.aN]at le
   have g34:H27.obj (AH.empty.next)=some [(.int .i64 x2.kind),(.int .i64 x2.n),(.str x2.text),(.ak (x2.names.map aH) .unk),(.ak (x2.args.map aS) .unk)]:=(agr.2 _ bP (by first|exact List.not_mem_nil|(simp only [List.mem_cons,List.not_mem_nil,or_false,not_or];omega))).trans au;have n35:=ne_next (show AH.empty.next<H27.next by first|omega|(simp only [AH.aK,AH.aL,AH.aM,AH.aN];omega));have m36:=aZ (show AH.empty.next<H27.next by first|omega|(simp only [AH.aK,AH.aL,AH.aM,AH.aN];omega));have n38:=ne_next (show AH.empty.next+1<H27.next by first|omega|(simp only [AH.aK,AH.aL,AH.aM,AH.aN];omega));have m39:=aZ (show AH.empty.next+1<H27.next by first|omega|(simp only [AH.aK,AH.aL,AH.aM,AH.aN];omega));refine ah ?_;refine iJ ?_;obtain⟨p41,e40,h⟩:=aj h;refine ah ?_;refine PC.mk (aeQ e40) ?_;obtain⟨p43,e42,h⟩:=aj h;refine ah ?_;refine av (jf e42) ?_;refine ah ?_;obtain⟨o47,h48,h⟩:=aj h;refine WI (AH.empty.next+1) yN.1 yN.2.1 yN.2.2.1 yN.2.2.2 (IntKind.wrap .i64 ((x2.args.length:Int) -(IntKind.wrap .i64 ((x2.names.length:Int)*p41)))) (!p43) _ _ _ (Fr.refl _ _) au bP _ h48 _ ?_
   ·rintro p49 σ' eo Nr s53;rw [eo]at h;have s54:σ' 0=(.ak (aG.map Nd.cells) .unk):=(Nr 0 (by decide)).trans au;have s55:σ' 1=(.int .i64 dP):=(Nr 1 (by decide)).trans au;have s56:σ' 5=(.ref (AH.empty.next) 0):=(Nr 5 (by decide)).trans au;obtain⟨e57,h⟩|⟨e57,h⟩:=aA h
    ·cases h;refine ah ?_;exact(.pure _ (.int _ _))
    ·refine ah ?_;obtain⟨o61,h62,h⟩:=aj h;refine WJ (AH.empty.next) x2.kind x2.n x2.text x2.names x2.args (x2.kind==1) _ _ _ (Fr.refl _ _) au bP _ h62 _ ?_
     ·rintro p63 σ' eo Jo s67;rw [eo]at h;have s68:σ' 0=(.ak (aG.map Nd.cells) .unk):=(Jo 0 (by decide)).trans au;have s69:σ' 1=(.int .i64 dP):=(Jo 1 (by decide)).trans au;have s70:σ' 5=(.ref (AH.empty.next) 0):=(Jo 5 (by decide)).trans au;obtain⟨p72,e71,h⟩:=aj h;refine ah ?_;refine av (agp e71) ?_;refine ah ?_;obtain⟨aE6,azU,h⟩:=aj h;refine WK k (AH.empty.next) x2.kind x2.n x2.text x2.names x2.args p63 (!p72) _ _ _ (Fr.refl _ _) au bP _ azU _ ?_
      ·rintro asD σ' eo aw4 aE7;rw [eo]at h;have aE8:σ' 5=(.ref (AH.empty.next) 0):=(aw4 5 (by decide)).trans au;obtain⟨akU,h⟩|⟨akU,h⟩:=aA h
       ·cases h;refine ah ?_;exact(.pure _ (.int _ _))
       ·refine ah ?_;obtain⟨aE9,azV,h⟩:=aj h;refine WL (AH.empty.next) x2.kind x2.n x2.text x2.names x2.args (x2.kind==0) _ _ _ (Fr.refl _ _) au bP _ azV _ ?_
        ·rintro asE σ' eo aw5 aFa;rw [eo]at h;have aFb:σ' 5=(.ref (AH.empty.next) 0):=(aw5 5 (by decide)).trans au;obtain⟨azW,h⟩|⟨azW,h⟩:=aA h
         ·cases h;refine ah ?_;exact(.pure _ (.int _ _))
         ·refine ah ?_;obtain⟨aFc,azX,h⟩:=aj h;refine WM k (AH.empty.next) x2.kind x2.n x2.text x2.names x2.args 0 _ _ _ (Fr.refl _ _) au bP _ azX _ ?_ ?_
          ·rintro agq σ' eo aw6;subst eo;rw [bI]at h;have aFd:σ' 5=(.ref (AH.empty.next) 0):=(aw6 5 (by decide)).trans au;obtain⟨wL,azY,h⟩:=aj h;refine ah ?_;refine av (J3 azY) ?_;refine ah ?_;obtain⟨aFe,azZ,h⟩:=aj h;refine WT k (AH.empty.next) (H27.next) x2.kind x2.n x2.text x2.names x2.args wL.1.text wL.1.fix wL.1.low wL.1.high wL.1.left wL.1.least wL.1.most wL.2 _ _ _ (Fr.refl _ _) au bP bP bP _ azZ _ ?_ ?_
           ·rintro azS σ' eo aw7;subst eo;rw [bI]at h;have aFf:σ' 5=(.ref (AH.empty.next) 0):=(aw7 5 (by decide)).trans au;refine ah ?_;obtain⟨aFg,az0,h⟩:=aj h;refine WU k (AH.empty.next) x2.kind x2.n x2.text x2.names x2.args 1 _ _ _ (Fr.refl _ _) au bP _ az0 _ ?_ ?_
            ·rintro azT σ' eo aEo;subst eo;rw [bI]at h;cases h;refine ah ?_;exact(.pure _ (.int _ _))
            ·rintro asF σ' eo aEp aFh;subst eo;rw [bL]at h;cases h;refine ah ?_;exact(.pure _ (.int _ _))
           ·rintro asG σ' eo aEq aFi;subst eo;rw [bL]at h;cases h;refine ah ?_;exact(.pure _ (.int _ _))
          ·rintro asH σ' eo aEr aFj;subst eo;rw [bL]at h;cases h;refine ah ?_;exact(.pure _ (.int _ _))
 ·cases h;refine ah ?_;exact(.pure _ (.int _ _))
def qg:Nat->(List Nd)->Int->Int->Int->Option (Unit⊕(Int×Int))
 |0,_,_,_,_=>none
 |k+1,aG,dP,oZ,Ns=>
  if 0<=oZ then (aG[oZ.toNat]?).bind fun x3=>cond (decide (Ns<(x3.args.length:Int))) (if 0<=Ns then (x3.args[Ns.toNat]?).bind fun x7=>cond (x7==dP) (some (.inr ((oZ,Ns)))) (qg k aG dP oZ (IntKind.wrap .i64 (Ns+1)))else none) (some (.inl ()))else none
def Gl:List Nat:=[4,5,7]++List.range' 16 22
theorem Ze: ∀(k:Nat) (aG:List Nd) (dP:Int) (oZ:Int) (Ns:Int) (aB σ:Nat->PV) (H:AH) (f0:Fr Gl aB σ) (sl:σ 0=(.ak (aG.map Nd.cells) .unk)/\σ 1=(.int .i64 dP)/\σ 6=(.int .i64 oZ)/\σ 7=(.int .i64 Ns)) (o:Unit⊕(Int×Int)) (h:qg k aG dP oZ Ns=some o) (Q:Post) (q0: ∀(p:Unit) (σ':Nat->PV),o= .inl p->Fr Gl aB σ'->Q (.exit 2) σ' H) (q1: ∀(p:Int×Int) (σ':Nat->PV),o= .inr (p)->Fr Gl aB σ'->(σ' 4=(.int .i64 p.1)/\σ' 5=(.int .i64 p.2))->Q .ret σ' H),W Tryz.prog (.loop QW) Q σ H:=by
 intro k
 induction k with
 |zero=>intro aG dP oZ Ns aB σ H f0 sl o h Q q0 q1;simp only [qg,reduceCtorEq]at h
 |succ k ih=>
  intro aG dP oZ Ns aB σ H f0 sl o h Q q0 q1;obtain⟨s0,s1,s6,s7⟩:=sl;unfold qg at h;refine aW (fun K hK=>aC ?_);unfold QW;obtain⟨e2,h⟩:=aU h;obtain⟨x3,e4,h⟩:=aj h;obtain⟨e5,h⟩|⟨e5,h⟩:=aA h
  ·obtain⟨e6,h⟩:=aU h;obtain⟨x7,e8,h⟩:=aj h;obtain⟨e9,h⟩|⟨e9,h⟩:=aA h
   ·cases h;refine ah ?_;exact q1 _ _ rfl aI au
   ·refine ah ?_;refine hK _ _ ?_;exact ih aG dP oZ (IntKind.wrap .i64 (Ns+1)) _ _ _ aI au _ h _ q0 q1
  ·cases h;refine ah ?_;exact q0 _ _ rfl aI
def qh:Nat->(List Nd)->Int->Int->Option (Unit⊕(Int×Int))
 |0,_,_,_=>none
 |k+1,aG,dP,oZ=>
  cond (decide (oZ<(aG.length:Int))) (Option.bind (qg k aG dP oZ 0) (fun o=>Sum.elim (fun ng=>qh k aG dP (IntKind.wrap .i64 (oZ+1))) (fun EF=>some (.inr ((EF.1,EF.2)))) o)) (some (.inl ()))
def Gm:List Nat:=[4,5,6,7]++List.range' 10 28
theorem Zf: ∀(k:Nat) (aG:List Nd) (dP:Int) (oZ:Int) (aB σ:Nat->PV) (H:AH) (f0:Fr Gm aB σ) (sl:σ 0=(.ak (aG.map Nd.cells) .unk)/\σ 1=(.int .i64 dP)/\σ 6=(.int .i64 oZ)) (o:Unit⊕(Int×Int)) (h:qh k aG dP oZ=some o) (Q:Post) (q0: ∀(p:Unit) (σ':Nat->PV),o= .inl p->Fr Gm aB σ'->Q (.exit 0) σ' H) (q1: ∀(p:Int×Int) (σ':Nat->PV),o= .inr (p)->Fr Gm aB σ'->(σ' 4=(.int .i64 p.1)/\σ' 5=(.int .i64 p.2))->Q .ret σ' H),W Tryz.prog (.loop QX) Q σ H:=by
 intro k
 induction k with
 |zero=>intro aG dP oZ aB σ H f0 sl o h Q q0 q1;simp only [qh,reduceCtorEq]at h
 |succ k ih=>
  intro aG dP oZ aB σ H f0 sl o h Q q0 q1;obtain⟨s0,s1,s6⟩:=sl;unfold qh at h;refine aW (fun K hK=>aC ?_);unfold QX;obtain⟨e1,h⟩|⟨e1,h⟩:=aA h
  ·refine ah ?_;obtain⟨o10,h11,h⟩:=aj h;refine Ze k aG dP oZ 0 _ _ _ (Fr.refl _ _) au _ h11 _ ?_ ?_
   ·rintro ng σ' eo La;subst eo;rw [bI]at h;have s16:σ' 0=(.ak (aG.map Nd.cells) .unk):=(La 0 (by decide)).trans au;have tK:σ' 1=(.int .i64 dP):=(La 1 (by decide)).trans au;have iX:σ' 6=(.int .i64 oZ):=(La 6 (by decide)).trans au;refine ah ?_;refine hK _ _ ?_;exact ih aG dP (IntKind.wrap .i64 (oZ+1)) _ _ _ (by repeat (first|exact f0|refine Fr.upd (by decide) ?_|refine Fr.via La (by decide) ?_)) au _ h _ q0 q1
   ·rintro EF σ' eo akM ⟨s23,s24⟩;subst eo;rw [bL]at h;cases h;refine ah ?_;exact q1 _ _ rfl (by repeat (first|exact f0|refine Fr.upd (by decide) ?_|refine Fr.via akM (by decide) ?_)) au
  ·cases h;refine ah ?_;exact q0 _ _ rfl aI
def uj (k:Nat) (aG:List Nd) (dP:Int):Option (Int×Int):=
 Option.bind (qh k aG dP (IntKind.wrap .i64 (dP+1))) (fun o=>Sum.elim (fun p27=>some ((-1),0)) (fun p31=>some (p31.1,p31.2)) o)
theorem EL {k:Nat} {aG:List Nd} {dP:Int} {c0:Ck} {r:Int×Int} (h:uj k aG dP=some r):aD Tryz.prog 134 [(.ak (aG.map Nd.cells) c0),(.int .i64 dP)] (.cK [(.int .i64 r.1),(.int .i64 r.2)]):=by
 refine aD.lw (.ak (.same .nil)) (aD.aO (aX.mem (.cons (aT Nd.pu _) (.cons (.int _ _) .nil))) (aF avz (by simp) (aC ?_)) (.cK _ (aX.mem (.cons (.int _ _) (.cons (.int _ _) .nil)))));unfold uj at h;unfold amo;refine ah ?_;obtain⟨o25,h26,h⟩:=aj h;refine Zf k aG dP (IntKind.wrap .i64 (dP+1)) _ _ _ (Fr.refl _ _) au _ h26 _ ?_ ?_
 ·rintro p27 σ' eo aFk;subst eo;rw [bI]at h;cases h;refine ah ?_;exact(bW (aQ (aQ .nil)))
 ·rintro p31 σ' eo SN ⟨s35,s36⟩;subst eo;rw [bL]at h;cases h;refine ah ?_;exact(bW (aQ (aQ .nil)))
def pG:Nat->(List Nd)->Int->Option (Unit⊕(Int×Int))
 |0,_,_=>none
 |k+1,aG,dO=>
  cond (decide (dO<(aG.length:Int))) ((DV k aG dO).bind fun p5=>cond (p5 !=0) (some (.inr ((dO,p5)))) (pG k aG (IntKind.wrap .i64 (dO+1)))) (some (.inl ()))
def Jp:List Nat:=[2,3,4,5]++List.range' 17 13
theorem abw: ∀(k:Nat) (aG:List Nd) (dO:Int) (aB σ:Nat->PV) (H:AH) (f0:Fr Jp aB σ) (sl:σ 0=(.ak (aG.map Nd.cells) .unk)/\σ 4=(.int .i64 dO)) (o:Unit⊕(Int×Int)) (h:pG k aG dO=some o) (Q:Post) (q0: ∀(p:Unit) (σ':Nat->PV),o= .inl p->Fr Jp aB σ'->Q (.exit 0) σ' H) (q1: ∀(p:Int×Int) (σ':Nat->PV),o= .inr (p)->Fr Jp aB σ'->(σ' 2=(.int .i64 p.1)/\σ' 3=(.int .i64 p.2))->Q .ret σ' H),W Tryz.prog (.loop Wn) Q σ H:=by
 intro k
 induction k with
 |zero=>intro aG dO aB σ H f0 sl o h Q q0 q1;simp only [pG,reduceCtorEq]at h
 |succ k ih=>
  intro aG dO aB σ H f0 sl o h Q q0 q1;obtain⟨s0,s4⟩:=sl;unfold pG at h;refine aW (fun K hK=>aC ?_);unfold Wn;obtain⟨e3,h⟩|⟨e3,h⟩:=aA h
  ·obtain⟨p5,e4,h⟩:=aj h;refine ah ?_;refine av (adX e4) ?_;obtain⟨e6,h⟩|⟨e6,h⟩:=aA h
   ·cases h;refine ah ?_;exact q1 _ _ rfl aI au
   ·refine ah ?_;refine hK _ _ ?_;exact ih aG (IntKind.wrap .i64 (dO+1)) _ _ _ aI au _ h _ q0 q1
  ·cases h;refine ah ?_;exact q0 _ _ rfl aI
def A8 (k:Nat) (aG:List Nd) (pI:Int) (abx:Bool):Option Bool:=
 cond abx (if 0<=pI then (aG[pI.toNat]?).bind fun rY=>cond (rY.kind==3) ((uf k rY.text).bind fun yO=>some (yO)) (some (false))else none) (some (false))
def PL:List Nat:=List.range' 45 15
theorem aby (k:Nat): ∀(aG:List Nd) (pI:Int) (abx:Bool) (aB σ:Nat->PV) (H:AH) (f0:Fr PL aB σ) (sl:σ 0=(.ak (aG.map Nd.cells) .unk)/\σ 7=(.int .i64 pI)/\σ 44=(.bool abx)) (o:Bool) (h:A8 k aG pI abx=some o) (Q:Post) (q0: ∀(p:Bool) (σ':Nat->PV),o=p->Fr PL aB σ'->(σ' 59=(.bool p))->Q .normal σ' H),dH Tryz.prog Wo (Q .normal) σ H:=by
 intro aG pI abx aB σ H f0 sl o h Q q0;obtain⟨s0,s7,s44⟩:=sl;unfold A8 at h;refine fu ?_;unfold Wo;obtain⟨e17,h⟩|⟨e17,h⟩:=aA h
 ·obtain⟨e18,h⟩:=aU h;obtain⟨rY,e20,h⟩:=aj h;obtain⟨e21,h⟩|⟨e21,h⟩:=aA h
  ·obtain⟨yO,e22,h⟩:=aj h;refine ah ?_;refine av (Aw e22) ?_;cases h;refine ah ?_;exact q0 _ _ rfl aI au
  ·cases h;refine ah ?_;exact q0 _ _ rfl aI au
 ·cases h;refine ah ?_;exact q0 _ _ rfl aI au
def EM (Gn:Bool) (Gj:Bool):Option Bool:=
 cond Gj (some ((!Gn))) (some (false))
theorem abz: ∀(Gn:Bool) (Gj:Bool) (aB σ:Nat->PV) (H:AH) (f0:Fr [67,68,69] aB σ) (sl:σ 9=(.bool Gn)/\σ 66=(.bool Gj)) (o:Bool) (h:EM Gn Gj=some o) (Q:Post) (q0: ∀(p:Bool) (σ':Nat->PV),o=p->Fr [67,68,69] aB σ'->(σ' 69=(.bool p))->Q .normal σ' H),dH Tryz.prog Wp (Q .normal) σ H:=by
 intro Gn Gj aB σ H f0 sl o h Q q0;obtain⟨s9,s66⟩:=sl;unfold EM at h;refine fu ?_;unfold Wp;obtain⟨e38,h⟩|⟨e38,h⟩:=aA h
 ·cases h;refine ah ?_;exact q0 _ _ rfl aI au
 ·cases h;refine ah ?_;exact q0 _ _ rfl aI au
def EN (aG:List Nd) (pI:Int) (qw:Int) (abA:Bool):Option Bool:=
 cond abA (some (true)) (if 0<=pI then (aG[pI.toNat]?).bind fun x54=>cond (x54.kind==19) (some ((qw==2))) (some (false))else none)
def PN:List Nat:=List.range' 75 11
theorem abB: ∀(aG:List Nd) (pI:Int) (qw:Int) (abA:Bool) (aB σ:Nat->PV) (H:AH) (f0:Fr PN aB σ) (sl:σ 0=(.ak (aG.map Nd.cells) .unk)/\σ 7=(.int .i64 pI)/\σ 8=(.int .i64 qw)/\σ 74=(.bool abA)) (o:Bool) (h:EN aG pI qw abA=some o) (Q:Post) (q0: ∀(p:Bool) (σ':Nat->PV),o=p->Fr PN aB σ'->(σ' 85=(.bool p))->Q .normal σ' H),dH Tryz.prog Wq (Q .normal) σ H:=by
 intro aG pI qw abA aB σ H f0 sl o h Q q0;obtain⟨s0,s7,s8,s74⟩:=sl;unfold EN at h;refine fu ?_;unfold Wq;obtain⟨e52,h⟩|⟨e52,h⟩:=aA h
 ·cases h;refine ah ?_;exact q0 _ _ rfl aI au
 ·obtain⟨e53,h⟩:=aU h;obtain⟨x54,e55,h⟩:=aj h;obtain⟨e56,h⟩|⟨e56,h⟩:=aA h
  ·cases h;refine ah ?_;exact q0 _ _ rfl aI au
  ·cases h;refine ah ?_;exact q0 _ _ rfl aI au
def qY:Nat->(List Nd)->Int->Int->Bool->Option Bool
 |0,_,_,_,_=>none
 |k+1,aG,pI,qw,DW=>
  cond (decide (pI>=0)) (Option.bind (EN aG pI qw DW) (fun p59=>(uj k aG pI).bind fun p67=>qY k aG p67.1 p67.2 p59)) (some (DW))
def PO:List Nat:=[7,8,10]++List.range' 71 21
theorem abC: ∀(k:Nat) (aG:List Nd) (pI:Int) (qw:Int) (DW:Bool) (aB σ:Nat->PV) (H:AH) (f0:Fr PO aB σ) (sl:σ 0=(.ak (aG.map Nd.cells) .unk)/\σ 7=(.int .i64 pI)/\σ 8=(.int .i64 qw)/\σ 10=(.bool DW)) (o:Bool) (h:qY k aG pI qw DW=some o) (Q:Post) (q0: ∀(p:Bool) (σ':Nat->PV),o=p->Fr PO aB σ'->(σ' 10=(.bool p))->Q (.exit 4) σ' H),W Tryz.prog (.loop Ws) Q σ H:=by
 intro k
 induction k with
 |zero=>intro aG pI qw DW aB σ H f0 sl o h Q q0;simp only [qY,reduceCtorEq]at h
 |succ k ih=>
  intro aG pI qw DW aB σ H f0 sl o h Q q0;obtain⟨s0,s7,s8,s10⟩:=sl;unfold qY at h;refine aW (fun K hK=>aC ?_);unfold Ws;obtain⟨e51,h⟩|⟨e51,h⟩:=aA h
  ·refine ah ?_;obtain⟨o57,h58,h⟩:=aj h;refine abB aG pI qw DW _ _ _ (Fr.refl _ _) au _ h58 _ ?_
   ·rintro p59 σ' eo akV s63;rw [eo]at h;have s64:σ' 0=(.ak (aG.map Nd.cells) .unk):=(akV 0 (by decide)).trans au;have s65:σ' 7=(.int .i64 pI):=(akV 7 (by decide)).trans au;obtain⟨p67,e66,h⟩:=aj h;refine ah ?_;refine av (EL e66) ?_;refine ah ?_;refine hK _ _ ?_;exact ih aG p67.1 p67.2 p59 _ _ _ (by repeat (first|exact f0|refine Fr.upd (by decide) ?_|refine Fr.via akV (by decide) ?_)) au _ h _ q0
  ·cases h;refine ah ?_;exact q0 _ _ rfl aI au
def nC:Nat->(List Nd)->Int->Option (Unit⊕(Int×Int))
 |0,_,_=>none
 |k+1,aG,kU=>
  cond (decide (kU<(aG.length:Int))) ((uj k aG kU).bind fun p16=>Option.bind (A8 k aG p16.1 (decide (p16.1>=0))) (fun p26=>if 0<=kU then (aG[kU.toNat]?).bind fun x36=>Option.bind (EM p26 (x36.kind==24)) (fun p41=>cond p41 (some (.inr ((kU,30)))) (Option.bind (qY k aG p16.1 p16.2 false) (fun p70=>cond (x36.kind==20) (cond p70 (nC k aG (IntKind.wrap .i64 (kU+1))) (some (.inr ((kU,30))))) (nC k aG (IntKind.wrap .i64 (kU+1))))))else none)) (some (.inl ()))
def Jq:List Nat:=[2,3,6,7,8,9,10]++List.range' 30 73
theorem abE: ∀(k:Nat) (aG:List Nd) (kU:Int) (aB σ:Nat->PV) (H:AH) (f0:Fr Jq aB σ) (sl:σ 0=(.ak (aG.map Nd.cells) .unk)/\σ 6=(.int .i64 kU)) (o:Unit⊕(Int×Int)) (h:nC k aG kU=some o) (Q:Post) (q0: ∀(p:Unit) (σ':Nat->PV),o= .inl p->Fr Jq aB σ'->Q (.exit 2) σ' H) (q1: ∀(p:Int×Int) (σ':Nat->PV),o= .inr (p)->Fr Jq aB σ'->(σ' 2=(.int .i64 p.1)/\σ' 3=(.int .i64 p.2))->Q .ret σ' H),W Tryz.prog (.loop Wt) Q σ H:=by
 intro k
 induction k with
 |zero=>intro aG kU aB σ H f0 sl o h Q q0 q1;simp only [nC,reduceCtorEq]at h
 |succ k ih=>
  intro aG kU aB σ H f0 sl o h Q q0 q1;obtain⟨s0,s6⟩:=sl;unfold nC at h;refine aW (fun K hK=>aC ?_);unfold Wt;obtain⟨e14,h⟩|⟨e14,h⟩:=aA h
  ·obtain⟨p16,e15,h⟩:=aj h;refine ah ?_;refine av (EL e15) ?_;refine ah ?_;obtain⟨o24,h25,h⟩:=aj h;refine aby k aG p16.1 (decide (p16.1>=0)) _ _ _ (Fr.refl _ _) au _ h25 _ ?_
   ·rintro p26 σ' eo Nt s30;rw [eo]at h;have s31:σ' 0=(.ak (aG.map Nd.cells) .unk):=(Nt 0 (by decide)).trans au;have s32:σ' 6=(.int .i64 kU):=(Nt 6 (by decide)).trans au;have s33:σ' 7=(.int .i64 p16.1):=(Nt 7 (by decide)).trans au;have s34:σ' 8=(.int .i64 p16.2):=(Nt 8 (by decide)).trans au;obtain⟨e35,h⟩:=aU h;obtain⟨x36,e37,h⟩:=aj h;refine ah ?_;obtain⟨o39,h40,h⟩:=aj h;refine abz p26 (x36.kind==24) _ _ _ (Fr.refl _ _) au _ h40 _ ?_
    ·rintro p41 σ' eo Ep s45;rw [eo]at h;have s46:σ' 0=(.ak (aG.map Nd.cells) .unk):=(Ep 0 (by decide)).trans au;have s47:σ' 6=(.int .i64 kU):=(Ep 6 (by decide)).trans au;have s48:σ' 7=(.int .i64 p16.1):=(Ep 7 (by decide)).trans au;have s49:σ' 8=(.int .i64 p16.2):=(Ep 8 (by decide)).trans au;obtain⟨e50,h⟩|⟨e50,h⟩:=aA h
     ·cases h;refine ah ?_;exact q1 _ _ rfl (by repeat (first|exact f0|refine Fr.upd (by decide) ?_|refine Fr.via Nt (by decide) ?_|refine Fr.via Ep (by decide) ?_)) au
     ·refine ah ?_;obtain⟨o68,h69,h⟩:=aj h;refine abC k aG p16.1 p16.2 false _ _ _ (Fr.refl _ _) au _ h69 _ ?_
      ·rintro p70 σ' eo abF s74;rw [eo]at h;have s75:σ' 0=(.ak (aG.map Nd.cells) .unk):=(abF 0 (by decide)).trans au;have s76:σ' 6=(.int .i64 kU):=(abF 6 (by decide)).trans au;obtain⟨Ye,h⟩|⟨Ye,h⟩:=aA h
       ·obtain⟨e78,h⟩|⟨e78,h⟩:=aA h
        ·refine ah ?_;refine hK _ _ ?_;exact ih aG (IntKind.wrap .i64 (kU+1)) _ _ _ (by repeat (first|exact f0|refine Fr.upd (by decide) ?_|refine Fr.via Nt (by decide) ?_|refine Fr.via Ep (by decide) ?_|refine Fr.via abF (by decide) ?_)) au _ h _ q0 q1
        ·cases h;refine ah ?_;exact q1 _ _ rfl (by repeat (first|exact f0|refine Fr.upd (by decide) ?_|refine Fr.via Nt (by decide) ?_|refine Fr.via Ep (by decide) ?_|refine Fr.via abF (by decide) ?_)) au
       ·refine ah ?_;refine hK _ _ ?_;exact ih aG (IntKind.wrap .i64 (kU+1)) _ _ _ (by repeat (first|exact f0|refine Fr.upd (by decide) ?_|refine Fr.via Nt (by decide) ?_|refine Fr.via Ep (by decide) ?_|refine Fr.via abF (by decide) ?_)) au _ h _ q0 q1
  ·cases h;refine ah ?_;exact q0 _ _ rfl aI
def zP (k:Nat) (aG:List Nd):Option (Int×Int):=
 cond ((aG.length:Int)==0) (some (0,1)) (cond (decide ((aG.length:Int)>160)) (some (0,2)) (Option.bind (pG k aG 0) (fun o=>Sum.elim (fun p9=>Option.bind (nC k aG 0) (fun o=>Sum.elim (fun Yf=>(vg k aG (IntKind.wrap .i64 ((aG.length:Int) -1))).bind fun PK=>cond (PK !=0) (some ((IntKind.wrap .i64 ((aG.length:Int) -1)),15)) (some (0,0))) (fun Uo=>some (Uo.1,Uo.2)) o)) (fun Uq=>some (Uq.1,Uq.2)) o)))
theorem aiC {k:Nat} {aG:List Nd} {c0:Ck} {r:Int×Int} (h:zP k aG=some r):aD Tryz.prog 63 [(.ak (aG.map Nd.cells) c0)] (.cK [(.int .i64 r.1),(.int .i64 r.2)]):=by
 refine aD.lw (.ak .nil) (aD.aO (aX.mem (.cons (aT Nd.pu _) .nil)) (aF azk (by simp) (aC ?_)) (.cK _ (aX.mem (.cons (.int _ _) (.cons (.int _ _) .nil)))));unfold zP at h;unfold arJ;obtain⟨e1,h⟩|⟨e1,h⟩:=aA h
 ·cases h;refine ah ?_;exact(bW (aQ (aQ .nil)))
 ·obtain⟨e2,h⟩|⟨e2,h⟩:=aA h
  ·cases h;refine ah ?_;exact(bW (aQ (aQ .nil)))
  ·refine ah ?_;obtain⟨o7,h8,h⟩:=aj h;refine abw k aG 0 _ _ _ (Fr.refl _ _) au _ h8 _ ?_ ?_
   ·rintro p9 σ' eo Nu;subst eo;rw [bI]at h;have s13:σ' 0=(.ak (aG.map Nd.cells) .unk):=(Nu 0 (by decide)).trans au;refine ah ?_;obtain⟨o79,h80,h⟩:=aj h;refine abE k aG 0 _ _ _ (Fr.refl _ _) au _ h80 _ ?_ ?_
    ·rintro Yf σ' eo WV;subst eo;rw [bI]at h;have s85:σ' 0=(.ak (aG.map Nd.cells) .unk):=(WV 0 (by decide)).trans au;obtain⟨PK,Ug,h⟩:=aj h;refine ah ?_;refine av (Nn Ug) ?_;obtain⟨Uh,h⟩|⟨Uh,h⟩:=aA h
     ·cases h;refine ah ?_;exact(bW (aQ (aQ .nil)))
     ·cases h;refine ah ?_;exact(bW (aQ (aQ .nil)))
    ·rintro Uo σ' eo aFl ⟨s93,s94⟩;subst eo;rw [bL]at h;cases h;refine ah ?_;exact(bW (aQ (aQ .nil)))
   ·rintro Uq σ' eo aFm ⟨s99,ags⟩;subst eo;rw [bL]at h;cases h;refine ah ?_;exact(bW (aQ (aQ .nil)))
def IB (k:Nat) (aG:List Nd):Option Int:=
 (zP k aG).bind fun p2=>some p2.2
theorem ae1 {k:Nat} {aG:List Nd} {c0:Ck} {r:Int} (h:IB k aG=some r):aD Tryz.prog 19 [(.ak (aG.map Nd.cells) c0)] (.int .i64 r):=by
 refine aD.lw (.ak .nil) (aD.aO (aX.mem (.cons (aT Nd.pu _) .nil)) (aF af9 (by simp) (aC ?_)) (.int _ _));unfold IB at h;unfold arq;obtain⟨p2,e1,h⟩:=aj h;refine ah ?_;refine av (aiC e1) ?_;cases h;refine ah ?_;exact(.pure _ (.int _ _))
def Gp (dn:Int) (IC:Bool):Option Bool:=
 cond IC (some ((decide (dn<172)))) (some (false))
theorem agt: ∀(dn:Int) (IC:Bool) (aB σ:Nat->PV) (H:AH) (f0:Fr [10,11,12] aB σ) (sl:σ 3=(.int .i64 dn)/\σ 9=(.bool IC)) (o:Bool) (h:Gp dn IC=some o) (Q:Post) (q0: ∀(p:Bool) (σ':Nat->PV),o=p->Fr [10,11,12] aB σ'->(σ' 12=(.bool p))->Q .normal σ' H),dH Tryz.prog V7 (Q .normal) σ H:=by
 intro dn IC aB σ H f0 sl o h Q q0;obtain⟨s3,s9⟩:=sl;unfold Gp at h;refine fu ?_;unfold V7;obtain⟨e1,h⟩|⟨e1,h⟩:=aA h
 ·cases h;refine ah ?_;exact q0 _ _ rfl aI au
 ·cases h;refine ah ?_;exact q0 _ _ rfl aI au
def Gq (aG:List Nd) (dn:Int) (abG:Bool):Option Bool:=
 cond abG (some (true)) (if 0<=dn then (aG[dn.toNat]?).bind fun Gs=>cond (decide ((Gs.names.length:Int)>34)) (some (true)) (some ((decide ((Gs.text.length:Int)>80))))else none)
def Yg:List Nat:=List.range' 23 17
theorem agu: ∀(aG:List Nd) (dn:Int) (abG:Bool) (aB σ:Nat->PV) (H:AH) (f0:Fr Yg aB σ) (sl:σ 0=(.ak (aG.map Nd.cells) .unk)/\σ 3=(.int .i64 dn)/\σ 22=(.bool abG)) (o:Bool) (h:Gq aG dn abG=some o) (Q:Post) (q0: ∀(p:Bool) (σ':Nat->PV),o=p->Fr Yg aB σ'->(σ' 39=(.bool p))->Q .normal σ' H),dH Tryz.prog V8 (Q .normal) σ H:=by
 intro aG dn abG aB σ H f0 sl o h Q q0;obtain⟨s0,s3,s22⟩:=sl;unfold Gq at h;refine fu ?_;unfold V8;obtain⟨e15,h⟩|⟨e15,h⟩:=aA h
 ·cases h;refine ah ?_;exact q0 _ _ rfl aI au
 ·obtain⟨e16,h⟩:=aU h;obtain⟨Gs,e18,h⟩:=aj h;obtain⟨e19,h⟩|⟨e19,h⟩:=aA h
  ·cases h;refine ah ?_;exact q0 _ _ rfl aI au
  ·cases h;refine ah ?_;exact q0 _ _ rfl aI au
def um:Nat->(List Nd)->Int->Int->Option (Unit⊕Bool)
 |0,_,_,_=>none
 |k+1,aG,dn,PS=>
  if 0<=dn then (aG[dn.toNat]?).bind fun x31=>cond (decide (PS<(x31.names.length:Int))) (if 0<=PS then (x31.names[PS.toNat]?).bind fun x35=>cond (decide ((x35.length:Int)>80)) (some (.inr (false))) (um k aG dn (IntKind.wrap .i64 (PS+1)))else none) (some (.inl ()))else none
def Nv:List Nat:=[2,4]++List.range' 40 20
theorem agv: ∀(k:Nat) (aG:List Nd) (dn:Int) (PS:Int) (aB σ:Nat->PV) (H:AH) (f0:Fr Nv aB σ) (sl:σ 0=(.ak (aG.map Nd.cells) .unk)/\σ 3=(.int .i64 dn)/\σ 4=(.int .i64 PS)) (o:Unit⊕Bool) (h:um k aG dn PS=some o) (Q:Post) (q0: ∀(p:Unit) (σ':Nat->PV),o= .inl p->Fr Nv aB σ'->Q (.exit 2) σ' H) (q1: ∀(p:Bool) (σ':Nat->PV),o= .inr (p)->Fr Nv aB σ'->(σ' 2=(.bool p))->Q .ret σ' H),W Tryz.prog (.loop V9) Q σ H:=by
 intro k
 induction k with
 |zero=>intro aG dn PS aB σ H f0 sl o h Q q0 q1;simp only [um,reduceCtorEq]at h
 |succ k ih=>
  intro aG dn PS aB σ H f0 sl o h Q q0 q1;obtain⟨s0,s3,s4⟩:=sl;unfold um at h;refine aW (fun K hK=>aC ?_);unfold V9;obtain⟨e30,h⟩:=aU h;obtain⟨x31,e32,h⟩:=aj h;obtain⟨e33,h⟩|⟨e33,h⟩:=aA h
  ·obtain⟨e34,h⟩:=aU h;obtain⟨x35,e36,h⟩:=aj h;obtain⟨e37,h⟩|⟨e37,h⟩:=aA h
   ·cases h;refine ah ?_;exact q1 _ _ rfl aI au
   ·refine ah ?_;refine hK _ _ ?_;exact ih aG dn (IntKind.wrap .i64 (PS+1)) _ _ _ aI au _ h _ q0 q1
  ·cases h;refine ah ?_;exact q0 _ _ rfl aI
def uo:Nat->(List Nd)->Int->Option (Unit⊕Bool)
 |0,_,_=>none
 |k+1,aG,dn=>
  Option.bind (Gp dn (decide (dn<(aG.length:Int)))) (fun p4=>cond p4 (if 0<=dn then (aG[dn.toNat]?).bind fun x13=>Option.bind (Gq aG dn (decide ((x13.args.length:Int)>34))) (fun Gf=>cond Gf (some (.inr (false))) (Option.bind (um k aG dn 0) (fun o=>Sum.elim (fun p40=>uo k aG (IntKind.wrap .i64 (dn+1))) (fun p46=>some (.inr (p46))) o)))else none) (some (.inl ())))
def Ny:List Nat:=List.range' 2 58
theorem agw: ∀(k:Nat) (aG:List Nd) (dn:Int) (aB σ:Nat->PV) (H:AH) (f0:Fr Ny aB σ) (sl:σ 0=(.ak (aG.map Nd.cells) .unk)/\σ 3=(.int .i64 dn)) (o:Unit⊕Bool) (h:uo k aG dn=some o) (Q:Post) (q0: ∀(p:Unit) (σ':Nat->PV),o= .inl p->Fr Ny aB σ'->Q (.exit 0) σ' H) (q1: ∀(p:Bool) (σ':Nat->PV),o= .inr (p)->Fr Ny aB σ'->(σ' 2=(.bool p))->Q .ret σ' H),W Tryz.prog (.loop Wh) Q σ H:=by
 intro k
 induction k with
 |zero=>intro aG dn aB σ H f0 sl o h Q q0 q1;simp only [uo,reduceCtorEq]at h
 |succ k ih=>
  intro aG dn aB σ H f0 sl o h Q q0 q1;obtain⟨s0,s3⟩:=sl;unfold uo at h;refine aW (fun K hK=>aC ?_);unfold Wh;refine ah ?_;obtain⟨o2,h3,h⟩:=aj h;refine agt dn (decide (dn<(aG.length:Int))) _ _ _ (Fr.refl _ _) au _ h3 _ ?_
  ·rintro p4 σ' eo J9 s8;rw [eo]at h;have s9:σ' 0=(.ak (aG.map Nd.cells) .unk):=(J9 0 (by decide)).trans au;have s10:σ' 3=(.int .i64 dn):=(J9 3 (by decide)).trans au;obtain⟨e11,h⟩|⟨e11,h⟩:=aA h
   ·obtain⟨e12,h⟩:=aU h;obtain⟨x13,e14,h⟩:=aj h;refine ah ?_;obtain⟨o20,h21,h⟩:=aj h;refine agu aG dn (decide ((x13.args.length:Int)>34)) _ _ _ (Fr.refl _ _) au _ h21 _ ?_
    ·rintro Gf σ' eo Wy s26;rw [eo]at h;have Yh:σ' 0=(.ak (aG.map Nd.cells) .unk):=(Wy 0 (by decide)).trans au;have s28:σ' 3=(.int .i64 dn):=(Wy 3 (by decide)).trans au;obtain⟨e29,h⟩|⟨e29,h⟩:=aA h
     ·cases h;refine ah ?_;exact q1 _ _ rfl (by repeat (first|exact f0|refine Fr.upd (by decide) ?_|refine Fr.via J9 (by decide) ?_|refine Fr.via Wy (by decide) ?_)) au
     ·refine ah ?_;obtain⟨o38,h39,h⟩:=aj h;refine agv k aG dn 0 _ _ _ (Fr.refl _ _) au _ h39 _ ?_ ?_
      ·rintro p40 σ' eo abH;subst eo;rw [bI]at h;have s44:σ' 0=(.ak (aG.map Nd.cells) .unk):=(abH 0 (by decide)).trans au;have s45:σ' 3=(.int .i64 dn):=(abH 3 (by decide)).trans au;refine ah ?_;refine hK _ _ ?_;exact ih aG (IntKind.wrap .i64 (dn+1)) _ _ _ (by repeat (first|exact f0|refine Fr.upd (by decide) ?_|refine Fr.via J9 (by decide) ?_|refine Fr.via Wy (by decide) ?_|refine Fr.via abH (by decide) ?_)) au _ h _ q0 q1
      ·rintro p46 σ' eo az1 s50;subst eo;rw [bL]at h;cases h;refine ah ?_;exact q1 _ _ rfl (by repeat (first|exact f0|refine Fr.upd (by decide) ?_|refine Fr.via J9 (by decide) ?_|refine Fr.via Wy (by decide) ?_|refine Fr.via az1 (by decide) ?_)) au
   ·cases h;refine ah ?_;exact q0 _ _ rfl (by repeat (first|exact f0|refine Fr.upd (by decide) ?_|refine Fr.via J9 (by decide) ?_))
def Ur (k:Nat) (aG:List Nd):Option Bool:=
 Option.bind (uo k aG 0) (fun o=>Sum.elim (fun p53=>some (decide ((aG.length:Int)<=170))) (fun p58=>some p58) o)
theorem apM {k:Nat} {aG:List Nd} {c0:Ck} {r:Bool} (h:Ur k aG=some r):aD Tryz.prog 27 [(.ak (aG.map Nd.cells) c0)] (.bool r):=by
 refine aD.lw (.ak .nil) (aD.aO (aX.mem (.cons (aT Nd.pu _) .nil)) (aF akE (by simp) (aC ?_)) (.bool _));unfold Ur at h;unfold arA;refine ah ?_;obtain⟨o51,h52,h⟩:=aj h;refine agw k aG 0 _ _ _ (Fr.refl _ _) au _ h52 _ ?_ ?_
 ·rintro p53 σ' eo Lb;subst eo;rw [bI]at h;have s57:σ' 0=(.ak (aG.map Nd.cells) .unk):=(Lb 0 (by decide)).trans au;cases h;refine ah ?_;exact(.pure _ (.bool _))
 ·rintro p58 σ' eo akW s62;subst eo;rw [bL]at h;cases h;refine ah ?_;exact(.pure _ (.bool _))
def DX (bB:List Int):Option (List Int):=
 if(([]:List Int).length+bB.length)*8<=1099511627776 then some (([]:List Int)++bB)else none
theorem adY {bB:List Int} {c0:Ck} {r:List Int} (h:DX bB=some r):aD Tryz.prog 24 [(.ak (bB.map aS) c0)] (.ak (r.map aS) .unk):=by
 refine aD.lw (.ak .nil) (aD.aO (aX.mem (.cons (aT dF _) .nil)) (aF akD (by simp) (aC ?_)) (aT dF _));unfold DX at h;unfold arz;obtain⟨e5,h⟩:=aU h;refine ah ?_;refine gq (f:=aS) uZ ([]:List Int) (bB:List Int) .exact .unk au au eZ (by first|exact e5|(simp only [List.length_cons,List.length_nil];exact e5)) (fun c1 H2 Ub le ob6 rl4=> ?_);have hf7:HF [] _ H2:=⟨le,fun i _ _=>ob6 i⟩;try simp only [AH.aK,AH.aL,AH.aM,AH.aN]at le
 cases h;refine ah ?_;exact(dS dF _ _)
def kJ (bB:List Str):Option (List Str):=
 if(([]:List Str).length+bB.length)*16<=1099511627776 then some (([]:List Str)++bB)else none
theorem A9 {bB:List Str} {c0:Ck} {r:List Str} (h:kJ bB=some r):aD Tryz.prog 62 [(.ak (bB.map aH) c0)] (.ak (r.map aH) .unk):=by
 refine aD.lw (.ak .nil) (aD.aO (aX.mem (.cons (aT bE _) .nil)) (aF aaP (by simp) (aC ?_)) (aT bE _));unfold kJ at h;unfold Wm;obtain⟨e5,h⟩:=aU h;refine ah ?_;refine gq (f:=aH) jZ ([]:List Str) (bB:List Str) .exact .unk au au eZ (by first|exact e5|(simp only [List.length_cons,List.length_nil];exact e5)) (fun c1 H2 Ub le ob6 rl4=> ?_);have hf7:HF [] _ H2:=⟨le,fun i _ _=>ob6 i⟩;try simp only [AH.aK,AH.aL,AH.aM,AH.aN]at le
 cases h;refine ah ?_;exact(dS bE _ _)
def nM:Nat->(List Nd)->(List Nd)->Int->Option (List Nd)
 |0,_,_,_=>none
 |k+1,aG,eT,dO=>
  cond (decide (dO<(aG.length:Int))) (if 0<=dO then (aG[dO.toNat]?).bind fun x3=>(kJ x3.names).bind fun p6=>(DX x3.args).bind fun p8=>if(eT.length+1)*80<=1099511627776 then nM k aG (eT++[(Nd.mk x3.kind x3.n x3.text p6 p8)]) (IntKind.wrap .i64 (dO+1))else none else none) (some (eT))
def Ma:List Nat:=List.range' 3 25
theorem WW: ∀(k:Nat) (aG:List Nd) (eT:List Nd) (dO:Int) (fH:Ck) (aB σ:Nat->PV) (H0 H:AH) (f0:Fr Ma aB σ) (hf0:HF [] H0 H) (sl:σ 0=(.ak (aG.map Nd.cells) .unk)/\σ 3=(.ak (eT.map Nd.cells) fH)/\σ 4=(.int .i64 dO)) (Gt:bq H fH) (o:List Nd) (h:nM k aG eT dO=some o) (Q:Post) (q0: ∀(p:List Nd) (c0:Ck) (σ':Nat->PV) (H':AH),o=p->Fr Ma aB σ'->HF [] H0 H'->(σ' 3=(.ak (p.map Nd.cells) c0))->Q (.exit 0) σ' H'),W Tryz.prog (.loop V3) Q σ H:=by
 intro k
 induction k with
 |zero=>intro aG eT dO fH aB σ H0 H f0 hf0 sl Gt o h Q q0;simp only [nM,reduceCtorEq]at h
 |succ k ih=>
  intro aG eT dO fH aB σ H0 H f0 hf0 sl Gt o h Q q0;obtain⟨s0,s3,s4⟩:=sl;have hle0:=hf0.1;unfold nM at h;refine aW (fun K hK=>aC ?_);unfold V3;obtain⟨e1,h⟩|⟨e1,h⟩:=aA h
  ·obtain⟨e2,h⟩:=aU h;obtain⟨x3,e4,h⟩:=aj h;refine ah ?_;refine iJ ?_;obtain⟨p6,e5,h⟩:=aj h;refine ah ?_;refine PC.mk (A9 e5) ?_;obtain⟨p8,e7,h⟩:=aj h;refine ah ?_;refine PC.mk (adY e7) ?_;obtain⟨e13,h⟩:=aU h;refine ah ?_;refine gq (f:=Nd.cells) Nd.row eT ([(Nd.mk x3.kind x3.n x3.text p6 p8)]:List Nd) fH .exact au au eZ (by first|exact e13|(simp only [List.length_cons,List.length_nil];exact e13)) (fun c9 H10 aFo le az2 aFp=> ?_);have Nz:HF [] _ H10:=⟨le,fun i _ _=>az2 i⟩;try simp only [AH.aK,AH.aL,AH.aM,AH.aN]at le
   have n16:=ne_next (show H.next<H10.next by first|omega|(simp only [AH.aK,AH.aL,AH.aM,AH.aN];omega));have m17:=aZ (show H.next<H10.next by first|omega|(simp only [AH.aK,AH.aL,AH.aM,AH.aN];omega));refine ah ?_;refine hK _ _ ?_;exact ih aG (eT++[(Nd.mk x3.kind x3.n x3.text p6 p8)]) (IntKind.wrap .i64 (dO+1)) c9 _ _ _ _ aI (by repeat (first|exact hf0|refine HF.new ?_|refine HF.qJ ?_|refine HF.used ?_|refine HF.put (by first|(right;omega)|(left;simp only [List.mem_cons,true_or,or_true])) ?_|refine HF.via Nz (by first|exact fun i hi=>absurd hi List.not_mem_nil|(intro i hi;simp only [List.mem_cons,List.not_mem_nil,or_false]at hi⊢;first|exact .inl hi|omega)) ?_)) au eZ _ h _ q0
  ·cases h;refine ah ?_;exact q0 _ fH _ _ rfl aI nZ au
def zQ (k:Nat) (aG:List Nd):Option (List Nd):=
 Option.bind (nM k aG ([]:List Nd) 0) (fun Ka=>some Ka)
theorem PU {k:Nat} {aG:List Nd} {c0:Ck} {r:List Nd} (h:zQ k aG=some r):aD Tryz.prog 18 [(.ak (aG.map Nd.cells) c0)] (.ak (r.map Nd.cells) .unk):=by
 refine aD.lw (.ak .nil) (aD.aO (aX.mem (.cons (aT Nd.pu _) .nil)) (aF arp (by simp) (aC ?_)) (aT Nd.pu _));unfold zQ at h;unfold aro;refine ah ?_;obtain⟨o18,h19,h⟩:=aj h;refine WW k aG ([]:List Nd) 0 .nil _ _ _ _ (Fr.refl _ _) (HF.refl _ _) au eZ _ h19 _ ?_
 ·rintro Ka c24 σ' H23 eo aFq az3 s25;rw [eo]at h;have le:=az3.1;try simp only [AH.aK,AH.aL,AH.aM,AH.aN]at le
  cases h;refine ah ?_;exact(dS Nd.pu _ _)
def gP (bg:Int) (Us:Int) (agx:Int):Option Bool:=
 cond (decide (Us<=bg)) (some (decide (bg<=agx))) (some false)
theorem gU {bg:Int} {Us:Int} {agx:Int} {r:Bool} (h:gP bg Us agx=some r):aD Tryz.prog 224 [(.int .i64 bg),(.int .i64 Us),(.int .i64 agx)] (.bool r):=by
 refine aD.aO (aX.mem (.cons (.int _ _) (.cons (.int _ _) (.cons (.int _ _) .nil)))) (aF awe (by simp) (aC ?_)) (.bool _);unfold gP at h;unfold am4;obtain⟨e1,h⟩|⟨e1,h⟩:=aA h
 ·cases h;refine ah ?_;exact(.pure _ (.bool _))
 ·cases h;refine ah ?_;exact(.pure _ (.bool _))
def og (K9:Bool) (Ut:Int):Option Int:=
 cond K9 (some Ut) (some 0)
theorem nN {K9:Bool} {Ut:Int} {r:Int} (h:og K9 Ut=some r):aD Tryz.prog 176 [(.bool K9),(.int .i64 Ut)] (.int .i64 r):=by
 refine aD.aO (aX.mem (.cons (.bool _) (.cons (.int _ _) .nil))) (aF avQ (by simp) (aC ?_)) (.int _ _);unfold og at h;unfold amI;obtain⟨e1,h⟩|⟨e1,h⟩:=aA h
 ·cases h;refine ah ?_;exact(.pure _ (.int _ _))
 ·cases h;refine ah ?_;exact(.pure _ (.int _ _))
def iC:Nat->(List Int)->Int->Int->Option (Unit⊕Int)
 |0,_,_,_=>none
 |k+1,lX,dX,dB=>
  cond (decide (dB<dX)) (if 0<=dB then (lX[dB.toNat]?).bind fun x3=>cond (x3 !=0) (some (.inr (x3))) (iC k lX dX (IntKind.wrap .i64 (dB+1)))else none) (some (.inl ()))
def wM:List Nat:=[2,5]++List.range' 8 9
theorem ME: ∀(k:Nat) (lX:List Int) (dX:Int) (dB:Int) (aB σ:Nat->PV) (H:AH) (f0:Fr wM aB σ) (sl:σ 3=(.int .i64 0)/\σ 6=(.ak (lX.map aS) .unk)/\σ 7=(.int .i64 dX)/\σ 8=(.int .i64 dB)) (o:Unit⊕Int) (h:iC k lX dX dB=some o) (Q:Post) (q0: ∀(p:Unit) (σ':Nat->PV),o= .inl p->Fr wM aB σ'->Q (.exit 0) σ' H) (q1: ∀(p:Int) (σ':Nat->PV),o= .inr (p)->Fr wM aB σ'->(σ' 2=(.int .i64 p))->Q .ret σ' H),W Tryz.prog (.loop Rf) Q σ H:=by
 intro k
 induction k with
 |zero=>intro lX dX dB aB σ H f0 sl o h Q q0 q1;simp only [iC,reduceCtorEq]at h
 |succ k ih=>
  intro lX dX dB aB σ H f0 sl o h Q q0 q1;obtain⟨s3,s6,s7,s8⟩:=sl;unfold iC at h;refine aW (fun K hK=>aC ?_);unfold Rf;obtain⟨e1,h⟩|⟨e1,h⟩:=aA h
  ·obtain⟨e2,h⟩:=aU h;obtain⟨x3,e4,h⟩:=aj h;obtain⟨e5,h⟩|⟨e5,h⟩:=aA h
   ·cases h;refine ah ?_;exact q1 _ _ rfl aI au
   ·refine ah ?_;refine hK _ _ ?_;exact ih lX dX (IntKind.wrap .i64 (dB+1)) _ _ _ aI au _ h _ q0 q1
  ·cases h;refine ah ?_;exact q0 _ _ rfl aI
def gQ (k:Nat) (Gu:List Int):Option Int:=
 Option.bind (iC k Gu (Gu.length:Int) 0) (fun o=>Sum.elim (fun p8=>some 0) (fun wE=>some wE) o)
theorem kQ {k:Nat} {Gu:List Int} {c0:Ck} {r:Int} (h:gQ k Gu=some r):aD Tryz.prog 175 [(.ak (Gu.map aS) c0)] (.int .i64 r):=by
 refine aD.lw (.ak .nil) (aD.aO (aX.mem (.cons (aT dF _) .nil)) (aF avP (by simp) (aC ?_)) (.int _ _));unfold gQ at h;unfold amH;refine ah ?_;obtain⟨o6,h7,h⟩:=aj h;refine ME k Gu (Gu.length:Int) 0 _ _ _ (Fr.refl _ _) au _ h7 _ ?_ ?_
 ·rintro p8 σ' eo Im;subst eo;rw [bI]at h;have s12:σ' 3=(.int .i64 0):=(Im 3 (by decide)).trans au;cases h;refine ah ?_;exact(.pure _ (.int _ _))
 ·rintro wE σ' eo asb tK;subst eo;rw [bL]at h;cases h;refine ah ?_;exact(.pure _ (.int _ _))
def sJ (Uu:Operator) (t_1:Str):Option Bool:=
 some (Uu.text==t_1)
theorem SQ {Uu:Operator} {t_1:Str} {r:Bool} (h:sJ Uu t_1=some r):aD Tryz.prog 266 [(.agg (Operator.cells Uu)),(.bS [(.str t_1)] 0)] (.bool r):=by
 refine aD.aO (aX.mem (.cons (.agg _ (Operator.pu _)) (.cons (.bS _ _ (aX.mem (.cons (.str _) .nil))) .nil))) (aF awJ (by simp) (aC ?_)) (.bool _);unfold sJ at h;unfold anA;cases h;refine ah ?_;exact(.pure _ (.bool _))
def bn:Nat->(List Operator)->Str->Int->Int->Option (Unit⊕Int)
 |0,_,_,_,_=>none
 |k+1,s_0,dV,dX,dB=>
  cond (decide (dB<dX)) (if 0<=dB then (s_0[dB.toNat]?).bind fun x3=>(sJ x3 dV).bind fun p6=>cond p6 (some (.inr (dB))) (bn k s_0 dV dX (IntKind.wrap .i64 (dB+1)))else none) (some (.inl ()))
def gH:List Nat:=[4,5]++List.range' 8 11
theorem qD: ∀(k:Nat) (s_0:List Operator) (dV:Str) (dX:Int) (dB:Int) (aB σ:Nat->PV) (H:AH) (f0:Fr gH aB σ) (sl:σ 0=(.ak (s_0.map Operator.cells) .unk)/\σ 1=(.fn (.func 266) [] [(.bS [(.str dV)] 0)])/\σ 7=(.int .i64 dX)/\σ 8=(.int .i64 dB)) (o:Unit⊕Int) (h:bn k s_0 dV dX dB=some o) (Q:Post) (q0: ∀(p:Unit) (σ':Nat->PV),o= .inl p->Fr gH aB σ'->Q (.exit 0) σ' H) (q1: ∀(p:Int) (σ':Nat->PV),o= .inr (p)->Fr gH aB σ'->(σ' 4=(.int .i64 p))->Q .ret σ' H),W Tryz.prog (.loop Sw) Q σ H:=by
 intro k
 induction k with
 |zero=>intro s_0 dV dX dB aB σ H f0 sl o h Q q0 q1;simp only [bn,reduceCtorEq]at h
 |succ k ih=>
  intro s_0 dV dX dB aB σ H f0 sl o h Q q0 q1;obtain⟨s0,s1,s7,s8⟩:=sl;unfold bn at h;refine aW (fun K hK=>aC ?_);unfold Sw;obtain⟨e1,h⟩|⟨e1,h⟩:=aA h
  ·obtain⟨e2,h⟩:=aU h;obtain⟨x3,e4,h⟩:=aj h;obtain⟨p6,e5,h⟩:=aj h;refine ah ?_;refine av (SQ e5) ?_;obtain⟨e7,h⟩|⟨e7,h⟩:=aA h
   ·cases h;refine ah ?_;exact q1 _ _ rfl aI au
   ·refine ah ?_;refine hK _ _ ?_;exact ih s_0 dV dX (IntKind.wrap .i64 (dB+1)) _ _ _ aI au _ h _ q0 q1
  ·cases h;refine ah ?_;exact q0 _ _ rfl aI
def fE (k:Nat) (s_0:List Operator) (dV:Str):Option Int:=
 Option.bind (bn k s_0 dV (s_0.length:Int) 0) (fun o=>Sum.elim (fun iM=>some (-1)) (fun iQ=>some iQ) o)
theorem qZ {k:Nat} {s_0:List Operator} {dV:Str} {c0:Ck} {r:Int} (h:fE k s_0 dV=some r):aD Tryz.prog 265 [(.ak (s_0.map Operator.cells) c0),(.fn (.func 266) [] [(.bS [(.str dV)] 0)])] (.int .i64 r):=by
 refine aD.lw (.ak (.same .nil)) (aD.aO (aX.mem (.cons (aT Operator.pu _) (.cons (.fn _ _ _ (aX.mem .nil) (aX.mem (.cons (.bS _ _ (aX.mem (.cons (.str _) .nil))) .nil))) .nil))) (aF awI (by simp) (aC ?_)) (.int _ _));unfold fE at h;unfold anz;refine ah ?_;obtain⟨o8,h9,h⟩:=aj h;refine qD k s_0 dV (s_0.length:Int) 0 _ _ _ (Fr.refl _ _) au _ h9 _ ?_ ?_
 ·rintro iM σ' eo CP;subst eo;rw [bI]at h;cases h;refine ah ?_;exact(.pure _ (.int _ _))
 ·rintro iQ σ' eo sI iX;subst eo;rw [bL]at h;cases h;refine ah ?_;exact(.pure _ (.int _ _))
def EO (yD:Int):Option Bool:=
 (gP (IntKind.wrap .i64 yD) 32 126).bind fun p2=>cond p2 (cond (yD==34) (some true) (some (yD==92))) (some true)
theorem abI {yD:Int} {r:Bool} (h:EO yD=some r):aD Tryz.prog 269 [(.int .i32 yD)] (.bool r):=by
 refine aD.aO (aX.mem (.cons (.int _ _) .nil)) (aF awL (by simp) (aC ?_)) (.bool _);unfold EO at h;unfold anC;obtain⟨p2,e1,h⟩:=aj h;refine ah ?_;refine av (gU e1) ?_;obtain⟨e3,h⟩|⟨e3,h⟩:=aA h
 ·obtain⟨e4,h⟩|⟨e4,h⟩:=aA h
  ·cases h;refine ah ?_;exact(.pure _ (.bool _))
  ·cases h;refine ah ?_;exact(.pure _ (.bool _))
 ·cases h;refine ah ?_;exact(.pure _ (.bool _))
def dQ:Nat->(List Str)->Str->Int->Int->Option (Unit⊕Int)
 |0,_,_,_,_=>none
 |k+1,s_0,v_1,dX,dB=>
  cond (decide (dB<dX)) (if 0<=dB then (s_0[dB.toNat]?).bind fun x3=>cond (v_1==x3) (some (.inr (dB))) (dQ k s_0 v_1 dX (IntKind.wrap .i64 (dB+1)))else none) (some (.inl ()))
def pJ:List Nat:=[4,5]++List.range' 8 11
theorem Er: ∀(k:Nat) (s_0:List Str) (v_1:Str) (dX:Int) (dB:Int) (aB σ:Nat->PV) (H:AH) (f0:Fr pJ aB σ) (sl:σ 0=(.ak (s_0.map aH) .unk)/\σ 1=(.str v_1)/\σ 7=(.int .i64 dX)/\σ 8=(.int .i64 dB)) (o:Unit⊕Int) (h:dQ k s_0 v_1 dX dB=some o) (Q:Post) (q0: ∀(p:Unit) (σ':Nat->PV),o= .inl p->Fr pJ aB σ'->Q (.exit 0) σ' H) (q1: ∀(p:Int) (σ':Nat->PV),o= .inr (p)->Fr pJ aB σ'->(σ' 4=(.int .i64 p))->Q .ret σ' H),W Tryz.prog (.loop Q9) Q σ H:=by
 intro k
 induction k with
 |zero=>intro s_0 v_1 dX dB aB σ H f0 sl o h Q q0 q1;simp only [dQ,reduceCtorEq]at h
 |succ k ih=>
  intro s_0 v_1 dX dB aB σ H f0 sl o h Q q0 q1;obtain⟨s0,s1,s7,s8⟩:=sl;unfold dQ at h;refine aW (fun K hK=>aC ?_);unfold Q9;obtain⟨e1,h⟩|⟨e1,h⟩:=aA h
  ·obtain⟨e2,h⟩:=aU h;obtain⟨x3,e4,h⟩:=aj h;obtain⟨e5,h⟩|⟨e5,h⟩:=aA h
   ·cases h;refine ah ?_;exact q1 _ _ rfl aI au
   ·refine ah ?_;refine hK _ _ ?_;exact ih s_0 v_1 dX (IntKind.wrap .i64 (dB+1)) _ _ _ aI au _ h _ q0 q1
  ·cases h;refine ah ?_;exact q0 _ _ rfl aI
def kV (k:Nat) (s_0:List Str) (v_1:Str):Option Int:=
 Option.bind (dQ k s_0 v_1 (s_0.length:Int) 0) (fun o=>Sum.elim (fun p8=>some (-1)) (fun ng=>some ng) o)
theorem Hz {k:Nat} {s_0:List Str} {v_1:Str} {c0:Ck} {r:Int} (h:kV k s_0 v_1=some r):aD Tryz.prog 165 [(.ak (s_0.map aH) c0),(.str v_1)] (.int .i64 r):=by
 refine aD.lw (.ak (.same .nil)) (aD.aO (aX.mem (.cons (aT bE _) (.cons (.str _) .nil))) (aF avM (by simp) (aC ?_)) (.int _ _));unfold kV at h;unfold amE;refine ah ?_;obtain⟨o6,h7,h⟩:=aj h;refine Er k s_0 v_1 (s_0.length:Int) 0 _ _ _ (Fr.refl _ _) au _ h7 _ ?_ ?_
 ·rintro p8 σ' eo Im;subst eo;rw [bI]at h;cases h;refine ah ?_;exact(.pure _ (.int _ _))
 ·rintro ng σ' eo La s16;subst eo;rw [bL]at h;cases h;refine ah ?_;exact(.pure _ (.int _ _))
def bV (k:Nat) (s_0:List Str) (v_1:Str):Option Bool:=
 (kV k s_0 v_1).bind fun p2=>some (decide (p2>=0))
theorem gT {k:Nat} {s_0:List Str} {v_1:Str} {c0:Ck} {r:Bool} (h:bV k s_0 v_1=some r):aD Tryz.prog 100 [(.ak (s_0.map aH) c0),(.str v_1)] (.bool r):=by
 refine aD.lw (.ak (.same .nil)) (aD.aO (aX.mem (.cons (aT bE _) (.cons (.str _) .nil))) (aF avq (by simp) (aC ?_)) (.bool _));unfold bV at h;unfold amc;obtain⟨p2,e1,h⟩:=aj h;refine ah ?_;refine av (Hz e1) ?_;cases h;refine ah ?_;exact(.pure _ (.bool _))
def vO (s_0:Str) (oG:Str):Option Bool:=
 cond (decide ((s_0.length:Int)>=(oG.length:Int))) (if oG.length<=s_0.length then some ((s_0.take oG.length)==oG)else none) (some false)
theorem Ph {s_0:Str} {oG:Str} {r:Bool} (h:vO s_0 oG=some r):aD Tryz.prog 277 [(.str s_0),(.str oG)] (.bool r):=by
 refine aD.aO (aX.mem (.cons (.str _) (.cons (.str _) .nil))) (aF awQ (by simp) (aC ?_)) (.bool _);unfold vO at h;unfold anH;obtain⟨e1,h⟩|⟨e1,h⟩:=aA h
 ·obtain⟨e2,h⟩:=aU h;cases h;refine ah ?_;exact(.pure _ (.bool _))
 ·cases h;refine ah ?_;exact(.pure _ (.bool _))
def lY (s_0:Str) (oG:Str):Option Bool:=
 (vO s_0 oG).bind fun p2=>some p2
theorem EG {s_0:Str} {oG:Str} {r:Bool} (h:lY s_0 oG=some r):aD Tryz.prog 236 [(.str s_0),(.str oG)] (.bool r):=by
 refine aD.aO (aX.mem (.cons (.str _) (.cons (.str _) .nil))) (aF awl (by simp) (aC ?_)) (.bool _);unfold lY at h;unfold anb;obtain⟨p2,e1,h⟩:=aj h;refine ah ?_;refine av (Ph e1) ?_;cases h;refine ah ?_;exact(.pure _ (.bool _))
def DY (s_0:Str):Option Bool:=
 cond (s_0==([84,82,85,69]:Str)) (some true) (cond (s_0==([70,65,76,83,69]:Str)) (some true) (cond (s_0==([66,79,79,76,69,65,78]:Str)) (some true) (some (s_0==([83,84,82,73,78,71]:Str)))))
theorem PW {s_0:Str} {r:Bool} (h:DY s_0=some r):aD Tryz.prog 241 [(.str s_0)] (.bool r):=by
 refine aD.aO (aX.mem (.cons (.str _) .nil)) (aF awp (by simp) (aC ?_)) (.bool _);unfold DY at h;unfold ang;obtain⟨e1,h⟩|⟨e1,h⟩:=aA h
 ·cases h;refine ah ?_;exact(.pure _ (.bool _))
 ·obtain⟨e2,h⟩|⟨e2,h⟩:=aA h
  ·cases h;refine ah ?_;exact(.pure _ (.bool _))
  ·obtain⟨e3,h⟩|⟨e3,h⟩:=aA h
   ·cases h;refine ah ?_;exact(.pure _ (.bool _))
   ·cases h;refine ah ?_;exact(.pure _ (.bool _))
def O1 (aG:List Nd) (dP:Int) (rQ:List Int):Option Int:=
 if 0<=dP then (aG[dP.toNat]?).bind fun x2=>cond ((x2.args.length:Int)==0) (some dP) ((x2.args[0]?).bind fun x5=>if 0<=x5 then (rQ[x5.toNat]?).bind fun x8=>some x8 else none)else none
theorem aiE {aG:List Nd} {dP:Int} {rQ:List Int} {c0 c2:Ck} {r:Int} (h:O1 aG dP rQ=some r):aD Tryz.prog 178 [(.ak (aG.map Nd.cells) c0),(.int .i64 dP),(.ak (rQ.map aS) c2)] (.int .i64 r):=by
 refine aD.lw (.ak (.same (.ak .nil))) (aD.aO (aX.mem (.cons (aT Nd.pu _) (.cons (.int _ _) (.cons (aT dF _) .nil)))) (aF avS (by simp) (aC ?_)) (.int _ _));unfold O1 at h;unfold amK;obtain⟨e1,h⟩:=aU h;obtain⟨x2,e3,h⟩:=aj h;obtain⟨e4,h⟩|⟨e4,h⟩:=aA h
 ·cases h;refine ah ?_;exact(.pure _ (.int _ _))
 ·obtain⟨x5,e6,h⟩:=aj h;obtain⟨e7,h⟩:=aU h;obtain⟨x8,e9,h⟩:=aj h;cases h;refine ah ?_;exact(.pure _ (.int _ _))
def vk (Kc:Int) (bU:Int):Option Shape:=
 some (Shape.mk (Kc,Kc) (bU,bU) false false)
theorem Es {Kc:Int} {bU:Int} {r:Shape} (h:vk Kc bU=some r):aD Tryz.prog 267 [(.int .i64 Kc),(.int .i64 bU)] (.agg (Shape.cells r)):=by
 refine aD.aO (aX.mem (.cons (.int _ _) (.cons (.int _ _) .nil))) (aF awK (by simp) (aC ?_)) (.agg _ (Shape.pu _));unfold vk at h;unfold anB;cases h;refine ah ?_;exact(bQ (aQ (aQ (aQ (aQ (.cons (.pure _ (.bool _)) (.cons (.pure _ (.bool _)) .nil)))))))
def jo:Nat->(List Str)->(List Str)->Int->Option (Unit⊕Bool)
 |0,_,_,_=>none
 |k+1,a_0,b_1,dI=>
  cond (decide (dI<(a_0.length:Int))) (if 0<=dI then (a_0[dI.toNat]?).bind fun x4=>(b_1[dI.toNat]?).bind fun x6=>cond (x4==x6) (jo k a_0 b_1 (IntKind.wrap .i64 (dI+1))) (some (.inr (false)))else none) (some (.inl ()))
def zw:List Nat:=[4,5]++List.range' 11 15
theorem Pj: ∀(k:Nat) (a_0:List Str) (b_1:List Str) (dI:Int) (aB σ:Nat->PV) (H:AH) (f0:Fr zw aB σ) (sl:σ 0=(.ak (a_0.map aH) .unk)/\σ 1=(.ak (b_1.map aH) .unk)/\σ 5=(.int .i64 dI)) (o:Unit⊕Bool) (h:jo k a_0 b_1 dI=some o) (Q:Post) (q0: ∀(p:Unit) (σ':Nat->PV),o= .inl p->Fr zw aB σ'->Q (.exit 0) σ' H) (q1: ∀(p:Bool) (σ':Nat->PV),o= .inr (p)->Fr zw aB σ'->(σ' 4=(.bool p))->Q .ret σ' H),W Tryz.prog (.loop Q6) Q σ H:=by
 intro k
 induction k with
 |zero=>intro a_0 b_1 dI aB σ H f0 sl o h Q q0 q1;simp only [jo,reduceCtorEq]at h
 |succ k ih=>
  intro a_0 b_1 dI aB σ H f0 sl o h Q q0 q1;obtain⟨s0,s1,s5⟩:=sl;unfold jo at h;refine aW (fun K hK=>aC ?_);unfold Q6;obtain⟨e2,h⟩|⟨e2,h⟩:=aA h
  ·refine ah ?_;refine iJ ?_;obtain⟨e3,h⟩:=aU h;obtain⟨x4,e5,h⟩:=aj h;obtain⟨x6,e7,h⟩:=aj h;obtain⟨e8,h⟩|⟨e8,h⟩:=aA h
   ·refine ah ?_;refine hK _ _ ?_;exact ih a_0 b_1 (IntKind.wrap .i64 (dI+1)) _ _ _ aI au _ h _ q0 q1
   ·cases h;refine ah ?_;exact q1 _ _ rfl aI au
  ·cases h;refine ah ?_;exact q0 _ _ rfl aI
def wN (k:Nat) (a_0:List Str) (b_1:List Str):Option Bool:=
 cond ((a_0.length:Int) !=(b_1.length:Int)) (some false) (Option.bind (jo k a_0 b_1 0) (fun o=>Sum.elim (fun ni=>some true) (fun wD=>some wD) o))
theorem WX {k:Nat} {a_0:List Str} {b_1:List Str} {c0 c1:Ck} {r:Bool} (h:wN k a_0 b_1=some r):aD Tryz.prog 141 [(.ak (a_0.map aH) c0),(.ak (b_1.map aH) c1)] (.bool r):=by
 refine aD.lw (.ak (.ak .nil)) (aD.aO (aX.mem (.cons (aT bE _) (.cons (aT bE _) .nil))) (aF avE (by simp) (aC ?_)) (.bool _));unfold wN at h;unfold amu;obtain⟨e1,h⟩|⟨e1,h⟩:=aA h
 ·cases h;refine ah ?_;exact(.pure _ (.bool _))
 ·refine ah ?_;obtain⟨o9,h10,h⟩:=aj h;refine Pj k a_0 b_1 0 _ _ _ (Fr.refl _ _) au _ h10 _ ?_ ?_
  ·rintro ni σ' eo qC;subst eo;rw [bI]at h;cases h;refine ah ?_;exact(.pure _ (.bool _))
  ·rintro wD σ' eo Ji oW;subst eo;rw [bL]at h;cases h;refine ah ?_;exact(.pure _ (.bool _))
def Uv (bg:Int):Option Int:=
 cond (decide (bg<0)) (some (IntKind.wrap .i64 (0 -bg))) (some bg)
theorem apN {bg:Int} {r:Int} (h:Uv bg=some r):aD Tryz.prog 318 [(.int .i64 bg)] (.int .i64 r):=by
 refine aD.aO (aX.mem (.cons (.int _ _) .nil)) (aF aw1 (by simp) (aC ?_)) (.int _ _);unfold Uv at h;unfold anS;obtain⟨e1,h⟩|⟨e1,h⟩:=aA h
 ·cases h;refine ah ?_;exact(.pure _ (.int _ _))
 ·cases h;refine ah ?_;exact(.pure _ (.int _ _))
def wO:Nat->Int->Str->Option Str
 |0,_,_=>none
 |k+1,bg,Uw=>
  (Uv (bg.tmod 10)).bind fun p2=>if 0<=p2/\p2<=(IntKind.wrap .i64 (p2+1))/\(IntKind.wrap .i64 (p2+1)).toNat<=10 then if((([48,49,50,51,52,53,54,55,56,57]:Str).take (IntKind.wrap .i64 (p2+1)).toNat).drop p2.toNat).length+Uw.length<=4611686018427387904 then cond ((IntKind.wrap .i64 (bg.tdiv 10))==0) (some ((((([48,49,50,51,52,53,54,55,56,57]:Str).take (IntKind.wrap .i64 (p2+1)).toNat).drop p2.toNat)++Uw))) (wO k (IntKind.wrap .i64 (bg.tdiv 10)) (((([48,49,50,51,52,53,54,55,56,57]:Str).take (IntKind.wrap .i64 (p2+1)).toNat).drop p2.toNat)++Uw))else none else none
def Ux:List Nat:=[0,3,5]++List.range' 8 13
theorem adZ: ∀(k:Nat) (bg:Int) (Uw:Str) (aB σ:Nat->PV) (H:AH) (f0:Fr Ux aB σ) (sl:σ 0=(.int .i64 bg)/\σ 3=(.str Uw)) (o:Str) (h:wO k bg Uw=some o) (Q:Post) (q0: ∀(p:Str) (σ':Nat->PV),o=p->Fr Ux aB σ'->(σ' 3=(.str p))->Q (.exit 0) σ' H),W Tryz.prog (.loop SE) Q σ H:=by
 intro k
 induction k with
 |zero=>intro bg Uw aB σ H f0 sl o h Q q0;simp only [wO,reduceCtorEq]at h
 |succ k ih=>
  intro bg Uw aB σ H f0 sl o h Q q0;obtain⟨s0,s3⟩:=sl;unfold wO at h;refine aW (fun K hK=>aC ?_);unfold SE;obtain⟨p2,e1,h⟩:=aj h;refine ah ?_;refine av (apN e1) ?_;obtain⟨e3,h⟩:=aU h;obtain⟨e4,h⟩:=aU h;refine ah ?_;refine TW (arZ e4) ?_;obtain⟨e5,h⟩|⟨e5,h⟩:=aA h
  ·cases h;refine ah ?_;exact q0 _ _ rfl aI au
  ·refine ah ?_;refine hK _ _ ?_;exact ih (IntKind.wrap .i64 (bg.tdiv 10)) (((([48,49,50,51,52,53,54,55,56,57]:Str).take (IntKind.wrap .i64 (p2+1)).toNat).drop p2.toNat)++Uw) _ _ _ aI au _ h _ q0
def Gv (k:Nat) (bg:Int):Option Str:=
 Option.bind (wO k bg ([]:Str)) (fun p8=>cond (decide (bg<0)) (if([45]:Str).length+p8.length<=4611686018427387904 then some (45::p8)else none) (some p8))
theorem akX {k:Nat} {bg:Int} {r:Str} (h:Gv k bg=some r):aD Tryz.prog 281 [(.int .i64 bg)] (.str r):=by
 refine aD.aO (aX.mem (.cons (.int _ _) .nil)) (aF awS (by simp) (aC ?_)) (.str _);unfold Gv at h;unfold anJ;refine ah ?_;obtain⟨o6,h7,h⟩:=aj h;refine adZ k bg ([]:Str) _ _ _ (Fr.refl _ _) au _ h7 _ ?_
 ·rintro p8 σ' eo Im s12;rw [eo]at h;have s13:σ' 4=(.bool (decide (bg<0))):=(Im 4 (by decide)).trans au;obtain⟨e14,h⟩|⟨e14,h⟩:=aA h
  ·obtain⟨e15,h⟩:=aU h;refine ah ?_;refine TW (arZ e15) ?_;cases h;refine ah ?_;exact(.pure _ (.str _))
  ·cases h;refine ah ?_;exact(.pure _ (.str _))
def jK:Nat->(List Int)->(List Int)->Int->Option (Unit⊕Bool)
 |0,_,_,_=>none
 |k+1,a_0,b_1,dI=>
  cond (decide (dI<(a_0.length:Int))) (if 0<=dI then (a_0[dI.toNat]?).bind fun x4=>(b_1[dI.toNat]?).bind fun x6=>cond (x4 !=x6) (some (.inr (false))) (jK k a_0 b_1 (IntKind.wrap .i64 (dI+1)))else none) (some (.inl ()))
def Ba:List Nat:=[4,5]++List.range' 11 15
theorem SS: ∀(k:Nat) (a_0:List Int) (b_1:List Int) (dI:Int) (aB σ:Nat->PV) (H:AH) (f0:Fr Ba aB σ) (sl:σ 0=(.ak (a_0.map aS) .unk)/\σ 1=(.ak (b_1.map aS) .unk)/\σ 5=(.int .i64 dI)) (o:Unit⊕Bool) (h:jK k a_0 b_1 dI=some o) (Q:Post) (q0: ∀(p:Unit) (σ':Nat->PV),o= .inl p->Fr Ba aB σ'->Q (.exit 0) σ' H) (q1: ∀(p:Bool) (σ':Nat->PV),o= .inr (p)->Fr Ba aB σ'->(σ' 4=(.bool p))->Q .ret σ' H),W Tryz.prog (.loop Q7) Q σ H:=by
 intro k
 induction k with
 |zero=>intro a_0 b_1 dI aB σ H f0 sl o h Q q0 q1;simp only [jK,reduceCtorEq]at h
 |succ k ih=>
  intro a_0 b_1 dI aB σ H f0 sl o h Q q0 q1;obtain⟨s0,s1,s5⟩:=sl;unfold jK at h;refine aW (fun K hK=>aC ?_);unfold Q7;obtain⟨e2,h⟩|⟨e2,h⟩:=aA h
  ·refine ah ?_;refine iJ ?_;obtain⟨e3,h⟩:=aU h;obtain⟨x4,e5,h⟩:=aj h;obtain⟨x6,e7,h⟩:=aj h;obtain⟨e8,h⟩|⟨e8,h⟩:=aA h
   ·cases h;refine ah ?_;exact q1 _ _ rfl aI au
   ·refine ah ?_;refine hK _ _ ?_;exact ih a_0 b_1 (IntKind.wrap .i64 (dI+1)) _ _ _ aI au _ h _ q0 q1
  ·cases h;refine ah ?_;exact q0 _ _ rfl aI
def yP (k:Nat) (a_0:List Int) (b_1:List Int):Option Bool:=
 cond ((a_0.length:Int) !=(b_1.length:Int)) (some false) (Option.bind (jK k a_0 b_1 0) (fun o=>Sum.elim (fun ni=>some true) (fun wD=>some wD) o))
theorem Zg {k:Nat} {a_0:List Int} {b_1:List Int} {c0 c1:Ck} {r:Bool} (h:yP k a_0 b_1=some r):aD Tryz.prog 142 [(.ak (a_0.map aS) c0),(.ak (b_1.map aS) c1)] (.bool r):=by
 refine aD.lw (.ak (.ak .nil)) (aD.aO (aX.mem (.cons (aT dF _) (.cons (aT dF _) .nil))) (aF avF (by simp) (aC ?_)) (.bool _));unfold yP at h;unfold amv;obtain⟨e1,h⟩|⟨e1,h⟩:=aA h
 ·cases h;refine ah ?_;exact(.pure _ (.bool _))
 ·refine ah ?_;obtain⟨o9,h10,h⟩:=aj h;refine SS k a_0 b_1 0 _ _ _ (Fr.refl _ _) au _ h10 _ ?_ ?_
  ·rintro ni σ' eo qC;subst eo;rw [bI]at h;cases h;refine ah ?_;exact(.pure _ (.bool _))
  ·rintro wD σ' eo Ji oW;subst eo;rw [bL]at h;cases h;refine ah ?_;exact(.pure _ (.bool _))
def Bb (k:Nat) (a_0:Nd) (b_1:Nd):Option Bool:=
 cond (a_0.kind==b_1.kind) (cond (a_0.n==b_1.n) (cond (a_0.text==b_1.text) ((wN k a_0.names b_1.names).bind fun p5=>cond p5 ((yP k a_0.args b_1.args).bind fun p8=>some p8) (some false)) (some false)) (some false)) (some false)
theorem abJ {k:Nat} {a_0:Nd} {b_1:Nd} {r:Bool} (h:Bb k a_0 b_1=some r):aD Tryz.prog 75 [(.agg (Nd.cells a_0)),(.agg (Nd.cells b_1))] (.bool r):=by
 refine aD.aO (aX.mem (.cons (.agg _ (Nd.pu _)) (.cons (.agg _ (Nd.pu _)) .nil))) (aF azn (by simp) (aC ?_)) (.bool _);unfold Bb at h;unfold arM;obtain⟨e1,h⟩|⟨e1,h⟩:=aA h
 ·obtain⟨e2,h⟩|⟨e2,h⟩:=aA h
  ·obtain⟨e3,h⟩|⟨e3,h⟩:=aA h
   ·obtain⟨p5,e4,h⟩:=aj h;refine ah ?_;refine av (WX e4) ?_;obtain⟨e6,h⟩|⟨e6,h⟩:=aA h
    ·obtain⟨p8,e7,h⟩:=aj h;refine ah ?_;refine av (Zg e7) ?_;cases h;refine ah ?_;exact(.pure _ (.bool _))
    ·cases h;refine ah ?_;exact(.pure _ (.bool _))
   ·cases h;refine ah ?_;exact(.pure _ (.bool _))
  ·cases h;refine ah ?_;exact(.pure _ (.bool _))
 ·cases h;refine ah ?_;exact(.pure _ (.bool _))
def kK:Nat->(List Nd)->(List Nd)->Int->Option (Unit⊕Bool)
 |0,_,_,_=>none
 |k+1,a_0,b_1,dI=>
  cond (decide (dI<(a_0.length:Int))) (if 0<=dI then (a_0[dI.toNat]?).bind fun x4=>(b_1[dI.toNat]?).bind fun x6=>(Bb k x4 x6).bind fun p9=>cond p9 (kK k a_0 b_1 (IntKind.wrap .i64 (dI+1))) (some (.inr (false)))else none) (some (.inl ()))
def CV:List Nat:=[4,5]++List.range' 11 16
theorem Uy: ∀(k:Nat) (a_0:List Nd) (b_1:List Nd) (dI:Int) (aB σ:Nat->PV) (H:AH) (f0:Fr CV aB σ) (sl:σ 0=(.ak (a_0.map Nd.cells) .unk)/\σ 1=(.ak (b_1.map Nd.cells) .unk)/\σ 5=(.int .i64 dI)) (o:Unit⊕Bool) (h:kK k a_0 b_1 dI=some o) (Q:Post) (q0: ∀(p:Unit) (σ':Nat->PV),o= .inl p->Fr CV aB σ'->Q (.exit 0) σ' H) (q1: ∀(p:Bool) (σ':Nat->PV),o= .inr (p)->Fr CV aB σ'->(σ' 4=(.bool p))->Q .ret σ' H),W Tryz.prog (.loop V4) Q σ H:=by
 intro k
 induction k with
 |zero=>intro a_0 b_1 dI aB σ H f0 sl o h Q q0 q1;simp only [kK,reduceCtorEq]at h
 |succ k ih=>
  intro a_0 b_1 dI aB σ H f0 sl o h Q q0 q1;obtain⟨s0,s1,s5⟩:=sl;unfold kK at h;refine aW (fun K hK=>aC ?_);unfold V4;obtain⟨e2,h⟩|⟨e2,h⟩:=aA h
  ·refine ah ?_;refine iJ ?_;obtain⟨e3,h⟩:=aU h;obtain⟨x4,e5,h⟩:=aj h;obtain⟨x6,e7,h⟩:=aj h;obtain⟨p9,e8,h⟩:=aj h;refine ah ?_;refine av (abJ e8) ?_;obtain⟨e10,h⟩|⟨e10,h⟩:=aA h
   ·refine ah ?_;refine hK _ _ ?_;exact ih a_0 b_1 (IntKind.wrap .i64 (dI+1)) _ _ _ aI au _ h _ q0 q1
   ·cases h;refine ah ?_;exact q1 _ _ rfl aI au
  ·cases h;refine ah ?_;exact q0 _ _ rfl aI
def Bc (k:Nat) (a_0:List Nd) (b_1:List Nd):Option Bool:=
 cond ((a_0.length:Int) !=(b_1.length:Int)) (some false) (Option.bind (kK k a_0 b_1 0) (fun o=>Sum.elim (fun wE=>some true) (fun Gi=>some Gi) o))
theorem abK {k:Nat} {a_0:List Nd} {b_1:List Nd} {c0 c1:Ck} {r:Bool} (h:Bc k a_0 b_1=some r):aD Tryz.prog 21 [(.ak (a_0.map Nd.cells) c0),(.ak (b_1.map Nd.cells) c1)] (.bool r):=by
 refine aD.lw (.ak (.ak .nil)) (aD.aO (aX.mem (.cons (aT Nd.pu _) (.cons (aT Nd.pu _) .nil))) (aF aru (by simp) (aC ?_)) (.bool _));unfold Bc at h;unfold ars;obtain⟨e1,h⟩|⟨e1,h⟩:=aA h
 ·cases h;refine ah ?_;exact(.pure _ (.bool _))
 ·refine ah ?_;obtain⟨o11,h12,h⟩:=aj h;refine Uy k a_0 b_1 0 _ _ _ (Fr.refl _ _) au _ h12 _ ?_ ?_
  ·rintro wE σ' eo asb;subst eo;rw [bI]at h;cases h;refine ah ?_;exact(.pure _ (.bool _))
  ·rintro Gi σ' eo vF s21;subst eo;rw [bL]at h;cases h;refine ah ?_;exact(.pure _ (.bool _))
def eD:Nat->(List Str)->(List Str)->Int->Int->Option (Unit⊕Bool)
 |0,_,_,_,_=>none
 |k+1,jD,kR,ji,dR=>
  cond (decide (dR<ji)) (if 0<=dR then (jD[dR.toNat]?).bind fun x4=>(kR[dR.toNat]?).bind fun x6=>cond (x4==x6) (eD k jD kR ji (IntKind.wrap .i64 (dR+1))) (some (.inr (false)))else none) (some (.inl ()))
def pK:List Nat:=[4,5]++List.range' 13 13
theorem Et: ∀(k:Nat) (jD:List Str) (kR:List Str) (ji:Int) (dR:Int) (aB σ:Nat->PV) (H:AH) (f0:Fr pK aB σ) (sl:σ 0=(.ak (jD.map aH) .unk)/\σ 1=(.ak (kR.map aH) .unk)/\σ 12=(.int .i64 ji)/\σ 13=(.int .i64 dR)) (o:Unit⊕Bool) (h:eD k jD kR ji dR=some o) (Q:Post) (q0: ∀(p:Unit) (σ':Nat->PV),o= .inl p->Fr pK aB σ'->Q (.exit 0) σ' H) (q1: ∀(p:Bool) (σ':Nat->PV),o= .inr (p)->Fr pK aB σ'->(σ' 4=(.bool p))->Q .ret σ' H),W Tryz.prog (.loop Si) Q σ H:=by
 intro k
 induction k with
 |zero=>intro jD kR ji dR aB σ H f0 sl o h Q q0 q1;simp only [eD,reduceCtorEq]at h
 |succ k ih=>
  intro jD kR ji dR aB σ H f0 sl o h Q q0 q1;obtain⟨s0,s1,s12,s13⟩:=sl;unfold eD at h;refine aW (fun K hK=>aC ?_);unfold Si;obtain⟨e2,h⟩|⟨e2,h⟩:=aA h
  ·refine ah ?_;refine iJ ?_;obtain⟨e3,h⟩:=aU h;obtain⟨x4,e5,h⟩:=aj h;obtain⟨x6,e7,h⟩:=aj h;obtain⟨e8,h⟩|⟨e8,h⟩:=aA h
   ·refine ah ?_;refine hK _ _ ?_;exact ih jD kR ji (IntKind.wrap .i64 (dR+1)) _ _ _ aI au _ h _ q0 q1
   ·cases h;refine ah ?_;exact q1 _ _ rfl aI au
  ·cases h;refine ah ?_;exact q0 _ _ rfl aI
def kW (k:Nat) (jD:List Str) (kR:List Str):Option Bool:=
 cond ((jD.length:Int) !=(kR.length:Int)) (some false) (Option.bind (eD k jD kR (jD.length:Int) 0) (fun o=>Sum.elim (fun ni=>some true) (fun wD=>some wD) o))
theorem HV {k:Nat} {jD:List Str} {kR:List Str} {c0 c1:Ck} {r:Bool} (h:kW k jD kR=some r):aD Tryz.prog 256 [(.ak (jD.map aH) c0),(.ak (kR.map aH) c1)] (.bool r):=by
 refine aD.lw (.ak (.ak .nil)) (aD.aO (aX.mem (.cons (aT bE _) (.cons (aT bE _) .nil))) (aF awC (by simp) (aC ?_)) (.bool _));unfold kW at h;unfold anr;obtain⟨e1,h⟩|⟨e1,h⟩:=aA h
 ·cases h;refine ah ?_;exact(.pure _ (.bool _))
 ·refine ah ?_;obtain⟨o9,h10,h⟩:=aj h;refine Et k jD kR (jD.length:Int) 0 _ _ _ (Fr.refl _ _) au _ h10 _ ?_ ?_
  ·rintro ni σ' eo qC;subst eo;rw [bI]at h;cases h;refine ah ?_;exact(.pure _ (.bool _))
  ·rintro wD σ' eo Ji oW;subst eo;rw [bL]at h;cases h;refine ah ?_;exact(.pure _ (.bool _))
def gV:Nat->(List Int)->(List Int)->Int->Int->Option (Unit⊕Bool)
 |0,_,_,_,_=>none
 |k+1,jD,kR,ji,dR=>
  cond (decide (dR<ji)) (if 0<=dR then (jD[dR.toNat]?).bind fun x4=>(kR[dR.toNat]?).bind fun x6=>cond (x4 !=x6) (some (.inr (false))) (gV k jD kR ji (IntKind.wrap .i64 (dR+1)))else none) (some (.inl ()))
def vG:List Nat:=[4,5]++List.range' 13 13
theorem Le: ∀(k:Nat) (jD:List Int) (kR:List Int) (ji:Int) (dR:Int) (aB σ:Nat->PV) (H:AH) (f0:Fr vG aB σ) (sl:σ 0=(.ak (jD.map aS) .unk)/\σ 1=(.ak (kR.map aS) .unk)/\σ 12=(.int .i64 ji)/\σ 13=(.int .i64 dR)) (o:Unit⊕Bool) (h:gV k jD kR ji dR=some o) (Q:Post) (q0: ∀(p:Unit) (σ':Nat->PV),o= .inl p->Fr vG aB σ'->Q (.exit 0) σ' H) (q1: ∀(p:Bool) (σ':Nat->PV),o= .inr (p)->Fr vG aB σ'->(σ' 4=(.bool p))->Q .ret σ' H),W Tryz.prog (.loop Sj) Q σ H:=by
 intro k
 induction k with
 |zero=>intro jD kR ji dR aB σ H f0 sl o h Q q0 q1;simp only [gV,reduceCtorEq]at h
 |succ k ih=>
  intro jD kR ji dR aB σ H f0 sl o h Q q0 q1;obtain⟨s0,s1,s12,s13⟩:=sl;unfold gV at h;refine aW (fun K hK=>aC ?_);unfold Sj;obtain⟨e2,h⟩|⟨e2,h⟩:=aA h
  ·refine ah ?_;refine iJ ?_;obtain⟨e3,h⟩:=aU h;obtain⟨x4,e5,h⟩:=aj h;obtain⟨x6,e7,h⟩:=aj h;obtain⟨e8,h⟩|⟨e8,h⟩:=aA h
   ·cases h;refine ah ?_;exact q1 _ _ rfl aI au
   ·refine ah ?_;refine hK _ _ ?_;exact ih jD kR ji (IntKind.wrap .i64 (dR+1)) _ _ _ aI au _ h _ q0 q1
  ·cases h;refine ah ?_;exact q0 _ _ rfl aI
def q8 (k:Nat) (jD:List Int) (kR:List Int):Option Bool:=
 cond ((jD.length:Int) !=(kR.length:Int)) (some false) (Option.bind (gV k jD kR (jD.length:Int) 0) (fun o=>Sum.elim (fun ni=>some true) (fun wD=>some wD) o))
theorem Pk {k:Nat} {jD:List Int} {kR:List Int} {c0 c1:Ck} {r:Bool} (h:q8 k jD kR=some r):aD Tryz.prog 257 [(.ak (jD.map aS) c0),(.ak (kR.map aS) c1)] (.bool r):=by
 refine aD.lw (.ak (.ak .nil)) (aD.aO (aX.mem (.cons (aT dF _) (.cons (aT dF _) .nil))) (aF awD (by simp) (aC ?_)) (.bool _));unfold q8 at h;unfold ant;obtain⟨e1,h⟩|⟨e1,h⟩:=aA h
 ·cases h;refine ah ?_;exact(.pure _ (.bool _))
 ·refine ah ?_;obtain⟨o9,h10,h⟩:=aj h;refine Le k jD kR (jD.length:Int) 0 _ _ _ (Fr.refl _ _) au _ h10 _ ?_ ?_
  ·rintro ni σ' eo qC;subst eo;rw [bI]at h;cases h;refine ah ?_;exact(.pure _ (.bool _))
  ·rintro wD σ' eo Ji oW;subst eo;rw [bL]at h;cases h;refine ah ?_;exact(.pure _ (.bool _))
def Gw (k:Nat) (x_0:Nd) (y_1:Nd):Option Bool:=
 cond (x_0.kind==y_1.kind) (cond (x_0.n==y_1.n) (cond (x_0.text==y_1.text) ((kW k x_0.names y_1.names).bind fun p5=>cond p5 ((q8 k x_0.args y_1.args).bind fun p8=>some p8) (some false)) (some false)) (some false)) (some false)
theorem agy {k:Nat} {x_0:Nd} {y_1:Nd} {r:Bool} (h:Gw k x_0 y_1=some r):aD Tryz.prog 255 [(.agg (Nd.cells x_0)),(.agg (Nd.cells y_1))] (.bool r):=by
 refine aD.aO (aX.mem (.cons (.agg _ (Nd.pu _)) (.cons (.agg _ (Nd.pu _)) .nil))) (aF awz (by simp) (aC ?_)) (.bool _);unfold Gw at h;unfold anq;obtain⟨e1,h⟩|⟨e1,h⟩:=aA h
 ·obtain⟨e2,h⟩|⟨e2,h⟩:=aA h
  ·obtain⟨e3,h⟩|⟨e3,h⟩:=aA h
   ·obtain⟨p5,e4,h⟩:=aj h;refine ah ?_;refine av (HV e4) ?_;obtain⟨e6,h⟩|⟨e6,h⟩:=aA h
    ·obtain⟨p8,e7,h⟩:=aj h;refine ah ?_;refine av (Pk e7) ?_;cases h;refine ah ?_;exact(.pure _ (.bool _))
    ·cases h;refine ah ?_;exact(.pure _ (.bool _))
   ·cases h;refine ah ?_;exact(.pure _ (.bool _))
  ·cases h;refine ah ?_;exact(.pure _ (.bool _))
 ·cases h;refine ah ?_;exact(.pure _ (.bool _))
def Gx (aG:List Nd):Option Nd:=
 if 0<=(IntKind.wrap .i64 ((aG.length:Int) -1))then (aG[(IntKind.wrap .i64 ((aG.length:Int) -1)).toNat]?).bind fun x2=>some x2 else none
theorem abL {aG:List Nd} {c0:Ck} {r:Nd} (h:Gx aG=some r):aD Tryz.prog 72 [(.ak (aG.map Nd.cells) c0)] (.agg (Nd.cells r)):=by
 refine aD.lw (.ak .nil) (aD.aO (aX.mem (.cons (aT Nd.pu _) .nil)) (aF azl (by simp) (aC ?_)) (.agg _ (Nd.pu _)));unfold Gx at h;unfold arK;obtain⟨e1,h⟩:=aU h;obtain⟨x2,e3,h⟩:=aj h;cases h;refine ah ?_;exact(bQ (aQ (aQ (.cons (.pure _ (.str _)) (.cons (dS bE _ _) (.cons (dS dF _ _) .nil))))))
def zR (k:Nat) (bg:Nd):Option Bool:=
 cond (bg.kind==2) ((wC bg.text).bind fun p3=>cond p3 (cond (bg.kind==3) ((uf k bg.text).bind fun p7=>some p7) (some false)) (some true)) (cond (bg.kind==3) ((uf k bg.text).bind fun iM=>some iM) (some false))
theorem Yi {k:Nat} {bg:Nd} {r:Bool} (h:zR k bg=some r):aD Tryz.prog 249 [(.agg (Nd.cells bg))] (.bool r):=by
 refine aD.aO (aX.mem (.cons (.agg _ (Nd.pu _)) .nil)) (aF aww (by simp) (aC ?_)) (.bool _);unfold zR at h;unfold anm;obtain⟨e1,h⟩|⟨e1,h⟩:=aA h
 ·obtain⟨p3,e2,h⟩:=aj h;refine ah ?_;refine av (Jh e2) ?_;obtain⟨e4,h⟩|⟨e4,h⟩:=aA h
  ·obtain⟨e5,h⟩|⟨e5,h⟩:=aA h
   ·obtain⟨p7,e6,h⟩:=aj h;refine ah ?_;refine av (Aw e6) ?_;cases h;refine ah ?_;exact(.pure _ (.bool _))
   ·cases h;refine ah ?_;exact(.pure _ (.bool _))
  ·cases h;refine ah ?_;exact(.pure _ (.bool _))
 ·obtain⟨e8,h⟩|⟨e8,h⟩:=aA h
  ·obtain⟨iM,e9,h⟩:=aj h;refine ah ?_;refine av (Aw e9) ?_;cases h;refine ah ?_;exact(.pure _ (.bool _))
  ·cases h;refine ah ?_;exact(.pure _ (.bool _))
def Lf (lX:Int):Option Bool:=
 cond (lX==6) (some ((lX==6))) (cond (lX==12) (some ((lX==12))) (cond (lX==7) (some ((lX==7))) (cond (lX==8) (some ((lX==8))) (cond (lX==9) (some ((lX==9))) (cond (lX==13) (some ((lX==13))) (cond (lX==10) (some ((lX==10))) (cond (lX==11) (some ((lX==11))) (some ((lX==24))))))))))
def PX:List Nat:=List.range' 7 10
theorem abM: ∀(lX:Int) (aB σ:Nat->PV) (H:AH) (f0:Fr PX aB σ) (sl:σ 6=(.int .i64 lX)) (o:Bool) (h:Lf lX=some o) (Q:Post) (q0: ∀(p:Bool) (σ':Nat->PV),o=p->Fr PX aB σ'->(σ' 7=(.bool p))->Q .normal σ' H),W Tryz.prog Rb Q σ H:=by
 intro lX aB σ H f0 sl o h Q q0;have s6:=sl;unfold Lf at h;refine aC ?_;unfold Rb;obtain⟨e1,h⟩|⟨e1,h⟩:=aA h
 ·cases h;refine ah ?_;exact q0 _ _ rfl aI au
 ·obtain⟨e2,h⟩|⟨e2,h⟩:=aA h
  ·cases h;refine ah ?_;exact q0 _ _ rfl aI au
  ·obtain⟨e3,h⟩|⟨e3,h⟩:=aA h
   ·cases h;refine ah ?_;exact q0 _ _ rfl aI au
   ·obtain⟨e4,h⟩|⟨e4,h⟩:=aA h
    ·cases h;refine ah ?_;exact q0 _ _ rfl aI au
    ·obtain⟨e5,h⟩|⟨e5,h⟩:=aA h
     ·cases h;refine ah ?_;exact q0 _ _ rfl aI au
     ·obtain⟨e6,h⟩|⟨e6,h⟩:=aA h
      ·cases h;refine ah ?_;exact q0 _ _ rfl aI au
      ·obtain⟨e7,h⟩|⟨e7,h⟩:=aA h
       ·cases h;refine ah ?_;exact q0 _ _ rfl aI au
       ·obtain⟨e8,h⟩|⟨e8,h⟩:=aA h
        ·cases h;refine ah ?_;exact q0 _ _ rfl aI au
        ·cases h;refine ah ?_;exact q0 _ _ rfl aI au
def vo (bg:Nd) (qx:Int):Option (List Str):=
 Option.bind (Lf bg.kind) (fun ni=>cond ni (cond (qx==(IntKind.wrap .i64 ((bg.args.length:Int) -1))) (some bg.names) (some [])) (cond (bg.kind==23) (cond (qx==1) (if 1<=bg.names.length then some (bg.names.take 1)else none) (cond (bg.n==1) (some bg.names) (if 1<=bg.names.length then some (bg.names.drop 1)else none))) (some [])))
theorem Yj {bg:Nd} {qx:Int} {r:List Str} (h:vo bg qx=some r):aD Tryz.prog 174 [(.agg (Nd.cells bg)),(.int .i64 qx)] (.ak (r.map aH) .unk):=by
 refine aD.aO (aX.mem (.cons (.agg _ (Nd.pu _)) (.cons (.int _ _) .nil))) (aF avO (by simp) (aC ?_)) (aT bE _);unfold vo at h;unfold amG;refine ah ?_;obtain⟨o9,h10,h⟩:=aj h;refine abM bg.kind _ _ _ (Fr.refl _ _) au _ h10 _ ?_
 ·rintro ni σ' eo qC s15;rw [eo]at h;have s16:σ' 1=(.int .i64 qx):=(qC 1 (by decide)).trans au;have tK:σ' 2=(.ref (AH.empty.next) 0):=(qC 2 (by decide)).trans au;have iX:σ' 6=(.int .i64 bg.kind):=(qC 6 (by decide)).trans au;obtain⟨e19,h⟩|⟨e19,h⟩:=aA h
  ·obtain⟨e20,h⟩|⟨e20,h⟩:=aA h
   ·cases h;refine ah ?_;exact(dS bE _ _)
   ·cases h;refine ah ?_;exact(dS bE [] _)
  ·obtain⟨e21,h⟩|⟨e21,h⟩:=aA h
   ·obtain⟨e22,h⟩|⟨e22,h⟩:=aA h
    ·obtain⟨e23,h⟩:=aU h;cases h;refine ah ?_;exact(dS bE _ _)
    ·obtain⟨e24,h⟩|⟨e24,h⟩:=aA h
     ·cases h;refine ah ?_;exact(dS bE _ _)
     ·obtain⟨e25,h⟩:=aU h;cases h;refine ah ?_;exact(dS bE _ _)
   ·cases h;refine ah ?_;exact(dS bE [] _)
def jL (dR:Int):Option Bool:=
 cond (dR==6) (some ((dR==6))) (cond (dR==12) (some ((dR==12))) (cond (dR==7) (some ((dR==7))) (cond (dR==8) (some ((dR==8))) (cond (dR==9) (some ((dR==9))) (cond (dR==13) (some ((dR==13))) (cond (dR==10) (some ((dR==10))) (cond (dR==11) (some ((dR==11))) (some ((dR==24))))))))))
def PY:List Nat:=List.range' 14 10
theorem Gy: ∀(dR:Int) (aB σ:Nat->PV) (H:AH) (f0:Fr PY aB σ) (sl:σ 13=(.int .i64 dR)) (o:Bool) (h:jL dR=some o) (Q:Post) (q0: ∀(p:Bool) (σ':Nat->PV),o=p->Fr PY aB σ'->(σ' 14=(.bool p))->Q .normal σ' H),W Tryz.prog Sb Q σ H:=by
 intro dR aB σ H f0 sl o h Q q0;have s13:=sl;unfold jL at h;refine aC ?_;unfold Sb;obtain⟨e1,h⟩|⟨e1,h⟩:=aA h
 ·cases h;refine ah ?_;exact q0 _ _ rfl aI au
 ·obtain⟨e2,h⟩|⟨e2,h⟩:=aA h
  ·cases h;refine ah ?_;exact q0 _ _ rfl aI au
  ·obtain⟨e3,h⟩|⟨e3,h⟩:=aA h
   ·cases h;refine ah ?_;exact q0 _ _ rfl aI au
   ·obtain⟨e4,h⟩|⟨e4,h⟩:=aA h
    ·cases h;refine ah ?_;exact q0 _ _ rfl aI au
    ·obtain⟨e5,h⟩|⟨e5,h⟩:=aA h
     ·cases h;refine ah ?_;exact q0 _ _ rfl aI au
     ·obtain⟨e6,h⟩|⟨e6,h⟩:=aA h
      ·cases h;refine ah ?_;exact q0 _ _ rfl aI au
      ·obtain⟨e7,h⟩|⟨e7,h⟩:=aA h
       ·cases h;refine ah ?_;exact q0 _ _ rfl aI au
       ·obtain⟨e8,h⟩|⟨e8,h⟩:=aA h
        ·cases h;refine ah ?_;exact q0 _ _ rfl aI au
        ·cases h;refine ah ?_;exact q0 _ _ rfl aI au
def iq (bg:Nd) (qx:Int):Option (List Str):=
 Option.bind (jL bg.kind) (fun ni=>cond ni (cond (qx==(IntKind.wrap .i64 ((bg.args.length:Int) -1))) (some bg.names) (some [])) (cond (bg.kind==23) (cond (qx==(IntKind.wrap .i64 ((bg.args.length:Int) -1))) (if 1<=bg.names.length then some (bg.names.take 1)else none) (cond (bg.n==1) (some bg.names) (if 1<=bg.names.length then some (bg.names.drop 1)else none))) (some [])))
theorem aiG {bg:Nd} {qx:Int} {r:List Str} (h:iq bg qx=some r):aD Tryz.prog 240 [(.agg (Nd.cells bg)),(.int .i64 qx)] (.ak (r.map aH) .unk):=by
 refine aD.aO (aX.mem (.cons (.agg _ (Nd.pu _)) (.cons (.int _ _) .nil))) (aF agc (by simp) (aC ?_)) (aT bE _);unfold iq at h;unfold ZT;refine ah ?_;obtain⟨o9,h10,h⟩:=aj h;refine Gy bg.kind _ _ _ (Fr.refl _ _) au _ h10 _ ?_
 ·rintro ni σ' eo qC s15;rw [eo]at h;have s16:σ' 2=(.ref (AH.empty.next) 0):=(qC 2 (by decide)).trans au;have tK:σ' 5=(.bool (qx==(IntKind.wrap .i64 ((bg.args.length:Int) -1)))):=(qC 5 (by decide)).trans au;have iX:σ' 13=(.int .i64 bg.kind):=(qC 13 (by decide)).trans au;obtain⟨e19,h⟩|⟨e19,h⟩:=aA h
  ·obtain⟨e20,h⟩|⟨e20,h⟩:=aA h
   ·cases h;refine ah ?_;exact(dS bE _ _)
   ·cases h;refine ah ?_;exact(dS bE [] _)
  ·obtain⟨e21,h⟩|⟨e21,h⟩:=aA h
   ·obtain⟨e22,h⟩|⟨e22,h⟩:=aA h
    ·obtain⟨e23,h⟩:=aU h;cases h;refine ah ?_;exact(dS bE _ _)
    ·obtain⟨e24,h⟩|⟨e24,h⟩:=aA h
     ·cases h;refine ah ?_;exact(dS bE _ _)
     ·obtain⟨e25,h⟩:=aU h;cases h;refine ah ?_;exact(dS bE _ _)
   ·cases h;refine ah ?_;exact(dS bE [] _)
end Go.VL
end
section
namespace Go.VL
open Go.Proofs Go.RowKit
theorem ae2 {H:AH} {id:Nat} {a b:List PV}:(H.put id a).put id b=H.put id b:=by
 unfold AH.put;simp only [AH.mk.injEq,true_and,and_true]
 funext i
 by_cases h:i=id<;>simp [h]
def NA (n:Int):Str:=98::95::Lib.itoa n
def Bd (left:List Str):Nat->Int->Option (Str×Int)
 |0,_=>none
 |k+1,c=>if 0<=c/\c<=9000 then (bV k left (NA (c+1))).bind fun b=>cond b (Bd left k (c+1)) (some (NA (c+1),c+1))else none
theorem abN: ∀(m u:Nat),u<=m->(Lib.decDigits u).length<=u+1
 |0,u,h=>by rw [Lib.decDigits,dif_pos (by omega)];simp
 |m+1,u,h=>by
  rw [Lib.decDigits];split
  · simp
  · have:=abN m (u/10) (by omega);simp;omega
theorem aiH {n:Int} (h:0<=n/\n<=10000):(Lib.itoa n).length<=10001:=by
 unfold Lib.itoa;rw [if_neg (by omega)];have:=abN n.toNat n.toNat (Nat.le_refl _);omega
theorem agz (left:List Str) (o:Nat) (ev:PV): ∀(k:Nat) (c:Int) (s:Str) (c':Int) (σ:Nat->PV) (H:AH) (cl:Ck) (Q:Post),Bd left k c=some (s,c')->σ 0= .ref o 0->H.obj o=some [ev,.ak (left.map aH) cl,.int .i64 c]->
 (∀σ',σ' 2= .str s->Q .ret σ' (H.put o [ev,.ak (left.map aH) cl,.int .i64 c']))->W Tryz.prog (.loop SF) Q σ H:=by
 intro k
 induction k with
 |zero=>intro c s c' σ H cl Q h;cases h
 |succ k ih=>
  intro c s c' σ H cl Q h s0 ho q0;rw [Bd]at h;obtain⟨hc,h⟩:=aU h;obtain⟨b,hb,h⟩:=aj h;have hlen:=aiH (n:=c+1) (by omega);have hw:IntKind.wrap .i64 (c+1)=c+1:=by rw [IntKind.wrap_i64];omega
  have hg:([98,95]:Str).length+(Lib.itoa (c+1)).length<=4611686018427387904:=by simp;omega
  refine aW (fun K hK=>aC ?_);unfold SF;simp -implicitDefEqProofs only [go_sem,dL,s0,ho,hw,Nat.le_refl];refine av (ar2 (c+1) (by omega)) ?_;simp -implicitDefEqProofs only [go_sem,dL,Nat.le_refl];refine TW hg ?_;have Bf:(H.put o [ev,.ak (left.map aH) cl,.int .i64 (c+1)]).obj o=some [ev,.ak (left.map aH) cl,.int .i64 (c+1)]:=by
   show(if o=o then _ else _)=_
   rw [if_pos rfl]
  simp -implicitDefEqProofs only [go_sem,dL,s0,Bf,Nat.le_refl];refine av (gT hb) ?_;obtain⟨e1,h⟩|⟨e1,h⟩:=aA h
  · subst e1;simp -implicitDefEqProofs only [go_sem,dL,Nat.le_refl];refine hK _ _ (ih (c+1) s c' _ _ cl Q h aP Bf fun σ' h2=> ?_);rw [ae2];exact q0 σ' h2
  · subst e1;cases ZU h;simp -implicitDefEqProofs only [go_sem,dL,Nat.le_refl];exact q0 _ (by simp -implicitDefEqProofs only [go_sem];rfl)
theorem agC {left:List Str} {o:Nat} {ev:PV} {k:Nat} {c:Int} {s:Str} {c':Int} {H:AH} {cl:Ck} (h:Bd left k c=some (s,c')) (ho:H.obj o=some [ev,.ak (left.map aH) cl,.int .i64 c]):
 bA Tryz.prog 284 [.ref o 0] H fun v H'=>v= .str s/\H'=H.put o [ev,.ak (left.map aH) cl,.int .i64 c']:=by
 refine aF awV (by simp) (aC ?_);unfold anM;simp -implicitDefEqProofs only [go_sem];refine agz left o ev k c s c' _ H cl _ h aP ho fun σ' h2=> ?_;simp -implicitDefEqProofs only [go_sem,h2,and_self]
end Go.VL
end
section
namespace Go.VL
def Ev {α:Type} (f:Nat->Option α) (v:α):Prop:= ∃K,∀k,K<=k->f k=some v
section
variable {α β:Type} {f:Nat->Option α} {v w:α}
theorem Ev.of_eq {o:Option α} (h:o=some v):Ev (fun _=>o) v:=⟨0,fun _ _=>h⟩
theorem Ev.all (h: ∀k,f k=some v):Ev f v:=⟨0,fun k _=>h k⟩
theorem Ev.some:Ev (fun _=>Option.some v) v:=⟨0,fun _ _=>rfl⟩
theorem Ev.some' (h:w=v):Ev (fun _=>Option.some w) v:=h▸Ev.some
theorem Ev.succ (h:Ev (fun k=>f (k+1)) v):Ev f v:=by
 obtain⟨K,h⟩:=h;refine⟨K+1,fun k hk=> ?_⟩;obtain⟨k,rfl⟩: ∃j,k=j+1:=⟨k -1,by omega⟩;exact h k (by omega)
theorem Ev.bind {f:Nat->Option β} {g:Nat->β->Option α} {x:β} (hf:Ev f x) (hg:Ev (fun k=>g k x) v):Ev (fun k=>Option.bind (f k) (g k)) v:=by
 obtain⟨K,hK⟩:=hf;obtain⟨L,hL⟩:=hg;refine⟨max K L,fun k hk=> ?_⟩;show Option.bind (f k) (g k)=_;rw [hK k (by omega)];exact hL k (by omega)
theorem Ev.nD {o:Option β} {g:Nat->β->Option α} {x:β} (hf:o=Option.some x) (hg:Ev (fun k=>g k x) v):Ev (fun k=>Option.bind o (g k)) v:=Ev.bind (Ev.of_eq hf) hg
theorem Ev.lZ {p:Prop} [Decidable p] {g:Nat->Option α} (hp:p) (hg:Ev g v):Ev (fun k=>if p then g k else none) v:=by
 obtain⟨K,hK⟩:=hg;exact⟨K,fun k hk=>(if_pos hp).trans (hK k hk)⟩
theorem Ev.cT {b:Bool} {g g':Nat->Option α} (hb:b=true) (hg:Ev g v):Ev (fun k=>cond b (g k) (g' k)) v:=by subst hb;exact hg
theorem Ev.cF {b:Bool} {g g':Nat->Option α} (hb:b=false) (hg:Ev g' v):Ev (fun k=>cond b (g k) (g' k)) v:=by subst hb;exact hg
theorem Ev.to (h:Ev f v) (e:v=w):Ev f w:=e▸h
theorem Ev.cg {f g:Nat->Option α} (h:Ev f v) (e: ∀k,g k=f k):Ev g v:=by
 obtain⟨K,hK⟩:=h;exact⟨K,fun k hk=>(e k).trans (hK k hk)⟩
theorem Ev.uniq (h:Ev f v) (h':Ev f w):v=w:=by
 obtain⟨K,hK⟩:=h;obtain⟨L,hL⟩:=h';have a:=hK (max K L) (by omega);have b:=hL (max K L) (by omega);rw [a]at b;exact Option.some.inj b
theorem Ev.get (h:Ev f v): ∃k,f k=Option.some v:=by
 obtain⟨K,hK⟩:=h;exact⟨K,hK K (Nat.le_refl _)⟩
end
theorem wrap64 {x:Int} (h1: -9223372036854775808<=x) (h2:x<=9223372036854775807):IntKind.wrap .i64 x=x:=by rw [IntKind.wrap_i64];omega
theorem bG {α:Type} {l:List α} {i:Nat} (h:i<l.length):l[i]? =some l[i]:=List.getElem?_eq_getElem h
theorem down {p:Nat->Prop} {len:Nat} (h0:p len) (h1: ∀i,i<len->p (i+1)->p i): ∀i,i<=len->p i:=by
 intro i hi;obtain⟨n,rfl⟩: ∃n,len=i+n:=⟨len -i,by omega⟩
 induction n generalizing i with
 |zero=>exact h0
 |succ n ih=>exact h1 i (by omega) (ih (i+1) (by rw [Nat.add_right_comm];exact h0) (by rw [Nat.add_right_comm];exact h1) (by omega))
theorem jM {p:Nat->Prop} {len:Nat} (h0:p len) (h1: ∀i,i<len->p (i+1)->p i):p 0:=down h0 h1 0 (Nat.zero_le _)
theorem dW {i n:Nat} (hi:i<n) (hn:n<=1099511627776):IntKind.wrap .i64 ((i:Int)+1)=((i+1:Nat):Int):=by rw [wrap64 (by omega) (by omega)];omega
theorem iY {i n:Nat} (h:i<n):decide ((i:Int)<(n:Int))=true:=decide_eq_true (by omega)
theorem iT (n:Nat):decide ((n:Int)<(n:Int))=false:=decide_eq_false (by omega)
theorem nn (i:Nat):(0:Int)<=(i:Int):=by omega
theorem abO (b:Bool):Uc b=some (if b=true then 1 else 0):=by cases b<;>rfl
theorem nO (n lo hi:Int):iP n lo hi=some (decide (lo<=n/\n<=hi)):=by
 unfold iP;by_cases h:lo<=n
 · simp [h,ge_iff_le]
 · simp [h,ge_iff_le]
theorem q9 (n lo hi:Int):gP n lo hi=some (decide (lo<=n/\n<=hi)):=by
 unfold gP;by_cases h:lo<=n
 · simp [h]
 · simp [h]
theorem Bg (b:Bool) (c:Int):og b c=some (if b=true then c else 0):=by cases b<;>rfl
theorem Lg {α:Type} {l:List α} {i:Nat} (h:i<l.length) {s:α}:s∈l.drop i↔l[i]=s\/s∈l.drop (i+1):=by
 rw [List.drop_eq_getElem_cons h,List.mem_cons];exact or_congr_left eq_comm
theorem qU (l:List Str) (s:Str) (hl:l.length<=1099511627776):Ev (fun k=>nu k l s) (decide (s∈l)):=by
 have key:Ev (fun k=>kI k l s ((0:Nat):Int)) (if s∈l.drop 0 then .inr true else .inl ()):=by
  refine jM (len:=l.length) (p:=fun i=>Ev (fun k=>kI k l s (i:Int)) (if s∈l.drop i then .inr true else .inl ())) ?_ fun i hi ih=> ?_
  · refine Ev.succ ?_;simp only [kI];refine Ev.cF (iT _) (Ev.some' ?_);simp
  · refine Ev.succ ?_;simp only [kI,Int.toNat_natCast,bG hi,Option.bind_some,nn,if_true,iY hi,cond_true,dW hi hl];by_cases h:l[i]=s
    · refine Ev.cT (by rw [beq_iff_eq];exact h) (Ev.some' ?_);rw [if_pos ((Lg hi).2 (.inl h))]
    · refine Ev.cF (by rw [beq_eq_false_iff_ne];exact h) (ih.to ?_);simp only [Lg hi,h,false_or]
 unfold nu;refine Ev.bind key ?_;rw [List.drop_zero];by_cases h:s∈l
 · simp only [h,if_true,bL,decide_true];exact Ev.some
 · simp only [h,if_false,bI,decide_false];exact Ev.some
theorem ze (l:List Str) (s:Str) (hl:l.length<=1099511627776):Ev (fun k=>bV k l s) (decide (s∈l)):=by
 have key: ∃o:Unit⊕Int,Ev (fun k=>dQ k l s (l.length:Int) ((0:Nat):Int)) o/\((o= .inl ()/\ ¬s∈l.drop 0)\/(∃j:Nat,o= .inr (j:Int))/\s∈l.drop 0):=by
  refine jM (len:=l.length) (p:=fun i=> ∃o:Unit⊕Int,Ev (fun k=>dQ k l s (l.length:Int) (i:Int)) o/\((o= .inl ()/\ ¬s∈l.drop i)\/(∃j:Nat,o= .inr (j:Int))/\s∈l.drop i)) ?_ fun i hi ⟨o,ih,ho⟩=> ?_
  · refine⟨.inl (),Ev.succ ?_,.inl ⟨rfl,by simp⟩⟩;simp only [dQ];exact Ev.cF (iT _) Ev.some
  · by_cases h:l[i]=s
    · refine⟨.inr (i:Int),Ev.succ ?_,.inr ⟨⟨i,rfl⟩,(Lg hi).2 (.inl h)⟩⟩;simp only [dQ,Int.toNat_natCast,bG hi,Option.bind_some,nn,if_true,iY hi,cond_true,dW hi hl];exact Ev.cT (by rw [beq_iff_eq];exact h.symm) Ev.some
    · refine⟨o,Ev.succ ?_,by simp only [Lg hi,h,false_or];exact ho⟩;simp only [dQ,Int.toNat_natCast,bG hi,Option.bind_some,nn,if_true,iY hi,cond_true,dW hi hl];exact Ev.cF (by rw [beq_eq_false_iff_ne];exact fun e=>h e.symm) ih
 obtain⟨o,h1,h2⟩:=key;rw [List.drop_zero]at h2;unfold bV;rcases h2 with⟨rfl,h2⟩|⟨⟨j,rfl⟩,h2⟩
 · refine Ev.bind (x:= -1) (by unfold kV;exact Ev.bind h1 Ev.some) (Ev.some' ?_);simp [h2]
 · refine Ev.bind (x:=(j:Int)) (by unfold kV;exact Ev.bind h1 Ev.some) (Ev.some' ?_);simp [h2]
theorem Uz (a b:List Str) (hl:a.length<=1099511627776):Ev (fun k=>wN k a b) (decide (a=b)):=by
 unfold wN;by_cases hab:a.length=b.length
 · refine Ev.cF (by simp [hab]) ?_;have key:Ev (fun k=>jo k a b ((0:Nat):Int)) (if a.drop 0=b.drop 0 then .inl ()else .inr false):=by
    refine jM (len:=a.length) (p:=fun i=>Ev (fun k=>jo k a b (i:Int)) (if a.drop i=b.drop i then .inl ()else .inr false)) ?_ fun i hi ih=> ?_
    · refine Ev.succ ?_;simp only [jo];refine Ev.cF (iT _) (Ev.some' ?_);simp [hab]
    · have hi':i<b.length:=hab▸hi;refine Ev.succ ?_;simp only [jo,Int.toNat_natCast,bG hi,bG hi',Option.bind_some,nn,if_true,iY hi,cond_true,dW hi hl];by_cases h:a[i]=b[i]
      · refine Ev.cT (by rw [beq_iff_eq];exact h) (ih.to ?_);have:List.drop i a=a[i]::List.drop (i+1) a:=List.drop_eq_getElem_cons hi;have:List.drop i b=b[i]::List.drop (i+1) b:=List.drop_eq_getElem_cons hi';simp only [*,List.cons.injEq,true_and]
      · refine Ev.cF (by rw [beq_eq_false_iff_ne];exact h) (Ev.some' ?_);have e1:List.drop i a=a[i]::List.drop (i+1) a:=List.drop_eq_getElem_cons hi;have e2:List.drop i b=b[i]::List.drop (i+1) b:=List.drop_eq_getElem_cons hi';rw [if_neg];intro e;rw [e1,e2,List.cons.injEq]at e;exact h e.1
   refine Ev.bind key ?_;by_cases h:a=b
   · subst h;simp only [if_true,bI,decide_true];exact Ev.some
   · simp only [List.drop_zero,h,if_false,bL,decide_false];exact Ev.some
 · refine Ev.cT (by simp;omega) (Ev.some' ?_);exact(decide_eq_false fun e=>hab (by rw [e])).symm
def Ke:Operator:=Operator.mk [] 0 0 0 false 0 0
def dZ (l:List Operator) (t:Str):Operator×Bool:=match l with
 |[]=>(Ke,false)
 |o::l=>if o.text=t then(o,true)else dZ l t
def agD (x:Operator):Operator:=Operator.mk x.text x.fix x.low x.high x.left (if x.fix=1 then 2 else 1) (if x.text=[92,88]then 4 else if x.fix=1 then 2 else 1)
theorem Zh (add:List Operator) (hl:add.length<=1000): ∀i,i<=add.length-> ∀out:List Operator,out.length=i->Ev (fun k=>ny k out add (i:Int)) (out++(add.drop i).map agD):=by
 refine down (p:=fun i=> ∀out:List Operator,out.length=i->Ev (fun k=>ny k out add (i:Int)) (out++(add.drop i).map agD)) ?_ fun i hi ih out ho=> ?_
 · intro out ho;refine Ev.succ ?_;simp only [ny];refine Ev.cF (iT _) (Ev.some' ?_);simp
 · refine Ev.succ ?_;simp only [ny,Int.toNat_natCast,bG hi,Option.bind_some,nn,if_true,iY hi,cond_true,dW hi (by omega),abO];have e1:(out.length+1)*64<=1099511627776:=by omega
   have e2:IntKind.wrap .i64 (1+if(add[i].fix==1)=true then 1 else 0)=if add[i].fix=1 then 2 else 1:=by
    by_cases h:add[i].fix=1
    · simp [h];rfl
    · simp [h];rfl
   simp only [if_pos e1,e2];by_cases h:add[i].text=[92,88]
   · refine Ev.cT (by rw [beq_iff_eq];exact h) ((ih _ (by simp [ho])).to ?_);rw [List.drop_eq_getElem_cons hi,List.map_cons,List.append_assoc];simp [agD,h]
   · refine Ev.cF (by rw [beq_eq_false_iff_ne];exact h) ((ih _ (by simp [ho])).to ?_);rw [List.drop_eq_getElem_cons hi,List.map_cons,List.append_assoc];simp [agD,h]
def fU:List Operator:=(FE 60).getD []
theorem agE:Ev (fun k=>FE k) fU:=by
 unfold FE;exact Ev.bind (Zh _ (by simp) 0 (Nat.zero_le _) [] rfl) (Ev.some' (by kernel_rfl))
theorem IE (t:Str):Ev (fun k=>sG k t) (dZ fU t):=by
 have hlen:fU.length≤1099511627776:=by
  have:fU.length=42:=by kernel_rfl
  omega
 have key: ∀(l:List Operator),l.length<=1099511627776->Ev (fun k=>jm k t ([]:Str) 0 0 0 false 0 0 l ((0:Nat):Int)) (match dZ (l.drop 0) t with|(o,true)=> .inr (true,o.text,o.fix,o.low,o.high,o.left,o.least,o.most)|(_,false)=> .inl (([]:Str),0,0,0,false,0,0)):=by
  intro l hl;refine jM (len:=l.length) (p:=fun i=>Ev (fun k=>jm k t ([]:Str) 0 0 0 false 0 0 l (i:Int)) (match dZ (l.drop i) t with|(o,true)=> .inr (true,o.text,o.fix,o.low,o.high,o.left,o.least,o.most)|(_,false)=> .inl (([]:Str),0,0,0,false,0,0))) ?_ fun i hi ih=> ?_
  · refine Ev.succ ?_;simp only [jm];refine Ev.cF (iT _) (Ev.some' ?_);simp [dZ]
  · refine Ev.succ ?_;simp only [jm,Int.toNat_natCast,bG hi,Option.bind_some,nn,if_true,iY hi,cond_true,dW hi hl];have e1:List.drop i l=l[i]::List.drop (i+1) l:=List.drop_eq_getElem_cons hi;by_cases h:l[i].text=t
    · refine Ev.cT (by rw [beq_iff_eq];exact h) (Ev.some' ?_);rw [e1,dZ,if_pos h]
    · refine Ev.cF (by rw [beq_eq_false_iff_ne];exact h) (ih.to ?_);rw [e1,dZ,if_neg h]
 have hk:=key fU hlen;rw [List.drop_zero]at hk;unfold sG;refine Ev.bind agE (Ev.bind hk ?_);have hno: ∀l:List Operator,(dZ l t).2=false->(dZ l t).1=Ke:=by
  intro l
  induction l with
  |nil=>intro _;rfl
  |cons o l ih=>
   intro h;rw [dZ]at h⊢;by_cases e:o.text=t
   · rw [if_pos e]at h;cases h
   · rw [if_neg e]at h⊢;exact ih h
 have:=hno fU;generalize dZ fU t=r at this;obtain⟨o,b⟩:=r;cases b with
 |true=>simp only [bL];exact Ev.some
 |false=>simp only [bI];exact Ev.some' (by rw [show o=Ke from this rfl];rfl)
def isLet (c:UInt8):Bool:=decide (97<=c.toNat/\c.toNat<=122)||decide (65<=c.toNat/\c.toNat<=90)
def EP (c:UInt8):Bool:=decide (48<=c.toNat/\c.toNat<=57)
def qE (c:UInt8):Bool:=isLet c||EP c||decide (c.toNat=95)
def PZ:List Str:=Ar.getD []
theorem Zi:Ar=some PZ:=rfl
theorem ae3:PZ.length=50:=by kernel_rfl
def bName (s:Str):Bool:=decide (1<=s.length/\s.length<=24)&& !decide (s∈PZ)&&s.all qE&&s.any isLet
def sK (s:Str):Bool:=decide (s=[84,82,85,69])||decide (s=[70,65,76,83,69])||decide (s=[66,79,79,76,69,65,78])||decide (s=[83,84,82,73,78,71])
def Yk (s:Str):Bool:=decide (s.take 3=[87,70,95])||decide (s.take 3=[83,70,95])
def rName (s:Str):Bool:=bName s&& !sK s&& !Yk s
def bang:Str->Option (Str×Str)
 |[]=>none
 |c::s=>if c=33 then some ([],s)else(bang s).map fun p=>(c::p.1,p.2)
def jy (s:Str):Bool:=match bang s with
 |some (a,b)=>rName a&&rName b
 |none=>rName s
theorem Zj (c:UInt8):Au (c.toNat:Int)=some (isLet c):=by
 unfold Au isLet;generalize c.toNat=n;by_cases h1:97<=n<;>by_cases h2:n<=122<;>by_cases h3:65<=n<;>by_cases h4:n<=90<;>simp [h1,h2,h3,h4,ge_iff_le,show((97:Int)<=n)=(97<=n) by rw [eq_iff_iff];omega,show((n:Int)<=122)=(n<=122) by rw [eq_iff_iff];omega,show((65:Int)<=n)=(65<=n) by rw [eq_iff_iff];omega,show((n:Int)<=90)=(n<=90) by rw [eq_iff_iff];omega]
theorem abP (c:UInt8):DN (c.toNat:Int)=some (EP c):=by
 unfold DN EP;generalize c.toNat=n;by_cases h1:48<=n<;>by_cases h2:n<=57<;>simp [h1,h2,ge_iff_le,show((48:Int)<=n)=(48<=n) by rw [eq_iff_iff];omega,show((n:Int)<=57)=(n<=57) by rw [eq_iff_iff];omega]
theorem drop_cons {α:Type} {l:List α} {i:Nat} (h:i<l.length):List.drop i l=l[i]::List.drop (i+1) l:=List.drop_eq_getElem_cons h
theorem WY (s:Str) (i:Nat) (h:i<s.length) (t:Bool):yM s (i:Int) t=some (t&& !EP s[i]&& !decide (s[i].toNat=95)):=by
 unfold yM;simp only [Int.toNat_natCast,bG h,Option.bind_some,nn,if_true,abP];cases t
 · rfl
 · cases EP s[i]
   · simp only [cond_true,cond_false,Bool.true_and,Bool.not_false];congr 1;by_cases e:s[i].toNat=95
     · simp [e]
     · simp only [e,decide_false,Bool.not_false,bne_iff_ne,ne_eq];omega
   · rfl
theorem ad2 (s:Str):Ev (fun k=>Gb k s) (bName s):=by
 unfold Gb Dn;simp only [nO,Zi,Option.bind_some];by_cases h1:1<=s.length/\s.length<=24
 · have e1:(decide ((1:Int)<=(s.length:Int)/\(s.length:Int)<=24))=true:=decide_eq_true (by omega);simp only [e1,cond_true];by_cases h2:s∈PZ
   · refine Ev.bind (x:= .inr false) (Ev.bind (qU _ _ (by rw [ae3];omega)) (Ev.cT (decide_eq_true h2) Ev.some)) ?_;simp only [bL];exact Ev.some' (by simp [bName,h2])
   · refine Ev.bind (x:= .inl ()) (Ev.bind (qU _ _ (by rw [ae3];omega)) (Ev.cF (decide_eq_false h2) Ev.some)) ?_;simp only [bI];have hb:s.length<=1099511627776:=by omega
     have key: ∀l:Bool,Ev (fun k=>lK k s l ((0:Nat):Int)) (if(s.drop 0).all qE=true then .inl (l||(s.drop 0).any isLet)else .inr false):=by
      refine jM (len:=s.length) (p:=fun i=> ∀l:Bool,Ev (fun k=>lK k s l (i:Int)) (if(s.drop i).all qE=true then .inl (l||(s.drop i).any isLet)else .inr false)) ?_ fun i hi ih l=> ?_
      · intro l;refine Ev.succ ?_;simp only [lK];refine Ev.cF (iT _) (Ev.some' ?_);simp
      · refine Ev.succ ?_;simp only [lK,Int.toNat_natCast,bG hi,Option.bind_some,nn,if_true,iY hi,cond_true,dW hi hb,Zj,WY s i hi];rw [drop_cons hi];simp only [List.all_cons,List.any_cons];by_cases hc:qE s[i]=true
        · refine Ev.cF ?_ ?_
          · unfold qE at hc;revert hc;cases isLet s[i]<;>cases EP s[i]<;>cases decide (s[i].toNat=95)<;>simp
          · simp only [hc,Bool.true_and];cases l
            · simp only [cond_false,Bool.false_or];exact ih _
            · simp only [cond_true,Bool.true_or];exact(ih true).to (by simp)
        · refine Ev.cT ?_ (Ev.some' ?_)
          · unfold qE at hc;revert hc;cases isLet s[i]<;>cases EP s[i]<;>cases decide (s[i].toNat=95)<;>simp
          · simp [hc]
     refine Ev.bind (key false) ?_;rw [List.drop_zero];by_cases h3:s.all qE=true
     · simp only [h3,if_true,bI];exact Ev.some' (by simp [bName,h1,h2,h3])
     · simp only [h3,bL];exact Ev.some' (by simp [bName,h3])
 · have e1:(decide ((1:Int)<=(s.length:Int)/\(s.length:Int)<=24))=false:=decide_eq_false (by omega);simp only [e1,cond_false,Option.bind_some,bL];exact Ev.some' (by simp [bName,h1])
theorem Kg (a b:Str):(a==b)=decide (a=b):=by
 by_cases h:a=b
 · simp [h]
 · simp [h]
theorem Bh (s:Str):wC s=some (sK s):=by
 unfold wC sK;simp only [Kg];cases decide (s=[84,82,85,69])<;>cases decide (s=[70,65,76,83,69])<;>cases decide (s=[66,79,79,76,69,65,78])<;>rfl
theorem NC (s:Str):DY s=some (sK s):=Bh s
theorem yQ (s:Str):Ev (fun k=>tZ k s) (rName s):=by
 unfold tZ;refine Ev.bind (ad2 s) ?_;simp only [Bh,Option.bind_some,Kg];unfold rName;cases bName s
 · exact Ev.some
 · simp only [cond_true,Bool.true_and];cases sK s
   · simp only [cond_false,Bool.not_false,Bool.true_and];by_cases h:3<=s.length
     · refine Ev.cT (decide_eq_true (by omega)) (Ev.lZ h ?_);unfold Yk;cases decide (s.take 3=[87,70,95])<;>exact Ev.some
     · refine Ev.cF (decide_eq_false (by omega)) (Ev.some' ?_);unfold Yk;have e1: ¬s.take 3=[87,70,95]:=fun e=>h (by have:=congrArg List.length e;rw [List.length_take]at this;simp at this;omega);have e2: ¬s.take 3=[83,70,95]:=fun e=>h (by have:=congrArg List.length e;rw [List.length_take]at this;simp at this;omega);simp [e1,e2]
   · exact Ev.some
theorem aiI (s:Str) (i:Nat) (h:i<s.length):bang (s.drop i)=if s[i]=33 then some ([],s.drop (i+1))else(bang (s.drop (i+1))).map fun p=>(s[i]::p.1,p.2):=by
 rw [drop_cons h,bang]
theorem Dp (s:Str) (hb:s.length<=1099511627776):Ev (fun k=>uf k s) (jy s):=by
 have key: ∃o:Unit⊕Bool,Ev (fun k=>lM k s ((0:Nat):Int)) o/\(match bang (s.drop 0)with|some (a,b)=>o= .inr (rName (s.take 0++a)&&rName b)|none=>o= .inl ()):=by
  refine jM (len:=s.length) (p:=fun i=> ∃o:Unit⊕Bool,Ev (fun k=>lM k s (i:Int)) o/\(match bang (s.drop i)with|some (a,b)=>o= .inr (rName (s.take i++a)&&rName b)|none=>o= .inl ())) ?_ fun i hi ⟨o,ih,ho⟩=> ?_
  · refine⟨.inl (),Ev.succ ?_,by simp [bang]⟩;simp only [lM];exact Ev.cF (iT _) Ev.some
  · rw [aiI s i hi];by_cases h:s[i]=33
    · refine⟨.inr (rName (s.take i)&&rName (s.drop (i+1))),Ev.succ ?_,by simp [h]⟩;simp only [lM,Int.toNat_natCast,bG hi,Option.bind_some,nn,if_true,iY hi,cond_true,dW hi hb,true_and];refine Ev.cT (by rw [h];rfl) (Ev.lZ (by omega) (Ev.bind (yQ _) ?_));cases rName (s.take i)
      · exact Ev.some
      · simp only [cond_true,Bool.true_and];exact Ev.lZ (by omega) (Ev.bind (yQ _) Ev.some)
    · refine⟨o,Ev.succ ?_,?_⟩
      · simp only [lM,Int.toNat_natCast,bG hi,Option.bind_some,nn,if_true,iY hi,cond_true,dW hi hb,true_and];refine Ev.cF ?_ ih;rw [beq_eq_false_iff_ne];intro e;refine h (UInt8.toNat_inj.1 ?_);show s[i].toNat=33;omega
      · rw [if_neg h];revert ho;cases bang (s.drop (i+1))with
        |none=>exact id
        |some p=>
            obtain⟨a,b⟩:=p;simp only [Option.map_some];rw [List.take_succ_eq_append_getElem hi,List.append_assoc];exact id
 obtain⟨o,h1,h2⟩:=key;unfold uf;refine Ev.bind h1 ?_;unfold jy;rw [List.drop_zero]at h2;revert h2;cases bang s with
 |none=>intro h2;subst h2;simp only [bI];exact Ev.bind (yQ s) Ev.some
 |some p=>
  obtain⟨a,b⟩:=p;intro h2;simp only [List.take_zero,List.nil_append]at h2;subst h2;simp only [bL];exact Ev.some
def iy (n lo hi:Int):Bool:=decide (lo<=n/\n<=hi)
def ND (c:UInt8):Bool:=decide (32<=c.toNat/\c.toNat<=126)&& !decide (c.toNat=34)&& !decide (c.toNat=92)
def wP (s:Str):Bool:=decide (s.length<=40)&&s.all ND
theorem abQ (s:Str) (m:Int) (hm:m<=1099511627776):Ev (fun k=>DU k s m) (decide ((s.length:Int)<=m)&&s.all fun c=>decide (32<=c.toNat/\c.toNat<=126)):=by
 unfold DU;by_cases h:(s.length:Int)<=m
 · refine Ev.cF (decide_eq_false (by omega)) ?_;have hb:s.length<=1099511627776:=by omega
   have key:Ev (fun k=>lV k s ((0:Nat):Int)) (if(s.drop 0).all (fun c=>decide (32<=c.toNat/\c.toNat<=126))=true then .inl ()else .inr false):=by
    refine jM (len:=s.length) (p:=fun i=>Ev (fun k=>lV k s (i:Int)) (if(s.drop i).all (fun c=>decide (32<=c.toNat/\c.toNat<=126))=true then .inl ()else .inr false)) ?_ fun i hi ih=> ?_
    · refine Ev.succ ?_;simp only [lV];exact Ev.cF (iT _) (Ev.some' (by simp))
    · refine Ev.succ ?_;simp only [lV,Int.toNat_natCast,bG hi,Option.bind_some,nn,if_true,iY hi,cond_true,dW hi hb];rw [drop_cons hi];simp only [List.all_cons,Bool.and_eq_true,decide_eq_true_eq];by_cases h1:32<=s[i].toNat
      · refine Ev.cF (decide_eq_false (by omega)) ?_;by_cases h2:s[i].toNat<=126
        · refine Ev.cF (decide_eq_false (by omega)) (ih.to ?_);simp only [h1,h2,true_and]
        · refine Ev.cT (decide_eq_true (by omega)) (Ev.some' ?_);simp only [h1,h2,and_false,false_and,if_false]
      · refine Ev.cT (decide_eq_true (by omega)) (Ev.some' ?_);simp only [h1,false_and,if_false]
   refine Ev.bind key ?_;rw [List.drop_zero];by_cases h3:(s.all fun c=>decide (32<=c.toNat/\c.toNat<=126))=true
   · simp only [h3,if_true,bI];exact Ev.some' (by simp [h])
   · simp only [h3,if_false,bL];exact Ev.some' (by simp)
 · refine Ev.cT (decide_eq_true (by omega)) (Ev.some' ?_);simp [h]
theorem agF (s:Str):Ev (fun k=>iK k s) (wP s):=by
 unfold iK;refine Ev.bind (abQ s 40 (by omega)) ?_;by_cases h0:s.length<=40
 · have h0':(s.length:Int)<=40:=by omega
   have hb:s.length<=1099511627776:=by omega
   have key:Ev (fun k=>pF k s ((0:Nat):Int)) (if(s.drop 0).all (fun c=> !decide (c.toNat=34)&& !decide (c.toNat=92))=true then .inl ()else .inr false):=by
    refine jM (len:=s.length) (p:=fun i=>Ev (fun k=>pF k s (i:Int)) (if(s.drop i).all (fun c=> !decide (c.toNat=34)&& !decide (c.toNat=92))=true then .inl ()else .inr false)) ?_ fun i hi ih=> ?_
    · refine Ev.succ ?_;simp only [pF];exact Ev.cF (iT _) (Ev.some' (by simp))
    · refine Ev.succ ?_;simp only [pF,Int.toNat_natCast,bG hi,Option.bind_some,nn,if_true,iY hi,cond_true,dW hi hb];rw [drop_cons hi];simp only [List.all_cons,Bool.and_eq_true,Bool.not_eq_true',decide_eq_false_iff_not];by_cases h1:s[i].toNat=34
      · refine Ev.cT (by rw [h1];rfl) (Ev.some' ?_);simp [h1]
      · refine Ev.cF (by rw [beq_eq_false_iff_ne];omega) ?_;by_cases h2:s[i].toNat=92
        · refine Ev.cT (by rw [h2];rfl) (Ev.some' ?_);simp [h2]
        · refine Ev.cF (by rw [beq_eq_false_iff_ne];omega) (ih.to ?_);simp [h1,h2]
   have hsplit:wP s=((s.all fun c=>decide (32<=c.toNat/\c.toNat<=126))&&s.all fun c=> !decide (c.toNat=34)&& !decide (c.toNat=92)):=by
    unfold wP;rw [decide_eq_true h0,Bool.true_and]
    induction s with
    |nil=>rfl
    |cons c l ih=>
     have: ∀a b c d:Bool,(a&&b&&(c&&d))=(a&&c&&(b&&d)):=by decide
     have e1: ∀l:Str,l.all ND=((l.all fun c=>decide (32<=c.toNat/\c.toNat<=126))&&l.all fun c=> !decide (c.toNat=34)&& !decide (c.toNat=92)):=by
      intro l
      induction l with
      |nil=>rfl
      |cons c l ih=>simp only [List.all_cons,ih,ND,Bool.and_assoc];cases decide (32<=c.toNat/\c.toNat<=126)<;>cases decide (c.toNat=34)<;>cases decide (c.toNat=92)<;>simp
     exact e1 _
   rw [hsplit];simp only [decide_eq_true h0',Bool.true_and];cases(s.all fun c=>decide (32<=c.toNat/\c.toNat<=126))
   · exact Ev.some
   · simp only [cond_true,Bool.true_and];refine Ev.bind key ?_;rw [List.drop_zero];cases h3:(s.all fun c=> !decide (c.toNat=34)&& !decide (c.toNat=92))
     · simp only [Bool.false_eq_true,if_false,bL];exact Ev.some
     · simp only [if_true,bI];exact Ev.some
 · have h0': ¬(s.length:Int)<=40:=by omega
   simp only [decide_eq_false h0',Bool.false_and,cond_false];exact Ev.some' (by simp [wP,h0])
def iA (kind:Int):(Int×Int×Int×Int)×Bool:=(sH kind).getD ((0,0,0,0),false)
theorem agG (kind:Int):sH kind=some (iA kind):=by
 have:(sH kind).isSome=true:=by
  unfold sH ug Ay Az AA AB AJ AL
  repeat' first
   |rfl
   |(generalize(kind==_)=b;cases b<;>simp only [cond_true,cond_false,Option.bind_some])
 unfold iA;cases h:sH kind with
 |none=>rw [h]at this;cases this
 |some v=>rfl
def qV (n:Nd):Bool:=
 let s:=iA n.kind
 let o:=(dZ fU n.text).2&&decide (n.kind=3)
 let lo:=if o=true then 0 else s.1.2.2.1
 let hi:=if o=true then(n.args.length:Int)else s.1.2.2.2
 iy (n.names.length:Int) s.1.1 s.1.2.1&&iy ((n.args.length:Int) -(n.names.length:Int)*(if s.2=true then 1 else 0)) lo hi
def pq (n:Nd):Bool:=
 (decide (n.kind=1)||decide (n.kind=2)||decide (n.kind=3)||decide (n.kind=18)||decide (n.text=[]))&&
 (decide (n.kind=0)||decide (n.kind=23)||decide (n.n=0))&&(!decide (n.kind=23)||iy n.n 0 1)&&(!decide (n.kind=1)||wP n.text)
def sM:List Str->List Str->Bool
 |_,[]=>false
 |acc,s::l=>decide (s∈acc)||sM (acc++[s]) l
def sN (n:Nd):Int:=
 if(n.names.all rName)=false then 7 else
 if n.kind=2 then(if(jy n.text||sK n.text)=true then 0 else 7)else
 if n.kind=18 then(if rName n.text=true then 0 else 7)else
 if n.kind=3 then(if((dZ fU n.text).2||jy n.text)=true then(if((dZ fU n.text).2&& !iy (n.args.length:Int) (dZ fU n.text).1.least (dZ fU n.text).1.most)=true then 17 else 0)else 7)else 0
def dM (pl:Bool) (n:Nd):Int:=
 if iy n.kind 0 28=false then 4 else
 if qV n=false then 6 else
 if(pl&&pq n)=false then 5 else
 if(decide (n.kind=0)&& !iy n.n 0 10000)=true then 3 else
 if sN n≠0 then sN n else
 if sM [] n.names=true then 12 else 0
theorem agH (a b:Int) (c:Str) (l:List Str) (d:List Int) (hl:l.length<=1099511627776):Ev (fun k=>lW k a b c l d ((0:Nat):Int)) (if(l.drop 0).all rName=true then .inl ()else .inr 7):=by
 refine jM (len:=l.length) (p:=fun i=>Ev (fun k=>lW k a b c l d (i:Int)) (if(l.drop i).all rName=true then .inl ()else .inr 7)) ?_ fun i hi ih=> ?_
 · refine Ev.succ ?_;simp only [lW];exact Ev.cF (iT _) (Ev.some' (by simp))
 · refine Ev.succ ?_;simp only [lW,Int.toNat_natCast,bG hi,Option.bind_some,nn,if_true,iY hi,cond_true,dW hi hl];refine Ev.bind (yQ _) ?_;rw [drop_cons hi];simp only [List.all_cons];by_cases hb:rName l[i]=true
   · exact Ev.cT hb (ih.to (by simp only [hb,Bool.true_and]))
   · have hb:rName l[i]=false:=by simpa using hb
     exact Ev.cF hb (Ev.some' (by simp only [hb,Bool.false_and];rfl))
theorem akY (a b:Int) (c:Str) (l:List Str) (d:List Int) (hl:l.length<=1099511627776):Ev (fun k=>ku k a b c l d 1) (if sM [] l=true then .inr 12 else .inl ()):=by
 have key: ∀i,i<=l.length->Ev (fun k=>ku k a b c l d (i:Int)) (if sM (l.take i) (l.drop i)=true then .inr 12 else .inl ()):=by
  refine down ?_ fun i hi ih=> ?_
  · refine Ev.succ ?_;simp only [ku];exact Ev.cF (iT _) (Ev.some' (by simp [sM]))
  · refine Ev.succ ?_;have h2:i<=l.length:=by omega
    simp only [ku,Int.toNat_natCast,bG hi,Option.bind_some,nn,if_true,iY hi,cond_true,dW hi hl,true_and,h2];refine Ev.bind (qU _ _ (by rw [List.length_take];omega)) ?_;rw [drop_cons hi,sM,<-List.take_succ_eq_append_getElem hi];cases decide (l[i]∈l.take i)
    · simp only [cond_false,Bool.false_or];exact ih
    · exact Ev.some
 cases l with
 |nil=>
  refine Ev.succ ?_;simp only [ku];exact Ev.cF (by rfl) Ev.some
 |cons x l=>
  have:=key 1 (by simp);exact this.to (by simp [sM])
theorem abR (e:List Nd) (i:Nat) (n:Nd) (pl:Bool) (hn:e[i]? =some n) (hpl:Ev (fun k=>CQ k e (i:Int)) pl) (h1:n.text.length<=1000000) (h2:n.names.length<=1000000) (h3:n.args.length<=1000000):
 Ev (fun k=>DV k e (i:Int)) (dM pl n):=by
 unfold DV;simp only [Int.toNat_natCast,hn,Option.bind_some,nn,if_true,nO,agG,abO];unfold dM;by_cases hk:iy n.kind 0 28=true
 case neg=>
  refine Ev.to (Ev.cF (by simpa [iy]using hk) Ev.some) (if_pos (by simpa using hk)).symm
 refine Ev.to ?_ (if_neg (by simp [hk])).symm;refine Ev.cT hk ?_
 have hj:Ev (fun k=>wF k n.kind n.n n.text n.names n.args (iA n.kind).1.1 (iA n.kind).1.2.1 (iA n.kind).1.2.2.1 (iA n.kind).1.2.2.2)
  ((iA n.kind).1.1,(iA n.kind).1.2.1,if((dZ fU n.text).2&&decide (n.kind=3))=true then 0 else(iA n.kind).1.2.2.1,if((dZ fU n.text).2&&decide (n.kind=3))=true then(n.args.length:Int)else(iA n.kind).1.2.2.2):=by
  unfold wF AO;refine Ev.bind (IE _) ?_;cases(dZ fU n.text).2
  · exact Ev.some
  · simp only [cond_true,Option.bind_some,Bool.true_and];by_cases h:n.kind=3
    · simp only [h,beq_self_eq_true,cond_true,decide_true,if_true];exact Ev.some
    · rw [show(n.kind==3)=false from beq_eq_false_iff_ne.2 h];simp only [cond_false,h,decide_false,Bool.false_eq_true,if_false];exact Ev.some
 refine Ev.bind hj ?_;have hm:IntKind.wrap .i64 ((n.names.length:Int)*if(iA n.kind).2=true then 1 else 0)=(n.names.length:Int)*if(iA n.kind).2=true then 1 else 0:=by
  split
  · exact wrap64 (by omega) (by omega)
  · exact wrap64 (by omega) (by omega)
 have hm2:IntKind.wrap .i64 ((n.args.length:Int) -((n.names.length:Int)*if(iA n.kind).2=true then 1 else 0))=(n.args.length:Int) -((n.names.length:Int)*if(iA n.kind).2=true then 1 else 0):=by
  split
  · exact wrap64 (by omega) (by omega)
  · exact wrap64 (by omega) (by omega)
 simp only [hm,hm2]
 have hsh: ∀(t:Bool),wG (iA n.kind).1.1 (iA n.kind).1.2.1 (if((dZ fU n.text).2&&decide (n.kind=3))=true then 0 else(iA n.kind).1.2.2.1) (if((dZ fU n.text).2&&decide (n.kind=3))=true then(n.args.length:Int)else(iA n.kind).1.2.2.2)
  ((n.args.length:Int) -((n.names.length:Int)*if(iA n.kind).2=true then 1 else 0)) (!iy (n.names.length:Int) (iA n.kind).1.1 (iA n.kind).1.2.1)=some (!qV n):=by
  intro t;unfold wG qV;simp only [nO,Option.bind_some];cases iy (n.names.length:Int) (iA n.kind).1.1 (iA n.kind).1.2.1
  · rfl
  · simp only [Bool.not_true,cond_false,Bool.true_and];rfl
 have asT:=hsh true;unfold iy at asT;refine Ev.nD asT ?_;cases hs:qV n
 · exact Ev.some
 simp only [Bool.not_true,cond_false,Bool.true_eq_false,if_false];have h3p:wH n.kind n.n n.text n.names n.args (n.kind==1)=some (decide (n.kind=1)||decide (n.kind=2)||decide (n.kind=3)||decide (n.kind=18)):=by
  unfold wH;by_cases a:n.kind=1
  · simp [a]
  by_cases b:n.kind=2
  · simp [b]
  by_cases c:n.kind=3
  · simp [c]
  by_cases d:n.kind=18
  · simp [d]
  simp [a,b,c,d,beq_eq_false_iff_ne.2 a,beq_eq_false_iff_ne.2 b,beq_eq_false_iff_ne.2 c,beq_eq_false_iff_ne.2 d]
 refine Ev.nD h3p (Ev.bind hpl ?_);have h4:Ev (fun k=>wI k n.kind n.n n.text n.names n.args (decide (n.kind=1)||decide (n.kind=2)||decide (n.kind=3)||decide (n.kind=18)) (!pl)) (!(pl&&pq n)):=by
  cases pl
  · exact Ev.some
  unfold wI pq;simp only [Bool.not_true,cond_false,Bool.true_and,nO,Option.bind_some];have hp:Ev (fun k=>(iK k n.text).bind fun p=>some (!p)) (!wP n.text):=Ev.bind (agF _) Ev.some
  have key: ∀T0 T3 T2:Bool,T0=decide (n.n=0)->T2=iy n.n 0 1->
   Ev (fun k=>cond (n.kind !=0) (cond (n.kind !=23) (cond (n.n !=0) (some true) (cond (n.kind==23) (cond (decide (0<=n.n/\n.n<=1)) (cond (n.kind==1) ((iK k n.text).bind fun p=>some (!p)) (some false)) (some true)) (cond (n.kind==1) ((iK k n.text).bind fun p=>some (!p)) (some false))))
    (cond (n.kind==23) (cond (decide (0<=n.n/\n.n<=1)) (cond (n.kind==1) ((iK k n.text).bind fun p=>some (!p)) (some false)) (some true)) (cond (n.kind==1) ((iK k n.text).bind fun p=>some (!p)) (some false))))
    (cond (n.kind==23) (cond (decide (0<=n.n/\n.n<=1)) (cond (n.kind==1) ((iK k n.text).bind fun p=>some (!p)) (some false)) (some true)) (cond (n.kind==1) ((iK k n.text).bind fun p=>some (!p)) (some false))))
   (!((decide (n.kind=0)||decide (n.kind=23)||decide (n.n=0))&&(!decide (n.kind=23)||iy n.n 0 1)&&(!decide (n.kind=1)||wP n.text))):=by
   intro T0 T3 T2 _ _;unfold iy;by_cases a:n.kind=0
   · simp only [a];exact Ev.some
   by_cases b:n.kind=23
   · simp only [b];by_cases c:0<=n.n/\n.n<=1
     · simp only [c,and_self,decide_true];exact Ev.some
     · simp only [c,decide_false];exact Ev.some
   by_cases c:n.n=0
   · by_cases d:n.kind=1
     · simp only [c,d];exact hp
     · simp only [a,b,c,d,bne_iff_ne,beq_eq_false_iff_ne.2 a,beq_eq_false_iff_ne.2 b,beq_eq_false_iff_ne.2 d,bne,Bool.not_false,cond_true,cond_false,decide_false,decide_true];exact Ev.some
   · simp only [a,b,c,beq_eq_false_iff_ne.2 a,beq_eq_false_iff_ne.2 b,beq_eq_false_iff_ne.2 c,bne,Bool.not_false,cond_true,decide_false];exact Ev.some
  have key':=key _ false _ rfl rfl;cases(decide (n.kind=1)||decide (n.kind=2)||decide (n.kind=3)||decide (n.kind=18))
  · simp only [cond_false,Bool.false_or,Kg];cases decide (n.text=[])
    · exact Ev.some
    · simp only [cond_true,Bool.true_and];exact key'
  · simp only [cond_true,Bool.true_or,Bool.true_and];exact key'
 refine Ev.bind h4 ?_;cases hc:(pl&&pq n)
 · exact Ev.some
 simp only [Bool.not_true,cond_false,Bool.true_eq_false,if_false];have h5:wJ n.kind n.n n.text n.names n.args (n.kind==0)=some (decide (n.kind=0)&& !iy n.n 0 10000):=by
  unfold wJ iy;simp only [nO,Option.bind_some];by_cases a:n.kind=0
  · simp only [a,beq_self_eq_true,cond_true,decide_true,Bool.true_and]
  · simp only [a,beq_eq_false_iff_ne.2 a,cond_false,decide_false,Bool.false_and]
 refine Ev.nD h5 ?_;cases h6:(decide (n.kind=0)&& !iy n.n 0 10000)
 case true=>exact Ev.some
 simp only [cond_false,Bool.false_eq_true,if_false];refine Ev.bind (agH _ _ _ n.names _ (by omega)) ?_;rw [List.drop_zero];unfold sN;cases h7:n.names.all rName
 · simp only [Bool.false_eq_true,if_false,bL,if_true];exact Ev.some
 simp only [if_true,bI,Bool.true_eq_false,if_false];refine Ev.bind (IE _) ?_
 have h8: ∀op:Operator,∀is:Bool,Ev (fun k=>wK k n.kind n.n n.text n.names n.args op.text op.fix op.low op.high op.left op.least op.most is)
  (if(if n.kind=2 then(if(jy n.text||sK n.text)=true then(0:Int)else 7)else if n.kind=18 then(if rName n.text=true then 0 else 7)else if n.kind=3 then(if(is||jy n.text)=true then(if(is&& !iy (n.args.length:Int) op.least op.most)=true then 17 else 0)else 7)else 0)=0 then .inl ()else
   .inr (if n.kind=2 then(if(jy n.text||sK n.text)=true then(0:Int)else 7)else if n.kind=18 then(if rName n.text=true then 0 else 7)else if n.kind=3 then(if(is||jy n.text)=true then(if(is&& !iy (n.args.length:Int) op.least op.most)=true then 17 else 0)else 7)else 0)):=by
  intro op is;unfold wK;by_cases a:n.kind=2
  · simp only [a,beq_self_eq_true,cond_true,if_true];refine Ev.bind (Dp _ (by omega)) ?_;cases jy n.text
    · simp only [cond_false,Bh,Option.bind_some,Bool.false_or];cases sK n.text<;>exact Ev.some
    · exact Ev.some
  by_cases b:n.kind=18
  · simp only [b];refine Ev.cF rfl (Ev.cT rfl ?_);refine Ev.bind (yQ _) ?_;cases rName n.text<;>exact Ev.some
  by_cases c:n.kind=3
  · simp only [c];refine Ev.cF rfl (Ev.cF rfl (Ev.cT rfl ?_));unfold AY;cases is
    · simp only [Bool.not_false,cond_true,Bool.false_or];refine Ev.bind (Ev.bind (Dp _ (by omega)) Ev.some) ?_;cases jy n.text<;>exact Ev.some
    · simp only [Bool.not_true,cond_false,Option.bind_some,cond_true,nO,Bool.true_or,if_true,Bool.true_and];unfold iy;cases decide (op.least<=(n.args.length:Int)/\(n.args.length:Int)<=op.most)<;>exact Ev.some
  · simp only [a,b,c,beq_eq_false_iff_ne.2 a,beq_eq_false_iff_ne.2 b,beq_eq_false_iff_ne.2 c,cond_false,if_false,if_true];exact Ev.some
 refine Ev.bind (h8 (dZ fU n.text).1 (dZ fU n.text).2) ?_;generalize hx:(if n.kind=2 then(if(jy n.text||sK n.text)=true then(0:Int)else 7)else if n.kind=18 then(if rName n.text=true then 0 else 7)else if n.kind=3 then(if((dZ fU n.text).2||jy n.text)=true then(if((dZ fU n.text).2&& !iy (n.args.length:Int) (dZ fU n.text).1.least (dZ fU n.text).1.most)=true then 17 else 0)else 7)else 0)=x;by_cases hx0:x=0
 · subst hx0;simp only [if_true,bI,ne_eq,not_true_eq_false,if_false];refine Ev.bind (akY _ _ _ n.names _ (by omega)) ?_;cases sM [] n.names<;>exact Ev.some
 · simp only [hx0,if_false,bL,ne_eq,not_false_eq_true,if_true];exact Ev.some
def zx (acc:List Int) (n:Nd):Int:=match n.args with
 |[]=>acc.length
 |a::_=>acc[a.toNat]?.getD 0
def tL (acc:List Int):Int->List Int->Bool
 |_,[]=>true
 |next,a::l=>decide (a=next -1)&&decide (1<=next)&&tL acc (acc[(next -1).toNat]?.getD 0) l
structure qL (e:List Nd) (i:Nat) (acc:List Int):Prop where
 len:acc.length=i
 le:i<=e.length
 at_: ∀j,j<i-> ∃n b,e[j]? =some n/\acc[j]? =some b/\0<=b/\b<=(j:Int)/\(n.args=[]->b=(j:Int))/\ ∀a l,n.args=a::l->0<=a/\a<(j:Int)/\acc[a.toNat]? =some b
structure pO (e:List Nd):Prop where
 len:e.length<=1000000
 nd: ∀(i:Nat) n,e[i]? =some n->n.text.length<=1000000/\n.names.length<=1000000/\n.args.length<=1000000
theorem qL.rng {e:List Nd} {i:Nat} {acc:List Int} (h:qL e i acc) {j:Nat} {b:Int} (hb:acc[j]? =some b):j<i/\0<=b/\b<=(j:Int):=by
 have hj:j<i:=by have:=(List.getElem?_eq_some_iff.1 hb).1;have:=h.len;omega
 obtain⟨n,b',h1,h2,h3,h4,_⟩:=h.at_ j hj;rw [hb]at h2;cases h2;exact⟨hj,h3,h4⟩
theorem Zk {e:List Nd} {i:Nat} {acc:List Int} (h:qL e i acc) (hi:i<=1000000): ∀(j:Nat) (b:Int),acc[j]? =some b->Ev (fun k=>nA k e (j:Int)) (.inl b):=by
 intro j
 induction j using Nat.strongRecOn with
 |_ j ih=>
  intro b hb;obtain⟨hj,hb0,hb1⟩:=h.rng hb;obtain⟨n,b',h1,h2,_,_,h5,h6⟩:=h.at_ j hj;rw [hb]at h2;cases h2;refine Ev.succ ?_;simp only [nA,Int.toNat_natCast,nn,if_true,h1,Option.bind_some,nO];cases hargs:n.args with
  |nil=>
   refine Ev.cF (by simp) (Ev.some' ?_);rw [h5 hargs]
  |cons a l=>
   obtain⟨h7,h8,h9⟩:=h6 a l hargs;refine Ev.cT (by simp) ?_;simp only [List.getElem?_cons_zero,Option.bind_some];rw [wrap64 (by omega) (by omega)];refine Ev.cT (decide_eq_true (by omega)) ?_;have:=ih a.toNat (by omega) b h9
   rwa [Int.toNat_of_nonneg h7]at this
theorem UA {e:List Nd} {i:Nat} {acc:List Int} (h:qL e i acc) (hi:i<=1000000) {j:Nat} {b:Int} (hb:acc[j]? =some b):Ev (fun k=>vg k e (j:Int)) b:=by
 unfold vg;refine Ev.cF (decide_eq_false (by omega)) (Ev.bind (Zk h hi j b hb) ?_);simp only [bI];exact Ev.some
theorem abS {α:Type} {l:List α} {m:Nat} (h:m<l.length):(l.take (m+1)).reverse=l[m]::(l.take m).reverse:=by
 rw [List.take_succ_eq_append_getElem h,List.reverse_append];rfl
theorem WZ {e:List Nd} {i:Nat} {acc:List Int} (h:qL e i acc) (hi:i<=1000000) {n:Nd} (hn:e[i]? =some n) (hl:n.args.length<=1000000): ∀(m:Nat),m<=n.args.length-> ∀nx:Nat,nx<=i->
 Ev (fun k=>qd k e (i:Int) (nx:Int) ((m:Int) -1)) (if tL acc nx (n.args.take m).reverse=true then .inl ()else .inr false):=by
 intro m
 induction m with
 |zero=>
  intro _ nx hnx;refine Ev.succ ?_;simp only [qd];exact Ev.cF (by rfl) (Ev.some' (by simp [tL]))
 |succ m ih=>
  intro hm nx hnx;have hm':m<n.args.length:=by omega
  refine Ev.succ ?_;have e1:(((m+1:Nat):Int) -1)=(m:Int):=by omega
  simp only [e1,qd,Int.toNat_natCast,nn,if_true,hn,Option.bind_some,bG hm'];rw [abS hm',tL];refine Ev.cT (by simp) ?_;rw [wrap64 (x:=(nx:Int) -1) (by omega) (by omega),wrap64 (x:=(m:Int) -1) (by omega) (by omega)];by_cases h1:n.args[m]=(nx:Int) -1
  · refine Ev.cF (by rw [h1];simp) ?_;by_cases h2:nx<1
    · refine Ev.cT (decide_eq_true (by omega)) (Ev.some' ?_);have: ¬(1:Int)<=nx:=by omega
      simp [this]
    · refine Ev.cF (decide_eq_false (by omega)) ?_;obtain⟨j,rfl⟩: ∃j,nx=j+1:=⟨nx -1,by omega⟩;have e2:(((j+1:Nat):Int) -1)=(j:Int):=by omega
      rw [e2]at h1⊢;obtain⟨n',b,h3,h4,h5,h6,_⟩:=h.at_ j (by omega);refine Ev.bind (UA h hi h4) ?_;obtain⟨b,rfl⟩: ∃b':Nat,b=b':=⟨b.toNat,by omega⟩;refine(ih (by omega) b (by omega)).to ?_;have e3:(1:Int)<=((j+1:Nat):Int):=by omega
      simp only [h1,e3,decide_true,Bool.true_and,Int.toNat_natCast,h4,Option.getD_some]
  · refine Ev.cT (by rw [bne_iff_ne];exact h1) (Ev.some' ?_);simp [h1]
theorem ad3 {e:List Nd} {i:Nat} {acc:List Int} (h:qL e i acc) (hi:i<=1000000) {n:Nd} (hn:e[i]? =some n) (hl:n.args.length<=1000000):Ev (fun k=>CQ k e (i:Int)) (tL acc i n.args.reverse):=by
 unfold CQ;simp only [Int.toNat_natCast,nn,if_true,hn,Option.bind_some];rw [wrap64 (by omega) (by omega)];have:=WZ h hi hn hl n.args.length (Nat.le_refl _) i (Nat.le_refl _);rw [List.take_length]at this;refine Ev.bind this ?_;cases tL acc i n.args.reverse
 · simp only [Bool.false_eq_true,if_false,bL];exact Ev.some
 · simp only [if_true,bI];exact Ev.some
theorem W9 {e:List Nd} {i:Nat} {acc:List Int} (h:qL e i acc): ∀(l:List Int) (nx:Nat),nx<=i->tL acc nx l=true-> ∀a∈l,0<=a/\a<(nx:Int)
 |[],_,_,_,a,ha=>by cases ha
 |a::l,nx,hnx,hp,x,hx=>by
  rw [tL,Bool.and_eq_true,Bool.and_eq_true,decide_eq_true_eq,decide_eq_true_eq]at hp;obtain⟨⟨h1,h2⟩,h3⟩:=hp;rcases List.mem_cons.1 hx with rfl|hx
  · omega
  · obtain⟨j,rfl⟩: ∃j,nx=j+1:=⟨nx -1,by omega⟩;have e2:(((j+1:Nat):Int) -1)=(j:Int):=by omega
    obtain⟨n',b,h4,h5,h6,h7,_⟩:=h.at_ j (by omega);rw [e2,Int.toNat_natCast,h5,Option.getD_some]at h3;obtain⟨b,rfl⟩: ∃b':Nat,b=b':=⟨b.toNat,by omega⟩;have:=W9 h l b (by omega) h3 x hx;omega
theorem qL.zero (e:List Nd):qL e 0 []:=⟨rfl,Nat.zero_le _,fun j hj=>absurd hj (Nat.not_lt_zero _)⟩
theorem qL.succ {e:List Nd} {i:Nat} {acc:List Int} (h:qL e i acc) {n:Nd} (hn:e[i]? =some n) (hp:tL acc i n.args.reverse=true):qL e (i+1) (acc++[zx acc n]):=by
 have hmem:=W9 h _ i (Nat.le_refl _) hp;have hlen:=h.len;refine⟨by simp [hlen],(List.getElem?_eq_some_iff.1 hn).1,fun j hj=> ?_⟩;have old: ∀(m:Nat) (b:Int),acc[m]? =some b->(acc++[zx acc n])[m]? =some b:=fun m b e=>by
  rw [List.getElem?_append_left (List.getElem?_eq_some_iff.1 e).1];exact e
 by_cases hj':j<i
 · obtain⟨n',b,h1,h2,h3,h4,h5,h6⟩:=h.at_ j hj';exact⟨n',b,h1,old _ _ h2,h3,h4,h5,fun a l ha=>⟨(h6 a l ha).1,(h6 a l ha).2.1,old _ _ (h6 a l ha).2.2⟩⟩
 · obtain rfl:j=i:=by omega
   have hnew:(acc++[zx acc n])[j]? =some (zx acc n):=by rw [List.getElem?_append_right (by omega),hlen,Nat.sub_self];rfl
   cases hargs:n.args with
   |nil=>
    have e1:zx acc n=(j:Int):=by unfold zx;rw [hargs];simp [hlen]
    exact⟨n,_,hn,hnew,by omega,by omega,fun _=>e1,fun a l ha=>by rw [hargs]at ha;cases ha⟩
   |cons a l=>
    have ha:=hmem a (by rw [hargs];simp);obtain⟨n',b,h1,h2,h3,h4,h5,h6⟩:=h.at_ a.toNat (by omega);have e1:zx acc n=b:=by unfold zx;rw [hargs];simp only [h2,Option.getD_some]
    rw [e1]at hnew old⊢;refine⟨n,b,hn,hnew,h3,by omega,(fun h=>by rw [hargs]at h;cases h),fun a' l' ha'=> ?_⟩;rw [hargs]at ha';cases ha';exact⟨ha.1,ha.2,old _ _ h2⟩
def oh:List Int->List Nd->List Int⊕(Int×Int)
 |acc,[]=> .inl acc
 |acc,n::l=>if dM (tL acc acc.length n.args.reverse) n≠0 then .inr ((acc.length:Int),dM (tL acc acc.length n.args.reverse) n)else oh (acc++[zx acc n]) l
theorem yR {n:Nd} {pl:Bool} (h:dM pl n=0):pl=true:=by
 cases pl with
 |true=>rfl
 |false=>
  exfalso;unfold dM at h;simp only [Bool.false_and,if_true]at h;split at h
  · cases h
  · split at h<;>cases h
theorem Zl {e:List Nd} (hL:pO e): ∀i,i<=e.length-> ∀acc,qL e i acc->Ev (fun k=>pG k e (i:Int)) (match oh acc (e.drop i)with| .inl _=> .inl ()| .inr r=> .inr r):=by
 have hlen:=hL.len;refine down (fun acc h=> ?_) (fun i hi ih acc h=> ?_)
 · refine Ev.succ ?_;simp only [pG];exact Ev.cF (iT _) (Ev.some' (by simp [oh]))
 · refine Ev.succ ?_;obtain⟨h1,h2,h3⟩:=hL.nd i _ (bG hi);simp only [pG];refine Ev.cT (iY hi) (Ev.bind (abR e i e[i] _ (bG hi) (ad3 h (by omega) (bG hi) h3) h1 h2 h3) ?_);rw [drop_cons hi,oh,h.len];by_cases hc:dM (tL acc i e[i].args.reverse) e[i]=0
   · refine Ev.cF (by rw [hc];rfl) ?_;rw [dW hi (by omega)];refine(ih _ (h.succ (bG hi) (yR hc))).to ?_;simp only [hc,ne_eq,not_true_eq_false,if_false]
   · refine Ev.cT (by rw [bne_iff_ne];exact hc) (Ev.some' ?_);simp only [ne_eq,hc,not_false_eq_true,if_true]
end Go.VL
end
