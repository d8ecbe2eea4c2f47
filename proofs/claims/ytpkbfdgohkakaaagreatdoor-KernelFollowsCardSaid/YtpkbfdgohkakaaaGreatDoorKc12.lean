/- KernelFollows -/
import Derived.Test.YtpkbfdgohkakaaaGreatDoorKc11
import Derived.KernelRfl
set_option linter.unusedVariables false
set_option linter.unusedSectionVars false
set_option linter.unusedSimpArgs false
section
namespace Go.VL
open Tm
abbrev Gj:Fo:=⟨[],[],-1,false⟩
def comps:List Str:=[[61],[60],[60,61],[62],[62,61]]
inductive A9:Tm->Fo->Bool->Prop
 |le {x:Nd} {a b:Tm} {r s:Fo} (hk:x.kind=3) (ht:x.text=[60,61]) (h:fB a r) (h':fB b s):A9 (.mk x [a,b]) (dR s r (-1)) false
 |lt {x:Nd} {a b:Tm} {r s:Fo} (hk:x.kind=3) (ht:x.text=[60]) (h:fB a r) (h':fB b s):A9 (.mk x [a,b]) (dR (dR s r (-1)) Gj 1) false
 |ge {x:Nd} {a b:Tm} {r s:Fo} (hk:x.kind=3) (ht:x.text=[62,61]) (h:fB a r) (h':fB b s):A9 (.mk x [a,b]) (dR r s (-1)) false
 |gt {x:Nd} {a b:Tm} {r s:Fo} (hk:x.kind=3) (ht:x.text=[62]) (h:fB a r) (h':fB b s):A9 (.mk x [a,b]) (dR (dR r s (-1)) Gj 1) false
 |eq {x:Nd} {a b:Tm} {r s:Fo} (hk:x.kind=3) (ht:x.text=[61]) (h:fB a r) (h':fB b s):A9 (.mk x [a,b]) (dR r s (-1)) true
theorem aeP {s:Str} (h:s∈comps):(dL eG s).2=true:=by
 have key:comps.all (fun s=>(dL eG s).2)=true:=by kernel_rfl
 exact List.all_eq_true.1 key s h
theorem aeQ {t:Tm} {f:Fo} {e:Bool} (h:A9 t f e) (hg:Gd (flat 0 t)):Eo f 160:=by
 have key: ∀{x:Nd} {a b:Tm} {r s:Fo},Gd (flat 0 (.mk x [a,b]))->x.kind=3->x.text∈comps->fB a r->fB b s->Eo r a.size/\Eo s b.size/\a.size+b.size<=160:=by
  intro x a b r s hg hk ht h h';obtain⟨ga,gb⟩:=Ve hg hk (aeP ht);have:=(xE hg).1;simp only [size,sizes]at this;exact⟨Bz h ga,Bz h' gb,by omega⟩
 cases h with
 |le hk ht h h'=>obtain⟨k1,k2,k3⟩:=key hg hk (by rw [ht];decide) h h';exact Ac (lG k2 k1) (by omega)
 |lt hk ht h h'=>obtain⟨k1,k2,k3⟩:=key hg hk (by rw [ht];decide) h h';exact Ac (lG (lG k2 k1) (g:=Gj) (b:=0) Am) (by omega)
 |ge hk ht h h'=>obtain⟨k1,k2,k3⟩:=key hg hk (by rw [ht];decide) h h';exact Ac (lG k1 k2) (by omega)
 |gt hk ht h h'=>obtain⟨k1,k2,k3⟩:=key hg hk (by rw [ht];decide) h h';exact Ac (lG (lG k1 k2) (g:=Gj) (b:=0) Am) (by omega)
 |eq hk ht h h'=>obtain⟨k1,k2,k3⟩:=key hg hk (by rw [ht];decide) h h';exact Ac (lG k1 k2) (by omega)
theorem aeR {x:Nd} {l m:List Tm} {c:Tm} (h:Gd (flat 0 (.mk x (l++c::m)))) (hk:x.kind=3): ∃R,Ev (fun k=>ig k (flat 0 c)) R:=by
 by_cases RJ:c.root.kind=24
 · obtain⟨y,ds⟩:=c;have hs:=(xE h).1;simp only [size,dJ,sizes]at hs;have hz:sizes ds<=1000:=by omega
   have hy:y.kind=24:=RJ;have b3:(y.kind==3)=false:=by rw [hy];rfl
   refine⟨⟨[flat 0 (.mk y ds)],[1],0,false⟩,Ev.succ ?_⟩;simp only [ig,BU y ds (by omega),Option.bind_some,iR,xQ,Ip hz,b3,Bool.false_and];exact Ev.cF (by rw [hy];rfl) Ev.some
 · obtain⟨r,_,_,h3⟩:=Ch _ c (Nat.le_refl _) (Xg h hk (.inr RJ));exact⟨_,h3⟩
theorem aeS (a b:Int) (s:Str) (l:List Str) (m:List Int) (t:Bool):Ev (fun k=>qQ k a b s l m t) (t|| !decide (s∈comps)):=by
 unfold qQ;cases t with
 |true=>exact Ev.cT rfl (Ev.some' (by simp))
 |false=>exact Ev.cF rfl (Ev.bind (sP _ _ (by simp)) (Ev.some' (by simp [comps])))
theorem Vi (a b:Int) (s:Str) (l:List Str) (m:List Int) (t:Bool):um a b s l m t=some (t||((m.length:Int) !=2)):=by
 unfold um;cases t<;>rfl
theorem aaz {t:Tm} (hg:Gd (flat 0 t)):(∃f e,A9 t f e/\Ev (fun k=>iN k (flat 0 t)) (⟨f,e⟩,true)/\Ev (fun k=>jE k (flat 0 t)) (nf f,e,true))\/
 (Ev (fun k=>iN k (flat 0 t)) (⟨Ep,false⟩,false)/\Ev (fun k=>jE k (flat 0 t)) (⟨[],[],0,false⟩,false,false)):=by
 obtain⟨x,cs⟩:=t;obtain⟨hs,hnd⟩:=xE hg;have hz:sizes cs<=1000:=by simp only [size]at hs;omega
 obtain⟨hw,hlast⟩:=aeO (x:=x) hz;have hroot:=BU x cs (by omega);have kN:(x.kind !=3|| !decide (x.text∈comps))=true->Ev (fun k=>iN k (flat 0 (.mk x cs))) (⟨Ep,false⟩,false):=by
  intro hb;unfold iN;simp only [hw,Int.toNat_natCast,nn,if_true,hlast,Option.bind_some,iR,xQ,oH];exact Ev.bind ((aeS _ _ _ _ _ _).to hb) (Ev.cT rfl Ev.some)
 by_cases hk:x.kind=3
 case neg=>
  have b3:(x.kind !=3)=true:=by rw [bne_iff_ne];exact hk
  refine .inr ⟨kN (by rw [b3];rfl),?_⟩;unfold jE;simp only [hroot,Option.bind_some,iR,xQ,oH,Vi,b3,Bool.true_or];exact Ev.cT rfl Ev.some
 have b3:(x.kind !=3)=false:=by rw [hk];rfl
 have hal:(nd x 0 cs).args.length=cs.length:=jh 0 cs;by_cases hm:x.text∈comps
 case neg=>
  refine .inr ⟨kN (by rw [b3,decide_eq_false hm];rfl),?_⟩;have hne: ∀s∈comps,(x.text==s)=false:=fun s h=>beq_eq_false_iff_ne.2 fun e=>hm (e▸h);unfold jE;simp only [hroot,Option.bind_some,iR,xQ,oH,Vi,b3,Bool.false_or,hal];by_cases h2:cs.length=2
  case neg=>exact Ev.cT (by rw [bne_iff_ne];omega) Ev.some
  obtain⟨a,b,rfl⟩: ∃a b,cs=[a,b]:=by
   match cs,h2 with
   |[a,b],_=>exact⟨a,b,rfl⟩
  obtain⟨i,j,a1,a2,a3,a4,a5,a6⟩:=aor hg;obtain⟨R,hR⟩:=aeR (l:=[]) (m:=[b]) hg hk;obtain⟨S,hS⟩:=aeR (l:=[a]) (m:=[]) hg hk;refine Ev.cF (by rfl) (Ev.bind a5 (Ev.bind hR (Ev.bind a6 (Ev.bind hS ?_))));exact Ev.cF (hne _ (by decide)) (Ev.cF (hne _ (by decide)) (Ev.cF (hne _ (by decide)) (Ev.cF (hne _ (by decide)) (Ev.cF (hne _ (by decide)) Ev.some))))
 have hop:=aeP hm;have har:=arity hg hk hop;have hm':=hm;simp only [comps,List.mem_cons,List.not_mem_nil,or_false]at hm;have h2: ∃a b,cs=[a,b]:=by
  rcases hm with ht|ht|ht|ht|ht<;>(rw [ht]at har;exact al6 har (by kernel_rfl) (by kernel_rfl))
 obtain⟨a,b,rfl⟩:=h2;obtain⟨ga,gb⟩:=Ve hg hk hop;obtain⟨i,j,a1,a2,a3,a4,a5,a6⟩:=aor hg;obtain⟨r,f1,f2,f3⟩:=Ch _ a (Nat.le_refl _) ga;obtain⟨s,g1,g2,g3⟩:=Ch _ b (Nat.le_refl _) gb;have kr:=Bz f1 ga;have ks:=Bz g1 gb;have ha:=(xE ga).1;have hb:=(xE gb).1;have k1:=lG (t:= -1) ks kr;have k2:=lG (t:= -1) kr ks;have kS: ∀R,Ev (fun k=>cond (x.text==([60,61]:Str)) ((fJ k s r (-1)).bind fun p63=>some ((Co.mk p63 false),true)) (cond (x.text==([60]:Str)) ((fJ k s r (-1)).bind fun p66=>(fJ k p66 (Fo.mk [] [] (-1) false) 1).bind fun p68=>some ((Co.mk p68 false),true)) (cond (x.text==([62,61]:Str)) ((fJ k r s (-1)).bind fun p71=>some ((Co.mk p71 false),true)) (cond (x.text==([62]:Str)) ((fJ k r s (-1)).bind fun p74=>(fJ k p74 (Fo.mk [] [] (-1) false) 1).bind fun p76=>some ((Co.mk p76 false),true)) ((fJ k r s (-1)).bind fun p78=>some ((Co.mk p78 true),true)))))) R->Ev (fun k=>iN k (flat 0 (.mk x [a,b]))) R:=by
  intro R hR;unfold iN;simp only [hw,Int.toNat_natCast,nn,if_true,hlast,Option.bind_some,iR,xQ,oH];exact Ev.bind ((aeS _ _ _ _ _ _).to (by rw [b3,decide_eq_true hm'];rfl)) (Ev.cF rfl (Ev.iK a1 (Ev.bind a3 (Ev.bind f2 (Ev.iK a2 (Ev.bind a4 (Ev.bind g2 hR)))))))
 have qS: ∀R,Ev (fun k=>cond (x.text==([60,61]:Str)) ((fM k (nf s) (nf r) (-1)).bind fun p25=>some (p25,false,true)) (cond (x.text==([60]:Str)) ((fM k (nf s) (nf r) (-1)).bind fun p28=>(fM k p28 (Fq.mk [] [] (-1) false) 1).bind fun p30=>some (p30,false,true)) (cond (x.text==([62,61]:Str)) ((fM k (nf r) (nf s) (-1)).bind fun p33=>some (p33,false,true)) (cond (x.text==([62]:Str)) ((fM k (nf r) (nf s) (-1)).bind fun p36=>(fM k p36 (Fq.mk [] [] (-1) false) 1).bind fun p38=>some (p38,false,true)) (cond (x.text==([61]:Str)) ((fM k (nf r) (nf s) (-1)).bind fun p41=>some (p41,true,true)) (some ((Fq.mk [] [] 0 false),false,false))))))) R->Ev (fun k=>jE k (flat 0 (.mk x [a,b]))) R:=by
  intro R hR;unfold jE;simp only [hroot,Option.bind_some,iR,xQ,oH,Vi,b3,Bool.false_or,hal];exact Ev.cF (by rfl) (Ev.bind a5 (Ev.bind f3 (Ev.bind a6 (Ev.bind g3 hR))))
 rcases hm with ht|ht|ht|ht|ht
 · rw [ht]at kS qS
   exact .inl ⟨_,_,.eq hk ht f1 g1,kS _ (Ev.cF (by decide) (Ev.cF (by decide) (Ev.cF (by decide) (Ev.cF (by decide) (Ev.bind (jN kr ks (by omega) (by omega)) Ev.some))))),
    qS _ (Ev.cF (by decide) (Ev.cF (by decide) (Ev.cF (by decide) (Ev.cF (by decide) (Ev.cT (by decide) (Ev.bind (jO kr ks (by omega) (by omega)) Ev.some))))))⟩
 · rw [ht]at kS qS
   exact .inl ⟨_,_,.lt hk ht f1 g1,kS _ (Ev.cF (by decide) (Ev.cT (by decide) (Ev.bind (jN ks kr (by omega) (by omega)) (Ev.bind (jN k1 (g:=Gj) (b:=0) Am (by omega) (by omega)) Ev.some)))),
    qS _ (Ev.cF (by decide) (Ev.cT (by decide) (Ev.bind (jO ks kr (by omega) (by omega)) (Ev.bind (jO k1 (g:=Gj) (b:=0) Am (by omega) (by omega)) Ev.some))))⟩
 · rw [ht]at kS qS;exact .inl ⟨_,_,.le hk ht f1 g1,kS _ (Ev.cT (by decide) (Ev.bind (jN ks kr (by omega) (by omega)) Ev.some)),qS _ (Ev.cT (by decide) (Ev.bind (jO ks kr (by omega) (by omega)) Ev.some))⟩
 · rw [ht]at kS qS
   exact .inl ⟨_,_,.gt hk ht f1 g1,kS _ (Ev.cF (by decide) (Ev.cF (by decide) (Ev.cF (by decide) (Ev.cT (by decide) (Ev.bind (jN kr ks (by omega) (by omega)) (Ev.bind (jN k2 (g:=Gj) (b:=0) Am (by omega) (by omega)) Ev.some)))))),
    qS _ (Ev.cF (by decide) (Ev.cF (by decide) (Ev.cF (by decide) (Ev.cT (by decide) (Ev.bind (jO kr ks (by omega) (by omega)) (Ev.bind (jO k2 (g:=Gj) (b:=0) Am (by omega) (by omega)) Ev.some))))))⟩
 · rw [ht]at kS qS;exact .inl ⟨_,_,.ge hk ht f1 g1,kS _ (Ev.cF (by decide) (Ev.cF (by decide) (Ev.cT (by decide) (Ev.bind (jN kr ks (by omega) (by omega)) Ev.some)))),qS _ (Ev.cF (by decide) (Ev.cF (by decide) (Ev.cT (by decide) (Ev.bind (jO kr ks (by omega) (by omega)) Ev.some))))⟩
end Go.VL
end
section
namespace Go.VL
open Tm
inductive FL:List Tm->List Int->Fo->Bool->Fo->Bool->Prop
 |nil {S:Fo} {e:Bool}:FL [] [] S e S e
 |cons {t:Tm} {ts:List Tm} {n:Int} {ns:List Int} {f S S':Fo} {q e e':Bool} (hc:A9 t f q) (hp:q=true\/0<=n) (h1: -10000<=n) (h2:n<=10000) (h:FL ts ns (dR S f n) (e&&q) S' e'):FL (t::ts) (n::ns) S e S' e'
inductive azN (ts:List Tm) (ns:List Int) (g:Tm):Prop
 |fls {S:Fo} {e:Bool} (hs:FL ts ns Ep true S e) (hg:g.root.kind=2/\g.root.text=[70,65,76,83,69]) (hn:isNum S=true) (hl:S.num<0)
 |eqn {S f:Fo} {e:Bool} (hs:FL ts ns Ep true S e) (hc:A9 g f true) (he:e=true) (hn:isNum (dR S f (-1))=true) (hl:(dR S f (-1)).num=0)
 |cmp {S f:Fo} {e:Bool} (hs:FL ts ns Ep true S e) (hc:A9 g f false) (hn:isNum (dR S (dR Gj f (-1)) 1)=true) (hl:(dR S (dR Gj f (-1)) 1).num<0)
theorem aeT (n:Int):k_in n (-10000) 10000=some (decide (-10000<=n)&&decide (n<=10000)):=by
 unfold k_in;by_cases h:n>= -10000
 · rw [decide_eq_true h,cond_true,Bool.true_and]
 · rw [decide_eq_false h,cond_false,Bool.false_and]
theorem Ou (n:Int):dP n (-10000) 10000=some (decide (-10000<=n)&&decide (n<=10000)):=by
 unfold dP;by_cases h:n>= -10000
 · rw [decide_eq_true h,cond_true,Bool.true_and]
 · rw [decide_eq_false h,cond_false,Bool.false_and]
def QY (n:Int) (e is:Bool):Bool:= !is||(!e&&decide (n<0))|| !(decide (-10000<=n)&&decide (n<=10000))
theorem Vj {ns:List Int} {i:Nat} {n:Int} (hn:ns[i]? =some n) (a:List (List Nd)) (b:List Int) (c:Int) (d e is:Bool):vK ns (i:Int) a b c d e (!is)=some (QY n e is):=by
 unfold vK QY;cases is with
 |false=>rfl
 |true=>
  simp only [Bool.not_true,cond_false,nn,if_true,Int.toNat_natCast,hn,Option.bind_some,aeT];cases(decide (-10000<=n)&&decide (n<=10000))with
  |false=>simp
  |true=>cases e<;>simp
theorem Vk {ns:List Int} {i:Nat} {n:Int} (hn:ns[i]? =some n) (e is:Bool):vL ns (i:Int) e (!is)=some (QY n e is):=by
 unfold vL QY;cases is with
 |false=>rfl
 |true=>
  simp only [Bool.not_true,cond_false,nn,if_true,Int.toNat_natCast,hn,Option.bind_some,Ou];cases e with
  |true=>simp
  |false=>
   cases hd:decide (n<0)with
   |true=>simp
   |false=>simp
theorem al7 {ns:List Int} {ts:List Tm} (hg: ∀t∈ts,Gd (flat 0 t)) (hl:ts.length<=14) (hn:ns.length=ts.length):
 (∃S e,FL ts ns Ep true S e/\Eo S 2240/\Ev (fun k=>fK k ns [] [] 0 false true (ts.map (flat 0)) ((ts.map (flat 0)).length:Int) 0) (.inl (e,S.us,S.cs,S.num,S.bad))/\Ev (fun k=>fO k (ts.map (flat 0)) ns [] [] 0 false true 0) (.inl (e,(nf S).us,(nf S).cs,(nf S).num,(nf S).wide)))\/
 (∃z z',Ev (fun k=>fK k ns [] [] 0 false true (ts.map (flat 0)) ((ts.map (flat 0)).length:Int) 0) (.inr (false,z))/\Ev (fun k=>fO k (ts.map (flat 0)) ns [] [] 0 false true 0) (.inr (false,z'))):=by
 have hlen:(ts.map (flat 0)).length=ts.length:=List.length_map ..
 have key:=gF (len:=ts.length) (p:=fun i=> ∀(S:Fo) (e:Bool),Eo S (160*i)->
  (∃S' e',FL (ts.drop i) (ns.drop i) S e S' e'/\Eo S' 2240/\Ev (fun k=>fK k ns S.us S.cs S.num S.bad e (ts.map (flat 0)) ((ts.map (flat 0)).length:Int) (i:Int)) (.inl (e',S'.us,S'.cs,S'.num,S'.bad))/\Ev (fun k=>fO k (ts.map (flat 0)) ns (nf S).us (nf S).cs (nf S).num (nf S).wide e (i:Int)) (.inl (e',(nf S').us,(nf S').cs,(nf S').num,(nf S').wide)))\/
  (∃z z',Ev (fun k=>fK k ns S.us S.cs S.num S.bad e (ts.map (flat 0)) ((ts.map (flat 0)).length:Int) (i:Int)) (.inr (false,z))/\Ev (fun k=>fO k (ts.map (flat 0)) ns (nf S).us (nf S).cs (nf S).num (nf S).wide e (i:Int)) (.inr (false,z'))))
  (fun S e hS=> .inl ⟨S,e,by rw [List.drop_length,List.drop_of_length_le (by omega)];exact .nil,Ac hS (by omega),Ev.succ (by
   simp only [fK,hlen];exact Ev.cF (fT _) Ev.some),Ev.succ (by simp only [fO,hlen];exact Ev.cF (fT _) Ev.some)⟩) fun i hi ih S e hS=>by
  have hni:i<ns.length:=by omega
  have hti:(ts.map (flat 0))[i]? =some (flat 0 ts[i]):=by rw [List.getElem?_map,aW hi];rfl
  have hgi:=hg _ (List.getElem_mem hi);have hw:=dw hi (show ts.length<=1099511627776 by omega)
  have ks: ∀R,Ev (fun k=>(iN k (flat 0 ts[i])).bind fun p6=>Option.bind (vK ns (i:Int) p6.1.form.us p6.1.form.cs p6.1.form.num p6.1.form.bad p6.1.eq (!p6.2)) (fun I5=>cond I5 (some (.inr ((false,S.us,S.cs,S.num,S.bad)))) (cond e ((fJ k (Fo.mk S.us S.cs S.num S.bad) p6.1.form ns[i]).bind fun p35=>fK k ns p35.us p35.cs p35.num p35.bad p6.1.eq (ts.map (flat 0)) (ts.length:Int) ((i+1:Nat):Int)) ((fJ k (Fo.mk S.us S.cs S.num S.bad) p6.1.form ns[i]).bind fun p39=>fK k ns p39.us p39.cs p39.num p39.bad false (ts.map (flat 0)) (ts.length:Int) ((i+1:Nat):Int))))) R->
   Ev (fun k=>fK k ns S.us S.cs S.num S.bad e (ts.map (flat 0)) ((ts.map (flat 0)).length:Int) (i:Int)) R:=by
   intro R hR;refine Ev.succ ?_;simp only [fK,hlen,nn,if_true,Int.toNat_natCast,hti,aW hni,Option.bind_some,gP hi,cond_true,hw];exact hR
  have qs: ∀R,Ev (fun k=>(jE k (flat 0 ts[i])).bind fun p6=>Option.bind (vL ns (i:Int) p6.2.1 (!p6.2.2)) (fun rP=>cond rP (some (.inr ((false,(nf S).us,(nf S).cs,(nf S).num,(nf S).wide)))) (cond e ((fM k (Fq.mk (nf S).us (nf S).cs (nf S).num (nf S).wide) p6.1 ns[i]).bind fun p39=>fO k (ts.map (flat 0)) ns p39.us p39.cs p39.num p39.wide p6.2.1 ((i+1:Nat):Int)) ((fM k (Fq.mk (nf S).us (nf S).cs (nf S).num (nf S).wide) p6.1 ns[i]).bind fun p43=>fO k (ts.map (flat 0)) ns p43.us p43.cs p43.num p43.wide false ((i+1:Nat):Int))))) R->
   Ev (fun k=>fO k (ts.map (flat 0)) ns (nf S).us (nf S).cs (nf S).num (nf S).wide e (i:Int)) R:=by
   intro R hR;refine Ev.succ ?_;simp only [fO,hlen,nn,if_true,Int.toNat_natCast,hti,aW hni,Option.bind_some,gP hi,cond_true,hw];exact hR
  rcases aaz hgi with⟨f,q,c1,c2,c3⟩|⟨c2,c3⟩
  case inr=>
   refine .inr ⟨_,_,ks _ (Ev.bind c2 (Ev.iK (Vj (aW hni) _ _ _ _ _ _) (Ev.cT rfl Ev.some))),qs _ (Ev.bind c3 (Ev.iK (Vk (aW hni) _ _) (Ev.cT rfl Ev.some)))⟩
  have kf:=aeQ c1 hgi;cases hr:QY ns[i] q true with
  |true=>
   exact .inr ⟨_,_,ks _ (Ev.bind c2 (Ev.iK (Vj (aW hni) _ _ _ _ _ _) (Ev.cT hr Ev.some))),qs _ (Ev.bind c3 (Ev.iK (Vk (aW hni) _ _) (Ev.cT hr Ev.some)))⟩
  |false=>
   have hr':=hr;unfold QY at hr';simp only [Bool.not_true,Bool.false_or,Bool.or_eq_false_iff,Bool.and_eq_false_iff,Bool.not_eq_false',Bool.and_eq_true,decide_eq_true_eq,decide_eq_false_iff_not]at hr';have pk:=jN (t:=ns[i]) hS kf (by omega) (by omega);have pq:=jO (t:=ns[i]) hS kf (by omega) (by omega);have hS':Eo (dR S f ns[i]) (160*(i+1)):=Ac (lG hS kf) (by omega);have hdr: ∀S' e',FL (ts.drop (i+1)) (ns.drop (i+1)) (dR S f ns[i]) (e&&q) S' e'->FL (ts.drop i) (ns.drop i) S e S' e':=by
    intro S' e' h;rw [drop_cons hi,drop_cons hni];exact .cons c1 (hr'.1.elim (fun h=> .inl h) fun h=> .inr (by omega)) hr'.2.1 hr'.2.2 h
   have kk: ∀R,Ev (fun k=>fK k ns (dR S f ns[i]).us (dR S f ns[i]).cs (dR S f ns[i]).num (dR S f ns[i]).bad (e&&q) (ts.map (flat 0)) ((ts.map (flat 0)).length:Int) ((i+1:Nat):Int)) R->Ev (fun k=>fK k ns S.us S.cs S.num S.bad e (ts.map (flat 0)) ((ts.map (flat 0)).length:Int) (i:Int)) R:=by
    intro R hR;rw [hlen]at hR;refine ks _ (Ev.bind c2 (Ev.iK (Vj (aW hni) _ _ _ _ _ _) (Ev.cF hr ?_)));cases e with
    |true=>rw [Bool.true_and]at hR;exact Ev.cT rfl (Ev.bind pk hR)
    |false=>rw [Bool.false_and]at hR;exact Ev.cF rfl (Ev.bind pk hR)
   have qq: ∀R,Ev (fun k=>fO k (ts.map (flat 0)) ns (nf (dR S f ns[i])).us (nf (dR S f ns[i])).cs (nf (dR S f ns[i])).num (nf (dR S f ns[i])).wide (e&&q) ((i+1:Nat):Int)) R->Ev (fun k=>fO k (ts.map (flat 0)) ns (nf S).us (nf S).cs (nf S).num (nf S).wide e (i:Int)) R:=by
    intro R hR;refine qs _ (Ev.bind c3 (Ev.iK (Vk (aW hni) _ _) (Ev.cF hr ?_)));cases e with
    |true=>rw [Bool.true_and]at hR;exact Ev.cT rfl (Ev.bind pq hR)
    |false=>rw [Bool.false_and]at hR;exact Ev.cF rfl (Ev.bind pq hR)
   rcases ih (dR S f ns[i]) (e&&q) hS' with⟨S',e',h1,h2,h3,h4⟩|⟨z,z',h3,h4⟩
   · exact .inl ⟨S',e',hdr _ _ h1,h2,kk _ h3,qq _ h4⟩
   · exact .inr ⟨z,z',kk _ h3,qq _ h4⟩
 have:=key Ep true Am;rw [List.drop_zero,List.drop_zero]at this;exact this
theorem Xv {f:Fo} (hn:f.cs.length<=1099511627776):Ev (fun k=>Ad k f) (isNum f&&decide (f.num<0)):=by
 unfold Ad;refine Ev.bind (Bn hn) ?_;cases isNum f with
 |true=>exact Ev.cT rfl (Ev.some' (by simp))
 |false=>exact Ev.cF rfl (Ev.some' (by simp))
theorem aeU {f:Fo} (h:isNum f=true):(nf f).num=f.num:=by
 unfold isNum at h;rw [Bool.and_eq_true,Bool.not_eq_true']at h;rw [Zl h.1]
theorem aeV {ns:List Int} {ts:List Tm} {g:Tm} (hg: ∀t∈ts,Gd (flat 0 t)) (hl:ts.length<=14) (hn:ns.length=ts.length) (hgg:Gd (flat 0 g)):
 ∃b,Ev (fun k=>rF k (ts.map (flat 0)) ns (flat 0 g)) b/\Ev (fun k=>vZ k (ts.map (flat 0)) ns (flat 0 g)) b/\(b=true->azN ts ns g):=by
 rcases al7 hg hl hn with⟨S,e,s1,s2,s3,s4⟩|⟨z,z',s3,s4⟩
 case inr=>
  refine⟨false,?_,?_,fun h=>by cases h⟩
  · unfold rF;exact Ev.bind s3 Ev.some
  · unfold vZ;exact Ev.bind s4 Ev.some
 have sl:=s2.len;have sl2:=s2.le;obtain⟨x,cs⟩:=g;obtain⟨hs,hnd⟩:=xE hgg;have hz:sizes cs<=1000:=by simp only [size]at hs;omega
 obtain⟨hw,hlast⟩:=aeO (x:=x) hz;have aCB:JD (flat 0 (.mk x cs)) [70,65,76,83,69]=some (x.kind==2&&x.text==[70,65,76,83,69]):=by
  unfold JD Qu;simp only [hw,nn,if_true,Int.toNat_natCast,hlast,Option.bind_some,iR,oH];cases(x.kind==2)<;>rfl
 have aCC: ∃b,Ce (flat 0 (.mk x cs))=some b/\b=(x.kind==2&&x.text==[70,65,76,83,69]):=by
  have hl:(flat 0 (.mk x cs)).length=sizes cs+1:=by rw [bG];simp only [size]
  unfold Ce;cases cs with
  |nil=>
   rw [wX (by rw [hl];rfl)];have:(flat 0 (.mk x []))[0]? =some (nd x 0 []):=hlast;rw [this,Option.bind_some,iR,oH];cases(x.kind==2)
   · exact⟨_,rfl,rfl⟩
   · exact⟨_,rfl,rfl⟩
  |cons c cs=>
   have hp:=c.size_pos;rw [pI (by rw [hl,beq_eq_false_iff_ne];simp only [sizes];omega)];refine⟨_,rfl,?_⟩;cases hb:(x.kind==2)with
   |false=>rfl
   |true=>
    exfalso;have hk:x.kind=2:=by simpa using hb
    have h0:=hgg.val.ok _ _ hlast;unfold bV at h0;split at h0
    · exact absurd h0 (by decide)
    split at h0
    · exact absurd h0 (by decide)
    rename_i hsh;apply hsh;unfold qo;have hal:(nd x 0 (c::cs)).args.length=(c::cs).length:=jh 0 _;rw [hal,iR,oH,hk];have e1:decide ((2:Int)=3)=false:=by decide
    simp only [e1,Bool.and_false,Bool.false_eq_true,if_false];have e2:iW 2=((0,0,0,0),false):=by kernel_rfl
    rw [e2,Bool.and_eq_false_iff];right;unfold gY;simp only [Bool.false_eq_true,if_false,Int.mul_zero,Int.sub_zero,List.length_cons];exact decide_eq_false (fun h=>by omega)
 obtain⟨bq,qn,rfl⟩:=aCC;have kS: ∀R,Ev (fun k=>cond (x.kind==2&&x.text==[70,65,76,83,69]) ((Ad k S).bind fun p57=>some p57) ((iN k (flat 0 (.mk x cs))).bind fun p59=>cond p59.2 (cond p59.1.eq ((fJ k S p59.1.form (-1)).bind fun p63=>cond e ((mh k p63).bind fun p66=>cond p66 (some (p63.num==0)) (some false)) (some false)) ((fJ k (Fo.mk [] [] (-1) false) p59.1.form (-1)).bind fun p69=>(fJ k S p69 1).bind fun p71=>(Ad k p71).bind fun p73=>some p73)) (some false))) R->Ev (fun k=>rF k (ts.map (flat 0)) ns (flat 0 (.mk x cs))) R:=by
  intro R hR;unfold rF;refine Ev.bind s3 ?_;simp only [Sum.elim_inl,aCB,Option.bind_some];exact hR
 have qS: ∀R,Ev (fun k=>cond (x.kind==2&&x.text==[70,65,76,83,69]) ((jW k (nf S)).bind fun p63=>Option.bind (zw (nf S).us (nf S).cs (nf S).num (nf S).wide p63) (fun p67=>some p67)) ((jE k (flat 0 (.mk x cs))).bind fun p73=>cond p73.2.2 (cond p73.2.1 ((fM k (nf S) p73.1 (-1)).bind fun Ey=>Option.bind (zx k Ey.us Ey.cs Ey.num Ey.wide e) (fun Rj=>some Rj)) ((fM k (Fq.mk [] [] (-1) false) p73.1 (-1)).bind fun Rk=>(fM k (nf S) Rk 1).bind fun N7=>(jW k N7).bind fun NP=>cond NP (some (decide (N7.num<0))) (some false))) (some false))) R->Ev (fun k=>vZ k (ts.map (flat 0)) ns (flat 0 (.mk x cs))) R:=by
  intro R hR;unfold vZ;refine Ev.bind s4 ?_;simp only [Sum.elim_inl,qn,Option.bind_some];exact hR
 cases hf:(x.kind==2&&x.text==[70,65,76,83,69])with
 |true=>
  rw [hf]at kS qS;refine⟨isNum S&&decide (S.num<0),kS _ (Ev.cT rfl (Ev.bind (Xv (by omega)) Ev.some)),qS _ (Ev.cT rfl (Ev.bind (xD (by omega)) ?_)),fun hb=> ?_⟩
  · unfold zw;cases hN:isNum S with
    |true=>exact Ev.some' (by rw [aeU hN];simp)
    |false=>exact Ev.some' (by simp)
  · rw [Bool.and_eq_true,decide_eq_true_eq]at hb;rw [Bool.and_eq_true,beq_iff_eq,beq_iff_eq]at hf;exact .fls s1 hf hb.1 hb.2
 |false=>
  rw [hf]at kS qS;rcases aaz hgg with⟨f,q,c1,c2,c3⟩|⟨c2,c3⟩
  case inr=>exact⟨false,kS _ (Ev.cF rfl (Ev.bind c2 (Ev.cF rfl Ev.some))),qS _ (Ev.cF rfl (Ev.bind c3 (Ev.cF rfl Ev.some))),fun h=>by cases h⟩
  have kf:=aeQ c1 hgg;cases q with
  |true=>
   have pk:=jN (t:= -1) s2 kf (by omega) (by omega);have pq:=jO (t:= -1) s2 kf (by omega) (by omega);have kp:=lG (t:= -1) s2 kf;have kl:=kp.len;have kl2:=kp.le;refine⟨e&&(isNum (dR S f (-1))&&((dR S f (-1)).num==0)),kS _ (Ev.cF rfl (Ev.bind c2 (Ev.cT rfl (Ev.cT rfl (Ev.bind pk ?_))))),qS _ (Ev.cF rfl (Ev.bind c3 (Ev.cT rfl (Ev.cT rfl (Ev.bind pq ?_))))),fun hb=> ?_⟩
   · cases e with
     |false=>exact Ev.cF rfl (Ev.some' (by simp))
     |true=>
      refine Ev.cT rfl (Ev.bind (Bn (by omega)) ?_);cases isNum (dR S f (-1))with
      |true=>exact Ev.cT rfl (Ev.some' (by simp))
      |false=>exact Ev.cF rfl (Ev.some' (by simp))
   · unfold zx;cases e with
     |false=>exact Ev.bind (Ev.cF rfl Ev.some) (Ev.some' (by simp))
     |true=>
      refine Ev.bind (Ev.cT rfl (Ev.bind (xD (f:=dR S f (-1)) (by omega)) ?_)) Ev.some;cases hN:isNum (dR S f (-1))with
      |true=>exact Ev.cT rfl (Ev.some' (by rw [aeU hN];simp))
      |false=>exact Ev.cF rfl (Ev.some' (by simp))
   · rw [Bool.and_eq_true,Bool.and_eq_true,beq_iff_eq]at hb;exact .eqn s1 c1 hb.1 hb.2.1 hb.2.2
  |false=>
   have pk1:=jN (f:=Gj) (t:= -1) (a:=0) Am kf (by omega) (by omega);have pq1:=jO (f:=Gj) (t:= -1) (a:=0) Am kf (by omega) (by omega);have kp1:Eo (dR Gj f (-1)) 160:=Ac (lG (f:=Gj) (t:= -1) (a:=0) Am kf) (by omega);have pk:=jN (t:=1) s2 kp1 (by omega) (by omega);have pq:=jO (t:=1) s2 kp1 (by omega) (by omega);have kp:=lG (t:=1) s2 kp1;have kl:=kp.len;have kl2:=kp.le;refine⟨isNum (dR S (dR Gj f (-1)) 1)&&decide ((dR S (dR Gj f (-1)) 1).num<0),kS _ (Ev.cF rfl (Ev.bind c2 (Ev.cT rfl (Ev.cF rfl (Ev.bind pk1 (Ev.bind pk (Ev.bind (Xv (by omega)) Ev.some))))))),qS _ (Ev.cF rfl (Ev.bind c3 (Ev.cT rfl (Ev.cF rfl (Ev.bind pq1 (Ev.bind pq (Ev.bind (xD (by omega)) ?_))))))),fun hb=> ?_⟩
   · cases hN:isNum (dR S (dR Gj f (-1)) 1)with
     |true=>exact Ev.cT rfl (Ev.some' (by rw [aeU hN];simp))
     |false=>exact Ev.cF rfl (Ev.some' (by simp))
   · rw [Bool.and_eq_true,decide_eq_true_eq]at hb;exact .cmp s1 c1 hb.1 hb.2
end Go.VL
end
section
namespace Go.VL
open Tm
def uo:List Int->Int
 |[]=>0
 |x::l=>if x=0 then uo l else x
theorem FM (l:List Int) (hn:l.length<=1000):Ev (fun k=>BA k l) (uo l):=by
 have key:=gF (len:=l.length) (p:=fun i=> ∃o:Unit⊕Int,Ev (fun k=>rG k l (l.length:Int) (i:Int)) o/\Sum.elim (fun _=>(0:Int)) id o=uo (l.drop i)) ⟨.inl (),Ev.succ (by
  simp only [rG];exact Ev.cF (fT _) Ev.some),by rw [List.drop_length];rfl⟩ fun i hi ih=>by
  rw [drop_cons hi,uo];by_cases h0:l[i]=0
  · obtain⟨o,h1,h2⟩:=ih;refine⟨o,Ev.succ ?_,by rw [if_pos h0];exact h2⟩;simp only [rG,Int.toNat_natCast,aW hi,Option.bind_some,nn,if_true,gP hi,cond_true,dw hi (show l.length<=1099511627776 by omega)];exact Ev.cF (by rw [h0];rfl) h1
  · refine⟨.inr l[i],Ev.succ ?_,by rw [if_neg h0];rfl⟩;simp only [rG,Int.toNat_natCast,aW hi,Option.bind_some,nn,if_true,gP hi,cond_true];exact Ev.cT (by rw [bne_iff_ne];exact h0) Ev.some
 obtain⟨o,h1,h2⟩:=key;rw [List.drop_zero]at h2;unfold BA;refine Ev.bind h1 ?_;rw [<-h2];cases o<;>exact Ev.some
theorem Ba (b:Bool) (e:Int):uP b e=some (if b=true then 0 else e):=by unfold uP;cases b<;>rfl
def rng (n:Int):Bool:=decide (-10000<=n)&&decide (n<=10000)
theorem al8 (l:List Int) (hn:l.length<=1000):Ev (fun k=>lH k l) (!l.all rng):=by
 have key:=gF (len:=l.length) (p:=fun i=> ∃o:Unit⊕Int,Ev (fun k=>ji k l (l.length:Int) (i:Int)) o/\((∃u,o= .inl u)/\(l.drop i).all rng=true\/ ∃j:Int,0<=j/\o= .inr j/\(l.drop i).all rng=false)) ⟨.inl (),Ev.succ (by
  simp only [ji];exact Ev.cF (fT _) Ev.some),.inl ⟨⟨_,rfl⟩,by simp⟩⟩ fun i hi ih=>by
  have hb:xB l[i]=some (!rng l[i]):=by unfold xB;rw [aeT];rfl
  cases hc:rng l[i]with
  |false=>
   refine⟨.inr (i:Int),Ev.succ ?_,.inr ⟨i,by omega,rfl,by rw [drop_cons hi,List.all_cons,hc,Bool.false_and]⟩⟩;simp only [ji,Int.toNat_natCast,aW hi,Option.bind_some,nn,if_true,gP hi,cond_true,hb,hc];exact Ev.cT rfl Ev.some
  |true=>
   obtain⟨o,ho,hd⟩:=ih;refine⟨o,Ev.succ ?_,by rw [drop_cons hi,List.all_cons,hc,Bool.true_and];exact hd⟩;simp only [ji,Int.toNat_natCast,aW hi,Option.bind_some,nn,if_true,gP hi,cond_true,hb,hc,dw hi (show l.length<=1099511627776 by omega)];exact Ev.cF rfl ho
 obtain⟨o,ho,h⟩:=key;rw [List.drop_zero]at h;unfold lH wT;rcases h with⟨⟨u,rfl⟩,h⟩|⟨i,h0,rfl,h⟩
 · rw [h];exact Ev.bind (Ev.bind ho Ev.some) Ev.some
 · rw [h];exact Ev.bind (Ev.bind ho Ev.some) (Ev.some' (by simp [h0]))
theorem aos (l:List Int) (hn:l.length<=1000):Ev (fun k=>jX k l 0) (if l.all rng=true then .inl ()else .inr 3):=by
 have key:=gF (len:=l.length) (p:=fun i=>Ev (fun k=>jX k l (i:Int)) (if(l.drop i).all rng=true then .inl ()else .inr 3)) (Ev.succ (by
  simp only [jX];exact Ev.cF (fT _) (Ev.some' (by simp)))) fun i hi ih=>by
  refine Ev.succ ?_;simp only [jX,Int.toNat_natCast,aW hi,Option.bind_some,nn,if_true,gP hi,cond_true,Ou,dw hi (show l.length<=1099511627776 by omega)];rw [drop_cons hi,List.all_cons];have hr:(decide (-10000<=l[i])&&decide (l[i]<=10000))=rng l[i]:=rfl;rw [hr];cases rng l[i]with
  |true=>exact Ev.cT rfl (ih.to (by rw [Bool.true_and]))
  |false=>exact Ev.cF rfl (Ev.some' (by simp))
 have:=key
 rwa [List.drop_zero]at this
theorem al9 {l:List (List Nd)} (hf: ∀x∈l,nX x=true) (hn:l.length<=1000):(Ev (fun k=>fZ k l (l.length:Int) 0) (.inl ())/\Ev (fun k=>fu k l 0) (.inl ())/\ ∀x∈l,Gd x)\/
 ∃c:Int,c≠0/\Ev (fun k=>fZ k l (l.length:Int) 0) (.inr (false,c))/\Ev (fun k=>fu k l 0) (.inr c):=by
 have key:=gF (len:=l.length) (p:=fun i=>(Ev (fun k=>fZ k l (l.length:Int) (i:Int)) (.inl ())/\Ev (fun k=>fu k l (i:Int)) (.inl ())/\ ∀x∈l.drop i,Gd x)\/
  ∃c:Int,c≠0/\Ev (fun k=>fZ k l (l.length:Int) (i:Int)) (.inr (false,c))/\Ev (fun k=>fu k l (i:Int)) (.inr c)) (.inl ⟨Ev.succ (by
   simp only [fZ];exact Ev.cF (fT _) Ev.some),Ev.succ (by simp only [fu];exact Ev.cF (fT _) Ev.some),by simp⟩) fun i hi ih=>by
  obtain⟨c,e1,e2,e3⟩:=alO (hf _ (List.getElem_mem hi));have hw:=dw hi (show l.length<=1099511627776 by omega);by_cases h0:c=0
  · have ks: ∀R,Ev (fun k=>fZ k l (l.length:Int) ((i+1:Nat):Int)) R->Ev (fun k=>fZ k l (l.length:Int) (i:Int)) R:=fun R hR=>Ev.succ (by
     simp only [fZ,Int.toNat_natCast,aW hi,Option.bind_some,nn,if_true,gP hi,cond_true,hw];exact Ev.bind e1 (Ev.cF (by rw [h0];rfl) hR))
    have qs: ∀R,Ev (fun k=>fu k l ((i+1:Nat):Int)) R->Ev (fun k=>fu k l (i:Int)) R:=fun R hR=>Ev.succ (by
     simp only [fu,Int.toNat_natCast,aW hi,Option.bind_some,nn,if_true,gP hi,cond_true,hw];exact Ev.bind e2 (Ev.cF (by rw [h0];rfl) hR))
    rcases ih with⟨i1,i2,i3⟩|⟨c',i0,i1,i2⟩
    · refine .inl ⟨ks _ i1,qs _ i2,fun x hx=> ?_⟩;rw [drop_cons hi]at hx;rcases List.mem_cons.1 hx with rfl|hx
      · exact e3 h0
      · exact i3 x hx
    · exact .inr ⟨c',i0,ks _ i1,qs _ i2⟩
  · refine .inr ⟨c,h0,Ev.succ ?_,Ev.succ ?_⟩
    · simp only [fZ,Int.toNat_natCast,aW hi,Option.bind_some,nn,if_true,gP hi,cond_true,hw];exact Ev.bind e1 (Ev.cT (by rw [bne_iff_ne];exact h0) Ev.some)
    · simp only [fu,Int.toNat_natCast,aW hi,Option.bind_some,nn,if_true,gP hi,cond_true,hw];exact Ev.bind e2 (Ev.cT (by rw [bne_iff_ne];exact h0) Ev.some)
 have:=key
 rwa [List.drop_zero]at this
theorem aeW: ∀{l:List (List Nd)},(∀x∈l,Gd x)-> ∃ts:List Tm,l=ts.map (flat 0)
 |[],_=>⟨[],rfl⟩
 |x::l,h=>by
  obtain⟨t,ht⟩:=(h x (List.mem_cons_self ..)).val.tree;obtain⟨ts,hts⟩:=aeW fun y hy=>h y (List.mem_cons_of_mem _ hy);exact⟨t::ts,by rw [List.map_cons,<-ht,<-hts]⟩
theorem fby {l:List (List Nd)} {ns:List Int} {g:List Nd} (hf: ∀x∈l,nX x=true) (hfg:nX g=true) (hl:l.length<=14) (hn:ns.length<=14):
 (∃d:Int,d≠0/\Ev (fun k=>kH k l ns g) (false,d)/\Ev (fun k=>lX k l ns g) d)\/
 ∃b:Bool,Ev (fun k=>kH k l ns g) (b,0)/\Ev (fun k=>lX k l ns g) 0/\Ev (fun k=>vZ k l ns g) b/\ ∃ts t,l=ts.map (flat 0)/\g=flat 0 t/\(∀t∈ts,Gd (flat 0 t))/\Gd g/\(b=true->azN ts ns t):=by
 by_cases h0:l.length=0
 · refine .inl ⟨1,by decide,?_,?_⟩
   · unfold kH;simp only [Ba,Option.bind_some];refine Ev.bind (FM _ (by simp)) (Ev.cT ?_ (Ev.some' ?_))
     · simp [h0,uo]
     · simp [h0,uo]
   · unfold lX;exact Ev.cT (by rw [h0];rfl) Ev.some
 have hq0:((l.length:Int)==0)=false:=beq_eq_false_iff_ne.2 (by omega);by_cases h12:12<l.length
 · refine .inl ⟨2,by decide,?_,?_⟩
   · unfold kH;simp only [Ba,Option.bind_some];have e1:decide ((l.length:Int)>0)=true:=decide_eq_true (by omega);have e2:decide ((l.length:Int)<=12)=false:=decide_eq_false (by omega);refine Ev.bind (FM _ (by simp)) (Ev.cT ?_ (Ev.some' ?_))
     · rw [e1,e2];rfl
     · rw [e1,e2];rfl
   · unfold lX;exact Ev.cF hq0 (Ev.cT (decide_eq_true (by omega)) Ev.some)
 have kS: ∀R,Ev (fun k=>Option.bind (fZ k l (l.length:Int) 0) (fun o=>Sum.elim (fun I5=>(lH k ns).bind fun p25=>(uP ((ns.length:Int)==(l.length:Int)) 6).bind fun p27=>(uP (!p25) 3).bind fun p29=>(BX k g).bind fun p31=>(BA k [p27,p29,p31]).bind fun p33=>cond (p33 !=0) (some (false,p33)) ((rF k l ns g).bind fun p36=>some (p36,0))) (fun p37=>some (p37.1,p37.2)) o)) R->Ev (fun k=>kH k l ns g) R:=by
  intro R hR;unfold kH;simp only [Ba ((decide ((l.length:Int)>0))),Ba (decide ((l.length:Int)<=12)),Option.bind_some];have e1:decide ((l.length:Int)>0)=true:=decide_eq_true (by omega);have e2:decide ((l.length:Int)<=12)=true:=decide_eq_true (by omega);refine Ev.bind (FM _ (by simp)) (Ev.cF ?_ hR);rw [e1,e2];rfl
 have qS: ∀R,Ev (fun k=>Option.bind (fu k l 0) (fun o=>Sum.elim (fun pK=>cond ((ns.length:Int) !=(l.length:Int)) (some 6) (Option.bind (jX k ns 0) (fun o=>Sum.elim (fun p29=>(Fx k g).bind fun p35=>some p35) (fun p36=>some p36) o))) (fun p41=>some p41) o)) R->Ev (fun k=>lX k l ns g) R:=by
  intro R hR;unfold lX;exact Ev.cF hq0 (Ev.cF (decide_eq_false (by omega)) hR)
 rcases al9 hf (by omega)with⟨i1,i2,i3⟩|⟨c,i0,i1,i2⟩
 case inr=>exact .inl ⟨c,i0,kS _ (Ev.bind i1 Ev.some),qS _ (Ev.bind i2 Ev.some)⟩
 obtain⟨c,e1,e2,e3⟩:=alO hfg;have kT: ∀R,Ev (fun k=>cond (uo [if((ns.length:Int)==(l.length:Int))=true then 0 else 6,if ns.all rng=true then 0 else 3,c] !=0) (some (false,uo [if((ns.length:Int)==(l.length:Int))=true then 0 else 6,if ns.all rng=true then 0 else 3,c])) ((rF k l ns g).bind fun p36=>some (p36,0))) R->Ev (fun k=>kH k l ns g) R:=by
  intro R hR;refine kS _ (Ev.bind i1 (Ev.bind (al8 ns (by omega)) ?_));simp only [Ba,Option.bind_some,Bool.not_not];exact Ev.bind e1 (Ev.bind (FM _ (by simp)) hR)
 by_cases hs:ns.length=l.length
 case neg=>
  have b1:((ns.length:Int)==(l.length:Int))=false:=beq_eq_false_iff_ne.2 (by omega);refine .inl ⟨6,by decide,kT _ (Ev.cT ?_ (Ev.some' ?_)),qS _ (Ev.bind i2 (Ev.cT (by rw [bne_iff_ne];omega) Ev.some))⟩
  · simp [b1,uo]
  · simp [b1,uo]
 have b1:((ns.length:Int)==(l.length:Int))=true:=by rw [beq_iff_eq];omega
 have b2:((ns.length:Int) !=(l.length:Int))=false:=by rw [bne,b1];rfl
 have qr:=aos ns (by omega);cases ha:ns.all rng with
 |false=>
  rw [ha]at qr kT;exact .inl ⟨3,by decide,kT _ (Ev.cT (by simp [b1,uo]) (Ev.some' (by simp [b1,uo]))),qS _ (Ev.bind i2 (Ev.cF b2 (Ev.bind qr Ev.some)))⟩
 |true=>
  rw [ha]at qr kT;by_cases hc:c=0
  case neg=>exact .inl ⟨c,hc,kT _ (Ev.cT (by simp [b1,uo,hc]) (Ev.some' (by simp [b1,uo,hc]))),qS _ (Ev.bind i2 (Ev.cF b2 (Ev.bind qr (Ev.bind e2 Ev.some))))⟩
  have gg:=e3 hc;obtain⟨ts,rfl⟩:=aeW i3;obtain⟨t,rfl⟩:=gg.val.tree;have i4: ∀t∈ts,Gd (flat 0 t):=fun t ht=>i3 _ (List.mem_map_of_mem ht);rw [List.length_map]at hs hl;obtain⟨b,f1,f2,f3⟩:=aeV i4 hl hs gg;exact .inr ⟨b,kT _ (Ev.cF (by rw [b1,hc];rfl) (Ev.bind f1 Ev.some)),qS _ (Ev.bind i2 (Ev.cF b2 (Ev.bind qr (Ev.bind e2 (Ev.some' hc))))),f2,ts,t,rfl,rfl,i4,gg,f3⟩
end Go.VL
end
section
namespace Go.VL
variable [Glob]
def ckz (b:Bool):Ck->Ck
 | .nil=>if b then .unk else .nil
 | .exact=>if b then .unk else .exact
 |_=> .unk
def qB (b:Bool):Nat->AH->PV->PV
 |0,_,_=> .any
 |n+1,H,p=>match p with
  | .ref id off=>match H.obj id with
   |some cs=> .bY (cs.map (qB b n H)) off
   |none=> .any
  | .bY cs off=> .bY (cs.map (qB b n H)) off
  | .ah es c=> .ah (es.map fun cs=>cs.map (qB b n H)) (ckz b c)
  | .bO id off len cap sz=>match H.obj id with
   |some cs=>if len<=cap/\off+len*sz<=cs.length then .ah ((chunks sz len (cs.drop off)).map fun l=>l.map (qB b n H)) .unk else .any
   |none=> .any
  | .agg cs=> .agg (cs.map (qB b n H))
  | .dn cs=> .dn (cs.map (qB b n H))
  | .fn g cs ds=> .fn g (cs.map (qB b n H)) (ds.map (qB b n H))
  | .iface t p=> .iface t (qB b n H p)
  | .any=> .any
  | .bool b=> .bool b
  | .int k x=> .int k x
  | .str s=> .str s
  | .nR=> .nR
  | .kX=> .kX
  | .nA=> .nA
theorem Xw {b:Bool} (n:Nat) (H:AH): ∀p,Pu (qB b n H p):=by
 induction n with
 |zero=>exact fun p=> .any
 |succ n ih=>
  intro p;have hl: ∀cs:List PV,∀c∈cs.map (qB b n H),Pu c:=fun cs c h=>by
   obtain⟨d,_,rfl⟩:=List.mem_map.1 h;exact ih d
  have hll: ∀es:List (List PV),∀cs∈es.map (fun cs=>cs.map (qB b n H)),∀c∈cs,Pu c:=fun es cs h=>by
   obtain⟨d,_,rfl⟩:=List.mem_map.1 h;exact hl d
  cases p with
  |ref id off=>simp only [qB];split<;>first|exact .bY _ _ (hl _)|exact .any
  |bY cs off=>exact .bY _ _ (hl _)
  |ah es c=>refine .ah _ _ (hll _) (fun k=> ?_);cases c<;>cases b<;>simp [ckz]
  |bO id off len cap sz=>
   simp only [qB];split
   · split
     · exact .ah _ _ (hll _) (fun k=>by simp)
     · exact .any
   · exact .any
  |agg cs=>exact .agg _ (hl _)
  |dn cs=>exact .dn _ (hl _)
  |fn g cs ds=>exact .fn _ _ _ (hl _) (hl _)
  |iface t p=>exact .iface _ _ (ih p)
  |any=>exact .any
  |bool b=>exact .bool b
  |int k x=>exact .int k x
  |str s=>exact .str s
  |nR=>exact .nR
  |kX=>exact .kX
  |nA=>exact .nA
theorem Ny {α β:Type} {f:α->β} {l:List α} {j:Nat} {c:α} {c':β} (h:l[j]? =some c) (h':(l.map f)[j]? =some c'):c'=f c:=by
 rw [List.getElem?_map,h]at h';exact(Option.some.inj h').symm
theorem aeX {b:Bool} (n:Nat) (H:AH): ∀p,Fz H p (qB b n H p):=by
 induction n with
 |zero=>exact fun p=> .any p
 |succ n ih=>
  intro p;have hl: ∀(cs:List PV) (j:Nat) (c c':PV),cs[j]? =some c->(cs.map (qB b n H))[j]? =some c'->Fz H c c':=fun cs j c c' h h'=>by
   rw [Ny h h'];exact ih c
  cases p with
  |ref id off=>
   simp only [qB];split
   · rename_i cs ho;exact .ref _ _ cs _ ho (by simp) (hl cs)
   · exact .any _
  |bY cs off=>exact .bY _ _ _ (by simp) (hl cs)
  |ah es c=>
   refine .ah _ _ _ _ ?_ (by simp) (fun i cs cs' h h'=>by rw [Ny h h'];simp) (fun i cs cs' h h' j c c' e e'=> ?_)
   · cases b with
     |true=>cases c<;>exact .inl rfl
     |false=>
      cases c with
      |tok k=>exact .inl rfl
      |nil=>exact .inr ⟨rfl,fun k=>by simp⟩
      |exact=>exact .inr ⟨rfl,fun k=>by simp⟩
      |unk=>exact .inl rfl
   · rw [Ny h h']at e';exact hl cs j c c' e e'
  |bO id off len cap sz=>
   simp only [qB];split
   · rename_i cs ho;split
     · rename_i hc;have hch: ∀(i:Nat) (cs':List PV),((chunks sz len (cs.drop off)).map fun l=>l.map (qB b n H))[i]? =some cs'->i<len/\cs'=(((cs.drop off).drop (i*sz)).take sz).map (qB b n H):=by
        intro i cs' h;simp only [chunks,List.getElem?_map,Option.map_eq_some_iff]at h;obtain⟨l,⟨i',h1,rfl⟩,rfl⟩:=h;obtain⟨h2,h3⟩:=List.getElem?_eq_some_iff.1 h1;simp at h2 h3;subst h3;exact⟨h2,rfl⟩
       have hin: ∀i,i<len->i*sz+sz<=len*sz:=fun i hi=>by
        calc i*sz+sz=(i+1)*sz:=by rw [Nat.add_mul,Nat.one_mul]
         _<=len*sz:=Nat.mul_le_mul_right sz hi
       refine .bO id off len cap sz cs _ (fun i j=>(cs[off+i*sz+j]?).getD .any) ho (by simp [chunks]) hc.1 (fun i cs' h=> ?_) (fun i cs' h j c' e=> ?_) (fun i cs' h j c' e=> ?_)
       · obtain⟨h1,rfl⟩:=hch i cs' h;have:=hin i h1;simp only [List.length_map,List.length_take,List.length_drop];omega
       · obtain⟨h1,rfl⟩:=hch i cs' h;have:=hin i h1;have hj:=(List.getElem?_eq_some_iff.1 e).1;simp only [List.length_map,List.length_take,List.length_drop]at hj;have hlt:off+i*sz+j<cs.length:=by omega
         rw [List.getElem?_eq_getElem hlt];rfl
       · obtain⟨h1,rfl⟩:=hch i cs' h;have:=hin i h1;have hj:=(List.getElem?_eq_some_iff.1 e).1;simp only [List.length_map,List.length_take,List.length_drop]at hj;have hlt:off+i*sz+j<cs.length:=by omega
         have hg:(((cs.drop off).drop (i*sz)).take sz)[j]? =some cs[off+i*sz+j]:=by
          rw [List.getElem?_take_of_lt (by omega),List.getElem?_drop,List.getElem?_drop,<-Nat.add_assoc];exact List.getElem?_eq_getElem hlt
         rw [List.getElem?_map,hg]at e;cases e;rw [List.getElem?_eq_getElem hlt];exact ih _
     · exact .any _
   · exact .any _
  |agg cs=>exact .agg _ _ (by simp) (hl cs)
  |dn cs=>exact .dn _ _ (by simp) (hl cs)
  |fn g cs ds=>exact .fn _ _ _ _ _ (by simp) (hl cs) (by simp) (hl ds)
  |iface t p=>exact .iface _ _ _ (ih p)
  |any=>exact .any _
  |bool b=>exact .pure _ (.bool b)
  |int k x=>exact .pure _ (.int k x)
  |str s=>exact .pure _ (.str s)
  |nR=>exact .pure _ .nR
  |kX=>exact .pure _ .kX
  |nA=>exact .pure _ .nA
theorem aeY {b0:Bool} {G:Gh} {m:Nat}: ∀(n:Nat) {p:PV} {v:Value},V G m p v->V G m (qB b0 n AH.empty p) v:=by
 intro n
 induction n with
 |zero=>exact fun _=> .any _
 |succ n ih=>
  intro p v h;have hl: ∀(cs:List PV) (j:Nat) (c:PV),(cs.map (qB b0 n AH.empty))[j]? =some c-> ∃d,cs[j]? =some d/\c=qB b0 n AH.empty d:=fun cs j c e=>by
   simp only [List.getElem?_map,Option.map_eq_some_iff]at e;obtain⟨d,e1,e2⟩:=e;exact⟨d,e1,e2.symm⟩
  cases h with
  |any v=>exact .any v
  |bool b=>exact .bool b
  |int k x=>exact .int k x
  |str s=>exact .str s
  |nR=>exact .nR
  |ref id off b h1 h2=>exact .any _
  |bY cs off b o f h1 h2=>
   exact .bY _ off b o f (fun j c e=>let ⟨d,e1,_⟩:=hl cs j c e;h1 j d e1) (fun j c e=>by obtain⟨d,e1,rfl⟩:=hl cs j c e;exact ih (h2 j d e1))
  |ah es c sz ad cap f h1 h2 h3 h4 h5=>
   have get: ∀(i:Nat) (cs:List PV),(es.map fun cs=>cs.map (qB b0 n AH.empty))[i]? =some cs-> ∃ds,es[i]? =some ds/\cs=ds.map (qB b0 n AH.empty):=fun i cs e=>by
    simp only [List.getElem?_map,Option.map_eq_some_iff]at e;obtain⟨ds,e1,e2⟩:=e;exact⟨ds,e1,e2.symm⟩
   have hlen:(es.map fun cs=>cs.map (qB b0 n AH.empty)).length=es.length:=by simp
   show V G m (.ah (es.map fun cs=>cs.map (qB b0 n AH.empty)) _) (.slice ad es.length cap)
   rw [<-hlen];refine .ah _ _ sz ad cap f (fun i cs e=> ?_) (by rw [hlen];exact h2) (fun hne=> ?_) (fun i cs j d e ed=> ?_) ?_
   · obtain⟨ds,e1,rfl⟩:=get i cs e;rw [List.length_map];exact h1 i ds e1
   · obtain⟨b,o,e1,e2⟩:=h3 (fun e=>hne (by rw [e];rfl));refine⟨b,o,e1,fun i cs e j d ed=> ?_⟩;obtain⟨ds,e3,rfl⟩:=get i cs e;obtain⟨d',e4,rfl⟩:=hl ds j d ed;exact e2 i ds e3 j d' e4
   · obtain⟨ds,e3,rfl⟩:=get i cs e;obtain⟨d',e4,rfl⟩:=hl ds j d ed;exact ih (h4 i ds j d' e3 e4)
   · rw [hlen];cases b0 with
     |true=>cases c<;>trivial
     |false=>
      cases c with
      |nil=>exact h5
      |exact=>exact h5
      |unk=>trivial
      |tok k=>trivial
  |bO id off len cap sz b h1 h2=>exact .any _
  |agg cs vs h1 h2=>exact .agg _ vs (by simpa using h1) (fun j c x e ex=>by obtain⟨d,e1,rfl⟩:=hl cs j c e;exact ih (h2 j d x e1 ex))
  |dn cs vs h1 h2=>exact .dn _ vs (by simpa using h1) (fun j c x e ex=>by obtain⟨d,e1,rfl⟩:=hl cs j c e;exact ih (h2 j d x e1 ex))
  |fn g cs ds vs us h1 h2 h3 h4=>
   exact .fn _ _ _ vs us (by simpa using h1) (fun j c x e ex=>by obtain⟨d,e1,rfl⟩:=hl cs j c e;exact ih (h2 j d x e1 ex)) (by simpa using h3) (fun j c x e ex=>by obtain⟨d,e1,rfl⟩:=hl ds j c e;exact ih (h4 j d x e1 ex))
  |kX=>exact .kX
  |iface t p v h=>exact .iface _ _ _ (ih h)
  |nA=>exact .nA
def Old (H H':AH):Prop:= ∀i cs,H.obj i=some cs->H'.obj i=some cs
theorem Old.refl (H:AH):Old H H:=fun _ _ h=>h
theorem Fz.old {H H':AH} (ho:Old H H') {p q:PV} (h:Fz H p q):Fz H' p q:=by
 induction h with
 |pure p h=>exact .pure p h
 |any p=>exact .any p
 |bY cs cs' off hl _ ih=>exact .bY cs cs' off hl ih
 |ref id off cs cs' h hl _ ih=>exact .ref id off cs cs' (ho _ _ h) hl ih
 |ah es es' c c' hc hl hl' _ ih=>exact .ah es es' c c' hc hl hl' ih
 |bO id off len cap sz cs es' g h hl hcap hl' hg _ ih=>exact .bO id off len cap sz cs es' g (ho _ _ h) hl hcap hl' hg ih
 |agg cs cs' hl _ ih=>exact .agg cs cs' hl ih
 |dn cs cs' hl _ ih=>exact .dn cs cs' hl ih
 |iface t p p' _ ih=>exact .iface t p p' ih
 |fn g cs cs' ds ds' hl _ hm _ ih1 ih2=>exact .fn g cs cs' ds ds' hl ih1 hm ih2
theorem atL {H H':AH} (ho:Old H H') {k:RK} {σ:Nat->PV} {p:PV} (h:rop k σ H=some p):rop k σ H'=some p:=by
 cases k with
 |load sz agg x=>
  simp only [rop]at h⊢;generalize x.ev σ=q at h;cases q with
  |ref id o=>
   simp only [Cm]at h⊢;split at h
   · rename_i cs hc;rw [ho _ _ hc];exact h
   · cases h
  |_=>exact h
 |_=>exact h
def scB:PV->Bool
 | .bool _| .int .. | .str _| .any=>true
 | .dn cs=>cs.all fun c=>match c with| .bool _| .int .. | .str _| .any=>true|_=>false
 |_=>false
theorem azP {p:PV} (h:scB p=true):Sc p:=by
 cases p with
 |bool b=>exact .bool b
 |int k x=>exact .int k x
 |str s=>exact .str s
 |any=>exact .any
 |dn cs=>
  refine .dn cs fun c hc=> ?_;have:=List.all_eq_true.1 h c hc;cases c<;>simp at this
  · exact .any
  · exact .bool _
  · exact .int _ _
  · exact .str _
 |_=>cases h
def Zm:Nat->PV->Bool
 |0,_=>false
 |n+1,p=>match p with
  | .ref .. | .bO .. =>true
  | .bY cs _| .agg cs| .dn cs=>cs.any (Zm n)
  | .ah es _=>es.any fun cs=>cs.any (Zm n)
  | .fn _ cs ds=>cs.any (Zm n)||ds.any (Zm n)
  | .iface _ p=>Zm n p
  |_=>false
section
variable {P:Program} (call:FuncId->List PV->Option PV) (sH:FuncId->Option Nat->Option (Nat×List (List PV)))
def ajn (H:AH) (σ:Nat->PV) (f:AE) (args:List AE):Option PV:=match f.ev σ with
 | .fn (.func g) first caps=>
  if(first++evs σ args++caps).any (Zm 12)then(match call g ((first++evs σ args++caps).map (qB false 20 H))with
   |some r=>if scB r then some r else none
   |none=>none)
  else call g ((first++evs σ args++caps).map (qB false 20 AH.empty))
 |_=>none
def xrd (H:AH) (k:AK) (σ:Nat->PV):Option PV:=match k with
 | .r k=>rop k σ H
 | .call f args=>ajn call H σ f args
 | .n (.OC zero parts)=>(kJ σ zero parts).map .agg
 | .n (.Zq x)=>match x.ev σ with
  | .str s=>some (.ah (s.map fun b=>[.int .u8 b.toNat]) .unk)
  |_=>none
 |_=>none
def xwr (H0:AH) (k:AK) (σ:Nat->PV) (H:AH):Option (PV×AH):=match k with
 | .d k=>match k with
  | .app .. =>jo k σ H
  | .store sz x v=>match x.ev σ with
   | .ref id o=>if(H0.obj id).isNone then jo k σ H else none
   |_=>none
  | .alloc _| .box .. | .yg .. =>if(H0.obj H.next).isNone then jo k σ H else none
 | .n (.copy sz x y)=>match x.ev σ,rowOf sz H (y.ev σ)with
  | .bO id off len cap s,some fs=>(match H.obj id with
   |some cs=>if s=sz/\qR sz fs/\off+len*sz<=cs.length/\(H0.obj id).isNone=true then some (.int .i64 (min fs.length len:Nat),H.put id (putCells cs off (fs.take len).flatten))else none
   |none=>none)
  |_,_=>none
 | .n (.OD sz parts)=>if(H0.obj H.next).isNone then(match zB sz σ parts with
  |some es=>if qR sz es then some (.bO H.next 0 es.length es.length sz,H.new es.flatten)else none
  |none=>none)else none
 |_=>none
def azQ (d:Option Nat):AK->Option (Nat×List (List PV))
 | .call (.c (.fn (.func g) [] [])) []=>sH g d
 |_=>none
def xop (H0:AH) (d:Option Nat) (k:AK) (σ:Nat->PV) (H:AH):Option (PV×AH):=match azQ sH d k with
 |some (sz,es)=>some (.bO H.next 0 es.length es.length sz,H.new es.flatten)
 |none=>match xrd call H k σ with
  |some p=>some (p,H)
  |none=>xwr H0 k σ H
def Nz:List aI->(Nat->PV)->AH->Option ((Nat->PV)×AH)
 |[],σ,H=>some (σ,H)
 |o::l,σ,H=>match o.g with
  |none=>match xop call sH AH.empty o.dst o.k σ H with
   |some (p,H')=>Nz l (upd σ o.dst p) H'
   |none=>none
  |some (s,want)=>match σ s with
   | .bool b=>if b=want then(match xop call sH AH.empty o.dst o.k σ H with
    |some (p,H')=>Nz l (upd σ o.dst p) H'
    |none=>none)else Nz l (upd σ o.dst ud) H
   | .dn []=>Nz l (upd σ o.dst ud) H
   |_=>none
def gate (o:aI) (σ:Nat->PV):Option Bool:=match o.g with
 |none=>some true
 |some (s,want)=>match σ s with
  | .bool b=>some (b==want)
  | .dn []=>some false
  |_=>none
def Zn (H0:AH):List (aI×Bool)->(Nat->PV)->AH->Option ((Nat->PV)×AH)
 |[],σ,H=>some (σ,H)
 |(o,d)::l,σ,H=>match gate o σ with
   |some true=>if d then(match xwr H0 o.k σ H with
        |some (p,H')=>Zn H0 l (upd σ o.dst p) H'
        |none=>none)
    else(match xrd call H0 o.k σ with
        |some p=>Zn H0 l (upd σ o.dst p) H
        |none=>none)
   |some false=>Zn H0 l (upd σ o.dst ud) H
   |none=>none
def abx (body:(Nat->PV)->AH->Option (Ex×(Nat->PV)×AH)):Nat->(Nat->PV)->AH->Option (Ex×(Nat->PV)×AH)
 |0,_,_=>none
 |n+1,σ,H=>match body σ H with
  |some (.normal,σ',H')=>abx body n σ' H'
  |r=>r
def exec (n:Nat):AC->(Nat->PV)->AH->Option (Ex×(Nat->PV)×AH)
 | .skip,σ,H=>some (.normal,σ,H)
 | .ops l,σ,H=>match Nz call sH l σ H with
  |some (σ',H')=>some (.normal,σ',H')
  |none=>none
 | .par pr post,σ,H=>match Zn call H pr σ H with
  |some (σ',H')=>(match Nz call sH post σ' H' with
   |some (σ2,H2)=>some (.normal,σ2,H2)
   |none=>none)
  |none=>none
 | .su ..,_,_=>none
 | .seq a b,σ,H=>match exec n a σ H with
  |some (.normal,σ',H')=>exec n b σ' H'
  |r=>r
 | .cond c a b,σ,H=>match c.ev σ with
  | .bool true=>exec n a σ H
  | .bool false=>exec n b σ H
  |_=>none
 | .block id a,σ,H=>match exec n a σ H with
  |some (.exit i,σ',H')=>if i=id then some (.normal,σ',H')else some (.exit i,σ',H')
  |r=>r
 | .loop a,σ,H=>abx (exec n a) n σ H
 | .rf ..,_,_=>none
 | .exit id,σ,H=>some (.exit id,σ,H)
 | .ret,σ,H=>some (.ret,σ,H)
variable {call sH} (hrow: ∀g d sz es,sH g d=some (sz,es)-> ∀H,bg P g [] H fun v H'=>v= .bO H.next 0 es.length es.length sz/\H'=H.new es.flatten) (hcall: ∀f args r,(∀a∈args,Pu a)->call f args=some r->aD P f args r)
include hcall
theorem agc {H0:AH} {σ:Nat->PV} {f:AE} {args:List AE} {r:PV} (h:ajn call H0 σ f args=some r) {H:AH} (ho:Old H0 H):d9 P (.call f args) (fun v H'=>v=r/\H'=H) σ H:=by
 unfold ajn at h;simp only [d9];split at h
 · rename_i g first caps hf
   simp only [hf];generalize first++evs σ args++caps=az at h⊢
   split at h
   · split at h
     · rename_i r' hr;split at h
       · rename_i hs;cases h;refine aD.frozen (args:=az) (args':=az.map (qB false 20 H0)) ⟨List.length_map ..,fun j a a' e e'=> ?_⟩ (fun a ha=> ?_) (hcall _ _ _ (fun a ha=> ?_) hr) (azP hs)
         · rw [Ny e e'];exact(aeX 20 H0 a).old ho
         · obtain⟨d,_,rfl⟩:=List.mem_map.1 ha;exact Xw _ _ _
         · obtain⟨d,_,rfl⟩:=List.mem_map.1 ha;exact Xw _ _ _
       · cases h
     · cases h
   · have hp:=hcall _ _ _ (fun a ha=>by obtain⟨d,_,rfl⟩:=List.mem_map.1 ha;exact Xw _ _ _) h;refine⟨(hp H).enters,fun B G w vs hU hM hv=>(hp H).call B G w vs hU hM ⟨by simpa using hv.1,fun j c x hc hx=> ?_⟩⟩;simp only [List.getElem?_map,Option.map_eq_some_iff]at hc;obtain⟨d,e1,rfl⟩:=hc;exact aeY 20 (hv.2 j d x e1 hx)
 · cases h
theorem aaA {H0:AH} {k:AK} {σ:Nat->PV} {p:PV} (h:xrd call H0 k σ=some p) {H:AH} (ho:Old H0 H):d9 P k (fun v H'=>v=p/\H'=H) σ H:=by
 unfold xrd at h;split at h
 · simp [d9,atL ho h]
 · exact agc hcall h ho
 · simp only [Option.map_eq_some_iff]at h;obtain⟨cs,h1,rfl⟩:=h;simp [d9,nop,h1]
 · split at h
   · rename_i s hs;cases h;simp [d9,nop,hs]
   · cases h
 · cases h
omit hcall
theorem aaB {H0:AH} {k:AK} {σ:Nat->PV} {H:AH} {p:PV} {H':AH} (h:xwr H0 k σ H=some (p,H')):d9 P k (fun v H2=>v=p/\H2=H') σ H/\(Old H0 H->Old H0 H'):=by
 have dd: ∀{k:DK},jo k σ H=some (p,H')->d9 P (.d k) (fun v H2=>v=p/\H2=H') σ H:=fun h=>by simp [d9,h]
 have hnew: ∀{cs:List PV},(H0.obj H.next).isNone=true->Old H0 H->Old H0 (H.new cs):=fun{cs} hn ho i ds e=>by
  have:i≠H.next:=fun e'=>by rw [e',Option.isNone_iff_eq_none.1 hn]at e;cases e
  rw [AH.agr,if_neg this];exact ho i ds e
 have hput: ∀{id:Nat} {cs:List PV},(H0.obj id).isNone=true->Old H0 H->Old H0 (H.put id cs):=fun{id cs} hn ho i ds e=>by
  have:i≠id:=fun e'=>by rw [e',Option.isNone_iff_eq_none.1 hn]at e;cases e
  rw [AH.ags,if_neg this];exact ho i ds e
 unfold xwr at h;split at h
 · split at h
   · rename_i sz by' x y
     refine⟨dd h,fun ho=> ?_⟩;simp only [jo,ME]at h;split at h
     · split at h
       · cases h;exact ho
       · split at h
         · split at h
           · cases h
           · split at h
             · cases h;exact ho
             · cases h
           · cases h;exact ho
         · cases h
     · cases h
   · rename_i sz x v;split at h
     · rename_i id o hx;split at h
       · rename_i hn;refine⟨dd h,fun ho=> ?_⟩;simp only [jo,hx]at h;split at h
         · rename_i id' o' vs e1 e2;cases e1;split at h
           · split at h
             · cases h;exact hput hn ho
             · cases h
           · cases h
         · cases h
       · cases h
     · cases h
   · split at h
     · rename_i z hn;refine⟨dd h,fun ho=> ?_⟩;simp only [jo]at h;cases h;exact hnew hn ho
     · cases h
   · split at h
     · rename_i sz x hn;refine⟨dd h,fun ho=> ?_⟩;simp only [jo]at h;split at h
       · cases h;exact hnew hn ho
       · cases h
     · cases h
   · split at h
     · rename_i sz b z n c hn;refine⟨dd h,fun ho=> ?_⟩;simp only [jo]at h;split at h
       · split at h
         · cases h;exact hnew hn ho
         · cases h
       · cases h
     · cases h
 · rename_i sz x y;split at h
   · rename_i id off len cap s fs hx hy;split at h
     · rename_i cs hc;split at h
       · rename_i hk;cases h;refine⟨?_,hput hk.2.2.2⟩;simp only [d9,nop,hx,hy,hc];rw [if_pos ⟨hk.1,hk.2.1,hk.2.2.1⟩];simp
       · cases h
     · cases h
   · cases h
 · rename_i sz parts;split at h
   · rename_i hn;split at h
     · rename_i es he;split at h
       · rename_i hk;cases h;refine⟨?_,hnew hn⟩;simp only [d9,nop,he];rw [if_pos hk];simp
       · cases h
     · cases h
   · cases h
 · cases h
include hrow hcall
theorem amb {H0:AH} {d:Option Nat} {k:AK} {σ:Nat->PV} {H:AH} {p:PV} {H':AH} (h:xop call sH H0 d k σ H=some (p,H')):d9 P k (fun v H2=>v=p/\H2=H') σ H:=by
 unfold xop at h;split at h
 · rename_i sz es hx;cases h;unfold azQ at hx;split at hx
   · exact hrow _ _ _ _ hx H
   · cases hx
 split at h
 · rename_i q hq;cases h;exact aaA hcall hq (Old.refl H)
 · exact(aaB h).1
theorem Eu {K:(Nat->PV)->AH->Prop}: ∀(l:List aI) (σ:Nat->PV) (H:AH) (σ':Nat->PV) (H':AH),Nz call sH l σ H=some (σ',H')->K σ' H'->dM P l K σ H
 |[],σ,H,σ',H',h,hk=>by cases h;exact hk
 |o::l,σ,H,σ',H',h,hk=>by
  simp only [Nz]at h;simp only [dM];have one: ∀{x:Option ((Nat->PV)×AH)},(match xop call sH AH.empty o.dst o.k σ H with|some (p,H')=>Nz call sH l (upd σ o.dst p) H'|none=>none)=some (σ',H')->d9 P o.k (fun p H'=>dM P l K (upd σ o.dst p) H') σ H:=by
   intro _ h;split at h
   · rename_i p H2 hp;refine kC ?_ (amb hrow hcall hp);rintro v H3 ⟨rfl,rfl⟩;exact Eu l _ _ _ _ h hk
   · cases h
  split at h
  · rename_i hg;simp only [hg];exact one (x:=none) h
  · rename_i s want hg;simp only [hg];split at h
    · rename_i b hb;simp only [hb];split at h
      · rename_i hw;rw [if_pos hw];exact one (x:=none) h
      · rename_i hw;rw [if_neg hw];exact Eu l _ _ _ _ h hk
    · rename_i hb;simp only [hb];exact Eu l _ _ _ _ h hk
    · cases h
theorem Ic {H0:AH} {K:(Nat->PV)->AH->Prop}: ∀(l:List (aI×Bool)) (σ:Nat->PV) (H:AH) (σ':Nat->PV) (H':AH),Zn call H0 l σ H=some (σ',H')->Old H0 H->K σ' H'->jq P (Old H0) l K σ H
 |[],σ,H,σ',H',h,ho,hk=>by cases h;exact hk
 |(o,d)::l,σ,H,σ',H',h,ho,hk=>by
   simp only [Zn]at h;simp only [jq];split at h
   · rename_i hg;refine .inr ⟨?_,?_⟩
     · unfold gate at hg;unfold pE;split at hg
       · rename_i e;simp only [e]
       · rename_i s want e;simp only [e];split at hg
         · rename_i b hb;rw [hb];simp only [Option.some.injEq,beq_iff_eq]at hg;rw [hg]
         · cases hg
         · cases hg
     · split at h
       · rename_i hd;subst hd;split at h
         · rename_i p H2 hp;obtain⟨h1,h2⟩:=aaB (P:=P) hp;exact⟨p,H2,h1,h2 ho,Ic l _ _ _ _ h (h2 ho) hk⟩
         · cases h
       · rename_i hd;have hd:d=false:=by simpa using hd
         subst hd;split at h
         · rename_i p hp;exact⟨p,fun H2 h2=>aaA hcall hp h2,Ic l _ _ _ _ h ho hk⟩
         · cases h
   · rename_i hg;refine .inl ⟨?_,Ic l _ _ _ _ h ho hk⟩;unfold gate at hg;unfold sj;split at hg
     · cases hg
     · rename_i s want e;simp only [e];split at hg
       · rename_i b hb;rw [hb];simp only [Option.some.injEq]at hg;refine .inl ?_;cases b<;>cases want<;>simp_all
       · rename_i hb;exact .inr hb
       · cases hg
   · cases h
theorem RL {a:AC} {Q:Post} {body:(Nat->PV)->AH->Option (Ex×(Nat->PV)×AH)} (hb: ∀(Q:Post) σ H e σ' H',body σ H=some (e,σ',H')->Q e σ' H'->W P a Q σ H):
 ∀(n:Nat) σ H e σ' H',abx body n σ H=some (e,σ',H')->Q e σ' H'->W P (.loop a) Q σ H
 |0,σ,H,e,σ',H',h,hq=>by cases h
 |n+1,σ,H,e,σ',H',h,hq=>by
  simp only [abx]at h;refine ajU ?_;split at h
  · rename_i σ2 H2 h2;exact hb _ _ _ _ _ _ h2 (RL hb n _ _ _ _ _ h hq)
  · rename_i hno;refine hb _ _ _ _ _ _ h ?_;cases e with
    |normal=>exact(hno _ _ h).elim
    |exit i=>exact hq
    |ret=>exact hq
theorem pz (n:Nat): ∀(c:AC) (Q:Post) σ H e σ' H',exec call sH n c σ H=some (e,σ',H')->Q e σ' H'->W P c Q σ H
 | .skip,Q,σ,H,e,σ',H',h,hq=>by cases h;exact hq
 | .ops l,Q,σ,H,e,σ',H',h,hq=>by
  simp only [exec]at h;split at h
  · rename_i σ2 H2 h2;cases h;exact Eu hrow hcall l _ _ _ _ h2 hq
  · cases h
 | .par pr post,Q,σ,H,e,σ',H',h,hq=>by
  simp only [exec]at h;split at h
  · rename_i σ2 H2 h2;split at h
    · rename_i σ3 H3 h3;cases h;exact⟨Old H,Old.refl H,Ic hrow hcall pr _ _ _ _ h2 (Old.refl H) (Eu hrow hcall post _ _ _ _ h3 hq)⟩
    · cases h
  · cases h
 | .su ..,Q,σ,H,e,σ',H',h,hq=>by cases h
 | .seq a b,Q,σ,H,e,σ',H',h,hq=>by
  simp only [exec]at h;simp only [W];split at h
  · rename_i σ2 H2 h2;exact pz n a _ _ _ _ _ _ h2 (pz n b _ _ _ _ _ _ h hq)
  · rename_i hno;refine pz n a _ _ _ _ _ _ h ?_;cases e with
    |normal=>exact(hno _ _ h).elim
    |exit i=>exact hq
    |ret=>exact hq
 | .cond c a b,Q,σ,H,e,σ',H',h,hq=>by
  simp only [exec]at h;simp only [W];split at h
  · rename_i hc;simp only [hc];exact⟨fun _=>pz n a _ _ _ _ _ _ h hq,fun e=>by cases e⟩
  · rename_i hc;simp only [hc];exact⟨fun e=>(by cases e),fun _=>pz n b _ _ _ _ _ _ h hq⟩
  · cases h
 | .block id a,Q,σ,H,e,σ',H',h,hq=>by
  simp only [exec]at h;simp only [W];split at h
  · rename_i i σ2 H2 h2;refine pz n a _ _ _ _ _ _ h2 ?_;simp only [OV];split at h
    · rename_i hi;rw [if_pos hi];cases h;exact hq
    · rename_i hi;rw [if_neg hi];cases h;exact hq
  · rename_i hno;refine pz n a _ _ _ _ _ _ h ?_;cases e with
    |normal=>exact hq
    |exit i=>exact(hno _ _ _ h).elim
    |ret=>exact hq
 | .loop a,Q,σ,H,e,σ',H',h,hq=>RL hrow hcall (fun Q σ H e σ' H' h hq=>pz n a Q σ H e σ' H' h hq) n σ H e σ' H' h hq
 | .rf ..,Q,σ,H,e,σ',H',h,hq=>by cases h
 | .exit id,Q,σ,H,e,σ',H',h,hq=>by cases h;exact hq
 | .ret,Q,σ,H,e,σ',H',h,hq=>by cases h;exact hq
end
def codeOf (P:Program) (f:FuncId):Option (Nat×List RV×AC):=match P.funcs[f]? with
 |some fn=>match fn.body with
  |some c=>if fn.name== "runtime.NumGoroutine" then none else match comp P false fn.ntmps (fun _=>false) c,IG P fn.results.toList with
   |some ac,some rs=>some (fn.ntmps,rs,ac)
   |_,_=>none
  |none=>none
 |none=>none
theorem amc {P:Program} (EC:P.follows .mixedOrders=true) {f:FuncId} {k:Nat} {rs:List RV} {ac:AC} (h:codeOf P f=some (k,rs,ac)):aP P (fun _=>false) false f k rs ac:=by
 unfold codeOf at h;split at h
 · rename_i fn hfn;split at h
   · rename_i c hc;split at h
     · cases h
     · rename_i hn;split at h
       · rename_i ac' rs' h1 h2;cases h;exact⟨EC,fn,c,hfn,hc,by simpa using hn,rfl,h1,h2⟩
       · cases h
   · cases h
 · cases h
def Xx (P:Program) (known:FuncId->List PV->Option PV) (sH:FuncId->Option Nat->Option (Nat×List (List PV))):Nat->FuncId->List PV->Option PV
 |0,_,_=>none
 |n+1,f,args=>match known f args with
  |some r=>some r
  |none=>match codeOf P f with
   |some (k,rs,ac)=>if args.length<=k then(match exec (Xx P known sH n) sH 4000 ac (Lb args) AH.empty with
    |some (.exit _,_,_)=>none
    |some (_,σ,H)=>(match ED σ H rs with
     |some ps=>some (qB false 20 H (packed ps))
     |none=>none)
    |none=>none)else none
   |none=>none
theorem KZ {P:Program} {sH:FuncId->Option Nat->Option (Nat×List (List PV))} (hrow: ∀g d sz es,sH g d=some (sz,es)-> ∀H,bg P g [] H fun v H'=>v= .bO H.next 0 es.length es.length sz/\H'=H.new es.flatten) (EC:P.follows .mixedOrders=true) {known:FuncId->List PV->Option PV} (hk: ∀f args r,(∀a∈args,Pu a)->known f args=some r->aD P f args r):
 ∀(n:Nat) (f:FuncId) (args:List PV) (r:PV),(∀a∈args,Pu a)->Xx P known sH n f args=some r->aD P f args r
 |0,f,args,r,ha,h=>by cases h
 |n+1,f,args,r,ha,h=>by
  simp only [Xx]at h;split at h
  · rename_i r' hr;cases h;exact hk f args _ ha hr
  · split at h
    · rename_i k rs ac hc;split at h
      · rename_i hl;have run: ∀e σ H,exec (Xx P known sH n) sH 4000 ac (Lb args) AH.empty=some (e,σ,H)->(match ED σ H rs with|some ps=>some (qB false 20 H (packed ps))|none=>none)=some r->(∀i,e≠ .exit i)->aD P f args r:=by
         intro e σ H he hr hne;split at hr
         · rename_i ps hps;cases hr;refine aD.bH ha (aM (amc EC hc) hl (pz hrow (KZ hrow EC hk n) 4000 ac _ _ _ _ _ _ he ?_)) (Xw _ _ _);cases e with
           |exit i=>exact(hne i rfl).elim
           |normal=>simp only [IE,hps];exact aeX _ _ _
           |ret=>simp only [IE,hps];exact aeX _ _ _
         · cases hr
        split at h
        · cases h
        · rename_i e σ H hno he;refine run e σ H he h fun i hi=> ?_;subst hi;exact hno _ rfl
        · cases h
      · cases h
    · cases h
def ajo (P:Program) (f:FuncId):Option (Nat×List RV×AC):=match P.funcs[f]? with
 |some fn=>match fn.body with
  |some c=>if fn.name== "runtime.NumGoroutine" then none else match comp P true fn.ntmps (fun _=>false) c,IG P fn.results.toList with
   |some ac,some rs=>some (fn.ntmps,rs,ac)
   |_,_=>none
  |none=>none
 |none=>none
theorem aot {P:Program} (EC:P.follows .mixedOrders=true) {f:FuncId} {k:Nat} {rs:List RV} {ac:AC} (h:ajo P f=some (k,rs,ac)):aP P (fun _=>false) true f k rs ac:=by
 unfold ajo at h;split at h
 · rename_i fn hfn;split at h
   · rename_i c hc;split at h
     · cases h
     · rename_i hn;split at h
       · rename_i ac' rs' h1 h2;cases h;exact⟨EC,fn,c,hfn,hc,by simpa using hn,rfl,h1,h2⟩
       · cases h
   · cases h
 · cases h
def ajp (P:Program) (call:FuncId->List PV->Option PV) (f:FuncId) (H:AH):Option (PV×AH):=match ajo P f with
 |some (_,rs,ac)=>match exec call (fun _ _=>none) 4000 ac (Lb []) H with
  |some (.exit _,_,_)=>none
  |some (_,σ,H')=>(ED σ H' rs).map fun ps=>(packed ps,H')
  |none=>none
 |none=>none
theorem agd {P:Program} (EC:P.follows .mixedOrders=true) {call:FuncId->List PV->Option PV} (hcall: ∀f args r,(∀a∈args,Pu a)->call f args=some r->aD P f args r) {f:FuncId} {H H2:AH} {v:PV} (h:ajp P call f H=some (v,H2)):bg P f [] H fun q H'=>q=v/\H'=H2:=by
 unfold ajp at h;split at h
 · rename_i k rs ac hc;have run: ∀e σ H',exec call (fun _ _=>none) 4000 ac (Lb []) H=some (e,σ,H')->(ED σ H' rs).map (fun ps=>(packed ps,H'))=some (v,H2)->(∀i,e≠ .exit i)->bg P f [] H fun q H'=>q=v/\H'=H2:=by
    intro e σ H' he hr hne;rw [Option.map_eq_some_iff]at hr;obtain⟨ps,hps,hq⟩:=hr;cases hq;refine aM (aot EC hc) (by simp) (pz (fun g d sz es h=>by cases h) hcall 4000 ac _ _ _ _ _ _ he ?_);cases e with
    |exit i=>exact(hne i rfl).elim
    |normal=>simp [IE,hps]
    |ret=>simp [IE,hps]
   split at h
   · cases h
   · rename_i e σ H' hno he;exact run e σ H' he h fun i hi=>by subst hi;exact hno _ rfl
   · cases h
 · cases h
theorem aD.weak {P:Program} {f:FuncId} {args:List PV} {r:PV} (h:aD P f (args.map (qB true 20 AH.empty)) r):aD P f args r:=fun H=>
 ⟨(h H).enters,fun B G w vs hU hM hv=>(h H).call B G w vs hU hM ⟨by simpa using hv.1,fun j c x hc hx=>by
   simp only [List.getElem?_map,Option.map_eq_some_iff]at hc;obtain⟨d,e1,rfl⟩:=hc;exact aeY 20 (hv.2 j d x e1 hx)⟩⟩
def NA {α β:Type} (f:α->Option β):List α->Option (List β)
 |[]=>some []
 |x::l=>match f x,NA f l with
  |some y,some r=>some (y::r)
  |_,_=>none
theorem BD {α β:Type} {f:α->Option β} {g:β->α} (hf: ∀x y,f x=some y->x=g y): ∀{l:List α} {m:List β},NA f l=some m->l=m.map g
 |[],m,h=>by cases h;rfl
 |x::l,m,h=>by
  simp only [NA]at h;split at h
  · rename_i y r hy hr;cases h;rw [hf x y hy,BD hf hr];rfl
  · cases h
def ajq:List PV->Option Str
 |[.str s]=>some s
 |_=>none
def ajr:List PV->Option Int
 |[.int .i64 n]=>some n
 |_=>none
def dNd:List PV->Option Nd
 |[.int .i64 k,.int .i64 n,.str t,.ah ns .unk,.ah is' .unk]=>match NA ajq ns,NA ajr is' with
  |some a,some b=>some ⟨k,n,t,a,b⟩
  |_,_=>none
 |_=>none
def dEx:PV->Option (List Nd)
 | .ah es .unk=>NA dNd es
 |_=>none
theorem ahm (x:List PV) (y:Str) (h:ajq x=some y):x=aF y:=by
 unfold ajq at h;split at h
 · cases h;rfl
 · cases h
theorem ahn (x:List PV) (y:Int) (h:ajr x=some y):x=aK y:=by
 unfold ajr at h;split at h
 · cases h;rfl
 · cases h
theorem azS (x:List PV) (y:Nd) (h:dNd x=some y):x=y.cells:=by
 unfold dNd at h;split at h
 · split at h
   · rename_i a b ha hb;cases h;rw [BD ahm ha,BD ahn hb];rfl
   · cases h
 · cases h
theorem QC {p:PV} {e:List Nd} (h:dEx p=some e):p=gN e:=by
 unfold dEx at h;split at h
 · rw [BD azS h]
 · cases h
end Go.VL
end
section
namespace Go.VL
open Go.Proofs
def aou:PV->Option (List (List Nd))
 | .ah es .unk=>NA (fun l=>match l with|[p]=>dEx p|_=>none) es
 |_=>none
theorem atM {p:PV} {l:List (List Nd)} (h:aou p=some l):p= .ah (l.map (dx Nd.cells)) .unk:=by
 unfold aou at h;split at h
 · rw [BD (g:=dx Nd.cells) (fun x y hx=> ?_) h];split at hx
   · rw [QC hx];rfl
   · cases hx
 · cases h
def ajs:PV->Option (List Int)
 | .ah es .unk=>NA ajr es
 |_=>none
theorem aov {p:PV} {l:List Int} (h:ajs p=some l):p= .ah (l.map aK) .unk:=by
 unfold ajs at h;split at h
 · rw [BD ahn h]
 · cases h
def ajt:PV->Option (List Str)
 | .ah es .unk=>NA ajq es
 |_=>none
theorem aow {p:PV} {l:List Str} (h:ajt p=some l):p= .ah (l.map aF) .unk:=by
 unfold ajt at h;split at h
 · rw [BD ahm h]
 · cases h
def Zo (f:FuncId) (args:List PV):Option PV:=match f,args.map (qB true 20 AH.empty)with
 |119,[p]=>(dEx p).bind fun e=>(iG 200 e).bind fun r=>some (.dn [.int .i64 r.1,.int .i64 r.2])
 |160,[p,q]=>(dEx p).bind fun a=>(dEx q).bind fun b=>(E9 200 a b).bind fun r=>some (.dn [.bool r.1,.int .i64 r.2])
 |22,[p,q,g]=>(aou p).bind fun l=>(ajs q).bind fun n=>(dEx g).bind fun e=>(kH 200 l n e).bind fun r=>some (.dn [.bool r.1,.int .i64 r.2])
 |181,[p]=>(ajt p).bind fun l=>if l.length<=1000000 then some (.ah (l.map aF) .unk)else none
 |_,_=>none
theorem Xy (f:FuncId) (args:List PV) (r:PV) (_: ∀a∈args,Pu a) (h:Zo f args=some r):aD Tryz.prog f args r:=by
 refine aD.weak ?_;unfold Zo at h;split at h
 · rename_i p e;rw [e];obtain⟨x,h1,h⟩:=ak h;obtain⟨y,h2,h⟩:=ak h;cases h;rw [QC h1];exact Ob h2
 · rename_i p q e;rw [e];obtain⟨x,h1,h⟩:=ak h;obtain⟨x',h1',h⟩:=ak h;obtain⟨y,h2,h⟩:=ak h;cases h;rw [QC h1,QC h1'];exact aaq h2
 · rename_i p q g e;rw [e];obtain⟨x,h1,h⟩:=ak h;obtain⟨x',h1',h⟩:=ak h;obtain⟨x'',aG2,h⟩:=ak h;obtain⟨y,h2,h⟩:=ak h;cases h;rw [atM h1,aov h1',QC aG2];exact Ol h2
 · rename_i p e;rw [e];obtain⟨x,h1,h⟩:=ak h;split at h
   · rename_i hl;cases h;rw [aow h1];exact OZ x hl
   · cases h
 · cases h
end Go.VL
end
section
set_option maxRecDepth 100000
namespace Go.VL
open Go.Proofs
noncomputable def aju:List (List PV):=match ajp Tryz.prog (Xx Tryz.prog Zo (fun _ _=>none) 30) 48 AH.empty with
 |some (_,H)=>match H.obj 0 with
  |some cs=>chunks 7 2 cs
  |none=>[]
 |none=>[]
theorem aCD (H:AH):bg Tryz.prog 48 [] H fun v H'=>v= .bO H.next 0 aju.length aju.length 7/\H'=H.new aju.flatten:=
 agd (by kernel_rfl) (KZ (sH:=fun _ _=>none) (fun g d sz es h=>by cases h) (by kernel_rfl) Xy 30) (by kernel_rfl)
noncomputable def azT (g:FuncId) (d:Option Nat):Option (Nat×List (List PV)):=if g=48/\d=some 40 then some (7,aju)else none
theorem atN (g:FuncId) (d:Option Nat) (sz:Nat) (es:List (List PV)) (h:azT g d=some (sz,es)) (H:AH):bg Tryz.prog g [] H fun v H'=>v= .bO H.next 0 es.length es.length sz/\H'=H.new es.flatten:=by
 unfold azT at h;split at h
 · rename_i hc;cases h;rw [hc.1];exact aCD H
 · cases h
theorem atO:aD Tryz.prog 11 [] (.bool true):=
 KZ atN (by kernel_rfl) Xy 40 11 [] _ (fun _ h=>by cases h) (by kernel_rfl)
end Go.VL
end
section
set_option maxRecDepth 8000
set_option maxHeartbeats 4000000
namespace Go.VL
open Go.Proofs
def qj (aL:List Int) (kW:Bool):Option Bool:=
 cond kW (some (true)) (some ((decide ((aL.length:Int)>14))))
theorem NC: ∀(aL:List Int) (kW:Bool) (aC σ:Nat->PV) (H:AH) (f0:Fr [18,19,20,21] aC σ) (sl:σ 1=(.ah (aL.map aK) .unk)/\σ 17=(.bool kW)) (o:Bool) (h:qj aL kW=some o) (Q:Post) (q0: ∀(p:Bool) (σ':Nat->PV),o=p->Fr [18,19,20,21] aC σ'->(σ' 21=(.bool p))->Q .normal σ' H),dM Tryz.prog acd (Q .normal) σ H:=by
 intro aL kW aC σ H f0 sl o h Q q0;obtain⟨s1,yU⟩:=sl;unfold qj at h;refine eO ?_;unfold acd;obtain⟨e3,h⟩|⟨e3,h⟩:=aA h
 ·cases h;refine aj ?_;exact q0 _ _ rfl aN av
 ·cases h;refine aj ?_;exact q0 _ _ rfl aN av
def yc (k:Nat) (aX:List (List Nd)) (aL:List Int) (dX:List Nd):Option Bool:=
 (Ky k (Sq.mk aX dX)).bind fun p2=>Option.bind (qj aL (!p2)) (fun p6=>cond p6 (some true) ((Ej k aX).bind fun p16=>(vO aL).bind fun uX=>(BO k dX).bind fun Dh=>(kH k p16 uX Dh).bind fun rP=>(lX k aX aL dX).bind fun xg=>cond (xg !=0) (cond (rP.2==xg) (some (!rP.1)) (some false)) (cond (rP.2==0) ((vZ k aX aL dX).bind fun p29=>some (rP.1==p29)) (some false))))
theorem Q6 {k:Nat} {aX:List (List Nd)} {aL:List Int} {dX:List Nd} {c0 c1 c2:Ck} {r:Bool} (h:yc k aX aL dX=some r):aD Tryz.prog 5 [(.ah (aX.map (dx Nd.cells)) c0),(.ah (aL.map aK) c1),(.ah (dX.map Nd.cells) c2)] (.bool r):=by
 refine aD.lw (.ah (.ah (.ah .nil))) (aD.bH (dA.mem (.cons (bE (fA Nd.pu) _) (.cons (bE cZ _) (.cons (bE Nd.pu _) .nil)))) (aM ok5 (by simp) (aJ ?_)) (.bool _));unfold yc at h;unfold ac5;refine aj ?_;refine au (atO) ?_;obtain⟨p2,e1,h⟩:=ak h;refine aj ?_;refine au (atw e1) ?_;refine aj ?_;obtain⟨o4,h5,h⟩:=ak h;refine NC aL (!p2) _ _ _ (Fr.refl _ _) av _ h5 _ ?_
 ·rintro p6 σ' eo fr7 s10;rw [eo]at h;have s11:σ' 0=(.ah (aX.map (dx Nd.cells)) .unk):=(fr7 0 (by decide)).trans av;have s12:σ' 1=(.ah (aL.map aK) .unk):=(fr7 1 (by decide)).trans av;have s13:σ' 2=(.ah (dX.map Nd.cells) .unk):=(fr7 2 (by decide)).trans av;obtain⟨e14,h⟩|⟨e14,h⟩:=aA h
  ·cases h;refine aj ?_;exact(.pure _ (.bool _))
  ·obtain⟨p16,e15,h⟩:=ak h;refine aj ?_;refine au (aen e15) ?_;obtain⟨uX,e17,h⟩:=ak h;refine aj ?_;refine au (Rn e17) ?_;obtain⟨Dh,e19,h⟩:=ak h;refine aj ?_;refine au (Ro e19) ?_;obtain⟨rP,e21,h⟩:=ak h;refine aj ?_;refine au (Ol e21) ?_;obtain⟨xg,e23,h⟩:=ak h;refine aj ?_;refine au (Zk e23) ?_;obtain⟨e25,h⟩|⟨e25,h⟩:=aA h
   ·obtain⟨e26,h⟩|⟨e26,h⟩:=aA h
    ·cases h;refine aj ?_;exact(.pure _ (.bool _))
    ·cases h;refine aj ?_;exact(.pure _ (.bool _))
   ·obtain⟨e27,h⟩|⟨e27,h⟩:=aA h
    ·obtain⟨p29,e28,h⟩:=ak h;refine aj ?_;refine au (aga e28) ?_;cases h;refine aj ?_;exact(.pure _ (.bool _))
    ·cases h;refine aj ?_;exact(.pure _ (.bool _))
end Go.VL
end
section
namespace Go.VL
theorem ND (e:List Nd):Ev (fun k=>Fa k e) (nX e&&(decide (e.length<=30)||decide (160<e.length))):=by
 unfold Fa;refine Ev.bind (an3 e) ?_;cases nX e with
 |false=>exact Ev.cF rfl (Ev.some' rfl)
 |true=>
  refine Ev.cT rfl ?_;by_cases h:e.length<=30
  · exact Ev.cT (decide_eq_true (by omega)) (Ev.some' (by simp [h]))
  · refine Ev.cF (decide_eq_false (by omega)) (Ev.some' ?_);rw [decide_eq_false h,Bool.true_and,Bool.false_or];exact decide_eq_decide.2 (by omega)
theorem aox (s:Sq): ∃b,Ev (fun k=>Ky k s) b/\(b=true->s.hyps.length<=14/\(∀x∈s.hyps,nX x=true)/\nX s.goal=true):=by
 by_cases hl:14<s.hyps.length
 · refine⟨false,?_,fun h=>by cases h⟩;unfold Ky Bw;exact Ev.bind (x:= .inr false) (Ev.cT (decide_eq_true (by omega)) Ev.some) Ev.some
 cases hg:nX s.goal&&(decide (s.goal.length<=30)||decide (160<s.goal.length))with
 |false=>
  refine⟨false,?_,fun h=>by cases h⟩;unfold Ky Bw;exact Ev.bind (x:= .inr false) (Ev.cF (decide_eq_false (by omega)) (Ev.bind (ND _) (Ev.cF hg Ev.some))) Ev.some
 |true=>
 have hn:s.hyps.length<=1099511627776:=by omega
 have key:Ev (fun k=>wS k s.hyps s.goal ((0:Nat):Int)) (if(s.hyps.drop 0).all (fun e=>nX e&&(decide (e.length<=30)||decide (160<e.length)))=true then .inl ()else .inr false):=by
  refine gF (len:=s.hyps.length) (p:=fun i=>Ev (fun k=>wS k s.hyps s.goal (i:Int)) (if(s.hyps.drop i).all (fun e=>nX e&&(decide (e.length<=30)||decide (160<e.length)))=true then .inl ()else .inr false)) ?_ fun i hi ih=> ?_
  · refine Ev.succ ?_;simp only [wS];exact Ev.cF (fT _) (Ev.some' (by simp))
  · refine Ev.succ ?_;simp only [wS,Int.toNat_natCast,aW hi,Option.bind_some,nn,if_true,gP hi,cond_true,dw hi hn];refine Ev.bind (ND _) ?_;rw [drop_cons hi,List.all_cons];cases(nX s.hyps[i]&&(decide (s.hyps[i].length<=30)||decide (160<s.hyps[i].length)))with
    |true=>exact Ev.cT rfl (ih.to (by rw [Bool.true_and]))
    |false=>exact Ev.cF rfl (Ev.some' (by rw [Bool.false_and];rfl))
 rw [List.drop_zero]at key;have first:Ev (fun k=>Bw k s.hyps s.goal) (.inl ()):=by
  unfold Bw;exact Ev.cF (decide_eq_false (by omega)) (Ev.bind (ND _) (Ev.cT hg Ev.some))
 cases ha:s.hyps.all (fun e=>nX e&&(decide (e.length<=30)||decide (160<e.length)))with
 |false=>
  rw [ha]at key;refine⟨false,?_,fun h=>by cases h⟩;unfold Ky;exact Ev.bind first (Ev.bind key Ev.some)
 |true=>
  rw [ha]at key;refine⟨true,?_,fun _=>⟨by omega,fun x hx=> ?_,?_⟩⟩
  · unfold Ky;exact Ev.bind first (Ev.bind key Ev.some)
  · have:=List.all_eq_true.1 ha x hx;exact(Bool.and_eq_true _ _▸this).1
  · exact(Bool.and_eq_true _ _▸hg).1
theorem abd {l:List (List Nd)} (h: ∀x∈l,nX x=true) (hl:l.length<=1000):Ev (fun k=>Ej k l) l:=by
 have key: ∀acc:List (List Nd),acc.length+(l.drop 0).length<=1000->Ev (fun k=>mg k l acc ((0:Nat):Int)) (acc++l.drop 0):=by
  refine gF (len:=l.length) (p:=fun i=> ∀acc:List (List Nd),acc.length+(l.drop i).length<=1000->Ev (fun k=>mg k l acc (i:Int)) (acc++l.drop i)) ?_ fun i hi ih=> ?_
  · intro acc ha;refine Ev.succ ?_;simp only [mg];exact Ev.cF (fT _) (Ev.some' (by simp))
  · intro acc ha;rw [drop_cons hi]at ha⊢;simp only [List.length_cons]at ha;refine Ev.succ ?_;simp only [mg,Int.toNat_natCast,aW hi,Option.bind_some,nn,if_true,gP hi,cond_true,dw hi (show l.length<=1099511627776 by omega)];refine Ev.bind (Qe (EZ (h _ (List.getElem_mem hi)))) (Ev.lg (by omega) ((ih (acc++[l[i]]) ?_).to ?_))
    · simp only [List.length_append,List.length_cons,List.length_nil];omega
    · simp
 unfold Ej;exact Ev.bind (key [] (by simpa using hl)) (Ev.some' (by simp))
end Go.VL
end
section
namespace Go.VL
theorem QD (l:List (List Nd)) (ns:List Int) (g:List Nd):Ev (fun k=>yc k l ns g) true:=by
 unfold yc;obtain⟨b,hb,hf⟩:=aox ⟨l,g⟩;refine Ev.bind hb ?_;have hp:qj ns (!b)=some (!b||decide (14<ns.length)):=by
  unfold qj;cases b with
  |false=>rfl
  |true=>
   rw [Bool.not_true,cond_false,Bool.false_or];exact congrArg some (decide_eq_decide.2 (by omega))
 simp only [hp,Option.bind_some];cases b with
 |false=>exact Ev.cT rfl Ev.some
 |true=>
  obtain⟨h1,h2,h3⟩:l.length<=14/\(∀x∈l,nX x=true)/\nX g=true:=hf rfl;by_cases hn:14<ns.length
  · exact Ev.cT (by rw [decide_eq_true hn];rfl) Ev.some
  have ho:vO ns=some ns:=by
   unfold vO;rw [if_pos (by simp only [List.length_nil];omega)];rfl
  refine Ev.cF (by rw [decide_eq_false hn];rfl) (Ev.bind (abd h2 (by omega)) ?_);simp only [ho,Option.bind_some];refine Ev.bind (Qe (EZ h3)) ?_;rcases fby (l:=l) (ns:=ns) (g:=g) h2 h3 h1 (by omega)with⟨d,d0,f1,f2⟩|⟨r,f1,f2,f3,_⟩
  · exact Ev.bind f1 (Ev.bind f2 (Ev.cT (by rw [bne_iff_ne];exact d0) (Ev.cT (beq_self_eq_true _) (Ev.some' rfl))))
  · exact Ev.bind f1 (Ev.bind f2 (Ev.cF rfl (Ev.cT rfl (Ev.bind f3 (Ev.some' (by simp))))))
end Go.VL
namespace Go.Proofs.YtpkbfdgohkakaaaGreatDoor.kernelFollows
open Go.VL
theorem MK (l:List (List Nd)) (ns:List Int) (g:List Nd):bg Tryz.prog 5 [.ah (l.map (dx Nd.cells)) .unk,.ah (ns.map aK) .unk,.ah (g.map Nd.cells) .unk] AH.empty fun v _=>v= .bool true:=by
 obtain⟨k,hk⟩:=(QD l ns g).get;exact bg.mono (Q6 hk AH.empty) fun _ _ h=>h.1
theorem proved:Rows.KernelFollowsCardSaid:=card MK
end Go.Proofs.YtpkbfdgohkakaaaGreatDoor.kernelFollows
end
