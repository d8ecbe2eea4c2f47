/- Part 10. -/
import Derived.Test.YtpkbfdgohkakaaaGreatDoorKc9
import Derived.Lib.ItoaNum
import Derived.KernelRfl
import Derived.Test.YtpkbfdgohkakaaaGreatDoorRows
import Derived.RangeFuncOwn
import Derived.TacticsIn
import Derived.TacticsInMore
import Derived.LoopIn
import Derived.Walk
import Derived.WalkKit
import Derived.Test.YtpkbfdgohkakaaaGreatDoorProg
set_option maxRecDepth 8000
set_option linter.unusedVariables false
set_option linter.unusedSectionVars false
set_option linter.unusedSimpArgs false
section
namespace Go.VL
def KS (n:Nd):Bool:=decide (n.args.length<=34)&&decide (n.names.length<=34)&&decide (n.text.length<=80)&&n.names.all fun s=>decide (s.length<=80)
def nX (e:List Nd):Bool:=(e.take 172).all KS&&decide (e.length<=170)
theorem afH {e:List Nd} {i:Nat} {n:Nd} (hn:e[i]? =some n) (hl:n.names.length<=34):Ev (fun k=>yJ k e (i:Int) ((0:Nat):Int)) (if(n.names.drop 0).all (fun s=>decide (s.length<=80))=true then .inl ()else .inr false):=by
 refine gF (len:=n.names.length) (p:=fun j=>Ev (fun k=>yJ k e (i:Int) (j:Int)) (if(n.names.drop j).all (fun s=>decide (s.length<=80))=true then .inl ()else .inr false)) ?_ fun j hj ih=> ?_
 · refine Ev.succ ?_;simp only [yJ,Int.toNat_natCast,hn,Option.bind_some,nn,if_true];exact Ev.cF (fT _) (Ev.some' (by simp))
 · refine Ev.succ ?_;simp only [yJ,Int.toNat_natCast,hn,aW hj,Option.bind_some,nn,if_true,gP hj,cond_true,dw hj (show n.names.length<=1099511627776 by omega)];rw [drop_cons hj];simp only [List.all_cons,Bool.and_eq_true,decide_eq_true_eq];by_cases h:n.names[j].length<=80
   · refine Ev.cF (decide_eq_false (by omega)) (ih.to ?_);simp only [h,true_and]
   · refine Ev.cT (decide_eq_true (by omega)) (Ev.some' ?_);simp only [h,false_and,if_false]
theorem RA (i:Nat) (m:Nat):I6 (i:Int) (decide ((i:Int)<(m:Int)))=some (decide (i<m)&&decide (i<172)):=by
 unfold I6;by_cases h:i<m
 · rw [wX (decide_eq_true (by omega)),decide_eq_true h,Bool.true_and];by_cases h2:i<172
   · rw [decide_eq_true h2,decide_eq_true (show(i:Int)<172 by omega)]
   · rw [decide_eq_false h2,decide_eq_false (show ¬(i:Int)<172 by omega)]
 · rw [pI (decide_eq_false (by omega)),decide_eq_false h,Bool.false_and]
theorem an3 (e:List Nd):Ev (fun k=>VY k e) (nX e):=by
 have hlen:(e.take 172).length=min 172 e.length:=List.length_take;have key:Ev (fun k=>yK k e ((0:Nat):Int)) (if((e.take 172).drop 0).all KS=true then .inl ()else .inr false):=by
  refine gF (len:=(e.take 172).length) (p:=fun i=>Ev (fun k=>yK k e (i:Int)) (if((e.take 172).drop i).all KS=true then .inl ()else .inr false)) ?_ fun i hi ih=> ?_
  · refine Ev.succ ?_;simp only [yK,RA];refine Ev.iK rfl (Ev.cF ?_ (Ev.some' (by rw [List.drop_length];rfl)));rw [Bool.and_eq_false_iff,decide_eq_false_iff_not,decide_eq_false_iff_not];omega
  · have hie:i<e.length:=by omega
    have ayK:i<172:=by omega
    have hget:(e.take 172)[i]'hi=e[i]:=by simp
    refine Ev.succ ?_;simp only [yK,RA,Int.toNat_natCast,aW hie,Option.bind_some,nn,if_true,decide_eq_true hie,decide_eq_true ayK,Bool.and_self,cond_true];rw [drop_cons hi,hget,dw ayK (by omega),List.all_cons];have hp:I7 e (i:Int) (decide ((e[i].args.length:Int)>34))=some (!(decide (e[i].args.length<=34)&&decide (e[i].names.length<=34)&&decide (e[i].text.length<=80))):=by
     unfold I7;simp only [Int.toNat_natCast,aW hie,Option.bind_some,nn,if_true];by_cases a:e[i].args.length<=34
     · rw [pI (decide_eq_false (by omega))];by_cases b:e[i].names.length<=34
       · rw [pI (decide_eq_false (by omega))];by_cases c:e[i].text.length<=80
         · rw [decide_eq_false (by omega)];simp [a,b,c]
         · rw [decide_eq_true (by omega)];simp [a,b,c]
       · rw [wX (decide_eq_true (by omega))];simp [a,b]
     · rw [wX (decide_eq_true (by omega))];simp [a]
    refine Ev.iK hp ?_;unfold KS;by_cases h3:(decide (e[i].args.length<=34)&&decide (e[i].names.length<=34)&&decide (e[i].text.length<=80))=true
    · rw [h3];simp only [Bool.and_eq_true,decide_eq_true_eq]at h3;have h0:=afH (aW hie) h3.1.2;rw [List.drop_zero]at h0;refine Ev.cF rfl (Ev.bind h0 ?_);cases h4:e[i].names.all fun s=>decide (s.length<=80)
      · simp only [Bool.false_eq_true,if_false,eT];exact Ev.some' (by simp)
      · simp only [if_true,dZ,Bool.true_and];exact ih
    · have h3:(decide (e[i].args.length<=34)&&decide (e[i].names.length<=34)&&decide (e[i].text.length<=80))=false:=by simpa using h3
      rw [h3];exact Ev.cT rfl (Ev.some' (by simp))
 unfold VY;refine Ev.bind key ?_;rw [List.drop_zero];unfold nX;cases(e.take 172).all KS
 · simp only [Bool.false_eq_true,if_false,eT,Bool.false_and];exact Ev.some
 · simp only [if_true,dZ,Bool.true_and];refine Ev.some' ?_;by_cases h:e.length<=170
   · rw [decide_eq_true h,decide_eq_true (show(e.length:Int)<=170 by omega)]
   · rw [decide_eq_false h,decide_eq_false (show ¬(e.length:Int)<=170 by omega)]
theorem Me {e:List Nd} (h:nX e=true):e.length<=170/\ ∀(i:Nat) n,e[i]? =some n->n.args.length<=34/\n.names.length<=34/\n.text.length<=80/\ ∀s∈n.names,s.length<=80:=by
 unfold nX at h;rw [Bool.and_eq_true,decide_eq_true_eq]at h;refine⟨h.2,fun i n hn=> ?_⟩;rw [List.take_of_length_le (by omega)]at h;have:=List.all_eq_true.1 h.1 n (List.mem_of_getElem? hn);unfold KS at this;simp only [Bool.and_eq_true,decide_eq_true_eq,List.all_eq_true]at this;exact⟨this.1.1.1,this.1.1.2,this.1.2,this.2⟩
theorem EZ {e:List Nd} (h:nX e=true):oz e:=by
 obtain⟨h1,h2⟩:=Me h;exact⟨by omega,fun i n hn=>by have:=h2 i n hn;omega⟩
theorem Qe {e:List Nd} (hL:oz e):Ev (fun k=>BO k e) e:=by
 have hlen:=hL.len;have key: ∀i,i<=e.length->Ev (fun k=>pQ k e (e.take i) (i:Int)) e:=by
  refine down ?_ fun i hi ih=> ?_
  · refine Ev.succ ?_;simp only [pQ];exact Ev.cF (fT _) (Ev.some' (by simp))
  · refine Ev.succ ?_;obtain⟨h1,h2,h3⟩:=hL.nd i _ (aW hi);have e1:lY e[i].names=some e[i].names:=by
     unfold lY;rw [if_pos (by simp;omega)];rfl
    have e2:vO e[i].args=some e[i].args:=by
     unfold vO;rw [if_pos (by simp;omega)];rfl
    have e3:((e.take i).length+1)*80<=1099511627776:=by rw [List.length_take];omega
    simp only [pQ,Int.toNat_natCast,aW hi,Option.bind_some,nn,if_true,gP hi,cond_true,dw hi (show e.length<=1099511627776 by omega),e1,e2,if_pos e3];rw [<-List.take_succ_eq_append_getElem hi];exact ih
 unfold BO;exact Ev.bind (key 0 (Nat.zero_le _)) Ev.some
end Go.VL
end
section
namespace Go.VL
open Tm
section
variable {e:List Nd} (hV:Valid e) (hL:oz e) (hF:Bv e)
include hV hL hF
theorem aiW: ∃(vs:List (Nat×List Str)),(∀(α:Type) (step:α->Int->List Str->Option α) (k:Nat) (a:α),1000<=k->zY step e k (IntKind.wrap .i64 ((e.length:Int) -1)) [] a=D9 step vs a)/\
 (∀v∈vs,Ev (fun k=>zi k e (v.1:Int)) v.2/\v.2.length<=10000/\v.1<e.length)/\(∀i<e.length,∃q,(i,q)∈vs)/\vs.length=e.length/\0<e.length:=by
 obtain⟨t,he⟩:=hV.tree;have hlen:=hF.len;have hs:=t.size_pos;have hsz:e.length=t.size:=by rw [he,bG]
 have hS:Seg e 0 t:=by rw [he];exact Seg.whole t
 have hw:IntKind.wrap .i64 ((e.length:Int) -1)=((0+t.size -1:Nat):Int):=by rw [wrap64 (by omega) (by omega)];omega
 refine⟨vis 0 [] t,fun α step k a hk=> ?_,?_,fun i hi=>agX t 0 [] i (Nat.zero_le _) (by omega),by rw [agY,hsz],by omega⟩
 · rw [hw];exact adv hF step t 0 [] k a hS (by omega) (by simp only [List.length_nil];omega)
 · refine Z7 he hL hF t 0 [] hS ?_ (by simp only [List.length_nil];omega);rw [Nat.zero_add];exact as9 he hL hF
theorem alb: ∃r,Ev (fun k=>Ee k e) r/\Ev (fun k=>zk k e) r/\r.length<=1000:=by
 obtain⟨vs,hw,hvs,hall,hlen,hpos⟩:=aiW hV hL hF;have hl:=hF.len;have hfr:=adI (e:=e) vs [] (fun v hv=>(hvs v hv).2) (by simp only [List.length_nil];omega);rw [List.nil_append]at hfr;have hfl:(vs.filterMap (qZ e)).length<=170:=Nat.le_trans (List.length_filterMap_le _ _) (by omega);have h1:Ev (fun k=>Ee k e) (Nc (vs.filterMap (qZ e))):=by
  unfold Ee;refine Ev.bind (x:=vs.filterMap (qZ e)) ?_ (Ev.lg (by omega) Ev.some);obtain⟨K,hK⟩:=hfr;exact⟨max K 1000,fun k hk=>(hw _ _ k _ (by omega)).trans (hK k (by omega))⟩
 have hsl: ∀(l a:List Str),(l.foldl (fun a s=>wJ s a) a).length<=a.length+l.length:=by
  intro l
  induction l with
  |nil=>intro a;exact Nat.le_refl _
  |cons s l ih=>
   intro a;rw [List.foldl_cons];have:=ih (wJ s a);have:=adA s a;simp only [List.length_cons];omega
 refine⟨_,h1,?_,by have:=hsl (vs.filterMap (qZ e)) [];unfold Nc;simp only [List.length_nil]at this;omega⟩
 have key: ∀i,i<=e.length-> ∀out:List Str,out.length<=i->out.Pairwise (·< ·)-> ∃r,Ev (fun k=>jL k e out (i:Int)) r/\r.Pairwise (·< ·)/\ ∀y,y∈r↔y∈out\/ ∃v∈vs,i<=v.1/\qZ e v=some y:=by
  refine down (fun out _ ha=> ?_) fun i hi ih out ho ha=> ?_
  · refine⟨out,Ev.succ ?_,ha,fun y=>⟨.inl,?_⟩⟩
    · simp only [jL];exact Ev.cF (fT _) (Ev.some' rfl)
    · rintro(h|⟨v,hv,h1,_⟩)
      · exact h
      · have:=(hvs v hv).2.2;omega
  · obtain⟨q,hq⟩:=hall i hi;have hu: ∀v∈vs,v.1=i->v.2=q:=by
     intro v hv hvi;have h2:=(hvs v hv).1;rw [hvi]at h2;exact h2.uniq (hvs _ hq).1
    have hfi:qZ e (i,q)=if(kR e[i]&& !decide (e[i].text∈q))=true then some e[i].text else none:=by unfold qZ;simp only [aW hi]
    have hstep: ∀(out':List Str),(∀y,y∈out'↔y∈out\/qZ e (i,q)=some y)-> ∀y,(y∈out'\/ ∃v∈vs,i+1<=v.1/\qZ e v=some y)↔(y∈out\/ ∃v∈vs,i<=v.1/\qZ e v=some y):=by
     intro out' h y;rw [h y];constructor
     · rintro((h2|h2)|⟨v,hv,h2,h3⟩)
       · exact .inl h2
       · exact .inr ⟨_,hq,Nat.le_refl _,h2⟩
       · exact .inr ⟨v,hv,by omega,h3⟩
     · rintro(h2|⟨v,hv,h2,h3⟩)
       · exact .inl (.inl h2)
       · by_cases h4:v.1=i
         · obtain⟨v1,v2⟩:=v;have h5:=hu _ hv h4;simp only at h4 h5;subst h4 h5;exact .inl (.inr h3)
         · exact .inr ⟨v,hv,by omega,h3⟩
    have hne: ∀r,Ev (fun k=>jL k e out ((i+1:Nat):Int)) r->qZ e (i,q)=none->True:=fun _ _ _=>trivial;have hnm:=WI (hF.ok i _ (aW hi)) (by have:=(hL.nd i _ (aW hi)).1;omega);have hbd:=(hvs _ hq).1;by_cases h2:kR e[i]=true
    · by_cases h3:e[i].text∈q
      · obtain⟨r,h4,h5,h6⟩:=ih out (by omega) ha;refine⟨r,Ev.succ ?_,h5,fun y=>(h6 y).trans (hstep out (fun y=> ?_) y)⟩
        · simp only [jL,Int.toNat_natCast,aW hi,Option.bind_some,nn,if_true,gP hi,cond_true,dw hi (show e.length<=1099511627776 by omega)];refine Ev.bind hnm (Ev.cT h2 (Ev.bind hbd (Ev.bind (sN _ _ (show q.length<=1099511627776 by have:=(hvs _ hq).2.1;simp only at this;omega)) (Ev.cT (decide_eq_true h3) h4))))
        · rw [hfi,h2];simp [h3]
      · obtain⟨r,h4,h5,h6⟩:=ih (wJ e[i].text out) (by have:=adA e[i].text out;omega) (U1 ha);refine⟨r,Ev.succ ?_,h5,fun y=>(h6 y).trans (hstep _ (fun y=> ?_) y)⟩
        · simp only [jL,Int.toNat_natCast,aW hi,Option.bind_some,nn,if_true,gP hi,cond_true,dw hi (show e.length<=1099511627776 by omega)];refine Ev.bind hnm (Ev.cT h2 (Ev.bind hbd (Ev.bind (sN _ _ (show q.length<=1099511627776 by have:=(hvs _ hq).2.1;simp only at this;omega)) (Ev.cF (decide_eq_false h3) (Ev.bind (an0 _ _ (by omega)) h4)))))
        · rw [Nf,hfi,h2];simp [h3];constructor
          · rintro(rfl|h)
            · exact .inr rfl
            · exact .inl h
          · rintro(h|rfl)
            · exact .inr h
            · exact .inl rfl
    · have h2:kR e[i]=false:=by simpa using h2
      obtain⟨r,h4,h5,h6⟩:=ih out (by omega) ha;refine⟨r,Ev.succ ?_,h5,fun y=>(h6 y).trans (hstep out (fun y=> ?_) y)⟩
      · simp only [jL,Int.toNat_natCast,aW hi,Option.bind_some,nn,if_true,gP hi,cond_true,dw hi (show e.length<=1099511627776 by omega)];exact Ev.bind hnm (Ev.cF h2 h4)
      · rw [hfi,h2];simp
 obtain⟨r,h4,h5,h6⟩:=key 0 (Nat.zero_le _) [] (Nat.le_refl _) List.Pairwise.nil;have:Nc (vs.filterMap (qZ e))=r:=by
  refine ady (adw _) h5 fun y=> ?_;rw [adx,h6 y,List.mem_filterMap];simp only [List.not_mem_nil,false_or,Nat.zero_le,true_and]
 rw [this];unfold zk;exact Ev.bind h4 Ev.some
end
theorem an4 {e:List Nd} (h:nX e=true) (hV:Valid e):Bv e:=⟨(Me h).1,hV.ok,fun i n hn=>⟨((Me h).2 i n hn).1,((Me h).2 i n hn).2.1⟩⟩
def an5 (e:List Nd) (i:Nat):Int×Int:=match Gw (i:Int) (e.drop (i+1)) (i+1)with
 |some q=>((q.1:Int),(q.2:Int))
 |none=>(-1,0)
def U3 (e:List Nd):List (Int×Int):=(List.range e.length).map (an5 e)
theorem aa2 {e:List Nd} (hL:oz e) {i:Nat} (hi:i<e.length):Ev (fun k=>qD k e (i:Int)) (an5 e i):=by
 have hlen:=hL.len;unfold qD an5;rw [dw hi (by omega)];refine Ev.bind (Mc hL (i:Int) (i+1) (by omega)) ?_;cases Gw (i:Int) (e.drop (i+1)) (i+1)with
 |some q=>obtain⟨k',j'⟩:=q;simp only [eT];exact Ev.some
 |none=>simp only [dZ];exact Ev.some
theorem YS {ts:List Tm} {e:List Nd} (he:e=bn 0 ts) (hL:oz e):bL 0 ts=U3 e:=by
 have hl:(bL 0 ts).length=e.length:=by rw [vQ,<-dF 0 ts,<-he]
 refine List.ext_getElem? fun i=> ?_;by_cases hi:i<e.length
 · obtain⟨P,j,hU⟩: ∃P j,(bL 0 ts)[i]? =some (P,j):=⟨_,_,aW (by omega)⟩;rw [hU,(AQ he hL hi hU).uniq (aa2 hL hi)];simp [U3,hi]
 · rw [List.getElem?_eq_none (by omega),List.getElem?_eq_none (by simp [U3];omega)]
def chk (e:List Nd):Int×Int:=if e.length=0 then(0,1)else if 160<e.length then(0,2)else match jA [] e with
 | .inr p=>p
 | .inl acc=>match zX e (U3 e) e.length 0 with
  |some j=>((j:Int),30)
  |none=>if acc[e.length -1]?.getD 0=0 then(0,0)else(((e.length -1:Nat):Int),15)
theorem RB {e:List Nd} (hL:oz e):Ev (fun k=>iG k e) (chk e):=by
 have hlen:=hL.len;unfold chk;by_cases h0:e.length=0
 · rw [if_pos h0];unfold iG;simp only [tC,Option.bind_some,h0];refine Ev.bind (zW _ (by simp)) ?_;exact Ev.cT (by rfl) Ev.some
 rw [if_neg h0];by_cases h1:160<e.length
 · rw [if_pos h1];unfold iG;have a:((e.length:Int)==0)=false:=by rw [beq_eq_false_iff_ne];omega
   have b:decide ((e.length:Int)>160)=true:=decide_eq_true (by omega);simp only [tC,Option.bind_some,a,b];refine Ev.bind (zW _ (by simp)) ?_;exact Ev.cT (by rfl) Ev.some
 rw [if_neg h1];have a:((e.length:Int)==0)=false:=by rw [beq_eq_false_iff_ne];omega
 have b:decide ((e.length:Int)>160)=false:=decide_eq_false (by omega);have st:=GL hL 0 (Nat.zero_le _) [] (rT.zero e);rw [List.drop_zero]at st;have Ji: ∀r,Ev (fun k=>Option.bind (jJ k e ([]:List Int) (e.length:Int) ((0:Nat):Int)) (fun o=>Sum.elim (fun p40=>(yV k e).bind fun p51=>Option.bind (jK k e p51.1 p51.2 (e.length:Int) ((0:Nat):Int)) (fun o=>Sum.elim (fun p58=>if 0<=(IntKind.wrap .i64 ((e.length:Int) -1))then (p40[(IntKind.wrap .i64 ((e.length:Int) -1)).toNat]?).bind fun x65=>cond (x65 !=0) (some ((IntKind.wrap .i64 ((e.length:Int) -1)),15)) (some (0,0))else none) (fun p74=>some (p74.1,p74.2)) o)) (fun xX=>some (xX.1,xX.2)) o)) r->Ev (fun k=>iG k e) r:=by
  intro r hr;unfold iG;simp only [tC,Option.bind_some,a,b];refine Ev.bind (zW _ (by simp)) ?_;exact Ev.cF (by rfl) hr
 cases hs:jA [] e with
 |inr p=>
  rw [hs]at st;refine Ji _ (Ev.bind st ?_);simp only [eT];exact Ev.some
 |inl acc=>
  rw [hs]at st;obtain⟨ts,he,hacc,hpar⟩:=P8 hL hs;have lt:=GN he hL 0 (Nat.zero_le _);have hU:=YS he hL;rw [hU]at hpar;rw [hU,Nat.sub_zero]at lt;simp only;cases hl:zX e (U3 e) e.length 0 with
  |some j=>
   rw [hl]at lt;refine Ji _ (Ev.bind st ?_);simp only [dZ];refine Ev.bind hpar (Ev.bind lt ?_);simp only [eT];exact Ev.some
  |none=>
   rw [hl]at lt;have hal:acc.length=e.length:=by rw [hacc,uL,he,dF]
   have h4:acc[e.length -1]? =some acc[e.length -1]:=aW (by omega);have hw:IntKind.wrap .i64 ((e.length:Int) -1)=((e.length -1:Nat):Int):=by rw [wrap64 (by omega) (by omega)];omega
   refine Ji _ (Ev.bind st ?_);simp only [dZ];refine Ev.bind hpar (Ev.bind lt ?_);simp only [dZ,hw,Int.toNat_natCast,h4,Option.bind_some,nn,if_true,Option.getD_some];by_cases hb:acc[e.length -1]=0
   · exact Ev.cF (by rw [hb];rfl) (Ev.some' (by simp [hb]))
   · exact Ev.cT (by rw [bne_iff_ne];exact hb) (Ev.some' (by simp [hb]))
theorem YT (a b:List Int) (hl:a.length<=1099511627776):Ev (fun k=>Av k a b) (decide (a=b)):=by
 unfold Av;by_cases hab:a.length=b.length
 · refine Ev.cF (by simp [hab]) ?_;have key:Ev (fun k=>mJ k a b ((0:Nat):Int)) (if a.drop 0=b.drop 0 then .inl ()else .inr false):=by
    refine gF (len:=a.length) (p:=fun i=>Ev (fun k=>mJ k a b (i:Int)) (if a.drop i=b.drop i then .inl ()else .inr false)) ?_ fun i hi ih=> ?_
    · refine Ev.succ ?_;simp only [mJ];refine Ev.cF (fT _) (Ev.some' ?_);simp [hab]
    · have hi':i<b.length:=hab▸hi;refine Ev.succ ?_;simp only [mJ,Int.toNat_natCast,aW hi,aW hi',Option.bind_some,nn,if_true,gP hi,cond_true,dw hi hl];have e1:List.drop i a=a[i]::List.drop (i+1) a:=List.drop_eq_getElem_cons hi;have e2:List.drop i b=b[i]::List.drop (i+1) b:=List.drop_eq_getElem_cons hi';by_cases h:a[i]=b[i]
      · refine Ev.cF (by rw [bne_eq_false_iff_eq];exact h) (ih.to ?_);rw [e1,e2];simp only [h,List.cons.injEq,true_and]
      · refine Ev.cT (by rw [bne_iff_ne];exact h) (Ev.some' ?_);rw [if_neg];intro e;rw [e1,e2,List.cons.injEq]at e;exact h e.1
   refine Ev.bind key ?_;by_cases h:a=b
   · subst h;simp only [if_true,dZ,decide_true];exact Ev.some
   · simp only [List.drop_zero,h,if_false,eT,decide_false];exact Ev.some
 · refine Ev.cT (by simp;omega) (Ev.some' ?_);exact(decide_eq_false fun e=>hab (by rw [e])).symm
theorem aa3 (x y:Nd) (h1:x.names.length<=1000000) (h2:x.args.length<=1000000):Ev (fun k=>Dk k x y) (decide (x=y)):=by
 unfold Dk;obtain⟨k1,n1,t1,m1,a1⟩:=x;obtain⟨k2,n2,t2,m2,a2⟩:=y;simp only at h1 h2;simp only [Nd.mk.injEq];by_cases e1:k1=k2
 · refine Ev.cT (by rw [beq_iff_eq];exact e1) ?_;by_cases e2:n1=n2
   · refine Ev.cT (by rw [beq_iff_eq];exact e2) ?_;by_cases e3:t1=t2
     · refine Ev.cT (by rw [beq_iff_eq];exact e3) (Ev.bind (V4 m1 m2 (by omega)) ?_);by_cases e4:m1=m2
       · refine Ev.cT (decide_eq_true e4) (Ev.bind (YT a1 a2 (by omega)) (Ev.some' ?_));simp [e1,e2,e3,e4]
       · exact Ev.cF (decide_eq_false e4) (Ev.some' (by simp [e4]))
     · exact Ev.cF (by rw [beq_eq_false_iff_ne];exact e3) (Ev.some' (by simp [e3]))
   · exact Ev.cF (by rw [beq_eq_false_iff_ne];exact e2) (Ev.some' (by simp [e2]))
 · exact Ev.cF (by rw [beq_eq_false_iff_ne];exact e1) (Ev.some' (by simp [e1]))
theorem aa4 {a b:List Nd} (hL:oz a):Ev (fun k=>zK k a b) (decide (a=b)):=by
 have hl:=hL.len;unfold zK;by_cases hab:a.length=b.length
 · refine Ev.cF (by simp [hab]) ?_;have key:Ev (fun k=>nO k a b ((0:Nat):Int)) (if a.drop 0=b.drop 0 then .inl ()else .inr false):=by
    refine gF (len:=a.length) (p:=fun i=>Ev (fun k=>nO k a b (i:Int)) (if a.drop i=b.drop i then .inl ()else .inr false)) ?_ fun i hi ih=> ?_
    · refine Ev.succ ?_;simp only [nO];refine Ev.cF (fT _) (Ev.some' ?_);simp [hab]
    · have hi':i<b.length:=hab▸hi;refine Ev.succ ?_;obtain⟨_,h2,h3⟩:=hL.nd i _ (aW hi);simp only [nO,Int.toNat_natCast,aW hi,aW hi',Option.bind_some,nn,if_true,gP hi,cond_true,dw hi (show a.length<=1099511627776 by omega)];have e1:List.drop i a=a[i]::List.drop (i+1) a:=List.drop_eq_getElem_cons hi;have e2:List.drop i b=b[i]::List.drop (i+1) b:=List.drop_eq_getElem_cons hi';refine Ev.bind (aa3 _ _ h2 h3) ?_;by_cases h:a[i]=b[i]
      · refine Ev.cT (decide_eq_true h) (ih.to ?_);rw [e1,e2];simp only [h,List.cons.injEq,true_and]
      · refine Ev.cF (decide_eq_false h) (Ev.some' ?_);rw [if_neg];intro e;rw [e1,e2,List.cons.injEq]at e;exact h e.1
   refine Ev.bind key ?_;by_cases h:a=b
   · subst h;simp only [if_true,dZ,decide_true];exact Ev.some
   · simp only [List.drop_zero,h,if_false,eT,decide_false];exact Ev.some
 · refine Ev.cT (by simp;omega) (Ev.some' ?_);exact(decide_eq_false fun e=>hab (by rw [e])).symm
theorem adK {α:Type} [DecidableEq α]: ∀{l m:List α},l.Nodup->(∀x∈l,x∈m)->l.length<=m.length
 |[],m,_,_=>Nat.zero_le _
 |x::l,m,hd,hs=>by
  have hx:=hs x List.mem_cons_self;obtain⟨h1,h2⟩:=List.nodup_cons.1 hd;have ih:=adK (l:=l) (m:=m.erase x) h2 fun y hy=>by
   have hne:y≠x:=fun e=>h1 (e▸hy);exact(List.mem_erase_of_ne hne).2 (hs y (List.mem_cons_of_mem _ hy))
  have hl:=List.length_erase_of_mem hx;have:=List.length_pos_of_mem hx;simp only [List.length_cons];omega
end Go.VL
end
section
namespace Go.VL
def dval (s:Str):Nat:=s.foldl (fun a c=>a*10+(c.toNat -48)) 0
theorem YU {d:Nat} (h:d<10):(UInt8.ofNat (48+d)).toNat=48+d:=by
 rw [UInt8.toNat_ofNat'];omega
theorem U4: ∀(m u:Nat),u<=m->dval (Lib.decDigits u)=u
 |0,u,h=>by
  have:u=0:=by omega
  subst this;rw [Lib.decDigits,dif_pos (by omega)];simp only [dval,List.foldl_cons,List.foldl_nil,YU (show 0<10 by omega)]
 |m+1,u,h=>by
  rw [Lib.decDigits];split
  · rename_i h1;simp only [dval,List.foldl_cons,List.foldl_nil,YU h1];omega
  · have:=U4 m (u/10) (by omega);unfold dval at this⊢;rw [List.foldl_append,this];simp only [List.foldl_cons,List.foldl_nil,YU (show u% 10<10 by omega)];omega
theorem ata {u v:Nat} (h:Lib.decDigits u=Lib.decDigits v):u=v:=by
 rw [<-U4 u u (Nat.le_refl _),<-U4 v v (Nat.le_refl _),h]
theorem adL (u:Nat):Lib.itoa (u:Int)=Lib.decDigits u:=by unfold Lib.itoa;rw [if_neg (by omega)];simp
def bN (n:Nat):Str:=Pt (n:Int)
theorem WJ (n:Nat):bN n=98::95::Lib.decDigits n:=by unfold bN Pt;rw [adL]
theorem alc {u v:Nat} (h:bN u=bN v):u=v:=by
 rw [WJ,WJ]at h;exact ata (List.cons.inj (List.cons.inj h).2).2
theorem Ko: ∀(k u:Nat),u<10^(k+1)->(Lib.decDigits u).length<=k+1
 |0,u,h=>by rw [Lib.decDigits,dif_pos (by simpa using h)];simp
 |k+1,u,h=>by
  rw [Lib.decDigits];split
  · simp
  · have:=Ko k (u/10) (by rw [Nat.pow_succ]at h;omega);simp;omega
theorem ayL {n:Nat} (h:n<10000):(bN n).length<=6:=by
 rw [WJ];have:=Ko 3 n (by simpa using h);simp;omega
def cnt (left:List Str) (c:Nat):Nat:=((List.range c).filter fun j=>decide (bN (j+1)∈left)).length
theorem E5 (left:List Str) (c:Nat):cnt left (c+1)=cnt left c+if bN (c+1)∈left then 1 else 0:=by
 unfold cnt;rw [List.range_succ,List.filter_append,List.length_append];by_cases h:bN (c+1)∈left<;>simp [h]
theorem WK (left:List Str) (c:Nat):cnt left c<=left.length:=by
 unfold cnt;have hn:(((List.range c).filter fun j=>decide (bN (j+1)∈left)).map fun j=>bN (j+1)).Nodup:=by
  refine List.Pairwise.map _ ?_ (List.Pairwise.filter _ List.nodup_range);intro a b hab h;exact hab (by have:=alc h;omega)
 have:=adK hn (m:=left) (fun x hx=>by
  obtain⟨j,hj,rfl⟩:=List.mem_map.1 hx;simpa using (List.mem_filter.1 hj).2)
 rwa [List.length_map]at this
def F9 (left:List Str):Nat->Nat->Nat
 |0,c=>c+1
 |f+1,c=>if bN (c+1)∈left then F9 left f (c+1)else c+1
def wM (left:List Str) (c:Nat):Nat:=F9 left left.length c
theorem adM (left:List Str): ∀(f c:Nat),left.length<=f+cnt left c->bN (F9 left f c)∉left/\c<F9 left f c/\F9 left f c+cnt left c=c+1+cnt left (F9 left f c)
 |0,c,h=>by
  have h1:=E5 left c;have h2:=WK left (c+1);have hn:bN (c+1)∉left:=fun hm=>by rw [if_pos hm]at h1;omega
  rw [if_neg hn]at h1;refine⟨hn,by unfold F9;omega,?_⟩;unfold F9;omega
 |f+1,c,h=>by
  have h1:=E5 left c;rw [F9];by_cases hm:bN (c+1)∈left
  · rw [if_pos hm]at h1⊢;obtain⟨a,b,d⟩:=adM left f (c+1) (by omega);exact⟨a,by omega,by omega⟩
  · rw [if_neg hm]at h1⊢;exact⟨hm,by omega,by omega⟩
theorem Ga (left:List Str) (c:Nat):bN (wM left c)∉left/\c<wM left c/\wM left c+cnt left c=c+1+cnt left (wM left c):=adM left _ c (by omega)
def mZ (left:List Str):Nat->Nat->List Str×Nat
 |0,c=>([],c)
 |m+1,c=>(bN (wM left c)::(mZ left m (wM left c)).1,(mZ left m (wM left c)).2)
theorem Z8 (left:List Str): ∀m c,(mZ left m c).1.length=m
 |0,_=>rfl
 |m+1,c=>by rw [mZ,List.length_cons,Z8 left m]
theorem Z9 (left:List Str): ∀m c,(mZ left m c).2+cnt left c=c+m+cnt left (mZ left m c).2
 |0,c=>by simp only [mZ];omega
 |m+1,c=>by
  have h1:=(Ga left c).2.2;have h2:=Z9 left m (wM left c);simp only [mZ];omega
theorem Jq (left:List Str): ∀m c,c<=(mZ left m c).2
 |0,c=>Nat.le_refl _
 |m+1,c=>by
  have h1:=(Ga left c).2.1;have h2:=Jq left m (wM left c);simp only [mZ];omega
theorem Qf (left:List Str): ∀m c s,s∈(mZ left m c).1->s∉left/\ ∃n,s=bN n/\c<n/\n<=(mZ left m c).2
 |0,c,s,h=>by cases h
 |m+1,c,s,h=>by
  obtain⟨h1,h2,_⟩:=Ga left c;have h3:=Jq left m (wM left c);simp only [mZ]at h⊢;rcases List.mem_cons.1 h with rfl|h
  · exact⟨h1,_,rfl,h2,h3⟩
  · obtain⟨a,n,rfl,b,d⟩:=Qf left m (wM left c) s h;exact⟨a,n,rfl,by omega,d⟩
theorem RD (left:List Str): ∀m c,(mZ left m c).1.Nodup
 |0,c=>List.Pairwise.nil
 |m+1,c=>by
  simp only [mZ];refine List.nodup_cons.2 ⟨fun h=> ?_,RD left m _⟩;obtain⟨_,n,e,h1,_⟩:=Qf left m _ _ h;have:=alc e;omega
theorem ald:(List.range 10).all (fun d=>decide ((([48,49,50,51,52,53,54,55,56,57]:Str).take (d+1)).drop d=[UInt8.ofNat (48+d)]))=true:=by kernel_rfl
theorem adN: ∀(m u:Nat) (s:Str),u<m->u<=10000->s.length+u<=1000000->Ev (fun k=>BQ k (u:Int) s) (Lib.decDigits u++s):=by
 intro m
 induction m with
 |zero=>intro u s h1;omega
 |succ m ih=>
  intro u s h1 h2 h3;have e0:((u:Int)).tmod 10=((u% 10:Nat):Int):=by rw [Int.tmod_eq_emod_of_nonneg (by omega)];omega
  have e1:((u:Int)).tdiv 10=((u/10:Nat):Int):=by rw [Int.tdiv_eq_ediv_of_nonneg (by omega)];omega
  have e2:V3 ((u% 10:Nat):Int)=some ((u% 10:Nat):Int):=by
   unfold V3;rw [decide_eq_false (by omega)];rfl
  have e3:IntKind.wrap .i64 (((u% 10:Nat):Int)+1)=((u% 10+1:Nat):Int):=by rw [wrap64 (by omega) (by omega)];omega
  have e4:IntKind.wrap .i64 ((u/10:Nat):Int)=((u/10:Nat):Int):=wrap64 (by omega) (by omega);have hd:=of_decide_eq_true (List.all_eq_true.1 ald (u% 10) (List.mem_range.2 (by omega)));refine Ev.succ ?_;simp only [BQ,e0,e1,e2,e3,e4,Option.bind_some,Int.toNat_natCast,hd];refine Ev.lg (by omega) (Ev.lg (by simp;omega) ?_);rw [Lib.decDigits];by_cases hu:u<10
  · rw [dif_pos hu];refine Ev.cT (by rw [beq_iff_eq];omega) (Ev.some' ?_);rw [show u% 10=u by omega]
  · rw [dif_neg hu];refine Ev.cF (by rw [beq_eq_false_iff_ne];omega) ?_;refine(ih (u/10) _ (by omega) (by omega) (by simp;omega)).to ?_;simp
theorem ale {n:Int} (h:0<=n/\n<=10000):Ev (fun k=>FY k n) (Lib.itoa n):=by
 obtain⟨u,rfl⟩: ∃u:Nat,n=(u:Int):=⟨n.toNat,by omega⟩;unfold FY Lib.itoa;refine Ev.bind (adN (u+1) u [] (by omega) (by omega) (by simp;omega)) (Ev.cF (decide_eq_false (by omega)) (Ev.some' ?_));rw [if_neg (by omega)];simp
end Go.VL
end
section
set_option maxHeartbeats 4000000
namespace Go.VL
open Go.Proofs
def rE:Nat->(List Nd)->Int->Int->Int->Int->Str->(List Str)->(List Int)->Int->Option ((Int×Int×Str×(List Str)×(List Int)))
 |0,_,_,_,_,_,_,_,_,_=>none
 |k+1,aB,cu,gZ,Kr,Kt,Ku,Kv,FI,Ak=>
  if 0<=gZ then (aB[gZ.toNat]?).bind fun x10=>cond (decide (Ak<(x10.args.length:Int))) (if 0<=Ak then (x10.args[Ak.toNat]?).bind fun x14=>if(FI.length+1)*8<=1099511627776 then rE k aB cu gZ Kr Kt Ku Kv (FI++[(IntKind.wrap .i64 (x14 -cu))]) (IntKind.wrap .i64 (Ak+1))else none else none) (some ((Kr,Kt,Ku,Kv,FI)))else none
def WL:List Nat:=[9]++List.range' 28 25
theorem afI: ∀(k:Nat) (Ef:Nat) (aB:List Nd) (cu:Int) (gZ:Int) (Kr:Int) (Kt:Int) (Ku:Str) (Kv:List Str) (FI:List Int) (Ak:Int) (wN:Ck) (mR:Ck) (aC σ:Nat->PV) (H0 H:AH) (f0:Fr WL aC σ) (hf0:HF [Ef] H0 H) (sl:σ 0=(.ah (aB.map Nd.cells) .unk)/\σ 5=(.int .i64 cu)/\σ 7=(.int .i64 gZ)/\σ 8=(.ref (Ef) 0)/\σ 9=(.int .i64 Ak)/\H.obj Ef=some [(.int .i64 Kr),(.int .i64 Kt),(.str Ku),(.ah (Kv.map aF) .unk),(.ah (FI.map aK) wN)]) (QS:Ef<H.next) (adP:bf H wN) (Ec:bf H mR) (vH:lI wN mR) (o:(Int×Int×Str×(List Str)×(List Int))) (h:rE k aB cu gZ Kr Kt Ku Kv FI Ak=some o) (Q:Post) (q0: ∀(p:Int×Int×Str×(List Str)×(List Int)) (c4:Ck) (σ':Nat->PV) (H':AH),o=p->Fr WL aC σ'->HF [Ef] H0 H'->(H'.obj Ef=some [(.int .i64 p.1),(.int .i64 p.2.1),(.str p.2.2.1),(.ah (p.2.2.2.1.map aF) .unk),(.ah (p.2.2.2.2.map aK) c4)])->bf H' mR->Q (.exit 2) σ' H'),W Tryz.prog (.loop SQ) Q σ H:=by
 intro k
 induction k with
 |zero=>intro Ef aB cu gZ Kr Kt Ku Kv FI Ak wN mR aC σ H0 H f0 hf0 sl QS adP Ec vH o h Q q0;simp only [rE,reduceCtorEq]at h
 |succ k ih=>
  intro Ef aB cu gZ Kr Kt Ku Kv FI Ak wN mR aC σ H0 H f0 hf0 sl QS adP Ec vH o h Q q0;obtain⟨s0,s5,s7,s8,s9,aHc⟩:=sl;have aHd:=ne_next QS;have aHe:=aO QS;have hle0:=hf0.1;unfold rE at h;refine bA (fun K hK=>aJ ?_);unfold SQ;obtain⟨e9,h⟩:=aZ h;obtain⟨x10,e11,h⟩:=ak h;obtain⟨e12,h⟩|⟨e12,h⟩:=aA h
  ·refine aj ?_;refine jI ?_;obtain⟨e13,h⟩:=aZ h;obtain⟨x14,e15,h⟩:=ak h;obtain⟨e20,h⟩:=aZ h;refine aj ?_;refine gW (f:=aK) sK FI ([(IntKind.wrap .i64 (x14 -cu))]:List Int) wN .exact av av eY (by first|exact e20|(simp only [List.length_cons,List.length_nil];exact e20)) (fun c16 H17 au9 le aGn aGo=> ?_);have aLL:HF [] _ H17:=⟨le,fun i _ _=>aGn i⟩;try simp only [AH.aS,AH.aT,AH.aU,AH.aV]at le
   obtain⟨avc,aGp⟩:=aGo mR eY vH;have n25:=ne_next (show Ef<H17.next from aQ);have m26:=aO (show Ef<H17.next from aQ);refine aj ?_;refine hK _ _ ?_;exact ih Ef aB cu gZ Kr Kt Ku Kv (FI++[(IntKind.wrap .i64 (x14 -cu))]) (IntKind.wrap .i64 (Ak+1)) c16 mR _ _ _ _ aN GH av aQ eY eY aGp _ h _ q0
  ·cases h;refine aj ?_;exact q0 _ wN _ _ rfl aN nL av eY
def tN:Nat->(List Nd)->Int->Int->(List Nd)->Int->Option (List Nd)
 |0,_,_,_,_,_=>none
 |k+1,aB,dB,cu,nJ,gZ=>
  cond (decide (gZ<=dB)) (if 0<=gZ then (aB[gZ.toNat]?).bind fun x5=>(lY x5.names).bind fun p8=>Option.bind (rE k aB cu gZ x5.kind x5.n x5.text p8 ([]:List Int) 0) (fun p29=>if(nJ.length+1)*80<=1099511627776 then tN k aB dB cu (nJ++[(Nd.mk p29.1 p29.2.1 p29.2.2.1 p29.2.2.2.1 p29.2.2.2.2)]) (IntKind.wrap .i64 (gZ+1))else none)else none) (some (nJ))
def WM:List Nat:=[6,7,8,9]++List.range' 14 43
theorem afJ: ∀(k:Nat) (aB:List Nd) (dB:Int) (cu:Int) (nJ:List Nd) (gZ:Int) (tO:Ck) (aC σ:Nat->PV) (H0 H:AH) (f0:Fr WM aC σ) (hf0:HF [] H0 H) (sl:σ 0=(.ah (aB.map Nd.cells) .unk)/\σ 1=(.int .i64 dB)/\σ 5=(.int .i64 cu)/\σ 6=(.ah (nJ.map Nd.cells) tO)/\σ 7=(.int .i64 gZ)) (Jr:bf H tO) (o:List Nd) (h:tN k aB dB cu nJ gZ=some o) (Q:Post) (q0: ∀(p:List Nd) (c0:Ck) (σ':Nat->PV) (H':AH),o=p->Fr WM aC σ'->HF [] H0 H'->(σ' 6=(.ah (p.map Nd.cells) c0))->Q (.exit 0) σ' H'),W Tryz.prog (.loop SS) Q σ H:=by
 intro k
 induction k with
 |zero=>intro aB dB cu nJ gZ tO aC σ H0 H f0 hf0 sl Jr o h Q q0;simp only [tN,reduceCtorEq]at h
 |succ k ih=>
  intro aB dB cu nJ gZ tO aC σ H0 H f0 hf0 sl Jr o h Q q0;obtain⟨s0,s1,s5,s6,s7⟩:=sl;have hle0:=hf0.1;unfold tN at h;refine bA (fun K hK=>aJ ?_);unfold SS;obtain⟨e3,h⟩|⟨e3,h⟩:=aA h
  ·obtain⟨e4,h⟩:=aZ h;obtain⟨x5,e6,h⟩:=ak h;obtain⟨p8,e7,h⟩:=ak h;refine aj ?_;refine au (Df e7) ?_;refine aj ?_;obtain⟨o27,h28,h⟩:=ak h;refine afI k (H.next) aB cu gZ x5.kind x5.n x5.text p8 ([]:List Int) 0 .nil tO _ _ _ _ (Fr.refl _ _) (HF.refl _ _) av aQ eY eY lI.nil _ h28 _ ?_
   ·rintro p29 c33 σ' WQ eo YV aGq g34 aLM;rw [eo]at h;have s36:σ' 0=(.ah (aB.map Nd.cells) .unk):=(YV 0 (by decide)).trans av;have s37:σ' 1=(.int .i64 dB):=(YV 1 (by decide)).trans av;have s38:σ' 5=(.int .i64 cu):=(YV 5 (by decide)).trans av;have s39:σ' 6=(.ah (nJ.map Nd.cells) tO):=(YV 6 (by decide)).trans av;have s40:σ' 7=(.int .i64 gZ):=(YV 7 (by decide)).trans av;have s41:σ' 8=(.ref (H.next) 0):=(YV 8 (by decide)).trans av;have le:=aGq.1;try simp only [AH.aS,AH.aT,AH.aU,AH.aV]at le
    have n43:=ne_next (show H.next<WQ.next from aQ);have m44:=aO (show H.next<WQ.next from aQ);obtain⟨e49,h⟩:=aZ h;refine aj ?_;refine gW (f:=Nd.cells) Nd.row nJ ([(Nd.mk p29.1 p29.2.1 p29.2.2.1 p29.2.2.2.1 p29.2.2.2.2)]:List Nd) tO .exact av av eY (by first|exact e49|(simp only [List.length_cons,List.length_nil];exact e49)) (fun c45 H46 aF5 le anV aF6=> ?_);have aiI:HF [] _ H46:=⟨le,fun i _ _=>anV i⟩;try simp only [AH.aS,AH.aT,AH.aU,AH.aV]at le
    have n52:=ne_next (show H.next<H46.next from aQ);have m53:=aO (show H.next<H46.next from aQ);refine aj ?_;refine hK _ _ ?_;exact ih aB dB cu (nJ++[(Nd.mk p29.1 p29.2.1 p29.2.2.1 p29.2.2.2.1 p29.2.2.2.2)]) (IntKind.wrap .i64 (gZ+1)) c45 _ _ _ _ rY GH av eY _ h _ q0
  ·cases h;refine aj ?_;exact q0 _ tO _ _ rfl aN nL av
def Mf (k:Nat) (aB:List Nd) (dB:Int):Option (List Nd):=
 (uY k aB dB).bind fun p2=>Option.bind (tN k aB dB p2 ([]:List Nd) p2) (fun p56=>some p56)
theorem an6 {k:Nat} {aB:List Nd} {dB:Int} {c0:Ck} {r:List Nd} (h:Mf k aB dB=some r):aD Tryz.prog 139 [(.ah (aB.map Nd.cells) c0),(.int .i64 dB)] (.ah (r.map Nd.cells) .unk):=by
 refine aD.lw (.ah (.same .nil)) (aD.bH (dA.mem (.cons (bE Nd.pu _) (.cons (.int _ _) .nil))) (aM aAA (by simp) (aJ ?_)) (bE Nd.pu _));unfold Mf at h;unfold ao3;obtain⟨p2,e1,h⟩:=ak h;refine aj ?_;refine au (aks e1) ?_;refine aj ?_;obtain⟨o54,h55,h⟩:=ak h;refine afJ k aB dB p2 ([]:List Nd) p2 .nil _ _ _ _ (Fr.refl _ _) (HF.refl _ _) av eY _ h55 _ ?_
 ·rintro p56 c60 σ' H59 eo aLN anX s61;rw [eo]at h;have le:=anX.1;try simp only [AH.aS,AH.aT,AH.aU,AH.aV]at le
  cases h;refine aj ?_;exact(cK Nd.pu _ _)
instance aGr (k:Nat) (aB:List Nd) (dB:Int):dN Tryz.prog 139 [(.ah (aB.map Nd.cells) .unk),(.int .i64 dB)] (Mf k aB dB) (fun r=>(.ah (r.map Nd.cells) .unk)):=⟨fun _ h=>an6 h⟩
def tQ (k:Nat) (aB:List Nd) (Qg:Int):Option (List Nd):=
 (yM aB).bind fun p2=>if 0<=Qg then (p2.args[Qg.toNat]?).bind fun x4=>(Mf k aB x4).bind fun p7=>some p7 else none
instance afK (k:Nat) (aB:List Nd) (Qg:Int):dN Tryz.prog 73 [(.ah (aB.map Nd.cells) .unk),(.int .i64 Qg)] (tQ k aB Qg) (fun r=>(.ah (r.map Nd.cells) .unk)):=bZ aEN (by unfold tQ avv;exact bJ)
theorem afL {k:Nat} {aB:List Nd} {Qg:Int} {c0:Ck} {r:List Nd} (h:tQ k aB Qg=some r):aD Tryz.prog 73 [(.ah (aB.map Nd.cells) c0),(.int .i64 Qg)] (.ah (r.map Nd.cells) .unk):=((afK _ _ _).c _ h).wk (.ah (.same .nil))
def uM:Nat->(List Str)->(List Str)->Str->Int->Option (Unit⊕Str)
 |0,_,_,_,_=>none
 |k+1,qz,oG,s_2,gZ=>
  cond (decide (gZ>=0)) (if 0<=gZ then (qz[gZ.toNat]?).bind fun x3=>cond (x3==s_2) ((oG[gZ.toNat]?).bind fun x6=>some (.inr (x6))) (uM k qz oG s_2 (IntKind.wrap .i64 (gZ -1)))else none) (some (.inl ()))
instance at0 (k:Nat): ∀(qz:List Str) (oG:List Str) (s_2:Str) (gZ:Int),Lp Tryz.prog (.loop Ur) (uM k qz oG s_2 gZ) [(6,8),(11,25)] [(0,(.ah (qz.map aF) .unk)),(1,(.ah (oG.map aF) .unk)),(2,(.str s_2)),(7,(.int .i64 gZ))] (Sum.elim (fun p=>(.exit 0,[])) (fun p=>(.ret,[(6,(.str p))]))):=by
 induction k with
 |zero=>exact fun _ _ _ _=>qL rfl
 |succ k ih=>exact fun _ _ _ _=>qM Ur.eq_1 (by unfold uM;exact bW)
def wO (k:Nat) (qz:List Str) (oG:List Str) (s_2:Str):Option Str:=
 Option.bind (uM k qz oG s_2 (IntKind.wrap .i64 ((qz.length:Int) -1))) (fun o=>Sum.elim (fun kQ=>some s_2) (fun Lg=>some Lg) o)
instance aiX (k:Nat) (qz:List Str) (oG:List Str) (s_2:Str):dN Tryz.prog 262 [(.ah (qz.map aF) .unk),(.ah (oG.map aF) .unk),(.str s_2)] (wO k qz oG s_2) (fun r=>(.str r)):=bZ aBA (by unfold wO ap5;exact bJ)
theorem aiY {k:Nat} {qz:List Str} {oG:List Str} {s_2:Str} {c0 c1:Ck} {r:Str} (h:wO k qz oG s_2=some r):aD Tryz.prog 262 [(.ah (qz.map aF) c0),(.ah (oG.map aF) c1),(.str s_2)] (.str r):=((aiX _ _ _ _).c _ h).wk (.ah (.ah (.same .nil)))
def wP:Nat->(List Str)->Str->Int->Option (Unit⊕Int)
 |0,_,_,_=>none
 |k+1,aX,s_1,gG=>
  cond (decide (gG<(aX.length:Int))) (if 0<=gG then (aX[gG.toNat]?).bind fun x3=>cond (x3==s_1) (some (.inr (gG))) (wP k aX s_1 (IntKind.wrap .i64 (gG+1)))else none) (some (.inl ()))
instance ayM (k:Nat): ∀(aX:List Str) (s_1:Str) (gG:Int),Lp Tryz.prog (.loop Sd) (wP k aX s_1 gG) [(4,19)] [(0,(.ah (aX.map aF) .unk)),(1,(.str s_1)),(5,(.int .i64 gG))] (Sum.elim (fun p=>(.exit 0,[])) (fun p=>(.ret,[(4,(.int .i64 p))]))):=by
 induction k with
 |zero=>exact fun _ _ _=>qL rfl
 |succ k ih=>exact fun _ _ _=>qM Sd.eq_1 (by unfold wP;exact bW)
def Io (k:Nat) (aX:List Str) (s_1:Str):Option Int:=
 Option.bind (wP k aX s_1 0) (fun o=>Sum.elim (fun p8=>some (-1)) (fun pK=>some pK) o)
instance alf (k:Nat) (aX:List Str) (s_1:Str):dN Tryz.prog 114 [(.ah (aX.map aF) .unk),(.str s_1)] (Io k aX s_1) (fun r=>(.int .i64 r)):=bZ aAr (by unfold Io aoU;exact bJ)
theorem alg {k:Nat} {aX:List Str} {s_1:Str} {c0:Ck} {r:Int} (h:Io k aX s_1=some r):aD Tryz.prog 114 [(.ah (aX.map aF) c0),(.str s_1)] (.int .i64 r):=((alf _ _ _).c _ h).wk (.ah (.same .nil))
end Go.VL
end
section
namespace Go.VL
open Go.Proofs Go.RowKit
def Eh (taken:List Str):Nat->Int->Option (Str×Int)
 |0,_=>none
 |k+1,c=>if 0<=c/\c<=9000 then (FY k (c+1)).bind fun d=>if d.length<=100 then (nG k taken ([98,95]++d)).bind fun b=>cond b (Eh taken k (c+1)) (some ([98,95]++d,c+1))else none else none
theorem afM (taken:List Str) (o:Nat): ∀(k:Nat) (c:Int) (s:Str) (c':Int) (σ:Nat->PV) (H:AH) (cl:Ck) (Q:Post),Eh taken k c=some (s,c')->σ 0= .ref o 0->H.obj o=some [.ah (taken.map aF) cl,.int .i64 c]->
 (∀σ',σ' 2= .str s->Q .ret σ' (H.put o [.ah (taken.map aF) cl,.int .i64 c']))->W Tryz.prog (.loop Us) Q σ H:=by
 intro k
 induction k with
 |zero=>intro c s c' σ H cl Q h;cases h
 |succ k ih=>
  intro c s c' σ H cl Q h s0 ho q0;rw [Eh]at h;obtain⟨hc,h⟩:=aZ h;obtain⟨d,hd,h⟩:=ak h;obtain⟨hdl,h⟩:=aZ h;obtain⟨b,hb,h⟩:=ak h;have hw:IntKind.wrap .i64 (c+1)=c+1:=by rw [IntKind.wrap_i64];omega
  have hg:([98,95]:Str).length+d.length<=4611686018427387904:=by simp;omega
  refine bA (fun K hK=>aJ ?_);unfold Us;simp -implicitDefEqProofs only [go_sem,dO,s0,ho,hw,Nat.le_refl];refine au (ant hd) ?_;simp -implicitDefEqProofs only [go_sem,dO,Nat.le_refl];refine ab4 hg ?_;have Dm:(H.put o [.ah (taken.map aF) cl,.int .i64 (c+1)]).obj o=some [.ah (taken.map aF) cl,.int .i64 (c+1)]:=by
   show(if o=o then _ else _)=_
   rw [if_pos rfl]
  simp -implicitDefEqProofs only [go_sem,dO,s0,Dm,Nat.le_refl];refine au (CG hb) ?_;obtain⟨e1,h⟩|⟨e1,h⟩:=aA h
  · subst e1;simp -implicitDefEqProofs only [go_sem,dO,Nat.le_refl];refine hK _ _ (ih (c+1) s c' _ _ cl Q h aH Dm fun σ' h2=> ?_);rw [agM];exact q0 σ' h2
  · subst e1;cases abl h;simp -implicitDefEqProofs only [go_sem,dO,Nat.le_refl];exact q0 _ aH
theorem aiZ {taken:List Str} {o:Nat} {k:Nat} {c:Int} {s:Str} {c':Int} {H:AH} {cl:Ck} (h:Eh taken k c=some (s,c')) (ho:H.obj o=some [.ah (taken.map aF) cl,.int .i64 c]):
 bg Tryz.prog 263 [.ref o 0] H fun v H'=>v= .str s/\H'=H.put o [.ah (taken.map aF) cl,.int .i64 c']:=by
 refine aM aBB (by simp) (aJ ?_);unfold ap6;simp -implicitDefEqProofs only [go_sem];refine afM taken o k c s c' _ H cl _ h aH ho fun σ' h2=> ?_;simp -implicitDefEqProofs only [go_sem,h2,and_self]
structure q8 (H:AH) (l:List Str) (v:PV) (ids:List Nat):Prop where
 len:zA v=some (.int .i64 l.length)
 at_: ∀(i:Nat) s,l[i]? =some s-> ∃id off C,jR 1 v (.int .i64 i)=some (.ref id off)/\id∈ids/\id<H.next/\H.obj id=some C/\C[off]? =some (.str s)
theorem q8.hf {M:List Nat} {H H':AH} {l:List Str} {v:PV} {ids:List Nat} (h:q8 H l v ids) (hf:HF M H H') (hd:Dj ids M):q8 H' l v ids:=
 ⟨h.len,fun i s e=>let ⟨id,off,C,h1,h2,h3,h4,h5⟩:=h.at_ i s e;⟨id,off,C,h1,h2,Nat.lt_of_lt_of_le h3 hf.1,(hf.2 id h3 (hd id h2)).trans h4,h5⟩⟩
theorem q8.nil {H:AH} {c:Ck} {ids:List Nat}:q8 H [] (.ah [] c) ids:=⟨rfl,fun i s e=>by simp at e⟩
theorem jF.cells {H:AH} {n:Nd} {id len cap:Nat} (h:jF H (n,.m id len cap)):len=n.names.length/\n.names.length<=cap/\id<H.next/\ ∃C,H.obj id=some C/\C.length=cap/\ ∀(i:Nat) s,n.names[i]? =some s->C[i]? =some (.str s):=by
 obtain⟨h0,h⟩:=h;have h':aG H aF 1 n.names (.bO id 0 len cap 1) [id]:=h;have hl:=h'.O1;have hlen:len=n.names.length:=by
  simp only [zA,Option.some.injEq,PV.int.injEq,true_and]at hl;omega
 have h'':=h';rcases h' with⟨e,_⟩|⟨id',cap',junk,e1,e2,e3,e4,e5,e6⟩
 · cases e
 · cases e2;refine⟨hlen,e3,e4,_,e5,?_,fun i s e=> ?_⟩
   · have hfl:((n.names.map aF).flatten).length=n.names.length*1:=nu (f:=aF) (fun _=>rfl) _;rw [List.length_append,hfl,e6];omega
   · obtain⟨id2,C,q1,q2,q3,q4,_⟩:=aG.content h'' e;obtain rfl:id=id2:=by simpa using q1
     rw [e5]at q3;cases q3;have:=q4 0 (.str s) rfl;simpa using this
theorem q8.part {H:AH} {n:Nd} {id len cap:Nat} (h:jF H (n,.m id len cap)) {a b:Nat} (hb:a+b<=n.names.length) (cap':Nat):q8 H ((n.names.drop a).take b) (.bO id a b cap' 1) [id]:=by
 obtain⟨h1,h2,h3,C,h4,h5,h6⟩:=h.cells;have hl:((n.names.drop a).take b).length=b:=by rw [List.length_take,List.length_drop];omega
 refine⟨by simp only [zA,hl],fun i s e=>⟨id,a+i,C,?_,List.mem_singleton.2 rfl,h3,h4,?_⟩⟩
 · have:=(List.getElem?_eq_some_iff.1 e).1;rw [hl]at this;simp only [jR];rw [if_pos ⟨by omega,by omega,trivial⟩];simp
 · rw [List.getElem?_take]at e;split at e
   · rw [List.getElem?_drop]at e;exact h6 _ s e
   · cases e
theorem q8.whole {H:AH} {n:Nd} {y:NV} (h:jF H (n,y)):q8 H n.names y.pv y.ids:=by
 cases y with
 |p l=>
  obtain⟨h1,h2⟩:l=[]/\n.names=[]:=h;subst h1;rw [h2];exact q8.nil
 |m id len cap=>
  have h1:=h.cells.1;have:=q8.part h (a:=0) (b:=n.names.length) (by omega) cap;rw [List.drop_zero,List.take_length]at this;subst h1;exact this
theorem adQ {H:AH} {n:Nd} {y:NV} {p:Nat} {r:List Str} (hy:jF H (n,y)) (h:iM n (p:Int)=some r):bg Tryz.prog 240 [.agg (jZ (n,y)),.int .i64 p] H fun v H'=>q8 H' r v y.ids/\HF [] H H'/\ ∀c,bf H c->bf H' c:=by
 refine aM ahX (by simp) (aJ ?_);have hnew:HF [] H (H.new (jZ (n,y))):=HF.new (HF.refl _ _);have hok: ∀c,bf H c->bf (H.new (jZ (n,y))) c:=fun c k=>k.new;have hy':=hy.hf hnew (fun _ _ h=>by cases h);unfold iM at h;unfold abk;simp -implicitDefEqProofs only [go_sem,dO,jZ,Nat.le_refl];obtain⟨o9,h10,h⟩:=ak h;have Dm:(H.new (jZ (n,y))).obj H.next=some (jZ (n,y)):=by
  show(if H.next=H.next then some _ else _)=_
  rw [if_pos rfl]
 refine(Pq n.kind).c _ _ ⟨aH,trivial⟩ _ h10 _ fun σ' I4 s15=> ?_
 replace s15:=s15.1
 have s16:σ' 2=(.ref H.next 0):=(I4 2 (by decide)).trans aH;have yU:σ' 5=(.bool ((p:Int)==(IntKind.wrap .i64 ((n.args.length:Int) -1)))):=(I4 5 (by decide)).trans aH;have nk:σ' 13=(.int .i64 n.kind):=(I4 13 (by decide)).trans aH;clear I4;obtain⟨e19,h⟩|⟨e19,h⟩:=aA h
 · obtain⟨e20,h⟩|⟨e20,h⟩:=aA h
   · cases h;simp -implicitDefEqProofs only [go_sem,dO,s15,s16,yU,nk,e19,e20];exact⟨q8.whole hy',hnew,hok⟩
   · cases h;simp -implicitDefEqProofs only [go_sem,dO,s15,s16,yU,nk,e19,e20];exact⟨q8.nil,hnew,hok⟩
 · obtain⟨e21,h⟩|⟨e21,h⟩:=aA h
   · have hm:1<=n.names.length-> ∃id len cap,y= .m id len cap/\len=n.names.length/\n.names.length<=cap:=by
      intro h1;cases y with
      |p l=>have h2:n.names=[]:=hy.2;rw [h2]at h1;simp at h1
      |m id len cap=>exact⟨id,len,cap,rfl,hy.cells.1,hy.cells.2.1⟩
     obtain⟨e22,h⟩|⟨e22,h⟩:=aA h
     · obtain⟨e23,h⟩:=aZ h;cases h;obtain⟨id,len,cap,rfl,rfl,hcap⟩:=hm e23;have hs:ql 1 (.bO id 0 n.names.length cap 1) none (some (.int .i64 1)) none=some (.bO id 0 1 cap 1):=by
        simp only [ql,oJ];rw [if_pos (by decide)];simp only [Int.toNat_one];rw [if_pos ⟨Nat.zero_le _,e23,trivial,by omega,by omega⟩];simp
       simp -implicitDefEqProofs only [go_sem,dO,s15,s16,yU,nk,e19,e21,e22,NV.pv,hs];refine⟨?_,hnew,hok⟩;have:=q8.part hy' (a:=0) (b:=1) (by omega) cap;rw [List.drop_zero]at this;exact this
     · obtain⟨e24,h⟩|⟨e24,h⟩:=aA h
       · cases h;simp -implicitDefEqProofs only [go_sem,dO,s15,s16,yU,nk,e19,e21,e22,e24];exact⟨q8.whole hy',hnew,hok⟩
       · obtain⟨e25,h⟩:=aZ h;cases h;obtain⟨id,len,cap,rfl,rfl,hcap⟩:=hm e25;by_cases h1:1<cap
         · have hs:ql 1 (.bO id 0 n.names.length cap 1) (some (.int .i64 1)) none none=some (.bO id 1 (n.names.length -1) (cap -1) 1):=by
            simp only [ql,oJ];rw [if_pos (by decide)];simp only [Int.toNat_one];rw [if_pos ⟨e25,Nat.le_refl _,trivial,h1,hcap⟩]
           simp -implicitDefEqProofs only [go_sem,dO,s15,s16,yU,nk,e19,e21,e22,e24,NV.pv,hs];refine⟨?_,hnew,hok⟩;have:=q8.part hy' (a:=1) (b:=n.names.length -1) (by omega) (cap -1);rw [List.take_of_length_le (by rw [List.length_drop];omega)]at this;exact this
         · have hl1:n.names.length=1:=by omega
           have hc1:cap=1:=by omega
           subst hc1;have hs:ql 1 (.bO id 0 n.names.length 1 1) (some (.int .i64 1)) none none=some (.ah [] .unk):=by
            rw [hl1];rfl
           simp -implicitDefEqProofs only [go_sem,dO,s15,s16,yU,nk,e19,e21,e22,e24,NV.pv,hs];refine⟨?_,hnew,hok⟩;rw [List.drop_of_length_le (by omega)];exact q8.nil
   · cases h;simp -implicitDefEqProofs only [go_sem,dO,s15,s16,yU,nk,e19,e21];exact⟨q8.nil,hnew,hok⟩
section
variable [Glob] {P:Program} {Q:Post} {σ:Nat->PV} {s:List Fm} {α:Type} {H:AH} {f:α->List PV} {sz:Nat}
theorem alh {d:Option Nat} {b:Nat} {x y:AE} {l:List aI} [hr:ni f sz] (hf: ∀x,jY sz (f x)) (ys:List α) {yv:PV}
 (hx:x.ev σ= .ah [] .exact) (hy:y.ev σ=yv) (hrow:rowOf sz H yv=some (ys.map f)) (hs:0<ys.length) (hb:ys.length*b<=1099511627776)
 (h: ∀(v':PV) (gK:List Nat) (H':AH),aG H' f sz ys v' gK->Nw H [] gK->HF [] H H'->(∀c3,bf H c3->bf H' c3)->WO P l s Q (upd σ d v') H'):
 WO P (⟨d,.n (.app sz b x y),none⟩::l) s Q σ H:=by
 show dM P _ _ σ H
 rw [II];simp only [nop,hx,hy];have h0: ¬((ys.map f).length=0):=by rw [List.length_map];omega
 have hx0:rowOf sz H (.ah [] .exact)=some []:=rfl;simp only [uS,hrow,hx0];rw [if_neg h0];split
 · intro cap hcap;simp only [List.length_map,List.length_nil,Nat.zero_add,List.nil_append]at hcap⊢;refine h _ [H.next] _ (.inr ⟨H.next,cap,List.replicate ((cap -ys.length)*sz) .any,rfl,rfl,hcap,Nat.lt_succ_self _,?_,by rw [List.length_replicate]⟩) (fun i hi=> .inr (by rw [List.mem_singleton.1 hi];exact Nat.le_refl _)) (HF.new (HF.refl _ _)) (fun c3 k=>k.new);show(if H.next=H.next then some _ else _)=_;rw [if_pos rfl]
 · rename_i hno;exact(hno ⟨qC hf ([]:List α),qC hf ys,by simpa using hb⟩).elim
end
theorem afN {H:AH} {n:Nd} {y:NV} (hy:jF H (n,y)) (hl:n.names.length<=1000000):bg Tryz.prog 181 [y.pv] H fun v H'=> ∃z:NV,v=z.pv/\jF H' (n,z)/\(∀j∈z.ids,H.next<=j)/\HF [] H H'/\ ∀c,bf H c->bf H' c:=by
 cases y with
 |p l=>
  obtain⟨h1,h2⟩:l=[]/\n.names=[]:=hy;subst h1;have:=Rh n hl H;rw [h2]at this;exact this
 |m id len cap=>
  have hy0:=hy;obtain⟨h0,hr⟩:=hy;have hr:aG H aF 1 n.names (.bO id 0 len cap 1) [id]:=hr;have hlen:len=n.names.length:=hy0.cells.1;subst hlen;have hpos:0<n.names.length:=List.length_pos_iff.2 h0;obtain⟨id',cap',junk,e1,e2,e3,e4,e5,e6⟩: ∃id' cap' junk,[id]=[id']/\PV.bO id 0 n.names.length cap 1= .bO id' 0 n.names.length cap' 1/\n.names.length<=cap'/\id'<H.next/\H.obj id'=some ((n.names.map aF).flatten++junk)/\junk.length=(cap' -n.names.length)*1:=by
   rcases hr with⟨e,_⟩|h
   · cases e
   · exact h
  cases e2;have hrow:rowOf 1 H (.bO id 0 n.names.length cap 1)=some (n.names.map aF):=by
   simp only [rowOf,e5];have hfl:((n.names.map aF).flatten).length=n.names.length*1:=nu (f:=aF) (fun _=>rfl) _;rw [if_pos ⟨trivial,by rw [List.length_append,hfl];omega⟩,List.drop_zero];have:=yA (sz:=1) (n.names.map aF) junk (fun cs h=>by obtain⟨s,_,rfl⟩:=List.mem_map.1 h;rfl);rw [List.length_map]at this;rw [this]
  show bg Tryz.prog 181 [.bO id 0 n.names.length cap 1] H _
  refine aM Cn.aqu (by simp) (aJ ?_);unfold Cn.ah1;simp -implicitDefEqProofs only [go_sem];refine alh (f:=aF) lC n.names aH aH hrow hpos (by omega) (fun v' gK H' g1 g2 g3 g4=> ?_);simp -implicitDefEqProofs only [go_sem];have g1':=g1;rcases g1 with⟨_,h,_⟩|⟨id2,cap2,aKo,rfl,rfl,_⟩
  · exact absurd h h0
  · refine⟨.m id2 n.names.length cap2,rfl,⟨h0,g1'⟩,fun j hj=> ?_,g3,g4⟩;rcases g2 j hj with q|q
    · cases q
    · exact q
end Go.VL
end
section
namespace Go.VL
open Go.Proofs Go.RowKit
set_option maxRecDepth 100000
theorem ali:Enters Tryz.prog 319:=⟨_,Tryz.func319,rfl,by kernel_rfl⟩
theorem an7:VA Tryz.prog 319 2 true:=by
 intro l m bx n J Jx W hn hc hY h0;refine callsIn_of_wp Tryz.func319 rfl trivial ?_ rfl;simp only [Tryz.ntmps319,List.size_toArray,List.length_cons,List.length_nil,Nat.reduceAdd,Nat.reduceSub,Array.replicate_succ,Array.replicate_zero,List.push_toArray,List.append_toArray,List.nil_append,List.cons_append];obtain⟨ad0,cap0,hc0⟩:=hc
 gi_wp2
 gi_loopw [3] (fun v3 wr=> ∃k:Nat,v3= .int .i64 ((k:Int) -1)/\k<=n/\J k wr) (fun v3 wr=>(RowKit.intOf v3+1).toNat)
 case atStart=>exact⟨n,rfl,Nat.le_refl _,h0⟩
 case round=>
  obtain⟨k,rfl,hk,hJ⟩:=hrel;cases k with
  |zero=>
   have c1: ¬(0:Int)<=((0:Nat):Int) -1:=by omega
   gi_wp2
   go_end0
   exact⟨⟨_,rfl⟩,.inl hJ⟩
  |succ k=>
   obtain⟨b,o,cap,vs,hb,hkn,hvs,hld,fn,tmps,assign,body,hy,hR⟩:=hY k wr hJ;have e1:((k+1:Nat):Int) -1=(k:Int):=by omega
   rw [e1];have c1:(0:Int)<=(k:Int):=by omega
   have c2:(k:Int)<(n:Int):=by omega
   obtain⟨x0,x1,rfl⟩: ∃x0 x1,vs=#[x0,x1]:=by
    match vs,hvs with
    |⟨[x0,x1]⟩,_=>exact⟨x0,x1,rfl⟩
   have l0:wr.cell? ⟨b,o+k*2,none⟩=some x0:=by simpa using hld 0 x0 rfl
   have l1:wr.cell? ⟨b,o+k*2+1,none⟩=some x1:=by simpa using hld 1 x1 rfl
   have l2:wr.cell? ⟨b,o+(k*2+1),none⟩=some x1:=by rw [<-Nat.add_assoc];exact l1
   clear hld;have hev:elemV true #[x0,x1]=Value.agg #[x0,x1]:=rfl;rw [hev]at hy
   gi_wp2
   refine⟨fun hd=>absurd hd (by simp [Fence.wide]),(Ra hR).mono ?_⟩;rintro e W' (⟨rfl,hJ'⟩|⟨rfl,hJx⟩)
   · gi_wp2
     go_roundw
     case rel=>exact⟨k,rfl,by omega,hJ'⟩
     case measure=>simp [RowKit.intOf]
   · gi_wp2
     refine bodyPost_ret (results_none rfl _ _ _) rfl ?_;exact⟨⟨_,rfl⟩,.inr hJx⟩
end Go.VL
end
section
namespace Go.VL
open Go.Proofs Go.RowKit
theorem aac {α:Type} {f:α->List PV} (hf: ∀x,∀c∈f x,Pu c) (l:List α):Pu (.ah (l.map f) .exact):=by
 have h:=bE hf l;cases h with
 |ah _ _ h1 h2=>exact .ah _ _ h1 (by simp)
theorem alj (l:List Scope) {c:Ck}:aD Tryz.prog 285 [.ah (l.map Scope.cells) c] (.ah (l.map Scope.cells) .exact):=by
 refine aD.wk (args:=[.ah (l.map Scope.cells) .unk]) ?_ (.ah .nil);refine aD.bH (dA.mem (.cons (bE Scope.pu _) .nil)) (aM aBR (by simp) (aJ ?_)) (aac Scope.pu l);unfold aqm;simp -implicitDefEqProofs only [go_sem,adt Scope.cells 2];first|done|exact .pure _ (aac Scope.pu l)
def mH (l:List (Nd×NV)) (id o:Nat):List Nat:=o::id::(l.map fun x=>x.2.ids).flatten
structure lT (H:AH) (l:List (Nd×NV)) (v:PV) (id o lo:Nat) (left:List Str) (cl:Ck) (c:Int):Prop where
 own:Pj H l v id l.length lo
 obj:H.obj o=some [v,.ah (left.map aF) cl,.int .i64 c]
 lt:o<H.next
 ne:o≠id
 nen: ∀(i:Nat) (x:Nd×NV),l[i]? =some x->o∉x.2.ids
theorem QT {l:List (Nd×NV)} {i:Nat} {x:Nd×NV} (h:l[i]? =some x) {a:Nat} (ha:a∈x.2.ids):a∈(l.map fun x=>x.2.ids).flatten:=
 List.mem_flatten.2 ⟨x.2.ids,List.mem_map.2 ⟨x,List.mem_of_getElem? h,rfl⟩,ha⟩
theorem lT.hf {H H':AH} {l:List (Nd×NV)} {v:PV} {id o lo:Nat} {left:List Str} {cl:Ck} {c:Int} {M:List Nat} (h:lT H l v id o lo left cl c) (hf:HF M H H') (hd:Dj (mH l id o) M):lT H' l v id o lo left cl c:=by
 have hdo:o∉M:=fun hm=>hd o List.mem_cons_self hm;have hdi:id∉M:=fun hm=>hd id (List.mem_cons_of_mem _ List.mem_cons_self) hm;have hdn: ∀(i:Nat) (x:Nd×NV),l[i]? =some x->Dj x.2.ids M:=fun i x hx a ha hm=>hd a (List.mem_cons_of_mem _ (List.mem_cons_of_mem _ (QT hx ha))) hm;refine⟨⟨h.own.row.hf hf (fun a ha hm=>hdi (List.mem_singleton.1 ha▸hm)),fun i x hx=> ?_,h.own.dj,h.own.ne,h.own.lob,h.own.Yk⟩,(hf.2 o h.lt hdo).trans h.obj,Nat.lt_of_lt_of_le h.lt hf.1,h.ne,h.nen⟩;have:=h.own.GI i x hx;have hi:=(List.getElem?_eq_some_iff.1 hx).1;rw [if_pos hi]at this⊢;exact this.hf hf (hdn i x hx)
theorem lT.lts {H:AH} {l:List (Nd×NV)} {v:PV} {id o lo:Nat} {left:List Str} {cl:Ck} {c:Int} (h:lT H l v id o lo left cl c): ∀a∈mH l id o,a<H.next:=by
 intro a ha;simp only [mH,List.mem_cons]at ha;rcases ha with rfl|rfl|ha
 · exact h.lt
 · exact h.own.row.lt _ (List.mem_singleton.2 rfl)
 · obtain⟨is,h1,h2⟩:=List.mem_flatten.1 ha;obtain⟨x,h3,rfl⟩:=List.mem_map.1 h1;obtain⟨i,hi⟩:=List.mem_iff_getElem?.1 h3;have:=h.own.GI i x hi;rw [if_pos (List.getElem?_eq_some_iff.1 hi).1]at this;exact this.lt a h2
theorem lT.new {H H':AH} {l:List (Nd×NV)} {v:PV} {id o lo:Nat} {left:List Str} {cl:Ck} {c:Int} (h:lT H l v id o lo left cl c) {M:List Nat} (hf:HF M H H') (hM: ∀a∈M,H.next<=a):lT H' l v id o lo left cl c:=
 h.hf hf fun a ha hm=>by have:=h.lts a ha;have:=hM a hm;omega
theorem lT.set {H H':AH} {l:List (Nd×NV)} {v:PV} {id o lo:Nat} {left:List Str} {cl:Ck} {c:Int} (h:lT H l v id o lo left cl c) {i:Nat} {n m:Nd} {y:NV} (hx:l[i]? =some (n,y)) (hn:m.names=n.names)
 (hr:aG H' jZ 5 (l.set i (m,y)) v [id]) (hf:HF [id] H H'):lT H' (l.set i (m,y)) v id o lo left cl c:=by
 have hi:=(List.getElem?_eq_some_iff.1 hx).1;have hget: ∀(k:Nat) (x:Nd×NV),(l.set i (m,y))[k]? =some x-> ∃x0,l[k]? =some x0/\x.2=x0.2/\x.1.names=x0.1.names:=by
  intro k x e;rw [List.getElem?_set]at e;by_cases hk:i=k
  · subst hk;rw [if_pos rfl,if_pos hi]at e;cases e;exact⟨_,hx,rfl,hn⟩
  · rw [if_neg hk]at e;exact⟨x,e,rfl,rfl⟩
 refine⟨⟨hr,fun k x e=> ?_,fun k k' x x' e e' hne=> ?_,fun k x e=> ?_,fun k x e=> ?_,h.own.Yk⟩,?_,Nat.lt_of_lt_of_le h.lt hf.1,h.ne,fun k x e=> ?_⟩
 · obtain⟨x0,e0,q1,q2⟩:=hget k x e;have hk:=(List.getElem?_eq_some_iff.1 e0).1;have Ni:=h.own.GI k x0 e0;rw [if_pos hk]at Ni;rw [if_pos (by rw [List.length_set];exact hk)];have:=Ni.hf hf fun a ha hm=>h.own.ne k x0 e0 (List.mem_singleton.1 hm▸ha);obtain⟨n1,y1⟩:=x;obtain⟨n0,y0⟩:=x0;simp only at q1 q2;subst q1;unfold jF at this⊢;cases y1 with
   |p l=>simp only at this⊢;rw [q2];exact this
   |m a b d=>simp only at this⊢;rw [q2];exact this
 · obtain⟨x0,e0,q1,_⟩:=hget k x e;obtain⟨x0',e0',q1',_⟩:=hget k' x' e';rw [q1,q1'];exact h.own.dj k k' x0 x0' e0 e0' hne
 · obtain⟨x0,e0,q1,_⟩:=hget k x e;rw [q1];exact h.own.ne k x0 e0
 · obtain⟨x0,e0,q1,_⟩:=hget k x e;rw [q1];exact h.own.lob k x0 e0
 · exact(hf.2 o h.lt fun hm=>h.ne (List.mem_singleton.1 hm)).trans h.obj
 · obtain⟨x0,e0,q1,_⟩:=hget k x e;rw [q1];exact h.nen k x0 e0
theorem adR {l:List (Nd×NV)} {id o i:Nat} {n m:Nd} {y:NV} (hx:l[i]? =some (n,y)):mH (l.set i (m,y)) id o=mH l id o:=by
 unfold mH;congr 3;rw [List.map_set];obtain⟨h,e⟩:=List.getElem?_eq_some_iff.1 hx;have:(l.map fun x=>x.2.ids)[i]'(by simpa using h)=y.ids:=by rw [List.getElem_map,e]
 rw [<-this,List.set_getElem_self]
theorem aln (s:Scope):jY 2 s.cells:=row_of rfl rfl
def ng:List Scope->Str->Str
 |[],t=>t
 |s::l,t=>if(l.any fun s=>decide (s.old=t))=true then ng l t else if s.old=t then s.new else ng l t
theorem ayP {H:AH} {n:Nd} {y:NV} (h:jF H (n,y)):Fz H (.agg (jZ (n,y))) (.agg n.cells):=by
 have hn:Fz H y.pv (.ah (n.names.map aF) .unk):=by
  cases y with
  |p l=>
   obtain⟨h1,h2⟩:l=[]/\n.names=[]:=h;subst h1;rw [h2];exact cK gJ [] .unk
  |m id len cap=>
   have hr:aG H aF 1 n.names (.bO id 0 len cap 1) [id]:=h.2;exact aG.fz gJ hr
 exact dU (dz (dz (.cons (.pure _ (.str _)) (.cons hn (.cons (cK cZ n.args .unk) .nil)))))
theorem Nj (b:Scope) (t:Str): ∀l:List Scope,ng (l++[b]) t=if b.old=t then b.new else ng l t
 |[]=>by simp [ng]
 |s::l=>by
  rw [List.cons_append,ng,Nj b t l];by_cases h:b.old=t
  · simp [h]
  · simp only [List.any_append,List.any_cons,List.any_nil,Bool.or_false,decide_eq_false h,if_neg h];rw [ng]
section
variable {l:List (Nd×NV)} {v:PV} {id o lo:Nat} {left:List Str} {cl:Ck} {c:Int} {i:Nat} {n:Nd} {y:NV}
theorem an8 (hx:l[i]? =some (n,y)) (bound:List Scope) (q bx:Nat) (Q:Post) (σ:Nat->PV) (s6:σ 6= .ref q 0) (hqb:q∉mH l id o) (hqx:q≠bx):
 ∀(k:Nat) (H:AH),k<=bound.length->lT H l v id o lo left cl c->q<H.next->bx<H.next->bx∉mH l id o->H.obj q=some [.ref id (i*5)]->H.obj bx=some [.ah (bound.map Scope.cells) .unk]->
   (∀(e:Ex) H',(e= .normal\/e= .exit 0)->lT H' (l.set i ({n with text:=ng (bound.take k) n.text},y)) v id o lo left cl c->HF [id] H H'->H'.obj q=some [.ref id (i*5)]->Q e σ H')->
   GU (fun Q' σ' H'=>W Tryz.prog Pg (JQ (fun rM gy=>W Tryz.prog Ph Q' rM gy)) σ' H') Q σ bx [.ah (bound.map Scope.cells) .unk] 28 29 ((bound.map Scope.cells).map (Fp true)) k H:=by
 intro k
 induction k with
 |zero=>
  intro H hk hV hq hb hbm ho hbx q0;refine q0 .normal H (.inl rfl) ?_ (HF.refl _ _) ho;have e1:l.set i (({n with text:=ng (bound.take 0) n.text}:Nd),y)=l:=by
   obtain⟨h,e⟩:=List.getElem?_eq_some_iff.1 hx;have:(({n with text:=ng (bound.take 0) n.text}:Nd),y)=l[i]:=by rw [e];rfl
   rw [this,List.set_getElem_self]
  rw [e1];exact hV
 |succ k ih=>
  intro H hk hV hq hb hbm ho hbx q0;have hlt:k<bound.length:=by omega
  refine⟨hbx,.agg (Scope.cells bound[k]),?_,?_⟩
  · rw [List.getElem?_map,List.getElem?_map,List.getElem?_eq_getElem hlt];rfl
  obtain⟨id',C,e1,hid,hC,hcell,hle,hdrop,hI⟩:=aG.content hV.own.row hx;obtain rfl:id=id':=by simpa using e1
  have c2:C[i*5+2]? =some (.str n.text):=hcell 2 _ rfl;have hqn:id≠H.next:=by omega
  have an9:q≠H.next:=by omega
  have hqi:q≠id:=fun e=>hqb (by rw [e];simp [mH]);refine aJ ?_;unfold Pg;simp -implicitDefEqProofs only [go_sem,dO,Scope.jP,Nat.le_refl];obtain⟨H1,hH1⟩: ∃H1,H1=(H.new [.str [],.str []]).put H.next [.str bound[k].old,.str bound[k].new]:=⟨_,rfl⟩;rw [<-hH1];have hf1:HF [] H H1:=by
   rw [hH1];exact HF.put (.inr (Nat.le_refl _)) (HF.new (HF.refl _ _))
  have o8:H1.obj H.next=some [.str bound[k].old,.str bound[k].new]:=by
   rw [hH1];show(if H.next=H.next then some _ else _)=_;rw [if_pos rfl]
  clear hH1;have oq:H1.obj q=some [.ref id (i*5)]:=(hf1.2 q hq List.not_mem_nil).trans ho;have oid:H1.obj id=some C:=(hf1.2 id hid List.not_mem_nil).trans hC;have obx:H1.obj bx=some [.ah (bound.map Scope.cells) .unk]:=(hf1.2 bx hb List.not_mem_nil).trans hbx;have hV1:=hV.new hf1 (fun a ha=>by cases ha);have aCp:bound.take (k+1)=bound.take k++[bound[k]]:=List.take_succ_eq_append_getElem hlt;have abo:ng (bound.take (k+1)) n.text=if bound[k].old=n.text then bound[k].new else ng (bound.take k) n.text:=by rw [aCp,Nj]
  refine aJ ?_;unfold Ph;simp -implicitDefEqProofs only [go_sem];refine jI ?_;simp -implicitDefEqProofs only [go_sem,s6,o8,oq,oid,c2];by_cases hm:bound[k].old=n.text
  · rw [if_pos hm]at abo;rw [abo]at q0;have hdec:(bound[k].old==n.text)=true:=by rw [beq_iff_eq];exact hm
    simp -implicitDefEqProofs only [go_sem,s6,o8,oq,oid,c2,hdec];refine pJ (f:=jZ) (id:=id) (o:=i*5+2) (i:=i) (j:=2) (a:=(n,y)) (y:=({n with text:=bound[k].new},y)) (vs:=[.str bound[k].new]) aH rfl rfl hV1.own.row hx aH rfl rfl (by decide) (by cases y<;>rfl) (fun H' r' hf' ok'=> ?_);simp -implicitDefEqProofs only [go_sem];refine q0 (.exit 0) H' (.inr rfl) (hV1.set hx rfl r' hf') ⟨Nat.le_trans hf1.1 hf'.1,fun a ha hm=>(hf'.2 a (Nat.lt_of_lt_of_le ha hf1.1) hm).trans (hf1.2 a ha List.not_mem_nil)⟩ ((hf'.2 q (Nat.lt_of_lt_of_le hq hf1.1) fun hm=>hqi (List.mem_singleton.1 hm)).trans oq)
  · rw [if_neg hm]at abo;rw [abo]at q0;have hdec:(bound[k].old==n.text)=false:=by rw [beq_eq_false_iff_ne];exact hm
    simp -implicitDefEqProofs only [go_sem,s6,o8,oq,oid,c2,hdec];exact ih H1 (by omega) hV1 (Nat.lt_of_lt_of_le hq hf1.1) (Nat.lt_of_lt_of_le hb hf1.1) hbm oq obx fun e H' he g1 g2 g3=>q0 e H' he g1 ⟨Nat.le_trans hf1.1 g2.1,fun a ha hm=>(g2.2 a (Nat.lt_of_lt_of_le ha hf1.1) hm).trans (hf1.2 a ha List.not_mem_nil)⟩ g3
end
theorem atb (es:List (List PV)) (ck:Ck) (H:AH):bg Tryz.prog 282 [.ah es ck] H fun v H'=>v= .fn (.func 319) [] [.ref H.next 0]/\H'=H.new [.ah es ck]:=by
 refine aM aBO (by simp) (aJ ?_);unfold aqj;simp -implicitDefEqProofs only [go_sem,dO,Nat.le_refl,and_self]
theorem U5 {l:List (Nd×NV)} {i:Nat} {x:Nd×NV} (hx:l[i]? =some x):l.set i x=l:=by
 obtain⟨h,e⟩:=List.getElem?_eq_some_iff.1 hx;rw [<-e,List.set_getElem_self]
theorem ayS {l:List (Nd×NV)} {v:PV} {id o lo:Nat} {left:List Str} {cl:Ck} {c:Int} {i:Nat} {n:Nd} {y:NV} {H:AH} {σ:Nat->PV} {bound:List Scope} {ck:Ck} {q k:Nat} {nm:Bool} {Q:Post}
 (hV:lT H l v id o lo left cl c) (hx:l[i]? =some (n,y)) (s2:σ 2= .ah (bound.map Scope.cells) ck) (s6:σ 6= .ref q 0) (hq:q<H.next) (Kw:q∉mH l id o) (ho:H.obj q=some [.ref id (i*5)]) (hnm:nP k n=some nm) (hb:bound.length<=1000000)
 (q0: ∀σ' H',(∀j,j∉([22,23,24,25,26,27]:List Nat)->σ' j=σ j)->lT H' (l.set i ({n with text:=if nm=true then ng bound n.text else n.text},y)) v id o lo left cl c->HF [id] H H'->H'.obj q=some [.ref id (i*5)]->Q .normal σ' H'):W Tryz.prog Uo Q σ H:=by
 obtain⟨id',C,e1,hid,hC,hcell,hle,hdrop,hI⟩:=aG.content hV.own.row hx;obtain rfl:id=id':=by simpa using e1
 have hy:jF H (n,y):=by
  have:=hV.own.GI i _ hx;rw [if_pos (List.getElem?_eq_some_iff.1 hx).1]at this;exact this
 have h5:=hle 5 (Nat.le_refl _);refine aJ ?_;unfold Uo;simp -implicitDefEqProofs only [go_sem,s6,ho,hC,hdrop,h5];refine FV (Ry hnm) (.cons (ayP hy) .nil) (.cons (.agg _ (Nd.pu n)) .nil) (Sc.bool _) ?_;cases nm
 case false=>
  simp -implicitDefEqProofs only [go_sem];refine q0 _ H ?_ ?_ (HF.refl _ _) ho
  · intro j hj;simp only [List.mem_cons,List.not_mem_nil,or_false,not_or]at hj;simp only [upd,hj.1,hj.2.1,hj.2.2.1,hj.2.2.2.1,↓reduceIte]
  · rw [show({n with text:=if false=true then ng bound n.text else n.text}:Nd)=n from rfl,U5 hx];exact hV
 case true=>
  simp -implicitDefEqProofs only [go_sem,s2];refine bg.wk ((atb (bound.map Scope.cells) .unk H).mono ?_) (.ah .nil);rintro _ _ ⟨rfl,rfl⟩;have hnew:HF [] H (H.new [.ah (bound.map Scope.cells) .unk]):=HF.new (HF.refl _ _);have hV1:=hV.new hnew (fun a ha=>by cases ha);have ayT:(H.new [.ah (bound.map Scope.cells) .unk]).obj H.next=some [.ah (bound.map Scope.cells) .unk]:=by
   show(if H.next=H.next then some _ else _)=_
   rw [if_pos rfl]
  have hqx:q≠H.next:=by omega
  have hbm:H.next∉mH l id o:=fun hm=>Nat.lt_irrefl _ (hV.lts _ hm);simp -implicitDefEqProofs only [go_sem];refine aoH (g:=319) (id:=H.next) (sz:=2) (agg:=true) (es:=bound.map Scope.cells) (c:= .unk) aH ali an7 (by decide) ayT (by rw [List.length_map];omega) (FT (f:=Scope.cells) (fun _=>rfl) _) ?_;rw [List.length_map];refine an8 hx bound q H.next _ _ aH Kw hqx bound.length _ (Nat.le_refl _) hV1 (Nat.lt_succ_of_lt hq) (Nat.lt_succ_self _) hbm ((hnew.2 q hq List.not_mem_nil).trans ho) ayT ?_;rw [List.take_length];intro e H' he g1 g2 g3;have hF:HF [id] H H':=⟨Nat.le_trans hnew.1 g2.1,fun a ha hm=>(g2.2 a (Nat.lt_of_lt_of_le ha hnew.1) hm).trans (hnew.2 a ha List.not_mem_nil)⟩
  have fin:=q0 (upd (upd (upd (upd (upd (upd σ (some 22) (PV.ref id (i*5))) (some 23) (PV.ref id (i*5))) (some 24) (PV.agg (jZ (n,y)))) (some 25) (PV.bool true)) (some 26) (.ah (bound.map Scope.cells) ck)) (some 27) (.fn (.func 319) [] [.ref H.next 0])) H' (by
   intro j hj;simp only [List.mem_cons,List.not_mem_nil,or_false,not_or]at hj;simp only [upd,hj.1,hj.2.1,hj.2.2.1,hj.2.2.2.1,hj.2.2.2.2.1,hj.2.2.2.2.2,↓reduceIte]) g1 hF g3
  rcases he with rfl|rfl
  · exact fin
  · exact fin
theorem lT.aGs {H H':AH} {l:List (Nd×NV)} {v:PV} {id o lo:Nat} {left:List Str} {cl:Ck} {c:Int} (h:lT H l v id o lo left cl c) {i:Nat} {n:Nd} {id' len cap:Nat} {ns:List Str} (hx:l[i]? =some (n,.m id' len cap)) (h0:ns≠[])
 (hr:aG H' aF 1 ns (.bO id' 0 len cap 1) [id']) (hf:HF [id'] H H'):lT H' (l.set i ({n with names:=ns},.m id' len cap)) v id o lo left cl c:=by
 have hi:=(List.getElem?_eq_some_iff.1 hx).1;have hne:id≠id':=fun e=>h.own.ne i _ hx (by rw [e];exact List.mem_singleton.2 rfl);have hon:o≠id':=fun e=>h.nen i _ hx (by rw [e];exact List.mem_singleton.2 rfl);have hget: ∀(k:Nat) (x:Nd×NV),(l.set i (({n with names:=ns}:Nd),NV.m id' len cap))[k]? =some x->(k=i/\x=(({n with names:=ns}:Nd),NV.m id' len cap))\/(k≠i/\l[k]? =some x):=by
  intro k x e;rw [List.getElem?_set]at e;by_cases hk:i=k
  · subst hk;rw [if_pos rfl,if_pos hi]at e;cases e;exact .inl ⟨rfl,rfl⟩
  · rw [if_neg hk]at e;exact .inr ⟨fun e=>hk e.symm,e⟩
 have adS: ∀(k:Nat) (x:Nd×NV),(l.set i (({n with names:=ns}:Nd),NV.m id' len cap))[k]? =some x-> ∃x0,l[k]? =some x0/\x.2=x0.2:=by
  intro k x e;rcases hget k x e with⟨rfl,rfl⟩|⟨_,e⟩
  · exact⟨_,hx,rfl⟩
  · exact⟨x,e,rfl⟩
 have hrow:aG H' jZ 5 (l.set i (({n with names:=ns}:Nd),NV.m id' len cap)) v [id]:=by
  have:=h.own.row.hf hf (fun a ha hm=>hne ((List.mem_singleton.1 ha).symm.trans (List.mem_singleton.1 hm)));have em:(l.set i (({n with names:=ns}:Nd),NV.m id' len cap)).map jZ=l.map jZ:=by
   rw [List.map_set];have:jZ (({n with names:=ns}:Nd),NV.m id' len cap)=(l.map jZ)[i]'(by simpa using hi):=by
    rw [List.getElem_map,(List.getElem?_eq_some_iff.1 hx).2];rfl
   rw [this,List.set_getElem_self]
  unfold aG at this⊢;rw [em,List.length_set];rcases this with⟨h1,h2,h3⟩|h
  · subst h2;simp at hi
  · exact .inr h
 refine⟨⟨hrow,fun k x e=> ?_,fun k k' x x' e e' hne=> ?_,fun k x e=> ?_,fun k x e=> ?_,h.own.Yk⟩,(hf.2 o h.lt fun hm=>hon (List.mem_singleton.1 hm)).trans h.obj,Nat.lt_of_lt_of_le h.lt hf.1,h.ne,fun k x e=> ?_⟩
 · rw [if_pos (List.getElem?_eq_some_iff.1 e).1];rcases hget k x e with⟨rfl,rfl⟩|⟨hk,e⟩
   · exact⟨h0,hr⟩
   · have Ni:=h.own.GI k x e;rw [if_pos (List.getElem?_eq_some_iff.1 e).1]at Ni;exact Ni.hf hf fun a ha hm=>h.own.dj k i x _ e hx hk a ha hm
 · obtain⟨x0,e0,q1⟩:=adS k x e;obtain⟨x0',e0',q1'⟩:=adS k' x' e';rw [q1,q1'];exact h.own.dj k k' x0 x0' e0 e0' hne
 · obtain⟨x0,e0,q1⟩:=adS k x e;rw [q1];exact h.own.ne k x0 e0
 · obtain⟨x0,e0,q1⟩:=adS k x e;rw [q1];exact h.own.lob k x0 e0
 · obtain⟨x0,e0,q1⟩:=adS k x e;rw [q1];exact h.nen k x0 e0
theorem lT.cnt {H:AH} {l:List (Nd×NV)} {v:PV} {id o lo:Nat} {left:List Str} {cl:Ck} {c c':Int} (h:lT H l v id o lo left cl c):lT (H.put o [v,.ah (left.map aF) cl,.int .i64 c']) l v id o lo left cl c'/\HF [o] H (H.put o [v,.ah (left.map aF) cl,.int .i64 c']):=by
 have hf:HF [o] H (H.put o [v,.ah (left.map aF) cl,.int .i64 c']):=HF.put (.inl (List.mem_singleton.2 rfl)) (HF.refl _ _);refine⟨⟨⟨h.own.row.hf hf (fun a ha hm=>h.ne ((List.mem_singleton.1 hm).symm.trans (List.mem_singleton.1 ha))),fun i x hx=> ?_,h.own.dj,h.own.ne,h.own.lob,h.own.Yk⟩,?_,h.lt,h.ne,h.nen⟩,hf⟩
 · have:=h.own.GI i x hx;have hi:=(List.getElem?_eq_some_iff.1 hx).1;rw [if_pos hi]at this⊢;exact this.hf hf fun a ha hm=>h.nen i x hx (List.mem_singleton.1 hm▸ha)
 · show(if o=o then _ else _)=_
   rw [if_pos rfl]
def Js (left:List Str) (F:Nat):Nat->Int->Option (List Str×Int)
 |0,c=>some ([],c)
 |m+1,c=>(Dl left F c).bind fun p=>(Js left F m p.2).bind fun r=>some (p.1::r.1,r.2)
theorem HF.up {M M':List Nat} {H H':AH} (h:HF M H H') (hs: ∀a∈M,a∈M'):HF M' H H':=⟨h.1,fun a ha hm=>h.2 a ha fun h=>hm (hs a h)⟩
theorem HF.tr {M:List Nat} {H H' gy:AH} (h:HF M H H') (h':HF M H' gy):HF M H gy:=⟨Nat.le_trans h.1 h'.1,fun a ha hm=>(h'.2 a (Nat.lt_of_lt_of_le ha h.1) hm).trans (h.2 a ha hm)⟩
section
variable {l:List (Nd×NV)} {v:PV} {id o lo:Nat} {left:List Str} {cl:Ck} {i:Nat} {n:Nd} {y:NV} {F q:Nat} {ns:List Str} {c':Int} {Q:Post}
theorem afO (hx:(l[i]?).map (·.2)=some y) (Kw:q∉mH l id o) (hnl:n.names.length<=1000000): ∀(m k:Nat) (done:List Str) (c:Int) (ns:List Str) (σ:Nat->PV) (H:AH),done.length=k->k+m=n.names.length->Js left F m c=some (ns,c')->
 lT H (l.set i ({n with names:=done++n.names.drop k},y)) v id o lo left cl c->σ 0= .ref o 0->σ 6= .ref q 0->σ 60= .int .i64 n.names.length->σ 61= .int .i64 k->q<H.next->H.obj q=some [.ref id (i*5)]->
 (∀σ' H',(∀j,j≠10->j<61\/72<j->σ' j=σ j)->lT H' (l.set i ({n with names:=done++ns},y)) v id o lo left cl c'->HF (o::y.ids) H H'->H'.obj q=some [.ref id (i*5)]->Q (.exit 2) σ' H')->W Tryz.prog (.loop MR) Q σ H:=by
 obtain⟨hi,hy⟩:i<l.length/\(l[i]?).map (·.2)=some y:=by
  refine⟨?_,hx⟩;by_cases h:i<l.length
  · exact h
  · rw [List.getElem?_eq_none (by omega)]at hx;cases hx
 have hqo:q≠o:=fun e=>Kw (by rw [e];exact List.mem_cons_self);have hqi:q≠id:=fun e=>Kw (by rw [e];exact List.mem_cons_of_mem _ List.mem_cons_self);have hqy:q∉y.ids:=by
  intro hm;obtain⟨x0,e0,e1⟩: ∃x0,l[i]? =some x0/\x0.2=y:=by
   cases h:l[i]? with
   |none=>rw [h]at hx;cases hx
   |some x0=>rw [h]at hx;exact⟨x0,rfl,by simpa using hx⟩
  exact Kw (List.mem_cons_of_mem _ (List.mem_cons_of_mem _ (QT e0 (e1▸hm))))
 intro m
 induction m with
 |zero=>
  intro k done c ns σ H hd hk hF hV s0 s6 s60 s61 hq ho q0;cases hF;have hge:decide ((k:Int)<(n.names.length:Int))=false:=decide_eq_false (by omega);refine bA (fun K hK=>aJ ?_);unfold MR;simp -implicitDefEqProofs only [go_sem,s60,s61,hge];rw [List.drop_of_length_le (by omega)]at hV;refine q0 _ H (fun j h10 hj=> ?_) hV (HF.refl _ _) ho;have:j≠62:=by omega
  simp only [upd,this,↓reduceIte]
 |succ m ih=>
  intro k done c ns σ H hd hk hF hV s0 s6 s60 s61 hq ho q0;rw [Js]at hF;obtain⟨⟨s1,c1⟩,hF1,hF⟩:=ak hF;obtain⟨⟨r2,c2⟩,hF2,hF⟩:=ak hF;cases hF;have hlt:decide ((k:Int)<(n.names.length:Int))=true:=decide_eq_true (by omega);have hset:(l.set i (({n with names:=done++n.names.drop k}:Nd),y))[i]? =some (({n with names:=done++n.names.drop k}:Nd),y):=by rw [List.getElem?_set,if_pos rfl,if_pos hi]
  have Ni:=hV.own.GI i _ hset;rw [if_pos (by rw [List.length_set];exact hi)]at Ni;obtain⟨id0,C,e1,hid,hC,hcell,hle,hdrop,hI⟩:=aG.content hV.own.row hset;obtain rfl:id=id0:=by simpa using e1
  have hmem:(done++n.names.drop k)[k]? =some (n.names[k]'(by omega)):=by
   rw [List.getElem?_append_right (by omega),hd,Nat.sub_self,List.getElem?_drop,Nat.add_zero,List.getElem?_eq_getElem]
  cases y with
  |p l0=>
   have h2:done++n.names.drop k=[]:=Ni.2;rw [h2]at hmem;cases hmem
  |m id' len cap=>
  obtain⟨h0,hr0⟩:=Ni;have hr0:aG H aF 1 (done++n.names.drop k) (.bO id' 0 len cap 1) [id']:=hr0;have c3:C[i*5+3]? =some (.bO id' 0 len cap 1):=hcell 3 _ rfl;refine bA (fun K hK=>aJ ?_);unfold MR;simp -implicitDefEqProofs only [go_sem,s60,s61,hlt];have aGt:o≠id:=hV.ne;obtain⟨H1,hH1⟩: ∃H1,H1=H.put o [v,.ah (left.map aF) cl,.int .i64 c1]:=⟨_,rfl⟩;obtain⟨hV1,hf1⟩:=hV.cnt (c':=c1);rw [<-hH1]at hV1 hf1;have ho1:H1.obj q=some [.ref id (i*5)]:=(hf1.2 q hq fun hm=>hqo (List.mem_singleton.1 hm)).trans ho;have hC1:H1.obj id=some C:=(hf1.2 id hid fun hm=>aGt (List.mem_singleton.1 hm).symm).trans hC;refine⟨fun H'=>H'.obj q=some [.ref id (i*5)]/\H'.obj id=some C,⟨ho,hC⟩,?_⟩;refine eu (.ref id (i*5)) (fun H' hC'=>by simp -implicitDefEqProofs only [go_sem,s6,hC'.1]) ?_;refine eu (.ref id (i*5)) (fun H' hC'=>by simp -implicitDefEqProofs only [go_sem]) ?_;refine eu (.ref id (i*5+3)) (fun H' hC'=>by simp -implicitDefEqProofs only [go_sem]) ?_;refine eu (.bO id' 0 len cap 1) (fun H' hC'=>by simp -implicitDefEqProofs only [go_sem,hC'.2,c3]) ?_;refine eu (.int .i64 k) (fun H' hC'=>by simp -implicitDefEqProofs only [go_sem]) ?_;refine eu (.ref o 0) (fun H' hC'=>by simp -implicitDefEqProofs only [go_sem,s0]) ?_;refine .inr ⟨trivial,.str s1,H1,?_,⟨ho1,hC1⟩,?_⟩
  · show bg Tryz.prog 284 [_] H _
    simp -implicitDefEqProofs only [go_sem];exact(ais hF1 hV.obj).mono fun _ _ h=>⟨h.1,by rw [hH1];exact h.2⟩
  clear hH1;show WO Tryz.prog [oX 71 1 67 68,oS 1 71 70] [Fm.block 3,Fm.seq (AC.ops [oB 72 BinOp.add (AE.t 61) (AE.c (PV.int IntKind.i64 1)),oM 61 72])] (Bb K Q) _ _;have arb:(l.set i (({n with names:=done++n.names.drop k}:Nd),NV.m id' len cap))[i]? =some (({n with names:=done++n.names.drop k}:Nd),NV.m id' len cap):=hset;have ard:=hV1.own.GI i _ arb;rw [if_pos (by rw [List.length_set];exact hi)]at ard;obtain⟨_,hr1⟩:=ard;have hr1:aG H1 aF 1 (done++n.names.drop k) (.bO id' 0 len cap 1) [id']:=hr1;obtain⟨id2,C2,e2,_,_,_,_,_,hI2⟩:=aG.content hr1 hmem;obtain rfl:id'=id2:=by simpa using e2
  have aGu:jR 1 (.bO id' 0 len cap 1) (.int .i64 k)=some (.ref id' (k*1)):=hI2 .i64 k (by omega) (by omega);simp -implicitDefEqProofs only [go_sem,aGu];refine pJ (f:=aF) (id:=id') (o:=k*1) (i:=k) (j:=0) (a:=n.names[k]) (y:=s1) (vs:=[.str s1]) aH rfl rfl hr1 hmem aH rfl rfl (by decide) rfl (fun H' r' hf' ok'=> ?_);have es:(done++n.names.drop k).set k s1=(done++[s1])++n.names.drop (k+1):=by
   rw [List.set_append_right _ _ (by omega),hd,Nat.sub_self,List.drop_eq_getElem_cons (by omega),List.set_cons_zero,List.append_assoc];rfl
  rw [es]at r';have hV2:=hV1.aGs (ns:=(done++[s1])++n.names.drop (k+1)) arb (by simp) r' hf';rw [List.set_set]at hV2;have hV2:lT H' (l.set i (({n with names:=(done++[s1])++n.names.drop (k+1)}:Nd),NV.m id' len cap)) v id o lo left cl c1:=hV2;have aGv:q≠id':=fun e=>hqy (List.mem_singleton.2 e);have hf2:HF (o::(NV.m id' len cap).ids) H H':=(hf1.up fun a ha=>by rw [List.mem_singleton.1 ha];exact List.mem_cons_self).tr (hf'.up fun a ha=>List.mem_cons_of_mem _ ha);have hw:IntKind.wrap .i64 ((k:Int)+1)=((k+1:Nat):Int):=by rw [IntKind.wrap_i64];omega
  simp -implicitDefEqProofs only [go_sem,s61,hw];refine hK _ _ (ih (k+1) (done++[s1]) c1 r2 _ H' (by simp [hd]) (by omega) hF2 hV2 aH aH aH aH (Nat.lt_of_lt_of_le hq hf2.1) ((hf'.2 q (Nat.lt_of_lt_of_le hq hf1.1) fun hm=>aGv (List.mem_singleton.1 hm)).trans ho1) fun σ' H3 g1 g2 g3 g4=> ?_);rw [List.append_assoc]at g2;refine q0 σ' H3 (fun j h10 hj=>(g1 j h10 hj).trans ?_) g2 (hf2.tr g3) g4;have:j≠61/\j≠62/\j≠63/\j≠64/\j≠65/\j≠66/\j≠67/\j≠68/\j≠69/\j≠70/\j≠71/\j≠72:=by omega
  simp only [upd,h10,this,↓reduceIte]
end
def adU (left:List Str) (F:Nat) (bi:Bool) (n:Nd) (c:Int):Option (Nd×Int):=
 cond bi ((Js left F n.names.length c).bind fun p=>some ({n with names:=p.1},p.2)) (some (n,c))
theorem ayV {sz id o:Nat} {x w:AE} {σ:Nat->PV} {H:AH} {vs cs:List PV} (hx:x.ev σ= .ref id o) (hw:cellsOf (w.ev σ)=some vs) (ho:H.obj id=some cs) (h1:vs.length=sz) (h2:o+sz<=cs.length) (h3:vs.all PV.one=true):
 jo (.store sz x w) σ H=some (.any,H.put id (putCells cs o vs)):=by
 simp only [jo,hx,hw,ho];rw [if_pos ⟨h1,h2,h3⟩]
theorem WT {P:Program} {Q:Post} {s:List Fm} {d:Option Nat} {l:List aI} {sz id o:Nat} {x w:AE} {σ:Nat->PV} {H:AH} {vs cs:List PV} (hx:x.ev σ= .ref id o) (hw:cellsOf (w.ev σ)=some vs) (ho:H.obj id=some cs) (h1:vs.length=sz) (h2:o+vs.length<=cs.length) (h3:vs.all PV.one=true)
 (h:WO P l s Q (upd σ d .any) (H.put id (putCells cs o vs))):WO P (⟨d,.d (.store sz x w),none⟩::l) s Q σ H:=by
 rw [dO,ayV hx hw ho h1 (h1▸h2) h3];exact h
section
variable {l:List (Nd×NV)} {v:PV} {id o lo:Nat} {left:List Str} {cl:Ck} {i:Nat} {n n':Nd} {y:NV} {F q b:Nat} {c c':Int} {bi:Bool} {H:AH} {σ:Nat->PV} {Q:Post}
theorem ayW (hV:lT H l v id o lo left cl c) (hx:l[i]? =some (n,y)) (hnl:n.names.length<=1000000) (Kw:q∉mH l id o) (hbM:b∉mH l id o) (hqb:q≠b) (s0:σ 0= .ref o 0) (s6:σ 6= .ref q 0) (s9:σ 9= .ref b 0) (hq:q<H.next) (hbl:b<H.next)
 (ho:H.obj q=some [.ref id (i*5)]) (Dm:H.obj b=some (jZ (n,y))) (hbi:l8 n.kind=some bi) (hF:adU left F bi n c=some (n',c'))
 (q0: ∀σ' H' (z:NV),(∀j,j≠10->j<45\/72<j->σ' j=σ j)->lT H' (l.set i (n',y)) v id o lo left cl c'->(bi=true->jF H' (n,z)/\ ∀a∈z.ids,H.next<=a)->HF (b::o::y.ids) H H'->H'.obj q=some [.ref id (i*5)]->H'.obj b=some (jZ (n,z))->Q .normal σ' H'):W Tryz.prog Uq Q σ H:=by
 obtain⟨id0,C,e1,hid,hC,hcell,hle,hdrop,hI⟩:=aG.content hV.own.row hx;obtain rfl:id=id0:=by simpa using e1
 have hi:=(List.getElem?_eq_some_iff.1 hx).1;have hy:jF H (n,y):=by
  have:=hV.own.GI i _ hx;rw [if_pos hi]at this;exact this
 have c0:C[i*5]? =some (.int .i64 n.kind):=hcell 0 _ rfl;have c3:C[i*5+3]? =some y.pv:=hcell 3 _ rfl;refine aJ ?_;unfold Uq;simp -implicitDefEqProofs only [go_sem,s6,ho,hC,c0];refine au (adC hbi) ?_;cases bi
 case false=>
  cases hF;simp -implicitDefEqProofs only [go_sem];refine q0 _ H y (fun j h10 hj=> ?_) (by rw [U5 hx];exact hV) (fun h=>by cases h) (HF.refl _ _) ho Dm;have:j≠45/\j≠46/\j≠47/\j≠48/\j≠49:=by omega
  simp only [upd,this,↓reduceIte]
 case true=>
  obtain⟨⟨ns,c2⟩,hF1,hF⟩:=ak hF;cases hF;simp -implicitDefEqProofs only [go_sem,s6,ho,hC,c3];refine bg.mono (afN hy hnl) ?_;rintro _ H1 ⟨z,rfl,hz,hzn,hf1,hok1⟩;have aGw:b≠id:=fun e=>hbM (by rw [e];exact List.mem_cons_of_mem _ List.mem_cons_self);have ho1:H1.obj q=some [.ref id (i*5)]:=(hf1.2 q hq List.not_mem_nil).trans ho;have hC1:H1.obj id=some C:=(hf1.2 id hid List.not_mem_nil).trans hC;have aGx:H1.obj b=some (jZ (n,y)):=(hf1.2 b hbl List.not_mem_nil).trans Dm;have hV1:=hV.new hf1 (fun a ha=>by cases ha);have hcz:cellsOf z.pv=some [z.pv]:=by cases z<;>rfl
  have hone:[z.pv].all PV.one=true:=by cases z<;>rfl
  have hput:putCells (jZ (n,y)) 3 [z.pv]=jZ (n,z):=by cases z<;>rfl
  simp -implicitDefEqProofs only [go_sem,s9];refine WT (id:=b) (o:=3) (vs:=[z.pv]) (cs:=jZ (n,y)) aH (by simp -implicitDefEqProofs only [go_sem,hcz]) aGx rfl (by show 4<=5;decide) hone ?_;rw [hput];obtain⟨H2,hH2⟩: ∃H2,H2=H1.put b (jZ (n,z)):=⟨_,rfl⟩;rw [<-hH2];have hf2:HF [b] H1 H2:=by rw [hH2];exact HF.put (.inl (List.mem_singleton.2 rfl)) (HF.refl _ _)
  have aGy:H2.obj b=some (jZ (n,z)):=by
   rw [hH2];show(if b=b then _ else _)=_;rw [if_pos rfl]
  clear hH2;have hb1:b<H1.next:=Nat.lt_of_lt_of_le hbl hf1.1;have ho2:H2.obj q=some [.ref id (i*5)]:=(hf2.2 q (Nat.lt_of_lt_of_le hq hf1.1) fun hm=>hqb (List.mem_singleton.1 hm)).trans ho1;have hC2:H2.obj id=some C:=(hf2.2 id (Nat.lt_of_lt_of_le hid hf1.1) fun hm=>aGw (List.mem_singleton.1 hm).symm).trans hC1;have hV2:=hV1.hf hf2 (fun a ha hm=>hbM (List.mem_singleton.1 hm▸ha));have hz2:jF H2 (n,z):=hz.hf hf2 fun a ha hm=>by have:=hzn a ha;rw [List.mem_singleton.1 hm]at this;omega
  have hq2:q<H2.next:=Nat.lt_of_lt_of_le hq (Nat.le_trans hf1.1 hf2.1);have hb2:b<H2.next:=Nat.lt_of_lt_of_le hb1 hf2.1;have hlen:zA y.pv=some (.int .i64 n.names.length):=(q8.whole hy).len;simp -implicitDefEqProofs only [go_sem,s6,ho2,hC2,c3,hlen];have e0:(({n with names:=[]++n.names.drop 0}:Nd),y)=(n,y):=rfl;refine afO (i:=i) (n:=n) (y:=y) (F:=F) (q:=q) (l:=l) (v:=v) (id:=id) (o:=o) (lo:=lo) (left:=left) (cl:=cl) (by rw [hx];rfl) Kw hnl n.names.length 0 [] c ns _ H2 rfl (Nat.zero_add _) hF1 (by rw [e0,U5 hx];exact hV2) aH aH aH aH hq2 ho2 fun σ' H3 g1 g2 g3 g4=> ?_;have sD:HF [b] H H2:=(hf1.up fun a ha=>by cases ha).tr hf2;have hby:b∉y.ids:=fun hm=>hbM (List.mem_cons_of_mem _ (List.mem_cons_of_mem _ (QT hx hm)));have JK:b≠o:=fun e=>hbM (by rw [e];exact List.mem_cons_self);refine q0 σ' H3 z (fun j h10 hj=>(g1 j h10 (by omega)).trans ?_) g2 (fun _=>⟨hz2.hf g3 fun a ha hm=> ?_,hzn⟩) ((sD.up fun a ha=> ?_).tr (g3.up fun a ha=>List.mem_cons_of_mem _ ha)) g4 ((g3.2 b hb2 fun hm=> ?_).trans aGy)
  · have:j≠45/\j≠46/\j≠47/\j≠48/\j≠49/\j≠50/\j≠51/\j≠52/\j≠53/\j≠54/\j≠55/\j≠56/\j≠57/\j≠58/\j≠59/\j≠60/\j≠61:=by omega
    simp only [upd,this,↓reduceIte]
  · have h1:=hzn a ha;have h2:a<H.next:=by
     rcases List.mem_cons.1 hm with rfl|hm
     · exact hV.lt
     · exact hy.lt a hm
    omega
  · rw [List.mem_singleton.1 ha];exact List.mem_cons_self
  · rcases List.mem_cons.1 hm with rfl|hm
    · exact JK rfl
    · exact hby hm
end
section
variable {l:List (Nd×NV)} {v:PV} {id o lo:Nat} {left:List Str} {cl:Ck} {i:Nat} {n:Nd} {y:NV} {q j:Nat} {c:Int} {a b:List Str} {ids:List Nat} {v87:PV} {Q:Post}
theorem alo (hx:l[i]? =some (n,y)) (Kw:q∉mH l id o) (hb:iM n (j:Int)=some b) (hab:a.length<=b.length) (hal:a.length<=1000000): ∀(m k:Nat) (sc:List Scope) (ck:Ck) (σ:Nat->PV) (H:AH),k+m=a.length->q8 H a v87 ids->lT H l v id o lo left cl c->bf H ck->
 σ 87=v87->σ 88= .int .i64 a.length->σ 89= .int .i64 k->σ 11= .int .i64 j->σ 13= .ah (sc.map Scope.cells) ck->σ 6= .ref q 0->q<H.next->H.obj q=some [.ref id (i*5)]->sc.length+m<=1000000000->
 (∀σ' H' Ez,(∀j,j≠13/\j≠14/\j≠15->j<89\/107<j->σ' j=σ j)->σ' 13= .ah ((sc++List.zipWith Scope.mk (a.drop k) (b.drop k)).map Scope.cells) Ez->HF [] H H'->Q (.exit 6) σ' H')->W Tryz.prog (.loop MS) Q σ H:=by
 intro m
 induction m with
 |zero=>
  intro k sc ck σ H hk hB hV hok s87 s88 s89 s11 s13 s6 hq ho hsc q0;have hge:decide ((k:Int)<(a.length:Int))=false:=decide_eq_false (by omega);refine bA (fun K hK=>aJ ?_);unfold MS;simp -implicitDefEqProofs only [go_sem,s88,s89,hge];refine q0 _ H ck (fun j h10 hj=> ?_) ?_ (HF.refl _ _)
  · have:j≠90:=by omega
    simp only [upd,this,↓reduceIte]
  · rw [List.drop_of_length_le (by omega),List.zipWith_nil_left,List.append_nil];simp -implicitDefEqProofs only [go_sem,s13]
 |succ m ih=>
  intro k sc ck σ H hk hB hV hok s87 s88 s89 s11 s13 s6 hq ho hsc q0;have hlt:decide ((k:Int)<(a.length:Int))=true:=decide_eq_true (by omega);obtain⟨id0,C,e1,hid,hC,hcell,hle,hdrop,hI⟩:=aG.content hV.own.row hx;obtain rfl:id=id0:=by simpa using e1
  have h5:=hle 5 (Nat.le_refl _);have hy:jF H (n,y):=by
   have:=hV.own.GI i _ hx;rw [if_pos (List.getElem?_eq_some_iff.1 hx).1]at this;exact this
  have hka:k<a.length:=by omega
  have hkb:k<b.length:=by omega
  obtain⟨O6,aLO,Ca,i1,i2,i3,i4,i5⟩:=hB.at_ k a[k] (List.getElem?_eq_getElem hka);refine bA (fun K hK=>aJ ?_);unfold MS;simp -implicitDefEqProofs only [go_sem,s87,s88,s89,hlt,i1,i4,i5,s13,s6,ho,hC,hdrop,h5,s11];refine bg.mono (adQ hy hb) ?_;rintro vb H1 ⟨hBb,hf1,hok1⟩;obtain⟨JY,aLP,Cb,j1,j2,j3,j4,j5⟩:=hBb.at_ k b[k] (List.getElem?_eq_getElem hkb);simp -implicitDefEqProofs only [go_sem,j1,j4,j5];refine gW (f:=Scope.cells) aln sc [⟨a[k],b[k]⟩] ck .exact aH aH (hok1 ck hok) (by simp;omega) (fun Ez H2 g1 g2 g3 g4=> ?_);have hf2:HF [] H1 H2:=⟨g2,fun i _ _=>g3 i⟩;have sD:=hf1.tr hf2;have hw:IntKind.wrap .i64 ((k:Int)+1)=((k+1:Nat):Int):=by rw [IntKind.wrap_i64];omega
  simp -implicitDefEqProofs only [go_sem,s89,hw];refine hK _ _ (ih (k+1) (sc++[⟨a[k],b[k]⟩]) Ez _ H2 (by omega) (hB.hf sD (fun _ _ h=>by cases h)) (hV.new sD (fun _ h=>by cases h)) g1 aH aH aH aH aH aH (Nat.lt_of_lt_of_le hq sD.1) ((sD.2 q hq List.not_mem_nil).trans ho) (by simp;omega) fun σ' H3 ck3 g1 g2 g3=> ?_);refine q0 σ' H3 ck3 (fun j h10 hj=>(g1 j h10 hj).trans ?_) ?_ (sD.tr g3)
  · have:j≠89/\j≠90/\j≠91/\j≠92/\j≠93/\j≠94/\j≠95/\j≠96/\j≠97/\j≠98/\j≠99/\j≠100/\j≠101/\j≠102/\j≠103/\j≠104/\j≠105/\j≠106/\j≠107:=by omega
    simp only [upd,h10,this,↓reduceIte]
  · rw [g2,List.drop_eq_getElem_cons hka,List.drop_eq_getElem_cons hkb,List.zipWith_cons_cons,List.append_assoc];rfl
end
theorem alp {H:AH} {n:Nd} {z:NV} {p:Nat} (hk:n.kind=16\/n.kind=17):bg Tryz.prog 240 [.agg (jZ (n,z)),.int .i64 p] H fun v H'=>q8 H' [] v z.ids/\HF [] H H'/\ ∀c,bf H c->bf H' c:=by
 refine aM ahX (by simp) (aJ ?_);have hnew:HF [] H (H.new (jZ (n,z))):=HF.new (HF.refl _ _);have hok: ∀c,bf H c->bf (H.new (jZ (n,z))) c:=fun c k=>k.new;have h10:kL n.kind=some false:=by rcases hk with h|h<;>rw [h]<;>rfl
 have e21:(n.kind==23)=false:=by rcases hk with h|h<;>rw [h]<;>rfl
 unfold abk;simp -implicitDefEqProofs only [go_sem,dO,jZ,Nat.le_refl];refine(Pq n.kind).c _ _ ⟨(by simp -implicitDefEqProofs only [go_sem]),trivial⟩ _ h10 _ fun σ' I4 s15=> ?_
 replace s15:=s15.1
 have s16:σ' 2=(.ref H.next 0):=(I4 2 (by decide)).trans (by simp -implicitDefEqProofs only [go_sem]);have yU:σ' 5=(.bool ((p:Int)==(IntKind.wrap .i64 ((n.args.length:Int) -1)))):=(I4 5 (by decide)).trans (by simp -implicitDefEqProofs only [go_sem]);have nk:σ' 13=(.int .i64 n.kind):=(I4 13 (by decide)).trans (by simp -implicitDefEqProofs only [go_sem]);clear I4;simp -implicitDefEqProofs only [go_sem,dO,s15,s16,yU,nk,e21];exact⟨q8.nil,hnew,hok⟩
theorem alq {n:Nd} {j:Int} {r:List Str} (hk:n.kind=16\/n.kind=17) (h:iM n j=some r):r=[]:=by
 have h10:kL n.kind=some false:=by rcases hk with h|h<;>rw [h]<;>rfl
 have e21:(n.kind==23)=false:=by rcases hk with h|h<;>rw [h]<;>rfl
 unfold iM at h;rw [h10,Option.bind_some,cond_false,e21,cond_false]at h;exact(abl h).symm
theorem aad {k:Int} (h:l8 k=some false):k=16\/k=17:=by
 unfold l8 at h;obtain⟨e,h⟩|⟨e,h⟩:=aA h
 · right;have:=abl h;simpa using this
 · left;simpa using e
abbrev ai0:=List Nd->Int->Nat->List Scope->Option (List Nd×Int)
def Qh (rec:ai0) (old:Nd) (i:Nat) (bound:List Scope):List Int->Nat->List Nd->Int->Option (List Nd×Int)
 |[],_,out,c=>some (out,c)
 |a::l,j,out,c=>Option.bind out[i]? fun n=>(iM old (j:Int)).bind fun x=>(iM n (j:Int)).bind fun y=>
  if x.length<=y.length/\x.length<=1000000/\0<=a then (rec out c a.toNat (bound++List.zipWith Scope.mk x y)).bind fun p=>Qh rec old i bound l (j+1) p.1 p.2 else none
def KT (left:List Str) (F:Nat):Nat->ai0
 |0=>fun _ _ _ _=>none
 |k+1=>fun out c i bound=>Option.bind out[i]? fun n=>(nP F n).bind fun nm=>(l8 n.kind).bind fun bi=>
  let n1:Nd:={n with text:=if nm=true then ng bound n.text else n.text}
  (adU left F bi n1 c).bind fun p=>if bound.length<=1000000/\n.names.length<=1000000/\n.args.length<=1000000 then Qh (KT left F k) n1 i bound n.args 0 (out.set i p.1) p.2 else none
def AV (taken:List Str) (F:Nat) (fx:Bool):List Str->Int->Option (List Str×Int)
 |[],c=>some ([],c)
 |s::l,c=>(cond fx (some (s,c)) (Eh taken F c)).bind fun p=>(AV taken F fx l p.2).bind fun r=>some (p.1::r.1,r.2)
def kI (n:Nd) (v:PV):List PV:=[.int .i64 n.kind,.int .i64 n.n,.str n.text,v,.ah (n.args.map aK) .unk]
section
variable {taken:List Str} {F:Nat} {fx:Bool} {n:Nd} {o p b:Nat} {cl:Ck} {Q:Post} {c':Int}
theorem atc (hn:n.names.length<=1000000) (hop:o≠p) (Dm:o≠b) (hpb:p≠b): ∀(m i:Nat) (done:List Str) (ck:Ck) (c:Int) (ns:List Str) (σ:Nat->PV) (H:AH),i+m=n.names.length->done.length=i->AV taken F fx (n.names.drop i) c=some (ns,c')->
 H.obj o=some [.ah (taken.map aF) cl,.int .i64 c]->H.obj p=some (kI n (.ah (done.map aF) ck))->H.obj b=some (kI n (.ah (n.names.map aF) .unk))->o<H.next->p<H.next->b<H.next->bf H ck->
 σ 0= .ref o 0->σ 9= .ref p 0->σ 10= .ref b 0->σ 11= .bool fx->σ 12= .int .i64 i->
 (∀σ' H' Ez,(∀j,j≠12->j<39\/63<j->σ' j=σ j)->H'.obj o=some [.ah (taken.map aF) cl,.int .i64 c']->H'.obj p=some (kI n (.ah ((done++ns).map aF) Ez))->HF [o,p] H H'->(∀c3,bf H c3->lI ck c3->bf H' c3)->Q (.exit 0) σ' H')->W Tryz.prog (.loop IQ) Q σ H:=by
 intro m
 induction m with
 |zero=>
  intro i done ck c ns σ H hi hd h ho hp hb lo lp lb hok s0 s9 s10 s11 s12 q0;rw [List.drop_of_length_le (by omega)]at h;cases h;have hge:decide ((i:Int)<(n.names.length:Int))=false:=decide_eq_false (by omega);refine bA (fun K hK=>aJ ?_);unfold IQ;have hb':=hb;unfold kI at hb';simp -implicitDefEqProofs only [go_sem,s10,s12,hb',hge];refine q0 _ H ck (fun j h12 hj=> ?_) ho (by rw [List.append_nil];exact hp) (HF.refl _ _) (fun c3 h _=>h);have:j≠39/\j≠40/\j≠41/\j≠42/\j≠43:=by omega
  simp only [upd,this,↓reduceIte]
 |succ m ih=>
  intro i done ck c ns σ H hi hd h ho hp hb lo lp lb hok s0 s9 s10 s11 s12 q0;have hin:i<n.names.length:=by omega
  rw [List.drop_eq_getElem_cons hin,AV]at h;obtain⟨⟨s1,c1⟩,h1,h2⟩:=ak h;obtain⟨⟨r2,c2⟩,h3,h4⟩:=ak h2;cases h4;clear h h2;have hlt:decide ((i:Int)<(n.names.length:Int))=true:=decide_eq_true (by omega);have hget:(n.names.map aF)[i]? =some (aF n.names[i]):=by rw [List.getElem?_map,List.getElem?_eq_getElem hin];rfl
  have hw:IntKind.wrap .i64 ((i:Int)+1)=((i+1:Nat):Int):=by rw [IntKind.wrap_i64];omega
  refine bA (fun K hK=>aJ ?_);unfold IQ;have hb':=hb;have hp':=hp;unfold kI at hb' hp';simp -implicitDefEqProofs only [go_sem,s10,s11,s12,hb',hlt];have hput: ∀v v':PV,putCells (kI n v) 3 [v']=kI n v':=fun _ _=>rfl;cases fx with
  |true=>
   cases h1;simp -implicitDefEqProofs only [go_sem];refine jI ?_;simp -implicitDefEqProofs only [go_sem,s9,s10,s12,hp',hb',hget];refine gW (f:=aF) lC done [n.names[i]] ck .exact aH aH hok (by simp;omega) (fun Ez H2 g1 g2 g3 g4=> ?_);simp -implicitDefEqProofs only [go_sem,s9];refine WT (id:=p) (o:=3) (vs:=[.ah ((done++[n.names[i]]).map aF) Ez]) (cs:=kI n (.ah (done.map aF) ck)) aH aH ((g3 p).trans hp) rfl (by show 4<=5;decide) rfl ?_;rw [hput];simp -implicitDefEqProofs only [go_sem,s12,hw];obtain⟨H3,hH3⟩: ∃H3,H3=H2.put p (kI n (.ah ((done++[n.names[i]]).map aF) Ez)):=⟨_,rfl⟩;rw [<-hH3];have op3: ∀j,j≠p->H3.obj j=H2.obj j:=fun j hj=>by rw [hH3];show(if j=p then _ else _)=_;rw [if_neg hj]
   have pp3:H3.obj p=some (kI n (.ah ((done++[n.names[i]]).map aF) Ez)):=by rw [hH3];show(if p=p then _ else _)=_;rw [if_pos rfl]
   have nx3:H3.next=H2.next:=by rw [hH3];rfl
   have ok3: ∀c3,bf H2 c3->bf H3 c3:=fun c3 h=>by rw [hH3];exact h.put
   clear hH3;have hf3:HF [o,p] H H3:=⟨by rw [nx3];exact g2,fun a ha hm=>by
    rw [op3 a (fun e=>hm (by rw [e];simp)),g3]⟩
   refine hK _ _ (ih (i+1) (done++[n.names[i]]) Ez c r2 _ H3 (by omega) (by simp [hd]) h3 ((op3 o hop).trans ((g3 o).trans ho)) pp3 ((op3 b (Ne.symm hpb)).trans ((g3 b).trans hb)) (by omega) (by omega) (by omega) (ok3 _ g1) aH aH aH aH aH fun σ' H4 ck4 k1 k2 k3 k4 k5=> ?_);rw [List.append_assoc]at k3;refine q0 σ' H4 ck4 (fun j h12 hj=>(k1 j h12 hj).trans ?_) k2 k3 (hf3.tr k4) (fun c3 a1 a2=>k5 c3 (ok3 _ (g4 c3 a1 a2).1) (g4 c3 a1 a2).2);have:j≠39/\j≠40/\j≠41/\j≠42/\j≠43/\j≠44/\j≠45/\j≠46/\j≠47/\j≠48/\j≠49/\j≠50/\j≠51/\j≠52/\j≠53/\j≠54/\j≠55/\j≠56:=by omega
   simp only [upd,h12,this,↓reduceIte]
  |false=>
   simp -implicitDefEqProofs only [go_sem];obtain⟨H1,hH1⟩: ∃H1,H1=H.put o [.ah (taken.map aF) cl,.int .i64 c1]:=⟨_,rfl⟩;have op1: ∀j,j≠o->H1.obj j=H.obj j:=fun j hj=>by rw [hH1];show(if j=o then _ else _)=_;rw [if_neg hj]
   have oo1:H1.obj o=some [.ah (taken.map aF) cl,.int .i64 c1]:=by rw [hH1];show(if o=o then _ else _)=_;rw [if_pos rfl]
   have nx1:H1.next=H.next:=by rw [hH1];rfl
   have ok1: ∀c3,bf H c3->bf H1 c3:=fun c3 h=>by rw [hH1];exact h.put
   have hp1:H1.obj p=some (kI n (.ah (done.map aF) ck)):=(op1 p (Ne.symm hop)).trans hp;refine⟨fun H'=>H'.obj p=some (kI n (.ah (done.map aF) ck)),hp,?_⟩;refine eu (.ref p 3) (fun H' hC'=>by simp -implicitDefEqProofs only [go_sem,s9]) ?_;refine eu (.ah (done.map aF) ck) (fun H' hC'=>by
    unfold kI at hC';simp -implicitDefEqProofs only [go_sem,hC']) ?_
   refine eu (.ref o 0) (fun H' hC'=>by simp -implicitDefEqProofs only [go_sem,s0]) ?_;refine .inr ⟨trivial,.str s1,H1,?_,hp1,?_⟩
   · show bg Tryz.prog 263 [_] H _
     simp -implicitDefEqProofs only [go_sem];exact(aiZ h1 ho).mono fun _ _ h=>⟨h.1,by rw [hH1];exact h.2⟩
   clear hH1;refine eu (.ah [[.str s1]] .exact) (fun H' hC'=>by simp -implicitDefEqProofs only [go_sem]) ?_;show WO Tryz.prog [{dst:=some 62,k:=AK.d (DK.app 1 16 (AE.t 58) (AE.t 61)),g:=none},oF 63 3 9,oS 1 63 62] [Fm.block 1,Fm.seq (AC.ops [oM 44 12,oB 45 BinOp.add (AE.t 44) (AE.c (PV.int IntKind.i64 1)),oM 12 45])] (Bb K Q) _ _;refine gW (f:=aF) lC done [s1] ck .exact aH aH (ok1 _ hok) (by simp;omega) (fun Ez H2 g1 g2 g3 g4=> ?_);simp -implicitDefEqProofs only [go_sem,s9];refine WT (id:=p) (o:=3) (vs:=[.ah ((done++[s1]).map aF) Ez]) (cs:=kI n (.ah (done.map aF) ck)) aH aH ((g3 p).trans hp1) rfl (by show 4<=5;decide) rfl ?_;rw [hput];simp -implicitDefEqProofs only [go_sem,s12,hw];obtain⟨H3,hH3⟩: ∃H3,H3=H2.put p (kI n (.ah ((done++[s1]).map aF) Ez)):=⟨_,rfl⟩;rw [<-hH3];have op3: ∀j,j≠p->H3.obj j=H2.obj j:=fun j hj=>by rw [hH3];show(if j=p then _ else _)=_;rw [if_neg hj]
   have pp3:H3.obj p=some (kI n (.ah ((done++[s1]).map aF) Ez)):=by rw [hH3];show(if p=p then _ else _)=_;rw [if_pos rfl]
   have nx3:H3.next=H2.next:=by rw [hH3];rfl
   have ok3: ∀c3,bf H2 c3->bf H3 c3:=fun c3 h=>by rw [hH3];exact h.put
   clear hH3;have hf3:HF [o,p] H H3:=⟨by omega,fun a ha hm=>by
    rw [op3 a (fun e=>hm (by rw [e];simp)),g3,op1 a (fun e=>hm (by rw [e];simp))]⟩
   refine hK _ _ (ih (i+1) (done++[s1]) Ez c1 r2 _ H3 (by omega) (by simp [hd]) h3 ((op3 o hop).trans ((g3 o).trans oo1)) pp3 ((op3 b (Ne.symm hpb)).trans ((g3 b).trans ((op1 b (Ne.symm Dm)).trans hb))) (by omega) (by omega) (by omega) (ok3 _ g1) aH aH aH aH aH fun σ' H4 ck4 k1 k2 k3 k4 k5=> ?_);rw [List.append_assoc]at k3;refine q0 σ' H4 ck4 (fun j h12 hj=>(k1 j h12 hj).trans ?_) k2 k3 (hf3.tr k4) (fun c3 a1 a2=>k5 c3 (ok3 _ (g4 c3 (ok1 _ a1) a2).1) (g4 c3 (ok1 _ a1) a2).2);have:j≠39/\j≠40/\j≠41/\j≠42/\j≠43/\j≠44/\j≠45/\j≠46/\j≠57/\j≠58/\j≠59/\j≠60/\j≠61/\j≠62/\j≠63:=by omega
   simp only [upd,h12,this,↓reduceIte]
end
theorem aoa {P:Program} {C:AH->Prop} {α:Type} {d:Option Nat} {l:List (aI×Bool)} {K:(Nat->PV)->AH->Prop} {σ:Nat->PV} {H:AH} {sz b:Nat} {x y:AE} {f:α->List PV} (hf: ∀x,jY sz (f x)) (xs ys:List α) (c c2:Ck)
 (hx:x.ev σ= .ah (xs.map f) c) (hy:K6 (y.ev σ)= .ah (ys.map f) c2) (hok:bf H c) (hb:(xs.length+ys.length)*b<=1099511627776)
 (h: ∀c' H',bf H' c'->H.next<=H'.next->(∀i,H'.obj i=H.obj i)->(∀c3,bf H c3->lI c c3->bf H' c3/\lI c' c3)->C H'/\jq P C l K (upd σ d (.ah ((xs++ys).map f) c')) H'):
 jq P C ((⟨d,.d (.app sz b x y),none⟩,true)::l) K σ H:=by
 obtain⟨c',H',f1,f2,f3,f4,f5⟩:=agW hf xs ys c c2 hx hy hok hb;obtain⟨h1,h2⟩:=h c' H' f2 f3 f4 f5;exact VE _ H' f1 h1 h2
def Qi (F:Nat) (old nn:List Str):List Str->Option (List Str)
 |[]=>some []
 |s::l=>(Io F old s).bind fun j=>if 0<=j then Option.bind nn[j.toNat]? fun t=>(Qi F old nn l).bind fun r=>some (t::r)else none
section
variable {F:Nat} {n:Nd} {p b:Nat} {bs nn:List Str} {WU:Ck} {Q:Post}
theorem atd (hbs:bs.length<=1000000): ∀(m j:Nat) (bd cd:List Str) (c16 c17:Ck) (ms:List Str) (σ:Nat->PV) (H:AH),j+m=bs.length->Qi F n.names nn (bs.drop j)=some ms->
 H.obj p=some (kI n (.ah (nn.map aF) WU))->H.obj b=some (kI n (.ah (n.names.map aF) .unk))->bf H c16->bf H c17->lI c16 c17->bd.length+m<=100000000->cd.length+m<=100000000->
 σ 9= .ref p 0->σ 10= .ref b 0->σ 15= .ah (bs.map aF) .unk->σ 16= .ah (bd.map aF) c16->σ 17= .ah (cd.map aF) c17->σ 18= .int .i64 j->
 (∀σ' H' ai1 aob,(∀j,j≠16/\j≠17/\j≠18->j<78\/104<j->σ' j=σ j)->σ' 16= .ah ((bd++bs.drop j).map aF) ai1->σ' 17= .ah ((cd++ms).map aF) aob->HF [] H H'->(∀c3,bf H c3->lI c16 c3->lI c17 c3->bf H' c3)->Q (.exit 4) σ' H')->W Tryz.prog (.loop MO) Q σ H:=by
 intro m
 induction m with
 |zero=>
  intro j bd cd c16 c17 ms σ H hj h hp hb k16 k17 hd hl1 hl2 s9 s10 s15 s16 yU nk q0;rw [List.drop_of_length_le (by omega)]at h;cases h;have hge:decide ((j:Int)<(bs.length:Int))=false:=decide_eq_false (by omega);refine bA (fun K hK=>aJ ?_);unfold MO;simp -implicitDefEqProofs only [go_sem,s15,nk,hge];refine q0 _ H c16 c17 (fun i h12 hj=> ?_) ?_ ?_ (HF.refl _ _) (fun c3 h _ _=>h)
  · have:i≠78/\i≠79/\i≠80/\i≠81:=by omega
    simp only [upd,this,↓reduceIte]
  · rw [List.drop_of_length_le (by omega),List.append_nil];simp -implicitDefEqProofs only [go_sem,s16]
  · rw [List.append_nil];simp -implicitDefEqProofs only [go_sem,yU]
 |succ m ih=>
  intro j bd cd c16 c17 ms σ H hj h hp hb k16 k17 hd hl1 hl2 s9 s10 s15 s16 yU nk q0;have hjn:j<bs.length:=by omega
  rw [List.drop_eq_getElem_cons hjn,Qi]at h;obtain⟨a,ha,h1⟩:=ak h;obtain⟨ha0,h2⟩:=aZ h1;obtain⟨t,ht,h3⟩:=ak h2;obtain⟨r,hr,h4⟩:=ak h3;cases h4;clear h h1 h2 h3;have hlt:decide ((j:Int)<(bs.length:Int))=true:=decide_eq_true (by omega);have hget:(bs.map aF)[j]? =some (aF bs[j]):=by rw [List.getElem?_map,List.getElem?_eq_getElem hjn];rfl
  have aCq:(nn.map aF)[a.toNat]? =some (aF t):=by rw [List.getElem?_map,ht];rfl
  have hw:IntKind.wrap .i64 ((j:Int)+1)=((j+1:Nat):Int):=by rw [IntKind.wrap_i64];omega
  refine bA (fun K hK=>aJ ?_);unfold MO;simp -implicitDefEqProofs only [go_sem,s15,nk,hlt];refine⟨fun H'=>H'.obj p=some (kI n (.ah (nn.map aF) WU))/\H'.obj b=some (kI n (.ah (n.names.map aF) .unk)),⟨hp,hb⟩,?_⟩;refine eu (.ah (bd.map aF) c16) (fun H' hC'=>by simp -implicitDefEqProofs only [go_sem,s16]) ?_;refine eu (.ah (bs.map aF) .unk) (fun H' hC'=>by simp -implicitDefEqProofs only [go_sem,s15]) ?_;refine eu (.int .i64 j) (fun H' hC'=>by simp -implicitDefEqProofs only [go_sem,nk]) ?_;refine eu (.bY (aF bs[j]) 0) (fun H' hC'=>by simp -implicitDefEqProofs only [go_sem,hget]) ?_;refine eu (.str bs[j]) (fun H' hC'=>by simp -implicitDefEqProofs only [go_sem,aF]) ?_;refine eu (.ah [[.str bs[j]]] .exact) (fun H' hC'=>by simp -implicitDefEqProofs only [go_sem]) ?_;refine aoa (f:=aF) lC bd [bs[j]] c16 .exact aH aH k16 (by simp;omega) (fun ai1 H2 g1 g2 g3 g4=> ?_);have hp2:=(g3 p).trans hp;have hb2:=(g3 b).trans hb;refine⟨⟨hp2,hb2⟩,?_⟩;refine eu (.ah (cd.map aF) c17) (fun H' hC'=>by simp -implicitDefEqProofs only [go_sem,yU]) ?_;refine eu (.ref p 3) (fun H' hC'=>by simp -implicitDefEqProofs only [go_sem,s9]) ?_;refine eu (.ah (nn.map aF) WU) (fun H' hC'=>by
   have hC':=hC'.1;unfold kI at hC';simp -implicitDefEqProofs only [go_sem,hC']) ?_
  refine eu (.ref b 3) (fun H' hC'=>by simp -implicitDefEqProofs only [go_sem,s10]) ?_;refine eu (.ah (n.names.map aF) .unk) (fun H' hC'=>by
   have hC':=hC'.2;unfold kI at hC';simp -implicitDefEqProofs only [go_sem,hC']) ?_
  refine eu (.ah (bs.map aF) .unk) (fun H' hC'=>by simp -implicitDefEqProofs only [go_sem,s15]) ?_;refine eu (.int .i64 j) (fun H' hC'=>by simp -implicitDefEqProofs only [go_sem,nk]) ?_;refine eu (.bY (aF bs[j]) 0) (fun H' hC'=>by simp -implicitDefEqProofs only [go_sem,hget]) ?_;refine eu (.str bs[j]) (fun H' hC'=>by simp -implicitDefEqProofs only [go_sem,aF]) ?_;refine BJ (.int .i64 a) (by simp -implicitDefEqProofs only [go_sem];exact alg ha) ?_;refine eu (.bY (aF t) 0) (fun H' hC'=>by simp -implicitDefEqProofs only [go_sem,aCq,ha0]) ?_;refine eu (.str t) (fun H' hC'=>by simp -implicitDefEqProofs only [go_sem,aF]) ?_;refine eu (.ah [[.str t]] .exact) (fun H' hC'=>by simp -implicitDefEqProofs only [go_sem]) ?_;show WO Tryz.prog [{dst:=some 104,k:=AK.d (DK.app 1 16 (AE.t 91) (AE.t 103)),g:=none},oM 16 90,oM 17 104] [Fm.block 5,Fm.seq (AC.ops [oM 82 18,oB 83 BinOp.add (AE.t 82) (AE.c (PV.int IntKind.i64 1)),oM 18 83])] (Bb K Q) _ _;obtain⟨aGz,aGA⟩:=g4 c17 k17 hd;refine gW (f:=aF) lC cd [t] c17 .exact aH aH aGz (by simp;omega) (fun aob H3 e1 e2 e3 e4=> ?_);simp -implicitDefEqProofs only [go_sem,nk,hw];have hf3:HF [] H H3:=⟨Nat.le_trans g2 e2,fun a _ _=>(e3 a).trans (g3 a)⟩;obtain⟨aoc,aGB⟩:=e4 ai1 g1 aGA.symm;refine hK _ _ (ih (j+1) (bd++[bs[j]]) (cd++[t]) ai1 aob r _ H3 (by omega) hr ((e3 p).trans hp2) ((e3 b).trans hb2) aoc e1 aGB.symm (by simp;omega) (by simp;omega) aH aH aH aH aH aH fun σ' H4 u16 u17 v1 v2 v3 v4 v5=> ?_);rw [List.append_assoc]at v2 v3;refine q0 σ' H4 u16 u17 (fun i h12 hj=>(v1 i h12 hj).trans ?_) ?_ v3 (hf3.tr v4) (fun c3 w1 w2 w3=> ?_)
  · have:i≠78/\i≠79/\i≠80/\i≠81/\i≠82/\i≠83/\i≠84/\i≠85/\i≠86/\i≠87/\i≠88/\i≠89/\i≠90/\i≠91/\i≠92/\i≠93/\i≠94/\i≠95/\i≠96/\i≠97/\i≠98/\i≠99/\i≠100/\i≠101/\i≠102/\i≠103/\i≠104:=by omega
    simp only [upd,h12,this,↓reduceIte]
  · rw [v2,List.drop_eq_getElem_cons hjn];rfl
  · obtain⟨x1,x2⟩:=g4 c3 w1 w2;obtain⟨y1,y2⟩:=e4 c3 x1 w3;exact v5 c3 y1 x2 y2
end
theorem ag2 (l:List Str) (hl:l.length<=1000000) (H:AH):bg Tryz.prog 62 [.ah (l.map aF) .unk] H fun v H'=> ∃c',v= .ah (l.map aF) c'/\bf H' c'/\HF [] H H'/\ ∀c3,bf H c3->bf H' c3/\lI c' c3:=by
 refine aM ace (by simp) (aJ ?_);unfold X5;simp -implicitDefEqProofs only [go_sem];refine gW (f:=aF) lC [] l .exact .unk aH aH trivial (by simp;omega) (fun c' H' g1 g2 g3 g4=> ?_);simp -implicitDefEqProofs only [go_sem];exact⟨c',rfl,g1,⟨g2,fun a _ _=>g3 a⟩,fun c3 h=>g4 c3 h (fun t e=>by cases e)⟩
abbrev ai2:=List Nd->Int->List Str->List Str->Option (List Nd×Int)
def Jt (rec:ai2) (F:Nat) (e:List Nd) (old:Nd) (nn bound called:List Str):Nat->Nat->Int->Option (List (List Nd)×Int)
 |0,_,c=>some ([],c)
 |m+1,i,c=>(vk old (i:Int)).bind fun bs=>(Qi F old.names nn bs).bind fun ms=>(tQ F e (i:Int)).bind fun sub=>
  if bs.length<=1000000/\ms.length=bs.length then (rec sub c (bound++bs) (called++ms)).bind fun p=>(Jt rec F e old nn bound called m (i+1) p.2).bind fun q=>some (p.1::q.1,q.2)else none
def ayZ (o:Nat) (taken:List Str) (cl:Ck) (rec:ai2):Prop:=
 ∀(e:List Nd) (c:Int) (bound called:List Str) (r:List Nd) (c':Int),rec e c bound called=some (r,c')-> ∀H:AH,H.obj o=some [.ah (taken.map aF) cl,.int .i64 c]->o<H.next->
   bg Tryz.prog 222 [.ref o 0,gN e,.ah (bound.map aF) .unk,.ah (called.map aF) .unk] H fun v H'=>v=gN r/\H'.obj o=some [.ah (taken.map aF) cl,.int .i64 c']/\HF [o] H H'/\ ∀c3,bf H c3->bf H' c3
section
variable {taken:List Str} {F o p b:Nat} {cl WU:Ck} {rec:ai2} {e:List Nd} {old:Nd} {nn bound called:List Str} {Q:Post} {c':Int}
theorem ate (hrec:ayZ o taken cl rec) (hop:o≠p) (Dm:o≠b) (ha:old.args.length<=1000000) (hb1:bound.length<=1000000) (hb2:called.length<=1000000):
 ∀(m i:Nat) (parts ps:List (List Nd)) (ck:Ck) (c:Int) (σ:Nat->PV) (H:AH),i+m=old.args.length->Jt rec F e old nn bound called m i c=some (ps,c')->
 H.obj o=some [.ah (taken.map aF) cl,.int .i64 c]->H.obj p=some (kI old (.ah (nn.map aF) WU))->H.obj b=some (kI old (.ah (old.names.map aF) .unk))->o<H.next->p<H.next->b<H.next->bf H ck->parts.length+m<=100000000->
 σ 0= .ref o 0->σ 1=gN e->σ 2= .ah (bound.map aF) .unk->σ 3= .ah (called.map aF) .unk->σ 9= .ref p 0->σ 10= .ref b 0->σ 13= .ah (parts.map (dx Nd.cells)) ck->σ 14= .int .i64 i->
 (∀σ' H' Ez,σ' 9= .ref p 0->σ' 13= .ah ((parts++ps).map (dx Nd.cells)) Ez->H'.obj o=some [.ah (taken.map aF) cl,.int .i64 c']->HF [o] H H'->(∀c3,bf H c3->lI ck c3->bf H' c3)->Q (.exit 2) σ' H')->W Tryz.prog (.loop IU) Q σ H:=by
 intro m
 induction m with
 |zero=>
  intro i parts ps ck c σ H hi h ho hp hb lo lp lb hok hpl s0 s1 s2 s3 s9 s10 s13 Rm q0;cases h;have hge:decide ((i:Int)<(old.args.length:Int))=false:=decide_eq_false (by omega);refine bA (fun K hK=>aJ ?_);unfold IU;have hb':=hb;unfold kI at hb';simp -implicitDefEqProofs only [go_sem,s10,Rm,hb',hge];exact q0 _ H ck aH (by rw [List.append_nil];simp -implicitDefEqProofs only [go_sem,s13]) ho (HF.refl _ _) (fun c3 h _=>h)
 |succ m ih=>
  intro i parts ps ck c σ H hi h ho hp hb lo lp lb hok hpl s0 s1 s2 s3 s9 s10 s13 Rm q0;rw [Jt]at h;obtain⟨bs,hbs,h1⟩:=ak h;obtain⟨ms,hms,h2⟩:=ak h1;obtain⟨sub,hsub,h3⟩:=ak h2;obtain⟨⟨hbl,hml⟩,h4⟩:=aZ h3;obtain⟨⟨r1,c1⟩,hr,h5⟩:=ak h4;obtain⟨⟨qs,c2⟩,hq,h6⟩:=ak h5;cases h6;clear h h1 h2 h3 h4 h5;have hlt:decide ((i:Int)<(old.args.length:Int))=true:=decide_eq_true (by omega);have hw:IntKind.wrap .i64 ((i:Int)+1)=((i+1:Nat):Int):=by rw [IntKind.wrap_i64];omega
  refine bA (fun K hK=>aJ ?_);unfold IU;have hb':=hb;unfold kI at hb';simp -implicitDefEqProofs only [go_sem,s10,Rm,hb',hlt,Nat.zero_add,Nat.le_refl,List.take,List.drop];refine au (ZJ hbs) ?_;simp -implicitDefEqProofs only [go_sem,s2];refine bg.mono (ag2 bound hb1 H) ?_;rintro _ H1 ⟨c16,rfl,k16,hf1,kk1⟩;simp -implicitDefEqProofs only [go_sem,s3];refine bg.mono (ag2 called hb2 H1) ?_;rintro _ H2 ⟨c17,rfl,k17,hf2,kk2⟩;simp -implicitDefEqProofs only [go_sem];have sD:=hf1.tr hf2;obtain⟨aoc,d1⟩:=kk2 c16 k16;have hp2:=(sD.2 p lp List.not_mem_nil).trans hp;have hb2':=(sD.2 b lb List.not_mem_nil).trans hb;have ho2:=(sD.2 o lo List.not_mem_nil).trans ho;refine atd (n:=old) (p:=p) (b:=b) (bs:=bs) (nn:=nn) (WU:=WU) (F:=F) hbl bs.length 0 bound called c16 c17 ms _ H2 (Nat.zero_add _) (by rw [List.drop_zero];exact hms) hp2 hb2' aoc k17 d1.symm (by omega) (by omega) aH aH aH aH aH aH fun σ' H3 u16 u17 fr e16 e17 hf3 kk3=> ?_;rw [List.drop_zero]at e16;have t0:σ' 0= .ref o 0:=(fr 0 (by decide) (by decide)).trans aH;have t1:σ' 1=gN e:=(fr 1 (by decide) (by decide)).trans aH;have t2:σ' 2= .ah (bound.map aF) .unk:=(fr 2 (by decide) (by decide)).trans aH;have t3:σ' 3= .ah (called.map aF) .unk:=(fr 3 (by decide) (by decide)).trans aH;have t9:σ' 9= .ref p 0:=(fr 9 (by decide) (by decide)).trans aH;have t10:σ' 10= .ref b 0:=(fr 10 (by decide) (by decide)).trans aH;have t13:σ' 13= .ah (parts.map (dx Nd.cells)) ck:=(fr 13 (by decide) (by decide)).trans aH;have t14:σ' 14= .int .i64 i:=(fr 14 (by decide) (by decide)).trans aH;have ai3:=sD.tr hf3;have lo3:o<H3.next:=Nat.lt_of_lt_of_le lo ai3.1;have ho3:=(ai3.2 o lo List.not_mem_nil).trans ho;have ay0: ∀c3,bf H c3->bf H3 c3:=fun c3 h=>by
   obtain⟨x1,x2⟩:=kk1 c3 h;obtain⟨y1,y2⟩:=kk2 c3 x1;exact kk3 c3 y1 x2 y2
  simp -implicitDefEqProofs only [go_sem,t0,t1,t13,t14];refine au (afL hsub) ?_;simp -implicitDefEqProofs only [go_sem,e16,e17];refine bg.mono (bg.wk (hrec _ _ _ _ _ _ hr H3 ho3 lo3) (.same (.same (.ah (.ah .nil))))) ?_;rintro _ H4 ⟨rfl,ho4,hf4,kk4⟩;simp -implicitDefEqProofs only [go_sem];refine gW (f:=dx Nd.cells) Le parts [r1] ck .exact aH aH (kk4 _ (ay0 _ hok)) (by simp;omega) (fun ck5 H5 g1 g2 g3 g4=> ?_);simp -implicitDefEqProofs only [go_sem,t14,hw];have RF:HF [] H4 H5:=⟨g2,fun a _ _=>g3 a⟩;have awz:HF [o] H H4:=(ai3.up fun a ha=>by cases ha).tr hf4;have UL:HF [o] H H5:=awz.tr (RF.up fun a ha=>by cases ha);have ay2: ∀c3,bf H c3->lI ck c3->bf H5 c3/\lI ck5 c3:=fun c3 w1 w2=>g4 c3 (kk4 _ (ay0 _ w1)) w2;have op5:H5.obj p=some (kI old (.ah (nn.map aF) WU)):=(UL.2 p lp (fun hm=>hop (List.mem_singleton.1 hm).symm)).trans hp;have ob5:H5.obj b=some (kI old (.ah (old.names.map aF) .unk)):=(UL.2 b lb (fun hm=>Dm (List.mem_singleton.1 hm).symm)).trans hb;refine hK _ _ (ih (i+1) (parts++[r1]) qs ck5 c1 _ H5 (by omega) hq ((g3 o).trans ho4) op5 ob5 (Nat.lt_of_lt_of_le lo UL.1) (Nat.lt_of_lt_of_le lp UL.1) (Nat.lt_of_lt_of_le lb UL.1) g1 (by simp;omega) aH aH aH aH aH aH aH aH fun σ6 H6 ck6 w1 w2 w3 w4 w5=> ?_);rw [List.append_assoc]at w2;exact q0 σ6 H6 ck6 w1 w2 w3 (UL.tr w4) (fun c3 x1 x2=>w5 c3 (ay2 c3 x1 x2).1 (ay2 c3 x1 x2).2)
end
def KU (taken:List Str) (F:Nat):Nat->ai2
 |0=>fun _ _ _ _=>none
 |k+1=>fun e c bound called=>(yM e).bind fun root=>(zL F root).bind fun nm=>(cond nm (wO F bound called root.text) (some root.text)).bind fun t=>
  (AV taken F (root.kind==16||root.kind==17) root.names c).bind fun p=>
       if root.names.length<=1000000/\root.args.length<=1000000/\bound.length<=1000000/\called.length<=1000000 then
        (Jt (KU taken F k) F e {root with text:=t} p.1 bound called root.args.length 0 p.2).bind fun q=>
         (Md F {root with text:=t,names:=p.1} q.1).bind fun r=>some (r,q.2)else none
theorem atf {F:Nat} {root:Nd} {nm:Bool} {t:Str} {bound called:List Str} {p:Nat} {σ:Nat->PV} {H:AH} {Q:Post} (hnm:zL F root=some nm) (ht:(cond nm (wO F bound called root.text) (some root.text))=some t)
 (s2:σ 2= .ah (bound.map aF) .unk) (s3:σ 3= .ah (called.map aF) .unk) (s9:σ 9= .ref p 0) (hp:H.obj p=some (kI root (.ah (root.names.map aF) .unk)))
 (q0: ∀σ' H',(∀j,j<21->σ' j=σ j)->H'.obj p=some (kI {root with text:=t} (.ah (root.names.map aF) .unk))->HF [p] H H'->H'.next=H.next->(∀c3,bf H c3->bf H' c3)->Q .normal σ' H'):W Tryz.prog TQ Q σ H:=by
 refine aJ ?_;unfold TQ;have hp':=hp;unfold kI at hp';simp -implicitDefEqProofs only [go_sem,s9,hp',Nat.zero_add,Nat.le_refl,List.take,List.drop];refine au (ZI hnm) ?_;cases nm with
 |false=>
  cases ht;simp -implicitDefEqProofs only [go_sem];refine q0 _ H (fun j hj=> ?_) hp (HF.refl _ _) rfl (fun _ h=>h);have:j≠21/\j≠22:=by omega
  simp only [upd,this,↓reduceIte]
 |true=>
  simp -implicitDefEqProofs only [go_sem,s2,s3,s9,hp'];refine au (aiY ht) ?_;simp -implicitDefEqProofs only [go_sem,s9];refine WT (id:=p) (o:=2) (vs:=[.str t]) (cs:=kI root (.ah (root.names.map aF) .unk)) aH aH hp rfl (by show 3<=5;decide) rfl ?_;have hput:putCells (kI root (.ah (root.names.map aF) .unk)) 2 [.str t]=kI {root with text:=t} (.ah (root.names.map aF) .unk):=rfl;rw [hput];simp -implicitDefEqProofs only [go_sem];refine q0 _ _ (fun j hj=> ?_) (by show(if p=p then _ else _)=_;rw [if_pos rfl]) ⟨Nat.le_refl _,fun a ha hm=> ?_⟩ rfl (fun c3 h=>h.put)
  · have:j≠21/\j≠22/\j≠23/\j≠24/\j≠25/\j≠26/\j≠27/\j≠28:=by omega
    simp only [upd,this,↓reduceIte]
  · show(if a=p then _ else _)=_
    rw [if_neg (fun e=>hm (List.mem_singleton.2 e))]
theorem ay3 {o:Nat} {taken:List Str} {cl:Ck} {F:Nat}: ∀k,ayZ o taken cl (KU taken F k):=by
 intro k
 induction k with
 |zero=>intro e c bound called r c' h;cases h
 |succ k ih=>
  intro e c bound called r c' h H ho lo;rw [KU]at h;obtain⟨root,hroot,h1⟩:=ak h;obtain⟨nm,hnm,h2⟩:=ak h1;obtain⟨t,ht,h3⟩:=ak h2;obtain⟨⟨nn,c1⟩,hnn,h4⟩:=ak h3;obtain⟨⟨hb1,hb2,hb3,hb4⟩,h5⟩:=aZ h4;obtain⟨⟨ps,c2⟩,hps,h6⟩:=ak h5;obtain⟨r',arj,h7⟩:=ak h6;cases h7;clear h h1 h2 h3 h4 h5 h6;refine aM aA9 (by simp) (aJ ?_);unfold apE;simp -implicitDefEqProofs only [go_sem];refine au (UO hroot) ?_;simp -implicitDefEqProofs only [go_sem,dO,Nat.le_refl];obtain⟨H1,hH1⟩: ∃H1,H1=(H.new [.int .i64 0,.int .i64 0,.str [],.ah [] .nil,.ah [] .nil]).put H.next (kI root (.ah (root.names.map aF) .unk)):=⟨_,rfl⟩;have e1:(H.new [.int .i64 0,.int .i64 0,.str [],.ah [] .nil,.ah [] .nil]).put H.next [.int .i64 root.kind,.int .i64 root.n,.str root.text,.ah (root.names.map aF) .unk,.ah (root.args.map aK) .unk]=H1:=hH1.symm;have hf1:HF [] H H1:=by rw [hH1];exact HF.put (.inr (Nat.le_refl _)) (HF.new (HF.refl _ _))
  have op1:H1.obj H.next=some (kI root (.ah (root.names.map aF) .unk)):=by rw [hH1];show(if H.next=H.next then _ else _)=_;rw [if_pos rfl]
  have nx1:H1.next=H.next+1:=by rw [hH1];rfl
  have ok1: ∀c3,bf H c3->bf H1 c3:=fun c3 h=>by rw [hH1];exact h.new.put
  simp only [e1];clear hH1 e1;refine atf (p:=H.next) hnm ht aH aH aH op1 fun σ2 H2 WV op2 hf2 nx2 ok2=> ?_;have t0:σ2 0= .ref o 0:=(WV 0 (by decide)).trans aH;have t1:σ2 1=gN e:=(WV 1 (by decide)).trans aH;have t2:σ2 2= .ah (bound.map aF) .unk:=(WV 2 (by decide)).trans aH;have t3:σ2 3= .ah (called.map aF) .unk:=(WV 3 (by decide)).trans aH;have t9:σ2 9= .ref H.next 0:=(WV 9 (by decide)).trans aH;obtain⟨old,hold⟩: ∃old:Nd,old={root with text:=t}:=⟨_,rfl⟩;have k1:old.kind=root.kind:=by rw [hold]
  have g1:old.args=root.args:=by rw [hold]
  have m1:old.names=root.names:=by rw [hold]
  have hj2:({root with text:=t,names:=nn}:Nd)={old with names:=nn}:=by rw [hold]
  rw [hj2]at arj;rw [<-hold]at op2 hps;rw [<-m1]at op2 hnn;rw [<-k1]at hnn;clear hold hj2;have hop2:o≠H.next:=by omega
  have ho2:H2.obj o=some [.ah (taken.map aF) cl,.int .i64 c]:=(hf2.2 o (Nat.lt_of_lt_of_le lo hf1.1) (fun hm=>hop2 (List.mem_singleton.1 hm))).trans ((hf1.2 o lo List.not_mem_nil).trans ho);have ay4:=op2;unfold kI at ay4;have hne: ¬(H.next=H2.next):=by omega
  have hne': ¬(H2.next=H.next):=by omega
  simp -implicitDefEqProofs only [go_sem,dO,t9,ay4,hne,hne',Nat.zero_add,Nat.le_refl,List.take,List.drop];obtain⟨H4,hH4⟩: ∃H4,H4=((H2.new [.int .i64 0,.int .i64 0,.str [],.ah [] .nil,.ah [] .nil]).put H2.next (kI old (.ah (old.names.map aF) .unk))).put H.next (kI old (.ah [] .nil)):=⟨_,rfl⟩;have e4:((H2.new [.int .i64 0,.int .i64 0,.str [],.ah [] .nil,.ah [] .nil]).put H2.next [.int .i64 old.kind,.int .i64 old.n,.str old.text,.ah (old.names.map aF) .unk,.ah (old.args.map aK) .unk]).put H.next [.int .i64 old.kind,.int .i64 old.n,.str old.text,.ah [] .nil,.ah (old.args.map aK) .unk]=H4:=hH4.symm;have op4:H4.obj H.next=some (kI old (.ah [] .nil)):=by rw [hH4];show(if H.next=H.next then _ else _)=_;rw [if_pos rfl]
  have ob4:H4.obj H2.next=some (kI old (.ah (old.names.map aF) .unk)):=by
   rw [hH4];show(if H2.next=H.next then _ else if H2.next=H2.next then _ else _)=_;rw [if_neg (fun e=>hne e.symm),if_pos rfl]
  have ot4: ∀j,j<H2.next->j≠H.next->H4.obj j=H2.obj j:=fun j h1 h2=>by
   rw [hH4];show(if j=H.next then _ else if j=H2.next then _ else if j=H2.next then _ else _)=_;rw [if_neg h2,if_neg (by omega),if_neg (by omega)]
  have nx4:H4.next=H2.next+1:=by rw [hH4];rfl
  have ok4: ∀c3,bf H2 c3->bf H4 c3:=fun c3 h=>by rw [hH4];exact h.new.put.put
  simp only [e4];clear hH4 e4;have ho4:H4.obj o=some [.ah (taken.map aF) cl,.int .i64 c]:=(ot4 o (by omega) hop2).trans ho2;have ay5:=ob4;unfold kI at ay5;obtain⟨fx,hfx⟩: ∃fx,fx=(old.kind==16||old.kind==17):=⟨_,rfl⟩;rw [<-hfx]at hnn
  have key: ∀σ3,(∀j,j<31->j≠11->j≠12->σ3 j=upd (upd (upd σ2 (some 29) (PV.agg (kI old (.ah (old.names.map aF) .unk)))) (some 10) (PV.ref H2.next 0)) (some 30) (PV.ref H.next 3) j)->σ3 11= .bool fx->σ3 12= .int .i64 0->
   WS Tryz.prog IQ.loop [Fm.block 0,Fm.seq ((AC.ops [oR 13 (RK.BF (AE.c (PV.ah [] Ck.nil)))]).seq (((AC.ops [oI 14 0]).seq (AC.block 2 IU.loop)).seq ((AC.ops [oA 115 5 9,oM 116 13,oC 117 118 [AE.t 115,AE.t 116],oM 8 117]).seq AC.ret)))]
    (IE [RV.tmp 8] fun v H'=>v=gN r/\H'.obj o=some [PV.ah (List.map aF taken) cl,PV.int IntKind.i64 c2]/\HF [o] H H'/\ ∀(c3:Ck),bf H c3->bf H' c3) σ3 H4:=by
   intro σ3 fr3 s11 s12;have u0:σ3 0= .ref o 0:=(fr3 0 (by decide) (by decide) (by decide)).trans aH;have u1:σ3 1=gN e:=(fr3 1 (by decide) (by decide) (by decide)).trans aH;have u2:σ3 2= .ah (bound.map aF) .unk:=(fr3 2 (by decide) (by decide) (by decide)).trans aH;have u3:σ3 3= .ah (called.map aF) .unk:=(fr3 3 (by decide) (by decide) (by decide)).trans aH;have u9:σ3 9= .ref H.next 0:=(fr3 9 (by decide) (by decide) (by decide)).trans aH;have u10:σ3 10= .ref H2.next 0:=(fr3 10 (by decide) (by decide) (by decide)).trans aH;have hnl:old.names.length<=1000000:=by rw [m1];exact hb1
   refine atc (n:=old) (o:=o) (p:=H.next) (b:=H2.next) (taken:=taken) (F:=F) (fx:=fx) (cl:=cl) (c':=c1) hnl hop2 (by omega) hne old.names.length 0 [] .nil c nn σ3 H4 (Nat.zero_add _) rfl (by rw [List.drop_zero];exact hnn) ho4 op4 ob4 (by omega) (by omega) (by omega) trivial u0 u9 u10 s11 s12 fun WW H5 ck5 fr5 o5 p5 RF kk5=> ?_;have b5:=(RF.2 H2.next (by omega) (fun hm=>by
    rcases List.mem_cons.1 hm with q|q
    · omega
    · have:=List.mem_singleton.1 q;omega)).trans ob4
   have w0:WW 0= .ref o 0:=(fr5 0 (by decide) (by decide)).trans u0;have w1:WW 1=gN e:=(fr5 1 (by decide) (by decide)).trans u1;have w2:WW 2= .ah (bound.map aF) .unk:=(fr5 2 (by decide) (by decide)).trans u2;have w3:WW 3= .ah (called.map aF) .unk:=(fr5 3 (by decide) (by decide)).trans u3;have w9:WW 9= .ref H.next 0:=(fr5 9 (by decide) (by decide)).trans u9;have w10:WW 10= .ref H2.next 0:=(fr5 10 (by decide) (by decide)).trans u10;rw [List.nil_append]at p5;simp -implicitDefEqProofs only [go_sem];have hal:old.args.length=root.args.length:=by rw [g1]
   refine ate (o:=o) (p:=H.next) (b:=H2.next) (taken:=taken) (F:=F) (cl:=cl) (WU:=ck5) (rec:=KU taken F k) (e:=e) (old:=old) (nn:=nn) (bound:=bound) (called:=called) (c':=c2) ih hop2 (by omega) (by rw [hal];exact hb2) hb3 hb4 old.args.length 0 [] ps .nil c1 _ H5 (Nat.zero_add _) (by rw [hal];exact hps) o5 p5 b5 (by have:=RF.1;omega) (by have:=RF.1;omega) (by have:=RF.1;omega) trivial (by rw [List.length_nil,hal];omega) aH aH aH aH aH aH aH aH fun σ6 H6 ck6 v9 v13 o6 hf6 kk6=> ?_;have p6:=(hf6.2 H.next (by have:=RF.1;omega) (fun hm=>hop2 (List.mem_singleton.1 hm).symm)).trans p5;have p6':=p6;unfold kI at p6';rw [List.nil_append]at v13;simp -implicitDefEqProofs only [go_sem,v9,v13,p6',Nat.zero_add,Nat.le_refl,List.take,List.drop];refine au (aD.wx (an1 arj) (.agg (.same (.same (.same (.ah (.same .nil))))) (.same .nil))) ?_;simp -implicitDefEqProofs only [go_sem];refine⟨o6,?_,fun c3 h=>kk6 c3 (kk5 c3 (ok4 c3 (ok2 c3 (ok1 c3 h))) (fun t e=>by cases e)) (fun t e=>by cases e)⟩;refine⟨by have:=RF.1;have:=hf6.1;omega,fun a ha hm=> ?_⟩;have hap:a≠H.next:=by omega
   have hao:a≠o:=fun e=>hm (List.mem_singleton.2 e);rw [hf6.2 a (by have:=RF.1;omega) hm,RF.2 a (by omega) (fun h=>by
    rcases List.mem_cons.1 h with q|q
    · exact hao q
    · exact hap (List.mem_singleton.1 q)),ot4 a (by omega) hap,hf2.2 a (by omega) (fun h=>hap (List.mem_singleton.1 h)),hf1.2 a ha List.not_mem_nil]
  cases h16:(old.kind==16)with
  |true=>
   rw [h16]at hfx;simp -implicitDefEqProofs only [go_sem,TS,h16];refine key _ (fun j hj h1 h2=> ?_) (by rw [hfx];simp -implicitDefEqProofs only [go_sem];try rfl) aH;have:j≠31/\j≠32/\j≠33/\j≠34/\j≠35/\j≠36/\j≠37/\j≠38:=by omega
   simp only [upd,kI,h1,h2,this,↓reduceIte]
  |false=>
   rw [h16]at hfx;simp -implicitDefEqProofs only [go_sem,TS,h16,ay5];refine key _ (fun j hj h1 h2=> ?_) (by rw [hfx];simp -implicitDefEqProofs only [go_sem];try rfl) aH;have:j≠31/\j≠32/\j≠33/\j≠34/\j≠35/\j≠36/\j≠37/\j≠38:=by omega
   simp only [upd,kI,h1,h2,this,↓reduceIte]
end Go.VL
end
section
namespace Go.VL
theorem Qj {α β:Type} (f:Nat->α->Option β) (g:α->β): ∀l:List α,(∀x∈l,Ev (fun k=>f k x) (g x))-> ∃K,∀k,K<=k-> ∀x∈l,f k x=some (g x)
 |[],_=>⟨0,fun k _ x hx=>by cases hx⟩
 |a::l,h=>by
  obtain⟨K,hK⟩:=h a List.mem_cons_self;obtain⟨L,hL⟩:=Qj f g l fun x hx=>h x (List.mem_cons_of_mem _ hx);refine⟨max K L,fun k hk x hx=> ?_⟩;rcases List.mem_cons.1 hx with rfl|hx
  · exact hK k (by omega)
  · exact hL k (by omega) x hx
theorem aae (c:Nat):Pt ((c:Int)+1)=bN (c+1):=rfl
section
variable {left:List Str}
theorem als {K:Nat} (hK: ∀k,K<=k-> ∀x∈List.range 9002,bM k left (bN x)=some (decide (bN x∈left))):
 ∀(f c F:Nat),left.length<=f+cnt left c->c+f<=9000->K+f+1<=F->Dl left F (c:Int)=some (bN (F9 left f c),((F9 left f c:Nat):Int)):=by
 intro f
 induction f with
 |zero=>
  intro c F h1 h2 h3;obtain⟨F,rfl⟩: ∃j,F=j+1:=⟨F -1,by omega⟩;have hn:bN (c+1)∉left:=fun hm=>by
   have h4:=E5 left c;have h5:=WK left (c+1);rw [if_pos hm]at h4;omega
  rw [Dl,if_pos (by omega),aae,hK F (by omega) (c+1) (List.mem_range.2 (by omega)),Option.bind_some,decide_eq_false hn,cond_false];rfl
 |succ f ih=>
  intro c F h1 h2 h3;obtain⟨F,rfl⟩: ∃j,F=j+1:=⟨F -1,by omega⟩;rw [Dl,if_pos (by omega),aae,hK F (by omega) (c+1) (List.mem_range.2 (by omega)),Option.bind_some];by_cases hm:bN (c+1)∈left
  · have h4:=E5 left c;rw [if_pos hm]at h4;rw [decide_eq_true hm,cond_true,F9,if_pos hm];exact ih (c+1) F (by omega) (by omega) (by omega)
  · rw [decide_eq_false hm,cond_false,F9,if_neg hm];rfl
theorem alu {K:Nat} (hK: ∀k,K<=k-> ∀x∈List.range 9002,nG k left (bN x)=some (decide (bN x∈left))) (hT: ∀k,K<=k-> ∀x∈List.range 9002,FY k ((x:Nat):Int)=some (Lib.decDigits x)):
 ∀(f c F:Nat),left.length<=f+cnt left c->c+f<=9000->K+f+1<=F->Eh left F (c:Int)=some (bN (F9 left f c),((F9 left f c:Nat):Int)):=by
 intro f
 induction f with
 |zero=>
  intro c F h1 h2 h3;obtain⟨F,rfl⟩: ∃j,F=j+1:=⟨F -1,by omega⟩;have hn:bN (c+1)∉left:=fun hm=>by
   have h4:=E5 left c;have h5:=WK left (c+1);rw [if_pos hm]at h4;omega
  have ht:=hT F (by omega) (c+1) (List.mem_range.2 (by omega));have hl:=Ko 3 (c+1) (by omega);rw [Eh,if_pos (by omega),show((c:Int)+1)=((c+1:Nat):Int)from rfl,ht,Option.bind_some,if_pos (by omega),show [98,95]++Lib.decDigits (c+1)=bN (c+1)from(WJ _).symm,hK F (by omega) (c+1) (List.mem_range.2 (by omega)),Option.bind_some,decide_eq_false hn,cond_false];rfl
 |succ f ih=>
  intro c F h1 h2 h3;obtain⟨F,rfl⟩: ∃j,F=j+1:=⟨F -1,by omega⟩;have ht:=hT F (by omega) (c+1) (List.mem_range.2 (by omega));have hl:=Ko 3 (c+1) (by omega);rw [Eh,if_pos (by omega),show((c:Int)+1)=((c+1:Nat):Int)from rfl,ht,Option.bind_some,if_pos (by omega),show [98,95]++Lib.decDigits (c+1)=bN (c+1)from(WJ _).symm,hK F (by omega) (c+1) (List.mem_range.2 (by omega)),Option.bind_some];by_cases hm:bN (c+1)∈left
  · have h4:=E5 left c;rw [if_pos hm]at h4;rw [decide_eq_true hm,cond_true,F9,if_pos hm];exact ih (c+1) F (by omega) (by omega) (by omega)
  · rw [decide_eq_false hm,cond_false,F9,if_neg hm]
end
structure WX (left:List Str) (F:Nat):Prop where
 p: ∀c:Nat,c+left.length<=9000->Dl left F (c:Int)=some (bN (wM left c),((wM left c:Nat):Int))
 r: ∀c:Nat,c+left.length<=9000->Eh left F (c:Int)=some (bN (wM left c),((wM left c:Nat):Int))
theorem adY (left:List Str) (hl:left.length<=9000): ∃K,∀F,K<=F->WX left F:=by
 obtain⟨K1,h1⟩:=Qj (fun k x=>bM k left (bN x)) (fun x=>decide (bN x∈left)) (List.range 9002) (fun x _=>sP left (bN x) (by omega));obtain⟨K2,h2⟩:=Qj (fun k x=>nG k left (bN x)) (fun x=>decide (bN x∈left)) (List.range 9002) (fun x _=>sN left (bN x) (by omega));obtain⟨K3,h3⟩:=Qj (fun k (x:Nat)=>FY k (x:Int)) (fun x=>Lib.decDigits x) (List.range 9002) (fun x hx=>by
  have:=List.mem_range.1 hx;have h:=ale (n:=(x:Int)) ⟨by omega,by omega⟩;rw [adL]at h;exact h)
 refine⟨K1+K2+K3+left.length+1,fun F hF=>⟨fun c hc=> ?_,fun c hc=> ?_⟩⟩
 · exact als (K:=K1) (fun k hk x hx=>h1 k hk x hx) left.length c F (by omega) hc (by omega)
 · exact alu (K:=K2+K3) (fun k hk x hx=>h2 k (by omega) x hx) (fun k hk x hx=>h3 k (by omega) x hx) left.length c F (by omega) hc (by omega)
theorem aaf {left:List Str} {F:Nat} (h:WX left F): ∀(m c:Nat),(mZ left m c).2+left.length<=9000->Js left F m (c:Int)=some ((mZ left m c).1,((mZ left m c).2:Int))
 |0,c,hc=>rfl
 |m+1,c,hc=>by
  have h1:=(Ga left c).2.1;have h2:=Jq left m (wM left c);simp only [mZ]at hc;rw [Js,h.p c (by omega),Option.bind_some,aaf h m (wM left c) hc];rfl
theorem aag {left:List Str} {F:Nat} (h:WX left F): ∀(l:List Str) (c:Nat),(mZ left l.length c).2+left.length<=9000->AV left F false l (c:Int)=some ((mZ left l.length c).1,((mZ left l.length c).2:Int))
 |[],c,hc=>rfl
 |s::l,c,hc=>by
  have h1:=(Ga left c).2.1;have h2:=Jq left l.length (wM left c);simp only [List.length_cons,mZ]at hc;rw [AV,cond_false,h.r c (by omega),Option.bind_some,aag h l (wM left c) hc];rfl
theorem aah {left:List Str} {F:Nat}: ∀(l:List Str) (c:Int),AV left F true l c=some (l,c)
 |[],c=>rfl
 |s::l,c=>by rw [AV,cond_true,Option.bind_some,aah l c];rfl
end Go.VL
end
section
namespace Go.VL
open Tm
def qJ (k m:Int) (a p:Nat):Nat:=
 if(kL k).getD false=true then(if((p:Int)==IntKind.wrap .i64 ((a:Int) -1))=true then 1 else 0)
 else if k=23 then(if((p:Int)==IntKind.wrap .i64 ((a:Int) -1))=true then 2 else if m=1 then 1 else 3)else 0
def jG:Nat->List Str->List Str
 |1,l=>l
 |2,l=>l.take 1
 |3,l=>l.drop 1
 |_,_=>[]
theorem KV {n:Nd} (h:n.kind=23->1<=n.names.length) (p:Nat):iM n (p:Int)=some (jG (qJ n.kind n.n n.args.length p) n.names):=by
 have hj: ∃b,kL n.kind=some b:=by
  unfold kL
  repeat' first
   |exact⟨_,rfl⟩
   |(generalize(n.kind==_)=b;cases b<;>simp only [cond_true,cond_false])
 obtain⟨b,hb⟩:=hj;unfold iM qJ;rw [hb,Option.bind_some,Option.getD_some];cases b with
 |true=>
  rw [cond_true,if_pos rfl];cases((p:Int)==IntKind.wrap .i64 ((n.args.length:Int) -1))<;>rfl
 |false=>
  rw [cond_false,if_neg (show ¬(false=true) by simp)];by_cases hk:n.kind=23
  · have h2:=h hk;rw [wX (by rw [hk];rfl),if_pos hk,if_pos h2,if_pos h2];cases((p:Int)==IntKind.wrap .i64 ((n.args.length:Int) -1))with
    |true=>rfl
    |false=>
     by_cases hm:n.n=1
     · rw [hm];rfl
     · have:(n.n==1)=false:=beq_eq_false_iff_ne.2 hm;rw [this,if_neg (show ¬(false=true) by simp),if_neg hm];rfl
  · rw [pI (by rw [beq_eq_false_iff_ne];exact hk),if_neg hk];rfl
theorem alv {n:Nd} (h:n.kind=23->1<=n.names.length) (p:Nat):zZ n p=jG (qJ n.kind n.n n.args.length p) n.names:=by
 unfold zZ;rw [KV h];rfl
theorem aai (s:Nat) {l m:List Str} (h:l.length=m.length):(jG s l).length=(jG s m).length:=by
 unfold jG;split<;>simp [h]
theorem adZ (s:Nat) (l:List Str):(jG s l).length<=l.length:=by
 unfold jG;split<;>simp<;>omega
theorem aaj {s:Nat} {l:List Str} {x:Str} (h:x∈jG s l):x∈l:=by
 unfold jG at h;split at h
 · exact h
 · exact List.mem_of_mem_take h
 · exact List.mem_of_mem_drop h
 · cases h
theorem atg {k m:Int} (h:k=16\/k=17) (a p:Nat):qJ k m a p=0:=by
 unfold qJ;rcases h with rfl|rfl
 · rw [if_neg (by decide),if_neg (by decide)]
 · rw [if_neg (by decide),if_neg (by decide)]
def gI (left:List Str) (x:Nd) (c:Nat):List Str×Nat:=if x.kind=16\/x.kind=17 then(x.names,c)else mZ left x.names.length c
def Ei (bd:List Scope) (x:Nd):Str:=if kR x=true then ng bd x.text else x.text
def qA (left:List Str) (bd:List Scope) (c:Nat) (x:Nd):Nd:={x with text:=Ei bd x,names:=(gI left x c).1}
def vV (x y:Nd) (a j:Nat):List Scope:=List.zipWith Scope.mk (jG (qJ x.kind x.n a j) x.names) (jG (qJ x.kind x.n a j) y.names)
mutual
def can (left:List Str) (bd:List Scope) (c:Nat):Tm->Tm×Nat
 | .mk x cs=>(.mk (qA left bd c x) (gU left bd x (qA left bd c x) cs.length 0 (gI left x c).2 cs).1,(gU left bd x (qA left bd c x) cs.length 0 (gI left x c).2 cs).2)
def gU (left:List Str) (bd:List Scope) (x y:Nd) (a j c:Nat):List Tm->List Tm×Nat
 |[]=>([],c)
 |t::ts=>((can left (bd++vV x y a j) c t).1::(gU left bd x y a (j+1) (can left (bd++vV x y a j) c t).2 ts).1,(gU left bd x y a (j+1) (can left (bd++vV x y a j) c t).2 ts).2)
end
theorem Ju {left:List Str} {bd:List Scope} {c:Nat} {x:Nd} {cs:List Tm}:can left bd c (.mk x cs)=(.mk (qA left bd c x) (gU left bd x (qA left bd c x) cs.length 0 (gI left x c).2 cs).1,(gU left bd x (qA left bd c x) cs.length 0 (gI left x c).2 cs).2):=by rw [can]
theorem nQ {left:List Str} {bd:List Scope} {x y:Nd} {a j c:Nat} {t:Tm} {ts:List Tm}:gU left bd x y a j c (t::ts)=((can left (bd++vV x y a j) c t).1::(gU left bd x y a (j+1) (can left (bd++vV x y a j) c t).2 ts).1,(gU left bd x y a (j+1) (can left (bd++vV x y a j) c t).2 ts).2):=by rw [gU]
mutual
theorem wQ (left:List Str): ∀(t:Tm) (bd:List Scope) (c:Nat),(can left bd c t).1.size=t.size
 | .mk x cs,bd,c=>by rw [Ju];simp only [size];rw [Hq left cs]
theorem Hq (left:List Str): ∀(cs:List Tm) (bd:List Scope) (x y:Nd) (a j c:Nat),sizes (gU left bd x y a j c cs).1=sizes cs
 |[],bd,x,y,a,j,c=>by rw [gU]
 |t::ts,bd,x,y,a,j,c=>by rw [nQ];simp only [sizes];rw [wQ left t,Hq left ts]
end
theorem ad2 (left:List Str): ∀(cs:List Tm) (bd:List Scope) (x y:Nd) (a j c:Nat),(gU left bd x y a j c cs).1.length=cs.length
 |[],bd,x,y,a,j,c=>by rw [gU]
 |t::ts,bd,x,y,a,j,c=>by rw [nQ,List.length_cons,List.length_cons,ad2 left ts]
theorem Hr (left:List Str): ∀(cs:List Tm) (b:Nat) (bd:List Scope) (x y:Nd) (a j c:Nat),roots b (gU left bd x y a j c cs).1=roots b cs
 |[],b,bd,x,y,a,j,c=>by rw [gU]
 |t::ts,b,bd,x,y,a,j,c=>by rw [nQ,roots,roots,wQ,Hr left ts]
theorem YW (left:List Str): ∀(cs:List Tm) (bd:List Scope) (x y y':Nd) (a j c:Nat),y.names=y'.names->gU left bd x y a j c cs=gU left bd x y' a j c cs
 |[],bd,x,y,y',a,j,c,h=>by rw [gU,gU]
 |t::ts,bd,x,y,y',a,j,c,h=>by
  have hs:vV x y a j=vV x y' a j:=by unfold vV;rw [h]
  rw [nQ,nQ,hs,YW left ts bd x y y' a (j+1) _ h]
theorem Jv (left:List Str) (x:Nd) (c:Nat):(gI left x c).1.length=x.names.length:=by
 unfold gI;split
 · rfl
 · exact Z8 left _ _
theorem ath (left:List Str) (x:Nd) (c:Nat):c<=(gI left x c).2:=by
 unfold gI;split
 · exact Nat.le_refl _
 · exact Jq left _ _
mutual
theorem ay6 (left:List Str): ∀(t:Tm) (bd:List Scope) (c:Nat),c<=(can left bd c t).2
 | .mk x cs,bd,c=>by rw [Ju];exact Nat.le_trans (ath left x c) (BS left cs _ _ _ _ _ _)
theorem BS (left:List Str): ∀(cs:List Tm) (bd:List Scope) (x y:Nd) (a j c:Nat),c<=(gU left bd x y a j c cs).2
 |[],bd,x,y,a,j,c=>by rw [gU];exact Nat.le_refl _
 |t::ts,bd,x,y,a,j,c=>by rw [nQ];exact Nat.le_trans (ay6 left t _ _) (BS left ts _ _ _ _ _ _)
end
end Go.VL
end
section
namespace Go.VL
open Go.Proofs Go.RowKit
theorem ati {H:AH} {n:Nd} {z:NV} {p:Nat} {r:List Str} {bi:Bool} (hbi:l8 n.kind=some bi) (hz:bi=true->jF H (n,z)) (h:iM n (p:Int)=some r):bg Tryz.prog 240 [.agg (jZ (n,z)),.int .i64 p] H fun v H'=>q8 H' r v z.ids/\HF [] H H'/\ ∀c,bf H c->bf H' c:=by
 cases bi with
 |true=>exact adQ (hz rfl) h
 |false=>
  have:=alq (aad hbi) h;subst this;exact alp (aad hbi)
theorem ad3 {l l':List (Nd×NV)} {id o:Nat} (h:l'.map (·.2)=l.map (·.2)):mH l' id o=mH l id o:=by
 unfold mH
 have: ∀l:List (Nd×NV),(l.map fun x=>x.2.ids)=(l.map (·.2)).map NV.ids:=fun l=>by rw [List.map_map];rfl
 rw [this,this,h]
def ay7 (v:PV) (id o lo:Nat) (left:List Str) (cl:Ck) (rec:ai0):Prop:=
 ∀(out:List Nd) (c:Int) (i:Nat) (bound:List Scope) (out':List Nd) (c':Int),rec out c i bound=some (out',c')-> ∀(H:AH) (l:List (Nd×NV)),lT H l v id o lo left cl c->l.map (·.1)=out->
   bg Tryz.prog 258 [.ref o 0,.int .i64 i,.ah (bound.map Scope.cells) .unk] H fun _ H'=> ∃l',l'.map (·.1)=out'/\l'.map (·.2)=l.map (·.2)/\lT H' l' v id o lo left cl c'/\HF (mH l id o) H H'
section
variable {v:PV} {id o lo:Nat} {left:List Str} {cl:Ck} {rec:ai0} {i q b N:Nat} {old:Nd} {z:NV} {bi:Bool} {bound:List Scope} {args:List Int} {Q:Post} {out':List Nd} {c':Int}
theorem alx (hrec:ay7 v id o lo left cl rec) (hbi:l8 old.kind=some bi) (hbd:bound.length<=1000000) (hal:args.length<=1000000) (hqN:N<=q) (hbN:N<=b) (hzN:bi=true-> ∀a∈z.ids,N<=a) {ck:Ck}:
 ∀(m j:Nat) (out:List Nd) (c:Int) (l:List (Nd×NV)) (σ:Nat->PV) (H:AH),j+m=args.length->Qh rec old i bound (args.drop j) j out c=some (out',c')->lT H l v id o lo left cl c->l.map (·.1)=out->(∀a∈mH l id o,a<N)->N<=H.next->
   (bi=true->jF H (old,z))->q<H.next->b<H.next->H.obj q=some [.ref id (i*5)]->H.obj b=some (jZ (old,z))->σ 0= .ref o 0->σ 2= .ah (bound.map Scope.cells) ck->σ 6= .ref q 0->σ 9= .ref b 0->σ 76= .ah (args.map aK) .unk->σ 77= .int .i64 args.length->σ 78= .int .i64 j->
   (∀σ' H' l',l'.map (·.1)=out'->l'.map (·.2)=l.map (·.2)->lT H' l' v id o lo left cl c'->HF (mH l id o) H H'->Q (.exit 4) σ' H')->W Tryz.prog (.loop MU) Q σ H:=by
 intro m
 induction m with
 |zero=>
  intro j out c l σ H hj hA hV hl hN hNn hz hq hb ho Dm s0 s2 s6 s9 s76 s77 s78 q0;rw [List.drop_of_length_le (by omega)]at hA;cases hA;have hge:decide ((j:Int)<(args.length:Int))=false:=decide_eq_false (by omega);refine bA (fun K hK=>aJ ?_);unfold MU;simp -implicitDefEqProofs only [go_sem,s77,s78,hge];exact q0 _ H l hl rfl hV (HF.refl _ _)
 |succ m ih=>
  intro j out c l σ H hj hA hV hl hN hNn hz hq hb ho Dm s0 s2 s6 s9 s76 s77 s78 q0;have hja:j<args.length:=by omega
  rw [List.drop_eq_getElem_cons hja,Qh]at hA;obtain⟨n,hn,hA1⟩:=ak hA;obtain⟨x,hx,hA2⟩:=ak hA1;obtain⟨y,hy,hA3⟩:=ak hA2;obtain⟨⟨hxy,hx1,ha0⟩,hA4⟩:=aZ hA3;obtain⟨⟨aGC,c1⟩,hr,hA5⟩:=ak hA4;clear hA hA1 hA2 hA3 hA4;subst hl;rw [List.getElem?_map]at hn;obtain⟨⟨n0,y0⟩,WY,hn⟩:=Option.map_eq_some_iff.1 hn;simp only at hn;subst hn;have hlt:decide ((j:Int)<(args.length:Int))=true:=decide_eq_true (by omega);have Kw:q∉mH l id o:=fun hm=>by have:=hN q hm;omega
  have aGD:(args.map aK)[j]? =some (aK args[j]):=by rw [List.getElem?_map,List.getElem?_eq_getElem hja];rfl
  refine bA (fun K hK=>aJ ?_);unfold MU;simp -implicitDefEqProofs only [go_sem,s76,s77,s78,hlt,s2,aGD];refine au (alj bound) ?_;have ay8:=Dm;unfold jZ at ay8;simp -implicitDefEqProofs only [go_sem,s9,ay8,Nat.zero_add,Nat.le_refl,List.take,List.drop];refine bg.mono (ati hbi hz hx) ?_;rintro v87 H1 ⟨hB,hf1,hok1⟩;have hlen:=hB.len;have hV1:=hV.new hf1 (fun _ h=>by cases h);have ho1:=(hf1.2 q hq List.not_mem_nil).trans ho;simp -implicitDefEqProofs only [go_sem,hlen];refine alo (l:=l) (i:=i) (n:=n0) (y:=y0) (q:=q) (j:=j) (a:=x) (b:=y) (ids:=z.ids) (v87:=v87) (v:=v) (id:=id) (o:=o) (lo:=lo) (left:=left) (cl:=cl) (c:=c) WY Kw hy hxy hx1 x.length 0 bound .exact _ H1 (Nat.zero_add _) hB hV1 trivial aH aH aH aH aH aH (Nat.lt_of_lt_of_le hq hf1.1) ho1 (by omega) fun σ' H2 Ez fr e13 hf2=> ?_;have sD:=hf1.tr hf2;have hV2:=hV1.new hf2 (fun _ h=>by cases h);rw [List.drop_zero,List.drop_zero]at e13;have t0:σ' 0= .ref o 0:=(fr 0 (by decide) (by decide)).trans aH;have t12:σ' 12= .int .i64 args[j]:=(fr 12 (by decide) (by decide)).trans aH;have t2:σ' 2= .ah (bound.map Scope.cells) ck:=(fr 2 (by decide) (by decide)).trans aH;have t6:σ' 6= .ref q 0:=(fr 6 (by decide) (by decide)).trans aH;have t9:σ' 9= .ref b 0:=(fr 9 (by decide) (by decide)).trans aH;have t76:σ' 76= .ah (args.map aK) .unk:=(fr 76 (by decide) (by decide)).trans aH;have t77:σ' 77= .int .i64 args.length:=(fr 77 (by decide) (by decide)).trans aH;have t78:σ' 78= .int .i64 j:=(fr 78 (by decide) (by decide)).trans aH;simp -implicitDefEqProofs only [go_sem,t0,t12,e13];have aGE:args[j]=((args[j].toNat:Nat):Int):=by omega
  rw [aGE];refine bg.mono (bg.wk (hrec _ _ _ _ _ _ hr H2 l hV2 rfl) (.same (.same (.ah .nil)))) ?_;rintro _ H3 ⟨l',r1,r2,r3,hf3⟩;have hw:IntKind.wrap .i64 ((j:Int)+1)=((j+1:Nat):Int):=by rw [IntKind.wrap_i64];omega
  simp -implicitDefEqProofs only [go_sem,t78,hw];have hM: ∀a∈mH l' id o,a<N:=by rw [ad3 r2];exact hN
  have an9:q<H2.next:=Nat.lt_of_lt_of_le hq sD.1;have ay9:b<H2.next:=Nat.lt_of_lt_of_le hb sD.1;have hbM:b∉mH l id o:=fun hm=>by have:=hN b hm;omega
  have o2:H2.obj q=_:=(sD.2 q hq List.not_mem_nil).trans ho;have b2:H2.obj b=_:=(sD.2 b hb List.not_mem_nil).trans Dm;have hz3:bi=true->jF H3 (old,z):=fun h=>((hz h).hf sD (fun _ _ h=>by cases h)).hf hf3 fun a ha hm=>by have:=hzN h a ha;have:=hN a hm;omega
  refine hK _ _ (ih (j+1) aGC c1 l' _ H3 (by omega) hA5 r3 r1 hM (Nat.le_trans hNn (Nat.le_trans sD.1 hf3.1)) hz3 (Nat.lt_of_lt_of_le an9 hf3.1) (Nat.lt_of_lt_of_le ay9 hf3.1) ((hf3.2 q an9 Kw).trans o2) ((hf3.2 b ay9 hbM).trans b2) (by simp -implicitDefEqProofs only [go_sem,t0]) (by simp -implicitDefEqProofs only [go_sem,t2]) (by simp -implicitDefEqProofs only [go_sem,t6]) (by simp -implicitDefEqProofs only [go_sem,t9]) (by simp -implicitDefEqProofs only [go_sem,t76]) (by simp -implicitDefEqProofs only [go_sem,t77]) (by simp -implicitDefEqProofs only [go_sem]) fun Qk H4 l4 u1 u2 u3 u4=> ?_);refine q0 Qk H4 l4 u1 (u2.trans r2) u3 (((sD.up fun a ha=>by cases ha).tr hf3).tr ?_);rw [ad3 r2]at u4;exact u4
end
theorem HF.old {M M':List Nat} {H H1 H2:AH} (h:HF M H H1) (h':HF M' H1 H2) (hs: ∀a∈M',a<H.next->a∈M):HF M H H2:=
 ⟨Nat.le_trans h.1 h'.1,fun a ha hm=>(h'.2 a (Nat.lt_of_lt_of_le ha h.1) fun hm'=>hm (hs a hm' ha)).trans (h.2 a ha hm)⟩
theorem atj {v:PV} {id o lo:Nat} {left:List Str} {cl:Ck} {F:Nat}: ∀k,ay7 v id o lo left cl (KT left F k):=by
 intro k
 induction k with
 |zero=>intro out c i bound out' c' h;cases h
 |succ k ih=>
  intro out c i bound out' c' h H l hV hl;rw [KT]at h;obtain⟨n,hn,h1⟩:=ak h;obtain⟨nm,hnm,h2⟩:=ak h1;obtain⟨bi,hbi,h3⟩:=ak h2;obtain⟨⟨n2,c2⟩,Ql,h4⟩:=ak h3;obtain⟨⟨hb1,hn1,ha1⟩,hA⟩:=aZ h4;clear h h1 h2 h3 h4;subst hl;rw [List.getElem?_map]at hn;obtain⟨⟨n0,y⟩,WY,hn⟩:=Option.map_eq_some_iff.1 hn;simp only at hn;subst hn;obtain⟨id0,C,e1,hid,hC,hcell,hle,hdrop,hI⟩:=aG.content hV.own.row WY;obtain rfl:id=id0:=by simpa using e1
  have hI':jR 5 v (.int .i64 i)=some (.ref id (i*5)):=hI .i64 i (by omega) (by omega);have hoo:=hV.obj;refine aM aBz (by simp) (aJ ?_);unfold ap4;simp -implicitDefEqProofs only [go_sem,dO,hoo,hI',Nat.le_refl];obtain⟨H1,hH1⟩: ∃H1,H1=(H.new [.nR]).put H.next [.ref id (i*5)]:=⟨_,rfl⟩;rw [<-hH1];have hf1:HF [] H H1:=by
   rw [hH1];exact HF.put (.inr (Nat.le_refl _)) (HF.new (HF.refl _ _))
  have oq1:H1.obj H.next=some [.ref id (i*5)]:=by
   rw [hH1];show(if H.next=H.next then some _ else _)=_;rw [if_pos rfl]
  have nx1:H.next<H1.next:=by rw [hH1];exact Nat.lt_succ_self _
  clear hH1;have hV1:=hV.new hf1 (fun a ha=>by cases ha);have Kw:H.next∉mH l id o:=fun hm=>Nat.lt_irrefl _ (hV.lts _ hm);refine ayS (l:=l) (i:=i) (n:=n0) (y:=y) (q:=H.next) (bound:=bound) (ck:= .unk) (nm:=nm) (k:=F) hV1 WY aH aH nx1 Kw oq1 hnm (by omega) fun σ2 H2 WV hV2 hf2 oq2=> ?_;obtain⟨n1,ad4⟩: ∃n1:Nd,n1={n0 with text:=if nm=true then ng bound n0.text else n0.text}:=⟨_,rfl⟩;have k1:n1.kind=n0.kind:=by rw [ad4]
  have g1:n1.args=n0.args:=by rw [ad4]
  have m1:n1.names=n0.names:=by rw [ad4]
  rw [<-ad4]at hV2 Ql hA;clear ad4;have hi:=(List.getElem?_eq_some_iff.1 WY).1;have aza:(l.set i (n1,y))[i]? =some (n1,y):=by rw [List.getElem?_set,if_pos rfl,if_pos hi]
  have es2:mH (l.set i (n1,y)) id o=mH l id o:=adR WY;obtain⟨id2,C2,e2,aLQ,hC2,hcell2,hle2,azb,hI2⟩:=aG.content hV2.own.row aza;obtain rfl:id=id2:=by simpa using e2
  have h52:=hle2 5 (Nat.le_refl _);have t6:σ2 6= .ref H.next 0:=(WV 6 (by decide)).trans aH;have t0:σ2 0= .ref o 0:=(WV 0 (by decide)).trans aH;have t2:σ2 2= .ah (bound.map Scope.cells) .unk:=(WV 2 (by decide)).trans aH;simp -implicitDefEqProofs only [go_sem,t6,oq2,hC2,azb,h52];have hcs:cellsOf (.agg (jZ (n1,y)))=some (jZ (n1,y)):=rfl;have hone:(jZ (n1,y)).all PV.one=true:=by cases y<;>rfl
  have onew:(H2.new [.int .i64 0,.int .i64 0,.str [],.ah [] .nil,.ah [] .nil]).obj H2.next=some [.int .i64 0,.int .i64 0,.str [],.ah [] .nil,.ah [] .nil]:=by
   show(if H2.next=H2.next then some _ else _)=_
   rw [if_pos rfl]
  refine WT (id:=H2.next) (o:=0) (vs:=jZ (n1,y)) (cs:=[.int .i64 0,.int .i64 0,.str [],.ah [] .nil,.ah [] .nil]) aH (by simp -implicitDefEqProofs only [go_sem,hcs]) onew rfl (by show 5<=5;decide) hone ?_;have hput:putCells [.int .i64 0,.int .i64 0,.str [],.ah [] .nil,.ah [] .nil] 0 (jZ (n1,y))=jZ (n1,y):=by cases y<;>rfl
  rw [hput];obtain⟨H3,hH3⟩: ∃H3,H3=(H2.new [.int .i64 0,.int .i64 0,.str [],.ah [] .nil,.ah [] .nil]).put H2.next (jZ (n1,y)):=⟨_,rfl⟩;rw [<-hH3];have hf3:HF [] H2 H3:=by
   rw [hH3];exact HF.put (.inr (Nat.le_refl _)) (HF.new (HF.refl _ _))
  have ob3:H3.obj H2.next=some (jZ (n1,y)):=by
   rw [hH3];show(if H2.next=H2.next then some _ else _)=_;rw [if_pos rfl]
  have nx3:H2.next<H3.next:=by rw [hH3];exact Nat.lt_succ_self _
  clear hH3;have nx2:H.next<H2.next:=Nat.lt_of_lt_of_le nx1 hf2.1;have hV3:=hV2.new hf3 (fun a ha=>by cases ha);have oq3:=(hf3.2 H.next nx2 List.not_mem_nil).trans oq2;simp -implicitDefEqProofs only [go_sem];refine ayW (l:=l.set i (n1,y)) (i:=i) (n:=n1) (n':=n2) (y:=y) (q:=H.next) (b:=H2.next) (F:=F) (bi:=bi) (c:=c) (c':=c2) hV3 aza (by rw [m1];exact hn1) (by rw [es2];exact Kw) (fun hm=>by rw [es2]at hm;have:=hV.lts _ hm;omega) (by omega) aH aH aH (Nat.lt_trans nx2 nx3) nx3 oq3 ob3 (by rw [k1];exact hbi) Ql fun Qk H4 z fr4 hV4 hz4 hf4 oq4 ob4=> ?_;rw [List.set_set]at hV4;have aGF:(l.set i (n2,y))[i]? =some (n2,y):=by rw [List.getElem?_set,if_pos rfl,if_pos hi]
  have es4:mH (l.set i (n2,y)) id o=mH l id o:=adR WY;obtain⟨id4,C4,e4,aLR,hC4,aze,aLS,aJf,hI4⟩:=aG.content hV4.own.row aGF;obtain rfl:id=id4:=by simpa using e4
  have c4:C4[i*5+4]? =some (.ah (n2.args.map aK) .unk):=aze 4 _ rfl;have g2:n2.args=n0.args:=by
   rw [<-g1];cases bi with
   |false=>cases Ql;rfl
   |true=>obtain⟨p,_,hp⟩:=ak Ql;cases hp;rfl
  rw [g2]at c4;have u6:Qk 6= .ref H.next 0:=(fr4 6 (by decide) (by decide)).trans aH;have u0:Qk 0= .ref o 0:=(fr4 0 (by decide) (by decide)).trans aH;have u2:Qk 2= .ah (bound.map Scope.cells) .unk:=(fr4 2 (by decide) (by decide)).trans aH;have u9:Qk 9= .ref H2.next 0:=(fr4 9 (by decide) (by decide)).trans aH;simp -implicitDefEqProofs only [go_sem,u6,oq4,hC4,c4];have aGG:HF (mH l id o) H H4:=by
   refine HF.old (((hf1.up fun a ha=>by cases ha).tr (hf2.up fun a ha=> ?_)).tr (hf3.up fun a ha=>by cases ha)) hf4 fun a hm ha=> ?_
   · rw [List.mem_singleton.1 ha];simp [mH]
   · rcases List.mem_cons.1 hm with rfl|hm
     · omega
     · rcases List.mem_cons.1 hm with rfl|hm
       · exact List.mem_cons_self
       · exact List.mem_cons_of_mem _ (List.mem_cons_of_mem _ (QT WY hm))
  refine alx (left:=left) (cl:=cl) (rec:=KT left F k) (i:=i) (q:=H.next) (b:=H2.next) (N:=H.next) (old:=n1) (z:=z) (bi:=bi) (bound:=bound) (args:=n0.args) (out':=out') (c':=c') ih (by rw [k1];exact hbi) hb1 ha1 (Nat.le_refl _) (Nat.le_of_lt nx2) (fun hbt a ha=> ?_) n0.args.length 0 (out:=(l.map (·.1)).set i n2) (c:=c2) (l:=l.set i (n2,y)) (H:=H4) (ck:= .unk) (σ:=_) (Nat.zero_add _) (by rw [List.drop_zero];exact hA) hV4 (by rw [List.map_set]) (by rw [es4];exact hV.lts) (Nat.le_of_lt (Nat.lt_of_lt_of_le nx2 (Nat.le_trans hf3.1 hf4.1))) (fun h=>(hz4 h).1) (Nat.lt_of_lt_of_le (Nat.lt_trans nx2 nx3) hf4.1) (Nat.lt_of_lt_of_le nx3 hf4.1) oq4 ob4 aH aH aH aH aH aH aH fun WW H5 l5 w1 w2 w3 w4=> ?_
  · have:=(hz4 hbt).2 a ha;have:=hf1.1;have:=hf2.1;have:=hf3.1;omega
  · skip
    simp -implicitDefEqProofs only [go_sem];refine⟨l5,w1,w2.trans ?_,w3,aGG.tr ?_⟩
    · rw [List.map_set];obtain⟨h,e⟩:=List.getElem?_eq_some_iff.1 WY
      have:(l.map (·.2))[i]'(by simpa using h)=y:=by rw [List.getElem_map,e]
      rw [<-this,List.set_getElem_self]
    · rw [es4]at w4;exact w4
theorem atl {α:Type} {H:AH} {f g:α->List PV} {sz:Nat} {l:List α} {v:PV} {ids:List Nat} [hr:ni f sz] (h:aG H f sz l v ids) (hg: ∀x,(g x).length=sz) (hz: ∀x∈l,∀(j:Nat) (c c':PV),(f x)[j]? =some c->(g x)[j]? =some c'->Fz H c c'):Fz H v (.ah (l.map g) .unk):=by
 have h0:=h;rcases h with⟨rfl,rfl,_⟩|⟨id,cap,junk,rfl,rfl,h2,h3,h4,h5⟩
 · exact .ah [] [] .nil .unk (.inl rfl) rfl (fun i cs cs' e=>by simp at e) (fun i cs cs' e=>by simp at e)
 · refine .bO id 0 l.length cap sz _ _ (fun i j=>((l.map f)[i]?.bind (·[j]?)).getD .any) h4 (by simp) h2 (fun i cs e=> ?_) (fun i cs e j c ec=> ?_) (fun i cs e j c ec=> ?_)
   · simp only [List.getElem?_map,Option.map_eq_some_iff]at e;obtain⟨x,_,rfl⟩:=e;exact hg x
   · simp only [List.getElem?_map,Option.map_eq_some_iff]at e;obtain⟨x,hx,rfl⟩:=e;obtain⟨id',C,e1,_,e2,e3,_⟩:=h0.content hx;cases e1;rw [h4]at e2;cases e2;have hj:j<(f x).length:=by rw [hr.len x,<-hg x];exact(List.getElem?_eq_some_iff.1 ec).1
     rw [List.getElem?_map,hx,Option.map_some,Option.bind_some,List.getElem?_eq_getElem hj,Option.getD_some,Nat.zero_add];exact e3 j _ (List.getElem?_eq_getElem hj)
   · simp only [List.getElem?_map,Option.map_eq_some_iff]at e;obtain⟨x,hx,rfl⟩:=e;have hj:j<(f x).length:=by rw [hr.len x,<-hg x];exact(List.getElem?_eq_some_iff.1 ec).1
     rw [List.getElem?_map,hx,Option.map_some,Option.bind_some,List.getElem?_eq_getElem hj,Option.getD_some];exact hz x (List.mem_of_getElem? hx) j _ _ (List.getElem?_eq_getElem hj) ec
theorem atm {H:AH} {n:Nd} {y:NV} (h:jF H (n,y)):Ld H (jZ (n,y)) n.cells:=by
 have hn:Fz H y.pv (.ah (n.names.map aF) .unk):=by
  cases y with
  |p l=>
   obtain⟨h1,h2⟩:l=[]/\n.names=[]:=h;subst h1;rw [h2];exact cK gJ [] .unk
  |m id len cap=>
   have hr:aG H aF 1 n.names (.bO id 0 len cap 1) [id]:=h.2;exact aG.fz gJ hr
 exact .cons (.pure _ (.int _ _)) (dz (.cons (.pure _ (.str _)) (.cons hn (.cons (cK cZ n.args .unk) .nil))))
theorem azf {H:AH} {l:List (Nd×NV)} {v:PV} {id lo:Nat} (h:Pj H l v id l.length lo):Fz H v (gN (l.map (·.1))):=by
 have:=atl (g:=fun x:Nd×NV=>x.1.cells) h.row (fun _=>rfl) fun x hx j c c' e e'=>by
  obtain⟨i,hi⟩:=List.mem_iff_getElem?.1 hx;have hn:=h.GI i x hi;rw [if_pos (List.getElem?_eq_some_iff.1 hi).1]at hn;obtain⟨n,y⟩:=x;exact(atm hn).get.2 j c c' e e'
 have e2:l.map (fun x:Nd×NV=>x.1.cells)=(l.map (·.1)).map Nd.cells:=by rw [List.map_map];rfl
 rw [e2]at this;exact this
def xA (k:Nat) (e:List Nd):Option (List Nd):=
 if 0<e.length/\e.length<=1000000/\(∀n∈e,n.names.length<=1000000/\n.args.length<=1000000)then
  (Ee k e).bind fun left=>(KT left k k e 0 (e.length -1) []).bind fun p=>some p.1 else none
theorem aly {k:Nat} {e r:List Nd} {ck:Ck} (h:xA k e=some r):aD Tryz.prog 216 [abj e ck] (gN r):=by
 refine aD.wk (args:=[gN e]) ?_ (.ah .nil);unfold xA at h;obtain⟨⟨h0,h1,h2⟩,h3⟩:=aZ h;obtain⟨left,hleft,h4⟩:=ak h3;obtain⟨⟨out,c'⟩,azg,h5⟩:=ak h4;cases h5;clear h h3 h4;refine aD.bH (dA.mem (.cons (bE Nd.pu _) .nil)) (aM aA8 (by simp) (aJ ?_)) (bE Nd.pu _);unfold apD;simp -implicitDefEqProofs only [go_sem];refine bg.mono (ah5 e h0 (fun i n hi=>h2 n (List.mem_of_getElem? hi)) h1 AH.empty) ?_;rintro v H1 ⟨id,l,hle,hO,hf1,hok⟩;subst hle;rw [List.length_map]at hO;simp -implicitDefEqProofs only [go_sem];refine au (an2 k _ hleft) ?_;obtain⟨cap,rfl⟩: ∃cap,v= .bO id 0 l.length cap 5:=by
  rcases hO.row with⟨_,_,h⟩|⟨id',cap,junk,e1,e2,_⟩
  · cases h
  · cases e1;exact⟨cap,e2⟩
 have hlen:((List.map Prod.fst l).map Nd.cells).length=l.length:=by rw [List.length_map,List.length_map]
 have hw:IntKind.wrap .i64 ((l.length:Int) -1)=((l.length -1:Nat):Int):=by
  rw [List.length_map]at h0 h1;rw [IntKind.wrap_i64];omega
 simp -implicitDefEqProofs only [go_sem,List.take,List.drop,List.append_eq];obtain⟨H2,hH2⟩: ∃H2,H2=H1.new [.bO id 0 l.length cap 5,.ah (left.map aF) .unk,.int .i64 0]:=⟨_,rfl⟩;have hf2:HF [] H1 H2:=by rw [hH2];exact HF.new (HF.refl _ _)
 have ob:H2.obj H1.next=some [.bO id 0 l.length cap 5,.ah (left.map aF) .unk,.int .i64 0]:=by
  rw [hH2];show(if H1.next=H1.next then some _ else _)=_;rw [if_pos rfl]
 have nx:H1.next<H2.next:=by rw [hH2];exact Nat.lt_succ_self _
 have aLT:id<H1.next:=hO.row.lt _ (List.mem_singleton.2 rfl);have hV:lT H2 l (.bO id 0 l.length cap 5) id H1.next AH.empty.next left .unk 0:=by
  refine⟨⟨hO.row.hf hf2 (fun _ _ h=>by cases h),fun i x hx=> ?_,hO.dj,hO.ne,hO.lob,hO.Yk⟩,ob,nx,by omega,fun i x hx hm=> ?_⟩
  · have:=hO.GI i x hx;rw [if_pos (List.getElem?_eq_some_iff.1 hx).1]at this⊢;exact this.hf hf2 (fun _ _ h=>by cases h)
  · have:=hO.GI i x hx;rw [if_pos (List.getElem?_eq_some_iff.1 hx).1]at this;have:=this.lt _ hm;omega
 rw [List.length_map]at azg;rw [hw,<-hH2];refine bg.mono (bg.wk (atj k _ _ _ [] _ _ azg H2 l hV rfl) (.same (.same (.ah .nil)))) ?_;rintro _ H3 ⟨l',r1,r2,r3,hf3⟩;have o3:=r3.obj;simp -implicitDefEqProofs only [go_sem,o3];subst r1;exact azf r3.own
end Go.VL
end
section
namespace Go.VL
open Tm
theorem ag7 {e:List Nd} (hF:Bv e) {i:Nat} {n:Nd} (hn:e[i]? =some n):n.kind=23->1<=n.names.length:=fun hk=>(U0 (hF.ok i n hn) hk).2
theorem afP (k:Int):l8 k=some (!decide (k=16\/k=17)):=by
 unfold l8;by_cases h:k=16
 · subst h;rfl
 · by_cases h2:k=17
   · subst h2;rfl
   · rw [show(k !=16)=true by simp [h],show(k !=17)=true by simp [h2]];simp [h,h2]
theorem atn {left:List Str} {F:Nat} (hFr:WX left F) (n:Nd) (c:Nat) (hc:(gI left n c).2+left.length<=9000):adU left F (!decide (n.kind=16\/n.kind=17)) n (c:Int)=some ({n with names:=(gI left n c).1},((gI left n c).2:Int)):=by
 unfold gI at hc⊢;unfold adU;by_cases h:n.kind=16\/n.kind=17
 · rw [if_pos h,decide_eq_true h];rfl
 · rw [if_neg h]at hc;rw [if_neg h,decide_eq_false h];show Option.bind (Js left F n.names.length (c:Int)) _=_;rw [aaf hFr _ _ hc];rfl
theorem set_mid {α:Type} (pre A post:List α) (n m:α) {i:Nat} (hi:i=pre.length+A.length):(pre++((A++[n])++post)).set i m=pre++((A++[m])++post):=by
 subst hi;rw [List.set_append_right _ _ (by omega),show pre.length+A.length -pre.length=A.length by omega,List.append_assoc,List.set_append_right _ _ (by omega),Nat.sub_self,List.append_assoc];rfl
theorem alz {left:List Str} {F k:Nat} {out:List Nd} {c c2:Int} {i:Nat} {bd:List Scope} {n n1 n2:Nd} {bi:Bool} (hget:out[i]? =some n) (hnm:nP F n=some (kR n)) (hbi:l8 n.kind=some bi)
 (h1:({n with text:=if kR n=true then ng bd n.text else n.text}:Nd)=n1) (Ql:adU left F bi n1 c=some (n2,c2)) (hl:bd.length<=1000000/\n.names.length<=1000000/\n.args.length<=1000000):
 KT left F (k+1) out c i bd=Qh (KT left F k) n1 i bd n.args 0 (out.set i n2) c2:=by
 subst h1;rw [KT];simp only [hget,hnm,hbi,Option.bind_some];rw [Ql,Option.bind_some,if_pos hl]
section
variable {left:List Str} {F:Nat} (hFr:WX left F) {e:List Nd} (hF:Bv e) (hN: ∀n∈e,nP F n=some (kR n))
include hFr hF hN
mutual
theorem ad5: ∀(t:Tm) (b:Nat) (bd:List Scope) (c k:Nat) (pre post:List Nd),Seg e b t->pre.length=b->t.size<=k->bd.length+34*(b+t.size -1)<=10000->(can left bd c t).2+left.length<=9000->
 KT left F k (pre++(flat b t++post)) (c:Int) (b+t.size -1) bd=some (pre++(flat b (can left bd c t).1++post),((can left bd c t).2:Int))
 | .mk x cs,b,bd,c,k,pre,post,hS,hp,hk,hb,hc=>by
  have hn:=hS.node;have hsz:b+(Tm.mk x cs).size -1=b+sizes cs:=by simp only [size];omega
  rw [hsz]at hb⊢;obtain⟨k,rfl⟩: ∃j,k=j+1:=⟨k -1,by simp only [size]at hk;omega⟩;have Ea:=hF.few _ _ hn;have hget:(pre++(flat b (.mk x cs)++post))[b+sizes cs]? =some (nd x b cs):=(show Seg (pre++(flat b (.mk x cs)++post)) b (.mk x cs)from⟨pre,post,rfl,hp⟩).node;have hnb:kR (nd x b cs)=kR x:=rfl;rw [Ju]at hc⊢;have hle:=BS left cs bd x (qA left bd c x) cs.length 0 (gI left x c).2
  have Ql:=atn hFr (nd {x with text:=Ei bd x} b cs) c (by
   show(gI left x c).2+left.length<=9000
   simp only at hc;omega)
  rw [alz (n:=nd x b cs) (n1:=nd {x with text:=Ei bd x} b cs) (n2:=nd (qA left bd c x) b cs) (c2:=((gI left x c).2:Int)) hget (hN _ (List.mem_of_getElem? hn)) (afP _) rfl Ql ⟨by omega,by have:=Ea.2;omega,by have:=Ea.1;omega⟩];have hset:(pre++(flat b (.mk x cs)++post)).set (b+sizes cs) (nd (qA left bd c x) b cs)=pre++((bn b []++bn (b+sizes []) cs)++([nd (qA left bd c x) b cs]++post)):=by
   rw [lF,set_mid pre (bn b cs) post _ _ (by rw [hp,dF])];simp only [bn,sizes,List.nil_append,Nat.add_zero,List.append_assoc]
  rw [hset]
  have:=ad6 cs x (nd (qA left bd c x) b cs) (nd {x with text:=Ei bd x} b cs) [] [] b bd (gI left x c).2 k pre post hS hp rfl (by simp only [size]at hk;omega) (by simpa using hb) (by
   have e1:gU left bd x (nd (qA left bd c x) b cs) ([]++cs).length ([]:List Tm).length (gI left x c).2 cs=gU left bd x (qA left bd c x) cs.length 0 (gI left x c).2 cs:=YW left cs _ _ _ _ _ _ _ rfl;rw [e1];exact hc) rfl rfl rfl (by rw [List.nil_append];exact jh b cs) rfl rfl (Jv left x c) (by rw [List.nil_append];exact jh b cs)
  simp only [List.nil_append,List.length_nil]at this;have e1:gU left bd x (nd (qA left bd c x) b cs) cs.length 0 (gI left x c).2 cs=gU left bd x (qA left bd c x) cs.length 0 (gI left x c).2 cs:=YW left cs _ _ _ _ _ _ _ rfl;rw [e1]at this;rw [show sizes ([]:List Tm)=0 from rfl,Nat.add_zero]at this;rw [show sizes ([]:List Tm)=0 from rfl,Nat.add_zero];refine this.trans ?_;rw [lF];have e2:nd (qA left bd c x) b (gU left bd x (qA left bd c x) cs.length 0 (gI left x c).2 cs).1=nd (qA left bd c x) b cs:=by unfold nd;rw [Hr]
  rw [e2];simp only [bn,List.nil_append,List.append_assoc]
theorem ad6: ∀(cs:List Tm) (x y n1:Nd) (l l':List Tm) (b:Nat) (bd:List Scope) (c k:Nat) (pre post:List Nd),Seg e b (.mk x (l++cs))->pre.length=b->sizes l'=sizes l->sizes cs<=k->bd.length+34*(b+sizes (l++cs))<=10000->
 (gU left bd x y (l++cs).length l.length c cs).2+left.length<=9000->n1.kind=x.kind->n1.n=x.n->n1.names=x.names->n1.args.length=(l++cs).length->y.kind=x.kind->y.n=x.n->y.names.length=x.names.length->y.args.length=(l++cs).length->
 Qh (KT left F k) n1 (b+sizes (l++cs)) bd (roots (b+sizes l) cs) l.length (pre++((bn b l'++bn (b+sizes l) cs)++([y]++post))) (c:Int)=
  some (pre++((bn b l'++bn (b+sizes l) (gU left bd x y (l++cs).length l.length c cs).1)++([y]++post)),((gU left bd x y (l++cs).length l.length c cs).2:Int))
 |[],x,y,n1,l,l',b,bd,c,k,pre,post,hS,hp,hl',hk,hb,hc,m1,m2,m3,m4,y1,y2,y3,y4=>by rw [roots,Qh,gU]
 |t::cs,x,y,n1,l,l',b,bd,c,k,pre,post,hS,hp,hl',hk,hb,hc,m1,m2,m3,m4,y1,y2,y3,y4=>by
  have hn:=hS.node;have Ea:=hF.few _ _ hn;have h23:=ag7 hF hn;have hcp:=t.size_pos;have hsz:sizes (l++t::cs)=sizes l+(t.size+sizes cs):=by rw [dJ,sizes]
  have hk2:sizes (t::cs)=t.size+sizes cs:=by rw [sizes]
  have hal:(nd x b (l++t::cs)).args.length=(l++t::cs).length:=jh b _;have e1:l++t::cs=(l++[t])++cs:=by simp
  have e2:l.length+1=(l++[t]).length:=by simp
  have e3:b+sizes l+t.size=b+sizes (l++[t]):=by rw [dJ,rD];omega
  have hbx:iM n1 (l.length:Int)=some (jG (qJ x.kind x.n (l++t::cs).length l.length) x.names):=by
   rw [KV (by rw [m1,m3];exact h23),m1,m2,m3,m4]
  have hby:iM y (l.length:Int)=some (jG (qJ x.kind x.n (l++t::cs).length l.length) y.names):=by
   rw [KV (by rw [y1,y3];exact h23),y1,y2,y4]
  rw [nQ]at hc⊢;obtain⟨t',ht'⟩: ∃t',t'=(can left (bd++vV x y (l++t::cs).length l.length) c t):=⟨_,rfl⟩;have hts:=wQ left t (bd++vV x y (l++t::cs).length l.length) c;rw [<-ht']at hc hts⊢;have hcl:=BS left cs bd x y (l++t::cs).length (l.length+1) t'.2;have hpl:=adZ (qJ x.kind x.n (l++t::cs).length l.length) x.names;have R6:(jG (qJ x.kind x.n (l++t::cs).length l.length) x.names).length=(jG (qJ x.kind x.n (l++t::cs).length l.length) y.names).length:=aai _ y3.symm;have hnx:x.names.length<=34:=Ea.2;have aLU:(vV x y (l++t::cs).length l.length).length<=34:=by
   unfold vV;rw [List.length_zipWith];omega
  have hget:(pre++((bn b l'++bn (b+sizes l) (t::cs))++([y]++post)))[b+sizes (l++t::cs)]? =some y:=by
   rw [List.getElem?_append_right (by omega),List.getElem?_append_right (by rw [List.length_append,dF,dF];omega),List.length_append,dF,dF,show b+sizes (l++t::cs) -pre.length -(sizes l'+sizes (t::cs))=0 by omega];rfl
  have hin:=ad5 t (b+sizes l) (bd++vV x y (l++t::cs).length l.length) c k (pre++bn b l') (bn (b+sizes l+t.size) cs++([y]++post)) hS.kid (by rw [List.length_append,dF];omega) (by omega) (by rw [List.length_append];omega) (by rw [<-ht'];simp only at hc;omega);have aGH:pre++((bn b l'++bn (b+sizes l) (t::cs))++([y]++post))=(pre++bn b l')++(flat (b+sizes l) t++(bn (b+sizes l+t.size) cs++([y]++post))):=by rw [iZ];simp only [List.append_assoc]
  have aCr:(pre++bn b l')++(flat (b+sizes l) t'.1++(bn (b+sizes l+t.size) cs++([y]++post)))=pre++((bn b (l'++[t'.1])++bn (b+sizes (l++[t])) cs)++([y]++post)):=by
   rw [rV,zh,hl',e3];simp only [List.append_assoc]
  rw [<-ht']at hin;have htn:(((b+sizes l+t.size -1:Nat):Int)).toNat=b+sizes l+t.size -1:=by omega
  rw [roots,Qh,hget,Option.bind_some,hbx,Option.bind_some,hby,Option.bind_some,if_pos ⟨by omega,by omega,by omega⟩,htn,show List.zipWith Scope.mk (jG (qJ x.kind x.n (l++t::cs).length l.length) x.names) (jG (qJ x.kind x.n (l++t::cs).length l.length) y.names)=vV x y (l++t::cs).length l.length from rfl,aGH,hin,Option.bind_some];simp only;rw [aCr];have hrest:=ad6 cs x y n1 (l++[t]) (l'++[t'.1]) b bd t'.2 k pre post (by rw [<-e1];exact hS) hp (by rw [dJ,dJ,rD,rD,hl',hts]) (by omega) (by rw [<-e1];exact hb) (by rw [<-e1,<-e2];exact hc) m1 m2 m3 (by rw [<-e1];exact m4) y1 y2 y3 (by rw [<-e1];exact y4);rw [<-e1,<-e2]at hrest;rw [<-e3,e3];refine hrest.trans ?_;rw [rV,zh,iZ,hl',<-e3,hts];simp only [List.append_assoc]
end
end
mutual
def nmT:Tm->Nat
 | .mk x cs=>x.names.length+nmL cs
def nmL:List Tm->Nat
 |[]=>0
 |t::ts=>nmT t+nmL ts
end
theorem aod (left:List Str) (x:Nd) (c:Nat):(gI left x c).2+cnt left c<=c+x.names.length+cnt left (gI left x c).2:=by
 unfold gI;split
 · simp only;omega
 · have:=Z9 left x.names.length c;omega
mutual
theorem ag8 (left:List Str): ∀(t:Tm) (bd:List Scope) (c:Nat),(can left bd c t).2+cnt left c<=c+nmT t+cnt left (can left bd c t).2
 | .mk x cs,bd,c=>by
  rw [Ju,nmT];have h1:=aod left x c;have h2:=ad7 left cs bd x (qA left bd c x) cs.length 0 (gI left x c).2;simp only;omega
theorem ad7 (left:List Str): ∀(cs:List Tm) (bd:List Scope) (x y:Nd) (a j c:Nat),(gU left bd x y a j c cs).2+cnt left c<=c+nmL cs+cnt left (gU left bd x y a j c cs).2
 |[],bd,x,y,a,j,c=>by rw [gU,nmL];simp only;omega
 |t::ts,bd,x,y,a,j,c=>by
  rw [nQ,nmL];have h1:=ag8 left t (bd++vV x y a j) c;have h2:=ad7 left ts bd x y a (j+1) (can left (bd++vV x y a j) c t).2;simp only;omega
end
section
variable {e:List Nd} (hF:Bv e)
include hF
mutual
theorem arn: ∀(t:Tm) (b:Nat),Seg e b t->nmT t<=34*t.size
 | .mk x cs,b,hS=>by
  have:=(hF.few _ _ hS.node).2;have h2:=alB cs x [] b hS;rw [nmT];simp only [size];have h3:(nd x b cs).names.length=x.names.length:=rfl;omega
theorem alB: ∀(cs:List Tm) (x:Nd) (l:List Tm) (b:Nat),Seg e b (.mk x (l++cs))->nmL cs<=34*sizes cs
 |[],x,l,b,hS=>by rw [nmL];omega
 |t::ts,x,l,b,hS=>by
  have h1:=arn t (b+sizes l) hS.kid;have h2:=alB ts x (l++[t]) b (by simpa using hS);rw [nmL,sizes];omega
end
end
theorem Qm {e:List Nd} (hF:Bv e) {t:Tm} (he:e=flat 0 t) (left:List Str) (hl:left.length<=1000):(can left [] 0 t).2+left.length<=9000:=by
 have h1:=ag8 left t [] 0;have h2:=WK left (can left [] 0 t).2;have h3:=arn hF t 0 (by rw [he];exact Seg.whole t);have h4:t.size<=170:=by have:=hF.len;rw [he,bG]at this;exact this
 omega
theorem alC {e:List Nd} (hF:Bv e) {t:Tm} (he:e=flat 0 t) {left:List Str} (hfree:Ev (fun k=>Ee k e) left) (hl:left.length<=1000):Ev (fun k=>xA k e) (flat 0 (can left [] 0 t).1):=by
 have hlen:=hF.len;have hs:=t.size_pos;have hsz:e.length=t.size:=by rw [he,bG]
 obtain⟨K1,h1⟩:=hfree;obtain⟨K2,h2⟩:=adY left (by omega);obtain⟨K3,h3⟩:=Qj (fun k n=>nP k n) kR e (fun n _=>Qd n);refine⟨K1+K2+K3+200,fun k hk=> ?_⟩;show xA k e=_
 unfold xA;rw [if_pos ⟨by omega,by omega,fun n hn=>by
  obtain⟨i,hi⟩:=List.mem_iff_getElem?.1 hn;have:=hF.few i n hi;omega⟩,(show Ee k e=_ from h1 k (by omega)),Option.bind_some]
 have:=ad5 (h2 k (by omega)) hF (h3 k (by omega)) t 0 [] 0 k [] [] (by rw [he];exact Seg.whole t) rfl (by omega) (by simp only [List.length_nil];omega) (Qm hF he left hl);simp only [List.nil_append,List.append_nil,Nat.zero_add]at this;rw [<-he]at this;rw [hsz,show((0:Int))=((0:Nat):Int)from rfl,this];rfl
def Qn (d:Int) (n:Nd):Nd:={n with args:=n.args.map (·-d)}
theorem ad8 (d:Nat): ∀(cs:List Tm) (b:Nat),(roots (b+d) cs).map (·-(d:Int))=roots b cs
 |[],b=>rfl
 |c::cs,b=>by
  have h:=ad8 d cs (b+c.size);have hp:=size_pos c;rw [roots,roots,List.map_cons,show b+d+c.size=b+c.size+d by omega,h];congr 1;omega
theorem aCs (d:Nat) (x:Nd) (b:Nat) (cs:List Tm):Qn d (nd x (b+d) cs)=nd x b cs:=by
 unfold Qn nd;simp only [ad8]
mutual
theorem E8 (d:Nat): ∀(t:Tm) (b:Nat),(flat (b+d) t).map (Qn d)=flat b t
 | .mk x cs,b=>by rw [lF,lF,List.map_append,ad9 d cs b,List.map_cons,List.map_nil,aCs]
theorem ad9 (d:Nat): ∀(cs:List Tm) (b:Nat),(bn (b+d) cs).map (Qn d)=bn b cs
 |[],b=>by rw [bn,bn];rfl
 |c::cs,b=>by
  rw [iZ,iZ,List.map_append,E8 d c b,show b+d+c.size=b+c.size+d by omega,ad9 d cs (b+c.size)]
end
section
variable {e:List Nd} (hlen:e.length<=1000000)
include hlen
theorem WZ: ∀(t:Tm) (b:Nat),Seg e b t->Ev (fun k=>qU k e ((b+t.size -1:Nat):Int)) (.inl (b:Int))
 | .mk x [],b,h=>by
  have hn:=h.node;have e1:b+(Tm.mk x []).size -1=b:=by simp [size,sizes]
  simp only [sizes,Nat.add_zero]at hn;rw [e1];refine Ev.succ ?_;simp only [qU,nn,if_true,Int.toNat_natCast,hn,Option.bind_some];exact Ev.cF (by simp [nd,roots]) Ev.some
 | .mk x (c::cs),b,h=>by
  have hn:=h.node;have hlt:=h.lt;have hp:=size_pos c;have hk:Seg e (b+sizes []) c:=h.kid (l:=[]);simp only [sizes,Nat.add_zero]at hk;have ih:=WZ c b hk;have e1:b+(Tm.mk x (c::cs)).size -1=b+sizes (c::cs):=by simp only [size];omega
  have hs:sizes (c::cs)=c.size+sizes cs:=by simp only [sizes]
  simp only [size]at hlt;have e2:(nd x b (c::cs)).args=((b+c.size -1:Nat):Int)::roots (b+c.size) cs:=by unfold nd;simp only [roots]
  rw [e1];refine Ev.succ ?_;simp only [qU,nn,if_true,Int.toNat_natCast,hn,Option.bind_some,e2,List.getElem?_cons_zero,pU];refine Ev.cT (by simp<;>omega) (Ev.cT ?_ ih);rw [wrap64 (by omega) (by omega)];exact decide_eq_true ⟨trivial,by omega⟩
theorem aea {t:Tm} {b:Nat} (h:Seg e b t):Ev (fun k=>uY k e ((b+t.size -1:Nat):Int)) (b:Int):=by
 unfold uY;refine Ev.cF (decide_eq_false (by omega)) (Ev.bind (WZ hlen t b h) ?_);simp only [dZ];exact Ev.some
theorem aeb {om:Int} (hf:0<=om/\om<=1000000) {i:Nat} {n:Nd} (hn:e[i]? =some n) (ha:n.args.length<=1000) (hr: ∀a∈n.args,-1000000<=a/\a<=1000000) (nm:List Str):
 Ev (fun k=>rE k e om (i:Int) n.kind n.n n.text nm [] 0) (n.kind,n.n,n.text,nm,n.args.map (·-om)):=by
 have key:Ev (fun k=>rE k e om (i:Int) n.kind n.n n.text nm ((n.args.take 0).map (·-om)) ((0:Nat):Int)) (n.kind,n.n,n.text,nm,n.args.map (·-om)):=by
  refine gF (len:=n.args.length) (p:=fun j=>Ev (fun k=>rE k e om (i:Int) n.kind n.n n.text nm ((n.args.take j).map (·-om)) (j:Int)) (n.kind,n.n,n.text,nm,n.args.map (·-om))) ?_ fun j hj ih=> ?_
  · refine Ev.succ ?_;simp only [rE,nn,if_true,Int.toNat_natCast,hn,Option.bind_some];exact Ev.cF (fT _) (Ev.some' (by rw [List.take_length]))
  · have h1:=hr _ (List.getElem_mem hj);refine Ev.succ ?_;simp only [rE,nn,if_true,Int.toNat_natCast,hn,Option.bind_some,gP hj,cond_true,aW hj,dw hj (show n.args.length<=1099511627776 by omega)];rw [wrap64 (x:=n.args[j] -om) (by omega) (by omega)];refine Ev.lg (by simp;omega) ?_
    have e1:(n.args.take (j+1)).map (·-om)=(n.args.take j).map (·-om)++[n.args[j] -om]:=by rw [List.take_succ_eq_append_getElem hj,List.map_append];rfl
    rw [<-e1];exact ih
 exact key
theorem afQ (hnd: ∀(i:Nat) n,e[i]? =some n->n.names.length<=1000/\n.args.length<=1000/\ ∀a∈n.args,-1000000<=a/\a<=1000000) {t:Tm} {b:Nat} (h:Seg e b t):Ev (fun k=>Mf k e ((b+t.size -1:Nat):Int)) (flat 0 t):=by
 have hlt:=h.lt;have hp:=size_pos t;obtain⟨pre,post,he,hpre⟩:=h;have hget: ∀j,j<t.size->e[b+j]? =(flat b t)[j]? :=fun j hj=>by
  rw [he,List.getElem?_append_right (by omega),hpre,show b+j -b=j by omega,List.getElem?_append_left (by rw [bG];exact hj)]
 have hfl:=E8 b t 0;rw [Nat.zero_add]at hfl;have key:Ev (fun k=>tN k e ((b+t.size -1:Nat):Int) (b:Int) ((flat 0 t).take 0) ((b+0:Nat):Int)) (flat 0 t):=by
  refine gF (len:=t.size) (p:=fun j=>Ev (fun k=>tN k e ((b+t.size -1:Nat):Int) (b:Int) ((flat 0 t).take j) ((b+j:Nat):Int)) (flat 0 t)) ?_ fun j hj ih=> ?_
  · refine Ev.succ ?_;simp only [tN];exact Ev.cF (decide_eq_false (by omega)) (Ev.some' (by rw [List.take_of_length_le (by rw [bG];exact Nat.le_refl _)]))
  · have hj0:j<(flat 0 t).length:=by rw [bG];exact hj
    have hj1:j<(flat b t).length:=by rw [bG];exact hj
    have hn:e[b+j]? =some (flat b t)[j]:=by rw [hget j hj,aW hj1]
    have e0:(flat 0 t)[j]=Qn b (flat b t)[j]:=by
     have:=congrArg (·[j]?) hfl
     simp only [List.getElem?_map,aW hj1,aW hj0,Option.map_some,Option.some.injEq]at this;exact this.symm
    obtain⟨g1,g2,g3⟩:=hnd _ _ hn;have e2:lY (flat b t)[j].names=some (flat b t)[j].names:=by
     unfold lY;rw [if_pos (by simp;omega)];rfl
    have hw:IntKind.wrap .i64 (((b+j:Nat):Int)+1)=((b+(j+1):Nat):Int):=by rw [wrap64 (by omega) (by omega)];omega
    refine Ev.succ ?_;simp only [tN,hw];refine Ev.cT (decide_eq_true (by omega)) (Ev.lg (by omega) ?_);simp only [Int.toNat_natCast,hn,Option.bind_some,e2];refine Ev.bind (aeb hlen ⟨by omega,by omega⟩ hn g2 g3 _) (Ev.lg (by rw [List.length_take];omega) ?_);rw [List.take_succ_eq_append_getElem hj0,e0]at ih;exact ih
 unfold Mf;exact Ev.bind (aea hlen ⟨pre,post,he,hpre⟩) (Ev.bind key Ev.some)
end
theorem BU (x:Nd) (cs:List Tm) (h:sizes cs<=1000000):yM (flat 0 (.mk x cs))=some (nd x 0 cs):=by
 have hn:=(Seg.whole (.mk x cs)).node;rw [Nat.zero_add]at hn;have hl:(flat 0 (.mk x cs)).length=sizes cs+1:=by rw [bG];simp [size]
 unfold yM;have hw:IntKind.wrap .i64 (((flat 0 (.mk x cs)).length:Int) -1)=(sizes cs:Int):=by rw [hl,wrap64 (by omega) (by omega)];omega
 simp only [hw,nn,if_true,Int.toNat_natCast,hn,Option.bind_some]
theorem aec: ∀(cs:List Tm) (b:Nat) (a:Int),a∈roots b cs->0<=a/\a<=b+sizes cs
 |[],b,a,h=>by rw [roots]at h;cases h
 |c::cs,b,a,h=>by
  rw [roots,List.mem_cons]at h;simp only [sizes];rcases h with rfl|h
  · omega
  · have:=aec cs _ a h;omega
mutual
theorem Qo: ∀(t:Tm) (b:Nat) (n:Nd),n∈flat b t-> ∀a∈n.args,0<=a/\a<=b+t.size
 | .mk x cs,b,n,h,a,ha=>by
  rw [lF,List.mem_append,List.mem_singleton]at h;simp only [size];rcases h with h|rfl
  · have:=W9 cs b n h a ha;omega
  · have:=aec cs b a ha;omega
theorem W9: ∀(cs:List Tm) (b:Nat) (n:Nd),n∈bn b cs-> ∀a∈n.args,0<=a/\a<=b+sizes cs
 |[],b,n,h,a,ha=>by rw [bn]at h;cases h
 |c::cs,b,n,h,a,ha=>by
  rw [iZ,List.mem_append]at h;simp only [sizes];rcases h with h|h
  · have:=Qo c b n h a ha;omega
  · have:=W9 cs _ n h a ha;omega
end
theorem ato {e:List Nd} {b:Nat} {t:Tm} (h:Seg e b t) (hnd: ∀(i:Nat) n,e[i]? =some n->n.names.length<=1000/\n.args.length<=1000) (hb:t.size<=1000):
 ∀(i:Nat) n,(flat 0 t)[i]? =some n->n.names.length<=1000/\n.args.length<=1000/\ ∀a∈n.args,-1000000<=a/\a<=1000000:=by
 intro i n hn;have hr:=Qo t 0 n (List.mem_of_getElem? hn);have hfl:=E8 b t 0;rw [Nat.zero_add]at hfl;rw [<-hfl,List.getElem?_map,Option.map_eq_some_iff]at hn;obtain⟨m,h1,rfl⟩:=hn;obtain⟨pre,post,he,hpre⟩:=h;have hi:=(List.getElem?_eq_some_iff.1 h1).1;obtain⟨g1,g2⟩:=hnd (b+i) m (by rw [he,List.getElem?_append_right (by omega),hpre,show b+i -b=i by omega,List.getElem?_append_left hi];exact h1);exact⟨g1,by simpa [Qn]using g2,fun a ha=>by have:=hr a ha;omega⟩
theorem Aa {x:Nd} {cs l m:List Tm} {c:Tm} (hcs:cs=l++c::m) (hs:sizes cs<=1000) (hnd: ∀(i:Nat) n,(flat 0 (.mk x cs))[i]? =some n->n.names.length<=1000/\n.args.length<=1000/\ ∀a∈n.args,-1000000<=a/\a<=1000000):
 Ev (fun k=>tQ k (flat 0 (.mk x cs)) (l.length:Int)) (flat 0 c):=by
 subst hcs;have hk:Seg (flat 0 (.mk x (l++c::m))) (0+sizes l) c:=(Seg.whole _).kid;rw [Nat.zero_add]at hk;have ha:(nd x 0 (l++c::m)).args[l.length]? =some ((sizes l+c.size -1:Nat):Int):=by
  unfold nd;have:=F6 (b:=0) (l:=l) (m:=m) (c:=c);rw [Nat.zero_add]at this;exact this
 unfold tQ;simp only [BU x _ (show sizes (l++c::m)<=1000000 by omega),Option.bind_some,nn,if_true,Int.toNat_natCast,ha];exact Ev.bind (afQ (by rw [bG];simp only [size];omega) hnd hk) Ev.some
theorem ai4 {i:Nat} (h:i<=1099511627776):IntKind.wrap .i64 ((i:Int)+1)=((i+1:Nat):Int):=by rw [wrap64 (by omega) (by omega)];omega
theorem aa5 {l:List Str} (hl:l.length<=1000000) (hn:l.Nodup) {i:Nat} (hi:i<l.length): ∀(m j:Nat),j+m=i->Ev (fun k=>wP k l l[i] (j:Int)) (.inr (i:Int)):=by
 intro m
 induction m with
 |zero=>
  intro j hj;obtain rfl:j=i:=by omega
  refine Ev.succ ?_;simp only [wP,Int.toNat_natCast];refine Ev.cT (decide_eq_true (by omega)) (Ev.lg (by omega) (Ev.iK (aW hi) (Ev.cT (by simp) Ev.some)))
 |succ m ih=>
  intro j hj;have hjl:j<l.length:=by omega
  refine Ev.succ ?_;simp only [wP,Int.toNat_natCast];refine Ev.cT (decide_eq_true (by omega)) (Ev.lg (by omega) (Ev.iK (aW hjl) (Ev.cF ?_ ?_)))
  · rw [beq_eq_false_iff_ne];exact List.pairwise_iff_getElem.1 hn j i hjl hi (by omega)
  · rw [ai4 (by omega)];exact ih (j+1) (by omega)
theorem ai5 {l:List Str} (hl:l.length<=1000000) (hn:l.Nodup) {i:Nat} (hi:i<l.length):Ev (fun k=>Io k l l[i]) (i:Int):=by
 unfold Io;exact Ev.bind (aa5 hl hn hi i 0 (by omega)) Ev.some
theorem YX {l nn:List Str} (hl:l.length<=1000000) (hn:l.Nodup) (hnn:nn.length=l.length): ∀(m i:Nat),i+m<=l.length->Ev (fun k=>Qi k l nn ((l.drop i).take m)) ((nn.drop i).take m):=by
 intro m
 induction m with
 |zero=>intro i h;simp only [List.take_zero];exact Ev.all fun k=>rfl
 |succ m ih=>
  intro i h;have hi:i<l.length:=by omega
  have hi2:i<nn.length:=by omega
  rw [List.drop_eq_getElem_cons hi,List.drop_eq_getElem_cons hi2,List.take_succ_cons,List.take_succ_cons];unfold Qi;refine Ev.bind (ai5 hl hn hi) (Ev.lg (by omega) ?_);simp only [Int.toNat_natCast,aW hi2,Option.bind_some];exact Ev.bind (ih (i+1) (by omega)) Ev.some
theorem alD {l nn:List Str} (hl:l.length<=1000000) (hn:l.Nodup) (hnn:nn.length=l.length) (s:Nat):Ev (fun k=>Qi k l nn (jG s l)) (jG s nn):=by
 unfold jG;split
 · have:=YX hl hn hnn l.length 0 (by omega);rw [List.drop_zero,List.drop_zero,List.take_length,<-hnn,List.take_length]at this;exact this
 · by_cases h:1<=l.length
   · have:=YX hl hn hnn 1 0 (by omega);rw [List.drop_zero,List.drop_zero]at this;exact this
   · have h1:l=[]:=List.length_eq_zero_iff.1 (by omega);have h2:nn=[]:=List.length_eq_zero_iff.1 (by omega);subst h1;subst h2;exact Ev.all fun k=>rfl
 · have:=YX hl hn hnn (l.length -1) 1;by_cases h:1<=l.length
   · have:=this (by omega);rw [List.take_of_length_le (by simp),List.take_of_length_le (by simp;omega)]at this;exact this
   · have h1:l=[]:=List.length_eq_zero_iff.1 (by omega);have h2:nn=[]:=List.length_eq_zero_iff.1 (by omega);subst h1;subst h2;exact Ev.all fun k=>rfl
 · exact Ev.all fun k=>rfl
theorem YZ (bound called:List Str) (hlen:called.length=bound.length) (hb:bound.length<=1000000) (s:Str): ∀(m:Nat),m<=bound.length->Ev (fun k=>Option.bind (uM k bound called s ((m:Int) -1)) (fun o=>Sum.elim (fun _=>some s) (fun x=>some x) o)) (ng (List.zipWith Scope.mk (bound.take m) (called.take m)) s):=by
 intro m
 induction m with
 |zero=>
  intro hm;refine Ev.succ ?_;simp only [uM];rw [show decide (((0:Nat):Int) -1>=0)=false from by decide];exact Ev.all fun k=>rfl
 |succ m ih=>
  intro hm;have h1:m<bound.length:=by omega
  have h2:m<called.length:=by omega
  have e1:(((m+1:Nat):Int) -1)=(m:Int):=by omega
  have e2:IntKind.wrap .i64 ((m:Int) -1)=(m:Int) -1:=wrap64 (by omega) (by omega);have htake:List.zipWith Scope.mk (bound.take (m+1)) (called.take (m+1))=List.zipWith Scope.mk (bound.take m) (called.take m)++[⟨bound[m],called[m]⟩]:=by
   rw [List.take_succ_eq_append_getElem h1,List.take_succ_eq_append_getElem h2,List.zipWith_append (by rw [List.length_take,List.length_take];omega)];rfl
  refine Ev.succ ?_;rw [e1,htake,Nj];simp only [uM,Int.toNat_natCast,aW h1,aW h2,Option.bind_some,e2];have d1:decide ((m:Int)>=0)=true:=decide_eq_true (by omega);have d2:(0:Int)<=(m:Int):=by omega
  simp only [d1,d2,cond_true,if_true];by_cases h:bound[m]=s
  · have d3:(bound[m]==s)=true:=by simp [h]
    rw [if_pos h];simp only [d3,cond_true];exact Ev.all fun k=>rfl
  · have d3:(bound[m]==s)=false:=by simp [h]
    rw [if_neg h];simp only [d3,cond_false];exact ih (by omega)
theorem afR (bound called:List Str) (hlen:called.length=bound.length) (hb:bound.length<=1000000) (s:Str):Ev (fun k=>wO k bound called s) (ng (List.zipWith Scope.mk bound called) s):=by
 have:=YZ bound called hlen hb s bound.length (Nat.le_refl _);rw [List.take_length,<-hlen,List.take_length,hlen]at this;unfold wO;have hw:IntKind.wrap .i64 ((bound.length:Int) -1)=(bound.length:Int) -1:=wrap64 (by omega) (by omega);rw [hw];exact this
def shP (d:Int) (n:Nd):Nd:={n with args:=n.args.map (·+d)}
theorem aal (d:Nat): ∀(cs:List Tm) (b:Nat),(roots b cs).map (·+(d:Int))=roots (b+d) cs
 |[],b=>rfl
 |c::cs,b=>by
  have:=c.size_pos;rw [roots,roots,List.map_cons,aal d cs,show b+c.size+d=b+d+c.size by omega];congr 1;omega
mutual
theorem aed (d:Nat): ∀(t:Tm) (b:Nat),(flat b t).map (shP d)=flat (b+d) t
 | .mk x cs,b=>by
  rw [lF,lF,List.map_append,aam d cs b,List.map_cons,List.map_nil];congr 2;unfold shP nd;simp only;rw [aal d cs b]
theorem aam (d:Nat): ∀(cs:List Tm) (b:Nat),(bn b cs).map (shP d)=bn (b+d) cs
 |[],b=>rfl
 |c::cs,b=>by rw [iZ,iZ,List.map_append,aed d c b,aam d cs (b+c.size),show b+c.size+d=b+d+c.size by omega]
end
theorem aan: ∀(cs:List Tm) (b:Nat),∀a∈roots b cs,0<=a/\a<((b+sizes cs:Nat):Int)
 |[],b,a,h=>by cases h
 |c::cs,b,a,h=>by
  have:=c.size_pos;rw [roots]at h;rw [sizes];rcases List.mem_cons.1 h with rfl|h
  · omega
  · have:=aan cs (b+c.size) a h;omega
mutual
theorem aee: ∀(t:Tm) (b:Nat),∀n∈flat b t,∀a∈n.args,0<=a/\a<((b+t.size:Nat):Int)
 | .mk x cs,b,n,hn,a,ha=>by
  rw [lF]at hn;simp only [size];rcases List.mem_append.1 hn with h|h
  · have:=aao cs b n h a ha;omega
  · rw [List.mem_singleton.1 h]at ha;have:=aan cs b a ha;omega
theorem aao: ∀(cs:List Tm) (b:Nat),∀n∈bn b cs,∀a∈n.args,0<=a/\a<((b+sizes cs:Nat):Int)
 |[],b,n,hn,a,ha=>by cases hn
 |c::cs,b,n,hn,a,ha=>by
  rw [iZ]at hn;rw [sizes];rcases List.mem_append.1 hn with h|h
  · have:=aee c b n h a ha;omega
  · have:=aao cs (b+c.size) n h a ha;omega
end
theorem Oh {l:List Str} (h:l.length<=1000000):lY l=some l:=by
 unfold lY;rw [if_pos (by simp;omega)];rfl
theorem aef {om:Int} (hf:0<=om/\om<=1000000) (p q:Int) (r:Str) (ns:List Str) (xs:List Int) (hx: ∀a∈xs,0<=a/\a<=1000000) (hl:xs.length<=1000000): ∀(m j:Nat) (done:List Int),j+m=xs.length->done.length+m<=1000000->
 Ev (fun k=>vR k om p q r ns xs done (j:Int)) (done++(xs.drop j).map (·+om)):=by
 intro m
 induction m with
 |zero=>
  intro j done hj hd;refine Ev.succ ?_;simp only [vR];refine Ev.cF (decide_eq_false (by omega)) (Ev.some' ?_);rw [List.drop_of_length_le (by omega)];simp
 |succ m ih=>
  intro j done hj hd;have hjl:j<xs.length:=by omega
  have hb:=hx xs[j] (List.getElem_mem hjl);refine Ev.succ ?_;simp only [vR,Int.toNat_natCast];refine Ev.cT (decide_eq_true (by omega)) (Ev.lg (by omega) (Ev.iK (aW hjl) (Ev.lg (by omega) ?_)));rw [ai4 (by omega),wrap64 (by omega) (by omega)];refine(ih (j+1) _ (by omega) (by simp;omega)).to ?_;rw [List.drop_eq_getElem_cons hjl,List.append_assoc];rfl
theorem aeg {om:Int} (hf:0<=om/\om<=1000000) {ops:List (List Nd)} {i:Nat} {x:List Nd} (hi:ops[i]? =some x) (hx: ∀n∈x,n.names.length<=1000000/\n.args.length<=1000000/\ ∀a∈n.args,0<=a/\a<=1000000) (hl:x.length<=1000000): ∀(m j:Nat) (out:List Nd),j+m=x.length->out.length+m<=1000000->
 Ev (fun k=>vS k ops out (i:Int) om (j:Int)) (out++(x.drop j).map (shP om)):=by
 intro m
 induction m with
 |zero=>
  intro j out hj hd;refine Ev.succ ?_;simp only [vS,Int.toNat_natCast];refine Ev.lg (by omega) (Ev.iK hi (Ev.cF (decide_eq_false (by omega)) (Ev.some' ?_)));rw [List.drop_of_length_le (by omega)];simp
 |succ m ih=>
  intro j out hj hd;have hjl:j<x.length:=by omega
  obtain⟨h1,h2,h3⟩:=hx x[j] (List.getElem_mem hjl);refine Ev.succ ?_;simp only [vS,Int.toNat_natCast];refine Ev.lg (by omega) (Ev.iK hi (Ev.cT (decide_eq_true (by omega)) (Ev.lg (by omega) (Ev.iK (aW hjl) (Ev.iK (Oh h1) ?_)))));refine Ev.bind (aef hf _ _ _ _ x[j].args h3 h2 x[j].args.length 0 [] (by omega) (by simp;omega)) (Ev.lg (by omega) ?_);rw [ai4 (by omega)];refine(ih (j+1) _ (by omega) (by simp;omega)).to ?_;rw [List.drop_eq_getElem_cons hjl,List.append_assoc];rfl
theorem aeh (cs:List Tm) (hs:sizes cs<=1000) (hcl:cs.length<=1000) (hnm: ∀c∈cs,∀n∈flat 0 c,n.names.length<=1000000/\n.args.length<=1000000) (p q:Int) (r:Str) (ns:List Str): ∀(m i:Nat),i+m=cs.length->
 Ev (fun k=>vT k (cs.map (flat 0)) (bn 0 (cs.take i)) p q r ns (roots 0 (cs.take i)) (i:Int)) (bn 0 cs,p,q,r,ns,roots 0 cs):=by
 intro m
 induction m with
 |zero=>
  intro i hi;refine Ev.succ ?_;simp only [vT,List.length_map];refine Ev.cF (decide_eq_false (by omega)) (Ev.some' ?_);rw [List.take_of_length_le (by omega)]
 |succ m ih=>
  intro i hi;have hil:i<cs.length:=by omega
  have hc:=(cs[i]).size_pos;have hsz:sizes cs=sizes (cs.take i)+(cs[i].size+sizes (cs.drop (i+1))):=by
   conv=>lhs;rw [<-List.take_append_drop i cs,List.drop_eq_getElem_cons hil,dJ,sizes]
  refine Ev.succ ?_;simp only [vT,List.length_map];refine Ev.cT (decide_eq_true (by omega)) ?_;have hget:(cs.map (flat 0))[i]? =some (flat 0 cs[i]):=by rw [List.getElem?_map,aW hil];rfl
  have hfl:(bn 0 (cs.take i)).length=sizes (cs.take i):=dF 0 _;rw [hfl];have hx: ∀n∈flat 0 cs[i],n.names.length<=1000000/\n.args.length<=1000000/\ ∀a∈n.args,0<=a/\a<=1000000:=fun n hn=>by
   obtain⟨h1,h2⟩:=hnm cs[i] (List.getElem_mem hil) n hn;exact⟨h1,h2,fun a ha=>by have:=aee _ _ n hn a ha;omega⟩
  have h1:=aeg (om:=((sizes (cs.take i):Nat):Int)) ⟨by omega,by omega⟩ hget hx (by rw [bG];omega) (flat 0 cs[i]).length 0 (bn 0 (cs.take i)) (by omega) (by rw [dF,bG];omega);rw [List.drop_zero,aed,Nat.zero_add]at h1;have et:bn 0 (cs.take (i+1))=bn 0 (cs.take i)++flat (sizes (cs.take i)) cs[i]:=by
   rw [List.take_succ_eq_append_getElem hil,rV,zh,Nat.zero_add]
  have er:roots 0 (cs.take (i+1))=roots 0 (cs.take i)++[((sizes (cs.take i)+cs[i].size -1:Nat):Int)]:=by
   rw [List.take_succ_eq_append_getElem hil,zf,ZR,Nat.zero_add]
  refine Ev.bind h1 (Ev.lg (by rw [jh,List.length_take];omega) ?_)
  rw [<-et,ai4 (by omega),wrap64 (by rw [dF];omega) (by
   rw [et,List.length_append,dF,bG];omega)]
  have el:((bn 0 (cs.take (i+1))).length:Int) -1=((sizes (cs.take i)+cs[i].size -1:Nat):Int):=by rw [et,List.length_append,dF,bG];omega
  rw [el,<-er];exact ih (i+1) (by omega)
theorem alE (x:Nd) (cs:List Tm) (hs:sizes cs<=1000) (hcl:cs.length<=1000) (hx:x.names.length<=1000000) (hnm: ∀c∈cs,∀n∈flat 0 c,n.names.length<=1000000/\n.args.length<=1000000):Ev (fun k=>Md k x (cs.map (flat 0))) (flat 0 (.mk x cs)):=by
 unfold Md;refine Ev.iK (Oh hx) ?_;have:=aeh cs hs hcl hnm x.kind x.n x.text x.names cs.length 0 (by omega);rw [List.take_zero]at this;refine Ev.bind this (Ev.lg (by rw [dF];omega) (Ev.some' ?_));rw [lF];rfl
end Go.VL
end
section
namespace Go.VL
open Go.Proofs Go.RowKit
def lV (k:Nat) (e:List Nd):Option (List Nd):=(zk k e).bind fun taken=>(KU taken k k e 0 [] []).bind fun p=>some p.1
theorem Oi (k:Nat) (e:List Nd) {c:Ck} {r:List Nd} (h:lV k e=some r):aD Tryz.prog 164 [.ah (e.map Nd.cells) c] (.ah (r.map Nd.cells) .unk):=by
 refine aD.wk (args:=[gN e]) ?_ (.ah .nil);unfold lV at h;obtain⟨taken,ht,h1⟩:=ak h;obtain⟨⟨r',c'⟩,hr,h2⟩:=ak h1;cases h2;refine aD.bH (dA.mem (.cons (bE Nd.pu _) .nil)) (aM aAK (by simp) (aJ ?_)) (bE Nd.pu _);unfold apd;simp -implicitDefEqProofs only [go_sem];refine au (aiR ht) ?_;simp -implicitDefEqProofs only [go_sem,List.take,List.drop,List.append_eq];have ob:(AH.empty.new [.ah (taken.map aF) .unk,.int .i64 0]).obj AH.empty.next=some [.ah (taken.map aF) .unk,.int .i64 0]:=by
  simp [AH.new]
 refine bg.mono (bg.wk (ay3 (o:=AH.empty.next) (taken:=taken) (cl:= .unk) (F:=k) k e 0 [] [] r' c' hr _ ob (Nat.lt_succ_self _)) (.same (.same (.ah (.ah .nil))))) ?_;rintro _ H' ⟨rfl,_,_,_⟩;simp -implicitDefEqProofs only [go_sem];exact .pure _ (bE Nd.pu _)
end Go.VL
end
section
namespace Go.VL
open Tm
def Mg (n:Nd):Nd:={n with text:=[],names:=n.names.map fun _=>[]}
theorem RG {l m:List Str} (h:l.length=m.length):l.map (fun _=>([]:Str))=m.map (fun _=>[]):=by
 rw [List.map_const',List.map_const',h]
theorem ag9 {n m:Nd} (h:Mg n=Mg m):n.kind=m.kind/\n.n=m.n/\n.args=m.args/\n.names.length=m.names.length:=by
 unfold Mg at h;have h:=Nd.mk.inj h;refine⟨h.1,h.2.1,h.2.2.2.2,?_⟩;have:=congrArg List.length h.2.2.2.1
 rwa [List.length_map,List.length_map]at this
mutual
theorem alF (left:List Str): ∀(t:Tm) (b:Nat) (bd:List Scope) (c:Nat),(flat b (can left bd c t).1).map Mg=(flat b t).map Mg
 | .mk x cs,b,bd,c=>by
  have hn:Mg (nd (qA left bd c x) b (gU left bd x (qA left bd c x) cs.length 0 (gI left x c).2 cs).1)=Mg (nd x b cs):=by
   simp only [Mg,nd,Hr,qA];rw [RG (Jv left x c)]
  rw [Ju,lF,lF,List.map_append,List.map_append,aha left cs b,List.map_cons,List.map_cons,hn]
theorem aha (left:List Str): ∀(cs:List Tm) (b:Nat) (bd:List Scope) (x y:Nd) (a j c:Nat),(bn b (gU left bd x y a j c cs).1).map Mg=(bn b cs).map Mg
 |[],b,bd,x,y,a,j,c=>by rw [gU]
 |t::ts,b,bd,x,y,a,j,c=>by rw [nQ,iZ,iZ,List.map_append,List.map_append,alF left t b,wQ,aha left ts]
end
theorem RH (pl:Bool) (x:Nd) (b b':Nat) (cs:List Tm):bV pl (nd x b cs)=bV pl (nd x b' cs):=by
 unfold bV qo pV qp nd;simp only [jh]
theorem Xa: ∀(l acc:List Str),vv acc l=false->l.Nodup/\ ∀s∈l,s∉acc
 |[],acc,h=>⟨List.Pairwise.nil,fun s hs=>by cases hs⟩
 |s::l,acc,h=>by
  rw [vv,Bool.or_eq_false_iff,decide_eq_false_iff_not]at h;obtain⟨h1,h2⟩:=h;obtain⟨h3,h4⟩:=Xa l _ h2;refine⟨List.nodup_cons.2 ⟨fun hs=>h4 s hs (by simp),h3⟩,fun t ht=> ?_⟩;rcases List.mem_cons.1 ht with rfl|ht
  · exact h1
  · exact fun hm=>h4 t ht (by simp [hm])
theorem ai6 {n:Nd} (h:bV true n=0):n.names.Nodup:=by
 have:vv [] n.names=false:=by
  unfold bV at h
  split at h;·cases h
  split at h;·cases h
  split at h;·cases h
  split at h;·cases h
  split at h
  · rename_i h1;exact absurd h h1
  · split at h
    · cases h
    · rename_i h2;simpa using h2
 exact(Xa _ _ this).1
theorem alG {taken:List Str} {F k:Nat} {e:List Nd} {c c1 c2:Int} {bound called:List Str} {root:Nd} {nm:Bool} {t:Str} {nn:List Str} {ps:List (List Nd)} {r:List Nd} (h1:yM e=some root) (h2:zL F root=some nm) (h3:(cond nm (wO F bound called root.text) (some root.text))=some t)
 (h4:AV taken F (root.kind==16||root.kind==17) root.names c=some (nn,c1)) (h5:root.names.length<=1000000/\root.args.length<=1000000/\bound.length<=1000000/\called.length<=1000000)
 (h6:Jt (KU taken F k) F e {root with text:=t} nn bound called root.args.length 0 c1=some (ps,c2)) (h7:Md F {root with text:=t,names:=nn} ps=some r):KU taken F (k+1) e c bound called=some (r,c2):=by
 rw [KU];simp only [h1,h2,h3,h4,Option.bind_some];rw [if_pos h5,h6,Option.bind_some,h7,Option.bind_some]
theorem alH {left:List Str} {t:Tm} {bd:List Scope} {c:Nat} {N:Nat} (h: ∀n∈flat 0 t,n.names.length<=N/\n.args.length<=N): ∀n∈flat 0 (can left bd c t).1,n.names.length<=N/\n.args.length<=N:=by
 intro n hn;obtain⟨i,hi⟩:=List.mem_iff_getElem?.1 hn
 have:=congrArg (·[i]?) (alF left t 0 bd c)
 simp only [List.getElem?_map,hi,Option.map_some]at this;cases hm:(flat 0 t)[i]? with
 |none=>rw [hm]at this;cases this
 |some m=>
  rw [hm]at this;obtain⟨_,_,h3,h4⟩:=ag9 (Option.some.inj this);have:=h m (List.mem_of_getElem? hm);rw [h3,h4];exact this
theorem aap {e:List Nd} (hF:Bv e) {b:Nat} {t:Tm} (hS:Seg e b t): ∀n∈flat 0 t,n.names.length<=1000/\n.args.length<=1000/\ ∀a∈n.args,-1000000<=a/\a<=1000000:=by
 intro n hn;obtain⟨i,hi⟩:=List.mem_iff_getElem?.1 hn;have hlt:=hS.lt;have:=hF.len;exact ato hS (fun i n hn=>by have:=hF.few i n hn;omega) (by omega) i n hi
theorem Xb {left:List Str} {N:Nat}: ∀(cs:List Tm) (bd:List Scope) (x y:Nd) (a j c:Nat),(∀c0∈cs,∀n∈flat 0 c0,n.names.length<=N/\n.args.length<=N)-> ∀c0∈(gU left bd x y a j c cs).1,∀n∈flat 0 c0,n.names.length<=N/\n.args.length<=N
 |[],bd,x,y,a,j,c,h=>by rw [gU];exact h
 |t::ts,bd,x,y,a,j,c,h=>by
  rw [nQ];intro c0 hc0;rcases List.mem_cons.1 hc0 with rfl|hc0
  · exact alH (h t List.mem_cons_self)
  · exact Xb ts bd x y a (j+1) _ (fun c0 hc=>h c0 (List.mem_cons_of_mem _ hc)) c0 hc0
theorem atp {a b c d:List Str} (h1:a.length=c.length) (h2:b.length=d.length):(a++b).length=(c++d).length:=by rw [List.length_append,List.length_append,h1,h2]
theorem aei (n:Nd) (m:Nd) (h1:m.kind=n.kind) (h2:m.n=n.n) (h3:m.names=n.names) (h4:m.args.length=n.args.length) (j:Int):vk m j=vk n j:=by
 unfold vk;rw [h1,h2,h3,h4]
section
variable {left:List Str} (hl:left.length<=1000) {e:List Nd} (hF:Bv e) (htx: ∀(i:Nat) n,e[i]? =some n->n.text.length<=1000000)
include hl hF htx
mutual
theorem aej: ∀(t:Tm) (b:Nat) (bound called:List Str) (c:Nat),Seg e b t->called.length=bound.length->bound.length+34*(b+t.size -1)<=10000->(can left (List.zipWith Scope.mk bound called) c t).2+left.length<=9000->
 ∃K,∀F k,K<=F->K<=k->KU left F k (flat 0 t) (c:Int) bound called=some (flat 0 (can left (List.zipWith Scope.mk bound called) c t).1,((can left (List.zipWith Scope.mk bound called) c t).2:Int))
 | .mk x cs,b,bound,called,c,hS,hlen,hb,hc=>by
  have hn:=hS.node;have hlt:=hS.lt;have hel:=hF.len;have hsz:(Tm.mk x cs).size=sizes cs+1:=by simp only [size]
  have Ea:=hF.few _ _ hn;have hnx:x.names.length<=34:=Ea.2;have hcl:cs.length<=34:=by have:=Ea.1;unfold nd at this;rwa [jh]at this
  have hspec:bV true (nd x 0 cs)=0:=by rw [RH true x 0 b cs];exact hF.ok _ _ hn
  have hroot:=BU x cs (by omega);rw [Ju]at hc⊢;have hle:=BS left cs (List.zipWith Scope.mk bound called) x (qA left (List.zipWith Scope.mk bound called) c x) cs.length 0 (gI left x c).2;obtain⟨K1,k1⟩:=WI hspec (by have:=htx _ _ hn;exact this);have htext:Ev (fun k=>cond (kR (nd x 0 cs)) (wO k bound called (nd x 0 cs).text) (some (nd x 0 cs).text)) (Ei (List.zipWith Scope.mk bound called) x):=by
   unfold Ei;cases h:kR x with
   |true=>
    refine Ev.cT h ?_;rw [if_pos rfl];exact afR bound called hlen (by omega) _
   |false=>
    refine Ev.cF h ?_;rw [if_neg (by simp)];exact Ev.some
  obtain⟨K2,k2⟩:=htext;obtain⟨K3,k3⟩:=adY left (by omega);have azh: ∀F,K3<=F->AV left F ((nd x 0 cs).kind==16||(nd x 0 cs).kind==17) (nd x 0 cs).names (c:Int)=some ((gI left x c).1,((gI left x c).2:Int)):=by
   intro F hFF;have hk:(nd x 0 cs).kind=x.kind:=rfl;have hnm:(nd x 0 cs).names=x.names:=rfl;have hc':(gI left x c).2+left.length<=9000:=by simp only at hc;omega
   rw [hk,hnm];unfold gI at hc'⊢;by_cases h:x.kind=16\/x.kind=17
   · rw [if_pos h,show(x.kind==16||x.kind==17)=true by rcases h with h|h<;>rw [h]<;>rfl];exact aah _ _
   · rw [if_neg h]at hc';rw [if_neg h,show(x.kind==16||x.kind==17)=false by simp only [Bool.or_eq_false_iff,beq_eq_false_iff_ne];exact⟨fun q=>h (.inl q),fun q=>h (.inr q)⟩];exact aag (k3 F hFF) _ _ hc'
  obtain⟨K4,k4⟩:=Xc cs x {nd x 0 cs with text:=Ei (List.zipWith Scope.mk bound called) x} (qA left (List.zipWith Scope.mk bound called) c x) [] b bound called (gI left x c).2 hS hlen (by simp only [List.nil_append];rw [hsz]at hb;omega) (by simpa using hc) rfl rfl rfl (jh 0 cs) (Jv left x c);simp only [List.nil_append,List.length_nil]at k4;have hsub: ∀c0∈(gU left (List.zipWith Scope.mk bound called) x (qA left (List.zipWith Scope.mk bound called) c x) cs.length 0 (gI left x c).2 cs).1,∀n∈flat 0 c0,n.names.length<=1000000/\n.args.length<=1000000:=by
   refine Xb cs _ _ _ _ _ _ fun c0 hc0 n hn0=> ?_;obtain⟨l1,l2,hcs⟩:=List.append_of_mem hc0;have hk:Seg e (b+sizes l1) c0:=Seg.kid (x:=x) (m:=l2) (by rw [<-hcs];exact hS);have:=aap hF hk n hn0;omega
  obtain⟨K5,k5⟩:=alE {nd x 0 cs with text:=Ei (List.zipWith Scope.mk bound called) x,names:=(gI left x c).1} (gU left (List.zipWith Scope.mk bound called) x (qA left (List.zipWith Scope.mk bound called) c x) cs.length 0 (gI left x c).2 cs).1 (by rw [Hq];omega) (by rw [ad2];omega) (by show(gI left x c).1.length<=_;rw [Jv];omega) hsub;refine⟨K1+K2+K3+K4+K5+1,fun F k h1 h2=> ?_⟩;obtain⟨k,rfl⟩: ∃j,k=j+1:=⟨k -1,by omega⟩;have hal:(nd x 0 cs).args.length=cs.length:=jh 0 cs;refine alG hroot (k1 F (by omega)) (k2 F (by omega)) (azh F (by omega)) ⟨by show x.names.length<=_;omega,by rw [hal];omega,by omega,by omega⟩ (by rw [hal];exact k4 F k (by omega) (by omega)) (k5 F (by omega))
theorem Xc: ∀(cs:List Tm) (x old y:Nd) (l:List Tm) (b:Nat) (bound called:List Str) (c:Nat),Seg e b (.mk x (l++cs))->called.length=bound.length->bound.length+34*(b+sizes (l++cs))<=10000->
 (gU left (List.zipWith Scope.mk bound called) x y (l++cs).length l.length c cs).2+left.length<=9000->old.kind=x.kind->old.n=x.n->old.names=x.names->old.args.length=(l++cs).length->y.names.length=x.names.length->
 ∃K,∀F k,K<=F->K<=k->Jt (KU left F k) F (flat 0 (.mk x (l++cs))) old y.names bound called cs.length l.length (c:Int)=
  some ((gU left (List.zipWith Scope.mk bound called) x y (l++cs).length l.length c cs).1.map (flat 0),((gU left (List.zipWith Scope.mk bound called) x y (l++cs).length l.length c cs).2:Int))
 |[],x,old,y,l,b,bound,called,c,hS,hlen,hb,hc,m1,m2,m3,m4,y3=>⟨0,fun F k _ _=>by rw [gU];rfl⟩
 |t::cs,x,old,y,l,b,bound,called,c,hS,hlen,hb,hc,m1,m2,m3,m4,y3=>by
  have hn:=hS.node;have hlt:=hS.lt;have hel:=hF.len;have Ea:=hF.few _ _ hn;have h23:=ag7 hF hn;have hcp:=t.size_pos;have hnx:x.names.length<=34:=Ea.2;have hsz:sizes (l++t::cs)=sizes l+(t.size+sizes cs):=by rw [dJ,sizes]
  have aLV:(Tm.mk x (l++t::cs)).size=sizes (l++t::cs)+1:=by simp only [size]
  have hspec:bV true (nd x 0 (l++t::cs))=0:=by rw [RH true x 0 b _];exact hF.ok _ _ hn
  have aoe:(nd x 0 (l++t::cs)).args.length=(l++t::cs).length:=jh 0 _;have hcl:(l++t::cs).length<=34:=by have:=Ea.1;unfold nd at this;rwa [jh]at this
  have e1:l++t::cs=(l++[t])++cs:=by simp
  have e2:l.length+1=(l++[t]).length:=by simp
  have hbs:vk old (l.length:Int)=some (jG (qJ x.kind x.n (l++t::cs).length l.length) x.names):=by
   rw [aei (nd x 0 (l++t::cs)) old m1 m2 m3 (by rw [m4,aoe]),Og hspec (by rw [aoe];omega),alv (n:=nd x 0 (l++t::cs)) h23,aoe];rfl
  have hnd:x.names.Nodup:=ai6 (n:=nd x 0 (l++t::cs)) hspec;obtain⟨K1,k1⟩:=alD (l:=x.names) (nn:=y.names) (by omega) hnd y3 (qJ x.kind x.n (l++t::cs).length l.length);obtain⟨K2,k2⟩:=Aa (x:=x) (cs:=l++t::cs) (l:=l) (m:=cs) (c:=t) rfl (by omega) (fun i n hi=>aap hF hS n (List.mem_of_getElem? hi));have R6:(jG (qJ x.kind x.n (l++t::cs).length l.length) y.names).length=(jG (qJ x.kind x.n (l++t::cs).length l.length) x.names).length:=aai _ y3;have hpl:=adZ (qJ x.kind x.n (l++t::cs).length l.length) x.names;have hbd:List.zipWith Scope.mk (bound++jG (qJ x.kind x.n (l++t::cs).length l.length) x.names) (called++jG (qJ x.kind x.n (l++t::cs).length l.length) y.names)=List.zipWith Scope.mk bound called++vV x y (l++t::cs).length l.length:=by
   rw [List.zipWith_append hlen.symm];rfl
  rw [nQ]at hc⊢;have aLW:=BS left cs (List.zipWith Scope.mk bound called) x y (l++t::cs).length (l.length+1) (can left (List.zipWith Scope.mk bound called++vV x y (l++t::cs).length l.length) c t).2;obtain⟨K3,k3⟩:=aej t (b+sizes l) (bound++jG (qJ x.kind x.n (l++t::cs).length l.length) x.names) (called++jG (qJ x.kind x.n (l++t::cs).length l.length) y.names) c hS.kid (atp hlen R6) (by rw [List.length_append];omega) (by rw [hbd];simp only at hc;omega);rw [hbd]at k3;obtain⟨K4,k4⟩:=Xc cs x old y (l++[t]) b bound called (can left (List.zipWith Scope.mk bound called++vV x y (l++t::cs).length l.length) c t).2 (by rw [<-e1];exact hS) hlen (by rw [<-e1];exact hb) (by rw [<-e1,<-e2];exact hc) m1 m2 m3 (by rw [<-e1];exact m4) y3;rw [<-e1,<-e2]at k4;refine⟨K1+K2+K3+K4,fun F k g1 g2=> ?_⟩;rw [List.length_cons,Jt,hbs,Option.bind_some,m3,(show Qi F x.names y.names _=_ from k1 F (by omega)),Option.bind_some,(show tQ F _ _=_ from k2 F (by omega)),Option.bind_some,if_pos ⟨by omega,R6⟩,k3 F k (by omega) (by omega),Option.bind_some];simp only;rw [k4 F k (by omega) (by omega),Option.bind_some];rfl
end
end
end Go.VL
end
section
namespace Go.VL
open Go.Proofs Go.RowKit
def U6 (k:Nat):List Nd->List Nd->Option Bool
 |[],_=>some true
 |_::_,[]=>none
 |a::l,b::m=>(EL k a b).bind fun r=>cond r (U6 k l m) (some false)
def Mh (k:Nat) (a b:List Nd):Option Bool:=if a.length<=1000000000 then if a.length=b.length then U6 k a b else some false else none
theorem alI {l:List Nd} {i:Nat} (h:i<l.length):(l.map Nd.cells)[i]? =some (l[i]).cells:=by rw [List.getElem?_map,List.getElem?_eq_getElem h];rfl
theorem aof (k:Nat) (a b:List Nd) (hab:a.length=b.length) (hbig:a.length<=1000000000) (Q:Post): ∀(m i:Nat) (r:Bool) (σ:Nat->PV) (H:AH),i+m=a.length->U6 k (a.drop i) (b.drop i)=some r->
 σ 1=gN b->σ 2= .fn (.func 255) [] []->σ 15=gN a->σ 16= .int .i64 a.length->σ 17= .int .i64 i->
 (∀σ' H',(r=true->Q (.exit 0) σ' H')/\(r=false->σ' 6= .bool false->Q .ret σ' H'))->W Tryz.prog (.loop MQ) Q σ H:=by
 intro m
 induction m with
 |zero=>
  intro i r σ H hi h s1 s2 s15 s16 yU q0;rw [List.drop_of_length_le (by omega),U6]at h;cases h;have hge:decide ((i:Int)<(a.length:Int))=false:=decide_eq_false (by omega);refine bA (fun K hK=>aJ ?_);unfold MQ;simp -implicitDefEqProofs only [go_sem,s16,yU,hge];exact(q0 _ H).1 rfl
 |succ m ih=>
  intro i r σ H hi h s1 s2 s15 s16 yU q0;have hia:i<a.length:=by omega
  have hib:i<b.length:=by omega
  rw [List.drop_eq_getElem_cons hia,List.drop_eq_getElem_cons hib,U6]at h;obtain⟨t,ht,h⟩:=ak h;have hlt:decide ((i:Int)<(a.length:Int))=true:=decide_eq_true (by omega);have ga:=alI hia;have gb:=alI hib;have la:(a[i]).cells.length=5:=rfl;have lb:(b[i]).cells.length=5:=rfl;refine bA (fun K hK=>aJ ?_);unfold MQ;simp -implicitDefEqProofs only [go_sem,s1,s2,s15,s16,yU,hlt,ga,gb,dO,Nat.le_refl];refine au (aiq ht) ?_;have hw:IntKind.wrap .i64 ((i:Int)+1)=((i+1:Nat):Int):=by rw [IntKind.wrap_i64];omega
  cases t with
  |false=>
   cases h;simp -implicitDefEqProofs only [go_sem];exact(q0 _ _).2 rfl aH
  |true=>
   simp -implicitDefEqProofs only [go_sem,yU,hw];refine hK _ _ (ih (i+1) r _ _ (by omega) h aH aH aH aH aH q0)
theorem aog {k:Nat} {a b:List Nd} {r:Bool} {ca cb:Ck} (h:Mh k a b=some r):aD Tryz.prog 215 [abj a ca,abj b cb] (.bool r):=by
 have aGI:aD Tryz.prog 254 [gN a,gN b,.fn (.func 255) [] []] (.bool r):=by
  refine aD.bH (dA.mem (.cons (bE Nd.pu _) (.cons (bE Nd.pu _) (.cons (.fn _ _ _ (dA.mem .nil) (dA.mem .nil)) .nil)))) (aM aBv (by simp) (aJ ?_)) (.bool _);unfold ap0;unfold Mh at h;obtain⟨hbig,h⟩:=aZ h;by_cases hl:a.length=b.length
  · rw [if_pos hl]at h;have hne:((a.length:Int) !=(b.length:Int))=false:=by simp [hl]
    simp -implicitDefEqProofs only [go_sem,hne];refine aof k a b hl hbig _ a.length 0 r _ AH.empty (Nat.zero_add _) (by rw [List.drop_zero,List.drop_zero];exact h) aH aH aH aH aH fun σ' H'=>⟨fun hr=> ?_,fun hr h6=> ?_⟩
    · subst hr;simp -implicitDefEqProofs only [go_sem];exact .pure _ (.bool _)
    · subst hr;simp -implicitDefEqProofs only [go_sem,h6];exact .pure _ (.bool _)
  · rw [if_neg hl]at h;cases h;have hne:((a.length:Int) !=(b.length:Int))=true:=by simp;omega
    simp -implicitDefEqProofs only [go_sem,hne];exact .pure _ (.bool _)
 refine aD.wk (args:=[gN a,gN b]) ?_ (.ah (.ah .nil));refine aD.bH (dA.mem (.cons (bE Nd.pu _) (.cons (bE Nd.pu _) .nil))) (aM aA7 (by simp) (aJ ?_)) (.bool _);unfold apC;simp -implicitDefEqProofs only [go_sem];refine au aGI ?_;simp -implicitDefEqProofs only [go_sem];exact .pure _ (.bool _)
end Go.VL
end
section
namespace Go.VL
open Tm
theorem Jw (a b:List Str) (hl:a.length<=1099511627776):Ev (fun k=>mK k a b) (decide (a=b)):=by
 unfold mK;by_cases hab:a.length=b.length
 · refine Ev.cF (by simp [hab]) ?_;have key:Ev (fun k=>fG k a b (a.length:Int) ((0:Nat):Int)) (if a.drop 0=b.drop 0 then .inl ()else .inr false):=by
    refine gF (len:=a.length) (p:=fun i=>Ev (fun k=>fG k a b (a.length:Int) (i:Int)) (if a.drop i=b.drop i then .inl ()else .inr false)) ?_ fun i hi ih=> ?_
    · refine Ev.succ ?_;simp only [fG];refine Ev.cF (fT _) (Ev.some' ?_);simp [hab]
    · have hi':i<b.length:=hab▸hi;refine Ev.succ ?_;simp only [fG,Int.toNat_natCast,aW hi,aW hi',Option.bind_some,nn,if_true,gP hi,cond_true,dw hi hl];by_cases h:a[i]=b[i]
      · refine Ev.cT (by rw [beq_iff_eq];exact h) (ih.to ?_);have:List.drop i a=a[i]::List.drop (i+1) a:=List.drop_eq_getElem_cons hi;have:List.drop i b=b[i]::List.drop (i+1) b:=List.drop_eq_getElem_cons hi';simp only [*,List.cons.injEq,true_and]
      · refine Ev.cF (by rw [beq_eq_false_iff_ne];exact h) (Ev.some' ?_);have e1:List.drop i a=a[i]::List.drop (i+1) a:=List.drop_eq_getElem_cons hi;have e2:List.drop i b=b[i]::List.drop (i+1) b:=List.drop_eq_getElem_cons hi';rw [if_neg];intro e;rw [e1,e2,List.cons.injEq]at e;exact h e.1
   refine Ev.bind key ?_;by_cases h:a=b
   · subst h;simp only [if_true,dZ,decide_true];exact Ev.some
   · simp only [List.drop_zero,h,if_false,eT,decide_false];exact Ev.some
 · refine Ev.cT (by simp;omega) (Ev.some' ?_);exact(decide_eq_false fun e=>hab (by rw [e])).symm
theorem Qp (a b:List Int) (hl:a.length<=1099511627776):Ev (fun k=>tq k a b) (decide (a=b)):=by
 unfold tq;by_cases hab:a.length=b.length
 · refine Ev.cF (by simp [hab]) ?_;have key:Ev (fun k=>jy k a b (a.length:Int) ((0:Nat):Int)) (if a.drop 0=b.drop 0 then .inl ()else .inr false):=by
    refine gF (len:=a.length) (p:=fun i=>Ev (fun k=>jy k a b (a.length:Int) (i:Int)) (if a.drop i=b.drop i then .inl ()else .inr false)) ?_ fun i hi ih=> ?_
    · refine Ev.succ ?_;simp only [jy];refine Ev.cF (fT _) (Ev.some' ?_);simp [hab]
    · have hi':i<b.length:=hab▸hi;refine Ev.succ ?_;simp only [jy,Int.toNat_natCast,aW hi,aW hi',Option.bind_some,nn,if_true,gP hi,cond_true,dw hi hl];have e1:List.drop i a=a[i]::List.drop (i+1) a:=List.drop_eq_getElem_cons hi;have e2:List.drop i b=b[i]::List.drop (i+1) b:=List.drop_eq_getElem_cons hi';by_cases h:a[i]=b[i]
      · refine Ev.cF (by rw [bne_eq_false_iff_eq];exact h) (ih.to ?_);rw [e1,e2];simp only [h,List.cons.injEq,true_and]
      · refine Ev.cT (by rw [bne_iff_ne];exact h) (Ev.some' ?_);rw [if_neg];intro e;rw [e1,e2,List.cons.injEq]at e;exact h e.1
   refine Ev.bind key ?_;by_cases h:a=b
   · subst h;simp only [if_true,dZ,decide_true];exact Ev.some
   · simp only [List.drop_zero,h,if_false,eT,decide_false];exact Ev.some
 · refine Ev.cT (by simp;omega) (Ev.some' ?_);exact(decide_eq_false fun e=>hab (by rw [e])).symm
theorem afS (x y:Nd) (h1:x.names.length<=1000000) (h2:x.args.length<=1000000):Ev (fun k=>EL k x y) (decide (x=y)):=by
 unfold EL;obtain⟨k1,n1,t1,m1,a1⟩:=x;obtain⟨k2,n2,t2,m2,a2⟩:=y;simp only at h1 h2;simp only [Nd.mk.injEq];by_cases e1:k1=k2
 · refine Ev.cT (by rw [beq_iff_eq];exact e1) ?_;by_cases e2:n1=n2
   · refine Ev.cT (by rw [beq_iff_eq];exact e2) ?_;by_cases e3:t1=t2
     · refine Ev.cT (by rw [beq_iff_eq];exact e3) (Ev.bind (Jw m1 m2 (by omega)) ?_);by_cases e4:m1=m2
       · refine Ev.cT (decide_eq_true e4) (Ev.bind (Qp a1 a2 (by omega)) (Ev.some' ?_));simp [e1,e2,e3,e4]
       · exact Ev.cF (decide_eq_false e4) (Ev.some' (by simp [e4]))
     · exact Ev.cF (by rw [beq_eq_false_iff_ne];exact e3) (Ev.some' (by simp [e3]))
   · exact Ev.cF (by rw [beq_eq_false_iff_ne];exact e2) (Ev.some' (by simp [e2]))
 · exact Ev.cF (by rw [beq_eq_false_iff_ne];exact e1) (Ev.some' (by simp [e1]))
theorem ahb: ∀(a b:List Nd),a.length=b.length->(∀n∈a,n.names.length<=1000000/\n.args.length<=1000000)->Ev (fun k=>U6 k a b) (decide (a=b))
 |[],[],_,_=>Ev.all fun k=>rfl
 |[],_::_,h,_=>by simp at h
 |_::_,[],h,_=>by simp at h
 |x::a,y::b,h,hn=>by
  have hx:=hn x List.mem_cons_self;unfold U6;refine Ev.bind (afS x y hx.1 hx.2) ?_;by_cases e:x=y
  · refine Ev.cT (decide_eq_true e) ((ahb a b (by simpa using h) fun n hm=>hn n (List.mem_cons_of_mem _ hm)).to ?_);simp [e]
  · refine Ev.cF (decide_eq_false e) (Ev.some' ?_);simp [e]
theorem alJ (a b:List Nd) (hl:a.length<=1000000) (hn: ∀n∈a,n.names.length<=1000000/\n.args.length<=1000000):Ev (fun k=>Mh k a b) (decide (a=b)):=by
 unfold Mh;refine Ev.lg (by omega) ?_;by_cases h:a.length=b.length
 · simp only [if_pos h];exact ahb a b h hn
 · simp only [if_neg h];exact Ev.some' (decide_eq_false fun e=>h (by rw [e])).symm
theorem Y0 {e:List Nd} (hF:Bv e) (hL:oz e) {t:Tm} (he:e=flat 0 t) {left:List Str} (hfree:Ev (fun k=>zk k e) left) (hl:left.length<=1000):Ev (fun k=>lV k e) (flat 0 (can left [] 0 t).1):=by
 have hlen:=hF.len;have hs:=t.size_pos;have hsz:e.length=t.size:=by rw [he,bG]
 obtain⟨K1,h1⟩:=hfree;obtain⟨K2,h2⟩:=aej hl hF (fun i n hn=>by have:=(hL.nd i n hn).1;omega) t 0 [] [] 0 (by rw [he];exact Seg.whole t) rfl (by simp only [List.length_nil];omega) (Qm hF he left hl);refine⟨K1+K2,fun k hk=> ?_⟩;show lV k e=_;unfold lV;rw [(show zk k e=_ from h1 k (by omega)),Option.bind_some];have:=h2 k k (by omega) (by omega);rw [<-he]at this;rw [show((0:Int))=((0:Nat):Int)from rfl,this];rfl
def GoodS (left:List Str) (N:Nat) (bd:List Scope):Prop:= ∀s∈bd,∃n,s.new=bN n/\n<=N/\bN n∉left
theorem RI: ∀(bd:List Scope) (t:Str),ng bd t=t\/ ∃s∈bd,s.old=t/\ng bd t=s.new
 |[],t=> .inl (by rw [ng])
 |s::bd,t=>by
  rw [ng];have ih:=RI bd t;by_cases h:(bd.any fun s=>decide (s.old=t))=true
  · rw [if_pos h];rcases ih with h1|⟨s1,h1,h2,h3⟩
    · exact .inl h1
    · exact .inr ⟨s1,List.mem_cons_of_mem _ h1,h2,h3⟩
  · rw [if_neg h];by_cases h2:s.old=t
    · rw [if_pos h2];exact .inr ⟨s,List.mem_cons_self,h2,rfl⟩
    · rw [if_neg h2];rcases ih with h1|⟨s1,h1,h2,h3⟩
      · exact .inl h1
      · exact .inr ⟨s1,List.mem_cons_of_mem _ h1,h2,h3⟩
theorem aek {left:List Str} {x:Nd} {c:Nat} {s:Str} (h:s∈(gI left x c).1):(s∈x.names/\(x.kind=16\/x.kind=17))\/ ∃n,s=bN n/\c<n/\n<=(gI left x c).2/\bN n∉left:=by
 unfold gI at h⊢;by_cases hk:x.kind=16\/x.kind=17
 · rw [if_pos hk]at h;exact .inl ⟨h,hk⟩
 · rw [if_neg hk]at h⊢;obtain⟨h1,n,h2,h3,h4⟩:=Qf left _ _ _ h;exact .inr ⟨n,h2,h3,h4,h2▸h1⟩
theorem atq {left:List Str} {bd:List Scope} {x:Nd} {a j c:Nat} {s:Scope} (h:s∈vV x (qA left bd c x) a j):s.old∈x.names/\ ∃n,s.new=bN n/\c<n/\n<=(gI left x c).2/\bN n∉left:=by
 unfold vV at h;obtain⟨i,hi⟩:=List.mem_iff_getElem?.1 h;rw [List.getElem?_zipWith]at hi;cases h1:(jG (qJ x.kind x.n a j) x.names)[i]? with
 |none=>rw [h1]at hi;simp at hi
 |some o=>
  cases h2:(jG (qJ x.kind x.n a j) (qA left bd c x).names)[i]? with
  |none=>rw [h1,h2]at hi;simp at hi
  |some w=>
   rw [h1,h2]at hi;simp only [Option.some.injEq]at hi;subst hi;refine⟨aaj (List.mem_of_getElem? h1),?_⟩;rcases aek (aaj (List.mem_of_getElem? h2))with⟨_,hk⟩|h3
   · rw [atg hk]at h2;simp [jG]at h2
   · exact h3
theorem aoh {left:List Str} {bd:List Scope} {x:Nd} {a j c N:Nat} (hN:(gI left x c).2<=N) (hb:GoodS left N bd):GoodS left N (bd++vV x (qA left bd c x) a j):=by
 intro s hs;rcases List.mem_append.1 hs with h|h
 · exact hb s h
 · obtain⟨_,n,h1,_,h2,h3⟩:=atq h;exact⟨n,h1,by omega,h3⟩
def TxO (left:List Str) (N:Nat) (o s:Str):Prop:=s=o\/ ∃n,s=bN n/\n<=N/\bN n∉left
theorem ahc {left:List Str} {N:Nat} {bd:List Scope} (hb:GoodS left N bd) (x:Nd):TxO left N x.text (Ei bd x)/\(Ei bd x≠x.text->kR x=true):=by
 unfold Ei;cases h:kR x with
 |false=>rw [if_neg (by simp)];exact⟨.inl rfl,fun h=>absurd rfl h⟩
 |true=>
  rw [if_pos rfl];refine⟨?_,fun _=>rfl⟩;rcases RI bd x.text with h1|⟨s,h1,h2,h3⟩
  · exact .inl h1
  · rw [h3];obtain⟨n,h4,h5,h6⟩:=hb s h1;exact .inr ⟨n,h4,h5,h6⟩
structure Out (left:List Str) (N:Nat) (n m:Nd):Prop where
 sk:Mg m=Mg n
 tx:TxO left N n.text m.text
 nb:m.text≠n.text->kR n=true
 fx:n.kind=16\/n.kind=17->m.names=n.names
 nm: ¬(n.kind=16\/n.kind=17)->m.names.Nodup/\ ∀s∈m.names,∃k,s=bN k/\k<=N/\bN k∉left
theorem azi {left:List Str} {N:Nat} {bd:List Scope} {c:Nat} (hb:GoodS left N bd) (x:Nd) (b:Nat) (cs cs':List Tm) (hr:roots b cs'=roots b cs) (hN:(gI left x c).2<=N):Out left N (nd x b cs) (nd (qA left bd c x) b cs'):=by
 refine⟨?_,(ahc hb x).1,(ahc hb x).2,fun h=> ?_,fun h=>⟨?_,fun s hs=> ?_⟩⟩
 · simp only [Mg,nd,hr,qA];rw [RG (Jv left x c)]
 · show(gI left x c).1=x.names
   unfold gI;rw [if_pos (show x.kind=16\/x.kind=17 from h)]
 · show(gI left x c).1.Nodup
   unfold gI;rw [if_neg (show ¬(x.kind=16\/x.kind=17)from h)];exact RD left _ _
 · rcases aek hs with⟨_,hk⟩|⟨n,h1,_,h2,h3⟩
   · exact absurd hk h
   · exact⟨n,h1,by omega,h3⟩
mutual
theorem ahd {left:List Str} {N:Nat}: ∀(t:Tm) (b:Nat) (bd:List Scope) (c:Nat),GoodS left N bd->(can left bd c t).2<=N-> ∀(i:Nat) (n:Nd),(flat b t)[i]? =some n-> ∃m,(flat b (can left bd c t).1)[i]? =some m/\Out left N n m
 | .mk x cs,b,bd,c,hb,hN,i,n,hn=>by
  rw [Ju]at hN⊢;have hle:=BS left cs bd x (qA left bd c x) cs.length 0 (gI left x c).2;rw [lF]at hn⊢;have hfl:(bn b (gU left bd x (qA left bd c x) cs.length 0 (gI left x c).2 cs).1).length=(bn b cs).length:=by rw [dF,dF,Hq]
  by_cases hi:i<(bn b cs).length
  · rw [List.getElem?_append_left hi]at hn;rw [List.getElem?_append_left (by omega)];exact ael cs b bd x (qA left bd c x) cs.length 0 (gI left x c).2 (fun j=>aoh (by simp only at hN;omega) hb) hN i n hn
  · rw [List.getElem?_append_right (by omega)]at hn;rw [List.getElem?_append_right (by omega),hfl];have hi0:i -(bn b cs).length=0:=by
     by_cases h:i -(bn b cs).length=0
     · exact h
     · rw [List.getElem?_eq_none (by simp;omega)]at hn;cases hn
    rw [hi0]at hn⊢;cases hn;exact⟨_,rfl,azi hb x b cs _ (Hr left cs b _ _ _ _ _ _) (by simp only at hN;omega)⟩
theorem ael {left:List Str} {N:Nat}: ∀(cs:List Tm) (b:Nat) (bd:List Scope) (x y:Nd) (a j c:Nat),(∀j,GoodS left N (bd++vV x y a j))->(gU left bd x y a j c cs).2<=N-> ∀(i:Nat) (n:Nd),(bn b cs)[i]? =some n-> ∃m,(bn b (gU left bd x y a j c cs).1)[i]? =some m/\Out left N n m
 |[],b,bd,x,y,a,j,c,hb,hN,i,n,hn=>by simp [bn]at hn
 |t::ts,b,bd,x,y,a,j,c,hb,hN,i,n,hn=>by
  rw [nQ]at hN⊢;have hle:=BS left ts bd x y a (j+1) (can left (bd++vV x y a j) c t).2;rw [iZ]at hn⊢;have hfl:(flat b (can left (bd++vV x y a j) c t).1).length=(flat b t).length:=by rw [bG,bG,wQ]
  by_cases hi:i<(flat b t).length
  · rw [List.getElem?_append_left hi]at hn;rw [List.getElem?_append_left (by omega)];exact ahd t b _ c (hb j) (by simp only at hN;omega) i n hn
  · rw [List.getElem?_append_right (by omega)]at hn;rw [List.getElem?_append_right (by omega),hfl,wQ];exact ael ts (b+t.size) bd x y a (j+1) _ hb hN _ n hn
end
end Go.VL
end
section
namespace Go.VL
open Go.Proofs Go.RowKit
theorem aem (k:Nat) (e:List Nd) {c:Ck} {r:List Nd} (h:xA k e=some r):aD Tryz.prog 216 [.ah (e.map Nd.cells) c] (.ah (r.map Nd.cells) .unk):=aly h
theorem alK (k:Nat) (a b:List Nd) {c c2:Ck} {r:Bool} (h:Mh k a b=some r):aD Tryz.prog 215 [.ah (a.map Nd.cells) c,.ah (b.map Nd.cells) c2] (.bool r):=aog h
end Go.VL
end
section
set_option maxHeartbeats 4000000
namespace Go.VL
open Go.Proofs
def E9 (k:Nat) (a_0:List Nd) (b_1:List Nd):Option (Bool×Int):=
 (qb k a_0).bind fun p2=>(qb k b_1).bind fun p4=>(gT k [p2,p4]).bind fun p6=>cond (p6 !=0) (some (false,p6)) ((xA k a_0).bind fun p9=>(xA k b_1).bind fun Ag=>(Mh k p9 Ag).bind fun xW=>some (xW,0))
theorem aaq {k:Nat} {a_0:List Nd} {b_1:List Nd} {c0 c1:Ck} {r:Bool×Int} (h:E9 k a_0 b_1=some r):aD Tryz.prog 160 [(.ah (a_0.map Nd.cells) c0),(.ah (b_1.map Nd.cells) c1)] (.dn [(.bool r.1),(.int .i64 r.2)]):=by
 refine aD.lw (.ah (.ah .nil)) (aD.bH (dA.mem (.cons (bE Nd.pu _) (.cons (bE Nd.pu _) .nil))) (aM aAI (by simp) (aJ ?_)) (.dn _ (dA.mem (.cons (.bool _) (.cons (.int _ _) .nil)))));unfold E9 at h;unfold apb;obtain⟨p2,e1,h⟩:=ak h;refine aj ?_;refine au (Rv e1) ?_;obtain⟨p4,e3,h⟩:=ak h;refine aj ?_;refine au (Rv e3) ?_;obtain⟨p6,e5,h⟩:=ak h;refine aj ?_;refine au (mE e5) ?_;obtain⟨e7,h⟩|⟨e7,h⟩:=aA h
 ·cases h;refine aj ?_;exact(jr (.cons (.pure _ (.bool _)) (dz .nil)))
 ·obtain⟨p9,e8,h⟩:=ak h;refine aj ?_;refine au (aem k a_0 e8) ?_;obtain⟨Ag,e10,h⟩:=ak h;refine aj ?_;refine au (aem k b_1 e10) ?_;obtain⟨xW,e12,h⟩:=ak h;refine aj ?_;refine au (alK k p9 Ag e12) ?_;cases h;refine aj ?_;exact(jr (.cons (.pure _ (.bool _)) (dz .nil)))
instance aD5 (k:Nat) (a_0:List Nd) (b_1:List Nd):dN Tryz.prog 160 [(.ah (a_0.map Nd.cells) .unk),(.ah (b_1.map Nd.cells) .unk)] (E9 k a_0 b_1) (fun r=>(.dn [(.bool r.1),(.int .i64 r.2)])):=⟨fun _ h=>aaq h⟩
end Go.VL
end
section
namespace Go.VL
open Tm
theorem alL {left:List Str} {N:Nat}:GoodS left N []:=fun s hs=>by cases hs
section
variable {e:List Nd} {t:Tm} (he:e=flat 0 t) {left:List Str} (hl:left.length<=1000)
include he hl
theorem atr (hF:Bv e) {i:Nat} {m:Nd} (hm:(flat 0 (can left [] 0 t).1)[i]? =some m): ∃n,e[i]? =some n/\Out left 9000 n m:=by
 have hi:=(List.getElem?_eq_some_iff.1 hm).1;rw [bG,wQ]at hi;have hi':i<e.length:=by rw [he,bG];exact hi
 obtain⟨m',h1,h2⟩:=ahd t 0 [] 0 alL (Nat.le_trans (Nat.le_add_right _ _) (Qm hF he left hl)) i e[i] (by rw [<-he];exact aW hi');rw [hm]at h1;cases h1;exact⟨e[i],aW hi',h2⟩
theorem aoi (hF:Bv e) (hL:oz e):oz (flat 0 (can left [] 0 t).1):=by
 refine⟨by rw [bG,wQ,<-bG 0,<-he];exact hL.len,fun i m hm=> ?_⟩;obtain⟨n,hn,ho⟩:=atr he hl hF hm;obtain⟨h1,h2,h3⟩:=hL.nd i n hn;obtain⟨_,_,a3,a4⟩:=ag9 ho.sk;refine⟨?_,by omega,by rw [a3];exact h3⟩;rcases ho.tx with h|⟨k,h4,h5,_⟩
 · rw [h];exact h1
 · rw [h4];have:=ayL (n:=k) (by omega);omega
end
theorem aoj {e:List Nd} (hL:oz e) (hF:Bv e) (hV:Valid e): ∃t left,e=flat 0 t/\left.length<=1000/\Ev (fun k=>Ee k e) left/\Ev (fun k=>zk k e) left/\Ev (fun k=>xA k e) (flat 0 (can left [] 0 t).1)/\Ev (fun k=>lV k e) (flat 0 (can left [] 0 t).1):=by
 obtain⟨t,he⟩:=hV.tree;obtain⟨left,h1,h2,h3⟩:=alb hV hL hF;exact⟨t,left,he,h3,h1,h2,alC hF he h1 h3,Y0 hF hL he h2 h3⟩
theorem errs {e:List Nd} (hL:oz e): ∃c:Int,Ev (fun k=>qb k e) c/\Ev (fun k=>Fx k e) c/\(c=0->Valid e):=by
 obtain⟨r,ht,hr,hv⟩:=Wv e hL;exact⟨r.2,by unfold qb;exact Ev.bind ht Ev.some,by unfold Fx;exact Ev.bind hr Ev.some,hv⟩
end Go.VL
end
section
set_option maxHeartbeats 4000000
namespace Go.VL
open Go.Proofs
def BX (k:Nat) (aB:List Nd):Option Int:=
 (iG k aB).bind fun p2=>some p2.2
instance azX (k:Nat) (aB:List Nd):dN Tryz.prog 50 [(.ah (aB.map Nd.cells) .unk)] (BX k aB) (fun r=>(.int .i64 r)):=bZ aEF (by unfold BX avm;exact bJ)
def Mi (k:Nat) (a_0:List Nd) (b_1:List Nd):Option Bool:=
 (E9 k a_0 b_1).bind fun p2=>some p2.1
instance aD6 (k:Nat) (a_0:List Nd) (b_1:List Nd):dN Tryz.prog 95 [(.ah (a_0.map Nd.cells) .unk),(.ah (b_1.map Nd.cells) .unk)] (Mi k a_0 b_1) (fun r=>(.bool r)):=bZ aEV (by unfold Mi avI;exact bJ)
def mg:Nat->(List (List Nd))->(List (List Nd))->Int->Option (List (List Nd))
 |0,_,_,_=>none
 |k+1,aX,eU,gB=>
  cond (decide (gB<(aX.length:Int))) (if 0<=gB then (aX[gB.toNat]?).bind fun x3=>(BO k x3).bind fun p6=>if(eU.length+1)*24<=1099511627776 then mg k aX (eU++[p6]) (IntKind.wrap .i64 (gB+1))else none else none) (some (eU))
def Mj:List Nat:=List.range' 3 16
theorem Xd: ∀(k:Nat) (aX:List (List Nd)) (eU:List (List Nd)) (gB:Int) (fU:Ck) (aC σ:Nat->PV) (H0 H:AH) (f0:Fr Mj aC σ) (hf0:HF [] H0 H) (sl:σ 0=(.ah (aX.map (dx Nd.cells)) .unk)/\σ 3=(.ah (eU.map (dx Nd.cells)) fU)/\σ 4=(.int .i64 gB)) (I8:bf H fU) (o:List (List Nd)) (h:mg k aX eU gB=some o) (Q:Post) (q0: ∀(p:List (List Nd)) (c0:Ck) (σ':Nat->PV) (H':AH),o=p->Fr Mj aC σ'->HF [] H0 H'->(σ' 3=(.ah (p.map (dx Nd.cells)) c0))->Q (.exit 0) σ' H'),W Tryz.prog (.loop XP) Q σ H:=by
 intro k
 induction k with
 |zero=>intro aX eU gB fU aC σ H0 H f0 hf0 sl I8 o h Q q0;simp only [mg,reduceCtorEq]at h
 |succ k ih=>
  intro aX eU gB fU aC σ H0 H f0 hf0 sl I8 o h Q q0;obtain⟨s0,s3,s4⟩:=sl;have hle0:=hf0.1;unfold mg at h;refine bA (fun K hK=>aJ ?_);unfold XP;obtain⟨e1,h⟩|⟨e1,h⟩:=aA h
  ·obtain⟨e2,h⟩:=aZ h;obtain⟨x3,e4,h⟩:=ak h;obtain⟨p6,e5,h⟩:=ak h;refine aj ?_;refine au (Ro e5) ?_;obtain⟨e11,h⟩:=aZ h;refine aj ?_;refine gW (f:=(dx Nd.cells)) Le eU ([p6]:List (List Nd)) fU .exact av av eY (by first|exact e11|(simp only [List.length_cons,List.length_nil];exact e11)) (fun c7 H8 ok9 le aGJ aLX=> ?_);have ai3:HF [] _ H8:=⟨le,fun i _ _=>aGJ i⟩;try simp only [AH.aS,AH.aT,AH.aU,AH.aV]at le
   refine aj ?_;refine hK _ _ ?_;exact ih aX (eU++[p6]) (IntKind.wrap .i64 (gB+1)) c7 _ _ _ _ aN GH av eY _ h _ q0
  ·cases h;refine aj ?_;exact q0 _ fU _ _ rfl aN nL av
def Ej (k:Nat) (aX:List (List Nd)):Option (List (List Nd)):=
 Option.bind (mg k aX ([]:List (List Nd)) 0) (fun p16=>some p16)
theorem aen {k:Nat} {aX:List (List Nd)} {c0:Ck} {r:List (List Nd)} (h:Ej k aX=some r):aD Tryz.prog 23 [(.ah (aX.map (dx Nd.cells)) c0)] (.ah (r.map (dx Nd.cells)) .unk):=by
 refine aD.lw (.ah .nil) (aD.bH (dA.mem (.cons (bE (fA Nd.pu) _) .nil)) (aM aEB (by simp) (aJ ?_)) (bE (fA Nd.pu) _));unfold Ej at h;unfold avf;refine aj ?_;obtain⟨o14,h15,h⟩:=ak h;refine Xd k aX ([]:List (List Nd)) 0 .nil _ _ _ _ (Fr.refl _ _) (HF.refl _ _) av eY _ h15 _ ?_
 ·rintro p16 c20 σ' H19 eo ade aiK s21;rw [eo]at h;have le:=aiK.1;try simp only [AH.aS,AH.aT,AH.aU,AH.aV]at le
  cases h;refine aj ?_;exact(cK (fA Nd.pu) _ _)
def Ml (k:Nat) (a_0:List Nd) (b_1:List Nd):Option Bool:=
 cond ((a_0.length:Int)==(b_1.length:Int)) ((lV k a_0).bind fun p3=>(lV k b_1).bind fun p5=>(zK k p3 p5).bind fun p7=>some p7) (some false)
theorem aok {k:Nat} {a_0:List Nd} {b_1:List Nd} {c0 c1:Ck} {r:Bool} (h:Ml k a_0 b_1=some r):aD Tryz.prog 98 [(.ah (a_0.map Nd.cells) c0),(.ah (b_1.map Nd.cells) c1)] (.bool r):=by
 refine aD.lw (.ah (.ah .nil)) (aD.bH (dA.mem (.cons (bE Nd.pu _) (.cons (bE Nd.pu _) .nil))) (aM aEW (by simp) (aJ ?_)) (.bool _));unfold Ml at h;unfold avJ;obtain⟨e1,h⟩|⟨e1,h⟩:=aA h
 ·obtain⟨p3,e2,h⟩:=ak h;refine aj ?_;refine au (Oi k a_0 e2) ?_;obtain⟨p5,e4,h⟩:=ak h;refine aj ?_;refine au (Oi k b_1 e4) ?_;obtain⟨p7,e6,h⟩:=ak h;refine aj ?_;refine au (acT e6) ?_;cases h;refine aj ?_;exact(.pure _ (.bool _))
 ·cases h;refine aj ?_;exact(.pure _ (.bool _))
def ai7:Nat->(List (List Nd))->(List Nd)->Int->Option (Unit⊕Bool)
 |0,_,_,_=>none
 |k+1,aX,e_1,gG=>
  cond (decide (gG<(aX.length:Int))) (if 0<=gG then (aX[gG.toNat]?).bind fun x3=>(Ml k x3 e_1).bind fun p6=>cond p6 (some (.inr (true))) (ai7 k aX e_1 (IntKind.wrap .i64 (gG+1)))else none) (some (.inl ()))
def Fa (k:Nat) (aB:List Nd):Option Bool:=
 (VY k aB).bind fun p2=>cond p2 (cond (decide ((aB.length:Int)<=30)) (some true) (some (decide ((aB.length:Int)>160)))) (some false)
instance alM (k:Nat) (aB:List Nd):dN Tryz.prog 16 [(.ah (aB.map Nd.cells) .unk)] (Fa k aB) (fun r=>(.bool r)):=bZ ok16 (by unfold Fa au7;exact bJ)
theorem aar {k:Nat} {aB:List Nd} {c0:Ck} {r:Bool} (h:Fa k aB=some r):aD Tryz.prog 16 [(.ah (aB.map Nd.cells) c0)] (.bool r):=((alM _ _).c _ h).wk (.ah .nil)
def Bw (k:Nat) (wR:List (List Nd)) (Ab:List Nd):Option (Unit⊕Bool):=
 cond (decide ((wR.length:Int)>14)) (some (.inr (false))) ((Fa k Ab).bind fun p3=>cond p3 (some (.inl ())) (some (.inr (false))))
def Qq:List Nat:=[2]++List.range' 4 10
theorem ai8 (k:Nat): ∀(El:Nat) (wR:List (List Nd)) (Ab:List Nd) (aC σ:Nat->PV) (H:AH) (f0:Fr Qq aC σ) (sl:σ 1=(.ref (El) 0)/\H.obj El=some [(.ah (wR.map (dx Nd.cells)) .unk),(.ah (Ab.map Nd.cells) .unk)]) (BZ:El<H.next) (o:Unit⊕Bool) (h:Bw k wR Ab=some o) (Q:Post) (q0: ∀(p:Unit) (σ':Nat->PV),o= .inl p->Fr Qq aC σ'->Q .normal σ' H) (q1: ∀(p:Bool) (σ':Nat->PV),o= .inr (p)->Fr Qq aC σ'->(σ' 2=(.bool p))->Q .ret σ' H),W Tryz.prog XJ Q σ H:=by
 intro El wR Ab aC σ H f0 sl BZ o h Q q0 q1;obtain⟨s1,att⟩:=sl;have atu:=ne_next BZ;have atv:=aO BZ;unfold Bw at h;refine aJ ?_;unfold XJ;obtain⟨e1,h⟩|⟨e1,h⟩:=aA h
 ·cases h;refine aj ?_;exact q1 _ _ rfl aN av
 ·obtain⟨p3,e2,h⟩:=ak h;refine aj ?_;refine au (aar e2) ?_;obtain⟨e4,h⟩|⟨e4,h⟩:=aA h
  ·cases h;refine aj ?_;exact q0 _ _ rfl aN
  ·cases h;refine aj ?_;exact q1 _ _ rfl aN av
def wS:Nat->(List (List Nd))->(List Nd)->Int->Option (Unit⊕Bool)
 |0,_,_,_=>none
 |k+1,wR,Ab,dV=>
  cond (decide (dV<(wR.length:Int))) (if 0<=dV then (wR[dV.toNat]?).bind fun x14=>(Fa k x14).bind fun I5=>cond I5 (wS k wR Ab (IntKind.wrap .i64 (dV+1))) (some (.inr (false)))else none) (some (.inl ()))
def Qr:List Nat:=[2,3]++List.range' 14 14
theorem ai9: ∀(k:Nat) (El:Nat) (wR:List (List Nd)) (Ab:List Nd) (dV:Int) (aC σ:Nat->PV) (H:AH) (f0:Fr Qr aC σ) (sl:σ 1=(.ref (El) 0)/\σ 3=(.int .i64 dV)/\H.obj El=some [(.ah (wR.map (dx Nd.cells)) .unk),(.ah (Ab.map Nd.cells) .unk)]) (BZ:El<H.next) (o:Unit⊕Bool) (h:wS k wR Ab dV=some o) (Q:Post) (q0: ∀(p:Unit) (σ':Nat->PV),o= .inl p->Fr Qr aC σ'->Q (.exit 0) σ' H) (q1: ∀(p:Bool) (σ':Nat->PV),o= .inr (p)->Fr Qr aC σ'->(σ' 2=(.bool p))->Q .ret σ' H),W Tryz.prog (.loop XK) Q σ H:=by
 intro k
 induction k with
 |zero=>intro El wR Ab dV aC σ H f0 sl BZ o h Q q0 q1;simp only [wS,reduceCtorEq]at h
 |succ k ih=>
  intro El wR Ab dV aC σ H f0 sl BZ o h Q q0 q1;obtain⟨s1,s3,att⟩:=sl;have atu:=ne_next BZ;have atv:=aO BZ;unfold wS at h;refine bA (fun K hK=>aJ ?_);unfold XK;obtain⟨e12,h⟩|⟨e12,h⟩:=aA h
  ·obtain⟨e13,h⟩:=aZ h;obtain⟨x14,e15,h⟩:=ak h;obtain⟨I5,e16,h⟩:=ak h;refine aj ?_;refine au (aar e16) ?_;obtain⟨e18,h⟩|⟨e18,h⟩:=aA h
   ·refine aj ?_;refine hK _ _ ?_;exact ih El wR Ab (IntKind.wrap .i64 (dV+1)) _ _ _ aN av aQ _ h _ q0 q1
   ·cases h;refine aj ?_;exact q1 _ _ rfl aN av
  ·cases h;refine aj ?_;exact q0 _ _ rfl aN
def Ky (k:Nat) (s_0:Sq):Option Bool:=
 Option.bind (Bw k s_0.hyps s_0.goal) (fun o=>Sum.elim (fun p7=>Option.bind (wS k s_0.hyps s_0.goal 0) (fun o=>Sum.elim (fun wY=>some true) (fun p25=>some p25) o)) (fun p30=>some p30) o)
theorem atw {k:Nat} {s_0:Sq} {r:Bool} (h:Ky k s_0=some r):aD Tryz.prog 12 [(.agg (Sq.cells s_0))] (.bool r):=by
 refine aD.bH (dA.mem (.cons (.agg _ (Sq.pu _)) .nil)) (aM au6 (by simp) (aJ ?_)) (.bool _);unfold Ky at h;unfold au5;refine aj ?_;obtain⟨o5,h6,h⟩:=ak h;refine ai8 k (AH.empty.next) s_0.hyps s_0.goal _ _ _ (Fr.refl _ _) av aQ _ h6 _ ?_ ?_
 ·rintro p7 σ' eo fr8;subst eo;rw [dZ]at h;have s11:σ' 1=(.ref (AH.empty.next) 0):=(fr8 1 (by decide)).trans av;refine aj ?_;obtain⟨o19,h20,h⟩:=ak h;refine ai9 k (AH.empty.next) s_0.hyps s_0.goal 0 _ _ _ (Fr.refl _ _) av aQ _ h20 _ ?_ ?_
  ·rintro wY σ' eo aLY;subst eo;rw [dZ]at h;cases h;refine aj ?_;exact(.pure _ (.bool _))
  ·rintro p25 σ' eo aLZ s29;subst eo;rw [eT]at h;cases h;refine aj ?_;exact(.pure _ (.bool _))
 ·rintro p30 σ' eo aja s34;subst eo;rw [eT]at h;cases h;refine aj ?_;exact(.pure _ (.bool _))
end Go.VL
end
section
namespace Go.VL
open Tm
structure Gd (e:List Nd):Prop where
 few:nX e=true
 val:Valid e
 t0:Ev (fun k=>qb k e) 0
 r0:Ev (fun k=>Fx k e) 0
open Classical in
noncomputable def Nk (e:List Nd):List Nd:=if h: ∃c,Ev (fun k=>xA k e) c/\Ev (fun k=>lV k e) c/\c.length=e.length/\oz c then h.choose else e
theorem QU {e:List Nd} (h:Gd e):Ev (fun k=>xA k e) (Nk e)/\Ev (fun k=>lV k e) (Nk e)/\(Nk e).length=e.length/\oz (Nk e):=by
 have hL:=EZ h.few;have hF:=an4 h.few h.val;obtain⟨t,l,e1,e2,e3,e4,e5,e6⟩:=aoj hL hF h.val
 have hx: ∃c,Ev (fun k=>xA k e) c/\Ev (fun k=>lV k e) c/\c.length=e.length/\oz c:=
  ⟨_,e5,e6,by
   conv=>rhs;rw [e1]
   rw [bG,bG,wQ],aoi e1 e2 hF hL⟩
 unfold Nk;rw [dif_pos hx];exact hx.choose_spec
noncomputable def rX (a b:List Nd):Bool:=decide (Nk a=Nk b)
theorem ajb {a b:List Nd} (ha:Gd a) (hb:Gd b):Ev (fun k=>E9 k a b) (rX a b,0):=by
 obtain⟨a1,a2,a3,a4⟩:=QU ha;obtain⟨b1,b2,b3,b4⟩:=QU hb;have hs:=alJ (Nk a) (Nk b) a4.len (fun n hn=>by
  obtain⟨i,hi⟩:=List.mem_iff_getElem?.1 hn;have:=a4.nd i n hi;exact this.2)
 unfold E9;exact Ev.bind ha.t0 (Ev.bind hb.t0 (Ev.bind (zW _ (by simp)) (Ev.cF (by simp [L6]) (Ev.bind a1 (Ev.bind b1 (Ev.bind hs Ev.some))))))
theorem ajc {a b:List Nd} (ha:Gd a) (hb:Gd b):Ev (fun k=>Mi k a b) (rX a b):=by
 unfold Mi;exact Ev.bind (ajb ha hb) Ev.some
theorem alN {a b:List Nd} (ha:Gd a) (hb:Gd b):Ev (fun k=>Ml k a b) (rX a b):=by
 obtain⟨a1,a2,a3,a4⟩:=QU ha;obtain⟨b1,b2,b3,b4⟩:=QU hb;unfold Ml;by_cases h:a.length=b.length
 · exact Ev.cT (by simp [h]) (Ev.bind a2 (Ev.bind b2 (Ev.bind (aa4 a4) Ev.some)))
 · refine Ev.cF (by simp;omega) (Ev.some' ?_);unfold rX;exact(decide_eq_false fun e=>h (by rw [<-a3,<-b3,e])).symm
theorem alO {e:List Nd} (h:nX e=true): ∃c:Int,Ev (fun k=>BX k e) c/\Ev (fun k=>Fx k e) c/\(c=0->Gd e):=by
 obtain⟨c,h1,h2,h3⟩:=errs (EZ h);exact⟨c,h1,h2,fun hc=>⟨h,h3 hc,hc▸h1,hc▸h2⟩⟩
end Go.VL
end
section
set_option maxRecDepth 100000
namespace Go.VL.Kp
open Go.Proofs Go.VL
def dc (n:Nat):Bool:=([107,202,1000000]:List Nat).contains n
def arp:AC:=(sO [oR 2 (.BF (.c (.ah [] .nil)))] (.seq (sO [oM 3 0,oR 4 (.bin .eql .sl (.t 3) (.c (.ah [] .nil)))] (.cond (.t 4) (sO [oR 2 (.BF (.c (.ah [] .nil)))] .ret) .skip)) (sO [oR 5 (.Ci 1 []),oM 6 0,⟨(some 7),(.n (.app 1 24 (.t 5) (.t 6))),none⟩,oM 2 7] .ret)))
theorem aCt:aP Tryz.prog dc true 107 8 [(.tmp 2)] arp:=aR Tryz.func107
def U7:AC:=(sO [oB 40 .lss (.t 39) (.t 38)] (.seq (.cond (.t 40) .skip (.exit 0)) (.seq (.block 1 (sO [oM 41 39,oX 42 1 37 39,oL 43 1 42,⟨(some 9),(.d (.alloc [(.ah [] .nil)])),none⟩,oM 8 41,oS 1 9 43] (sO [oF 44 0 7,oL 45 1 44,oR 46 (.Xz (.func 203) [] [(.t 9)]),oC 47 161 [(.t 45),(.t 46)],oM 10 47] (.seq (sO [oM 48 10,oB 49 .lss (.t 48) (.c (.int .i64 0))] (.cond (.t 49) (sO [oF 50 1 7,oL 51 1 50,oN 52 51,oM 10 52] (.su [0,1,0,4,15,0,32,0,255,127,1023,2047,4095] [(oF 53 0 7,false),(oL 54 1 53,false),(oL 55 1 9,false),(oR 56 (.Ci 1 [(.t 55)]),false),(⟨(some 57),(.n (.app 1 24 (.t 54) (.t 56))),none⟩,true),(oF 58 1 7,false),(oL 59 1 58,false),(oR 60 (.Ci 1 [(.c (.int .i64 0))]),false),(⟨(some 61),(.n (.app 1 8 (.t 59) (.t 60))),none⟩,true),(oF 62 0 7,false)] [oS 1 62 57,oF 63 1 7,oS 1 63 61])) .skip)) (.par [(oF 64 1 7,false),(oL 65 1 64,false),(oM 66 10,false),(oX 67 1 65 66,false),(oL 68 1 67,false),(oM 69 2,false),(oF 70 1 4,false),(oL 71 1 70,false),(oM 72 8,false),(oX 73 1 71 72,false),(oL 74 1 73,false),(oB 75 .mul (.t 69) (.t 74),false)] [oB 76 .add (.t 68) (.t 75),oX 77 1 65 66,oS 1 77 76]))))) (.ops [oB 78 .add (.t 39) (.c (.int .i64 1)),oM 39 78]))))
def U8:AC:=(sO [oB 88 .lss (.t 87) (.t 86)] (.seq (.cond (.t 88) .skip (.exit 2)) (.seq (.block 3 (sO [oX 89 1 85 87,oL 90 1 89,oM 12 90] (.ops [oF 91 3 7,oL 92 1 91,oM 93 92,oMg 94 12 93 false,oCg 95 78 [(.t 94),(.c (.int .i64 (-1000000000))),(.c (.int .i64 1000000000))] 93 false,ZB 96 (.not (.t 95)) 93 false,oR 97 (.pick (.t 93) (.c (.bool true)) (.t 96)),oF 98 3 7,oS 1 98 97]))) (.ops [oB 99 .add (.t 87) (.c (.int .i64 1)),oM 87 99]))))
def arq:AC:=(sO [⟨(some 3),(.d (.box 4 (.t 0))),none⟩,⟨(some 4),(.d (.box 4 (.t 1))),none⟩,⟨(some 6),(.d (.alloc [(.ah [] .nil),(.ah [] .nil),(.int .i64 0),(.bool false)])),none⟩] (.seq (.su [0,1,3,0,8,31,0,64,0,0,512,1792,4032,0,8192,24639,57407,122943,254015,524287,0,2097151] [(oF 13 0 3,false),(oL 14 1 13,false),(oC 15 107 [(.t 14)],true),(oF 16 1 3,false),(oL 17 1 16,false),(oC 18 202 [(.t 17)],true),(oF 19 2 3,false),(oL 20 1 19,false),(oM 21 2,false),(oF 22 2 4,false),(oL 23 1 22,false),(oB 24 .mul (.t 21) (.t 23),false),(oB 25 .add (.t 20) (.t 24),false),(oF 26 3 3,false),(oL 27 1 26,false),(oM 28 27,false),(oFg 29 3 4 28 false,false),(ZA 30 1 29 28 false,false),(oR 31 (.pick (.t 28) (.c (.bool true)) (.t 30)),false),(oR 32 (.build [(.ah [] .nil),(.ah [] .nil),(.int .i64 0),(.bool false)] [(0,(1,(.t 15))),(1,(1,(.t 18))),(2,(1,(.t 25))),(3,(1,(.t 31)))]),false),(⟨(some 7),(.d (.alloc [(.ah [] .nil),(.ah [] .nil),(.int .i64 0),(.bool false)])),none⟩,true)] [oS 4 7 32]) (.seq (sO [oF 33 3 7,oL 34 1 33] (.cond (.t 34) (sO [oA 35 4 7,oS 4 6 35] .ret) .skip)) (.seq (sO [oF 36 0 4,oL 37 1 36,oN 38 37,oI 39 0] (.block 0 (.loop U7))) (.seq (.seq (.su [0,1,3,0,8,24,63,127,0] [(oF 79 1 7,false),(oL 80 1 79,false),(oC 81 202 [(.t 80)],true),(oF 82 2 7,false),(oL 83 1 82,false),(oR 84 (.Ci 1 [(.t 83)]),false),(⟨(some 85),(.n (.app 1 8 (.t 81) (.t 84))),none⟩,true),(oN 86 85,false),(oI 87 0,false)] []) (.block 2 (.loop U8))) (sO [oA 100 4 7,oS 4 6 100] .ret))))))
theorem aCu:aP Tryz.prog dc true 144 101 [(.cell 6 4 true)] arq:=aR Tryz.func144
def ajd:AC:=(sO [oR 2 (.BF (.c (.ah [] .nil)))] (.seq (sO [oM 3 0,oR 4 (.bin .eql .sl (.t 3) (.c (.ah [] .nil)))] (.cond (.t 4) (sO [oR 2 (.BF (.c (.ah [] .nil)))] .ret) .skip)) (sO [oR 5 (.Ci 1 []),oM 6 0,⟨(some 7),(.n (.app 1 8 (.t 5) (.t 6))),none⟩,oM 2 7] .ret)))
theorem ars:aP Tryz.prog dc true 202 8 [(.tmp 2)] ajd:=aR Tryz.func202
end Go.VL.Kp
end
