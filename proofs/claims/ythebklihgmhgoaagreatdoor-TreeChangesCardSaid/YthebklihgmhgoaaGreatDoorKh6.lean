/- Part 6. -/
import Derived.Test.YthebklihgmhgoaaGreatDoorKh5
import Derived.Lib.SlicesCompact
import Derived.Lib.RowBridge
import Derived.Test.YthebklihgmhgoaaGreatDoorProg
import Derived.KernelRfl
import Derived.Lib.ItoaNum
set_option maxRecDepth 8000
set_option linter.unusedVariables false
set_option linter.unusedSectionVars false
set_option linter.unusedSimpArgs false
section
namespace Go.VL
namespace Tm
mutual
def bgT (b:Nat):Tm->List Int
  | .mk _ cs=>qD b cs++[(b:Int)]
def qD (b:Nat):List Tm->List Int
  |[]=>[]
  |c::cs=>bgT b c++qD (b+c.size) cs
end
theorem YK {b:Nat} {x:Nd} {cs:List Tm}:bgT b (.mk x cs)=qD b cs++[(b:Int)]:=by rw [bgT]
mutual
theorem aa4 (b:Nat): ∀t:Tm,(bgT b t).length=t.size
  | .mk x cs=>by rw [YK];unfold size;rw [List.length_append,vU b cs];rfl
theorem vU (b:Nat): ∀cs:List Tm,(qD b cs).length=sizes cs
  |[]=>rfl
  |c::cs=>by unfold qD sizes;rw [List.length_append,aa4 b c,vU (b+c.size) cs]
end
theorem xH: ∀(b:Nat) (l m:List Tm),qD b (l++m)=qD b l++qD (b+sizes l) m
  |b,[],m=>by simp [qD,sizes]
  |b,c::l,m=>by simp only [List.cons_append,qD,sizes,xH (b+c.size) l m,List.append_assoc,Nat.add_assoc]
theorem agi {b:Nat} {t:Tm}:(bgT b t)[t.size -1]? =some (b:Int):=by
  cases t with
  |mk x cs=>
    rw [YK];have:(mk x cs).size -1=sizes cs:=by unfold size;omega
    rw [this,List.getElem?_append_right (by rw [vU];exact Nat.le_refl _),vU,Nat.sub_self];rfl
theorem vV (t:Tm):sizes [t]=t.size:=by simp [sizes]
theorem Cc (b:Nat) (t:Tm):bL b [t]=flat b t:=by simp [bL]
theorem agj (b:Nat) (t:Tm):qD b [t]=bgT b t:=by simp [qD]
theorem U0 (b:Nat) (t:Tm):roots b [t]=[((b+t.size -1:Nat):Int)]:=by simp [roots]
theorem TY {b:Nat} {l m:List Tm} {t:Tm}:(qD b (l++t::m))[sizes l+t.size -1]? =some ((b+sizes l:Nat):Int):=by
  have hp:=t.size_pos;rw [xH,List.getElem?_append_right (by rw [vU];omega),vU];unfold qD;rw [List.getElem?_append_left (by rw [aa4];omega),show sizes l+t.size -1 -sizes l=t.size -1 by omega,agi]
theorem YL {ts:List Tm} {acc:List Int} (ha:acc=qD 0 ts): ∀(l:List Int) (t1 rest:List Tm),ts=t1++rest->rD acc ((sizes t1:Nat):Int) l=true-> ∃front mid,t1=front++mid/\l.reverse=roots (sizes front) mid
  |[],t1,rest,_,_=>⟨t1,[],by simp,by simp [roots]⟩
  |a::l,t1,rest,hts,hp=>by
    rw [rD,Bool.and_eq_true,Bool.and_eq_true,decide_eq_true_eq,decide_eq_true_eq]at hp;obtain⟨⟨h1,h2⟩,h3⟩:=hp;rcases List.eq_nil_or_concat t1 with rfl|⟨t2,t,rfl⟩
    · simp [sizes]at h2
    rw [List.concat_eq_append]at*;have hpos:=t.size_pos;have hsz:sizes (t2++[t])=sizes t2+t.size:=by rw [dU,vV]
    have hget:acc[(((sizes (t2++[t]):Nat):Int) -1).toNat]? =some ((sizes t2:Nat):Int):=by
      rw [ha,hts,List.append_assoc,hsz,show((((sizes t2+t.size:Nat):Int) -1).toNat)=sizes t2+t.size -1 by omega];have:=TY (b:=0) (l:=t2) (m:=rest) (t:=t);rw [Nat.zero_add]at this;exact this
    rw [hget,Option.getD_some]at h3;obtain⟨front,mid,e1,e2⟩:=YL ha l t2 ([t]++rest) (by rw [hts,List.append_assoc]) h3;refine⟨front,mid++[t],by rw [e1,List.append_assoc],?_⟩;rw [List.reverse_cons,e2,Ah,U0];congr 2
    rw [h1,hsz,e1,dU];omega
def bare (n:Nd):Nd:={n with args:=[]}
theorem ajy {n:Nd} {b:Nat} {cs:List Tm} (h:n.args=roots b cs):nd (bare n) b cs=n:=by
  unfold nd bare;cases n;simp only at h⊢;rw [h]
theorem row_step {ts:List Tm} {acc:List Int} {n:Nd} (ha:acc=qD 0 ts) (hp:rD acc (acc.length:Int) n.args.reverse=true):
    ∃front last,ts=front++last/\n.args=roots (sizes front) last/\bL 0 (front++[.mk (bare n) last])=bL 0 ts++[n]/\qD 0 (front++[.mk (bare n) last])=acc++[yu acc n]:=by
  have hl:acc.length=sizes ts:=by rw [ha,vU]
  rw [hl]at hp;obtain⟨front,last,e1,e2⟩:=YL ha n.args.reverse ts [] (by simp) hp;rw [List.reverse_reverse]at e2;refine⟨front,last,e1,e2,?_,?_⟩
  · rw [vT,Cc,iJ,ajy (by rw [Nat.zero_add];exact e2),e1,vT,List.append_assoc]
  · rw [xH,agj,YK,ha,e1,xH,List.append_assoc];congr 3
    rw [Nat.zero_add];unfold yu;rw [e2];cases last with
    |nil=>simp [roots,qD,vU]
    |cons c cs=>
      simp only [roots];have h1:=TY (b:=0) (l:=front) (m:=cs) (t:=c);rw [Nat.zero_add,xH,Nat.zero_add]at h1;rw [Int.toNat_natCast,h1,Option.getD_some]
mutual
def Ai (b:Nat) (p k:Int):Tm->List (Int×Int)
  | .mk _ cs=>iI b ((b+sizes cs:Nat):Int) 0 cs++[(p,k)]
def iI (b:Nat) (p:Int) (k:Nat):List Tm->List (Int×Int)
  |[]=>[]
  |c::cs=>Ai b p k c++iI (b+c.size) p (k+1) cs
end
def bG (b:Nat):List Tm->List (Int×Int)
  |[]=>[]
  |c::cs=>Ai b (-1) 0 c++bG (b+c.size) cs
theorem yO {b:Nat} {p k:Int} {x:Nd} {cs:List Tm}:Ai b p k (.mk x cs)=iI b ((b+sizes cs:Nat):Int) 0 cs++[(p,k)]:=by rw [Ai]
mutual
theorem iU (b:Nat) (p k:Int): ∀t:Tm,(Ai b p k t).length=t.size
  | .mk x cs=>by rw [yO];unfold size;rw [List.length_append,jM];rfl
theorem jM (b:Nat) (p:Int) (k:Nat): ∀cs:List Tm,(iI b p k cs).length=sizes cs
  |[]=>rfl
  |c::cs=>by unfold iI sizes;rw [List.length_append,iU b p k c,jM (b+c.size) p (k+1) cs]
end
theorem vW: ∀(b:Nat) (cs:List Tm),(bG b cs).length=sizes cs
  |_,[]=>rfl
  |b,c::cs=>by unfold bG sizes;rw [List.length_append,iU,vW (b+c.size) cs]
theorem EC: ∀(b:Nat) (l m:List Tm),bG b (l++m)=bG b l++bG (b+sizes l) m
  |b,[],m=>by simp [bG,sizes]
  |b,c::l,m=>by simp only [List.cons_append,bG,sizes,EC (b+c.size) l m,List.append_assoc,Nat.add_assoc]
theorem U1 (b:Nat) (t:Tm):bG b [t]=Ai b (-1) 0 t:=by simp [bG]
theorem U2: ∀(b:Nat) (p:Int) (k:Nat) (cs:List Tm) (j:Nat) (a:Int),(roots b cs)[j]? =some a-> ∃r:Nat,a=((b+r:Nat):Int)/\r<sizes cs/\(iI b p k cs)[r]? =some (p,((k+j:Nat):Int))
  |b,p,k,[],j,a,h=>by simp [roots]at h
  |b,p,k,c::cs,j,a,h=>by
    have hpos:=c.size_pos;cases j with
    |zero=>
      simp only [roots,List.getElem?_cons_zero,Option.some.injEq]at h;refine⟨c.size -1,by rw [<-h];congr 1;omega,by simp only [sizes];omega,?_⟩;unfold iI;rw [List.getElem?_append_left (by rw [iU];omega)];cases c with
      |mk x ds=>
        rw [yO,show(mk x ds).size -1=sizes ds by unfold size;omega,List.getElem?_append_right (by rw [jM];exact Nat.le_refl _),jM,Nat.sub_self];rfl
    |succ j=>
      simp only [roots,List.getElem?_cons_succ]at h;obtain⟨r,h1,h2,h3⟩:=U2 (b+c.size) p (k+1) cs j a h;refine⟨c.size+r,by rw [h1,Nat.add_assoc],by simp only [sizes];omega,?_⟩;unfold iI;rw [List.getElem?_append_right (by rw [iU];omega),iU,show c.size+r -c.size=r by omega,h3];congr 3
      omega
mutual
theorem aa5: ∀(b:Nat) (p k:Int) (t:Tm) (q:Nat) (n:Nd) (j:Nat) (a:Int),(flat b t)[q]? =some n->n.args[j]? =some a-> ∃r:Nat,a=((b+r:Nat):Int)/\r<q/\(Ai b p k t)[r]? =some (((b+q:Nat):Int),(j:Int))
  |b,p,k,.mk x cs,q,n,j,a,h1,h2=>by
    rw [iJ]at h1;rw [yO];by_cases hq:q<sizes cs
    · rw [List.getElem?_append_left (by rw [dW];exact hq)]at h1;obtain⟨r,h3,h4,h5⟩:=YM b ((b+sizes cs:Nat):Int) 0 cs q n j a h1 h2;exact⟨r,h3,h4,by rw [List.getElem?_append_left (by rw [jM];omega)];exact h5⟩
    · have hlt:=(List.getElem?_eq_some_iff.1 h1).1;rw [List.length_append,dW]at hlt;obtain rfl:q=sizes cs:=by simp at hlt;omega
      rw [List.getElem?_append_right (by rw [dW];exact Nat.le_refl _),dW,Nat.sub_self,List.getElem?_cons_zero,Option.some.injEq]at h1;subst h1;obtain⟨r,h3,h4,h5⟩:=U2 b ((b+sizes cs:Nat):Int) 0 cs j a h2;refine⟨r,h3,h4,?_⟩;rw [List.getElem?_append_left (by rw [jM];exact h4),h5,Nat.zero_add]
theorem YM: ∀(b:Nat) (p:Int) (k:Nat) (cs:List Tm) (q:Nat) (n:Nd) (j:Nat) (a:Int),(bL b cs)[q]? =some n->n.args[j]? =some a-> ∃r:Nat,a=((b+r:Nat):Int)/\r<q/\(iI b p k cs)[r]? =some (((b+q:Nat):Int),(j:Int))
  |b,p,k,[],q,n,j,a,h1,h2=>by simp [bL]at h1
  |b,p,k,c::cs,q,n,j,a,h1,h2=>by
    rw [gK]at h1;unfold iI;by_cases hq:q<c.size
    · rw [List.getElem?_append_left (by rw [bV];exact hq)]at h1;obtain⟨r,h3,h4,h5⟩:=aa5 b p k c q n j a h1 h2;exact⟨r,h3,h4,by rw [List.getElem?_append_left (by rw [iU];omega)];exact h5⟩
    · rw [List.getElem?_append_right (by rw [bV];omega),bV]at h1;obtain⟨r,h3,h4,h5⟩:=YM (b+c.size) p (k+1) cs (q -c.size) n j a h1 h2;refine⟨c.size+r,by rw [h3,Nat.add_assoc],by omega,?_⟩;rw [List.getElem?_append_right (by rw [iU];omega),iU,show c.size+r -c.size=r by omega,h5];congr 3
      omega
end
theorem Ot: ∀(b:Nat) (cs:List Tm) (q:Nat) (n:Nd) (j:Nat) (a:Int),(bL b cs)[q]? =some n->n.args[j]? =some a-> ∃r:Nat,a=((b+r:Nat):Int)/\r<q/\(bG b cs)[r]? =some (((b+q:Nat):Int),(j:Int))
  |b,[],q,n,j,a,h1,h2=>by simp [bL]at h1
  |b,c::cs,q,n,j,a,h1,h2=>by
    rw [gK]at h1;unfold bG;by_cases hq:q<c.size
    · rw [List.getElem?_append_left (by rw [bV];exact hq)]at h1;obtain⟨r,h3,h4,h5⟩:=aa5 b (-1) 0 c q n j a h1 h2;exact⟨r,h3,h4,by rw [List.getElem?_append_left (by rw [iU];omega)];exact h5⟩
    · rw [List.getElem?_append_right (by rw [bV];omega),bV]at h1;obtain⟨r,h3,h4,h5⟩:=Ot (b+c.size) cs (q -c.size) n j a h1 h2;refine⟨c.size+r,by rw [h3,Nat.add_assoc],by omega,?_⟩;rw [List.getElem?_append_right (by rw [iU];omega),iU,show c.size+r -c.size=r by omega,h5];congr 3
      omega
def Says (b:Nat) (l:List Nd) (r:Nat) (P j:Int):Prop:= ∃(q j':Nat) (n:Nd),P=((b+q:Nat):Int)/\j=(j':Int)/\r<q/\l[q]? =some n/\n.args[j']? =some ((b+r:Nat):Int)
theorem KW {b:Nat} {l m:List Nd} {r:Nat} {P j:Int} (h:Says b l r P j):Says b (l++m) r P j:=by
  obtain⟨q,j',n,h1,h2,h3,h4,h5⟩:=h;exact⟨q,j',n,h1,h2,h3,by rw [List.getElem?_append_left (List.getElem?_eq_some_iff.1 h4).1];exact h4,h5⟩
theorem P5 {b:Nat} {l m:List Nd} {r:Nat} {P j:Int} (h:Says (b+l.length) m r P j):Says b (l++m) (l.length+r) P j:=by
  obtain⟨q,j',n,h1,h2,h3,h4,h5⟩:=h;exact⟨l.length+q,j',n,by rw [h1,Nat.add_assoc],h2,by omega,by rw [List.getElem?_append_right (by omega),show l.length+q -l.length=q by omega];exact h4,by rw [h5,Nat.add_assoc]⟩
theorem acy: ∀(b:Nat) (cs:List Tm) (k:Nat) (c:Tm) (l m:List Tm),cs=l++c::m->(roots b cs)[l.length]? =some ((b+(sizes l+c.size -1):Nat):Int):=by
  intro b cs k c l m h;have hp:=c.size_pos;rw [h,Cb];congr 2
  omega
mutual
theorem U3: ∀(b:Nat) (p k:Int) (t:Tm) (r:Nat) (P j:Int),(Ai b p k t)[r]? =some (P,j)->(r=t.size -1/\P=p/\j=k)\/Says b (flat b t) r P j
  |b,p,k,.mk x cs,r,P,j,h=>by
    rw [yO]at h;by_cases hr:r<sizes cs
    · rw [List.getElem?_append_left (by rw [jM];exact hr)]at h;rw [iJ];rcases P6 b ((b+sizes cs:Nat):Int) 0 cs r P j h with⟨l,c,m,e1,e2,e3,e4⟩|hs
      · right;refine⟨sizes cs,l.length,nd x b cs,e3,by rw [e4,Nat.zero_add],hr,?_,?_⟩
        · rw [List.getElem?_append_right (by rw [dW];exact Nat.le_refl _),dW,Nat.sub_self];rfl
        · show(roots b cs)[l.length]? =_
          rw [acy b cs 0 c l m e1,e2]
      · exact .inr (KW hs)
    · have hlt:=(List.getElem?_eq_some_iff.1 h).1;rw [List.length_append,jM]at hlt;obtain rfl:r=sizes cs:=by simp at hlt;omega
      rw [List.getElem?_append_right (by rw [jM];exact Nat.le_refl _),jM,Nat.sub_self,List.getElem?_cons_zero]at h;cases h;left;exact⟨by unfold size;omega,rfl,rfl⟩
theorem P6: ∀(b:Nat) (p:Int) (k:Nat) (cs:List Tm) (r:Nat) (P j:Int),(iI b p k cs)[r]? =some (P,j)->
    (∃l c m,cs=l++c::m/\r=sizes l+c.size -1/\P=p/\j=((k+l.length:Nat):Int))\/Says b (bL b cs) r P j
  |b,p,k,[],r,P,j,h=>by simp [iI]at h
  |b,p,k,c::cs,r,P,j,h=>by
    unfold iI at h;rw [gK];by_cases hr:r<c.size
    · rw [List.getElem?_append_left (by rw [iU];exact hr)]at h;rcases U3 b p k c r P j h with⟨e1,e2,e3⟩|hs
      · exact .inl ⟨[],c,cs,rfl,by simp [sizes,e1],e2,by simp [e3]⟩
      · exact .inr (KW hs)
    · rw [List.getElem?_append_right (by rw [iU];omega),iU]at h;rcases P6 (b+c.size) p (k+1) cs (r -c.size) P j h with⟨l,d,m,e1,e2,e3,e4⟩|hs
      · refine .inl ⟨c::l,d,m,by rw [e1];rfl,?_,e3,by rw [e4,List.length_cons];omega⟩;have:=d.size_pos;simp only [sizes];omega
      · right;have h2:Says (b+(flat b c).length) (bL (b+c.size) cs) (r -c.size) P j:=by rw [bV];exact hs
        have:=P5 h2;rw [bV,show c.size+(r -c.size)=r by omega]at this;exact this
end
theorem IV: ∀(b:Nat) (cs:List Tm) (r:Nat) (P j:Int),(bG b cs)[r]? =some (P,j)->(P= -1/\j=0)\/Says b (bL b cs) r P j
  |b,[],r,P,j,h=>by simp [bG]at h
  |b,c::cs,r,P,j,h=>by
    unfold bG at h;rw [gK];by_cases hr:r<c.size
    · rw [List.getElem?_append_left (by rw [iU];exact hr)]at h;rcases U3 b (-1) 0 c r P j h with⟨e1,e2,e3⟩|hs
      · exact .inl ⟨e2,e3⟩
      · exact .inr (KW hs)
    · rw [List.getElem?_append_right (by rw [iU];omega),iU]at h;rcases IV (b+c.size) cs (r -c.size) P j h with hs|hs
      · exact .inl hs
      · right;have h2:Says (b+(flat b c).length) (bL (b+c.size) cs) (r -c.size) P j:=by rw [bV];exact hs
        have:=P5 h2;rw [bV,show c.size+(r -c.size)=r by omega]at this;exact this
end Tm
end Go.VL
end
section
namespace Go.VL
open Tm
theorem aa6: ∀(l:List Nd) (acc acc':List Int),mI acc l= .inl acc'-> ∀(i:Nat) n,l[i]? =some n->eH true n=0
  |[],_,_,_,i,n,hn=>by simp at hn
  |m::l,acc,acc',h,i,n,hn=>by
    rw [mI]at h;by_cases hc:eH (rD acc acc.length m.args.reverse) m=0
    · rw [if_neg (fun k=>k hc)]at h;cases i with
      |zero=>
        simp only [List.getElem?_cons_zero,Option.some.injEq]at hn;subst hn;rw [xw hc]at hc;exact hc
      |succ i=>exact aa6 l _ acc' h i n (by simpa using hn)
    · rw [if_pos hc]at h;cases h
def H7 (a:Int):List Int->Nat->Option Nat
  |[],_=>none
  |x::l,j=>if x=a then some j else H7 a l (j+1)
def Gx (a:Int):List Nd->Nat->Option (Nat×Nat)
  |[],_=>none
  |n::l,k=>match H7 a n.args 0 with
    |some j=>some (k,j)
    |none=>Gx a l (k+1)
theorem YN {a:Int}: ∀{l:List Int} {j j':Nat},H7 a l j=some j'-> ∃d,j'=j+d/\l[d]? =some a
  |[],j,j',h=>by simp [H7]at h
  |x::l,j,j',h=>by
    rw [H7]at h;by_cases hx:x=a
    · rw [if_pos hx]at h;cases h;exact⟨0,rfl,by simp [hx]⟩
    · rw [if_neg hx]at h;obtain⟨d,e1,e2⟩:=YN h;exact⟨d+1,by omega,by simpa using e2⟩
theorem YO {a:Int}: ∀{l:List Int} {j:Nat},H7 a l j=none-> ∀d:Nat,l[d]? ≠some a
  |[],j,h,d=>by simp
  |x::l,j,h,d=>by
    rw [H7]at h;by_cases hx:x=a
    · rw [if_pos hx]at h;cases h
    · rw [if_neg hx]at h;cases d with
      |zero=>simpa using hx
      |succ d=>simpa using YO h d
theorem U4 {a:Int}: ∀{l:List Nd} {k k' j:Nat},Gx a l k=some (k',j)-> ∃d n,k'=k+d/\l[d]? =some n/\n.args[j]? =some a
  |[],k,k',j,h=>by simp [Gx]at h
  |n::l,k,k',j,h=>by
    rw [Gx]at h;cases hf:H7 a n.args 0 with
    |some j'=>
      rw [hf]at h;cases h;obtain⟨d,e1,e2⟩:=YN hf;exact⟨0,n,rfl,rfl,by rw [e1,Nat.zero_add];exact e2⟩
    |none=>
      rw [hf]at h;obtain⟨d,m,e1,e2,e3⟩:=U4 h;exact⟨d+1,m,by omega,by simpa using e2,e3⟩
theorem U5 {a:Int}: ∀{l:List Nd} {k:Nat},Gx a l k=none-> ∀(d:Nat) n (j:Nat),l[d]? =some n->n.args[j]? ≠some a
  |[],k,h,d,n,j,hn=>by simp at hn
  |m::l,k,h,d,n,j,hn=>by
    rw [Gx]at h;cases hf:H7 a m.args 0 with
    |some j'=>rw [hf]at h;cases h
    |none=>
      rw [hf]at h;cases d with
      |zero=>simp only [List.getElem?_cons_zero,Option.some.injEq]at hn;subst hn;exact YO hf j
      |succ d=>exact U5 h d n j (by simpa using hn)
theorem T9 {e:List Nd} {k:Nat} {n:Nd} (hn:e[k]? =some n) (hl:n.args.length<=1000000) (a:Int): ∀j,j<=n.args.length->Ev (fun f=>jR f e a (k:Int) (j:Int)) (match H7 a (n.args.drop j) j with|some j'=> .inr ((k:Int),(j':Int))|none=> .inl ()):=by
  refine down ?_ fun j hj ih=> ?_
  · refine Ev.succ ?_;simp only [jR,Int.toNat_natCast,hn,Option.bind_some,nn,if_true];exact Ev.cF (kV _) (Ev.some' (by simp [H7]))
  · refine Ev.succ ?_;simp only [jR,Int.toNat_natCast,hn,bM hj,Option.bind_some,nn,if_true,mZ hj,cond_true,fK hj (show n.args.length<=1099511627776 by omega)];rw [drop_cons hj,H7];by_cases h:n.args[j]=a
    · refine Ev.cT (by rw [beq_iff_eq];exact h) (Ev.some' ?_);rw [if_pos h]
    · refine Ev.cF (by rw [beq_eq_false_iff_ne];exact h) ?_;rw [if_neg h];exact ih
theorem Ua {e:List Nd} (hL:jd e) (a:Int): ∀k,k<=e.length->Ev (fun f=>jS f e a (k:Int)) (match Gx a (e.drop k) k with|some (k',j)=> .inr ((k':Int),(j:Int))|none=> .inl ()):=by
  have hlen:=hL.len;refine down ?_ fun k hk ih=> ?_
  · refine Ev.succ ?_;simp only [jS];exact Ev.cF (kV _) (Ev.some' (by simp [Gx]))
  · refine Ev.succ ?_;simp only [jS];rw [fK hk (by omega)];have h0:=T9 (bM hk) (hL.nd k _ (bM hk)).2.2 a 0 (Nat.zero_le _);rw [List.drop_zero]at h0;refine Ev.cT (mZ hk) (Ev.bind h0 ?_);rw [drop_cons hk,Gx];cases H7 a e[k].args 0 with
    |some j=>simp only [bZ];exact Ev.some
    |none=>simp only [bT];exact ih
theorem BH {ts:List Tm} {e:List Nd} (he:e=bL 0 ts) (hL:jd e) {i:Nat} {P j:Int} (hi:i<e.length) (hp:(bG 0 ts)[i]? =some (P,j)):Ev (fun k=>mP k e (i:Int)) (P,j):=by
  have hlen:=hL.len;unfold mP;rw [fK hi (by omega)];refine Ev.bind (Ua hL (i:Int) (i+1) (by omega)) ?_;cases hf:Gx (i:Int) (e.drop (i+1)) (i+1)with
  |some q=>
    obtain⟨k',j'⟩:=q;obtain⟨d,n,e1,e2,e3⟩:=U4 hf;rw [List.getElem?_drop]at e2;rw [he]at e2;obtain⟨r,h1,h2,h3⟩:=Ot 0 ts (i+1+d) n j' (i:Int) e2 e3;obtain rfl:r=i:=by omega
    rw [hp]at h3;cases h3;simp only [bZ];exact Ev.some' (by rw [e1,Nat.zero_add])
  |none=>
    simp only [bT];rcases IV 0 ts i P j hp with⟨rfl,rfl⟩|⟨q,j',n,h1,h2,h3,h4,h5⟩
    · exact Ev.some
    · exfalso;rw [<-he]at h4;have:=U5 hf (q -(i+1)) n j' (by rw [List.getElem?_drop,show i+1+(q -(i+1))=q by omega];exact h4);rw [Nat.zero_add]at h5;exact this h5
theorem aeo {b:Nat} {p k p' k':Int} (t:Tm):(Ai b p k t).set (t.size -1) (p',k')=Ai b p' k' t:=by
  cases t with
  |mk x cs=>
    rw [yO,yO,show(mk x cs).size -1=sizes cs by unfold size;omega,List.set_append_right _ _ (by rw [jM];exact Nat.le_refl _),jM,Nat.sub_self];rfl
theorem P7 {i:Nat} {args:List Int} (hl:args.length<=1000000) (A B:List (Int×Int)) (last:List Tm) (ha:args=roots A.length last):
    ∀(rest:List Tm) (done:List Tm),last=done++rest->Ev (fun k=>mg k ((A++iI A.length (i:Int) 0 done++bG (A.length+sizes done) rest++B).map Prod.fst) ((A++iI A.length (i:Int) 0 done++bG (A.length+sizes done) rest++B).map Prod.snd) (i:Int) args (args.length:Int) (done.length:Int))
      ((A++iI A.length (i:Int) 0 last++B).map Prod.fst,(A++iI A.length (i:Int) 0 last++B).map Prod.snd):=by
  intro rest
  induction rest with
  |nil=>
    intro done hd;rw [List.append_nil]at hd;subst hd;refine Ev.succ ?_;simp only [mg];have:args.length=last.length:=by rw [ha,qd]
    rw [this];exact Ev.cF (kV _) (Ev.some' (by simp [bG]))
  |cons c rest ih=>
    intro done hd;have hpos:=c.size_pos;have hal:args.length=last.length:=by rw [ha,qd]
    have hdl:done.length<args.length:=by rw [hal,hd];simp
    have hget:args[done.length]? =some ((A.length+sizes done+c.size -1:Nat):Int):=by rw [ha,hd];exact Cb
    refine Ev.succ ?_;simp only [mg,Int.toNat_natCast,hget,Option.bind_some,nn,if_true,fK hdl (show args.length<=1099511627776 by omega)];refine Ev.cT (mZ hdl) ?_;have hL:(A++iI A.length (i:Int) 0 done).length=A.length+sizes done:=by rw [List.length_append,jM]
    have hset:(A++iI A.length (i:Int) 0 done++bG (A.length+sizes done) (c::rest)++B).set (A.length+sizes done+c.size -1) ((i:Int),(done.length:Int))=A++iI A.length (i:Int) 0 (done++[c])++bG (A.length+sizes (done++[c])) rest++B:=by
      have e1:iI A.length (i:Int) 0 (done++[c])=iI A.length (i:Int) 0 done++Ai (A.length+sizes done) (i:Int) (done.length:Int) c:=by
        have gen: ∀(d:List Tm) (b k:Nat),iI b (i:Int) k (d++[c])=iI b (i:Int) k d++Ai (b+sizes d) (i:Int) ((k+d.length:Nat):Int) c:=by
          intro d
          induction d with
          |nil=>intro b k;simp [iI,sizes]
          |cons x d ih=>
            intro b k;simp only [List.cons_append,iI,ih,List.append_assoc,sizes,Nat.add_assoc,List.length_cons];congr 4
            omega
        rw [gen,Nat.zero_add]
      rw [e1,dU,vV];show(A++iI A.length (i:Int) 0 done++(Ai (A.length+sizes done) (-1) 0 c++bG (A.length+sizes done+c.size) rest)++B).set _ _=_
      rw [List.append_assoc,List.set_append_right _ _ (by rw [hL];omega),hL,show A.length+sizes done+c.size -1 -(A.length+sizes done)=c.size -1 by omega];rw [List.append_assoc (Ai (A.length+sizes done) (-1) 0 c),List.set_append_left _ _ (by rw [iU];omega),aeo];simp only [List.append_assoc,Nat.add_assoc]
    have hin:A.length+sizes done+c.size -1<(A++iI A.length (i:Int) 0 done++bG (A.length+sizes done) (c::rest)++B).length:=by
      rw [List.length_append,List.length_append,hL,vW];simp only [sizes];omega
    rw [List.getElem?_map,List.getElem?_map,bM hin];simp only [Option.map_some,Option.bind_some];have:=ih (done++[c]) (by rw [hd,List.append_assoc];rfl);rw [<-hset,List.map_set,List.map_set]at this;rw [List.length_append]at this;exact this
theorem P8 {e:List Nd} (hL:jd e): ∀(l:List Nd) (acc:List Int) (ts:List Tm) (acc':List Int) (i:Nat),acc=qD 0 ts->sizes ts=i->l=e.drop i->i<=e.length->mI acc l= .inl acc'->
    ∃ts',bL 0 ts'=bL 0 ts++l/\acc'=qD 0 ts'/\Ev (fun k=>mh k ((bG 0 ts++List.replicate (e.length -i) ((-1:Int),(0:Int))).map Prod.fst) ((bG 0 ts++List.replicate (e.length -i) ((-1:Int),(0:Int))).map Prod.snd) e (e.length:Int) (i:Int)) ((bG 0 ts').map Prod.fst,(bG 0 ts').map Prod.snd):=by
  have hlen:=hL.len;intro l
  induction l with
  |nil=>
    intro acc ts acc' i ha hs hl hi h;have:e.length<=i:=by
      have:=congrArg List.length hl;rw [List.length_drop,List.length_nil]at this;omega
    obtain rfl:i=e.length:=by omega
    refine⟨ts,by simp,by rw [mI]at h;cases h;exact ha,Ev.succ ?_⟩;simp only [mh];exact Ev.cF (kV _) (Ev.some' (by simp))
  |cons n l ih=>
    intro acc ts acc' i ha hs hl hi h;have hlt:i<e.length:=by
      have:=congrArg List.length hl;rw [List.length_drop,List.length_cons]at this;omega
    rw [drop_cons hlt]at hl;obtain⟨rfl,rfl⟩:=List.cons.inj hl;rw [mI]at h;have hc:eH (rD acc acc.length e[i].args.reverse) e[i]=0:=by
      by_cases hc:eH (rD acc acc.length e[i].args.reverse) e[i]=0
      · exact hc
      · rw [if_pos hc]at h;cases h
    rw [if_neg (fun k=>k hc)]at h;obtain⟨front,last,e1,e2,e3,e4⟩:=row_step ha (xw hc);have hsz:sizes (front++[.mk (bare e[i]) last])=i+1:=by
      rw [dU,vV];unfold size;rw [<-hs,e1,dU];omega
    obtain⟨ts',h1,hb,h2⟩:=ih _ _ acc' (i+1) e4.symm hsz rfl hlt h;refine⟨ts',by rw [h1,e3,List.append_assoc];rfl,hb,Ev.succ ?_⟩;simp only [mh,Int.toNat_natCast,bM hlt,Option.bind_some,nn,if_true];rw [fK hlt (by omega)];refine Ev.cT (mZ hlt) ?_;have hrep:List.replicate (e.length -i) ((-1:Int),(0:Int))=((-1:Int),(0:Int))::List.replicate (e.length -(i+1)) ((-1:Int),(0:Int)):=by
      rw [show e.length -i=(e.length -(i+1))+1 by omega,List.replicate_succ]
    have hA:(bG 0 front).length=sizes front:=vW 0 front;have key:=P7 (i:=i) (args:=e[i].args) (hL.nd i _ (bM hlt)).2.2 (bG 0 front) (List.replicate (e.length -i) ((-1:Int),(0:Int))) last (by rw [hA];exact e2) last [] rfl;have hstart:bG 0 front++iI (bG 0 front).length (i:Int) 0 []++bG ((bG 0 front).length+sizes []) last++List.replicate (e.length -i) ((-1:Int),(0:Int))=bG 0 ts++List.replicate (e.length -i) ((-1:Int),(0:Int)):=by
      rw [hA,e1,EC];simp [iI,sizes]
    rw [hstart]at key;refine Ev.bind key ?_;have hend:bG 0 front++iI (bG 0 front).length (i:Int) 0 last++List.replicate (e.length -i) ((-1:Int),(0:Int))=bG 0 (front++[.mk (bare e[i]) last])++List.replicate (e.length -(i+1)) ((-1:Int),(0:Int)):=by
      rw [hA,EC,U1,yO,hrep];have:sizes front+sizes last=i:=by rw [<-dU,<-e1,hs]
      simp [this]
    rw [hend];exact h2
theorem YP {e:List Nd} (hL:jd e) {acc':List Int} (h:mI [] e= .inl acc'): ∃ts,e=bL 0 ts/\acc'=qD 0 ts/\Ev (fun k=>yM k e) ((bG 0 ts).map Prod.fst,(bG 0 ts).map Prod.snd):=by
  have hlen:=hL.len;obtain⟨ts',h1,hb,h2⟩:=P8 hL e [] [] acc' 0 rfl rfl rfl (Nat.zero_le _) h;refine⟨ts',by rw [h1];rfl,hb,?_⟩;unfold yM;refine Ev.kg ⟨rfl,by omega,by omega⟩ (Ev.kg ⟨by omega,by omega,by omega⟩ ?_);have e1:((bG 0 ([]:List Tm)++List.replicate (e.length -0) ((-1:Int),(0:Int))).map Prod.fst)=(Hg [(-1)] (e.length:Int):List Int):=by simp [bG,Hg]
  have e2:((bG 0 ([]:List Tm)++List.replicate (e.length -0) ((-1:Int),(0:Int))).map Prod.snd)=List.replicate e.length (0:Int):=by simp [bG]
  rw [e1,e2]at h2;exact Ev.bind h2 Ev.some
theorem KX {ts:List Tm} {i:Nat} {P j:Int} (hp:(bG 0 ts)[i]? =some (P,j)):(P= -1/\j=0)\/ ∃q:Nat,P=(q:Int)/\i<q/\q<(bL 0 ts).length:=by
  rcases IV 0 ts i P j hp with h|⟨q,j',n,h1,h2,h3,h4,h5⟩
  · exact .inl h
  · exact .inr ⟨q,by rw [h1,Nat.zero_add],h3,(List.getElem?_eq_some_iff.1 h4).1⟩
def IW (e:List Nd) (U:List (Int×Int)):Nat->Nat->Bool
  |0,_=>false
  |m+1,i=>match U[i]? with
    |some (P,j)=>if P<0 then false else(decide ((e[P.toNat]?.map Nd.kind)=some 19)&&decide (j=2))||IW e U m P.toNat
    |none=>false
section
variable {ts:List Tm} {e:List Nd}
theorem Ub (he:e=bL 0 ts): ∀(m i:Nat),e.length<=i+m->i<e.length->Ev (fun k=>nL k e ((bG 0 ts).map Prod.fst) ((bG 0 ts).map Prod.snd) (i:Int)) (if IW e (bG 0 ts) m i=true then .inr false else .inl ()):=by
  intro m
  induction m with
  |zero=>intro i h1 h2;omega
  |succ m ih=>
    intro i h1 h2;have hlt:i<(bG 0 ts).length:=by rw [vW,<-dW 0 ts,<-he];exact h2
    obtain⟨P,j,hU⟩: ∃P j,(bG 0 ts)[i]? =some (P,j):=⟨_,_,bM hlt⟩;refine Ev.succ ?_;have hf:((bG 0 ts).map Prod.fst)[i]? =some P:=by rw [List.getElem?_map,hU];rfl
    have hs:((bG 0 ts).map Prod.snd)[i]? =some j:=by rw [List.getElem?_map,hU];rfl
    simp only [nL,Int.toNat_natCast,hf,hs,Option.bind_some,nn,if_true];rw [IW,hU];simp only;rcases KX hU with⟨rfl,rfl⟩|⟨q,rfl,hq,hq2⟩
    · exact Ev.cF (by rfl) Ev.some
    · have hqe:q<e.length:=by rw [he];exact hq2
      refine Ev.cT (by rw [bne_iff_ne];omega) (Ev.kg (by omega) ?_);simp only [Int.toNat_natCast,bM hqe,Option.bind_some,Option.map_some,Option.some.injEq,show ¬(q:Int)<0 by omega,if_false];have ihq:=ih q (by omega) hqe;by_cases h3:e[q].kind=19
      · refine Ev.cT (by rw [h3];rfl) ?_;by_cases h4:j=2
        · refine Ev.cT (by rw [h4];rfl) (Ev.some' ?_);simp [h3,h4]
        · refine Ev.cF (by rw [beq_eq_false_iff_ne];exact h4) (ihq.to ?_);simp [h4]
      · refine Ev.cF (by rw [beq_eq_false_iff_ne];exact h3) (ihq.to ?_);simp [h3]
theorem agk (he:e=bL 0 ts) (hL:jd e): ∀(m i:Nat),e.length<=i+m->i<e.length-> ∀P j,(bG 0 ts)[i]? =some (P,j)-> ∀o:Bool,Ev (fun k=>pR k e P j o) (o||IW e (bG 0 ts) m i):=by
  intro m
  induction m with
  |zero=>intro i h1 h2;omega
  |succ m ih=>
    intro i h1 h2 P j hU o;refine Ev.succ ?_;rw [IW,hU];simp only;rcases KX hU with⟨rfl,rfl⟩|⟨q,rfl,hq,hq2⟩
    · simp only [pR];exact Ev.cF (by rfl) (Ev.some' (by simp))
    · have hqe:q<e.length:=by rw [he];exact hq2
      have hlt:q<(bG 0 ts).length:=by rw [vW,<-dW 0 ts];exact hq2
      obtain⟨P',j',hU'⟩: ∃P j,(bG 0 ts)[q]? =some (P,j):=⟨_,_,bM hlt⟩;simp only [pR];refine Ev.cT (decide_eq_true (by omega)) (Ev.jh (x:=o||(decide (e[q].kind=19)&&decide (j=2))) ?_ (Ev.bind (BH he hL hqe hU') ?_))
      · unfold Dc;cases o
        · simp only [Int.toNat_natCast,bM hqe,Option.bind_some,cond_false,nn,if_true,Bool.false_or];by_cases h3:e[q].kind=19
          · rw [pJ (by rw [h3];rfl)];by_cases h4:j=2
            · simp [h3,h4]
            · simp [h4]
          · rw [kC (by rw [beq_eq_false_iff_ne];exact h3)];simp [h3]
        · rfl
      · refine(ih q (by omega) hqe P' j' hU' _).to ?_;simp only [Int.toNat_natCast,bM hqe,Option.map_some,Option.some.injEq,show ¬(q:Int)<0 by omega,if_false,Bool.or_assoc]
theorem YQ (t:Str) (h:(dK fH t).2=true):ji t=false:=by
  have h1:((fH.map (·.text)).all fun t=> !ji t)=true:=by kernel_rfl
  by_cases hm:t∈fH.map (·.text)
  · simpa using List.all_eq_true.1 h1 t hm
  · rw [KV hm]at h;cases h
theorem YR {n:Nd} (h:eH true n=0) (hk:n.kind=3):(dK fH n.text).2= !ji n.text:=by
  cases ho:(dK fH n.text).2
  · unfold eH at h
    split at h;·cases h
    split at h;·cases h
    split at h;·cases h
    split at h;·cases h
    split at h
    · rename_i h1;exact absurd h h1
    · rename_i h1;have h1:tQ n=0:=by omega
      unfold tQ at h1
      split at h1;·cases h1
      cases hr:ji n.text
      · simp [hk,ho,hr]at h1
      · rfl
  · rw [YQ _ ho];rfl
def L6 (e:List Nd) (U:List (Int×Int)) (i:Nat):Bool:=match e[i]?,U[i]? with
  |some n,some (P,j)=>if n.kind=24 then(if P<0 then true else match e[P.toNat]? with
      |some m=>if m.kind=3 then(dK fH m.text).2 else true
      |none=>true)else if n.kind=20 then !IW e U e.length i else false
  |_,_=>false
theorem aag (he:e=bL 0 ts) (hL:jd e) {i:Nat} (hi:i<e.length):Ev (fun k=>Ey k e (i:Int) ((bG 0 ts).map Prod.fst) ((bG 0 ts).map Prod.snd)) (L6 e (bG 0 ts) i):=by
  have hlt:i<(bG 0 ts).length:=by rw [vW,<-dW 0 ts,<-he];exact hi
  obtain⟨P,j,hU⟩: ∃P j,(bG 0 ts)[i]? =some (P,j):=⟨_,_,bM hlt⟩;have hf:((bG 0 ts).map Prod.fst)[i]? =some P:=by rw [List.getElem?_map,hU];rfl
  unfold Ey L6;simp only [Int.toNat_natCast,bM hi,hf,Option.bind_some,nn,if_true,hU];by_cases h1:e[i].kind=24
  · refine Ev.cT (by rw [h1];rfl) ?_;simp only [h1,if_true];rcases KX hU with⟨rfl,rfl⟩|⟨q,rfl,hq,hq2⟩
    · exact Ev.cT (by rfl) Ev.some
    · have hqe:q<e.length:=by rw [he];exact hq2
      refine Ev.cF (by rw [beq_eq_false_iff_ne];omega) (Ev.kg (by omega) ?_);simp only [Int.toNat_natCast,bM hqe,Option.bind_some,show ¬(q:Int)<0 by omega,if_false];by_cases h2:e[q].kind=3
      · refine Ev.cF (by rw [h2];rfl) (Ev.bind (uG _) (Ev.some' ?_));simp only [h2,if_true]
      · refine Ev.cT (by rw [bne_iff_ne];exact h2) (Ev.some' ?_);simp only [h2,if_false]
  · refine Ev.cF (by rw [beq_eq_false_iff_ne];exact h1) ?_;simp only [h1,if_false];by_cases h2:e[i].kind=20
    · refine Ev.cT (by rw [h2];rfl) (Ev.bind (Ub he e.length i (by omega) hi) ?_);simp only [h2,if_true];cases IW e (bG 0 ts) e.length i
      · simp only [Bool.false_eq_true,if_false,bT];exact Ev.some
      · simp only [if_true,bZ];exact Ev.some
    · refine Ev.cF (by rw [beq_eq_false_iff_ne];exact h2) (Ev.some' ?_);simp only [h2,if_false]
def FQ (e:List Nd) (U:List (Int×Int)):Nat->Nat->Option Nat
  |0,_=>none
  |m+1,i=>if L6 e U i=true then some i else FQ e U m (i+1)
theorem Mt (he:e=bL 0 ts) (hL:jd e): ∀i,i<=e.length->Ev (fun k=>jB k e ((bG 0 ts).map Prod.fst) ((bG 0 ts).map Prod.snd) (e.length:Int) (i:Int)) (match FQ e (bG 0 ts) (e.length -i) i with|some j=> .inr ((j:Int),30)|none=> .inl ()):=by
  have hlen:=hL.len;refine down ?_ fun i hi ih=> ?_
  · refine Ev.succ ?_;simp only [jB];exact Ev.cF (kV _) (Ev.some' (by simp [FQ]))
  · refine Ev.succ ?_;simp only [jB];rw [fK hi (by omega)];refine Ev.cT (mZ hi) (Ev.bind (aag he hL hi) ?_);rw [show e.length -i=(e.length -(i+1))+1 by omega,FQ];cases L6 e (bG 0 ts) i
    · simp only [cond_false,Bool.false_eq_true,if_false];exact ih
    · exact Ev.some
theorem VT (he:e=bL 0 ts) (hL:jd e) (hok: ∀(i:Nat) n,e[i]? =some n->eH true n=0): ∀i,i<=e.length->Ev (fun k=>lU k e (i:Int)) (match FQ e (bG 0 ts) (e.length -i) i with|some j=> .inr ((j:Int),30)|none=> .inl ()):=by
  have hlen:=hL.len;refine down ?_ fun i hi ih=> ?_
  · refine Ev.succ ?_;simp only [lU];exact Ev.cF (kV _) (Ev.some' (by simp [FQ]))
  · refine Ev.succ ?_;have hlt:i<(bG 0 ts).length:=by rw [vW,<-dW 0 ts,<-he];exact hi
    obtain⟨P,j,hU⟩: ∃P j,(bG 0 ts)[i]? =some (P,j):=⟨_,_,bM hlt⟩;simp only [lU,Int.toNat_natCast,bM hi,Option.bind_some,nn,if_true];rw [fK hi (by omega)];refine Ev.cT (mZ hi) (Ev.bind (BH he hL hi hU) ?_);have asW:Ev (fun k=>zD k e P (decide (P>=0))) (match e[P.toNat]? with|some m=>decide (0<=P)&&decide (m.kind=3)&&ji m.text|none=>false):=by
      unfold zD;rcases KX hU with⟨rfl,rfl⟩|⟨q,rfl,hq,hq2⟩
      · refine Ev.cF (by rfl) (Ev.some' ?_);cases e[(-1:Int).toNat]? <;>rfl
      · have hqe:q<e.length:=by rw [he];exact hq2
        refine Ev.cT (decide_eq_true (by omega)) (Ev.kg (by omega) ?_);simp only [Int.toNat_natCast,bM hqe,Option.bind_some,nn,decide_true,Bool.true_and];by_cases h2:e[q].kind=3
        · refine Ev.cT (by rw [h2];rfl) (Ev.bind (Bw _ (by have:=(hL.nd q _ (bM hqe)).1;omega)) (Ev.some' ?_));simp only [h2,decide_true,Bool.true_and]
        · refine Ev.cF (by rw [beq_eq_false_iff_ne];exact h2) (Ev.some' ?_);simp only [h2,decide_false,Bool.false_and]
    refine Ev.bind asW ?_;have hold:=agk he hL e.length i (by omega) hi P j hU false;rw [Bool.false_or]at hold;rw [show e.length -i=(e.length -(i+1))+1 by omega,FQ];have hl:L6 e (bG 0 ts) i=if e[i].kind=24 then !(match e[P.toNat]? with|some m=>decide (0<=P)&&decide (m.kind=3)&&ji m.text|none=>false)else if e[i].kind=20 then !IW e (bG 0 ts) e.length i else false:=by
      unfold L6;simp only [bM hi,hU];rcases KX hU with⟨rfl,rfl⟩|⟨q,rfl,hq,hq2⟩
      · simp only [show(-1:Int)<0 by omega,if_true,show ¬(0:Int)<= -1 by omega,decide_false,Bool.false_and];cases e[(-1:Int).toNat]? <;>rfl
      · have hqe:q<e.length:=by rw [he];exact hq2
        simp only [Int.toNat_natCast,bM hqe,show ¬(q:Int)<0 by omega,if_false,nn,decide_true,Bool.true_and];by_cases h2:e[q].kind=3
        · simp only [h2,if_true,decide_true,Bool.true_and,YR (hok q _ (bM hqe)) h2]
        · simp only [h2,if_false,decide_false,Bool.false_and,Bool.not_false]
    rw [hl];generalize(match e[P.toNat]? with|some m=>decide (0<=P)&&decide (m.kind=3)&&ji m.text|none=>false)=lam
    refine Ev.jh (x:=decide (e[i].kind=24)&& !lam) (by
      unfold Db;by_cases h1:e[i].kind=24
      · rw [pJ (by rw [h1];rfl)];simp [h1]
      · rw [kC (by rw [beq_eq_false_iff_ne];exact h1)];simp [h1]) ?_
    by_cases h1:e[i].kind=24
    · simp only [h1,decide_true,Bool.true_and,if_true];cases lam
      · exact Ev.some
      · refine Ev.cF rfl (Ev.bind hold ?_);exact Ev.cF (by rfl) ih
    · simp only [h1,decide_false,Bool.false_and,cond_false,if_false];refine Ev.bind hold ?_;by_cases h2:e[i].kind=20
      · refine Ev.cT (by rw [h2];rfl) ?_;simp only [h2,if_true];cases IW e (bG 0 ts) e.length i
        · exact Ev.some
        · exact ih
      · refine Ev.cF (by rw [beq_eq_false_iff_ne];exact h2) (ih.to ?_);simp only [h2,if_false,Bool.false_eq_true]
end
structure Valid (e:List Nd):Prop where
  tree: ∃t,e=flat 0 t
  len:e.length<=160
  ok: ∀(i:Nat) n,e[i]? =some n->eH true n=0
theorem YS: ∀(l:List Nd) (acc:List Int) (p:Int×Int),mI acc l= .inr p->p.2≠0
  |[],acc,p,h=>by rw [mI]at h;cases h
  |n::l,acc,p,h=>by
    rw [mI]at h;by_cases hc:eH (rD acc acc.length n.args.reverse) n=0
    · rw [if_neg (fun k=>k hc)]at h;exact YS l _ p h
    · rw [if_pos hc]at h;cases h;exact hc
theorem Dq (e:List Nd) (hL:jd e): ∃r,Ev (fun k=>lZ k e) r/\Ev (fun k=>yK k e) r/\(r.2=0->Valid e):=by
  have hlen:=hL.len;by_cases h0:e.length=0
  · refine⟨(0,1),?_,?_,fun h=>by cases h⟩
    · unfold lZ;simp only [nC,Option.bind_some,h0];refine Ev.bind (wJ _ (by simp)) ?_;exact Ev.cT (by rfl) Ev.some
    · unfold yK;simp only [h0];exact Ev.cT (by rfl) Ev.some
  by_cases h1:160<e.length
  · refine⟨(0,2),?_,?_,fun h=>by cases h⟩
    · unfold lZ;have a:((e.length:Int)==0)=false:=by rw [beq_eq_false_iff_ne];omega
      have b:decide ((e.length:Int)>160)=true:=decide_eq_true (by omega);simp only [nC,Option.bind_some,a,b];refine Ev.bind (wJ _ (by simp)) ?_;exact Ev.cT (by rfl) Ev.some
    · unfold yK;refine Ev.cF (by rw [beq_eq_false_iff_ne];omega) ?_;exact Ev.cT (decide_eq_true (by omega)) Ev.some
  have a:((e.length:Int)==0)=false:=by rw [beq_eq_false_iff_ne];omega
  have b:decide ((e.length:Int)>160)=false:=decide_eq_false (by omega);have st:=Ms hL 0 (Nat.zero_le _) [] (oP.zero e);have sr:=VB hL 0 (Nat.zero_le _) [] (oP.zero e);rw [List.drop_zero]at st sr;have YT: ∀r,Ev (fun k=>Option.bind (jA k e ([]:List Int) (e.length:Int) ((0:Nat):Int)) (fun o=>Sum.elim (fun p40=>Option.bind (yM k e) fun p51=>Option.bind (jB k e p51.1 p51.2 (e.length:Int) ((0:Nat):Int)) (fun o=>Sum.elim (fun p58=>if 0<=(IntKind.wrap .i64 ((e.length:Int) -1))then Option.bind (p40[(IntKind.wrap .i64 ((e.length:Int) -1)).toNat]?) fun x65=>cond (x65 !=0) (some ((IntKind.wrap .i64 ((e.length:Int) -1)),15)) (some (0,0))else none) (fun p74=>some (p74.1,p74.2)) o)) (fun wS=>some (wS.1,wS.2)) o)) r->Ev (fun k=>lZ k e) r:=by
    intro r hr;unfold lZ;simp only [nC,Option.bind_some,a,b];refine Ev.bind (wJ _ (by simp)) ?_;exact Ev.cF (by rfl) hr
  have YU: ∀r,Ev (fun k=>Option.bind (nk k e ((0:Nat):Int)) (fun o=>Sum.elim (fun p9=>Option.bind (lU k e ((0:Nat):Int)) (fun o=>Sum.elim (fun UH=>Option.bind (qR k e (IntKind.wrap .i64 ((e.length:Int) -1))) fun Ji=>cond (Ji !=0) (some ((IntKind.wrap .i64 ((e.length:Int) -1)),15)) (some (0,0))) (fun Pw=>some (Pw.1,Pw.2)) o)) (fun Px=>some (Px.1,Px.2)) o)) r->Ev (fun k=>yK k e) r:=by
    intro r hr;unfold yK;exact Ev.cF a (Ev.cF b hr)
  cases hs:mI [] e with
  |inr p=>
    rw [hs]at st sr;refine⟨p,YT _ (Ev.bind st ?_),YU _ (Ev.bind sr ?_),fun h=>absurd h (YS _ _ _ hs)⟩
    · simp only [bZ];exact Ev.some
    · simp only [bZ];exact Ev.some
  |inl acc=>
    rw [hs]at st sr;obtain⟨ts,he,hacc,hpar⟩:=YP hL hs;have hok:=aa6 e [] acc hs;have lt:=Mt he hL 0 (Nat.zero_le _);have lr:=VT he hL hok 0 (Nat.zero_le _);cases hl:FQ e (bG 0 ts) (e.length -0) 0 with
    |some j=>
      rw [hl]at lt lr;refine⟨((j:Int),30),YT _ (Ev.bind st ?_),YU _ (Ev.bind sr ?_),fun h=>by cases h⟩
      · simp only [bT];refine Ev.bind hpar (Ev.bind lt ?_);simp only [bZ];exact Ev.some
      · simp only [bT];refine Ev.bind lr ?_;simp only [bZ];exact Ev.some
    |none=>
      rw [hl]at lt lr;have hOk:oP e e.length acc:=by
        have gen: ∀(l:List Nd) (i:Nat) (a:List Int),l=e.drop i->i<=e.length->oP e i a->mI a l= .inl acc->oP e e.length acc:=by
          intro l
          induction l with
          |nil=>
            intro i a hl hi ho h;rw [mI]at h;cases h;have:=congrArg List.length hl;rw [List.length_drop,List.length_nil]at this;obtain rfl:i=e.length:=by omega
            exact ho
          |cons n l ih=>
            intro i a hl hi ho h;have hlt:i<e.length:=by
              have:=congrArg List.length hl;rw [List.length_drop,List.length_cons]at this;omega
            rw [drop_cons hlt]at hl;obtain⟨rfl,rfl⟩:=List.cons.inj hl;rw [mI,ho.len]at h;by_cases hc:eH (rD a i e[i].args.reverse) e[i]=0
            · rw [if_neg (fun k=>k hc)]at h;exact ih (i+1) _ rfl hlt (ho.succ (bM hlt) (xw hc)) h
            · rw [if_pos hc]at h;cases h
        exact gen e 0 [] rfl (Nat.zero_le _) (oP.zero e) hs
      obtain⟨n,bb,h3,h4,h5,h6,_⟩:=hOk.at_ (e.length -1) (by omega);have hw:IntKind.wrap .i64 ((e.length:Int) -1)=((e.length -1:Nat):Int):=by rw [wrap64 (by omega) (by omega)];omega
      refine⟨if bb=0 then(0,0)else(((e.length -1:Nat):Int),15),YT _ (Ev.bind st ?_),YU _ (Ev.bind sr ?_),fun hr=> ?_⟩
      · simp only [bT];refine Ev.bind hpar (Ev.bind lt ?_);simp only [bT,hw,Int.toNat_natCast,h4,Option.bind_some,nn,if_true];by_cases hb:bb=0
        · exact Ev.cF (by rw [hb];rfl) (Ev.some' (by simp [hb]))
        · exact Ev.cT (by rw [bne_iff_ne];exact hb) (Ev.some' (by simp [hb]))
      · simp only [bT];refine Ev.bind lr ?_;simp only [bT,hw];refine Ev.bind (PG hOk hlen h4) ?_;by_cases hb:bb=0
        · exact Ev.cF (by rw [hb];rfl) (Ev.some' (by simp [hb]))
        · exact Ev.cT (by rw [bne_iff_ne];exact hb) (Ev.some' (by simp [hb]))
      · by_cases hb:bb=0
        case neg=>rw [if_neg hb]at hr;cases hr
        refine⟨?_,by omega,hok⟩;rcases List.eq_nil_or_concat ts with rfl|⟨l,t,rfl⟩
        · rw [he]at h0;simp [bL]at h0
        · rw [List.concat_eq_append]at*;have hsz:e.length=sizes l+t.size:=by rw [he,dW,dU,vV]
          have hpos:=t.size_pos;have hg:=TY (b:=0) (l:=l) (m:=[]) (t:=t);rw [<-hacc,Nat.zero_add,show sizes l+t.size -1=e.length -1 by omega,h4]at hg;have hl0:sizes l=0:=by have:=Option.some.inj hg;omega
          cases l with
          |nil=>exact⟨t,by rw [he];simp [bL]⟩
          |cons c l=>
            have:=c.size_pos;simp only [sizes]at hl0;omega
end Go.VL
end
section
namespace Go.VL
open Go.Proofs Go.RowKit
theorem agl {α:Type} (f:α->List PV) (sz:Nat) [hr:rR f sz] (l:List α):vY sz (.aB (l.map f) .unk) none (some (.int .i64 (l.length:Int))) (some (.int .i64 (l.length:Int)))=some (.aB (l.map f) .exact):=by
  have hl:Il sz (l.map f):=fun cs h=>by
    obtain⟨x,_,rfl⟩:=List.mem_map.1 h;exact hr.len x
  have h0:(0:Int)<=(l.length:Int):=by omega
  simp only [vY,oJ];rw [if_pos h0];simp only [Int.toNat_natCast,List.length_map,Option.isSome_some,and_true];rw [if_pos ⟨Nat.zero_le _,Nat.le_refl _,hl⟩];simp only [if_true];rw [List.take_of_length_le (by rw [List.length_map];exact Nat.le_refl _),List.drop_zero]
theorem YV (l:List Str):Pu (.aB (l.map aX) .exact):=by
  have h:=aU bN l;cases h with
  |aB _ _ h1 h2=>exact .aB _ _ h1 (by simp)
theorem aep (l:List Str) {c:Ck}:aF Tryz.prog 120 [.aB (l.map aX) c] (.aB (l.map aX) .exact):=by
  refine aF.wk (args:=[.aB (l.map aX) .unk]) ?_ (.aB .nil);refine aF.aP (bg.mem (.cons (aU bN _) .nil)) (aH aho (by simp) (aD ?_)) (YV l);unfold ahn;simp -implicitDefEqProofs only [go_sem,agl aX 1];first|done|exact .pure _ (YV l)
end Go.VL
end
section
namespace Go.VL
open Go.Proofs
theorem ajz {α:Type} {σ:Nat->PV} {H:AH} {sz b:Nat} {x y:AE} {f:α->List PV} (hf: ∀x,nP sz (f x)) (xs ys:List α) (c c2:Ck)
    (hx:x.ev σ= .aB (xs.map f) c) (hy:Jb (y.ev σ)= .aB (ys.map f) c2) (hok:cB H c) (hb:(xs.length+ys.length)*b<=1099511627776):
    ∃c' H',kM (.app sz b x y) σ H=some (.aB ((xs++ys).map f) c',H')/\cB H' c'/\H.next<=H'.next/\(∀i,H'.obj i=H.obj i)/\(∀c3,cB H c3->nZ c c3->cB H' c3/\nZ c' c3):=by
  have h:=ku (P:=Tryz.prog) (s:=[]) (Q:=fun e σ' H'=> ∃c',σ'=upd σ (some 0) (.aB ((xs++ys).map f) c')/\cB H' c'/\H.next<=H'.next/\(∀i,H'.obj i=H.obj i)/\(∀c3,cB H c3->nZ c c3->cB H' c3/\nZ c' c3)) (d:=some 0) (l:=[]) (H:=H) hf xs ys c c2 hx hy hok hb
    (fun c' H' h1 h2 h3 h4=>⟨c',rfl,h1,h2,h3,h4⟩)
  have h2:WD Tryz.prog (kM (.app sz b x y) σ H) (some 0) [] [] (fun e σ' H'=> ∃c',σ'=upd σ (some 0) (.aB ((xs++ys).map f) c')/\cB H' c'/\H.next<=H'.next/\(∀i,H'.obj i=H.obj i)/\(∀c3,cB H c3->nZ c c3->cB H' c3/\nZ c' c3)) σ:=by
    have h3:WO Tryz.prog (⟨some 0,.d (.app sz b x y),none⟩::[]) [] _ σ H:=h;rw [WO,adn]at h3;revert h3;cases kM (.app sz b x y) σ H with
    |none=>intro h3;exact h3
    |some q=>intro h3;exact h3
  revert h2;cases kM (.app sz b x y) σ H with
  |none=>intro h2;exact h2.elim
  |some q=>
    intro h2;obtain⟨c',e,h3⟩:=(h2: ∃c',upd σ (some 0) q.1=upd σ (some 0) (.aB ((xs++ys).map f) c')/\cB q.2 c'/\H.next<=q.2.next/\(∀i,q.2.obj i=H.obj i)/\(∀c3,cB H c3->nZ c c3->cB q.2 c3/\nZ c' c3));have e2:=congrFun e 0;simp only [upd,if_true]at e2;exact⟨c',q.2,by rw [<-e2],h3⟩
section
variable {α:Type}
def FR (rec:Int->List Str->α->Option α) (n:Nd) (bound:List Str):Nat->List Int->α->Option α
  |_,[],a=>some a
  |i,op::l,a=>Option.bind (mG n (i:Int)) fun b=>if(bound.length+b.length)*16<=1099511627776 then Option.bind (rec op (bound++b) a) fun a'=>FR rec n bound (i+1) l a' else none
def uH (step:α->Int->List Str->Option α) (e:List Nd):Nat->Int->List Str->α->Option α
  |0,_,_,_=>none
  |k+1,at_,bound,a=>Option.bind (step a at_ bound) fun a'=>if 0<=at_ then Option.bind (e[at_.toNat]?) fun n=>if n.args.length<=1099511627776 then FR (uH step e k) n bound 0 n.args a' else none else none
structure Visit (g:FuncId) (caps:List PV) (S:α->AH->Prop) (step:α->Int->List Str->Option α):Prop where
  stable: ∀a H H',S a H->H.next<=H'.next->(∀i,H'.obj i=H.obj i)->(∀c,cB H c->cB H' c)->S a H'
  call: ∀a at_ bound a' H,S a H->step a at_ bound=some a'->cK Tryz.prog g (.int .i64 at_:: .aB (bound.map aX) .unk::caps) H fun _ H'=>S a' H'
theorem aer {g:FuncId} {caps:List PV} {S:α->AH->Prop} {step:α->Int->List Str->Option α} (hv:Visit g caps S step) (e:List Nd) (k:Nat)
    (ih: ∀(at_:Int) (bound:List Str) (a a':α) (H:AH),S a H->uH step e k at_ bound a=some a'->cK Tryz.prog 70 [eU e,.int .i64 at_,yX bound,.fn (.func g) [] caps] H fun _ H'=>S a' H')
    (at_:Int) (bound:List Str) (n:Nd) (e2:0<=at_) (e3:e[at_.toNat]? =some n) (e4:n.args.length<=1099511627776):
    ∀(l:List Int) (i:Nat) (a a':α) (σ:Nat->PV) (H:AH),l=n.args.drop i->i<=n.args.length->σ 0=eU e->σ 1= .int .i64 at_->σ 2=yX bound->σ 3= .fn (.func g) [] caps->σ 18=W9 n.args->σ 19= .int .i64 n.args.length->σ 20= .int .i64 i->
      S a H->FR (uH step e k) n bound i l a=some a'-> ∀(Q:Post),(∀σ' H',S a' H'->Q (.exit 0) σ' H')->W Tryz.prog (.loop LJ) Q σ H:=by
  intro l
  induction l with
  |nil=>
    intro i a a' σ H hl hi s0 s1 s2 s3 pQ qE s20 hS h Q q0;have hii:i=n.args.length:=by
      have:=congrArg List.length hl;rw [List.length_drop,List.length_nil]at this;omega
    rw [FR]at h;cases h;refine aV (fun K hK=>aD ?_);unfold LJ;have hd:decide ((i:Int)<(n.args.length:Int))=false:=decide_eq_false (by omega);simp -implicitDefEqProofs only [go_sem,qE,s20,hd];exact q0 _ _ hS
  |cons op l ihl=>
    intro i a a' σ H hl hi s0 s1 s2 s3 pQ qE s20 hS h Q q0;have hlt:i<n.args.length:=by
      have:=congrArg List.length hl;rw [List.length_drop,List.length_cons]at this;omega
    have hop:n.args[i]? =some op:=by
      have:=congrArg (·[0]?) hl
      simpa [List.getElem?_drop]using this.symm
    have hl':l=n.args.drop (i+1):=by
      have:=congrArg List.tail hl;simpa using this
    rw [FR]at h;cases e5:mG n (i:Int)with
    |none=>rw [yY e5]at h;cases h
    |some b=>
    rw [yZ e5]at h;by_cases e6:(bound.length+b.length)*16<=1099511627776
    case neg=>rw [if_neg e6]at h;cases h
    rw [if_pos e6]at h;cases e7:uH step e k op (bound++b) a with
    |none=>rw [yY e7]at h;cases h
    |some a1=>
    rw [yZ e7]at h;refine aV (fun K hK=>aD ?_);unfold LJ;have hd:decide ((i:Int)<(n.args.length:Int))=true:=decide_eq_true (by omega);simp -implicitDefEqProofs only [go_sem,s0,s1,s2,s3,pQ,qE,s20,hd,List.getElem?_map,hop,Option.map_some];have hb:=adW e5;have hw:IntKind.wrap .i64 ((i:Int)+1)=((i+1:Nat):Int):=by rw [IntKind.wrap_i64];omega
    refine⟨fun _=>True,trivial,?_⟩;refine tq (eU e) (fun H' _=>by simp -implicitDefEqProofs only [go_sem,s0,s1,s2,s3,pQ,qE,s20,e2,e3,List.getElem?_map,Option.map_some]) ?_;refine tq (.int .i64 op) (fun H' _=>by simp -implicitDefEqProofs only [go_sem,s0,s1,s2,s3,pQ,qE,s20,e2,e3,List.getElem?_map,Option.map_some]) ?_;refine tq (yX bound) (fun H' _=>by simp -implicitDefEqProofs only [go_sem,s0,s1,s2,s3,pQ,qE,s20,e2,e3,List.getElem?_map,Option.map_some]) ?_;refine BM (.aB (bound.map aX) .exact) (by simp -implicitDefEqProofs only [go_sem,s0,s1,s2,s3,pQ,qE,s20,e2,e3,List.getElem?_map,Option.map_some];exact aep bound) ?_;refine tq (eU e) (fun H' _=>by simp -implicitDefEqProofs only [go_sem,s0,s1,s2,s3,pQ,qE,s20,e2,e3,List.getElem?_map,Option.map_some]) ?_;refine tq (.int .i64 at_) (fun H' _=>by simp -implicitDefEqProofs only [go_sem,s0,s1,s2,s3,pQ,qE,s20,e2,e3,List.getElem?_map,Option.map_some]) ?_;refine tq (.d9 n.cells 0) (fun H' _=>by simp -implicitDefEqProofs only [go_sem,s0,s1,s2,s3,pQ,qE,s20,e2,e3,List.getElem?_map,Option.map_some]) ?_;refine tq (.agg n.cells) (fun H' _=>by simp -implicitDefEqProofs only [go_sem,s0,s1,s2,s3,pQ,qE,s20,e2,e3,List.getElem?_map,Option.map_some]) ?_;refine tq (.int .i64 i) (fun H' _=>by simp -implicitDefEqProofs only [go_sem,s0,s1,s2,s3,pQ,qE,s20,e2,e3,List.getElem?_map,Option.map_some]) ?_;refine BM (yX b) (by simp -implicitDefEqProofs only [go_sem,s0,s1,s2,s3,pQ,qE,s20,e2,e3,List.getElem?_map,Option.map_some];exact hb) ?_;obtain⟨c',H',f1,f2,f3,f4,f5⟩:=ajz (σ:=(upd (upd (upd (upd (upd (upd (upd (upd (upd (upd (upd (upd (upd (upd (upd (upd σ (some 21) (PV.bool true)) (some 22) (PV.int IntKind.i64 ↑i)) (some 23) (PV.d9 [PV.int IntKind.i64 op] 0)) (some 24) (PV.int IntKind.i64 op)) (some 8) (PV.int IntKind.i64 ↑i)) (some 9) (PV.int IntKind.i64 op)) (some 25) (eU e)) (some 26) (.int .i64 op)) (some 27) (yX bound)) (some 28) (.aB (bound.map aX) .exact)) (some 29) (eU e)) (some 30) (.int .i64 at_)) (some 31) (.d9 n.cells 0)) (some 32) (.agg n.cells)) (some 33) (.int .i64 i)) (some 34) (yX b))) (H:=H) (sz:=1) (b:=16) (x:=AE.t 28) (y:=AE.t 34) AU bound b .exact .unk (by simp -implicitDefEqProofs only [go_sem,s0,s1,s2,s3,pQ,qE,s20,e2,e3,List.getElem?_map,Option.map_some]) (by simp -implicitDefEqProofs only [go_sem,s0,s1,s2,s3,pQ,qE,s20,e2,e3,List.getElem?_map,Option.map_some]) trivial e6;refine O8 _ H' f1 trivial ?_;refine tq (.fn (.func g) [] caps) (fun H' _=>by simp -implicitDefEqProofs only [go_sem,s0,s1,s2,s3,pQ,qE,s20,e2,e3,List.getElem?_map,Option.map_some]) ?_;have hS':S a H':=hv.stable a H H' hS f3 f4 fun c hc=>(f5 c hc .exact).1;rw [ae6];refine dx ?_;simp -implicitDefEqProofs only [go_sem,s0,s1,s2,s3,pQ,qE,s20,e2,e3,List.getElem?_map,Option.map_some];refine cK.mono (cK.wk (ih op (bound++b) a a1 H' hS' e7) (.same (.same (.aB (.same .nil))))) fun r H2 hS2=> ?_;simp -implicitDefEqProofs only [go_sem,s0,s1,s2,s3,pQ,qE,s20,e2,e3,List.getElem?_map,Option.map_some];refine hK _ _ ?_;refine ihl (i+1) a1 a' _ H2 hl' hlt ?_ ?_ ?_ ?_ ?_ ?_ ?_ hS2 h Q q0
    all_goals (simp -implicitDefEqProofs only [go_sem,s0,s1,s2,s3,pQ,qE,s20,e2,e3,List.getElem?_map,Option.map_some,hw];try rfl)
theorem aes {g:FuncId} {caps:List PV} {S:α->AH->Prop} {step:α->Int->List Str->Option α} (hv:Visit g caps S step) (e:List Nd):
    ∀(k:Nat) (at_:Int) (bound:List Str) (a a':α) (H:AH),S a H->uH step e k at_ bound a=some a'->cK Tryz.prog 70 [eU e,.int .i64 at_,yX bound,.fn (.func g) [] caps] H fun _ H'=>S a' H':=by
  intro k
  induction k with
  |zero=>intro at_ bound a a' H hS h;simp only [uH,reduceCtorEq]at h
  |succ k ih=>
    intro at_ bound a a' H hS h
    rw [uH]at h;cases e1:step a at_ bound with
    |none=>rw [yY e1]at h;cases h
    |some a1=>
    rw [yZ e1]at h;by_cases e2:0<=at_
    case neg=>rw [if_neg e2]at h;cases h
    rw [if_pos e2]at h;cases e3:e[at_.toNat]? with
    |none=>rw [yY e3]at h;cases h
    |some n=>
    rw [yZ e3]at h;by_cases e4:n.args.length<=1099511627776
    case neg=>rw [if_neg e4]at h;cases h
    rw [if_pos e4]at h;refine aH afA (by simp) (aD ?_);unfold alv;simp -implicitDefEqProofs only [go_sem];refine cK.mono (hv.call a at_ bound a1 H hS e1) fun r H1 hS1=> ?_;simp -implicitDefEqProofs only [go_sem,e2,e3];refine aer hv e k ih at_ bound n e2 e3 e4 n.args 0 a1 a' _ H1 rfl (Nat.zero_le _) ?_ ?_ ?_ ?_ ?_ ?_ ?_ hS1 h _ ?_
    all_goals first
      |(simp -implicitDefEqProofs only [go_sem];done)
      |skip
    intro σ' H' hS';exact hS'
end
end Go.VL
end
section
set_option maxHeartbeats 4000000
namespace Go.VL
open Go.Proofs
def jl:Nat->(List Nd)->(List Str)->Int->Int->Option (List Str)
  |0,_,_,_,_=>none
  |k+1,aG,ig,IX,DV=>
    cond (decide (IX>=0)) (if 0<=IX then Option.bind (aG[IX.toNat]?) fun x5=>Option.bind (wu x5 DV) fun p8=>if(([]:List Str).length+p8.length)*16<=1099511627776 then if((([]:List Str)++p8).length+ig.length)*16<=1099511627776 then Option.bind (mP k aG IX) fun p25=>jl k aG ((([]:List Str)++p8)++ig) p25.1 p25.2 else none else none else none) (some (ig))
def JA:List Nat:=[5,6,7]++List.range' 14 17
theorem Uc: ∀(k:Nat) (aG:List Nd) (ig:List Str) (IX:Int) (DV:Int) (Aj:Ck) (aC σ:Nat->PV) (H0 H:AH) (f0:Fr JA aC σ) (hf0:HF [] H0 H) (sl:σ 0=(.aB (aG.map Nd.cells) .unk)/\σ 5=(.aB (ig.map aX) Aj)/\σ 6=(.int .i64 IX)/\σ 7=(.int .i64 DV)) (o:List Str) (h:jl k aG ig IX DV=some o) (Q:Post) (q0: ∀(p:List Str) (c0:Ck) (σ':Nat->PV) (H':AH),o=p->Fr JA aC σ'->HF [] H0 H'->(σ' 5=(.aB (p.map aX) c0))->Q (.exit 0) σ' H'),W Tryz.prog (.loop Rk) Q σ H:=by
  intro k
  induction k with
  |zero=>intro aG ig IX DV Aj aC σ H0 H f0 hf0 sl o h Q q0;simp only [jl,reduceCtorEq]at h
  |succ k ih=>
    intro aG ig IX DV Aj aC σ H0 H f0 hf0 sl o h Q q0;obtain⟨s0,s5,s6,s7⟩:=sl;have hle0:=hf0.1;unfold jl at h;refine aV (fun K hK=>aD ?_);unfold Rk;rcases av h with⟨e3,h⟩|⟨e3,h⟩
    ·obtain⟨e4,h⟩:=aO h;obtain⟨x5,e6,h⟩:=aj h;obtain⟨p8,e7,h⟩:=aj h;try refine ah ?_
     refine aA (adV e7) ?_;try refine ah ?_
     refine aH afx (by simp) (aD ?_);unfold afw;obtain⟨e14,h⟩:=aO h;try refine ah ?_
     refine ku (f:=aX) AU ([]:List Str) (p8:List Str) .exact .unk au au fE (by first|exact e14|(simp only [List.length_cons,List.length_nil];exact e14)) (fun c10 H11 akC le asX axG=> ?_);have Yv:HF [] _ H11:=⟨le,fun i _ _=>asX i⟩;try simp only [AH.aI,AH.aJ,AH.aL,AH.aM]at le
     obtain⟨e21,h⟩:=aO h;try refine ah ?_
     refine ku (f:=aX) AU (([]:List Str)++p8) (ig:List Str) c10 Aj au au fE (by first|exact e21|(simp only [List.length_cons,List.length_nil];exact e21)) (fun c17 H18 anJ le asY agm=> ?_);have asZ:HF [] _ H18:=⟨le,fun i _ _=>asY i⟩;try simp only [AH.aI,AH.aJ,AH.aL,AH.aM]at le
     obtain⟨p25,e24,h⟩:=aj h;try refine ah ?_
     refine aA (Da e24) ?_;try refine ah ?_
     refine hK _ _ ?_;exact ih aG ((([]:List Str)++p8)++ig) p25.1 p25.2 c17 _ _ _ _ aN (by repeat (first|exact hf0|refine HF.new ?_|refine HF.eG ?_|refine HF.used ?_|refine HF.put (by first|(right;omega)|(left;simp only [List.mem_cons,true_or,or_true])) ?_|refine HF.via Yv (by first|exact fun i hi=>absurd hi List.not_mem_nil|(intro i hi;simp only [List.mem_cons,List.not_mem_nil,or_false]at hi⊢;first|exact .inl hi|omega)) ?_|refine HF.via asZ (by first|exact fun i hi=>absurd hi List.not_mem_nil|(intro i hi;simp only [List.mem_cons,List.not_mem_nil,or_false]at hi⊢;first|exact .inl hi|omega)) ?_)) au _ h _ q0
    ·obtain rfl:=ak h;try refine ah ?_
     exact q0 _ Aj _ _ rfl aN (by repeat (first|exact hf0|refine HF.new ?_|refine HF.eG ?_|refine HF.used ?_|refine HF.put (by first|(right;omega)|(left;simp only [List.mem_cons,true_or,or_true])) ?_)) au
def mq (k:Nat) (aG:List Nd) (dz:Int):Option (List Str):=
  Option.bind (mP k aG dz) fun p2=>Option.bind (jl k aG ([]:List Str) p2.1 p2.2) (fun p28=>some p28)
theorem aah {k:Nat} {aG:List Nd} {dz:Int} {c0:Ck} {r:List Str} (h:mq k aG dz=some r):aF Tryz.prog 36 [(.aB (aG.map Nd.cells) c0),(.int .i64 dz)] (.aB (r.map aX) .unk):=by
  refine aF.lw (.aB (.same .nil)) (aF.aP (bg.mem (.cons (aU Nd.pu _) (.cons (.int _ _) .nil))) (aH arp (by simp) (aD ?_)) (aU bN _));unfold mq at h;unfold akX;obtain⟨p2,e1,h⟩:=aj h;try refine ah ?_
  refine aA (Da e1) ?_;try refine ah ?_
  obtain⟨o26,h27,h⟩:=aj h;refine Uc k aG ([]:List Str) p2.1 p2.2 .nil _ _ _ _ (Fr.refl _ _) (HF.refl _ _) au _ h27 _ ?_
  ·rintro p28 c32 σ' H31 eo N7 afD s33;rw [eo]at h;have le:=afD.1;try simp only [AH.aI,AH.aJ,AH.aL,AH.aM]at le
   obtain rfl:=ak h;try refine ah ?_
   exact(dN bN _ _)
end Go.VL
end
section
namespace Go.VL
open Tm
def wK (n:Nd) (p:Nat):List Str:=(mG n (p:Int)).getD []
theorem YW {n:Nd} (h:eH true n=0) (hk:n.kind=23):n.args.length=2/\1<=n.names.length:=by
  unfold eH at h
  split at h;·cases h
  split at h;·cases h
  rename_i _ h1;have h1:qX n=true:=by simpa using h1
  unfold qX at h1;have hs:gV 23=((1,5,2,2),false):=by kernel_rfl
  rw [hk,hs]at h1;simp [gU]at h1;omega
theorem JB {n:Nd} (h:eH true n=0) (hl:n.args.length<=1000000) (p:Nat):mG n (p:Int)=some (wK n p):=by
  have hj: ∃b,nA n.kind=some b:=by
    unfold nA
    repeat' first
      |exact⟨_,rfl⟩
      |(generalize(n.kind==_)=b;cases b<;>simp only [cond_true,cond_false])
  obtain⟨b,hb⟩:=hj;have: ∃r,mG n (p:Int)=some r:=by
    unfold mG;rw [hb,Option.bind_some];cases b with
    |true=>rw [cond_true];cases((p:Int)==IntKind.wrap .i64 ((n.args.length:Int) -1))<;>exact⟨_,rfl⟩
    |false=>
      rw [cond_false];by_cases hk:n.kind=23
      · obtain⟨h1,h2⟩:=YW h hk;rw [pJ (by rw [hk];rfl)];rw [if_pos h2,if_pos h2];cases((p:Int)==IntKind.wrap .i64 ((n.args.length:Int) -1))<;>cases(n.n==1)<;>exact⟨_,rfl⟩
      · rw [kC (by rw [beq_eq_false_iff_ne];exact hk)];exact⟨_,rfl⟩
  obtain⟨r,hr⟩:=this;unfold wK;rw [hr];rfl
theorem VU {n:Nd} (h:eH true n=0) (hl:n.args.length<=1000000) (p:Nat):wu n (p:Int)=some (wK n p):=by
  rw [<-JB h hl];unfold wu mG;show Option.bind (nA n.kind) _=_
  cases nA n.kind with
  |none=>rfl
  |some b=>
    rw [Option.bind_some,Option.bind_some];cases b with
    |true=>rfl
    |false=>
      rw [cond_false,cond_false];by_cases hk:n.kind=23
      · obtain⟨h1,h2⟩:=YW h hk;rw [h1];rfl
      · rw [kC (by rw [beq_eq_false_iff_ne];exact hk),kC (by rw [beq_eq_false_iff_ne];exact hk)]
theorem KY {n:Nd} {m:Nat} (hm:n.names.length<=m) (p:Nat):(wK n p).length<=m:=by
  have key: ∀r,mG n (p:Int)=some r->r.length<=m:=by
    intro r hr;unfold mG at hr;cases hj:nA n.kind with
    |none=>rw [hj]at hr;cases hr
    |some b=>
      rw [hj,Option.bind_some]at hr;cases b with
      |true=>
        rw [cond_true]at hr;cases e:((p:Int)==IntKind.wrap .i64 ((n.args.length:Int) -1))<;>rw [e]at hr<;>cases hr
        · exact Nat.zero_le _
        · exact hm
      |false=>
        rw [cond_false]at hr;cases e0:(n.kind==23)<;>rw [e0]at hr
        · cases hr;exact Nat.zero_le _
        · rw [cond_true]at hr;by_cases h1:1<=n.names.length
          · rw [if_pos h1,if_pos h1]at hr;cases e:((p:Int)==IntKind.wrap .i64 ((n.args.length:Int) -1))<;>rw [e]at hr
            · cases e2:(n.n==1)<;>rw [e2]at hr<;>cases hr
              · simp;omega
              · exact hm
            · cases hr;simp;omega
          · rw [if_neg h1,if_neg h1]at hr;cases e:((p:Int)==IntKind.wrap .i64 ((n.args.length:Int) -1))<;>rw [e]at hr
            · cases e2:(n.n==1)<;>rw [e2]at hr<;>cases hr;exact hm
            · cases hr
  unfold wK;cases h:mG n (p:Int)with
  |none=>exact Nat.zero_le _
  |some r=>exact key r h
mutual
def vis (b:Nat) (bd:List Str):Tm->List (Nat×List Str)
  | .mk x cs=>(b+sizes cs,bd)::yw b bd (nd x b cs) 0 cs
def yw (b:Nat) (bd:List Str) (n:Nd) (j:Nat):List Tm->List (Nat×List Str)
  |[]=>[]
  |c::cs=>vis b (bd++wK n j) c++yw (b+c.size) bd n (j+1) cs
end
theorem Cg {b:Nat} {bd:List Str} {n:Nd} {j:Nat} {c:Tm} {cs:List Tm}:yw b bd n j (c::cs)=vis b (bd++wK n j) c++yw (b+c.size) bd n (j+1) cs:=by rw [yw]
theorem KZ {b:Nat} {bd:List Str} {x:Nd} {cs:List Tm}:vis b bd (.mk x cs)=(b+sizes cs,bd)::yw b bd (nd x b cs) 0 cs:=by rw [vis]
section
variable {α:Type}
def Ak (step:α->Int->List Str->Option α):List (Nat×List Str)->α->Option α
  |[],a=>some a
  |v::l,a=>Option.bind (step a (v.1:Int) v.2) fun a'=>Ak step l a'
theorem M8 (step:α->Int->List Str->Option α): ∀(l m:List (Nat×List Str)) (a:α),Ak step (l++m) a=Option.bind (Ak step l a) fun a'=>Ak step m a'
  |[],m,a=>rfl
  |v::l,m,a=>by
    rw [List.cons_append,Ak,Ak];cases step a (v.1:Int) v.2 with
    |none=>rfl
    |some a'=>exact M8 step l m a'
structure K3 (e:List Nd):Prop where
  len:e.length<=170
  ok: ∀(i:Nat) n,e[i]? =some n->eH true n=0
  few: ∀(i:Nat) n,e[i]? =some n->n.args.length<=34/\n.names.length<=34
variable {e:List Nd} (hF:K3 e) (step:α->Int->List Str->Option α)
include hF
mutual
theorem YX: ∀(t:Tm) (b:Nat) (bd:List Str) (k:Nat) (a:α),Seg e b t->t.size<=k->bd.length+34*(b+t.size -1)<=10000->uH step e k ((b+t.size -1:Nat):Int) bd a=Ak step (vis b bd t) a
  | .mk x cs,b,bd,k,a,hS,hk,hb=>by
    have hn:=hS.node;have hsz:b+(Tm.mk x cs).size -1=b+sizes cs:=by simp only [size];omega
    rw [hsz]at hb⊢;obtain⟨k,rfl⟩: ∃j,k=j+1:=⟨k -1,by simp only [size]at hk;omega⟩;rw [uH,KZ,Ak];cases step a ((b+sizes cs:Nat):Int) bd with
    |none=>rfl
    |some a'=>
      simp only [Option.bind_some,nn,if_true,Int.toNat_natCast,hn];have hl:(nd x b cs).args.length<=1099511627776:=by have:=(hF.few _ _ hn).1;omega
      rw [if_pos hl];exact U6 cs x [] b bd k a' hS (by simp only [size]at hk;omega) (by simp only [List.nil_append];omega)
theorem U6: ∀(cs:List Tm) (x:Nd) (l:List Tm) (b:Nat) (bd:List Str) (k:Nat) (a:α),Seg e b (.mk x (l++cs))->sizes cs<=k->bd.length+34*(b+sizes (l++cs))<=10000->
    FR (uH step e k) (nd x b (l++cs)) bd l.length (roots (b+sizes l) cs) a=Ak step (yw (b+sizes l) bd (nd x b (l++cs)) l.length cs) a
  |[],x,l,b,bd,k,a,hS,hk,hb=>by rw [roots,FR,yw,Ak]
  |c::cs,x,l,b,bd,k,a,hS,hk,hb=>by
    have hn:=hS.node;have agn:=hF.few _ _ hn;have hbl:=KY agn.2 l.length;have hcp:=c.size_pos;have hsz:sizes (l++c::cs)=sizes l+(c.size+sizes cs):=by rw [dU,sizes]
    rw [hsz]at hb;rw [roots,FR,Cg,M8,JB (hF.ok _ _ hn) (by omega),Option.bind_some,if_pos (by omega)];have hk2:sizes (c::cs)=c.size+sizes cs:=by rw [sizes]
    rw [YX c (b+sizes l) (bd++wK (nd x b (l++c::cs)) l.length) k a hS.kid (by omega) (by rw [List.length_append];omega)];cases Ak step (vis (b+sizes l) (bd++wK (nd x b (l++c::cs)) l.length) c) a with
    |none=>rfl
    |some a'=>
      have e1:l++c::cs=(l++[c])++cs:=by simp
      have e2:l.length+1=(l++[c]).length:=by simp
      have e3:b+sizes l+c.size=b+sizes (l++[c]):=by rw [dU,vV];omega
      rw [Option.bind_some,Option.bind_some,e1,e2,e3];exact U6 cs x (l++[c]) b bd k a' (by rw [<-e1];exact hS) (by omega) (by rw [<-e1,hsz];omega)
end
end
end Go.VL
end
section
namespace Go.VL
theorem K4: ∀a b:Str,strLt a b=true↔a<b
  |[],[]=>by simp [strLt]
  |a::x,[]=>by simp [strLt]
  |[],b::y=>by simp [strLt]
  |a::x,b::y=>by
    rw [strLt,List.cons_lt_cons_iff,Bool.or_eq_true,Bool.and_eq_true,decide_eq_true_eq,beq_iff_eq,K4 x y]
theorem tri (a b:Str):a<b\/a=b\/b<a:=by
  rcases List.le_total a b with h|h
  · by_cases e:a=b
    · exact .inr (.inl e)
    · by_cases h2:a<b
      · exact .inl h2
      · exact absurd (List.le_antisymm h (List.not_lt.1 h2)) e
  · by_cases e:a=b
    · exact .inr (.inl e)
    · by_cases h2:b<a
      · exact .inr (.inr h2)
      · exact absurd (List.le_antisymm (List.not_lt.1 h2) h) e
def ED (s:Str):List Str->List Str
  |[]=>[s]
  |x::l=>if strLt x s=true then x::ED s l else if x=s then x::l else s::x::l
def Ud (l:List Str):List Str:=l.foldl (fun a s=>ED s a) []
theorem Ou {s y:Str}: ∀{l:List Str},y∈ED s l↔y=s\/y∈l
  |[]=>by simp [ED]
  |x::l=>by
    rw [ED];split
    · simp only [List.mem_cons,Ou (l:=l)];constructor
      · rintro(h|h|h)<;>simp [h]
      · rintro(h|h|h)<;>simp [h]
    · split
      · rename_i h;subst h;simp
      · simp
theorem YZ {s:Str}: ∀{l:List Str},l.Pairwise (·< ·)->(ED s l).Pairwise (·< ·)
  |[],_=>by simp [ED]
  |x::l,h=>by
    rw [ED];obtain⟨h1,h2⟩:=List.pairwise_cons.1 h;split
    · rename_i hx;refine List.pairwise_cons.2 ⟨fun y hy=> ?_,YZ h2⟩;rcases Ou.1 hy with rfl|hy
      · exact(K4 _ _).1 hx
      · exact h1 y hy
    · rename_i hx;split
      · exact h
      · rename_i hne;have hlt:s<x:=by
          rcases tri s x with h|h|h
          · exact h
          · exact absurd h.symm hne
          · exact absurd ((K4 _ _).2 h) hx
        refine List.pairwise_cons.2 ⟨fun y hy=> ?_,h⟩;rcases List.mem_cons.1 hy with rfl|hy
        · exact hlt
        · exact List.lt_trans hlt (h1 y hy)
theorem Ov: ∀(l a:List Str),a.Pairwise (·< ·)->(l.foldl (fun a s=>ED s a) a).Pairwise (·< ·)/\ ∀y,y∈l.foldl (fun a s=>ED s a) a↔y∈l\/y∈a
  |[],a,h=>⟨h,fun y=>by simp⟩
  |s::l,a,h=>by
    obtain⟨h1,h2⟩:=Ov l (ED s a) (YZ h);refine⟨h1,fun y=> ?_⟩;rw [List.foldl_cons,h2 y,Ou,List.mem_cons];constructor
    · rintro(h|h|h)<;>simp [h]
    · rintro((h|h)|h)<;>simp [h]
theorem agp (l:List Str):(Ud l).Pairwise (·< ·):=(Ov l [] List.Pairwise.nil).1
theorem agq {l:List Str} {y:Str}:y∈Ud l↔y∈l:=by rw [Ud,(Ov l [] List.Pairwise.nil).2 y];simp
theorem agr {l m:List Str} (hl:l.Pairwise (·< ·)) (hm:m.Pairwise (·< ·)) (h: ∀y,y∈l↔y∈m):l=m:=by
  have nd: ∀{l:List Str},l.Pairwise (·< ·)->l.Nodup:=fun h=>h.imp (S:=fun a b=>a≠b) fun{a b} hab e=>List.lt_irrefl a (by rw [<-e]at hab;exact hab)
  have hp:l.Perm m:=(List.perm_ext_iff_of_nodup (nd hl) (nd hm)).2 h
  exact List.Perm.eq_of_pairwise (le:=(·< ·)) (fun a b _ _ h1 h2=>absurd (List.lt_trans h1 h2) (List.lt_irrefl a)) hl hm hp
theorem EF (d:Array Str) (hd: ∀i j,i<j->j<d.size->d[i]! <=d[j]!): ∀m,m<=d.size->(Lib.compactUpTo d m).Pairwise (·< ·)/\(∀x∈Lib.compactUpTo d m,∃j,j<m/\x=d[j]!)/\(∀j,j<m->d[j]! ∈Lib.compactUpTo d m)
  |0,_=>⟨List.Pairwise.nil,fun x h=>(by simp [Lib.compactUpTo]at h),fun j h=>absurd h (Nat.not_lt_zero _)⟩
  |m+1,hm=>by
    obtain⟨h1,h2,h3⟩:=EF d hd m (by omega);rw [Lib.compactUpTo_succ];cases hk:Lib.keeps d m with
    |true=>
      rw [if_pos rfl];refine⟨List.pairwise_append.2 ⟨h1,List.pairwise_singleton _ _,fun a ha b hb=> ?_⟩,fun x hx=> ?_,fun j hj=> ?_⟩
      · rw [List.mem_singleton]at hb;subst hb;obtain⟨j,hj,rfl⟩:=h2 a ha;have hne:d[m]! ≠d[m -1]! :=by
          unfold Lib.keeps at hk;rw [decide_eq_true_eq]at hk;rcases hk with h|h
          · omega
          · exact h
        have h4:d[j]! <=d[m -1]! :=by
          by_cases e:j=m -1
          · rw [e];exact List.le_refl _
          · exact hd j (m -1) (by omega) (by omega)
        have h5:d[m -1]! <=d[m]! :=hd (m -1) m (by omega) (by omega);have h6:d[m -1]! <d[m]! :=by
          rcases tri d[m -1]! d[m]! with h|h|h
          · exact h
          · exact absurd h.symm hne
          · exact absurd (List.le_antisymm h5 (List.le_of_lt h)).symm hne
        rcases tri d[j]! d[m]! with h|h|h
        · exact h
        · rw [h]at h4;exact absurd (List.le_antisymm h4 h5) hne
        · have h7:=List.lt_trans h6 h;exact absurd (List.le_antisymm h4 (List.le_of_lt h7)) (fun e=>List.lt_irrefl _ (e▸h7))
      · rcases List.mem_append.1 hx with hx|hx
        · obtain⟨j,hj,e⟩:=h2 x hx;exact⟨j,by omega,e⟩
        · rw [List.mem_singleton]at hx;exact⟨m,Nat.lt_succ_self _,hx⟩
      · by_cases e:j=m
        · subst e;exact List.mem_append_right _ (List.mem_singleton.2 rfl)
        · exact List.mem_append_left _ (h3 j (by omega))
    |false=>
      rw [if_neg (by simp),List.append_nil];refine⟨h1,fun x hx=> ?_,fun j hj=> ?_⟩
      · obtain⟨j,hj,e⟩:=h2 x hx;exact⟨j,by omega,e⟩
      · by_cases e:j=m
        · subst e;unfold Lib.keeps at hk;rw [decide_eq_false_iff_not,not_or,Decidable.not_not]at hk;rw [hk.2];exact h3 (j -1) (by omega)
        · exact h3 j (by omega)
theorem Y0 (l:List Str):Lib.compact (l.mergeSort fun x y=>decide (x<=y))=Ud l:=by
  have tr: ∀a b c:Str,decide (a<=b)=true->decide (b<=c)=true->decide (a<=c)=true:=fun a b c h1 h2=>by simp only [decide_eq_true_eq]at*;exact List.le_trans h1 h2
  have tot: ∀a b:Str,(decide (a<=b)||decide (b<=a))=true:=fun a b=>by simp only [Bool.or_eq_true,decide_eq_true_eq];exact List.le_total a b
  have hs:=List.pairwise_mergeSort (le:=fun x y:Str=>decide (x<=y)) tr tot l;have hp:=List.mergeSort_perm l (fun x y:Str=>decide (x<=y));generalize(l.mergeSort fun x y=>decide (x<=y))=m at hs hp;have hd: ∀i j,i<j->j<m.toArray.size->m.toArray[i]! <=m.toArray[j]! :=fun i j hij hj=>by
    have hj':j<m.length:=by simpa using hj
    have:=List.pairwise_iff_getElem.1 hs i j (by omega) hj' hij;rw [decide_eq_true_eq]at this;simp [hj',show i<m.length by omega];exact this
  obtain⟨h1,h2,h3⟩:=EF m.toArray hd m.length (by simp);refine agr h1 (agp l) fun y=> ?_;rw [agq,<-hp.mem_iff];constructor
  · intro h;obtain⟨j,hj,rfl⟩:=h2 y h;simp [hj]
  · intro h;obtain⟨j,hj,rfl⟩:=List.getElem_of_mem h;have:=h3 j hj;unfold Lib.compact;simpa [hj]using this
end Go.VL
end
section
namespace Go.VL
open Go.Proofs Go.RowKit
theorem acz {G:Gh} {n:Nat} {es:List (List PV)} {v:Value} (h:V G n (.aB es .unk) v): ∃ad cap,v= .slice ad es.length cap/\es.length<=cap/\ ∀sz,(∀cs∈es,cs.length=sz)->es≠[]-> ∃b o,ad=some ⟨b,o,none⟩/\ ∃f:Nat->Nat->Value,(∀(i:Nat) (cs:List PV),es[i]? =some cs-> ∀(j:Nat) (c:PV),cs[j]? =some c->G.F ⟨b,o+i*sz+j,none⟩=some (f i j))/\ ∀(i:Nat) (cs:List PV) (j:Nat) (c:PV),es[i]? =some cs->cs[j]? =some c->V G n c (f i j):=by
  generalize hp:PV.aB es .unk=p at h;cases h with
  |aB es' c sz ad cap f h1 h2 h3 h4 h5=>
    cases hp;refine⟨ad,cap,rfl,h2,fun sz' hsz hne=> ?_⟩;obtain⟨b,o,e1,e2⟩:=h3 hne;have:sz=sz':=by
      obtain⟨cs,l',hl⟩:=List.exists_cons_of_ne_nil hne;have a:=h1 0 cs (by rw [hl];rfl);have b:=hsz cs (by rw [hl];exact List.mem_cons_self ..);omega
    subst this;exact⟨b,o,e1,f,e2,h4⟩
  |_=>cases hp
theorem U7 (l:List Str) (hl:l.length<=1000000) {c:Ck}:aF Tryz.prog 72 [.aB (l.map aX) c] (.aB (l.map aX) .unk):=by
  refine aF.wk (args:=[.aB (l.map aX) .unk]) ?_ (.aB .nil);refine Gp ⟨_,Tryz.func72,rfl,by kernel_rfl⟩ (fun w G vs hg hi hv=> ?_) (bg.mem (.cons (aU bN _) .nil));obtain⟨u,rfl,hu⟩: ∃u,vs=#[u]/\V G 0 (.aB (l.map aX) .unk) u:=by
    obtain⟨h1,h2⟩:=hv
    match vs,h1,h2 with
    |⟨[u]⟩,_,h2=>exact⟨u,rfl,h2 0 _ u rfl rfl⟩
  obtain⟨ad,cap,rfl,hcap,hx⟩:=acz hu;rw [List.length_map]at*;by_cases h0:l=[]
  · subst h0;cases ad with
    |none=>
      refine(Tryz.slices_Clone_string_nil 0 cap w).mono ?_;rintro e w' ⟨rfl,rfl⟩;exact⟨_,rfl,Below.refl _ _,fun G' n _=> .aB [] .unk 1 none 0 (fun _ _=> .bool true) (fun i cs e=>by simp at e) (Nat.le_refl _) (fun h=>absurd rfl h) (fun i cs j c e=>by simp at e) trivial⟩
    |some a=>
      refine(Tryz.slices_Clone_string_zero a cap w).mono ?_;rintro e w' ⟨v',rfl,⟨_,hown⟩,_,hb⟩;refine⟨_,rfl,hb,fun G' n _=> ?_⟩;rcases hown with⟨rfl,_⟩|⟨g,cp,cur,rfl,_,_,h1,_⟩
      · exact .aB [] .unk 1 none 0 (fun _ _=> .bool true) (fun i cs e=>by simp at e) (Nat.le_refl _) (fun h=>absurd rfl h) (fun i cs j c e=>by simp at e) trivial
      · exact .aB [] .unk 1 (some ⟨g,0,none⟩) cp (fun _ _=> .bool true) (fun i cs e=>by simp at e) h1 (fun h=>absurd rfl h) (fun i cs j c e=>by simp at e) trivial
  · obtain⟨b,o,rfl,f,e2,h4⟩:=hx 1 (fun cs h=>by obtain⟨s,_,rfl⟩:=List.mem_map.1 h;rfl) (by simpa using h0);have hcell: ∀j,j<l.length->w.cell? ⟨b,o+j,none⟩=some (.string ((l.map fun s=>(⟨s.toArray⟩:ByteArray)).getD j ByteArray.empty)):=by
      intro j hj;have hg:(l.map aX)[j]? =some (aX l[j]):=by simp [hj]
      have a:=e2 j _ hg 0 (.str l[j]) rfl;have b':=h4 j _ 0 (.str l[j]) hg rfl;generalize f j 0=v at a b';cases b';have:=hi _ _ a;rw [Nat.mul_one,Nat.add_zero]at this;rw [this];simp [List.getD,hj]
    refine(Tryz.slices_Clone_string b o l.length cap (l.map fun s=>(⟨s.toArray⟩:ByteArray)) w (by simp) (by omega) (by simpa using hcell)).mono ?_;rintro e w' ⟨v',rfl,⟨_,hown⟩,hne,hb⟩;refine⟨_,rfl,hb,fun G' n hnew=> ?_⟩;rcases hown with⟨rfl,_⟩|⟨g,cp,cur,rfl,hge,hblk,h1,h2,h3,h5⟩
    · exact absurd rfl hne
    · refine Eq.mp (by rw [List.length_map]) (V.aB (G:=G') (n:=n) (l.map aX) .unk 1 (some ⟨g,0,none⟩) cp (fun i _=> .string ⟨(l[i]?.getD []).toArray⟩) (fun i cs e=> ?_) (by simpa using h1) (fun _=>⟨g,0,rfl,fun i cs e j c ec=> ?_⟩) (fun i cs j c e ec=> ?_) trivial)
      · simp only [List.getElem?_map,Option.map_eq_some_iff]at e;obtain⟨s,_,rfl⟩:=e;rfl
      · simp only [List.getElem?_map,Option.map_eq_some_iff]at e;obtain⟨s,e1,rfl⟩:=e;have hj:j=0:=by
          have:=(List.getElem?_eq_some_iff.1 ec).1;simp [aX]at this;exact this
        subst hj;have hlt:=(List.getElem?_eq_some_iff.1 e1).1;refine hnew _ _ hge ?_;have hc:cur[i]? =some (.string ⟨s.toArray⟩):=by
          have:=congrArg (·[i]?) h5
          simp only [Nat.mul_one,List.getElem?_take,hlt,if_true,List.map_map]at this;rw [<-Array.getElem?_toList,this];simp [e1,List.take_of_length_le]
        simp only [World.cell?,hblk,Nat.zero_add,Nat.mul_one,Nat.add_zero,e1,Option.getD_some];simpa using hc
      · simp only [List.getElem?_map,Option.map_eq_some_iff]at e;obtain⟨s,e1,rfl⟩:=e;have hj:j=0:=by
          have:=(List.getElem?_eq_some_iff.1 ec).1;simp [aX]at this;exact this
        subst hj;simp only [aX,List.getElem?_cons_zero,Option.some.injEq]at ec;subst ec;simp only [e1,Option.getD_some];exact .str s
end Go.VL
end
section
namespace Go.VL
inductive Lx:List PV->List PV->Prop where
  |nil:Lx [] []
  |same {p:PV} {l m:List PV} (h:Lx l m):Lx (p::l) (p::m)
  |aB {es:List (List PV)} {c:Ck} {l m:List PV} (h:Lx l m):Lx (.aB es c::l) (.aB es .unk::m)
  |agg {cs ds l m:List PV} (h0:Lx cs ds) (h:Lx l m):Lx (.agg cs::l) (.agg ds::m)
theorem Lx.get {l m:List PV} (h:Lx l m):l.length=m.length/\ ∀(j:Nat) (q:PV),m[j]? =some q-> ∃p,l[j]? =some p/\ ∀(G:Gh) (n:Nat) (v:Value),V G n p v->V G n q v:=by
  induction h with
  |nil=>exact⟨rfl,fun j q e=>by simp at e⟩
  |same _ ih=>
    refine⟨by simp [ih.1],fun j q e=> ?_⟩;cases j with
    |zero=>simp at e;subst e;exact⟨_,rfl,fun _ _ _ h=>h⟩
    |succ j=>simp at e;simpa using ih.2 j q e
  |aB _ ih=>
    refine⟨by simp [ih.1],fun j q e=> ?_⟩;cases j with
    |zero=>simp at e;subst e;exact⟨_,rfl,fun _ _ _ h=>h.wk⟩
    |succ j=>simp at e;simpa using ih.2 j q e
  | @agg cs ds _ _ _ _ ih0 ih=>
    refine⟨by simp [ih.1],fun j q e=> ?_⟩;cases j with
    |zero=>
      simp at e;subst e;refine⟨_,rfl,fun G n v h=> ?_⟩;generalize hp:PV.agg cs=p at h;cases h with
      |agg cs' vs h1 h2=>
        cases hp;refine .agg ds vs (h1.trans ih0.1) fun j c x hc hx=> ?_;obtain⟨p,e1,e2⟩:=ih0.2 j c hc;exact e2 _ _ _ (h2 j p x e1 hx)
      |_=>cases hp
    |succ j=>simp at e;simpa using ih.2 j q e
variable [Glob]
theorem cK.wx {P:Program} {H:AH} {f:FuncId} {args args':List PV} {k:PV->AH->Prop} (h:cK P f args H k) (hw:Lx args' args):cK P f args' H k:=by
  obtain⟨h1,h2⟩:=hw.get;refine⟨h.enters,fun B G w vs hU hM hv=>h.call B G w vs hU hM ⟨hv.1.trans h1,fun j c x hc hx=> ?_⟩⟩;obtain⟨p,e,hp⟩:=h2 j c hc;exact hp _ _ _ (hv.2 j p x e hx)
theorem aF.wx {P:Program} {f:FuncId} {args args':List PV} {r:PV} (h:aF P f args r) (hw:Lx args' args):aF P f args' r:=fun H=>(h H).wx hw
end Go.VL
end
section
set_option maxHeartbeats 4000000
namespace Go.VL
open Go.Proofs
def vX (k:Nat) (bA:Nd):Option Bool:=
  Option.bind (jV k bA.text) fun p2=>cond (bA.kind==2) (Option.bind (BU bA.text) fun p5=>cond p5 (cond (bA.kind==3) (some (!p2.2)) (some false)) (some true)) (cond (bA.kind==3) (some (!p2.2)) (some false))
theorem M9 {k:Nat} {bA:Nd} {r:Bool} (h:vX k bA=some r):aF Tryz.prog 80 [(.agg (Nd.cells bA))] (.bool r):=by
  refine aF.aP (bg.mem (.cons (.agg _ (Nd.pu _)) .nil)) (aH afB (by simp) (aD ?_)) (.bool _);unfold vX at h;unfold alD;obtain⟨p2,e1,h⟩:=aj h;try refine ah ?_
  refine aA (nS e1) ?_;rcases av h with⟨e3,h⟩|⟨e3,h⟩
  ·obtain⟨p5,e4,h⟩:=aj h;try refine ah ?_
   refine aA (MX e4) ?_;rcases av h with⟨e6,h⟩|⟨e6,h⟩
   ·rcases av h with⟨e7,h⟩|⟨e7,h⟩
    ·obtain rfl:=ak h;try refine ah ?_
     exact(.pure _ (.bool _))
    ·obtain rfl:=ak h;try refine ah ?_
     exact(.pure _ (.bool _))
   ·obtain rfl:=ak h;try refine ah ?_
    exact(.pure _ (.bool _))
  ·rcases av h with⟨e8,h⟩|⟨e8,h⟩
   ·obtain rfl:=ak h;try refine ah ?_
    exact(.pure _ (.bool _))
   ·obtain rfl:=ak h;try refine ah ?_
    exact(.pure _ (.bool _))
def EG (s_0:Str):Option (List Nd):=
  some [(Nd.mk 2 0 s_0 [] [])]
theorem IY {s_0:Str} {r:List Nd} (h:EG s_0=some r):aF Tryz.prog 89 [(.str s_0)] (.aB (r.map Nd.cells) .unk):=by
  refine aF.aP (bg.mem (.cons (.str _) .nil)) (aH arV (by simp) (aD ?_)) (aU Nd.pu _);unfold EG at h;unfold alJ;obtain rfl:=ak h;try refine ah ?_
  exact(dN Nd.pu [(Nd.mk 2 0 s_0 [] [])] _)
def rF:Nat->Int->Int->Int->Str->(List Str)->(List Int)->(List Int)->Int->Option (List Int)
  |0,_,_,_,_,_,_,_,_=>none
  |k+1,jX,EH,EI,EJ,EK,Al,tY,Gy=>
    cond (decide (Gy<(Al.length:Int))) (if 0<=Gy then Option.bind (Al[Gy.toNat]?) fun x15=>if(tY.length+1)*8<=1099511627776 then rF k jX EH EI EJ EK Al (tY++[(IntKind.wrap .i64 (x15+jX))]) (IntKind.wrap .i64 (Gy+1))else none else none) (some (tY))
def P9:List Nat:=[11,12]++List.range' 47 17
theorem aai: ∀(k:Nat) (Ch:Nat) (jX:Int) (EH:Int) (EI:Int) (EJ:Str) (EK:List Str) (Al:List Int) (tY:List Int) (Gy:Int) (mD:Ck) (kJ:Ck) (wL:Ck) (aC σ:Nat->PV) (H0 H:AH) (f0:Fr P9 aC σ) (hf0:HF [] H0 H) (sl:σ 8=(.int .i64 jX)/\σ 10=(.ref (Ch) 0)/\σ 11=(.aB (tY.map aY) mD)/\σ 12=(.int .i64 Gy)/\H.obj Ch=some [(.int .i64 EH),(.int .i64 EI),(.str EJ),(.aB (EK.map aX) .unk),(.aB (Al.map aY) .unk)]) (IZ:Ch<H.next) (Qa:cB H mD) (FT:cB H kJ) (aii:cB H wL) (oW:nZ mD kJ) (oZ:nZ mD wL) (qg:nZ kJ wL) (o:List Int) (h:rF k jX EH EI EJ EK Al tY Gy=some o) (Q:Post) (q0: ∀(p:List Int) (c0:Ck) (σ':Nat->PV) (H':AH),o=p->Fr P9 aC σ'->HF [] H0 H'->(σ' 11=(.aB (p.map aY) c0))->cB H' kJ->cB H' wL->nZ kJ wL->Q (.exit 4) σ' H'),W Tryz.prog (.loop Sg) Q σ H:=by
  intro k
  induction k with
  |zero=>intro Ch jX EH EI EJ EK Al tY Gy mD kJ wL aC σ H0 H f0 hf0 sl IZ Qa FT aii oW oZ qg o h Q q0;simp only [rF,reduceCtorEq]at h
  |succ k ih=>
    intro Ch jX EH EI EJ EK Al tY Gy mD kJ wL aC σ H0 H f0 hf0 sl IZ Qa FT aii oW oZ qg o h Q q0;obtain⟨s8,s10,s11,s12,as0⟩:=sl;have as1:=ne_next IZ;have as2:=aS IZ;have hle0:=hf0.1;unfold rF at h;refine aV (fun K hK=>aD ?_);unfold Sg;rcases av h with⟨e13,h⟩|⟨e13,h⟩
    ·obtain⟨e14,h⟩:=aO h;obtain⟨x15,e16,h⟩:=aj h;obtain⟨e21,h⟩:=aO h;try refine ah ?_
     refine ku (f:=aY) DN tY ([(IntKind.wrap .i64 (x15+jX))]:List Int) mD .exact au au fE (by first|exact e21|(simp only [List.length_cons,List.length_nil];exact e21)) (fun c17 H18 anJ le as3 agm=> ?_);have as4:HF [] _ H18:=⟨le,fun i _ _=>as3 i⟩;try simp only [AH.aI,AH.aJ,AH.aL,AH.aM]at le
     obtain⟨akN,as5⟩:=agm kJ fE oW;obtain⟨axH,as6⟩:=agm wL fE oZ;have n28:=ne_next (show Ch<H18.next by first|omega|(simp only [AH.aI,AH.aJ,AH.aL,AH.aM];omega));have m29:=aS (show Ch<H18.next by first|omega|(simp only [AH.aI,AH.aJ,AH.aL,AH.aM];omega));try refine ah ?_
     refine hK _ _ ?_;exact ih Ch jX EH EI EJ EK Al (tY++[(IntKind.wrap .i64 (x15+jX))]) (IntKind.wrap .i64 (Gy+1)) c17 kJ wL _ _ _ _ aN (by repeat (first|exact hf0|refine HF.new ?_|refine HF.eG ?_|refine HF.used ?_|refine HF.put (by first|(right;omega)|(left;simp only [List.mem_cons,true_or,or_true])) ?_|refine HF.via as4 (by first|exact fun i hi=>absurd hi List.not_mem_nil|(intro i hi;simp only [List.mem_cons,List.not_mem_nil,or_false]at hi⊢;first|exact .inl hi|omega)) ?_)) au bO fE fE fE as5 as6 qg _ h _ q0
    ·obtain rfl:=ak h;try refine ah ?_
     exact q0 _ mD _ _ rfl aN (by repeat (first|exact hf0|refine HF.new ?_|refine HF.eG ?_|refine HF.used ?_|refine HF.put (by first|(right;omega)|(left;simp only [List.mem_cons,true_or,or_true])) ?_)) au fE fE qg
def rG:Nat->(List (List Nd))->(List Nd)->Int->Int->Int->Option (List Nd)
  |0,_,_,_,_,_=>none
  |k+1,bE,ig,jq,jX,lN=>
    if 0<=jq then Option.bind (bE[jq.toNat]?) fun x5=>cond (decide (lN<(x5.length:Int))) (if 0<=lN then Option.bind (x5[lN.toNat]?) fun x9=>Option.bind (iZ x9.names) fun mE=>Option.bind (rF k jX x9.kind x9.n x9.text mE x9.args ([]:List Int) 0) (fun p32=>if(ig.length+1)*80<=1099511627776 then rG k bE (ig++[(Nd.mk x9.kind x9.n x9.text mE p32)]) jq jX (IntKind.wrap .i64 (lN+1))else none)else none) (some (ig))else none
def Qb:List Nat:=[5,9,10,11,12]++List.range' 27 43
theorem aaj: ∀(k:Nat) (bE:List (List Nd)) (ig:List Nd) (jq:Int) (jX:Int) (lN:Int) (nE:Ck) (wM:Ck) (aC σ:Nat->PV) (H0 H:AH) (f0:Fr Qb aC σ) (hf0:HF [] H0 H) (sl:σ 1=(.aB (bE.map (y5 Nd.cells)) .unk)/\σ 5=(.aB (ig.map Nd.cells) nE)/\σ 7=(.int .i64 jq)/\σ 8=(.int .i64 jX)/\σ 9=(.int .i64 lN)) (EL:cB H nE) (FT:cB H wM) (mK:nZ nE wM) (o:List Nd) (h:rG k bE ig jq jX lN=some o) (Q:Post) (q0: ∀(p:List Nd) (c0:Ck) (σ':Nat->PV) (H':AH),o=p->Fr Qb aC σ'->HF [] H0 H'->(σ' 5=(.aB (p.map Nd.cells) c0))->cB H' c0->cB H' wM->nZ c0 wM->Q (.exit 2) σ' H'),W Tryz.prog (.loop Si) Q σ H:=by
  intro k
  induction k with
  |zero=>intro bE ig jq jX lN nE wM aC σ H0 H f0 hf0 sl EL FT mK o h Q q0;simp only [rG,reduceCtorEq]at h
  |succ k ih=>
    intro bE ig jq jX lN nE wM aC σ H0 H f0 hf0 sl EL FT mK o h Q q0;obtain⟨s1,s5,s7,s8,s9⟩:=sl;have hle0:=hf0.1;unfold rG at h;refine aV (fun K hK=>aD ?_);unfold Si;obtain⟨e4,h⟩:=aO h;obtain⟨x5,e6,h⟩:=aj h;rcases av h with⟨e7,h⟩|⟨e7,h⟩
    ·obtain⟨e8,h⟩:=aO h;obtain⟨x9,e10,h⟩:=aj h;obtain⟨mE,e11,h⟩:=aj h;try refine ah ?_
     refine aA (vk e11) ?_;try refine ah ?_
     obtain⟨o30,h31,h⟩:=aj h;refine aai k (H.next) jX x9.kind x9.n x9.text mE x9.args ([]:List Int) 0 .nil nE wM _ _ _ _ (Fr.refl _ _) (HF.refl _ _) au bO fE fE fE nZ.nil nZ.nil mK _ h31 _ ?_
     ·rintro p32 c36 σ' H35 eo uh ags s37 afv ak2 as7;rw [eo]at h;have s41:σ' 1=(.aB (bE.map (y5 Nd.cells)) .unk):=(uh 1 (by decide)).trans au;have s42:σ' 5=(.aB (ig.map Nd.cells) nE):=(uh 5 (by decide)).trans au;have s43:σ' 7=(.int .i64 jq):=(uh 7 (by decide)).trans au;have s44:σ' 8=(.int .i64 jX):=(uh 8 (by decide)).trans au;have s45:σ' 9=(.int .i64 lN):=(uh 9 (by decide)).trans au;have s46:σ' 10=(.ref (H.next) 0):=(uh 10 (by decide)).trans au;have le:=ags.1;try simp only [AH.aI,AH.aJ,AH.aL,AH.aM]at le
      have g47:H35.obj (H.next)=some [(.int .i64 x9.kind),(.int .i64 x9.n),(.str x9.text),(.aB (mE.map aX) .unk),(.aB (x9.args.map aY) .unk)]:=(ags.2 _ bO (by first|exact List.not_mem_nil|(simp only [List.mem_cons,List.not_mem_nil,or_false,not_or];omega))).trans au;have n48:=ne_next (show H.next<H35.next by first|omega|(simp only [AH.aI,AH.aJ,AH.aL,AH.aM];omega));have m49:=aS (show H.next<H35.next by first|omega|(simp only [AH.aI,AH.aJ,AH.aL,AH.aM];omega));obtain⟨e54,h⟩:=aO h;try refine ah ?_
      refine ku (f:=Nd.cells) Nd.row ig ([(Nd.mk x9.kind x9.n x9.text mE p32)]:List Nd) nE .exact au au fE (by first|exact e54|(simp only [List.length_cons,List.length_nil];exact e54)) (fun c50 H51 afx le as8 as9=> ?_);have agt:HF [] _ H51:=⟨le,fun i _ _=>as8 i⟩;try simp only [AH.aI,AH.aJ,AH.aL,AH.aM]at le
      obtain⟨afy,ata⟩:=as9 wM fE as7;have n59:=ne_next (show H.next<H51.next by first|omega|(simp only [AH.aI,AH.aJ,AH.aL,AH.aM];omega));have m60:=aS (show H.next<H51.next by first|omega|(simp only [AH.aI,AH.aJ,AH.aL,AH.aM];omega));try refine ah ?_
      refine hK _ _ ?_;exact ih bE (ig++[(Nd.mk x9.kind x9.n x9.text mE p32)]) jq jX (IntKind.wrap .i64 (lN+1)) c50 wM _ _ _ _ (by repeat (first|exact f0|refine Fr.upd (by decide) ?_|refine Fr.via uh (by decide) ?_)) (by repeat (first|exact hf0|refine HF.new ?_|refine HF.eG ?_|refine HF.used ?_|refine HF.put (by first|(right;omega)|(left;simp only [List.mem_cons,true_or,or_true])) ?_|refine HF.via ags (by first|exact fun i hi=>absurd hi List.not_mem_nil|(intro i hi;simp only [List.mem_cons,List.not_mem_nil,or_false]at hi⊢;first|exact .inl hi|omega)) ?_|refine HF.via agt (by first|exact fun i hi=>absurd hi List.not_mem_nil|(intro i hi;simp only [List.mem_cons,List.not_mem_nil,or_false]at hi⊢;first|exact .inl hi|omega)) ?_)) au fE fE ata _ h _ q0
    ·obtain rfl:=ak h;try refine ah ?_
     exact q0 _ nE _ _ rfl aN (by repeat (first|exact hf0|refine HF.new ?_|refine HF.eG ?_|refine HF.used ?_|refine HF.put (by first|(right;omega)|(left;simp only [List.mem_cons,true_or,or_true])) ?_)) au fE fE mK
def rH:Nat->(List (List Nd))->(List Nd)->Int->Int->Str->(List Str)->(List Int)->Int->Option (((List Nd)×Int×Int×Str×(List Str)×(List Int)))
  |0,_,_,_,_,_,_,_,_=>none
  |k+1,bE,ig,Dr,Dt,Du,Dv,Am,jq=>
    cond (decide (jq<(bE.length:Int))) (Option.bind (rG k bE ig jq (ig.length:Int) 0) (fun p63=>if(Am.length+1)*8<=1099511627776 then rH k bE p63 Dr Dt Du Dv (Am++[(IntKind.wrap .i64 ((p63.length:Int) -1))]) (IntKind.wrap .i64 (jq+1))else none)) (some ((ig,Dr,Dt,Du,Dv,Am)))
def Qc:List Nat:=[5,7,8,9,10,11,12]++List.range' 19 59
theorem aak: ∀(k:Nat) (sH:Nat) (bE:List (List Nd)) (ig:List Nd) (Dr:Int) (Dt:Int) (Du:Str) (Dv:List Str) (Am:List Int) (jq:Int) (sI:Ck) (nG:Ck) (aC σ:Nat->PV) (H0 H:AH) (f0:Fr Qc aC σ) (hf0:HF [sH] H0 H) (sl:σ 1=(.aB (bE.map (y5 Nd.cells)) .unk)/\σ 5=(.aB (ig.map Nd.cells) sI)/\σ 6=(.ref (sH) 0)/\σ 7=(.int .i64 jq)/\H.obj sH=some [(.int .i64 Dr),(.int .i64 Dt),(.str Du),(.aB (Dv.map aX) .unk),(.aB (Am.map aY) nG)]) (L8:sH<H.next) (EL:cB H sI) (Y1:cB H nG) (oq:nZ sI nG) (o:((List Nd)×Int×Int×Str×(List Str)×(List Int))) (h:rH k bE ig Dr Dt Du Dv Am jq=some o) (Q:Post) (q0: ∀(p:(List Nd)×Int×Int×Str×(List Str)×(List Int)) (c0:Ck) (c5:Ck) (σ':Nat->PV) (H':AH),o=p->Fr Qc aC σ'->HF [sH] H0 H'->(σ' 5=(.aB (p.1.map Nd.cells) c0)/\H'.obj sH=some [(.int .i64 p.2.1),(.int .i64 p.2.2.1),(.str p.2.2.2.1),(.aB (p.2.2.2.2.1.map aX) .unk),(.aB (p.2.2.2.2.2.map aY) c5)])->cB H' c0->Q (.exit 0) σ' H'),W Tryz.prog (.loop Sj) Q σ H:=by
  intro k
  induction k with
  |zero=>intro sH bE ig Dr Dt Du Dv Am jq sI nG aC σ H0 H f0 hf0 sl L8 EL Y1 oq o h Q q0;simp only [rH,reduceCtorEq]at h
  |succ k ih=>
    intro sH bE ig Dr Dt Du Dv Am jq sI nG aC σ H0 H f0 hf0 sl L8 EL Y1 oq o h Q q0;obtain⟨s1,s5,s6,s7,atV⟩:=sl;have atW:=ne_next L8;have atX:=aS L8;have hle0:=hf0.1;unfold rH at h;refine aV (fun K hK=>aD ?_);unfold Sj;rcases av h with⟨e3,h⟩|⟨e3,h⟩
    ·try refine ah ?_
     obtain⟨o61,h62,h⟩:=aj h;refine aaj k bE ig jq (ig.length:Int) 0 sI nG _ _ _ _ (Fr.refl _ _) (HF.refl _ _) au fE fE oq _ h62 _ ?_
     ·rintro p63 c67 σ' H66 eo Gl agu s69 afz afA atb;rw [eo]at h;have s72:σ' 1=(.aB (bE.map (y5 Nd.cells)) .unk):=(Gl 1 (by decide)).trans au;have Xx:σ' 6=(.ref (sH) 0):=(Gl 6 (by decide)).trans au;have s74:σ' 7=(.int .i64 jq):=(Gl 7 (by decide)).trans au;have le:=agu.1;try simp only [AH.aI,AH.aJ,AH.aL,AH.aM]at le
      have g75:H66.obj (sH)=some [(.int .i64 Dr),(.int .i64 Dt),(.str Du),(.aB (Dv.map aX) .unk),(.aB (Am.map aY) nG)]:=(agu.2 _ bO (by first|exact List.not_mem_nil|(simp only [List.mem_cons,List.not_mem_nil,or_false,not_or];omega))).trans au;have n76:=ne_next (show sH<H66.next by first|omega|(simp only [AH.aI,AH.aJ,AH.aL,AH.aM];omega));have m77:=aS (show sH<H66.next by first|omega|(simp only [AH.aI,AH.aJ,AH.aL,AH.aM];omega));obtain⟨e82,h⟩:=aO h;try refine ah ?_
      refine ku (f:=aY) DN Am ([(IntKind.wrap .i64 ((p63.length:Int) -1))]:List Int) nG .exact au au fE (by first|exact e82|(simp only [List.length_cons,List.length_nil];exact e82)) (fun c78 H79 afB le atc atd=> ?_);have ate:HF [] _ H79:=⟨le,fun i _ _=>atc i⟩;try simp only [AH.aI,AH.aJ,AH.aL,AH.aM]at le
      obtain⟨alG,atf⟩:=atd c67 fE (nZ.symm atb);have n87:=ne_next (show sH<H79.next by first|omega|(simp only [AH.aI,AH.aJ,AH.aL,AH.aM];omega));have m88:=aS (show sH<H79.next by first|omega|(simp only [AH.aI,AH.aJ,AH.aL,AH.aM];omega));try refine ah ?_
      refine hK _ _ ?_;exact ih sH bE p63 Dr Dt Du Dv (Am++[(IntKind.wrap .i64 ((p63.length:Int) -1))]) (IntKind.wrap .i64 (jq+1)) c67 c78 _ _ _ _ (by repeat (first|exact f0|refine Fr.upd (by decide) ?_|refine Fr.via Gl (by decide) ?_)) (by repeat (first|exact hf0|refine HF.new ?_|refine HF.eG ?_|refine HF.used ?_|refine HF.put (by first|(right;omega)|(left;simp only [List.mem_cons,true_or,or_true])) ?_|refine HF.via agu (by first|exact fun i hi=>absurd hi List.not_mem_nil|(intro i hi;simp only [List.mem_cons,List.not_mem_nil,or_false]at hi⊢;first|exact .inl hi|omega)) ?_|refine HF.via ate (by first|exact fun i hi=>absurd hi List.not_mem_nil|(intro i hi;simp only [List.mem_cons,List.not_mem_nil,or_false]at hi⊢;first|exact .inl hi|omega)) ?_)) au bO fE fE (nZ.symm atf) _ h _ q0
    ·obtain rfl:=ak h;try refine ah ?_
     exact q0 _ sI nG _ _ rfl aN (by repeat (first|exact hf0|refine HF.new ?_|refine HF.eG ?_|refine HF.used ?_|refine HF.put (by first|(right;omega)|(left;simp only [List.mem_cons,true_or,or_true])) ?_)) au fE
def H8 (k:Nat) (xI:Nd) (bE:List (List Nd)):Option (List Nd):=
  Option.bind (iZ xI.names) fun p2=>Option.bind (rH k bE ([]:List Nd) xI.kind xI.n xI.text p2 ([]:List Int) 0) (fun kN=>if(kN.1.length+1)*80<=1099511627776 then some (kN.1++[(Nd.mk kN.2.1 kN.2.2.1 kN.2.2.2.1 kN.2.2.2.2.1 kN.2.2.2.2.2)])else none)
theorem Y2 {k:Nat} {xI:Nd} {bE:List (List Nd)} {c1:Ck} {r:List Nd} (h:H8 k xI bE=some r):aF Tryz.prog 84 [(.agg (Nd.cells xI)),(.aB (bE.map (y5 Nd.cells)) c1)] (.aB (r.map Nd.cells) .unk):=by
  refine aF.lw (.same (.aB .nil)) (aF.aP (bg.mem (.cons (.agg _ (Nd.pu _)) (.cons (aU (adz Nd.pu) _) .nil))) (aH arS (by simp) (aD ?_)) (aU Nd.pu _));unfold H8 at h;unfold alH;obtain⟨p2,e1,h⟩:=aj h;try refine ah ?_
  refine aA (vk e1) ?_;try refine ah ?_
  obtain⟨o89,h90,h⟩:=aj h;refine aak k (AH.empty.next+1) bE ([]:List Nd) xI.kind xI.n xI.text p2 ([]:List Int) 0 .nil .nil _ _ _ _ (Fr.refl _ _) (HF.refl _ _) au bO fE fE nZ.nil _ h90 _ ?_
  ·rintro kN c95 c98 σ' H94 eo afU afV ⟨s97,g99⟩ alR;rw [eo]at h;have afO:σ' 6=(.ref (AH.empty.next+1) 0):=(afU 6 (by decide)).trans au;have le:=afV.1;try simp only [AH.aI,AH.aJ,AH.aL,AH.aM]at le
   have n102:=ne_next (show AH.empty.next+1<H94.next by first|omega|(simp only [AH.aI,AH.aJ,AH.aL,AH.aM];omega));have axI:=aS (show AH.empty.next+1<H94.next by first|omega|(simp only [AH.aI,AH.aJ,AH.aL,AH.aM];omega));obtain⟨e108,h⟩:=aO h;try refine ah ?_
   refine ku (f:=Nd.cells) Nd.row kN.1 ([(Nd.mk kN.2.1 kN.2.2.1 kN.2.2.2.1 kN.2.2.2.2.1 kN.2.2.2.2.2)]:List Nd) c95 .exact au au fE (by first|exact e108|(simp only [List.length_cons,List.length_nil];exact e108)) (fun axJ Y3 awr le apA awt=> ?_);have awu:HF [] _ Y3:=⟨le,fun i _ _=>apA i⟩;try simp only [AH.aI,AH.aJ,AH.aL,AH.aM]at le
   have n111:=ne_next (show AH.empty.next<Y3.next by first|omega|(simp only [AH.aI,AH.aJ,AH.aL,AH.aM];omega));have axK:=aS (show AH.empty.next<Y3.next by first|omega|(simp only [AH.aI,AH.aJ,AH.aL,AH.aM];omega));have n113:=ne_next (show AH.empty.next+1<Y3.next by first|omega|(simp only [AH.aI,AH.aJ,AH.aL,AH.aM];omega));have axL:=aS (show AH.empty.next+1<Y3.next by first|omega|(simp only [AH.aI,AH.aJ,AH.aL,AH.aM];omega));obtain rfl:=ak h;try refine ah ?_
   exact(dN Nd.pu _ _)
def L9 (k:Nat) (Dw:Str) (bE:List (List Nd)):Option (List Nd):=
  Option.bind (H8 k (Nd.mk 3 0 Dw [] []) bE) fun p2=>some p2
theorem U8 {k:Nat} {Dw:Str} {bE:List (List Nd)} {c1:Ck} {r:List Nd} (h:L9 k Dw bE=some r):aF Tryz.prog 88 [(.str Dw),(.aB (bE.map (y5 Nd.cells)) c1)] (.aB (r.map Nd.cells) .unk):=by
  refine aF.lw (.same (.aB .nil)) (aF.aP (bg.mem (.cons (.str _) (.cons (aU (adz Nd.pu) _) .nil))) (aH arU (by simp) (aD ?_)) (aU Nd.pu _));unfold L9 at h;unfold alI;obtain⟨p2,e1,h⟩:=aj h;try refine ah ?_
  refine aA (aF.wx (Y2 e1) (.agg (.same (.same (.same (.aB (.aB .nil))))) (.same .nil))) ?_;obtain rfl:=ak h;try refine ah ?_
  exact(dN Nd.pu _ _)
def acA (k:Nat):Option (List Nd):=
  Option.bind (EG ([97]:Str)) fun p2=>Option.bind (EG ([98]:Str)) fun p4=>Option.bind (EG ([99]:Str)) fun p6=>Option.bind (L9 k ([42]:Str) [p4,p6]) fun p8=>Option.bind (L9 k ([43]:Str) [p2,p8]) fun gT=>some gT
theorem aa7 {k:Nat} {r:List Nd} (h:acA k=some r):aF Tryz.prog 45 [] (.aB (r.map Nd.cells) .unk):=by
  refine aF.aP (bg.mem .nil) (aH aru (by simp) (aD ?_)) (aU Nd.pu _);unfold acA at h;unfold ak5;obtain⟨p2,e1,h⟩:=aj h;try refine ah ?_
  refine aA (IY e1) ?_;obtain⟨p4,e3,h⟩:=aj h;try refine ah ?_
  refine aA (IY e3) ?_;obtain⟨p6,e5,h⟩:=aj h;try refine ah ?_
  refine aA (IY e5) ?_;obtain⟨p8,e7,h⟩:=aj h;try refine ah ?_
  refine aA (U8 e7) ?_;obtain⟨gT,e9,h⟩:=aj h;try refine ah ?_
  refine aA (U8 e9) ?_;obtain rfl:=ak h;try refine ah ?_
  exact(dN Nd.pu _ _)
end Go.VL
end
section
namespace Go.VL
open Go.Proofs
def I4 (k:Nat) (e:List Nd) (out:List Str) (at_:Int) (bound:List Str):Option (List Str):=
  if 0<=at_ then Option.bind (e[at_.toNat]?) fun n=>Option.bind (vX k n) fun b=>cond b (Option.bind (dB k bound n.text) fun c=>cond c (some out) (if(out.length+1)*16<=1099511627776 then some (out++[n.text])else none)) (some out)else none
def aij (e:List Nd) (o0 o1:Nat) (out:List Str) (H:AH):Prop:=o0<H.next/\o1<H.next/\o0≠o1/\H.obj o0=some [eU e]/\ ∃v ids,H.obj o1=some [v]/\aK H aX 1 out v ids/\o0∉ids/\o1∉ids
theorem acB (k:Nat) (e:List Nd) (o0 o1:Nat):Visit 118 [.ref o0 0,.ref o1 0] (aij e o0 o1) (I4 k e) where
  stable:=by
    rintro a H H' ⟨h1,h2,h3,h4,v,ids,h5,h6,h7,h8⟩ hn ho hc;exact⟨by omega,by omega,h3,(ho _).trans h4,v,ids,(ho _).trans h5,h6.hf (M:=[]) ⟨hn,fun i _ _=>ho i⟩ (fun _ _ h=>by cases h),h7,h8⟩
  call:=by
    rintro a at_ bound a' H ⟨h1,h2,h3,h4,v,ids,h5,h6,h7,h8⟩ h
    unfold I4 at h;by_cases e1:0<=at_
    case neg=>rw [if_neg e1]at h;cases h
    rw [if_pos e1]at h;cases e2:e[at_.toNat]? with
    |none=>rw [yY e2]at h;cases h
    |some n=>
    rw [yZ e2]at h;cases e3:vX k n with
    |none=>rw [yY e3]at h;cases h
    |some b=>
    rw [yZ e3]at h;refine aH aoR (by simp) (aD ?_);unfold ahm;simp -implicitDefEqProofs only [go_sem,h4,e1,e2,List.getElem?_map,Option.map_some];refine aA (M9 e3) ?_;cases b with
    |false=>
      rw [kC rfl]at h;cases h;simp -implicitDefEqProofs only [go_sem,h4,e1,e2,List.getElem?_map,Option.map_some];exact⟨h1,h2,h3,h4,v,ids,h5,h6,h7,h8⟩
    |true=>
      rw [pJ rfl]at h;cases e4:dB k bound n.text with
      |none=>rw [yY e4]at h;cases h
      |some c=>
      rw [yZ e4]at h;simp -implicitDefEqProofs only [go_sem,h4,e1,e2,List.getElem?_map,Option.map_some];refine aA (iP e4) ?_;cases c with
      |true=>
        rw [pJ rfl]at h;cases h;simp -implicitDefEqProofs only [go_sem,h4,e1,e2,List.getElem?_map,Option.map_some];exact⟨h1,h2,h3,h4,v,ids,h5,h6,h7,h8⟩
      |false=>
        rw [kC rfl]at h;by_cases e5:(a.length+1)*16<=1099511627776
        case neg=>rw [if_neg e5]at h;cases h
        rw [if_pos e5]at h;cases h;simp -implicitDefEqProofs only [go_sem,h4,e1,e2,List.getElem?_map,Option.map_some];refine eF ?_;simp -implicitDefEqProofs only [go_sem,h4,h5,e1,e2,List.getElem?_map,Option.map_some];refine BX (f:=aX) AU a [n.text] .exact aZ h6 aZ (by simp) (by simpa using e5) (fun v' jD H' g1 g2 g3 g4=> ?_);have k0:H'.obj o0=some [eU e]:=(g3.2 o0 h1 h7).trans h4;have k1:H'.obj o1=some [v]:=(g3.2 o1 h2 h8).trans h5;have n0: ¬o0∈jD:=fun hm=>by
          rcases g2 o0 hm with q|q
          · exact h7 q
          · omega
        have n1: ¬o1∈jD:=fun hm=>by
          rcases g2 o1 hm with q|q
          · exact h8 q
          · omega
        have g1':=g1;rcases g1 with⟨_,q,_⟩|⟨id,cap,junk,rfl,rfl,q1,q2,q3,q4⟩
        · simp at q
        · have hid:id≠o1:=fun e=>n1 (by rw [e];exact List.mem_singleton.2 rfl);simp -implicitDefEqProofs only [go_sem,nY,k1,Nat.le_refl];refine⟨Nat.lt_of_lt_of_le h1 g3.1,Nat.lt_of_lt_of_le h2 g3.1,h3,?_,_,[id],?_,g1'.put n1,n0,n1⟩
          · show(if o0=o1 then _ else H'.obj o0)=_
            rw [if_neg h3];exact k0
          · show(if o1=o1 then _ else H'.obj o1)=_
            rw [if_pos rfl]
end Go.VL
end
section
namespace Go.VL
open Go.Proofs Go.RowKit
section
variable {B:Nat->Prop} {G:Gh} {H:AH} {w w':World}
theorem HM.putRow (hM:HM B H G w) {id b:Nat} {cs cs':List PV} {arr:Array Value} {t:TypeId} (d:Array (List UInt8)) (n:Nat) (os:Array Obj) (ho:H.obj id=some cs) (hm:G.m id=some b) (hb:w.heap[b]? =some (.cells arr t (0,0)))
    (hV:Vs G H.next cs' (Sort.putCells encStr 0 d arr)):HM B (H.put id cs') G (Sort.grow (Sort.putRow encStr (Sort.ahead w n) b 0 d) os)/\Tr B w (Sort.grow (Sort.putRow encStr (Sort.ahead w n) b 0 d) os):=by
  obtain⟨h1,h2⟩:=hM.putObj ho hm hb hV;have hh:(Sort.putRow encStr (Sort.ahead w n) b 0 d).heap=(w.setRow b (Sort.putCells encStr 0 d arr)).heap:=by
    apply Array.ext_getElem?
    intro k;by_cases hk:k=b
    · subst hk;rw [setRow_heap w k arr _ t (0,0) hb];show(w.heap.modify k _)[k]? =_
      rw [Array.getElem?_modify,if_pos rfl,hb];rfl
    · rw [setRow_other w b k _ hk];show(w.heap.modify b _)[k]? =_
      rw [Array.getElem?_modify,if_neg (Ne.symm hk)]
  have hB:Below (w.setRow b (Sort.putCells encStr 0 d arr)).heap.size (w.setRow b (Sort.putCells encStr 0 d arr)) (Sort.grow (Sort.putRow encStr (Sort.ahead w n) b 0 d) os):=by
    refine⟨rfl,rfl,rfl,?_,fun k hk=> ?_⟩
    · rw [Sort.size_grow,hh];exact Nat.le_add_right _ _
    · rw [<-hh]at hk⊢;rw [Sort.heap_grow_old _ _ hk]
  exact⟨h1.below hB,(Tr.setRow h2 _).trans (Tr.below hB)⟩
theorem apB {n:Nat} {s:List UInt8} {v:Value} (h:V G n (.str s) v):v= .string ⟨s.toArray⟩:=by cases h;rfl
theorem aik {n id off len cap sz:Nat} {v:Value} (h:V G n (.dh id off len cap sz) v): ∃b,id<n/\G.m id=some b/\v= .slice (some ⟨b,off,none⟩) len cap:=by
  cases h with
  |dh _ _ _ _ _ b h1 h2=>exact⟨b,h1,h2,rfl⟩
theorem Ci (l:List Str):(l.map aX).flatten=l.map PV.str:=by
  induction l with
  |nil=>rfl
  |cons s l ih=>rw [List.map_cons,List.flatten_cons,ih];rfl
theorem U9 {l:List Str} {junk:List PV} {arr:Array Value} {b:Nat} {t:TypeId} (hb:w.heap[b]? =some (.cells arr t (0,0))) (hV:Vs G H.next ((l.map aX).flatten++junk) arr):Sort.Holds encStr w b 0 l.toArray:=by
  intro j hj;have hj':j<l.length:=by simpa using hj
  have hlt:j<arr.size:=by rw [hV.1,List.length_append,Ci,List.length_map];omega
  have hv:=apB (hV.2 j (.str l[j]) arr[j] (by rw [Ci,List.getElem?_append_left (by simpa using hj')];simp [hj']) (by simp [hlt]));refine⟨?_,?_⟩
  · have:arr[j]? =some arr[j]:=by simp [hlt]
    simp only [World.cell?,hb,Nat.zero_add,this,hv];simp [encStr,hj']
  · simp [World.frozen?,hb]
theorem aev {n:Nat} {l m:List Str} {junk:List PV} {arr:Array Value} (hl:m.length=l.length) (hV:Vs G n ((l.map aX).flatten++junk) arr):Vs G n ((m.map aX).flatten++junk) (Sort.putCells encStr 0 m.toArray arr):=by
  rw [Ci]at hV⊢;have hs:=hV.1;rw [List.length_append,List.length_map]at hs;refine⟨by simp [Sort.putCells,hs,hl],fun j c x hc hx=> ?_⟩;simp only [Sort.putCells,Array.getElem?_mapIdx,Option.map_eq_some_iff]at hx;obtain⟨y,hy,rfl⟩:=hx;by_cases hj:j<m.length
  · rw [List.getElem?_append_left (by simpa using hj)]at hc;simp [hj]at hc;subst hc;have h2:0<=j/\j<0+m.toArray.size:=by simpa using hj
    rw [if_pos h2];simp [encStr,hj];exact .str _
  · have h2: ¬(0<=j/\j<0+m.toArray.size):=by simp;omega
    rw [if_neg h2];rw [List.getElem?_append_right (by simp;omega),List.length_map,hl]at hc;refine hV.2 j c y ?_ hy;rw [List.getElem?_append_right (by simp;omega),List.length_map];exact hc
end
def FU (l:List Str):List Str:=l.mergeSort fun x y=>decide (x<=y)
theorem anS {H:AH} {l:List Str} {v:PV} {ids:List Nat} (h:aK H aX 1 l v ids) (hl:l.length<4611686018427387904):cK Tryz.prog 66 [v] H fun _ H'=>aK H' aX 1 (FU l) v ids/\HF ids H H'/\ ∀c,cB H c->cB H' c:=by
  refine⟨⟨_,Tryz.func66,rfl,by kernel_rfl⟩,fun B G w vs hU hM hv=> ?_⟩;obtain⟨u,rfl,hu⟩: ∃u,vs=#[u]/\V G H.next v u:=by
    obtain⟨h1,h2⟩:=hv
    match vs,h1,h2 with
    |⟨[u]⟩,_,h2=>exact⟨u,rfl,h2 0 v u rfl rfl⟩
  rcases h with⟨rfl,rfl,rfl⟩|⟨id,cap,junk,rfl,rfl,h2,h3,h4,h5⟩
  · rw [Wh hu];refine(Tryz.slices_Sort_string_none none 0 w).mono ?_;rintro e w' ⟨rfl,rfl⟩;exact⟨.dw [],_,H,G,rfl,Tr.refl _ _,Ext.refl _ _ _,Nat.le_refl _,hM,.dw [] #[] rfl (fun j c x e=>by simp at e),.inl ⟨rfl,by simp [FU],rfl⟩,HF.refl _ _,fun _ h=>h⟩
  · obtain⟨b,_,hm,rfl⟩:=aik hu;obtain⟨_,b',arr,t,k1,k2,k3,k4,k5⟩:=hM.obj id _ h4;obtain rfl:b'=b:=by rw [hm]at k1;exact(Option.some.inj k1).symm
    have hlt:=hM.lt k3;refine(Tryz.slices_Sort_string b' 0 cap l w (U9 k3 k4) hlt hl).mono ?_;rintro e w' ⟨rfl,n,os,rfl⟩;have hlen:(FU l).length=l.length:=List.length_mergeSort _;obtain⟨e1,e2⟩:=hM.putRow (cs':=((FU l).map aX).flatten++junk) (FU l).toArray n os h4 hm k3 (aev hlen k4);refine⟨.dw [],_,H.put id (((FU l).map aX).flatten++junk),G,rfl,e2,Ext.refl _ _ _,Nat.le_refl _,e1,.dw [] #[] rfl (fun j c x e=>by simp at e),.inr ⟨id,cap,junk,rfl,by rw [hlen],by rw [hlen];exact h2,h3,?_,by rw [hlen];exact h5⟩,HF.put (.inl (List.mem_singleton.2 rfl)) (HF.refl _ _),fun c hc=>hc.put⟩;show(if id=id then some _ else _)=_
    rw [if_pos rfl]
theorem acC (l:List Str):(Lib.compact l).length<=l.length:=Lib.compact_length_le l
theorem acD {H:AH} {l:List Str} {v:PV} {ids:List Nat} (h:aK H aX 1 l v ids) (hl:l.length<4611686018427387904):cK Tryz.prog 119 [v] H fun r H'=>aK H' aX 1 (Lib.compact l) r ids/\HF ids H H'/\ ∀c,cB H c->cB H' c:=by
  refine⟨⟨_,Tryz.func119,rfl,by kernel_rfl⟩,fun B G w vs hU hM hv=> ?_⟩;obtain⟨u,rfl,hu⟩: ∃u,vs=#[u]/\V G H.next v u:=by
    obtain⟨h1,h2⟩:=hv
    match vs,h1,h2 with
    |⟨[u]⟩,_,h2=>exact⟨u,rfl,h2 0 v u rfl rfl⟩
  rcases h with⟨rfl,rfl,rfl⟩|⟨id,cap,junk,rfl,rfl,h2,h3,h4,h5⟩
  · rw [Wh hu];refine(Tryz.slices_Compact_string_empty none 0 w).mono ?_;rintro e w' ⟨rfl,rfl⟩;exact⟨.aB [] .nil,_,H,G,rfl,Tr.refl _ _,Ext.refl _ _ _,Nat.le_refl _,hM,Wh hu▸hu,.inl ⟨rfl,rfl,rfl⟩,HF.refl _ _,fun _ h=>h⟩
  · obtain⟨b,_,hm,rfl⟩:=aik hu;obtain⟨_,b',arr,t,k1,k2,k3,k4,k5⟩:=hM.obj id _ h4;obtain rfl:b'=b:=by rw [hm]at k1;exact(Option.some.inj k1).symm
    refine(Tryz.slices_Compact_string b' 0 cap l w (U9 k3 k4) (by omega) h2).mono ?_;rintro e w' ⟨rfl,q,rfl⟩;have hc:=acC l;have hlen:(Lib.compact l++List.replicate (l.length -(Lib.compact l).length) []).length=l.length:=by rw [List.length_append,List.length_replicate];omega
    obtain⟨e1,e2⟩:=hM.putRow (cs':=((Lib.compact l++List.replicate (l.length -(Lib.compact l).length) []).map aX).flatten++junk) (Lib.compact l++List.replicate (l.length -(Lib.compact l).length) []).toArray q #[] h4 hm k3 (aev hlen k4);rw [Sort.grow_empty]at e1 e2;refine⟨.dh id 0 (Lib.compact l).length cap 1,_,H.put id (((Lib.compact l++List.replicate (l.length -(Lib.compact l).length) []).map aX).flatten++junk),G,rfl,e2,Ext.refl _ _ _,Nat.le_refl _,e1,.dh _ _ _ _ _ b' h3 hm,.inr ⟨id,cap,(List.replicate (l.length -(Lib.compact l).length) ([]:Str)).map PV.str++junk,rfl,rfl,by omega,h3,?_,?_⟩,HF.put (.inl (List.mem_singleton.2 rfl)) (HF.refl _ _),fun c hc=>hc.put⟩
    · show(if id=id then some _ else _)=_
      rw [if_pos rfl,Ci,List.map_append,Ci,List.append_assoc]
    · rw [List.length_append,List.length_map,List.length_replicate,h5];omega
end Go.VL
end
section
namespace Go.VL
open Go.Proofs
def Y4 (k:Nat) (e:List Nd):Option (List Str):=
  Option.bind (uH (I4 k e) e k (IntKind.wrap .i64 ((e.length:Int) -1)) [] []) fun out=>if out.length<4611686018427387904 then some (Ud out)else none
theorem agv (k:Nat) (e:List Nd) {c:Ck} {r:List Str} (h:Y4 k e=some r):aF Tryz.prog 68 [.aB (e.map Nd.cells) c] (.aB (r.map aX) .unk):=by
  refine aF.wk (args:=[eU e]) ?_ (.aB .nil);refine aF.aP (bg.mem (.cons (aU Nd.pu _) .nil)) (aH afz (by simp) (aD ?_)) (aU bN _);unfold Y4 at h;cases e1:uH (I4 k e) e k (IntKind.wrap .i64 ((e.length:Int) -1)) [] []with
  |none=>rw [yY e1]at h;cases h
  |some out=>
  rw [yZ e1]at h;by_cases e2:out.length<4611686018427387904
  case neg=>rw [if_neg e2]at h;cases h
  rw [if_pos e2]at h;have h:=Option.some.inj h;subst h;unfold alr;simp -implicitDefEqProofs only [go_sem];have hS:aij e (AH.empty.next) (AH.empty.next+1) [] ((AH.empty.new [eU e]).new [.aB [] .nil]):=by
    refine⟨(show 0<2 by omega),(show 1<2 by omega),by decide,rfl,.aB [] .nil,[],rfl,aK.nil,List.not_mem_nil,List.not_mem_nil⟩
  refine cK.mono (cK.wk (aes (acB k e _ _) e k _ [] [] out _ hS e1) (.same (.same (.aB (.same .nil))))) fun r H1 hS1=> ?_;obtain⟨h1,h2,h3,h4,v,ids,h5,h6,h7,h8⟩:=hS1;simp -implicitDefEqProofs only [go_sem,h5];refine cK.mono (anS h6 e2) fun r2 H2 ⟨g1,g2,g3⟩=> ?_;have h5':H2.obj (AH.empty.next+1)=some [v]:=(g2.2 _ h2 h8).trans h5;simp -implicitDefEqProofs only [go_sem,h5'];refine cK.mono (acD g1 (by rw [show(FU out).length=out.length from List.length_mergeSort _];exact e2)) fun r3 H3 ⟨f1,f2,f3⟩=> ?_;simp -implicitDefEqProofs only [go_sem];have hc:Lib.compact (FU out)=Ud out:=Y0 out;rw [<-hc];exact f1.fz bN
end Go.VL
end
section
namespace Go.VL
open Tm
def Y5 (e:List Nd) (R:Nat) (bd:List Str):Prop:= ∃P j,Ev (fun k=>mP k e (R:Int)) (P,j)/\ ∀out:List Str,out.length<=34*R->Ev (fun k=>jl k e out P j) (bd++out)
section
variable {t0:Tm} {e:List Nd} (he:e=flat 0 t0) (hL:jd e) (hF:K3 e)
include he hL hF
theorem ajA:Y5 e (t0.size -1) []:=by
  have hs:=t0.size_pos;refine⟨-1,0,BH (ts:=[t0]) (by rw [Cc];exact he) hL (by rw [he,bV];omega) ?_,fun out _=>Ev.succ ?_⟩
  · rw [U1];cases t0 with
    |mk x cs=>
      rw [yO,show(Tm.mk x cs).size -1=(iI 0 ((0+sizes cs:Nat):Int) 0 cs).length by rw [jM];simp only [size];omega,List.getElem?_concat_length]
  · simp only [jl];exact Ev.cF (by rfl) Ev.some
theorem anT {b:Nat} {bd:List Str} {x:Nd} {l m:List Tm} {c:Tm} (hS:Seg e b (.mk x (l++c::m))) (hU:Y5 e (b+sizes (l++c::m)) bd):Y5 e (b+sizes l+c.size -1) (bd++wK (nd x b (l++c::m)) l.length):=by
  have hn:=hS.node;have hlt:=(List.getElem?_eq_some_iff.1 hn).1;have agn:=hF.few _ _ hn;have hbl:=KY agn.2 l.length;have hcp:=c.size_pos;have hsz:sizes (l++c::m)=sizes l+(c.size+sizes m):=by rw [dU,sizes]
  obtain⟨P,j,hP,hout⟩:=hU;have ha:(nd x b (l++c::m)).args[l.length]? =some ((b+sizes l+c.size -1:Nat):Int):=Cb;obtain⟨r,h1,h2,h3⟩:=Ot 0 [t0] (b+sizes (l++c::m)) (nd x b (l++c::m)) l.length _ (by rw [Cc,<-he];exact hn) ha;obtain rfl:r=b+sizes l+c.size -1:=by omega
  refine⟨_,_,BH (ts:=[t0]) (by rw [Cc];exact he) hL (by omega) h3,fun out ho=>Ev.succ ?_⟩;simp only [jl,Nat.zero_add];refine Ev.cT (decide_eq_true (by omega)) (Ev.kg (by omega) ?_);simp only [Int.toNat_natCast,hn,Option.bind_some];rw [VU (hF.ok _ _ hn) (by omega)];simp only [Option.bind_some,List.nil_append,List.length_nil,Nat.zero_add];refine Ev.kg (by omega) (Ev.kg (by have:=hF.len;omega) (Ev.bind hP ((hout _ ?_).to ?_)))
  · rw [List.length_append];omega
  · rw [List.append_assoc]
mutual
theorem Va: ∀(t:Tm) (b:Nat) (bd:List Str),Seg e b t->Y5 e (b+t.size -1) bd->bd.length+34*(b+t.size -1)<=10000-> ∀v∈vis b bd t,Ev (fun k=>mq k e (v.1:Int)) v.2/\v.2.length<=10000/\v.1<e.length
  | .mk x cs,b,bd,hS,hU,hb,v,hv=>by
    have hsz:b+(Tm.mk x cs).size -1=b+sizes cs:=by simp only [size];omega
    rw [hsz]at hb hU;rw [KZ,List.mem_cons]at hv;rcases hv with rfl|hv
    · refine⟨?_,(show bd.length<=10000 by omega),(List.getElem?_eq_some_iff.1 hS.node).1⟩;obtain⟨P,j,hP,hout⟩:=hU;unfold mq;refine Ev.bind hP (Ev.bind (hout [] (Nat.zero_le _)) (Ev.some' ?_));rw [List.append_nil]
    · exact Qd cs x [] b bd hS hU (by simp only [List.nil_append];omega) v hv
theorem Qd: ∀(cs:List Tm) (x:Nd) (l:List Tm) (b:Nat) (bd:List Str),Seg e b (.mk x (l++cs))->Y5 e (b+sizes (l++cs)) bd->bd.length+34*(b+sizes (l++cs))<=10000->
    ∀v∈yw (b+sizes l) bd (nd x b (l++cs)) l.length cs,Ev (fun k=>mq k e (v.1:Int)) v.2/\v.2.length<=10000/\v.1<e.length
  |[],x,l,b,bd,hS,hU,hb,v,hv=>by rw [yw]at hv;cases hv
  |c::cs,x,l,b,bd,hS,hU,hb,v,hv=>by
    have hn:=hS.node;have hbl:=KY (hF.few _ _ hn).2 l.length;have hcp:=c.size_pos;have hsz:sizes (l++c::cs)=sizes l+(c.size+sizes cs):=by rw [dU,sizes]
    rw [Cg,List.mem_append]at hv;rcases hv with hv|hv
    · exact Va c _ _ hS.kid (anT he hL hF hS hU) (by rw [hsz]at hb;rw [List.length_append];omega) v hv
    · have e1:l++c::cs=(l++[c])++cs:=by simp
      have e2:l.length+1=(l++[c]).length:=by simp
      have e3:b+sizes l+c.size=b+sizes (l++[c]):=by rw [dU,vV];omega
      rw [e1,e2,e3]at hv;rw [e1]at hS hU hb;exact Qd cs x (l++[c]) b bd hS hU hb v hv
end
end
mutual
theorem aa8: ∀(t:Tm) (b:Nat) (bd:List Str) (i:Nat),b<=i->i<b+t.size-> ∃q,(i,q)∈vis b bd t
  | .mk x cs,b,bd,i,h1,h2=>by
    rw [KZ];by_cases h:i=b+sizes cs
    · exact⟨bd,by rw [h];exact List.mem_cons_self⟩
    · simp only [size]at h2;obtain⟨q,hq⟩:=Y6 cs b bd (nd x b cs) 0 i h1 (by omega);exact⟨q,List.mem_cons_of_mem _ hq⟩
theorem Y6: ∀(cs:List Tm) (b:Nat) (bd:List Str) (n:Nd) (j:Nat) (i:Nat),b<=i->i<b+sizes cs-> ∃q,(i,q)∈yw b bd n j cs
  |[],b,bd,n,j,i,h1,h2=>by simp only [sizes]at h2;omega
  |c::cs,b,bd,n,j,i,h1,h2=>by
    rw [Cg];simp only [sizes]at h2;by_cases h:i<b+c.size
    · obtain⟨q,hq⟩:=aa8 c b (bd++wK n j) i h1 h;exact⟨q,List.mem_append_left _ hq⟩
    · obtain⟨q,hq⟩:=Y6 cs (b+c.size) bd n (j+1) i (by omega) (by omega);exact⟨q,List.mem_append_right _ hq⟩
end
mutual
theorem aa9: ∀(t:Tm) (b:Nat) (bd:List Str),(vis b bd t).length=t.size
  | .mk x cs,b,bd=>by rw [KZ,List.length_cons,Y7 cs];rfl
theorem Y7: ∀(cs:List Tm) (b:Nat) (bd:List Str) (n:Nd) (j:Nat),(yw b bd n j cs).length=sizes cs
  |[],b,bd,n,j=>by rw [yw];rfl
  |c::cs,b,bd,n,j=>by rw [Cg,List.length_append,aa9 c,Y7 cs];rfl
end
def Ao (n:Nd):Bool:=(decide (n.kind=2)&& !qW n.text)||(decide (n.kind=3)&& !(dK fH n.text).2)
theorem Y8 (n:Nd):Ev (fun k=>vX k n) (Ao n):=by
  unfold vX Ao;refine Ev.bind (uG n.text) ?_;rw [KA];by_cases h:n.kind=2
  · refine Ev.cT (by rw [h];rfl) ?_;simp only [h,decide_true,Bool.true_and,Option.bind_some];cases qW n.text
    · exact Ev.cF rfl (Ev.some' rfl)
    · exact Ev.cT rfl (Ev.cF (by rfl) (Ev.some' rfl))
  · refine Ev.cF (by rw [beq_eq_false_iff_ne];exact h) ?_;simp only [h,decide_false,Bool.false_and,Bool.false_or];by_cases h2:n.kind=3
    · exact Ev.cT (by rw [h2];rfl) (Ev.some' (by simp [h2]))
    · exact Ev.cF (by rw [beq_eq_false_iff_ne];exact h2) (Ev.some' (by simp [h2]))
theorem acE {n:Nd} (h0:eH true n=0) (hl:n.text.length<=1000000):Ev (fun k=>G6 k n) (Ao n):=by
  unfold G6 Ao;rw [zI];by_cases h:n.kind=2
  · refine Ev.cT (by rw [h];rfl) ?_;simp only [h,decide_true,Bool.true_and,Option.bind_some];cases qW n.text
    · exact Ev.cF rfl (Ev.some' rfl)
    · exact Ev.cT rfl (Ev.cF (by rfl) (Ev.some' rfl))
  · refine Ev.cF (by rw [beq_eq_false_iff_ne];exact h) ?_;simp only [h,decide_false,Bool.false_and,Bool.false_or];by_cases h2:n.kind=3
    · refine Ev.cT (by rw [h2];rfl) (Ev.bind (Bw _ (by omega)) (Ev.some' ?_));rw [YR h0 h2];simp [h2]
    · exact Ev.cF (by rw [beq_eq_false_iff_ne];exact h2) (Ev.some' (by simp [h2]))
end Go.VL
end
section
namespace Go.VL
def Ue (n:Nd):Bool:=decide (n.args.length<=34)&&decide (n.names.length<=34)&&decide (n.text.length<=80)&&n.names.all fun s=>decide (s.length<=80)
def wX (e:List Nd):Bool:=(e.take 172).all Ue&&decide (e.length<=170)
theorem aal {e:List Nd} {i:Nat} {n:Nd} (hn:e[i]? =some n) (hl:n.names.length<=34):Ev (fun k=>rZ k e (i:Int) ((0:Nat):Int)) (if(n.names.drop 0).all (fun s=>decide (s.length<=80))=true then .inl ()else .inr false):=by
  refine mH (len:=n.names.length) (p:=fun j=>Ev (fun k=>rZ k e (i:Int) (j:Int)) (if(n.names.drop j).all (fun s=>decide (s.length<=80))=true then .inl ()else .inr false)) ?_ fun j hj ih=> ?_
  · refine Ev.succ ?_;simp only [rZ,Int.toNat_natCast,hn,Option.bind_some,nn,if_true];exact Ev.cF (kV _) (Ev.some' (by simp))
  · refine Ev.succ ?_;simp only [rZ,Int.toNat_natCast,hn,bM hj,Option.bind_some,nn,if_true,mZ hj,cond_true,fK hj (show n.names.length<=1099511627776 by omega)];rw [drop_cons hj];simp only [List.all_cons,Bool.and_eq_true,decide_eq_true_eq];by_cases h:n.names[j].length<=80
    · refine Ev.cF (decide_eq_false (by omega)) (ih.to ?_);simp only [h,true_and]
    · refine Ev.cT (decide_eq_true (by omega)) (Ev.some' ?_);simp only [h,false_and,if_false]
theorem Na (i:Nat) (m:Nat):En (i:Int) (decide ((i:Int)<(m:Int)))=some (decide (i<m)&&decide (i<172)):=by
  unfold En;by_cases h:i<m
  · rw [pJ (decide_eq_true (by omega)),decide_eq_true h,Bool.true_and];by_cases h2:i<172
    · rw [decide_eq_true h2,decide_eq_true (show(i:Int)<172 by omega)]
    · rw [decide_eq_false h2,decide_eq_false (show ¬(i:Int)<172 by omega)]
  · rw [kC (decide_eq_false (by omega)),decide_eq_false h,Bool.false_and]
theorem Y9 (e:List Nd):Ev (fun k=>LX k e) (wX e):=by
  have hlen:(e.take 172).length=min 172 e.length:=List.length_take;have key:Ev (fun k=>r9 k e ((0:Nat):Int)) (if((e.take 172).drop 0).all Ue=true then .inl ()else .inr false):=by
    refine mH (len:=(e.take 172).length) (p:=fun i=>Ev (fun k=>r9 k e (i:Int)) (if((e.take 172).drop i).all Ue=true then .inl ()else .inr false)) ?_ fun i hi ih=> ?_
    · refine Ev.succ ?_;simp only [r9,Na];refine Ev.jh rfl (Ev.cF ?_ (Ev.some' (by rw [List.drop_length];rfl)));rw [Bool.and_eq_false_iff,decide_eq_false_iff_not,decide_eq_false_iff_not];omega
    · have hie:i<e.length:=by omega
      have anU:i<172:=by omega
      have hget:(e.take 172)[i]'hi=e[i]:=by simp
      refine Ev.succ ?_;simp only [r9,Na,Int.toNat_natCast,bM hie,Option.bind_some,nn,if_true,decide_eq_true hie,decide_eq_true anU,Bool.and_self,cond_true];rw [drop_cons hi,hget,fK anU (by omega),List.all_cons];have hp:Eo e (i:Int) (decide ((e[i].args.length:Int)>34))=some (!(decide (e[i].args.length<=34)&&decide (e[i].names.length<=34)&&decide (e[i].text.length<=80))):=by
        unfold Eo;simp only [Int.toNat_natCast,bM hie,Option.bind_some,nn,if_true];by_cases a:e[i].args.length<=34
        · rw [kC (decide_eq_false (by omega))];by_cases b:e[i].names.length<=34
          · rw [kC (decide_eq_false (by omega))];by_cases c:e[i].text.length<=80
            · rw [decide_eq_false (by omega)];simp [a,b,c]
            · rw [decide_eq_true (by omega)];simp [a,b,c]
          · rw [pJ (decide_eq_true (by omega))];simp [a,b]
        · rw [pJ (decide_eq_true (by omega))];simp [a]
      refine Ev.jh hp ?_;unfold Ue;by_cases h3:(decide (e[i].args.length<=34)&&decide (e[i].names.length<=34)&&decide (e[i].text.length<=80))=true
      · rw [h3];simp only [Bool.and_eq_true,decide_eq_true_eq]at h3;have h0:=aal (bM hie) h3.1.2;rw [List.drop_zero]at h0;refine Ev.cF rfl (Ev.bind h0 ?_);cases h4:e[i].names.all fun s=>decide (s.length<=80)
        · simp only [Bool.false_eq_true,if_false,bZ];exact Ev.some' (by simp)
        · simp only [if_true,bT,Bool.true_and];exact ih
      · have h3:(decide (e[i].args.length<=34)&&decide (e[i].names.length<=34)&&decide (e[i].text.length<=80))=false:=by simpa using h3
        rw [h3];exact Ev.cT rfl (Ev.some' (by simp))
  unfold LX;refine Ev.bind key ?_;rw [List.drop_zero];unfold wX;cases(e.take 172).all Ue
  · simp only [Bool.false_eq_true,if_false,bZ,Bool.false_and];exact Ev.some
  · simp only [if_true,bT,Bool.true_and];refine Ev.some' ?_;by_cases h:e.length<=170
    · rw [decide_eq_true h,decide_eq_true (show(e.length:Int)<=170 by omega)]
    · rw [decide_eq_false h,decide_eq_false (show ¬(e.length:Int)<=170 by omega)]
theorem EM {e:List Nd} (h:wX e=true):e.length<=170/\ ∀(i:Nat) n,e[i]? =some n->n.args.length<=34/\n.names.length<=34/\n.text.length<=80/\ ∀s∈n.names,s.length<=80:=by
  unfold wX at h;rw [Bool.and_eq_true,decide_eq_true_eq]at h;refine⟨h.2,fun i n hn=> ?_⟩;rw [List.take_of_length_le (by omega)]at h;have:=List.all_eq_true.1 h.1 n (List.mem_of_getElem? hn);unfold Ue at this;simp only [Bool.and_eq_true,decide_eq_true_eq,List.all_eq_true]at this;exact⟨this.1.1.1,this.1.1.2,this.1.2,this.2⟩
theorem I5 {e:List Nd} (h:wX e=true):jd e:=by
  obtain⟨h1,h2⟩:=EM h;exact⟨by omega,fun i n hn=>by have:=h2 i n hn;omega⟩
theorem EN {e:List Nd} (hL:jd e):Ev (fun k=>vo k e) e:=by
  have hlen:=hL.len;have key: ∀i,i<=e.length->Ev (fun k=>l8 k e (e.take i) (i:Int)) e:=by
    refine down ?_ fun i hi ih=> ?_
    · refine Ev.succ ?_;simp only [l8];exact Ev.cF (kV _) (Ev.some' (by simp))
    · refine Ev.succ ?_;obtain⟨h1,h2,h3⟩:=hL.nd i _ (bM hi);have e1:iZ e[i].names=some e[i].names:=by
        unfold iZ;rw [if_pos (by simp;omega)];rfl
      have e2:vg e[i].args=some e[i].args:=by
        unfold vg;rw [if_pos (by simp;omega)];rfl
      have e3:((e.take i).length+1)*80<=1099511627776:=by rw [List.length_take];omega
      simp only [l8,Int.toNat_natCast,bM hi,Option.bind_some,nn,if_true,mZ hi,cond_true,fK hi (show e.length<=1099511627776 by omega),e1,e2,if_pos e3];rw [<-List.take_succ_eq_append_getElem hi];exact ih
  unfold vo;exact Ev.bind (key 0 (Nat.zero_le _)) Ev.some
end Go.VL
end
section
namespace Go.VL
open Go.Proofs
def wY {α β:Type} (a:α) (b:β):Option Str:=none
def agw {α β γ:Type} (a:α) (b:β) (c:γ):Option Str:=none
theorem sJ {α β:Type} (a:α) (b:β) {f:FuncId} {r:Str} {args:List PV} (h:wY a b=some r):aF Tryz.prog f args (.str r):=by cases h
theorem ail {α β γ:Type} (a:α) (b:β) (c:γ) {f:FuncId} {r:Str} {args:List PV} (h:agw a b c=some r):aF Tryz.prog f args (.str r):=by cases h
end Go.VL
end
section
set_option maxHeartbeats 4000000
namespace Go.VL
open Go.Proofs
def wN (k:Nat) (p_0:Printer) (bW:Int):Option (Operator×Bool):=
  if 0<=bW then Option.bind (p_0.e[bW.toNat]?) fun x2=>cond (x2.kind !=3) (some ((Operator.mk [] 0 0 0 false 0 0),false)) (Option.bind (jV k x2.text) fun p6=>some (p6.1,p6.2))else none
theorem Ap {k:Nat} {p_0:Printer} {bW:Int} {r:Operator×Bool} (h:wN k p_0 bW=some r):aF Tryz.prog 100 [(.agg (Printer.cells p_0)),(.int .i64 bW)] (.dw [(.agg (Operator.cells r.1)),(.bool r.2)]):=by
  refine aF.aP (bg.mem (.cons (.agg _ (Printer.pu _)) (.cons (.int _ _) .nil))) (aH aoK (by simp) (aD ?_)) (.dw _ (bg.mem (.cons (.agg _ (Operator.pu _)) (.cons (.bool _) .nil))));unfold wN at h;unfold ahb;obtain⟨e1,h⟩:=aO h;obtain⟨x2,e3,h⟩:=aj h;rcases av h with⟨e4,h⟩|⟨e4,h⟩
  ·obtain rfl:=ak h;try refine ah ?_
   exact(bR (.cons (dG (.cons (.pure _ (.str _)) (.cons (.pure _ (.int _ _)) (.cons (.pure _ (.int _ _)) (.cons (.pure _ (.int _ _)) (.cons (.pure _ (.bool _)) (.cons (.pure _ (.int _ _)) (.cons (.pure _ (.int _ _)) .nil)))))))) (.cons (.pure _ (.bool _)) .nil)))
  ·obtain⟨p6,e5,h⟩:=aj h;try refine ah ?_
   refine aA (nS e5) ?_;obtain rfl:=ak h;try refine ah ?_
   exact(bR (.cons (dG (.cons (.pure _ (.str _)) (.cons (.pure _ (.int _ _)) (.cons (.pure _ (.int _ _)) (.cons (.pure _ (.int _ _)) (.cons (.pure _ (.bool _)) (.cons (.pure _ (.int _ _)) (.cons (.pure _ (.int _ _)) .nil)))))))) (.cons (.pure _ (.bool _)) .nil)))
def EO (k:Nat) (iY:Str):Option (Operator×Int):=
  Option.bind (jV k iY) fun p2=>Option.bind (kE (!p2.2) 10) fun p4=>some (p2.1,p4)
theorem Uf {k:Nat} {iY:Str} {r:Operator×Int} (h:EO k iY=some r):aF Tryz.prog 26 [(.str iY)] (.dw [(.agg (Operator.cells r.1)),(.int .i64 r.2)]):=by
  refine aF.aP (bg.mem (.cons (.str _) .nil)) (aH arl (by simp) (aD ?_)) (.dw _ (bg.mem (.cons (.agg _ (Operator.pu _)) (.cons (.int _ _) .nil))));unfold EO at h;unfold akP;obtain⟨p2,e1,h⟩:=aj h;try refine ah ?_
  refine aA (nS e1) ?_;try refine ah ?_
  refine eF ?_;obtain⟨p4,e3,h⟩:=aj h;try refine ah ?_
  refine PC.mk (jI e3) ?_;obtain rfl:=ak h;try refine ah ?_
  exact(bR (.cons (dG (.cons (.pure _ (.str _)) (.cons (.pure _ (.int _ _)) (.cons (.pure _ (.int _ _)) (.cons (.pure _ (.int _ _)) (.cons (.pure _ (.bool _)) (.cons (.pure _ (.int _ _)) (.cons (.pure _ (.int _ _)) .nil)))))))) (.cons (.pure _ (.int _ _)) .nil)))
def K5 (k:Nat) (bW:Int) (Qe:List Nd) (qY:Bool):Option Bool:=
  cond qY (if 0<=bW then Option.bind (Qe[bW.toNat]?) fun x3=>Option.bind (Oe k x3.kind) fun p6=>some (p6)else none) (some (false))
def Qf:List Nat:=List.range' 11 8
theorem aam (k:Nat): ∀(Wn:Nat) (bW:Int) (Qe:List Nd) (qY:Bool) (aC σ:Nat->PV) (H:AH) (f0:Fr Qf aC σ) (sl:σ 1=(.int .i64 bW)/\σ 3=(.ref (Wn) 0)/\σ 10=(.bool qY)/\H.obj Wn=some [(.aB (Qe.map Nd.cells) .unk)]) (Ug:Wn<H.next) (o:Bool) (h:K5 k bW Qe qY=some o) (Q:Post) (q0: ∀(p:Bool) (σ':Nat->PV),o=p->Fr Qf aC σ'->(σ' 18=(.bool p))->Q .normal σ' H),cO Tryz.prog RQ (Q .normal) σ H:=by
  intro Wn bW Qe qY aC σ H f0 sl Ug o h Q q0;obtain⟨s1,s3,s10,atY⟩:=sl;have atZ:=ne_next Ug;have at0:=aS Ug;unfold K5 at h;refine dx ?_;unfold RQ;rcases av h with⟨e1,h⟩|⟨e1,h⟩
  ·obtain⟨e2,h⟩:=aO h;obtain⟨x3,e4,h⟩:=aj h;obtain⟨p6,e5,h⟩:=aj h;try refine ah ?_
   refine aA (ab4 e5) ?_;obtain rfl:=ak h;try refine ah ?_
   exact q0 _ _ rfl aN au
  ·obtain rfl:=ak h;try refine ah ?_
   exact q0 _ _ rfl aN au
def EP (eX:Str) (iq:Int) (gP:Int) (gF:Int) (gQ:Bool) (iw:Int) (iy:Int) (Cj:Str) (ER:Int) (ES:Int) (Qg:Int) (Qh:Bool) (Qi:Int) (Qj:Int) (Za:Bool):Option Bool:=
  cond Za (cond (ER==0) (cond (decide (ES<gP)) (some (true)) (cond (ER !=0) (cond (decide (ES<=gF)) (some (true)) (cond (Cj==([45,46]:Str)) (some ((eX==([45,46]:Str)))) (some (false)))) (cond (Cj==([45,46]:Str)) (some ((eX==([45,46]:Str)))) (some (false))))) (cond (ER !=0) (cond (decide (ES<=gF)) (some (true)) (cond (Cj==([45,46]:Str)) (some ((eX==([45,46]:Str)))) (some (false)))) (cond (Cj==([45,46]:Str)) (some ((eX==([45,46]:Str)))) (some (false))))) (some (false))
def JC:List Nat:=List.range' 71 33
theorem Uh: ∀(fO:Nat) (K6:Nat) (eX:Str) (iq:Int) (gP:Int) (gF:Int) (gQ:Bool) (iw:Int) (iy:Int) (Cj:Str) (ER:Int) (ES:Int) (Qg:Int) (Qh:Bool) (Qi:Int) (Qj:Int) (Za:Bool) (aC σ:Nat->PV) (H:AH) (f0:Fr JC aC σ) (sl:σ 6=(.ref (fO) 0)/\σ 12=(.ref (K6) 0)/\σ 70=(.bool Za)/\H.obj fO=some [(.str eX),(.int .i64 iq),(.int .i64 gP),(.int .i64 gF),(.bool gQ),(.int .i64 iw),(.int .i64 iy)]/\H.obj K6=some [(.str Cj),(.int .i64 ER),(.int .i64 ES),(.int .i64 Qg),(.bool Qh),(.int .i64 Qi),(.int .i64 Qj)]) (jg:fO<H.next) (Ow:K6<H.next) (Bl:fO≠K6) (o:Bool) (h:EP eX iq gP gF gQ iw iy Cj ER ES Qg Qh Qi Qj Za=some o) (Q:Post) (q0: ∀(p:Bool) (σ':Nat->PV),o=p->Fr JC aC σ'->(σ' 103=(.bool p))->Q .normal σ' H),cO Tryz.prog Ny (Q .normal) σ H:=by
  intro fO K6 eX iq gP gF gQ iw iy Cj ER ES Qg Qh Qi Qj Za aC σ H f0 sl jg Ow Bl o h Q q0;obtain⟨s6,s12,s70,Ma,atg⟩:=sl;have Mc:=ne_next jg;have Md:=aS jg;have ath:=ne_next Ow;have ati:=aS Ow;have ajB:=eq_false Bl;have ajC:=eq_false (Ne.symm Bl);unfold EP at h;refine dx ?_;unfold Ny;rcases av h with⟨e21,h⟩|⟨e21,h⟩
  ·rcases av h with⟨e22,h⟩|⟨e22,h⟩
   ·rcases av h with⟨e23,h⟩|⟨e23,h⟩
    ·obtain rfl:=ak h;try refine ah ?_
     exact q0 _ _ rfl aN au
    ·rcases av h with⟨e24,h⟩|⟨e24,h⟩
     ·rcases av h with⟨e25,h⟩|⟨e25,h⟩
      ·obtain rfl:=ak h;try refine ah ?_
       exact q0 _ _ rfl aN au
      ·rcases av h with⟨e26,h⟩|⟨e26,h⟩
       ·obtain rfl:=ak h;try refine ah ?_
        exact q0 _ _ rfl aN au
       ·obtain rfl:=ak h;try refine ah ?_
        exact q0 _ _ rfl aN au
     ·rcases av h with⟨e27,h⟩|⟨e27,h⟩
      ·obtain rfl:=ak h;try refine ah ?_
       exact q0 _ _ rfl aN au
      ·obtain rfl:=ak h;try refine ah ?_
       exact q0 _ _ rfl aN au
   ·rcases av h with⟨e28,h⟩|⟨e28,h⟩
    ·rcases av h with⟨e29,h⟩|⟨e29,h⟩
     ·obtain rfl:=ak h;try refine ah ?_
      exact q0 _ _ rfl aN au
     ·rcases av h with⟨e30,h⟩|⟨e30,h⟩
      ·obtain rfl:=ak h;try refine ah ?_
       exact q0 _ _ rfl aN au
      ·obtain rfl:=ak h;try refine ah ?_
       exact q0 _ _ rfl aN au
    ·rcases av h with⟨e31,h⟩|⟨e31,h⟩
     ·obtain rfl:=ak h;try refine ah ?_
      exact q0 _ _ rfl aN au
     ·obtain rfl:=ak h;try refine ah ?_
      exact q0 _ _ rfl aN au
  ·obtain rfl:=ak h;try refine ah ?_
   exact q0 _ _ rfl aN au
def ET (eX:Str) (iq:Int) (gP:Int) (gF:Int) (gQ:Bool) (iw:Int) (iy:Int) (Qk:Bool):Option Bool:=
  cond Qk (Option.bind (eX[0]?) fun x47=>some ((decide ((x47.toNat:Int)<=90)))) (some (false))
def JD:List Nat:=[116,117,118,119,120]
theorem Ui: ∀(fO:Nat) (eX:Str) (iq:Int) (gP:Int) (gF:Int) (gQ:Bool) (iw:Int) (iy:Int) (Qk:Bool) (aC σ:Nat->PV) (H:AH) (f0:Fr JD aC σ) (sl:σ 6=(.ref (fO) 0)/\σ 115=(.bool Qk)/\H.obj fO=some [(.str eX),(.int .i64 iq),(.int .i64 gP),(.int .i64 gF),(.bool gQ),(.int .i64 iw),(.int .i64 iy)]) (jg:fO<H.next) (o:Bool) (h:ET eX iq gP gF gQ iw iy Qk=some o) (Q:Post) (q0: ∀(p:Bool) (σ':Nat->PV),o=p->Fr JD aC σ'->(σ' 120=(.bool p))->Q .normal σ' H),cO Tryz.prog Nz (Q .normal) σ H:=by
  intro fO eX iq gP gF gQ iw iy Qk aC σ H f0 sl jg o h Q q0;obtain⟨s6,axM,Ma⟩:=sl;have Mc:=ne_next jg;have Md:=aS jg;unfold ET at h;refine dx ?_;unfold Nz;rcases av h with⟨e46,h⟩|⟨e46,h⟩
  ·obtain⟨x47,e48,h⟩:=aj h;obtain rfl:=ak h;try refine ah ?_
   exact q0 _ _ rfl aN au
  ·obtain rfl:=ak h;try refine ah ?_
   exact q0 _ _ rfl aN au
def EU (eX:Str) (iq:Int) (gP:Int) (gF:Int) (gQ:Bool) (iw:Int) (iy:Int) (yP:Str):Option Str:=
  cond (eX==([45,46]:Str)) (some (([45]:Str))) (Option.bind (eX[0]?) fun x44=>Option.bind (ET eX iq gP gF gQ iw iy (decide ((x44.toNat:Int)>=65))) (fun p51=>cond p51 (if yP.length+([32]:Str).length<=4611686018427387904 then some ((yP++([32]:Str)))else none) (some (yP))))
def JE:List Nat:=[15]++List.range' 106 17
theorem Uj: ∀(fO:Nat) (eX:Str) (iq:Int) (gP:Int) (gF:Int) (gQ:Bool) (iw:Int) (iy:Int) (yP:Str) (aC σ:Nat->PV) (H:AH) (f0:Fr JE aC σ) (sl:σ 6=(.ref (fO) 0)/\σ 15=(.str yP)/\H.obj fO=some [(.str eX),(.int .i64 iq),(.int .i64 gP),(.int .i64 gF),(.bool gQ),(.int .i64 iw),(.int .i64 iy)]) (jg:fO<H.next) (o:Str) (h:EU eX iq gP gF gQ iw iy yP=some o) (Q:Post) (q0: ∀(p:Str) (σ':Nat->PV),o=p->Fr JE aC σ'->(σ' 15=(.str p))->Q .normal σ' H),W Tryz.prog NA Q σ H:=by
  intro fO eX iq gP gF gQ iw iy yP aC σ H f0 sl jg o h Q q0;obtain⟨s6,s15,Ma⟩:=sl;have Mc:=ne_next jg;have Md:=aS jg;unfold EU at h;refine aD ?_;unfold NA;rcases av h with⟨e43,h⟩|⟨e43,h⟩
  ·obtain rfl:=ak h;try refine ah ?_
   exact q0 _ _ rfl aN au
  ·obtain⟨x44,e45,h⟩:=aj h;try refine ah ?_
   obtain⟨o49,h50,h⟩:=aj h;refine Ui (fO) eX iq gP gF gQ iw iy (decide ((x44.toNat:Int)>=65)) _ _ _ (Fr.refl _ _) au bO _ h50 _ ?_
   ·rintro p51 σ' eo agx s55;rw [eo]at h;have s56:σ' 15=(.str yP):=(agx 15 (by decide)).trans au;rcases av h with⟨e57,h⟩|⟨e57,h⟩
    ·obtain⟨e58,h⟩:=aO h;try refine ah ?_
     refine dO (dH e58) ?_;obtain rfl:=ak h;try refine ah ?_
     exact q0 _ _ rfl (by repeat (first|exact f0|refine Fr.upd (by decide) ?_|refine Fr.via agx (by decide) ?_)) au
    ·obtain rfl:=ak h;try refine ah ?_
     exact q0 _ _ rfl (by repeat (first|exact f0|refine Fr.upd (by decide) ?_|refine Fr.via agx (by decide) ?_)) au
def EW (eX:Str) (iq:Int) (gP:Int) (gF:Int) (gQ:Bool) (iw:Int) (iy:Int) (Zb:Int) (K7:Str) (Ql:Int) (K8:Int) (Qm:Int) (Qn:Bool) (Qo:Int) (Qp:Int) (Qq:Bool):Option Bool:=
  cond Qq (cond (decide (K8<=gF)) (cond (Zb==0) (cond (K7==eX) (some ((!gQ))) (some (true))) (some (true))) (some (false))) (some (false))
def JF:List Nat:=List.range' 153 22
theorem Uk: ∀(fO:Nat) (K9:Nat) (eX:Str) (iq:Int) (gP:Int) (gF:Int) (gQ:Bool) (iw:Int) (iy:Int) (Zb:Int) (K7:Str) (Ql:Int) (K8:Int) (Qm:Int) (Qn:Bool) (Qo:Int) (Qp:Int) (Qq:Bool) (aC σ:Nat->PV) (H:AH) (f0:Fr JF aC σ) (sl:σ 6=(.ref (fO) 0)/\σ 18=(.int .i64 Zb)/\σ 20=(.ref (K9) 0)/\σ 152=(.bool Qq)/\H.obj fO=some [(.str eX),(.int .i64 iq),(.int .i64 gP),(.int .i64 gF),(.bool gQ),(.int .i64 iw),(.int .i64 iy)]/\H.obj K9=some [(.str K7),(.int .i64 Ql),(.int .i64 K8),(.int .i64 Qm),(.bool Qn),(.int .i64 Qo),(.int .i64 Qp)]) (jg:fO<H.next) (Ox:K9<H.next) (Bn:fO≠K9) (o:Bool) (h:EW eX iq gP gF gQ iw iy Zb K7 Ql K8 Qm Qn Qo Qp Qq=some o) (Q:Post) (q0: ∀(p:Bool) (σ':Nat->PV),o=p->Fr JF aC σ'->(σ' 174=(.bool p))->Q .normal σ' H),cO Tryz.prog NC (Q .normal) σ H:=by
  intro fO K9 eX iq gP gF gQ iw iy Zb K7 Ql K8 Qm Qn Qo Qp Qq aC σ H f0 sl jg Ox Bn o h Q q0;obtain⟨s6,pQ,s20,axN,Ma,atj⟩:=sl;have Mc:=ne_next jg;have Md:=aS jg;have atl:=ne_next Ox;have atm:=aS Ox;have ajD:=eq_false Bn;have ajE:=eq_false (Ne.symm Bn);unfold EW at h;refine dx ?_;unfold NC;rcases av h with⟨e79,h⟩|⟨e79,h⟩
  ·rcases av h with⟨e80,h⟩|⟨e80,h⟩
   ·rcases av h with⟨XJ,h⟩|⟨XJ,h⟩
    ·rcases av h with⟨e82,h⟩|⟨e82,h⟩
     ·obtain rfl:=ak h;try refine ah ?_
      exact q0 _ _ rfl aN au
     ·obtain rfl:=ak h;try refine ah ?_
      exact q0 _ _ rfl aN au
    ·obtain rfl:=ak h;try refine ah ?_
     exact q0 _ _ rfl aN au
   ·obtain rfl:=ak h;try refine ah ?_
    exact q0 _ _ rfl aN au
  ·obtain rfl:=ak h;try refine ah ?_
   exact q0 _ _ rfl aN au
def JG:List Nat:=[16,18,19,20,21,22]++List.range' 140 49
mutual
def lJ:Nat->Printer->Int->Bool->Option Str
  |0,_,_,_=>none
  |k+1,p_0,bW,jN=>
    Option.bind (K5 k bW p_0.e jN) (fun p9=>cond p9 (Option.bind (EX k p_0 bW) fun uz=>some uz) (Option.bind (wN k p_0 bW) fun mF=>cond mF.2 (Option.bind (FV k p_0 bW mF.1 jN) fun xq=>some xq) (Option.bind (Qr k p_0 bW) fun p26=>some p26)))
def EX:Nat->Printer->Int->Option Str
  |0,_,_=>none
  |k+1,p_0,bW=>
    Option.bind (lJ k p_0 bW false) fun p2=>if([40]:Str).length+p2.length<=4611686018427387904 then if(40::p2).length+([41]:Str).length<=4611686018427387904 then some (40::(p2++([41]:Str)))else none else none
def rJ:Nat->Printer->Int->Bool->Bool->Option Str
  |0,_,_,_,_=>none
  |k+1,p_0,bW,Ia,bU=>
    cond Ia (Option.bind (EX k p_0 bW) fun p3=>some p3) (Option.bind (lJ k p_0 bW bU) fun p5=>some p5)
def q9:Nat->Bool->(List Nd)->Str->Int->Int->Int->Bool->Int->Int->(List Str)->Int->(List Int)->Int->Int->Option (List Str)
  |0,_,_,_,_,_,_,_,_,_,_,_,_,_,_=>none
  |k+1,bU,uI,eX,iq,gP,gF,gQ,iw,iy,ou,ru,Aq,Ar,qh=>
    cond (decide (qh<Ar)) (if 0<=qh then Option.bind (Aq[qh.toNat]?) fun Zc=>Option.bind (wN k (Printer.mk uI) Zc) fun Cm=>Option.bind (EW eX iq gP gF gQ iw iy qh Cm.1.text Cm.1.fix Cm.1.low Cm.1.high Cm.1.left Cm.1.least Cm.1.most Cm.2) (fun p85=>cond (decide (qh<ru)) (Option.bind (rJ k (Printer.mk uI) Zc p85 true) fun Om=>if(ou.length+1)*16<=1099511627776 then q9 k bU uI eX iq gP gF gQ iw iy (ou++[Om]) ru Aq Ar (IntKind.wrap .i64 (qh+1))else none) (Option.bind (rJ k (Printer.mk uI) Zc p85 bU) fun acF=>if(ou.length+1)*16<=1099511627776 then q9 k bU uI eX iq gP gF gQ iw iy (ou++[acF]) ru Aq Ar (IntKind.wrap .i64 (qh+1))else none))else none) (some (ou))
def FV:Nat->Printer->Int->Operator->Bool->Option Str
  |0,_,_,_,_=>none
  |k+1,p_0,bW,eY,bU=>
    if 0<=bW then Option.bind (p_0.e[bW.toNat]?) fun x2=>cond (eY.fix==2) (Option.bind (x2.args[0]?) fun x5=>Option.bind (wN k p_0 x5) fun p8=>cond p8.2 (Option.bind (rJ k p_0 x5 (!(p8.1.text==eY.text)) true) fun rC=>if rC.length+eY.text.length<=4611686018427387904 then some (rC++eY.text)else none) (Option.bind (rJ k p_0 x5 false true) fun kZ=>if kZ.length+eY.text.length<=4611686018427387904 then some (kZ++eY.text)else none)) (cond (eY.fix==0) (Option.bind (x2.args[0]?) fun FI=>Option.bind (wN k p_0 FI) fun lI=>Option.bind (EP eY.text eY.fix eY.low eY.high eY.left eY.least eY.most lI.1.text lI.1.fix lI.1.low lI.1.high lI.1.left lI.1.least lI.1.most lI.2) (fun p34=>Option.bind (EU eY.text eY.fix eY.low eY.high eY.left eY.least eY.most eY.text) (fun p61=>Option.bind (rJ k p_0 FI p34 bU) fun p71=>if p61.length+p71.length<=4611686018427387904 then some (p61++p71)else none))) (Option.bind (q9 k bU p_0.e eY.text eY.fix eY.low eY.high eY.left eY.least eY.most ([]:List Str) (IntKind.wrap .i64 ((x2.args.length:Int) -1)) x2.args (x2.args.length:Int) 0) (fun Zd=>if([32]:Str).length+eY.text.length<=4611686018427387904 then if(32::eY.text).length+([32]:Str).length<=4611686018427387904 then if Zd.length<=1099511627776 then if(Lib.join Zd (32::(eY.text++([32]:Str)))).length<=140737488355328 then some (Lib.join Zd (32::(eY.text++([32]:Str))))else none else none else none else none)))else none
def Qr:Nat->Printer->Int->Option Str
  |0,_,_=>none
  |k+1,p_0,bW=>
    if 0<=bW then Option.bind (p_0.e[bW.toNat]?) fun x2=>cond (x2.kind==0) (if 0<=x2.n/\x2.n<100 then some (Lib.decDigits (Int.toNat x2.n))else none) (cond (x2.kind==1) (if([34]:Str).length+x2.text.length<=4611686018427387904 then if(34::x2.text).length+([34]:Str).length<=4611686018427387904 then some (34::(x2.text++([34]:Str)))else none else none) (cond (x2.kind==2) (some x2.text) (cond (x2.kind==3) (if x2.text.length+([40]:Str).length<=4611686018427387904 then Option.bind (wY p_0 x2.args) fun qF=>if(x2.text++([40]:Str)).length+qF.length<=4611686018427387904 then if(x2.text++(40::qF)).length+([41]:Str).length<=4611686018427387904 then some (x2.text++(40::(qF++([41]:Str))))else none else none else none) (cond (x2.kind==4) (Option.bind (wY p_0 x2.args) fun qQ=>if([60,60]:Str).length+qQ.length<=4611686018427387904 then if(60::60::qQ).length+([62,62]:Str).length<=4611686018427387904 then some (60::60::(qQ++([62,62]:Str)))else none else none) (cond (x2.kind==5) (Option.bind (wY p_0 x2.args) fun MP=>if([123]:Str).length+MP.length<=4611686018427387904 then if(123::MP).length+([125]:Str).length<=4611686018427387904 then some (123::(MP++([125]:Str)))else none else none) (cond (x2.kind==6) (Option.bind (wY p_0 x2) fun p28=>if([123]:Str).length+p28.length<=4611686018427387904 then if(123::p28).length+([32,58,32]:Str).length<=4611686018427387904 then Option.bind (x2.args[1]?) fun x31=>Option.bind (lJ k p_0 x31 false) fun p34=>if(123::(p28++([32,58,32]:Str))).length+p34.length<=4611686018427387904 then if(123::(p28++(32::58::32::p34))).length+([125]:Str).length<=4611686018427387904 then some (123::(p28++(32::58::32::(p34++([125]:Str)))))else none else none else none else none) (cond (x2.kind==7) (if 0<=(IntKind.wrap .i64 ((x2.args.length:Int) -1))then Option.bind (x2.args[(IntKind.wrap .i64 ((x2.args.length:Int) -1)).toNat]?) fun x39=>Option.bind (wY p_0 x39) fun p42=>if([123]:Str).length+p42.length<=4611686018427387904 then if(123::p42).length+([32,58,32]:Str).length<=4611686018427387904 then Option.bind (wY p_0 x2) fun p46=>if(123::(p42++([32,58,32]:Str))).length+p46.length<=4611686018427387904 then if(123::(p42++(32::58::32::p46))).length+([125]:Str).length<=4611686018427387904 then some (123::(p42++(32::58::32::(p46++([125]:Str)))))else none else none else none else none else none) (cond (x2.kind==13) (Option.bind (wY p_0 x2) fun p51=>if([91]:Str).length+p51.length<=4611686018427387904 then if(91::p51).length+([32,124,45,62,32]:Str).length<=4611686018427387904 then if 0<=(IntKind.wrap .i64 ((x2.args.length:Int) -1))then Option.bind (x2.args[(IntKind.wrap .i64 ((x2.args.length:Int) -1)).toNat]?) fun x55=>Option.bind (lJ k p_0 x55 false) fun p58=>if(91::(p51++([32,124,45,62,32]:Str))).length+p58.length<=4611686018427387904 then if(91::(p51++(32::124::45::62::32::p58))).length+([93]:Str).length<=4611686018427387904 then some (91::(p51++(32::124::45::62::32::(p58++([93]:Str)))))else none else none else none else none else none) (cond (x2.kind==14) (Option.bind (x2.args[0]?) fun x62=>Option.bind (wY p_0 x62) fun p65=>if p65.length+([91]:Str).length<=4611686018427387904 then if 1<=x2.args.length then Option.bind (wY p_0 (x2.args.drop 1)) fun p69=>if(p65++([91]:Str)).length+p69.length<=4611686018427387904 then if(p65++(91::p69)).length+([93]:Str).length<=4611686018427387904 then some (p65++(91::(p69++([93]:Str))))else none else none else none else none) (cond (x2.kind==15) (Option.bind (x2.args[0]?) fun UQ=>Option.bind (lJ k p_0 UQ false) fun p76=>if([91]:Str).length+p76.length<=4611686018427387904 then if(91::p76).length+([32,45,62,32]:Str).length<=4611686018427387904 then Option.bind (x2.args[1]?) fun x79=>Option.bind (lJ k p_0 x79 false) fun Vb=>if(91::(p76++([32,45,62,32]:Str))).length+Vb.length<=4611686018427387904 then if(91::(p76++(32::45::62::32::Vb))).length+([93]:Str).length<=4611686018427387904 then some (91::(p76++(32::45::62::32::(Vb++([93]:Str)))))else none else none else none else none) (cond (x2.kind==16) (Option.bind (agw p_0 x2 ([32,124,45,62,32]:Str)) fun Ji=>if([91]:Str).length+Ji.length<=4611686018427387904 then if(91::Ji).length+([93]:Str).length<=4611686018427387904 then some (91::(Ji++([93]:Str)))else none else none) (cond (x2.kind==17) (Option.bind (agw p_0 x2 ([32,58,32]:Str)) fun YE=>if([91]:Str).length+YE.length<=4611686018427387904 then if(91::YE).length+([93]:Str).length<=4611686018427387904 then some (91::(YE++([93]:Str)))else none else none) (cond (x2.kind==18) (Option.bind (x2.args[0]?) fun x96=>Option.bind (wY p_0 x96) fun Ze=>if Ze.length+([46]:Str).length<=4611686018427387904 then if(Ze++([46]:Str)).length+x2.text.length<=4611686018427387904 then some (Ze++(46::x2.text))else none else none) (cond (x2.kind==19) (Option.bind (x2.args[0]?) fun x103=>Option.bind (lJ k p_0 x103 false) fun EB=>if([91]:Str).length+EB.length<=4611686018427387904 then if(91::EB).length+([32,69,88,67,69,80,84,32,33,91]:Str).length<=4611686018427387904 then Option.bind (x2.args[1]?) fun agy=>Option.bind (lJ k p_0 agy false) fun CK=>if(91::(EB++([32,69,88,67,69,80,84,32,33,91]:Str))).length+CK.length<=4611686018427387904 then if(91::(EB++(32::69::88::67::69::80::84::32::33::91::CK))).length+([93,32,61,32]:Str).length<=4611686018427387904 then Option.bind (x2.args[2]?) fun x115=>Option.bind (lJ k p_0 x115 false) fun Gi=>if(91::(EB++(32::69::88::67::69::80::84::32::33::91::(CK++([93,32,61,32]:Str))))).length+Gi.length<=4611686018427387904 then if(91::(EB++(32::69::88::67::69::80::84::32::33::91::(CK++(93::32::61::32::Gi))))).length+([93]:Str).length<=4611686018427387904 then some (91::(EB++(32::69::88::67::69::80::84::32::33::91::(CK++(93::32::61::32::(Gi++([93]:Str)))))))else none else none else none else none else none else none) (cond (x2.kind==20) (some ([64]:Str)) (cond (x2.kind==25) (Option.bind (x2.args[0]?) fun agz=>Option.bind (lJ k p_0 agz false) fun Zf=>if([91]:Str).length+Zf.length<=4611686018427387904 then if(91::Zf).length+([93,95]:Str).length<=4611686018427387904 then Option.bind (x2.args[1]?) fun agC=>Option.bind (wY p_0 agC) fun TU=>if(91::(Zf++([93,95]:Str))).length+TU.length<=4611686018427387904 then some (91::(Zf++(93::95::TU)))else none else none else none) (cond (x2.kind==26) (Option.bind (x2.args[0]?) fun agD=>Option.bind (lJ k p_0 agD false) fun Km=>if([60,60]:Str).length+Km.length<=4611686018427387904 then if(60::60::Km).length+([62,62,95]:Str).length<=4611686018427387904 then Option.bind (x2.args[1]?) fun agE=>Option.bind (wY p_0 agE) fun Tn=>if(60::60::(Km++([62,62,95]:Str))).length+Tn.length<=4611686018427387904 then some (60::60::(Km++(62::62::95::Tn)))else none else none else none) (cond (x2.kind==27) (Option.bind (x2.args[1]?) fun agF=>Option.bind (wY p_0 agF) fun Ul=>if([87,70,95]:Str).length+Ul.length<=4611686018427387904 then if(87::70::95::Ul).length+([40]:Str).length<=4611686018427387904 then Option.bind (x2.args[0]?) fun x153=>Option.bind (lJ k p_0 x153 false) fun Oc=>if(87::70::95::(Ul++([40]:Str))).length+Oc.length<=4611686018427387904 then if(87::70::95::(Ul++(40::Oc))).length+([41]:Str).length<=4611686018427387904 then some (87::70::95::(Ul++(40::(Oc++([41]:Str)))))else none else none else none else none) (cond (x2.kind==28) (Option.bind (x2.args[1]?) fun x160=>Option.bind (wY p_0 x160) fun Um=>if([83,70,95]:Str).length+Um.length<=4611686018427387904 then if(83::70::95::Um).length+([40]:Str).length<=4611686018427387904 then Option.bind (x2.args[0]?) fun agG=>Option.bind (lJ k p_0 agG false) fun acG=>if(83::70::95::(Um++([40]:Str))).length+acG.length<=4611686018427387904 then if(83::70::95::(Um++(40::acG))).length+([41]:Str).length<=4611686018427387904 then some (83::70::95::(Um++(40::(acG++([41]:Str)))))else none else none else none else none) (Option.bind (wY p_0 x2) fun anY=>some anY))))))))))))))))))))else none
end
mutual
theorem kX (k:Nat): ∀(p_0:Printer) (bW:Int) (jN:Bool) (r:Str) (h:lJ k p_0 bW jN=some r),aF Tryz.prog 59 [(.agg (Printer.cells p_0)),(.int .i64 bW),(.bool jN)] (.str r):=by
  match k with
  |0=>intro p_0 bW jN r h;rw [lJ]at h;cases h
  |k+1=>
    intro p_0 bW jN r h;refine aF.aP (bg.mem (.cons (.agg _ (Printer.pu _)) (.cons (.int _ _) (.cons (.bool _) .nil)))) (aH arF (by simp) (aD ?_)) (.str _);rw [lJ]at h;unfold alk;try refine ah ?_
    obtain⟨o7,h8,h⟩:=aj h;refine aam k (AH.empty.next) bW p_0.e jN _ _ _ (Fr.refl _ _) au bO _ h8 _ ?_
    ·rintro p9 σ' eo X5 s13;rw [eo]at h;have MN:σ' 1=(.int .i64 bW):=(X5 1 (by decide)).trans au;have s15:σ' 2=(.bool jN):=(X5 2 (by decide)).trans au;have s16:σ' 3=(.ref (AH.empty.next) 0):=(X5 3 (by decide)).trans au;rcases av h with⟨e17,h⟩|⟨e17,h⟩
     ·obtain⟨uz,e18,h⟩:=aj h;try refine ah ?_
      refine aA ((Qs k p_0 bW _ e18).wk (.same (.same .nil))) ?_;obtain rfl:=ak h;try refine ah ?_
      exact(.pure _ (.str _))
     ·obtain⟨mF,e20,h⟩:=aj h;try refine ah ?_
      refine aA (Ap e20) ?_;rcases av h with⟨e22,h⟩|⟨e22,h⟩
      ·obtain⟨xq,e23,h⟩:=aj h;try refine ah ?_
       refine aA ((aan k p_0 bW mF.1 jN _ e23).wk (.same (.same (.same (.same .nil))))) ?_;obtain rfl:=ak h;try refine ah ?_
       exact(.pure _ (.str _))
      ·obtain⟨p26,e25,h⟩:=aj h;try refine ah ?_
       refine aA ((agH k p_0 bW _ e25).wk (.same (.same .nil))) ?_;obtain rfl:=ak h;try refine ah ?_
       exact(.pure _ (.str _))
theorem Qs (k:Nat): ∀(p_0:Printer) (bW:Int) (r:Str) (h:EX k p_0 bW=some r),aF Tryz.prog 99 [(.agg (Printer.cells p_0)),(.int .i64 bW)] (.str r):=by
  match k with
  |0=>intro p_0 bW r h;rw [EX]at h;cases h
  |k+1=>
    intro p_0 bW r h;refine aF.aP (bg.mem (.cons (.agg _ (Printer.pu _)) (.cons (.int _ _) .nil))) (aH ar4 (by simp) (aD ?_)) (.str _);rw [EX]at h;unfold alU;obtain⟨p2,e1,h⟩:=aj h;try refine ah ?_
    refine aA ((kX k p_0 bW false _ e1).wk (.same (.same (.same .nil)))) ?_;obtain⟨e3,h⟩:=aO h;try refine ah ?_
    refine dO (dH e3) ?_;obtain⟨e4,h⟩:=aO h;try refine ah ?_
    refine dO (dH e4) ?_;obtain rfl:=ak h;try refine ah ?_
    exact(.pure _ (.str _))
theorem xJ (k:Nat): ∀(p_0:Printer) (bW:Int) (Ia:Bool) (bU:Bool) (r:Str) (h:rJ k p_0 bW Ia bU=some r),aF Tryz.prog 150 [(.agg (Printer.cells p_0)),(.int .i64 bW),(.bool Ia),(.bool bU)] (.str r):=by
  match k with
  |0=>intro p_0 bW Ia bU r h;rw [rJ]at h;cases h
  |k+1=>
    intro p_0 bW Ia bU r h;refine aF.aP (bg.mem (.cons (.agg _ (Printer.pu _)) (.cons (.int _ _) (.cons (.bool _) (.cons (.bool _) .nil))))) (aH ao9 (by simp) (aD ?_)) (.str _);rw [rJ]at h;unfold ahG;rcases av h with⟨e1,h⟩|⟨e1,h⟩
    ·obtain⟨p3,e2,h⟩:=aj h;try refine ah ?_
     refine aA ((Qs k p_0 bW _ e2).wk (.same (.same .nil))) ?_;obtain rfl:=ak h;try refine ah ?_
     exact(.pure _ (.str _))
    ·obtain⟨p5,e4,h⟩:=aj h;try refine ah ?_
     refine aA ((kX k p_0 bW bU _ e4).wk (.same (.same (.same .nil)))) ?_;obtain rfl:=ak h;try refine ah ?_
     exact(.pure _ (.str _))
theorem Ib (k:Nat): ∀(wO:Nat) (fO:Nat) (bU:Bool) (uI:List Nd) (eX:Str) (iq:Int) (gP:Int) (gF:Int) (gQ:Bool) (iw:Int) (iy:Int) (ou:List Str) (ru:Int) (Aq:List Int) (Ar:Int) (qh:Int) (nN:Ck) (aC σ:Nat->PV) (H0 H:AH) (f0:Fr JG aC σ) (hf0:HF [] H0 H) (sl:σ 3=(.bool bU)/\σ 4=(.ref (wO) 0)/\σ 6=(.ref (fO) 0)/\σ 16=(.aB (ou.map aX) nN)/\σ 17=(.int .i64 ru)/\σ 138=(.aB (Aq.map aY) .unk)/\σ 139=(.int .i64 Ar)/\σ 140=(.int .i64 qh)/\H.obj wO=some [(.aB (uI.map Nd.cells) .unk)]/\H.obj fO=some [(.str eX),(.int .i64 iq),(.int .i64 gP),(.int .i64 gF),(.bool gQ),(.int .i64 iw),(.int .i64 iy)]) (Me:wO<H.next) (jg:fO<H.next) (xU:wO≠fO) (Vd:cB H nN) (o:List Str) (h:q9 k bU uI eX iq gP gF gQ iw iy ou ru Aq Ar qh=some o) (Q:Post) (q0: ∀(p:List Str) (c0:Ck) (σ':Nat->PV) (H':AH),o=p->Fr JG aC σ'->HF [] H0 H'->(σ' 16=(.aB (p.map aX) c0))->Q (.exit 2) σ' H'),W Tryz.prog (.loop ND) Q σ H:=by
  match k with
  |0=>intro wO fO bU uI eX iq gP gF gQ iw iy ou ru Aq Ar qh nN aC σ H0 H f0 hf0 sl Me jg xU Vd o h Q q0;rw [q9]at h;cases h
  |k+1=>
    have ih:=Ib k;intro wO fO bU uI eX iq gP gF gQ iw iy ou ru Aq Ar qh nN aC σ H0 H f0 hf0 sl Me jg xU Vd o h Q q0;obtain⟨s3,s4,s6,s16,s17,anD,anE,axO,at1,Ma⟩:=sl;have at5:=ne_next Me;have at6:=aS Me;have Mc:=ne_next jg;have Md:=aS jg;have ajT:=eq_false xU;have ajU:=eq_false (Ne.symm xU);have hle0:=hf0.1;rw [q9]at h;refine aV (fun K hK=>aD ?_);unfold ND;rcases av h with⟨Pq,h⟩|⟨Pq,h⟩
    ·obtain⟨e74,h⟩:=aO h;obtain⟨Zc,MK,h⟩:=aj h;obtain⟨Cm,ML,h⟩:=aj h;try refine ah ?_
     refine aA (Ap ML) ?_;try refine ah ?_
     obtain⟨o83,h84,h⟩:=aj h;refine Uk (fO) (H.next) eX iq gP gF gQ iw iy qh Cm.1.text Cm.1.fix Cm.1.low Cm.1.high Cm.1.left Cm.1.least Cm.1.most Cm.2 _ _ _ (Fr.refl _ _) au bO bO bO _ h84 _ ?_
     ·rintro p85 σ' eo CO s89;rw [eo]at h;have s90:σ' 3=(.bool bU):=(CO 3 (by decide)).trans au;have s91:σ' 4=(.ref (wO) 0):=(CO 4 (by decide)).trans au;have s92:σ' 6=(.ref (fO) 0):=(CO 6 (by decide)).trans au;have s93:σ' 16=(.aB (ou.map aX) nN):=(CO 16 (by decide)).trans au;have s94:σ' 17=(.int .i64 ru):=(CO 17 (by decide)).trans au;have s95:σ' 18=(.int .i64 qh):=(CO 18 (by decide)).trans au;have s96:σ' 19=(.int .i64 Zc):=(CO 19 (by decide)).trans au;have s97:σ' 138=(.aB (Aq.map aY) .unk):=(CO 138 (by decide)).trans au;have s98:σ' 139=(.int .i64 Ar):=(CO 139 (by decide)).trans au;have s99:σ' 140=(.int .i64 qh):=(CO 140 (by decide)).trans au;rcases av h with⟨e100,h⟩|⟨e100,h⟩
      ·obtain⟨Om,N9,h⟩:=aj h;try refine ah ?_
       refine aA ((xJ k (Printer.mk uI) Zc p85 true _ N9).wk (.same (.same (.same (.same .nil))))) ?_;obtain⟨Er,h⟩:=aO h;try refine ah ?_
       refine ku (f:=aX) AU ou ([Om]:List Str) nN .exact au au fE (by first|exact Er|(simp only [List.length_cons,List.length_nil];exact Er)) (fun atn Oy awv le apC aww=> ?_);have Wj:HF [] _ Oy:=⟨le,fun i _ _=>apC i⟩;try simp only [AH.aI,AH.aJ,AH.aL,AH.aM]at le
       have n119:=ne_next (show wO<Oy.next by first|omega|(simp only [AH.aI,AH.aJ,AH.aL,AH.aM];omega));have axP:=aS (show wO<Oy.next by first|omega|(simp only [AH.aI,AH.aJ,AH.aL,AH.aM];omega));have n121:=ne_next (show fO<Oy.next by first|omega|(simp only [AH.aI,AH.aJ,AH.aL,AH.aM];omega));have axQ:=aS (show fO<Oy.next by first|omega|(simp only [AH.aI,AH.aJ,AH.aL,AH.aM];omega));have n123:=ne_next (show H.next<Oy.next by first|omega|(simp only [AH.aI,AH.aJ,AH.aL,AH.aM];omega));have axR:=aS (show H.next<Oy.next by first|omega|(simp only [AH.aI,AH.aJ,AH.aL,AH.aM];omega));try refine ah ?_
       refine hK _ _ ?_;exact ih wO fO bU uI eX iq gP gF gQ iw iy (ou++[Om]) ru Aq Ar (IntKind.wrap .i64 (qh+1)) atn _ _ _ _ (by repeat (first|exact f0|refine Fr.upd (by decide) ?_|refine Fr.via CO (by decide) ?_)) (by repeat (first|exact hf0|refine HF.new ?_|refine HF.eG ?_|refine HF.used ?_|refine HF.put (by first|(right;omega)|(left;simp only [List.mem_cons,true_or,or_true])) ?_|refine HF.via Wj (by first|exact fun i hi=>absurd hi List.not_mem_nil|(intro i hi;simp only [List.mem_cons,List.not_mem_nil,or_false]at hi⊢;first|exact .inl hi|omega)) ?_)) au bO bO bO fE _ h _ q0
      ·obtain⟨acF,Kq,h⟩:=aj h;try refine ah ?_
       refine aA ((xJ k (Printer.mk uI) Zc p85 bU _ Kq).wk (.same (.same (.same (.same .nil))))) ?_;obtain⟨e116,h⟩:=aO h;try refine ah ?_
       refine ku (f:=aX) AU ou ([acF]:List Str) nN .exact au au fE (by first|exact e116|(simp only [List.length_cons,List.length_nil];exact e116)) (fun ato Oz ahk le apD awx=> ?_);have apE:HF [] _ Oz:=⟨le,fun i _ _=>apD i⟩;try simp only [AH.aI,AH.aJ,AH.aL,AH.aM]at le
       have n125:=ne_next (show wO<Oz.next by first|omega|(simp only [AH.aI,AH.aJ,AH.aL,AH.aM];omega));have axS:=aS (show wO<Oz.next by first|omega|(simp only [AH.aI,AH.aJ,AH.aL,AH.aM];omega));have n127:=ne_next (show fO<Oz.next by first|omega|(simp only [AH.aI,AH.aJ,AH.aL,AH.aM];omega));have axT:=aS (show fO<Oz.next by first|omega|(simp only [AH.aI,AH.aJ,AH.aL,AH.aM];omega));have n129:=ne_next (show H.next<Oz.next by first|omega|(simp only [AH.aI,AH.aJ,AH.aL,AH.aM];omega));have axU:=aS (show H.next<Oz.next by first|omega|(simp only [AH.aI,AH.aJ,AH.aL,AH.aM];omega));try refine ah ?_
       refine hK _ _ ?_;exact ih wO fO bU uI eX iq gP gF gQ iw iy (ou++[acF]) ru Aq Ar (IntKind.wrap .i64 (qh+1)) ato _ _ _ _ (by repeat (first|exact f0|refine Fr.upd (by decide) ?_|refine Fr.via CO (by decide) ?_)) (by repeat (first|exact hf0|refine HF.new ?_|refine HF.eG ?_|refine HF.used ?_|refine HF.put (by first|(right;omega)|(left;simp only [List.mem_cons,true_or,or_true])) ?_|refine HF.via apE (by first|exact fun i hi=>absurd hi List.not_mem_nil|(intro i hi;simp only [List.mem_cons,List.not_mem_nil,or_false]at hi⊢;first|exact .inl hi|omega)) ?_)) au bO bO bO fE _ h _ q0
    ·obtain rfl:=ak h;try refine ah ?_
     exact q0 _ nN _ _ rfl aN (by repeat (first|exact hf0|refine HF.new ?_|refine HF.eG ?_|refine HF.used ?_|refine HF.put (by first|(right;omega)|(left;simp only [List.mem_cons,true_or,or_true])) ?_)) au
theorem aan (k:Nat): ∀(p_0:Printer) (bW:Int) (eY:Operator) (bU:Bool) (r:Str) (h:FV k p_0 bW eY bU=some r),aF Tryz.prog 101 [(.agg (Printer.cells p_0)),(.int .i64 bW),(.agg (Operator.cells eY)),(.bool bU)] (.str r):=by
  match k with
  |0=>intro p_0 bW eY bU r h;rw [FV]at h;cases h
  |k+1=>
    intro p_0 bW eY bU r h;refine aF.aP (bg.mem (.cons (.agg _ (Printer.pu _)) (.cons (.int _ _) (.cons (.agg _ (Operator.pu _)) (.cons (.bool _) .nil))))) (aH aoL (by simp) (aD ?_)) (.str _);rw [FV]at h;unfold ahc;obtain⟨e1,h⟩:=aO h;obtain⟨x2,e3,h⟩:=aj h;rcases av h with⟨e4,h⟩|⟨e4,h⟩
    ·try refine ah ?_
     refine QS (AH.empty.next+3) ?_;obtain⟨x5,e6,h⟩:=aj h;obtain⟨p8,e7,h⟩:=aj h;try refine ah ?_
     refine PC.mk (Ap e7) ?_;try refine ah ?_
     refine eF ?_;rcases av h with⟨e9,h⟩|⟨e9,h⟩
     ·obtain⟨rC,e10,h⟩:=aj h;try refine ah ?_
      refine PC.mk ((xJ k p_0 x5 (!(p8.1.text==eY.text)) true _ e10).wk (.same (.same (.same (.same .nil))))) ?_;obtain⟨e12,h⟩:=aO h;try refine ah ?_
      refine dO (dH e12) ?_;obtain rfl:=ak h;try refine ah ?_
      exact(.pure _ (.str _))
     ·obtain⟨kZ,e13,h⟩:=aj h;try refine ah ?_
      refine PC.mk ((xJ k p_0 x5 false true _ e13).wk (.same (.same (.same (.same .nil))))) ?_;obtain⟨e15,h⟩:=aO h;try refine ah ?_
      refine dO (dH e15) ?_;obtain rfl:=ak h;try refine ah ?_
      exact(.pure _ (.str _))
    ·rcases av h with⟨e16,h⟩|⟨e16,h⟩
     ·try refine ah ?_
      refine QS (AH.empty.next+3) ?_;obtain⟨FI,e18,h⟩:=aj h;obtain⟨lI,e19,h⟩:=aj h;try refine ah ?_
      refine PC.mk (Ap e19) ?_;try refine ah ?_
      obtain⟨o32,h33,h⟩:=aj h;refine Uh (AH.empty.next+1) (AH.empty.next+3) eY.text eY.fix eY.low eY.high eY.left eY.least eY.most lI.1.text lI.1.fix lI.1.low lI.1.high lI.1.left lI.1.least lI.1.most lI.2 _ _ _ (Fr.refl _ _) au bO bO bO _ h33 _ ?_
      ·rintro p34 σ' eo acH s38;rw [eo]at h;have s39:σ' 3=(.bool bU):=(acH 3 (by decide)).trans au;have s40:σ' 4=(.ref (AH.empty.next) 0):=(acH 4 (by decide)).trans au;have s41:σ' 6=(.ref (AH.empty.next+1) 0):=(acH 6 (by decide)).trans au;have s42:σ' 9=(.ref (AH.empty.next+2) 0):=(acH 9 (by decide)).trans au;try refine ah ?_
       obtain⟨o59,h60,h⟩:=aj h;refine Uj (AH.empty.next+1) eY.text eY.fix eY.low eY.high eY.left eY.least eY.most eY.text _ _ _ (Fr.refl _ _) au bO _ h60 _ ?_
       ·rintro p61 σ' eo acI s65;rw [eo]at h;have s66:σ' 3=(.bool bU):=(acI 3 (by decide)).trans au;have s67:σ' 4=(.ref (AH.empty.next) 0):=(acI 4 (by decide)).trans au;have s68:σ' 9=(.ref (AH.empty.next+2) 0):=(acI 9 (by decide)).trans au;have s69:σ' 14=(.bool p34):=(acI 14 (by decide)).trans au;try refine ah ?_
        refine eF ?_;obtain⟨p71,e70,h⟩:=aj h;try refine ah ?_
        refine PC.mk ((xJ k p_0 FI p34 bU _ e70).wk (.same (.same (.same (.same .nil))))) ?_;obtain⟨e72,h⟩:=aO h;try refine ah ?_
        refine dO (dH e72) ?_;obtain rfl:=ak h;try refine ah ?_
        exact(.pure _ (.str _))
     ·try refine ah ?_
      obtain⟨axV,atp,h⟩:=aj h;refine Ib k (AH.empty.next) (AH.empty.next+1) bU p_0.e eY.text eY.fix eY.low eY.high eY.left eY.least eY.most ([]:List Str) (IntKind.wrap .i64 ((x2.args.length:Int) -1)) x2.args (x2.args.length:Int) 0 .nil _ _ _ _ (Fr.refl _ _) (HF.refl _ _) au bO bO bO fE _ atp _ ?_
      ·rintro Zd axW σ' agI eo apF ain anD;rw [eo]at h;have anE:σ' 6=(.ref (AH.empty.next+1) 0):=(apF 6 (by decide)).trans au;have le:=ain.1;try simp only [AH.aI,AH.aJ,AH.aL,AH.aM]at le
       have axX:agI.obj (AH.empty.next+1)=some [(.str eY.text),(.int .i64 eY.fix),(.int .i64 eY.low),(.int .i64 eY.high),(.bool eY.left),(.int .i64 eY.least),(.int .i64 eY.most)]:=(ain.2 _ bO (by first|exact List.not_mem_nil|(simp only [List.mem_cons,List.not_mem_nil,or_false,not_or];omega))).trans au;have n141:=ne_next (show AH.empty.next+1<agI.next by first|omega|(simp only [AH.aI,AH.aJ,AH.aL,AH.aM];omega));have axY:=aS (show AH.empty.next+1<agI.next by first|omega|(simp only [AH.aI,AH.aJ,AH.aL,AH.aM];omega));obtain⟨e143,h⟩:=aO h;try refine ah ?_
       refine dO (dH e143) ?_;obtain⟨af8,h⟩:=aO h;try refine ah ?_
       refine dO (dH af8) ?_;obtain⟨anZ,h⟩:=aO h;obtain⟨acs,h⟩:=aO h;try refine ah ?_
       refine aA (amI Zd (32::(eY.text++([32]:Str))) (by assumption) (by assumption)) ?_;obtain rfl:=ak h;try refine ah ?_
       exact(.pure _ (.str _))
theorem agH (k:Nat): ∀(p_0:Printer) (bW:Int) (r:Str) (h:Qr k p_0 bW=some r),aF Tryz.prog 102 [(.agg (Printer.cells p_0)),(.int .i64 bW)] (.str r):=by
  match k with
  |0=>intro p_0 bW r h;rw [Qr]at h;cases h
  |k+1=>
    intro p_0 bW r h;refine aF.aP (bg.mem (.cons (.agg _ (Printer.pu _)) (.cons (.int _ _) .nil))) (aH aoM (by simp) (aD ?_)) (.str _);rw [Qr]at h;unfold ahd;obtain⟨e1,h⟩:=aO h;obtain⟨x2,e3,h⟩:=aj h;rcases av h with⟨e4,h⟩|⟨e4,h⟩
    ·obtain⟨e5,h⟩:=aO h;try refine ah ?_
     refine aA (Yo x2.n (by assumption)) ?_;obtain rfl:=ak h;try refine ah ?_
     exact(.pure _ (.str _))
    ·rcases av h with⟨e6,h⟩|⟨e6,h⟩
     ·obtain⟨e7,h⟩:=aO h;try refine ah ?_
      refine dO (dH e7) ?_;obtain⟨e8,h⟩:=aO h;try refine ah ?_
      refine dO (dH e8) ?_;obtain rfl:=ak h;try refine ah ?_
      exact(.pure _ (.str _))
     ·rcases av h with⟨e9,h⟩|⟨e9,h⟩
      ·obtain rfl:=ak h;try refine ah ?_
       exact(.pure _ (.str _))
      ·rcases av h with⟨e10,h⟩|⟨e10,h⟩
       ·try refine ah ?_
        refine eF ?_;obtain⟨e11,h⟩:=aO h;try refine ah ?_
        refine iA (dH e11) ?_;obtain⟨qF,e12,h⟩:=aj h;try refine ah ?_
        refine PC.mk (sJ p_0 x2.args e12) ?_;obtain⟨e14,h⟩:=aO h;try refine ah ?_
        refine dO (dH e14) ?_;obtain⟨e15,h⟩:=aO h;try refine ah ?_
        refine dO (dH e15) ?_;obtain rfl:=ak h;try refine ah ?_
        exact(.pure _ (.str _))
       ·rcases av h with⟨e16,h⟩|⟨e16,h⟩
        ·obtain⟨qQ,e17,h⟩:=aj h;try refine ah ?_
         refine aA (sJ p_0 x2.args e17) ?_;obtain⟨e19,h⟩:=aO h;try refine ah ?_
         refine dO (dH e19) ?_;obtain⟨e20,h⟩:=aO h;try refine ah ?_
         refine dO (dH e20) ?_;obtain rfl:=ak h;try refine ah ?_
         exact(.pure _ (.str _))
        ·rcases av h with⟨e21,h⟩|⟨e21,h⟩
         ·obtain⟨MP,e22,h⟩:=aj h;try refine ah ?_
          refine aA (sJ p_0 x2.args e22) ?_;obtain⟨e24,h⟩:=aO h;try refine ah ?_
          refine dO (dH e24) ?_;obtain⟨e25,h⟩:=aO h;try refine ah ?_
          refine dO (dH e25) ?_;obtain rfl:=ak h;try refine ah ?_
          exact(.pure _ (.str _))
         ·rcases av h with⟨e26,h⟩|⟨e26,h⟩
          ·try refine ah ?_
           refine eF ?_;obtain⟨p28,e27,h⟩:=aj h;try refine ah ?_
           refine PC.mk (sJ p_0 x2 e27) ?_;obtain⟨e29,h⟩:=aO h;try refine ah ?_
           refine iA (dH e29) ?_;obtain⟨e30,h⟩:=aO h;try refine ah ?_
           refine iA (dH e30) ?_;obtain⟨x31,e32,h⟩:=aj h;obtain⟨p34,e33,h⟩:=aj h;try refine ah ?_
           refine PC.mk ((kX k p_0 x31 false _ e33).wk (.same (.same (.same .nil)))) ?_;obtain⟨e35,h⟩:=aO h;try refine ah ?_
           refine dO (dH e35) ?_;obtain⟨e36,h⟩:=aO h;try refine ah ?_
           refine dO (dH e36) ?_;obtain rfl:=ak h;try refine ah ?_
           exact(.pure _ (.str _))
          ·rcases av h with⟨e37,h⟩|⟨e37,h⟩
           ·try refine ah ?_
            refine eF ?_;obtain⟨e38,h⟩:=aO h;obtain⟨x39,e40,h⟩:=aj h;obtain⟨p42,e41,h⟩:=aj h;try refine ah ?_
            refine PC.mk (sJ p_0 x39 e41) ?_;obtain⟨e43,h⟩:=aO h;try refine ah ?_
            refine iA (dH e43) ?_;obtain⟨e44,h⟩:=aO h;try refine ah ?_
            refine iA (dH e44) ?_;obtain⟨p46,e45,h⟩:=aj h;try refine ah ?_
            refine PC.mk (sJ p_0 x2 e45) ?_;obtain⟨e47,h⟩:=aO h;try refine ah ?_
            refine dO (dH e47) ?_;obtain⟨e48,h⟩:=aO h;try refine ah ?_
            refine dO (dH e48) ?_;obtain rfl:=ak h;try refine ah ?_
            exact(.pure _ (.str _))
           ·rcases av h with⟨e49,h⟩|⟨e49,h⟩
            ·try refine ah ?_
             refine eF ?_;obtain⟨p51,e50,h⟩:=aj h;try refine ah ?_
             refine PC.mk (sJ p_0 x2 e50) ?_;obtain⟨e52,h⟩:=aO h;try refine ah ?_
             refine iA (dH e52) ?_;obtain⟨e53,h⟩:=aO h;try refine ah ?_
             refine iA (dH e53) ?_;obtain⟨e54,h⟩:=aO h;obtain⟨x55,e56,h⟩:=aj h;obtain⟨p58,e57,h⟩:=aj h;try refine ah ?_
             refine PC.mk ((kX k p_0 x55 false _ e57).wk (.same (.same (.same .nil)))) ?_;obtain⟨e59,h⟩:=aO h;try refine ah ?_
             refine dO (dH e59) ?_;obtain⟨e60,h⟩:=aO h;try refine ah ?_
             refine dO (dH e60) ?_;obtain rfl:=ak h;try refine ah ?_
             exact(.pure _ (.str _))
            ·rcases av h with⟨e61,h⟩|⟨e61,h⟩
             ·try refine ah ?_
              refine eF ?_;obtain⟨x62,e63,h⟩:=aj h;obtain⟨p65,e64,h⟩:=aj h;try refine ah ?_
              refine PC.mk (sJ p_0 x62 e64) ?_;obtain⟨e66,h⟩:=aO h;try refine ah ?_
              refine iA (dH e66) ?_;obtain⟨e67,h⟩:=aO h;obtain⟨p69,e68,h⟩:=aj h;try refine ah ?_
              refine PC.mk (sJ p_0 (x2.args.drop 1) e68) ?_;obtain⟨e70,h⟩:=aO h;try refine ah ?_
              refine dO (dH e70) ?_;obtain⟨e71,h⟩:=aO h;try refine ah ?_
              refine dO (dH e71) ?_;obtain rfl:=ak h;try refine ah ?_
              exact(.pure _ (.str _))
             ·rcases av h with⟨e72,h⟩|⟨e72,h⟩
              ·try refine ah ?_
               refine eF ?_;obtain⟨UQ,e74,h⟩:=aj h;obtain⟨p76,Kk,h⟩:=aj h;try refine ah ?_
               refine PC.mk ((kX k p_0 UQ false _ Kk).wk (.same (.same (.same .nil)))) ?_;obtain⟨ML,h⟩:=aO h;try refine ah ?_
               refine iA (dH ML) ?_;obtain⟨XI,h⟩:=aO h;try refine ah ?_
               refine iA (dH XI) ?_;obtain⟨x79,e80,h⟩:=aj h;obtain⟨Vb,XJ,h⟩:=aj h;try refine ah ?_
               refine PC.mk ((kX k p_0 x79 false _ XJ).wk (.same (.same (.same .nil)))) ?_;obtain⟨e83,h⟩:=aO h;try refine ah ?_
               refine dO (dH e83) ?_;obtain⟨e84,h⟩:=aO h;try refine ah ?_
               refine dO (dH e84) ?_;obtain rfl:=ak h;try refine ah ?_
               exact(.pure _ (.str _))
              ·rcases av h with⟨e85,h⟩|⟨e85,h⟩
               ·obtain⟨Ji,Pj,h⟩:=aj h;try refine ah ?_
                refine aA (ail p_0 x2 ([32,124,45,62,32]:Str) Pj) ?_;obtain⟨Pk,h⟩:=aO h;try refine ah ?_
                refine dO (dH Pk) ?_;obtain⟨Kl,h⟩:=aO h;try refine ah ?_
                refine dO (dH Kl) ?_;obtain rfl:=ak h;try refine ah ?_
                exact(.pure _ (.str _))
               ·rcases av h with⟨Pm,h⟩|⟨Pm,h⟩
                ·obtain⟨YE,Pn,h⟩:=aj h;try refine ah ?_
                 refine aA (ail p_0 x2 ([32,58,32]:Str) Pn) ?_;obtain⟨Kn,h⟩:=aO h;try refine ah ?_
                 refine dO (dH Kn) ?_;obtain⟨e94,h⟩:=aO h;try refine ah ?_
                 refine dO (dH e94) ?_;obtain rfl:=ak h;try refine ah ?_
                 exact(.pure _ (.str _))
                ·rcases av h with⟨e95,h⟩|⟨e95,h⟩
                 ·try refine ah ?_
                  refine eF ?_;obtain⟨x96,e97,h⟩:=aj h;obtain⟨Ze,e98,h⟩:=aj h;try refine ah ?_
                  refine PC.mk (sJ p_0 x96 e98) ?_;obtain⟨e100,h⟩:=aO h;try refine ah ?_
                  refine iA (dH e100) ?_;obtain⟨N9,h⟩:=aO h;try refine ah ?_
                  refine dO (dH N9) ?_;obtain rfl:=ak h;try refine ah ?_
                  exact(.pure _ (.str _))
                 ·rcases av h with⟨XK,h⟩|⟨XK,h⟩
                  ·try refine ah ?_
                   refine eF ?_;obtain⟨x103,Yq,h⟩:=aj h;obtain⟨EB,Ko,h⟩:=aj h;try refine ah ?_
                   refine PC.mk ((kX k p_0 x103 false _ Ko).wk (.same (.same (.same .nil)))) ?_;obtain⟨Er,h⟩:=aO h;try refine ah ?_
                   refine iA (dH Er) ?_;obtain⟨e108,h⟩:=aO h;try refine ah ?_
                   refine iA (dH e108) ?_;obtain⟨agy,Kq,h⟩:=aj h;obtain⟨CK,Oa,h⟩:=aj h;try refine ah ?_
                   refine PC.mk ((kX k p_0 agy false _ Oa).wk (.same (.same (.same .nil)))) ?_;obtain⟨Ob,h⟩:=aO h;try refine ah ?_
                   refine iA (dH Ob) ?_;obtain⟨atq,h⟩:=aO h;try refine ah ?_
                   refine iA (dH atq) ?_;obtain⟨x115,e116,h⟩:=aj h;obtain⟨Gi,e117,h⟩:=aj h;try refine ah ?_
                   refine PC.mk ((kX k p_0 x115 false _ e117).wk (.same (.same (.same .nil)))) ?_;obtain⟨e119,h⟩:=aO h;try refine ah ?_
                   refine dO (dH e119) ?_;obtain⟨e120,h⟩:=aO h;try refine ah ?_
                   refine dO (dH e120) ?_;obtain rfl:=ak h;try refine ah ?_
                   exact(.pure _ (.str _))
                  ·rcases av h with⟨af5,h⟩|⟨af5,h⟩
                   ·obtain rfl:=ak h;try refine ah ?_
                    exact(.pure _ (.str _))
                   ·rcases av h with⟨XM,h⟩|⟨XM,h⟩
                    ·try refine ah ?_
                     refine eF ?_;obtain⟨agz,anp,h⟩:=aj h;obtain⟨Zf,e125,h⟩:=aj h;try refine ah ?_
                     refine PC.mk ((kX k p_0 agz false _ e125).wk (.same (.same (.same .nil)))) ?_;obtain⟨e127,h⟩:=aO h;try refine ah ?_
                     refine iA (dH e127) ?_;obtain⟨e128,h⟩:=aO h;try refine ah ?_
                     refine iA (dH e128) ?_;obtain⟨agC,amg,h⟩:=aj h;obtain⟨TU,atr,h⟩:=aj h;try refine ah ?_
                     refine PC.mk (sJ p_0 agC atr) ?_;obtain⟨afH,h⟩:=aO h;try refine ah ?_
                     refine dO (dH afH) ?_;obtain rfl:=ak h;try refine ah ?_
                     exact(.pure _ (.str _))
                    ·rcases av h with⟨att,h⟩|⟨att,h⟩
                     ·try refine ah ?_
                      refine eF ?_;obtain⟨agD,amh,h⟩:=aj h;obtain⟨Km,e137,h⟩:=aj h;try refine ah ?_
                      refine PC.mk ((kX k p_0 agD false _ e137).wk (.same (.same (.same .nil)))) ?_;obtain⟨afI,h⟩:=aO h;try refine ah ?_
                      refine iA (dH afI) ?_;obtain⟨XO,h⟩:=aO h;try refine ah ?_
                      refine iA (dH XO) ?_;obtain⟨agE,axZ,h⟩:=aj h;obtain⟨Tn,e143,h⟩:=aj h;try refine ah ?_
                      refine PC.mk (sJ p_0 agE e143) ?_;obtain⟨anZ,h⟩:=aO h;try refine ah ?_
                      refine dO (dH anZ) ?_;obtain rfl:=ak h;try refine ah ?_
                      exact(.pure _ (.str _))
                     ·rcases av h with⟨acs,h⟩|⟨acs,h⟩
                      ·try refine ah ?_
                       refine eF ?_;obtain⟨agF,anF,h⟩:=aj h;obtain⟨Ul,atu,h⟩:=aj h;try refine ah ?_
                       refine PC.mk (sJ p_0 agF atu) ?_;obtain⟨afJ,h⟩:=aO h;try refine ah ?_
                       refine iA (dH afJ) ?_;obtain⟨e152,h⟩:=aO h;try refine ah ?_
                       refine iA (dH e152) ?_;obtain⟨x153,e154,h⟩:=aj h;obtain⟨Oc,atv,h⟩:=aj h;try refine ah ?_
                       refine PC.mk ((kX k p_0 x153 false _ atv).wk (.same (.same (.same .nil)))) ?_;obtain⟨atw,h⟩:=aO h;try refine ah ?_
                       refine dO (dH atw) ?_;obtain⟨af9,h⟩:=aO h;try refine ah ?_
                       refine dO (dH af9) ?_;obtain rfl:=ak h;try refine ah ?_
                       exact(.pure _ (.str _))
                      ·rcases av h with⟨atx,h⟩|⟨atx,h⟩
                       ·try refine ah ?_
                        refine eF ?_;obtain⟨x160,anG,h⟩:=aj h;obtain⟨Um,afM,h⟩:=aj h;try refine ah ?_
                        refine PC.mk (sJ p_0 x160 afM) ?_;obtain⟨amj,h⟩:=aO h;try refine ah ?_
                        refine iA (dH amj) ?_;obtain⟨e165,h⟩:=aO h;try refine ah ?_
                        refine iA (dH e165) ?_;obtain⟨agG,e167,h⟩:=aj h;obtain⟨acG,e168,h⟩:=aj h;try refine ah ?_
                        refine PC.mk ((kX k p_0 agG false _ e168).wk (.same (.same (.same .nil)))) ?_;obtain⟨e170,h⟩:=aO h;try refine ah ?_
                        refine dO (dH e170) ?_;obtain⟨aga,h⟩:=aO h;try refine ah ?_
                        refine dO (dH aga) ?_;obtain rfl:=ak h;try refine ah ?_
                        exact(.pure _ (.str _))
                       ·obtain⟨anY,aty,h⟩:=aj h;try refine ah ?_
                        refine aA (sJ p_0 x2 aty) ?_;obtain rfl:=ak h;try refine ah ?_
                        exact(.pure _ (.str _))
end
theorem agJ {k:Nat} {p_0:Printer} {bW:Int} {jN:Bool} {r:Str} (h:lJ k p_0 bW jN=some r):aF Tryz.prog 59 [(.agg (Printer.cells p_0)),(.int .i64 bW),(.bool jN)] (.str r):=kX k p_0 bW jN r h
def EY (k:Nat) (aG:List Nd):Option (Str×Int):=
  Option.bind (fF k aG) fun p2=>cond (p2 !=0) (some ([],p2)) (Option.bind (lJ k (Printer.mk aG) (IntKind.wrap .i64 ((aG.length:Int) -1)) false) fun p5=>cond (decide ((p5.length:Int)>20000)) (some ([],2)) (some (p5,0)))
theorem Un {k:Nat} {aG:List Nd} {c0:Ck} {r:Str×Int} (h:EY k aG=some r):aF Tryz.prog 17 [(.aB (aG.map Nd.cells) c0)] (.dw [(.str r.1),(.int .i64 r.2)]):=by
  refine aF.lw (.aB .nil) (aF.aP (bg.mem (.cons (aU Nd.pu _) .nil)) (aH akH (by simp) (aD ?_)) (.dw _ (bg.mem (.cons (.str _) (.cons (.int _ _) .nil)))));unfold EY at h;unfold akG;obtain⟨p2,e1,h⟩:=aj h;try refine ah ?_
  refine aA (tX e1) ?_;rcases av h with⟨e3,h⟩|⟨e3,h⟩
  ·obtain rfl:=ak h;try refine ah ?_
   exact(bR (.cons (.pure _ (.str _)) (.cons (.pure _ (.int _ _)) .nil)))
  ·obtain⟨p5,e4,h⟩:=aj h;try refine ah ?_
   refine aA (agJ e4) ?_;rcases av h with⟨e6,h⟩|⟨e6,h⟩
   ·obtain rfl:=ak h;try refine ah ?_
    exact(bR (.cons (.pure _ (.str _)) (.cons (.pure _ (.int _ _)) .nil)))
   ·obtain rfl:=ak h;try refine ah ?_
    exact(bR (.cons (.pure _ (.str _)) (.cons (.pure _ (.int _ _)) .nil)))
def OA (k:Nat) (aG:List Nd):Option ((List Str)×Int):=
  Option.bind (fF k aG) fun p2=>cond (p2 !=0) (some ([],p2)) (Option.bind (Y4 k aG) fun p5=>some (p5,0))
theorem acJ {k:Nat} {aG:List Nd} {c0:Ck} {r:(List Str)×Int} (h:OA k aG=some r):aF Tryz.prog 32 [(.aB (aG.map Nd.cells) c0)] (.dw [(.aB (r.1.map aX) .unk),(.int .i64 r.2)]):=by
  refine aF.lw (.aB .nil) (aF.aP (bg.mem (.cons (aU Nd.pu _) .nil)) (aH ok32 (by simp) (aD ?_)) (.dw _ (bg.mem (.cons (aU bN _) (.cons (.int _ _) .nil)))));unfold OA at h;unfold akU;obtain⟨p2,e1,h⟩:=aj h;try refine ah ?_
  refine aA (tX e1) ?_;rcases av h with⟨e3,h⟩|⟨e3,h⟩
  ·obtain rfl:=ak h;try refine ah ?_
   exact(bR (.cons (dN bN [] _) (.cons (.pure _ (.int _ _)) .nil)))
  ·obtain⟨p5,e4,h⟩:=aj h;try refine ah ?_
   refine aA (agv k aG e4) ?_;obtain rfl:=ak h;try refine ah ?_
   exact(bR (.cons (dN bN _ _) (.cons (.pure _ (.int _ _)) .nil)))
def Uo (k:Nat):Option Bool:=
  Option.bind (acA k) fun p2=>Option.bind (EY k p2) fun p4=>Option.bind (OA k p2) fun p8=>Option.bind (EO k ([92,99,100,111,116]:Str)) fun gT=>Option.bind (lZ k [(Nd.mk 20 0 [] [] [])]) fun mE=>cond (p4.2==0) (cond (p4.1==([97,32,43,32,98,32,42,32,99]:Str)) (cond (p8.2==0) (Option.bind (qV k p8.1 [([97]:Str),([98]:Str),([99]:Str)]) fun Xz=>cond Xz (cond (gT.2==0) (cond (gT.1.high==14) (cond gT.1.left (cond (mE.2==30) (some (mE.1==0)) (some false)) (some false)) (some false)) (some false)) (some false)) (some false)) (some false)) (some false)
theorem aex {k:Nat} {r:Bool} (h:Uo k=some r):aF Tryz.prog 12 [] (.bool r):=by
  refine aF.aP (bg.mem .nil) (aH akC (by simp) (aD ?_)) (.bool _);unfold Uo at h;unfold akB;obtain⟨p2,e1,h⟩:=aj h;try refine ah ?_
  refine aA (aa7 e1) ?_;obtain⟨p4,e3,h⟩:=aj h;try refine ah ?_
  refine aA (Un e3) ?_;try refine ah ?_
  refine aA (aa7 e1) ?_;obtain⟨p8,e7,h⟩:=aj h;try refine ah ?_
  refine aA (acJ e7) ?_;obtain⟨gT,e9,h⟩:=aj h;try refine ah ?_
  refine aA (Uf e9) ?_;obtain⟨mE,e11,h⟩:=aj h;try refine ah ?_
  refine aA (Jy e11) ?_;rcases av h with⟨e13,h⟩|⟨e13,h⟩
  ·rcases av h with⟨e14,h⟩|⟨e14,h⟩
   ·rcases av h with⟨e15,h⟩|⟨e15,h⟩
    ·obtain⟨Xz,e16,h⟩:=aj h;try refine ah ?_
     refine aA (GZ e16) ?_;rcases av h with⟨e18,h⟩|⟨e18,h⟩
     ·rcases av h with⟨e19,h⟩|⟨e19,h⟩
      ·rcases av h with⟨e20,h⟩|⟨e20,h⟩
       ·rcases av h with⟨e21,h⟩|⟨e21,h⟩
        ·rcases av h with⟨e22,h⟩|⟨e22,h⟩
         ·obtain rfl:=ak h;try refine ah ?_
          exact(.pure _ (.bool _))
         ·obtain rfl:=ak h;try refine ah ?_
          exact(.pure _ (.bool _))
        ·obtain rfl:=ak h;try refine ah ?_
         exact(.pure _ (.bool _))
       ·obtain rfl:=ak h;try refine ah ?_
        exact(.pure _ (.bool _))
      ·obtain rfl:=ak h;try refine ah ?_
       exact(.pure _ (.bool _))
     ·obtain rfl:=ak h;try refine ah ?_
      exact(.pure _ (.bool _))
    ·obtain rfl:=ak h;try refine ah ?_
     exact(.pure _ (.bool _))
   ·obtain rfl:=ak h;try refine ah ?_
    exact(.pure _ (.bool _))
  ·obtain rfl:=ak h;try refine ah ?_
   exact(.pure _ (.bool _))
end Go.VL
end
section
namespace Go.VL
open Go.Proofs
theorem acK:Uo 100=some true:=by kernel_rfl
theorem ajF:aF Tryz.prog 12 [] (.bool true):=aex acK
end Go.VL
end
section
namespace Go.VL
open Tm
theorem agK {e:List Nd} (h:wX e=true) (hV:Valid e):K3 e:=⟨(EM h).1,hV.ok,fun i n hn=>⟨((EM h).2 i n hn).1,((EM h).2 i n hn).2.1⟩⟩
def sk (n:Nd):Nd:={n with text:=[]}
theorem aey {l m:List Nd} (h:l.map sk=m.map sk):l.length=m.length:=by
  have:=congrArg List.length h;simpa using this
end Go.VL
end
section
namespace Go.VL
open Go.Proofs Go.RowKit
theorem Qt (l:List Int) (hl:l.length<=1000000) {c:Ck}:aF Tryz.prog 128 [.aB (l.map aY) c] (.aB (l.map aY) .unk):=by
  refine aF.wk (args:=[.aB (l.map aY) .unk]) ?_ (.aB .nil);refine Gp ⟨_,Tryz.func128,rfl,by kernel_rfl⟩ (fun w G vs hg hi hv=> ?_) (bg.mem (.cons (aU gG _) .nil));obtain⟨u,rfl,hu⟩: ∃u,vs=#[u]/\V G 0 (.aB (l.map aY) .unk) u:=by
    obtain⟨h1,h2⟩:=hv
    match vs,h1,h2 with
    |⟨[u]⟩,_,h2=>exact⟨u,rfl,h2 0 _ u rfl rfl⟩
  obtain⟨ad,cap,rfl,hcap,hx⟩:=acz hu;rw [List.length_map]at*;by_cases h0:l=[]
  · subst h0;cases ad with
    |none=>
      refine(Tryz.slices_Clone_int_nil 0 cap w).mono ?_;rintro e w' ⟨rfl,rfl⟩;exact⟨_,rfl,Below.refl _ _,fun G' n _=> .aB [] .unk 1 none 0 (fun _ _=> .bool true) (fun i cs e=>by simp at e) (Nat.le_refl _) (fun h=>absurd rfl h) (fun i cs j c e=>by simp at e) trivial⟩
    |some a=>
      refine(Tryz.slices_Clone_int_zero a cap w).mono ?_;rintro e w' ⟨v',rfl,⟨_,hown⟩,_,hb⟩;refine⟨_,rfl,hb,fun G' n _=> ?_⟩;rcases hown with⟨rfl,_⟩|⟨g,cp,cur,rfl,_,_,h1,_⟩
      · exact .aB [] .unk 1 none 0 (fun _ _=> .bool true) (fun i cs e=>by simp at e) (Nat.le_refl _) (fun h=>absurd rfl h) (fun i cs j c e=>by simp at e) trivial
      · exact .aB [] .unk 1 (some ⟨g,0,none⟩) cp (fun _ _=> .bool true) (fun i cs e=>by simp at e) h1 (fun h=>absurd rfl h) (fun i cs j c e=>by simp at e) trivial
  · obtain⟨b,o,rfl,f,e2,h4⟩:=hx 1 (fun cs h=>by obtain⟨s,_,rfl⟩:=List.mem_map.1 h;rfl) (by simpa using h0);have hcell: ∀j,j<l.length->w.cell? ⟨b,o+j,none⟩=some (.int .i64 (l.getD j 0)):=by
      intro j hj;have hg:(l.map aY)[j]? =some (aY l[j]):=by simp [hj]
      have a:=e2 j _ hg 0 (.int .i64 l[j]) rfl;have b':=h4 j _ 0 (.int .i64 l[j]) hg rfl;generalize f j 0=v at a b';cases b';have:=hi _ _ a;rw [Nat.mul_one,Nat.add_zero]at this;rw [this];simp [List.getD,hj]
    refine(Tryz.slices_Clone_int b o l.length cap l w (by simp) (by omega) (by simpa using hcell)).mono ?_;rintro e w' ⟨v',rfl,⟨_,hown⟩,hne,hb⟩;refine⟨_,rfl,hb,fun G' n hnew=> ?_⟩;rcases hown with⟨rfl,_⟩|⟨g,cp,cur,rfl,hge,hblk,h1,h2,h3,h5⟩
    · exact absurd rfl hne
    · refine Eq.mp (by rw [List.length_map]) (V.aB (G:=G') (n:=n) (l.map aY) .unk 1 (some ⟨g,0,none⟩) cp (fun i _=> .int .i64 (l[i]?.getD 0)) (fun i cs e=> ?_) (by simpa using h1) (fun _=>⟨g,0,rfl,fun i cs e j c ec=> ?_⟩) (fun i cs j c e ec=> ?_) trivial)
      · simp only [List.getElem?_map,Option.map_eq_some_iff]at e;obtain⟨s,_,rfl⟩:=e;rfl
      · simp only [List.getElem?_map,Option.map_eq_some_iff]at e;obtain⟨s,e1,rfl⟩:=e;have hj:j=0:=by
          have:=(List.getElem?_eq_some_iff.1 ec).1;simp [aY]at this;exact this
        subst hj;have hlt:=(List.getElem?_eq_some_iff.1 e1).1;refine hnew _ _ hge ?_;have hc:cur[i]? =some (.int .i64 s):=by
          have:=congrArg (·[i]?) h5
          simp only [Nat.mul_one,List.getElem?_take,hlt,if_true,List.map_map]at this;rw [<-Array.getElem?_toList,this];simp [e1,List.take_of_length_le]
        simp only [World.cell?,hblk,Nat.zero_add,Nat.mul_one,Nat.add_zero,e1,Option.getD_some];simpa using hc
      · simp only [List.getElem?_map,Option.map_eq_some_iff]at e;obtain⟨s,e1,rfl⟩:=e;have hj:j=0:=by
          have:=(List.getElem?_eq_some_iff.1 ec).1;simp [aY]at this;exact this
        subst hj;simp only [aY,List.getElem?_cons_zero,Option.some.injEq]at ec;subst ec;simp only [e1,Option.getD_some];exact .int .i64 s
theorem aez (n:Nd):nP 5 n.cells:=row_of rfl rfl
section
variable [Glob] {P:Program} {Q:Post} {σ:Nat->PV} {s:List Fm} {α:Type} {H:AH} {f:α->List PV} {sz:Nat}
theorem Zg {d:Option Nat} {b:Nat} {x y:AE} {l:List aQ} [hr:rR f sz] (hf: ∀x,nP sz (f x)) (ys:List α) (c2:Ck)
    (hx:x.ev σ= .aB [] .exact) (hy:y.ev σ= .aB (ys.map f) c2) (hs:0<ys.length) (hb:ys.length*b<=1099511627776)
    (h: ∀(v':PV) (jD:List Nat) (H':AH),aK H' f sz ys v' jD->Nw H [] jD->HF [] H H'->(∀c3,cB H c3->cB H' c3)->WO P l s Q (upd σ d v') H'):
    WO P (⟨d,.n (.app sz b x y),none⟩::l) s Q σ H:=by
  show cO P _ _ σ H
  rw [GJ];simp only [nop,hx,hy];have h0: ¬((ys.map f).length=0):=by rw [List.length_map];omega
  simp only [uJ,rowOf];rw [if_neg h0];split
  · intro cap hcap;simp only [List.length_map,List.length_nil,Nat.zero_add,List.nil_append]at hcap⊢;refine h _ [H.next] _ (.inr ⟨H.next,cap,List.replicate ((cap -ys.length)*sz) .any,rfl,rfl,hcap,Nat.lt_succ_self _,?_,by rw [List.length_replicate]⟩) (fun i hi=> .inr (by rw [List.mem_singleton.1 hi];exact Nat.le_refl _)) (HF.new (HF.refl _ _)) (fun c3 k=>k.new);show(if H.next=H.next then some _ else _)=_
    rw [if_pos rfl]
  · rename_i hno;exact(hno ⟨uP hf ([]:List α),uP hf ys,by simpa using hb⟩).elim
end
theorem agL {H:AH} {id:Nat} {cs:List PV} (h:H.obj id=some cs):H.put id cs=H:=by
  unfold AH.put;have:(fun i=>if i=id then some cs else H.obj i)=H.obj:=by
    funext i
    by_cases e:i=id
    · subst e;rw [if_pos rfl,h]
    · rw [if_neg e]
  rw [this]
theorem Nb (e:List Nd) (h0:0<e.length) (hl:e.length<=1000000):zK Tryz.prog 127 [eU e] Nd.cells 5 e:=by
  intro H;refine aH aoY (by simp) (aD ?_);unfold ahv;have h1: ¬(e.map Nd.cells).length=0:=by rw [List.length_map];omega
  simp -implicitDefEqProofs only [go_sem,show ¬e.length=0 by omega,if_true,ne_eq,not_false_eq_true];refine Zg (f:=Nd.cells) aez e .unk aZ aZ h0 (by omega) (fun v' jD H' g1 g2 g3 g4=> ?_);simp -implicitDefEqProofs only [go_sem];exact⟨jD,g1,g2,g3,g4⟩
theorem VW {C:List PV} {o:Nat} {p:PV} (ho:C[o]? =some p):putCells C o [p]=C:=by
  have hlt:=(List.getElem?_eq_some_iff.1 ho).1;have h2:=(List.getElem?_eq_some_iff.1 ho).2;unfold putCells;simp only [List.length_cons,List.length_nil,Nat.zero_add];rw [List.append_assoc,List.singleton_append,<-h2,List.getElem_cons_drop,List.take_append_drop]
theorem I6 {σ:Nat->PV} {H:AH} {x w:AE} {id o:Nat} {p:PV} {C:List PV} (hx:x.ev σ= .ref id o) (hw:cellsOf (w.ev σ)=some [p]) (hone:p.one=true) (hC:H.obj id=some C) (ho:C[o]? =some p):kM (.store 1 x w) σ H=some (.any,H):=by
  have hlt:=(List.getElem?_eq_some_iff.1 ho).1;simp only [kM,hx,hw,hC];rw [if_pos ⟨rfl,by omega,by simp [hone]⟩,VW ho,agL hC]
theorem ajG [Glob] {P:Program} {Q:Post} {σ:Nat->PV} {s:List Fm} {H:AH} {d:Option Nat} {k:DK} {l:List aQ} {p:PV} (h:kM k σ H=some (p,H)) (h2:WO P l s Q (upd σ d p) H):WO P (⟨d,.d k,none⟩::l) s Q σ H:=by
  show WD P (kM k σ H) d l s Q σ
  rw [h];exact h2
theorem agM (e:List Nd) (hn: ∀(i:Nat) n,e[i]? =some n->n.names.length<=1000000/\n.args.length<=1000000) (hl:e.length<=1000000): ∀(m i:Nat) (σ:Nat->PV) (H:AH) (v:PV) (ids:List Nat) (Q:Post),i+m=e.length->σ 3=v->σ 8= .int .i64 e.length->σ 9= .int .i64 i->aK H Nd.cells 5 e v ids->
    (∀σ',σ' 3=v->Q (.exit 0) σ' H)->W Tryz.prog (.loop tK) Q σ H:=by
  intro m
  induction m with
  |zero=>
    intro i σ H v ids Q hi s3 s8 s9 hr q0;refine aV (fun K hK=>aD ?_);unfold tK;have hd:decide ((i:Int)<(e.length:Int))=false:=decide_eq_false (by omega);simp -implicitDefEqProofs only [go_sem,s3,s8,s9,hd];exact q0 _ aZ
  |succ m ih=>
    intro i σ H v ids Q hi s3 s8 s9 hr q0;have hlt:i<e.length:=by omega
    have hx:e[i]? =some e[i]:=List.getElem?_eq_getElem hlt;obtain⟨h1,h2⟩:=hn i _ hx;obtain⟨id,C,rfl,hid,hC,hcell,hle,hdrop,hI⟩:=aK.content hr hx;have hI':jG 5 v (.int .i64 i)=some (.ref id (i*5)):=hI .i64 i (by omega) (by omega);have c3:C[i*5+3]? =some (.aB (e[i].names.map aX) .unk):=hcell 3 _ rfl;have c4:C[i*5+4]? =some (.aB (e[i].args.map aY) .unk):=hcell 4 _ rfl;refine aV (fun K hK=>aD ?_);unfold tK;have hd:decide ((i:Int)<(e.length:Int))=true:=decide_eq_true (by omega);simp -implicitDefEqProofs only [go_sem,s3,s8,s9,hd]
    refine⟨(·=H),rfl,?_⟩
    refine dX ?_;simp -implicitDefEqProofs only [go_sem,s3,s8,s9,hI',hC,c3,c4];refine dX ?_;simp -implicitDefEqProofs only [go_sem,s3,s8,s9,hI',hC,c3,c4];refine dX ?_;simp -implicitDefEqProofs only [go_sem,s3,s8,s9,hI',hC,c3,c4];refine dX ?_;simp -implicitDefEqProofs only [go_sem,s3,s8,s9,hI',hC,c3,c4];refine dX ?_;simp -implicitDefEqProofs only [go_sem,s3,s8,s9,hI',hC,c3,c4];refine dX ?_;simp -implicitDefEqProofs only [go_sem,s3,s8,s9,hI',hC,c3,c4];refine dX ?_;simp -implicitDefEqProofs only [go_sem,s3,s8,s9,hI',hC,c3,c4];refine dX ?_;simp -implicitDefEqProofs only [go_sem,s3,s8,s9,hI',hC,c3,c4];refine dX ?_;simp -implicitDefEqProofs only [go_sem,s3,s8,s9,hI',hC,c3,c4];refine rQ ?_;simp -implicitDefEqProofs only [go_sem,s3,s8,s9,hI',hC,c3,c4];refine PC.mk (U7 _ h1) ?_;refine dX ?_;simp -implicitDefEqProofs only [go_sem,s3,s8,s9,hI',hC,c3,c4];refine dX ?_;simp -implicitDefEqProofs only [go_sem,s3,s8,s9,hI',hC,c3,c4];refine dX ?_;simp -implicitDefEqProofs only [go_sem,s3,s8,s9,hI',hC,c3,c4];refine dX ?_;simp -implicitDefEqProofs only [go_sem,s3,s8,s9,hI',hC,c3,c4];refine dX ?_;simp -implicitDefEqProofs only [go_sem,s3,s8,s9,hI',hC,c3,c4];refine rQ ?_;simp -implicitDefEqProofs only [go_sem,s3,s8,s9,hI',hC,c3,c4];refine PC.mk (Qt _ h2) ?_;refine dX ?_;simp -implicitDefEqProofs only [go_sem,s3,s8,s9,hI',hC,c3,c4];refine dX ?_;simp -implicitDefEqProofs only [go_sem,s3,s8,s9,hI',hC,c3,c4]
    refine O8 (C:=(·=H)) .any H (I6 (id:=id) (o:=i*5+3) (p:= .aB (e[i].names.map aX) .unk) (C:=C) (by simp -implicitDefEqProofs only [go_sem,s3,s8,s9,hI',hC,c3,c4]) (by simp -implicitDefEqProofs only [go_sem,s3,s8,s9,hI',hC,c3,c4]) rfl hC c3) rfl ?_
    show WO _ _ _ _ _ H
    simp -implicitDefEqProofs only [go_sem,s3,s8,s9,hI',hC,c3,c4];refine ajG (I6 (id:=id) (o:=i*5+4) (p:= .aB (e[i].args.map aY) .unk) (C:=C) (by simp -implicitDefEqProofs only [go_sem,s3,s8,s9,hI',hC,c3,c4]) (by simp -implicitDefEqProofs only [go_sem,s3,s8,s9,hI',hC,c3,c4]) rfl hC c4) ?_;have hw:IntKind.wrap .i64 ((i:Int)+1)=((i+1:Nat):Int):=by rw [IntKind.wrap_i64];omega
    simp -implicitDefEqProofs only [go_sem,s3,s8,s9,hI',hC,c3,c4];refine hK _ _ (ih (i+1) _ H v [id] Q (by omega) (by simp -implicitDefEqProofs only [go_sem,s3,s8,s9,hI',hC,c3,c4]) (by simp -implicitDefEqProofs only [go_sem,s3,s8,s9,hI',hC,c3,c4]) (by simp -implicitDefEqProofs only [go_sem,s3,s8,s9,hI',hC,c3,c4];rw [hw]) hr q0)
theorem agN (e:List Nd) (h0:0<e.length) (hn: ∀(i:Nat) n,e[i]? =some n->n.names.length<=1000000/\n.args.length<=1000000) (hl:e.length<=1000000):zK Tryz.prog 78 [eU e] Nd.cells 5 e:=by
  intro H;refine aH abT (by simp) (aD ?_);unfold R9;simp -implicitDefEqProofs only [go_sem];refine He (Nb e h0 hl) fun v ids H' g1 g2 g3 g4=> ?_;have hlen:=g1.Ym;simp -implicitDefEqProofs only [go_sem,hlen];refine agM e hn hl e.length 0 _ H' v ids _ (by omega) aZ aZ aZ g1 fun σ' s3=> ?_;simp -implicitDefEqProofs only [go_sem,s3];exact⟨ids,g1,g2,g3,g4⟩
end Go.VL
end
section
namespace Go.VL
open Go.Proofs
def Ic (k:Nat) (e:List Nd) (aT bf:Str) (a:List Nd×Bool) (at_:Int) (bound:List Str):Option (List Nd×Bool):=
  if 0<=at_ then Option.bind (e[at_.toNat]?) fun n=>Option.bind (vX k n) fun b=>cond (b&&(n.text==aT)) (Option.bind (dB k bound aT) fun c=>cond c (some a) (Option.bind (a.1[at_.toNat]?) fun m=>cond a.2 (some (a.1.set at_.toNat {m with text:=bf},true)) (Option.bind (dB k bound bf) fun d=>some (a.1.set at_.toNat {m with text:=bf},d)))) (some a)else none
structure acL (e:List Nd) (aT bf:Str) (o p:Nat) (a:List Nd×Bool) (H:AH):Prop where
  lt:p+1<H.next
  lo:o+2<p
  he:H.obj o=some [eU e]
  hf:H.obj (o+1)=some [.str aT]
  ht:H.obj (o+2)=some [.str bf]
  row: ∃v ids,H.obj p=some [v]/\aK H Nd.cells 5 a.1 v ids/\(∀i∈ids,o+2<i/\i<p)
  hc:H.obj (p+1)=some [.bool a.2]
theorem aeA (k:Nat) (e:List Nd) (aT bf:Str) (o p:Nat):Visit 79 [.ref o 0,.ref (o+1) 0,.ref (o+2) 0,.ref p 0,.ref (p+1) 0] (acL e aT bf o p) (Ic k e aT bf) where
  stable:=by
    rintro a H H' ⟨h1,h0,h2,h3,h4,⟨v,ids,h5,h6,h7⟩,h8⟩ hn ho hc;exact⟨by omega,h0,(ho _).trans h2,(ho _).trans h3,(ho _).trans h4,⟨v,ids,(ho _).trans h5,h6.hf (M:=[]) ⟨hn,fun i _ _=>ho i⟩ (fun _ _ h=>by cases h),h7⟩,(ho _).trans h8⟩
  call:=by
    rintro a at_ bound a' H ⟨h1,h0,h2,h3,h4,⟨v,ids,h5,h6,h7⟩,h8⟩ h
    have hS:acL e aT bf o p a H:=⟨h1,h0,h2,h3,h4,⟨v,ids,h5,h6,h7⟩,h8⟩;unfold Ic at h;obtain⟨e1,h⟩:=aO h;obtain⟨n,e2,h⟩:=aj h;obtain⟨b,e3,h⟩:=aj h;refine aH arQ (by simp) (aD ?_);unfold alC;simp -implicitDefEqProofs only [go_sem];refine eF ?_;simp -implicitDefEqProofs only [go_sem,h2,h3,e1,e2,List.getElem?_map,Option.map_some];refine PC.mk (M9 e3) ?_;cases b with
    |false=>
      rw [Bool.false_and,kC rfl]at h;cases h;simp -implicitDefEqProofs only [go_sem,h2,h3,e1,e2,List.getElem?_map,Option.map_some];exact hS
    |true=>
      rw [Bool.true_and]at h;cases e4:(n.text==aT)with
      |false=>
        rw [kC e4]at h;cases h;simp -implicitDefEqProofs only [go_sem,h2,h3,e1,e2,e4,List.getElem?_map,Option.map_some];exact hS
      |true=>
        rw [pJ e4]at h;obtain⟨c,e5,h⟩:=aj h;simp -implicitDefEqProofs only [go_sem,h2,h3,e1,e2,e4,List.getElem?_map,Option.map_some];refine aA (iP e5) ?_;cases c with
        |true=>
          rw [pJ rfl]at h;cases h;simp -implicitDefEqProofs only [go_sem,h2,h3,e1,e2,e4,List.getElem?_map,Option.map_some];exact hS
        |false=>
          rw [kC rfl]at h;obtain⟨m,e6,h⟩:=aj h;obtain⟨id,C,rfl,hid,hC,hcell,hle,hdrop,hI⟩:=aK.content h6 e6;have hI':jG 5 v (.int .i64 at_)=some (.ref id (at_.toNat*5)):=hI .i64 at_ e1 rfl
          simp -implicitDefEqProofs only [go_sem,h2,h3,h4,h5,hI',e1,e2,e4,List.getElem?_map,Option.map_some];refine nK (f:=Nd.cells) (id:=id) (o:=at_.toNat*5+2) (i:=at_.toNat) (j:=2) (a:=m) (y:={m with text:=bf}) (vs:=[.str bf]) (by simp -implicitDefEqProofs only [go_sem]) rfl rfl h6 e6 (by simp -implicitDefEqProofs only [go_sem]) rfl rfl (by decide) rfl (fun H' r' hf' ok'=> ?_);have agO:=h7 id (List.mem_singleton.2 rfl);have ko: ∀j,j<=o+2\/j=p\/j=p+1->H'.obj j=H.obj j:=fun j hj=>hf'.2 j (by omega) (fun hm=>by have:=List.mem_singleton.1 hm;omega);have k0:=(ko o (by omega)).trans h2;have k1:=(ko (o+1) (by omega)).trans h3;have k2:=(ko (o+2) (by omega)).trans h4;have k3:=(ko p (by omega)).trans h5;have k4:=(ko (p+1) (by omega)).trans h8;have kn:=hf'.1;have fin: ∀d:Bool,acL e aT bf o p (a.1.set at_.toNat {m with text:=bf},d) (H'.put (p+1) [.bool d]):=by
            intro d;have pq: ∀j,j≠p+1->(H'.put (p+1) [.bool d]).obj j=H'.obj j:=fun j hj=>by show(if j=p+1 then _ else _)=_;rw [if_neg hj]
            refine⟨(show p+1<H'.next by omega),h0,(pq _ (by omega)).trans k0,(pq _ (by omega)).trans k1,(pq _ (by omega)).trans k2,⟨v,[id],(pq _ (by omega)).trans k3,r'.put (fun hm=>by have:=List.mem_singleton.1 hm;omega),h7⟩,?_⟩;show(if p+1=p+1 then _ else _)=_
            rw [if_pos rfl]
          cases e7:a.2 with
          |true=>
            rw [pJ e7]at h;cases h;rw [e7]at k4;simp -implicitDefEqProofs only [go_sem,nY,k4,Nat.le_refl];exact fin true
          |false=>
            rw [kC e7]at h;obtain⟨d,e8,h⟩:=aj h;cases h;rw [e7]at k4;simp -implicitDefEqProofs only [go_sem,k2,k4,Nat.le_refl];refine aA (iP e8) ?_;simp -implicitDefEqProofs only [go_sem,nY,k4,Nat.le_refl];exact fin d
def xV (e:List Nd):Bool:=decide (0<e.length)&&decide (e.length<=1000000)&&e.all fun n=>decide (n.names.length<=1000000)&&decide (n.args.length<=1000000)
theorem Zh {e:List Nd} (h:xV e=true):zK Tryz.prog 78 [eU e] Nd.cells 5 e:=by
  simp only [xV,Bool.and_eq_true,decide_eq_true_eq,List.all_eq_true]at h;exact agN e h.1.1 (fun i n hn=>h.2 n (List.mem_of_getElem? hn)) h.1.2
def EZ (k:Nat) (aT bf:Str):Option Bool:=Option.bind (mR k aT) fun b=>cond b (Option.bind (mR k bf) fun d=>some (!d)) (some true)
def qj (k:Nat) (e:List Nd) (aT bf:Str):Option (List Nd×Int):=
  Option.bind (fF k e) fun c1=>Option.bind (EZ k aT bf) fun b=>Option.bind (kE b 7) fun c2=>Option.bind (fG k [c1,c2]) fun code=>
    cond (code !=0) (some ([],code)) (if xV e=true then Option.bind (uH (Ic k e aT bf) e k (IntKind.wrap .i64 ((e.length:Int) -1)) [] (e,false)) fun a=>cond a.2 (some ([],19)) (some (a.1,0))else none)
theorem aao (k:Nat) (e:List Nd) (aT bf:Str) {c:Ck} {r:List Nd×Int} (h:qj k e aT bf=some r):aF Tryz.prog 38 [.aB (e.map Nd.cells) c,.str aT,.str bf] (.dw [.aB (r.1.map Nd.cells) .unk,.int .i64 r.2]):=by
  refine aF.wk (args:=[eU e,.str aT,.str bf]) ?_ (.aB (.same (.same .nil)));refine aF.aP (bg.mem (.cons (aU Nd.pu _) (.cons (.str _) (.cons (.str _) .nil)))) (aH afv (by simp) (aD ?_)) (.dw _ (bg.mem (.cons (aU Nd.pu _) (.cons (.int _ _) .nil))));unfold qj at h;obtain⟨c1,e1,h1⟩:=aj h;clear h;obtain⟨b,e2,h2⟩:=aj h1;clear h1;obtain⟨c2,e3,h3⟩:=aj h2;clear h2;obtain⟨code,e4,h⟩:=aj h3;clear h3;unfold ak0;simp -implicitDefEqProofs only [go_sem];refine eF ?_;simp -implicitDefEqProofs only [go_sem];refine PC.mk (tX e1) ?_;simp -implicitDefEqProofs only [go_sem];unfold EZ at e2;obtain⟨b1,e5,e2⟩:=aj e2;refine aA (sD e5) ?_;have hb:(b1=false/\b=true)\/(b1=true/\ ∃d,mR k bf=some d/\b= !d):=by
    cases b1 with
    |false=>rw [kC rfl]at e2;cases e2;exact .inl ⟨rfl,rfl⟩
    |true=>
      rw [pJ rfl]at e2;obtain⟨d,e6,e2⟩:=aj e2;cases e2;exact .inr ⟨rfl,d,e6,rfl⟩
  clear e2;rcases hb with⟨rfl,rfl⟩|⟨rfl,d,e6,rfl⟩
  all_goals simp -implicitDefEqProofs only [go_sem]
  all_goals try (refine aA (sD e6) ?_;simp -implicitDefEqProofs only [go_sem])
  all_goals
    refine aA (jI e3) ?_;simp -implicitDefEqProofs only [go_sem];refine aA (jk e4) ?_;rcases av h with⟨e7,h⟩|⟨e7,h⟩
    · obtain rfl:=ak h;simp -implicitDefEqProofs only [go_sem,e7];exact bR (.cons (dN Nd.pu [] _) (.cons (.pure _ (.int _ _)) .nil))
    · obtain⟨e8,h⟩:=aO h;obtain⟨a,e9,h⟩:=aj h;simp -implicitDefEqProofs only [go_sem,e7];refine He (Zh e8) fun v ids H' g1 g2 g3 g4=> ?_;have hn:AH.empty.next+3<=H'.next:=g3.1;have q0:H'.obj (AH.empty.next)=some [eU e]:=(g3.2 _ (by show AH.empty.next<AH.empty.next+3;omega) (fun h=>by cases h)).trans rfl;have q1:H'.obj (AH.empty.next+1)=some [.str aT]:=(g3.2 _ (by show AH.empty.next+1<AH.empty.next+3;omega) (fun h=>by cases h)).trans rfl;have q2:H'.obj (AH.empty.next+2)=some [.str bf]:=(g3.2 _ (by show AH.empty.next+2<AH.empty.next+3;omega) (fun h=>by cases h)).trans rfl;have qi: ∀i∈ids,AH.empty.next+2<i/\i<H'.next:=fun i hi=>by
        refine⟨?_,g1.lt i hi⟩;rcases g2 i hi with q|q
        · cases q
        · have:AH.empty.next+3<=i:=q;omega
      have hpos:0<e.length:=by
        simp only [xV,Bool.and_eq_true,decide_eq_true_eq]at e8;exact e8.1.1
      obtain⟨id,cap,junk,rfl,rfl,_,_,_,_⟩:=g1.at (List.getElem?_eq_getElem hpos);have agO:=qi id (List.mem_singleton.2 rfl);have n0: ¬AH.empty.next=H'.next:=by omega
      have n1: ¬AH.empty.next=H'.next+1:=by omega
      simp -implicitDefEqProofs only [go_sem,nY,q0,n0,n1,if_true,if_false,Nat.le_refl];have hr:aK ((((H'.new [.aB [] .nil]).put H'.next [.dh id 0 e.length cap 5]).new [.bool false]).put (H'.next+1) [.bool false]) Nd.cells 5 e (.dh id 0 e.length cap 5) [id]:=by
        refine aK.put (aK.new (aK.put (aK.new g1) ?_)) ?_
        · intro hm;have:=(qi _ hm).2;omega
        · intro hm;have:=(qi _ hm).2;omega
      have hS:acL e aT bf AH.empty.next H'.next (e,false) ((((H'.new [.aB [] .nil]).put H'.next [.dh id 0 e.length cap 5]).new [.bool false]).put (H'.next+1) [.bool false]):=by
        refine⟨(show H'.next+1<H'.next+2 by omega),(show AH.empty.next+2<H'.next by omega),?_,?_,?_,⟨_,_,?_,hr,qi⟩,?_⟩
        · simp only [AH.DL,AH.DJ,AH.aJ,AH.aI,if_false,if_true,n0,n1];exact q0
        · have m0: ¬AH.empty.next+1=H'.next:=by omega
          have m1: ¬AH.empty.next+1=H'.next+1:=by omega
          simp only [AH.DL,AH.DJ,AH.aJ,AH.aI,if_false,if_true,m0,m1];exact q1
        · have m0: ¬AH.empty.next+2=H'.next:=by omega
          have m1: ¬AH.empty.next+2=H'.next+1:=by omega
          simp only [AH.DL,AH.DJ,AH.aJ,AH.aI,if_false,if_true,m0,m1];exact q2
        · have m1: ¬H'.next=H'.next+1:=by omega
          simp only [AH.DL,AH.DJ,AH.aJ,AH.aI,if_false,if_true,m1]
        · simp only [AH.DL,AH.DJ,AH.aJ,AH.aI,if_false,if_true]
      refine cK.mono (cK.wk (aes (aeA k e aT bf _ _) e k _ [] (e,false) a _ hS e9) (.same (.same (.aB (.same .nil))))) fun r H1 hS1=> ?_;obtain⟨h1,h0,h2,h3,h4,⟨v,ids,h5,h6,h7⟩,h8⟩:=hS1;rcases av h with⟨e10,h⟩|⟨e10,h⟩
      · obtain rfl:=ak h;rw [e10]at h8;simp -implicitDefEqProofs only [go_sem,h8];exact bR (.cons (dN Nd.pu [] _) (.cons (.pure _ (.int _ _)) .nil))
      · obtain rfl:=ak h;rw [e10]at h8;simp -implicitDefEqProofs only [go_sem,h8,h5];exact bR (.cons (h6.fz Nd.pu) (.cons (.pure _ (.int _ _)) .nil))
end Go.VL
end
section
namespace Go.VL
open Tm
theorem Ie {l m:List Nd} (h:l.map sk=m.map sk): ∀(k:Nat) (a p j:Int),jR k l a p j=jR k m a p j
  |0,a,p,j=>rfl
  |k+1,a,p,j=>by
    simp only [jR,Ie h k]
    have h1:=congrArg (·[p.toNat]?) h
    simp only [List.getElem?_map]at h1;cases h2:l[p.toNat]? with
    |none=>rw [h2]at h1;cases h3:m[p.toNat]? with|none=>rfl|some y=>rw [h3]at h1;cases h1
    |some x=>
      rw [h2]at h1;cases h3:m[p.toNat]? with
      |none=>rw [h3]at h1;cases h1
      |some y=>
        rw [h3]at h1;have ha:x.args=y.args:=show(sk x).args=(sk y).args from congrArg Nd.args (Option.some.inj h1)
        simp only [Option.bind_some,ha]
theorem Ig {l m:List Nd} (h:l.map sk=m.map sk): ∀(k:Nat) (a p:Int),jS k l a p=jS k m a p
  |0,a,p=>rfl
  |k+1,a,p=>by simp only [jS,Ie h,Ig h k,aey h]
theorem Nc {l m:List Nd} (h:l.map sk=m.map sk) (k:Nat) (i:Int):mP k l i=mP k m i:=by
  unfold mP;rw [Ig h]
theorem FW {l m:List Nd} (h:l.map sk=m.map sk): ∀(k:Nat) (out:List Str) (a p:Int),jl k l out a p=jl k m out a p
  |0,out,a,p=>rfl
  |k+1,out,a,p=>by
    simp only [jl,FW h k,Nc h]
    have h1:=congrArg (·[a.toNat]?) h
    simp only [List.getElem?_map]at h1;cases h2:l[a.toNat]? with
    |none=>rw [h2]at h1;cases h3:m[a.toNat]? with|none=>rfl|some y=>rw [h3]at h1;cases h1
    |some x=>
      rw [h2]at h1;cases h3:m[a.toNat]? with
      |none=>rw [h3]at h1;cases h1
      |some y=>
        rw [h3]at h1;have hb: ∀p,wu x p=wu y p:=fun p=>by
          show wu (sk x) p=wu (sk y) p
          rw [Option.some.inj h1]
        simp only [Option.bind_some,hb]
theorem Zi {l m:List Nd} (h:l.map sk=m.map sk) (k:Nat) (i:Int):mq k l i=mq k m i:=by
  unfold mq;rw [Nc h];simp only [FW h]
theorem aeB {n:Nd} {p:Nat} {s:Str} (h:s∈wK n p):s∈n.names:=by
  unfold wK at h;cases hr:mG n (p:Int)with
  |none=>rw [hr]at h;cases h
  |some r=>
    rw [hr]at h;simp only [Option.getD_some]at h;unfold mG at hr;cases hj:nA n.kind with
    |none=>rw [hj]at hr;cases hr
    |some b=>
      rw [hj,Option.bind_some]at hr;cases b with
      |true=>
        rw [cond_true]at hr;cases e:((p:Int)==IntKind.wrap .i64 ((n.args.length:Int) -1))<;>rw [e]at hr<;>cases hr
        · cases h
        · exact h
      |false=>
        rw [cond_false]at hr;cases e0:(n.kind==23)<;>rw [e0]at hr
        · cases hr;cases h
        · rw [cond_true]at hr;by_cases h1:1<=n.names.length
          · rw [if_pos h1,if_pos h1]at hr;cases e:((p:Int)==IntKind.wrap .i64 ((n.args.length:Int) -1))<;>rw [e]at hr
            · cases e2:(n.n==1)<;>rw [e2]at hr<;>cases hr
              · exact List.mem_of_mem_drop h
              · exact h
            · cases hr;exact List.mem_of_mem_take h
          · rw [if_neg h1,if_neg h1]at hr;cases e:((p:Int)==IntKind.wrap .i64 ((n.args.length:Int) -1))<;>rw [e]at hr
            · cases e2:(n.n==1)<;>rw [e2]at hr<;>cases hr;exact h
            · cases hr
section
variable {e:List Nd}
mutual
theorem Ve: ∀(t:Tm) (b:Nat) (bd:List Str),Seg e b t-> ∀v∈vis b bd t,∀s∈v.2,s∈bd\/ ∃n∈e,s∈n.names
  | .mk x cs,b,bd,hS,v,hv,s,hs=>by
    rw [KZ,List.mem_cons]at hv;rcases hv with rfl|hv
    · exact .inl hs
    · exact Qu cs x [] b bd hS v hv s hs
theorem Qu: ∀(cs:List Tm) (x:Nd) (l:List Tm) (b:Nat) (bd:List Str),Seg e b (.mk x (l++cs))-> ∀v∈yw (b+sizes l) bd (nd x b (l++cs)) l.length cs,∀s∈v.2,s∈bd\/ ∃n∈e,s∈n.names
  |[],x,l,b,bd,hS,v,hv,s,hs=>by rw [yw]at hv;cases hv
  |c::cs,x,l,b,bd,hS,v,hv,s,hs=>by
    have hn:=hS.node;rw [Cg,List.mem_append]at hv;rcases hv with hv|hv
    · rcases Ve c _ _ hS.kid v hv s hs with h|h
      · rcases List.mem_append.1 h with h|h
        · exact .inl h
        · exact .inr ⟨_,List.mem_of_getElem? hn,aeB h⟩
      · exact .inr h
    · have e1:l++c::cs=(l++[c])++cs:=by simp
      have e2:l.length+1=(l++[c]).length:=by simp
      have e3:b+sizes l+c.size=b+sizes (l++[c]):=by rw [dU,vV];omega
      rw [e1,e2,e3]at hv;rw [e1]at hS;exact Qu cs x (l++[c]) b bd hS v hv s hs
end
end
def lD (e:List Nd) (aT:Str) (v:Nat×List Str):Bool:=match e[v.1]? with
  |some n=>Ao n&&decide (n.text=aT)&& !decide (aT∈v.2)
  |none=>false
def Vf (bf:Str) (n:Nd):Nd:={n with text:=bf}
def kL (e:List Nd) (aT bf:Str):List (Nat×List Str)->List Nd->List Nd
  |[],a=>a
  |v::l,a=>kL e aT bf l (if lD e aT v=true then a.modify v.1 (Vf bf)else a)
theorem acM {a:List Nd} {i:Nat} {m:Nd} (h:a[i]? =some m) (bf:Str):a.set i {m with text:=bf}=a.modify i (Vf bf):=by
  refine List.ext_getElem? fun j=> ?_;rw [List.getElem?_set,List.getElem?_modify];have hlt:=(List.getElem?_eq_some_iff.1 h).1;by_cases hj:i=j
  · subst hj;rw [if_pos rfl,if_pos hlt,h];simp [Vf]
  · rw [if_neg hj];simp [hj]
theorem abd {e:List Nd} (aT bf:Str): ∀(l:List (Nat×List Str)) (a:List Nd) (d:Bool),a.length=e.length->(∀v∈l,v.2.length<=10000/\v.1<e.length)->Ev (fun k=>Ak (Ic k e aT bf) l (a,d)) (kL e aT bf l a,d||l.any fun v=>lD e aT v&&decide (bf∈v.2))
  |[],a,d,ha,h=>Ev.some' (by simp [kL])
  |v::l,a,d,ha,h=>by
    obtain⟨h1,h2⟩:=h v List.mem_cons_self;have hh:lD e aT v=(Ao e[v.1]&&decide (e[v.1].text=aT)&& !decide (aT∈v.2)):=by unfold lD;rw [bM h2]
    have hv2:v.1<a.length:=by omega
    simp only [Ak];refine Ev.bind (x:=(if lD e aT v=true then a.modify v.1 (Vf bf)else a,d||(lD e aT v&&decide (bf∈v.2)))) ?_ ?_
    · unfold Ic;simp only [nn,if_true,Int.toNat_natCast,bM h2,Option.bind_some];refine Ev.bind (Y8 _) ?_;cases hn:Ao e[v.1]with
      |false=>rw [hh,hn];exact Ev.cF rfl (Ev.some' (by simp))
      |true=>
        by_cases ht:e[v.1].text=aT
        · refine Ev.cT (by simp [ht]) (Ev.bind (xK _ _ (by omega)) ?_);by_cases hf:aT∈v.2
          · rw [hh];exact Ev.cT (decide_eq_true hf) (Ev.some' (by simp [hf]))
          · have hhit:lD e aT v=true:=by rw [hh,hn];simp [ht,hf]
            refine Ev.cF (decide_eq_false hf) ?_;simp only [bM hv2,Option.bind_some,hhit,if_true,Bool.true_and];rw [acM (bM hv2)];cases d with
            |true=>exact Ev.cT rfl (Ev.some' rfl)
            |false=>exact Ev.cF rfl (Ev.bind (xK _ _ (by omega)) (Ev.some' rfl))
        · rw [hh,hn];exact Ev.cF (by simp [ht]) (Ev.some' (by simp [ht]))
    · refine(abd aT bf l _ _ ?_ (fun w hw=>h w (List.mem_cons_of_mem _ hw))).to ?_
      · split
        · rw [List.length_modify];exact ha
        · exact ha
      · rw [kL,List.any_cons,Bool.or_assoc]
theorem OB (e:List Nd) (aT bf:Str): ∀(l:List (Nat×List Str)) (a:List Nd),(kL e aT bf l a).length=a.length
  |[],a=>rfl
  |v::l,a=>by rw [kL,OB e aT bf l];split<;>simp
theorem OC (e:List Nd) (aT bf:Str): ∀(l:List (Nat×List Str)) (a:List Nd) (i:Nat),(kL e aT bf l a)[i]? =if(l.any fun v=>lD e aT v&&decide (v.1=i))=true then a[i]?.map (Vf bf)else a[i]?
  |[],a,i=>by simp [kL]
  |v::l,a,i=>by
    rw [kL,OC e aT bf l,List.any_cons];by_cases h1:lD e aT v=true
    · rw [if_pos h1,List.getElem?_modify,h1];by_cases h2:v.1=i
      · subst h2;simp only [if_true,decide_true,Bool.true_and,Bool.true_or];cases a[v.1]? with
        |none=>simp
        |some m=>split<;>simp [Vf]
      · simp only [h2,if_false,decide_false,Bool.and_false,Bool.false_or];cases a[i]? <;>simp
    · have h2:lD e aT v=false:=by simpa using h1
      rw [if_neg h1,h2,Bool.false_and,Bool.false_or]
structure Qv (e:List Nd) (vs:List (Nat×List Str)):Prop where
  walk: ∀(α:Type) (step:α->Int->List Str->Option α) (k:Nat) (a:α),1000<=k->uH step e k (IntKind.wrap .i64 ((e.length:Int) -1)) [] a=Ak step vs a
  bd: ∀v∈vs,Ev (fun k=>mq k e (v.1:Int)) v.2/\v.2.length<=10000/\v.1<e.length
  all: ∀i<e.length,∃q,(i,q)∈vs
  nm: ∀v∈vs,∀s∈v.2,∃n∈e,s∈n.names
  len:vs.length=e.length
  pos:0<e.length
theorem apG {e:List Nd} (hV:Valid e) (hL:jd e) (hF:K3 e): ∃vs,Qv e vs:=by
  obtain⟨t,he⟩:=hV.tree;have hlen:=hF.len;have hs:=t.size_pos;have hsz:e.length=t.size:=by rw [he,bV]
  have hS:Seg e 0 t:=by rw [he];exact Seg.whole t
  have hw:IntKind.wrap .i64 ((e.length:Int) -1)=((0+t.size -1:Nat):Int):=by rw [wrap64 (by omega) (by omega)];omega
  refine⟨vis 0 [] t,fun α step k a hk=> ?_,?_,fun i hi=>aa8 t 0 [] i (Nat.zero_le _) (by omega),fun v hv s hs=> ?_,by rw [aa9,hsz],by omega⟩
  · rw [hw];exact YX hF step t 0 [] k a hS (by omega) (by simp only [List.length_nil];omega)
  · refine Va he hL hF t 0 [] hS ?_ (by simp only [List.length_nil];omega);rw [Nat.zero_add];exact ajA he hL hF
  · rcases Ve t 0 [] hS v hv s hs with h|h
    · cases h
    · exact h
theorem Qv.uniq {e a:List Nd} {vs vs':List (Nat×List Str)} (h:Qv e vs) (h':Qv a vs') (hs:e.map sk=a.map sk) {i:Nat} {q q':List Str} (hq:(i,q)∈vs) (hq':(i,q')∈vs'):q=q':=by
  have h1:=(h.bd _ hq).1;have h2:=(h'.bd _ hq').1;simp only at h1 h2;exact(h1.cg fun k=>(Zi hs k _).symm).uniq h2
theorem Qv.any {e:List Nd} {vs:List (Nat×List Str)} (h:Qv e vs) {i:Nat} {q:List Str} (hq:(i,q)∈vs) (p:Nat×List Str->Bool):(vs.any fun v=>p v&&decide (v.1=i))=p (i,q):=by
  cases hp:p (i,q)with
  |true=>exact List.any_eq_true.2 ⟨_,hq,by simp [hp]⟩
  |false=>
    rw [List.any_eq_false];rintro⟨j,q'⟩ hv;by_cases hj:j=i
    · subst hj;rw [h.uniq h rfl hv hq,hp];simp
    · simp [hj]
theorem OD {e:List Nd} (hL:jd e) (hp:0<e.length):xV e=true:=by
  unfold xV;simp only [Bool.and_eq_true,decide_eq_true_eq,List.all_eq_true];refine⟨⟨hp,hL.len⟩,fun n hn=> ?_⟩;obtain⟨i,hi⟩:=List.getElem?_of_mem hn;exact⟨(hL.nd i n hi).2.1,(hL.nd i n hi).2.2⟩
theorem Zj {e:List Nd} {vs:List (Nat×List Str)} (h:Qv e vs) (hL:jd e) (an0:Ev (fun k=>fF k e) 0) {aT bf:Str} (h1:rName aT=true) (h2:rName bf=true):
    Ev (fun k=>qj k e aT bf) (if(vs.any fun v=>lD e aT v&&decide (bf∈v.2))=true then([],19)else(kL e aT bf vs e,0)):=by
  have hr:=abd aT bf vs e false rfl (fun v hv=>(h.bd v hv).2);rw [Bool.false_or]at hr;unfold qj;refine Ev.bind an0 (Ev.bind (x:=false) ?_ ?_)
  · unfold EZ;exact Ev.bind (l5 aT) (Ev.cT h1 (Ev.bind (l5 bf) (Ev.some' (by rw [h2];rfl))))
  · simp only [nC,Option.bind_some];refine Ev.bind (wJ _ (by simp)) ?_;refine Ev.cF (by rfl) (Ev.kg (OD hL h.pos) (Ev.bind (x:=(kL e aT bf vs e,vs.any fun v=>lD e aT v&&decide (bf∈v.2))) ?_ ?_))
    · obtain⟨K,hK⟩:=hr;exact⟨max K 1000,fun k hk=>(h.walk _ _ k _ (by omega)).trans (hK k (by omega))⟩
    · cases(vs.any fun v=>lD e aT v&&decide (bf∈v.2))
      · exact Ev.cF rfl Ev.some
      · exact Ev.cT rfl Ev.some
theorem Uq (a b:List Int) (hl:a.length<=1099511627776):Ev (fun k=>xu k a b) (decide (a=b)):=by
  unfold xu;by_cases hab:a.length=b.length
  · refine Ev.cF (by simp [hab]) ?_;have key:Ev (fun k=>jv k a b ((0:Nat):Int)) (if a.drop 0=b.drop 0 then .inl ()else .inr false):=by
      refine mH (len:=a.length) (p:=fun i=>Ev (fun k=>jv k a b (i:Int)) (if a.drop i=b.drop i then .inl ()else .inr false)) ?_ fun i hi ih=> ?_
      · refine Ev.succ ?_;simp only [jv];refine Ev.cF (kV _) (Ev.some' ?_);simp [hab]
      · have hi':i<b.length:=hab▸hi;refine Ev.succ ?_;simp only [jv,Int.toNat_natCast,bM hi,bM hi',Option.bind_some,nn,if_true,mZ hi,cond_true,fK hi hl];have e1:List.drop i a=a[i]::List.drop (i+1) a:=List.drop_eq_getElem_cons hi;have e2:List.drop i b=b[i]::List.drop (i+1) b:=List.drop_eq_getElem_cons hi';by_cases h:a[i]=b[i]
        · refine Ev.cF (by rw [bne_eq_false_iff_eq];exact h) (ih.to ?_);rw [e1,e2];simp only [h,List.cons.injEq,true_and]
        · refine Ev.cT (by rw [bne_iff_ne];exact h) (Ev.some' ?_);rw [if_neg];intro e;rw [e1,e2,List.cons.injEq]at e;exact h e.1
    refine Ev.bind key ?_;by_cases h:a=b
    · subst h;simp only [if_true,bT,decide_true];exact Ev.some
    · simp only [List.drop_zero,h,if_false,bZ,decide_false];exact Ev.some
  · refine Ev.cT (by simp;omega) (Ev.some' ?_);exact(decide_eq_false fun e=>hab (by rw [e])).symm
theorem VX (x y:Nd) (h1:x.names.length<=1000000) (h2:x.args.length<=1000000):Ev (fun k=>zH k x y) (decide (x=y)):=by
  unfold zH;obtain⟨k1,n1,t1,m1,a1⟩:=x;obtain⟨k2,n2,t2,m2,a2⟩:=y;simp only at h1 h2;simp only [Nd.mk.injEq];by_cases e1:k1=k2
  · refine Ev.cT (by rw [beq_iff_eq];exact e1) ?_;by_cases e2:n1=n2
    · refine Ev.cT (by rw [beq_iff_eq];exact e2) ?_;by_cases e3:t1=t2
      · refine Ev.cT (by rw [beq_iff_eq];exact e3) (Ev.bind (PE m1 m2 (by omega)) ?_);by_cases e4:m1=m2
        · refine Ev.cT (decide_eq_true e4) (Ev.bind (Uq a1 a2 (by omega)) (Ev.some' ?_));simp [e1,e2,e3,e4]
        · exact Ev.cF (decide_eq_false e4) (Ev.some' (by simp [e4]))
      · exact Ev.cF (by rw [beq_eq_false_iff_ne];exact e3) (Ev.some' (by simp [e3]))
    · exact Ev.cF (by rw [beq_eq_false_iff_ne];exact e2) (Ev.some' (by simp [e2]))
  · exact Ev.cF (by rw [beq_eq_false_iff_ne];exact e1) (Ev.some' (by simp [e1]))
theorem JH {a b:List Nd} (hL:jd a):Ev (fun k=>wo k a b) (decide (a=b)):=by
  have hl:=hL.len;unfold wo;by_cases hab:a.length=b.length
  · refine Ev.cF (by simp [hab]) ?_;have key:Ev (fun k=>j5 k a b ((0:Nat):Int)) (if a.drop 0=b.drop 0 then .inl ()else .inr false):=by
      refine mH (len:=a.length) (p:=fun i=>Ev (fun k=>j5 k a b (i:Int)) (if a.drop i=b.drop i then .inl ()else .inr false)) ?_ fun i hi ih=> ?_
      · refine Ev.succ ?_;simp only [j5];refine Ev.cF (kV _) (Ev.some' ?_);simp [hab]
      · have hi':i<b.length:=hab▸hi;refine Ev.succ ?_;obtain⟨_,h2,h3⟩:=hL.nd i _ (bM hi);simp only [j5,Int.toNat_natCast,bM hi,bM hi',Option.bind_some,nn,if_true,mZ hi,cond_true,fK hi (show a.length<=1099511627776 by omega)];have e1:List.drop i a=a[i]::List.drop (i+1) a:=List.drop_eq_getElem_cons hi;have e2:List.drop i b=b[i]::List.drop (i+1) b:=List.drop_eq_getElem_cons hi';refine Ev.bind (VX _ _ h2 h3) ?_;by_cases h:a[i]=b[i]
        · refine Ev.cT (decide_eq_true h) (ih.to ?_);rw [e1,e2];simp only [h,List.cons.injEq,true_and]
        · refine Ev.cF (decide_eq_false h) (Ev.some' ?_);rw [if_neg];intro e;rw [e1,e2,List.cons.injEq]at e;exact h e.1
    refine Ev.bind key ?_;by_cases h:a=b
    · subst h;simp only [if_true,bT,decide_true];exact Ev.some
    · simp only [List.drop_zero,h,if_false,bZ,decide_false];exact Ev.some
  · refine Ev.cT (by simp;omega) (Ev.some' ?_);exact(decide_eq_false fun e=>hab (by rw [e])).symm
section
variable {e:List Nd} {aT bf:Str} {vs:List (Nat×List Str)} (h:Qv e vs) (hL:jd e) (hF:K3 e) (hf:rName aT=true) (ht:rName bf=true) (htl:bf.length<=1000000) (hne:aT≠bf)
  (hno: ∀n∈e,n.text≠bf/\bf∉n.names)
include h
theorem abe {i:Nat} {q:List Str} (hq:(i,q)∈vs) (aT bf:Str):(kL e aT bf vs e)[i]? =if lD e aT (i,q)=true then e[i]?.map (Vf bf)else e[i]? :=by
  rw [OC,h.any hq (lD e aT)]
theorem an1 (aT bf:Str):e.map sk=(kL e aT bf vs e).map sk:=by
  refine List.ext_getElem? fun i=> ?_;rw [List.getElem?_map,List.getElem?_map,OC];split
  · cases e[i]? <;>rfl
  · rfl
include hL htl in
theorem agP:jd (kL e aT bf vs e):=by
  refine⟨by rw [OB];exact hL.len,fun i n hn=> ?_⟩;have hi:i<e.length:=by
    have:=(List.getElem?_eq_some_iff.1 hn).1;rw [OB]at this;exact this
  obtain⟨q,hq⟩:=h.all i hi;have:=hL.nd i _ (bM hi);rw [abe h hq,bM hi]at hn;by_cases hh:lD e aT (i,q)=true
  · rw [if_pos hh]at hn;simp only [Option.map_some,Option.some.injEq]at hn;subst hn;exact⟨htl,this.2⟩
  · rw [if_neg hh]at hn;cases hn;exact this
end
end Go.VL
end
section
set_option maxRecDepth 100000
namespace Go.VL.Ce
open Go.Proofs Go.VL
def dc (n:Nat):Bool:=([128,1000000]:List Nat).contains n
def tK:AC:=(.seq (.ops [oB 10 .lss (.t 9) (.t 8)]) (.seq (.cond (.t 10) .skip (.exit 0)) (.seq (.block 1 (.seq (.ops [oM 11 9,oM 4 11]) (.QM [0,0,0,0,0,0,48,112,240,496,0,0,3072,7168,15360,32752,65523,131059,262131,524287,1048575,2097151] [(oM 12 3,false),(oM 13 4,false),(oM 14 3,false),(oM 15 4,false),(oM 16 3,false),(oM 17 4,false),(oX 18 5 16 17,false),(oF 19 3 18,false),(oL 20 1 19,false),(oC 21 72 [(.t 20)],false),(oM 22 3,false),(oM 23 4,false),(oX 24 5 22 23,false),(oF 25 4 24,false),(oL 26 1 25,false),(oC 27 128 [(.t 26)],true),(oX 28 5 12 13,false),(oF 29 3 28,false),(oS 1 29 21,true)] [oX 30 5 14 15,oF 31 4 30,oS 1 31 27]))) (.ops [oB 32 .add (.t 9) (.c (.int .i64 1)),oM 9 32]))))
def R9:AC:=(.seq (.ops [oR 2 (.aR (.c (.aB [] .nil)))]) (.seq (.ops [oM 5 0,oC 6 127 [(.t 5)],oM 3 6]) (.seq (.seq (.ops [oM 7 3,oN 8 7,oI 9 0]) (.block 0 (.loop tK))) (.seq (.ops [oM 33 3,oM 2 33]) .ret))))
theorem abT:bn Tryz.prog dc false 78 34 [(.tmp 2)] R9:=⟨by kernel_rfl,_,_,Tryz.func78,rfl,by kernel_rfl,rfl,by kernel_rfl,by kernel_rfl⟩
end Go.VL.Ce
namespace Go.VL.Cf
open Go.Proofs Go.VL
def dc (n:Nat):Bool:=([128,78]:List Nat).contains n
def yG:AC:=(.seq (.seq (.ops [oM 6 4,oM 7 0,oN 8 7,oB 9 .lss (.t 6) (.t 8)]) (.cond (.t 9) .skip (.exit 0))) (.seq (.block 1 (.seq (.ops [oM 12 0,oM 13 4,oX 14 5 12 13,oA 15 5 14,⟨(some 5),(.d (.alloc [(.int .i64 0),(.int .i64 0),(.str []),(.aB [] .nil),(.aB [] .nil)])),none⟩,oS 5 5 15]) (.seq (.par [(oF 16 3 5,false),(oL 17 1 16,false),(oC 18 52 [(.t 17)],false),(oF 19 4 5,false),(oL 20 1 19,false),(oC 21 53 [(.t 20)],false),(oF 22 3 5,false)] [oS 1 22 18,oF 23 4 5,oS 1 23 21]) (.ops [oM 24 3,oA 25 5 5,oR 26 (.fJ 5 [(.t 25)]),⟨(some 27),(.n (.app 5 80 (.t 24) (.t 26))),none⟩,oM 3 27])))) (.ops [oM 10 4,oB 11 .add (.t 10) (.c (.int .i64 1)),oM 4 11])))
def Xk:AC:=(.seq (.ops [oR 2 (.aR (.c (.aB [] .nil)))]) (.seq (.ops [oR 3 (.aR (.c (.aB [] .nil)))]) (.seq (.seq (.ops [oI 4 0]) (.block 0 (.loop yG))) (.seq (.ops [oM 28 3,oM 2 28]) .ret))))
theorem aft:bn Tryz.prog dc true 15 29 [(.tmp 2)] Xk:=⟨by kernel_rfl,_,_,Tryz.func15,rfl,by kernel_rfl,rfl,by kernel_rfl,by kernel_rfl⟩
def Mf:AC:=(.seq (.ops [oB 24 .lss (.t 23) (.t 22)]) (.seq (.cond (.t 24) .skip (.exit 2)) (.seq (.block 3 (.seq (.ops [oM 25 23,oX 26 1 21 23,oL 27 1 26,oM 8 25,oM 9 27]) (.seq (.ops [oM 28 9,oM 29 1,oB 30 .geq (.t 28) (.t 29)]) (.cond (.t 30) (.ops [oM 31 0,oM 32 7,oX 33 5 31 32,oF 34 4 33,oL 35 1 34,oM 36 8,oM 37 9,oM 38 2,oB 39 .add (.t 37) (.t 38),oX 40 1 35 36,oS 1 40 39]) .skip)))) (.ops [oB 41 .add (.t 23) (.c (.int .i64 1)),oM 23 41]))))
def Ih:AC:=(.seq (.ops [oB 15 .lss (.t 14) (.t 13)]) (.seq (.cond (.t 15) .skip (.exit 0)) (.seq (.block 1 (.seq (.ops [oM 16 14,oM 7 16]) (.seq (.ops [oM 17 0,oM 18 7,oX 19 5 17 18,oF 20 4 19,oL 21 1 20,oN 22 21,oI 23 0]) (.block 2 (.loop Mf))))) (.ops [oB 42 .add (.t 14) (.c (.int .i64 1)),oM 14 42]))))
def an2:AC:=(.seq (.ops [oR 6 (.aR (.c (.aB [] .nil)))]) (.seq (.ops [oM 10 0,oC 11 78 [(.t 10)],oM 0 11]) (.seq (.seq (.ops [oM 12 0,oN 13 12,oI 14 0]) (.block 0 (.loop Ih))) (.seq (.ops [oM 43 0,oM 6 43]) .ret))))
theorem atz:bn Tryz.prog dc false 82 44 [(.tmp 6)] an2:=⟨by kernel_rfl,_,_,Tryz.func82,rfl,by kernel_rfl,rfl,by kernel_rfl,by kernel_rfl⟩
def aio:AC:=(.seq (.ops [oR 2 (.aR (.c (.aB [] .nil)))]) (.seq (.seq (.ops [oM 3 0,oR 4 (.bin .eql .sl (.t 3) (.c (.aB [] .nil)))]) (.cond (.t 4) (.seq (.ops [oR 2 (.aR (.c (.aB [] .nil)))]) .ret) .skip)) (.seq (.ops [oR 5 (.fJ 1 []),oM 6 0,⟨(some 7),(.n (.app 1 8 (.t 5) (.t 6))),none⟩,oM 2 7]) .ret)))
theorem apH:bn Tryz.prog dc true 128 8 [(.tmp 2)] aio:=⟨by kernel_rfl,_,_,Tryz.func128,rfl,by kernel_rfl,rfl,by kernel_rfl,by kernel_rfl⟩
end Go.VL.Cf
end
section
namespace Go.VL
open Go.Proofs
theorem acN (e:List Nd) (hn: ∀(i:Nat) n,e[i]? =some n->n.names.length<=1000000/\n.args.length<=1000000) (hl:e.length<=1000000) (H0:AH) {Q:Post}: ∀(m i:Nat) (σ:Nat->PV) (H:AH) (v:PV) (ids:List Nat),i+m=e.length->σ 0=eU e->σ 3=v->σ 4= .int .i64 i->
    aK H Nd.cells 5 (e.take i) v ids->Nw H0 [] ids->HF [] H0 H->(∀c,cB H0 c->cB H c)->
    (∀σ' v' jD H',σ' 3=v'->aK H' Nd.cells 5 e v' jD->Nw H0 [] jD->HF [] H0 H'->(∀c,cB H0 c->cB H' c)->Q (.exit 0) σ' H')->W Tryz.prog (.loop Cf.yG) Q σ H:=by
  intro m
  induction m with
  |zero=>
    intro i σ H v ids hi s0 s3 s4 hr hw hf hok q0;have hd:decide ((i:Int)<(e.length:Int))=false:=decide_eq_false (by omega);refine aV (fun K hK=>aD ?_);unfold Cf.yG;simp -implicitDefEqProofs only [go_sem,s0,s4,hd];rw [List.take_of_length_le (by omega)]at hr;exact q0 _ v _ _ aZ hr hw hf hok
  |succ m ih=>
    intro i σ H v ids hi s0 s3 s4 hr hw hf hok q0;have hlt:i<e.length:=by omega
    have hd:decide ((i:Int)<(e.length:Int))=true:=decide_eq_true (by omega);have hx:e[i]? =some e[i]:=List.getElem?_eq_getElem hlt;obtain⟨h1,h2⟩:=hn i _ hx;have hi0:(0:Int)<=(i:Int):=Int.natCast_nonneg i;have hwr:IntKind.wrap .i64 ((i:Int)+1)=((i+1:Nat):Int):=by rw [IntKind.wrap_i64];omega
    have o1:iZ e[i].names=some e[i].names:=by
      unfold iZ;rw [if_pos (by simp;omega)];rfl
    have o2:vg e[i].args=some e[i].args:=by
      unfold vg;rw [if_pos (by simp;omega)];rfl
    refine aV (fun K hK=>aD ?_);unfold Cf.yG;simp -implicitDefEqProofs only [go_sem,nY,s0,s4,hd,hi0,hx,if_true,Int.toNat_natCast,List.getElem?_map,Option.map_some];refine eF ?_;simp -implicitDefEqProofs only [go_sem,nY,s0,s4,hd,hi0,hx,if_true,Int.toNat_natCast,List.getElem?_map,Option.map_some];refine PC.mk (vk o1) ?_;simp -implicitDefEqProofs only [go_sem,nY,s0,s4,hd,hi0,hx,if_true,Int.toNat_natCast,List.getElem?_map,Option.map_some];refine PC.mk (MW o2) ?_;simp -implicitDefEqProofs only [go_sem,nY,s0,s4,hd,hi0,hx,if_true,Int.toNat_natCast,List.getElem?_map,Option.map_some];refine BX (f:=Nd.cells) (v:=v) (ids:=ids) aez (e.take i) [e[i]] .exact (by simp -implicitDefEqProofs only [go_sem,s3]) (by repeat (first|exact hr|apply aK.new|refine aK.put ?_ (fun hm=>by have:=aK.lt hr _ hm;omega))) aZ (Nat.zero_lt_one:0<1) (by rw [List.length_take,List.length_singleton];omega) (fun v' jD H' r' nw' hf' ok'=> ?_);have hf1:HF [] H0 H':=by
      refine HF.via hf' (fun j hj=> ?_) (by repeat (first|exact hf|refine HF.new ?_|refine HF.put (by right;exact hf.1) ?_));rcases hw j hj with q|q
      · cases q
      · exact .inr q
    have hn1:H.next<=H'.next:=Nat.le_trans (Nat.le_succ _) hf'.1;have hw1:Nw H0 [] jD:=fun j hj=>by
      rcases nw' j hj with q|q
      · exact hw j q
      · exact .inr (Nat.le_trans hf.1 (Nat.le_trans (Nat.le_succ _) q))
    have et:e.take i++[e[i]]=e.take (i+1):=(List.take_succ_eq_append_getElem hlt).symm;rw [et]at r';simp -implicitDefEqProofs only [go_sem,s4,hwr];refine hK _ _ (ih (i+1) _ H' v' jD (by omega) aZ aZ aZ r' hw1 hf1 (fun c k=>ok' c (by repeat (first|exact hok c k|apply cB.new|apply cB.put))) q0)
theorem agQ {e:List Nd} (h:xV e=true):zK Tryz.prog 15 [eU e] Nd.cells 5 e:=by
  simp only [xV,Bool.and_eq_true,decide_eq_true_eq,List.all_eq_true]at h;intro H;refine aH Cf.aft (by simp) (aD ?_);unfold Cf.Xk;simp -implicitDefEqProofs only [go_sem];refine acN e (fun i n hn=>h.2 n (List.mem_of_getElem? hn)) h.1.2 H e.length 0 _ H (.aB [] .nil) [] (by omega) aZ aZ aZ aK.nil (fun _ h=>by cases h) (HF.refl _ _) (fun _ k=>k) fun σ' v' jD H' t3 r1 r2 r3 r4=> ?_;simp -implicitDefEqProofs only [go_sem,t3];exact⟨jD,r1,r2,r3,r4⟩
def Au (k:Nat) (e:List Nd) (aT bf:Str):List Nat->List Nd->Option (Option (List Nd))
  |[],a=>some (some a)
  |i::l,a=>Option.bind (e[i]?) fun n=>Option.bind (G6 k n) fun b=>cond (!b|| !(n.text==aT)) (Au k e aT bf l a) (Option.bind (mq k e (i:Int)) fun bd=>Option.bind (pO k bd aT) fun c=>cond c (Au k e aT bf l a)
      (Option.bind (pO k bd bf) fun d=>cond d (some none) (Option.bind (a[i]?) fun m=>Au k e aT bf l (a.set i {m with text:=bf}))))
theorem aeC (k:Nat) (e:List Nd) (aT bf:Str) {v:PV} {ids:List Nat} {Q:Post} (hl:e.length<=1000000): ∀(m i:Nat) (σ:Nat->PV) (H:AH) (a:List Nd) (r:Option (List Nd)),i+m=e.length->Au k e aT bf (List.range' i m) a=some r->
    σ 0=eU e->σ 1= .str aT->σ 2= .str bf->σ 8=v->σ 9= .int .i64 i->aK H Nd.cells 5 a v ids->
    (∀σ' H' a',r=some a'->σ' 8=v->aK H' Nd.cells 5 a' v ids->Q (.exit 0) σ' H')->
    (∀σ' H',r=none->σ' 6= .aB [] .nil->σ' 7= .int .i64 19->Q .ret σ' H')->W Tryz.prog (.loop GK) Q σ H:=by
  intro m
  induction m with
  |zero=>
    intro i σ H a r hi hr s0 s1 s2 s8 s9 hrow q0 q1;rw [List.range'_zero,Au]at hr;obtain rfl:=ak hr;have hge:decide ((i:Int)<(e.length:Int))=false:=decide_eq_false (by omega);refine aV (fun K hK=>aD ?_);unfold GK Rn;simp -implicitDefEqProofs only [go_sem,s0,s9,hge];exact q0 _ H a rfl aZ hrow
  |succ m ih=>
    intro i σ H a r hi hr s0 s1 s2 s8 s9 hrow q0 q1;rw [List.range'_succ,Au]at hr;obtain⟨n,e1,hr⟩:=aj hr;obtain⟨b,e2,hr⟩:=aj hr;have hlt:decide ((i:Int)<(e.length:Int))=true:=decide_eq_true (by omega);have hi0:(0:Int)<=(i:Int):=Int.natCast_nonneg i;have hw:IntKind.wrap .i64 ((i:Int)+1)=((i+1:Nat):Int):=by rw [IntKind.wrap_i64];omega
    have next: ∀(σ':Nat->PV) (H':AH) (a':List Nd),Au k e aT bf (List.range' (i+1) m) a'=some r->aK H' Nd.cells 5 a' v ids->σ' 0=eU e->σ' 1= .str aT->σ' 2= .str bf->σ' 8=v->σ' 9= .int .i64 ((i+1:Nat):Int)->W Tryz.prog (.loop GK) Q σ' H':=
      fun σ' H' a' g1 g2 g3 g4 g5 g6 g7=>ih (i+1) σ' H' a' r (by omega) g1 g3 g4 g5 g6 g7 g2 q0 q1
    refine aV (fun K hK=>aD ?_);unfold GK Rn;simp -implicitDefEqProofs only [go_sem,s0,s9,hlt,hi0,if_true,Int.toNat_natCast,List.getElem?_map,e1,Option.map_some];refine aA (adU e2) ?_;cases b with
    |false=>
      have hr:Au k e aT bf (List.range' (i+1) m) a=some r:=hr;simp -implicitDefEqProofs only [go_sem,s0,s1,s9,hw,hi0,if_true,Int.toNat_natCast,List.getElem?_map,e1,Option.map_some];refine hK _ _ (next _ H a hr hrow ?_ ?_ ?_ ?_ ?_)<;>simp -implicitDefEqProofs only [go_sem,s0,s1,s2,s8]
    |true=>
    cases e4:(n.text==aT)with
    |false=>
      rw [e4]at hr;have hr:Au k e aT bf (List.range' (i+1) m) a=some r:=hr;simp -implicitDefEqProofs only [go_sem,s0,s1,s9,hw,hi0,if_true,Int.toNat_natCast,List.getElem?_map,e1,Option.map_some,e4];refine hK _ _ (next _ H a hr hrow ?_ ?_ ?_ ?_ ?_)<;>simp -implicitDefEqProofs only [go_sem,s0,s1,s2,s8]
    |true=>
      rw [e4]at hr;have hr:Option.bind (mq k e (i:Int)) _=some r:=hr;obtain⟨bd,e5,hr⟩:=aj hr;obtain⟨c,e6,hr⟩:=aj hr;simp -implicitDefEqProofs only [go_sem,s0,s1,s9,hw,hi0,if_true,Int.toNat_natCast,List.getElem?_map,e1,Option.map_some,e4];refine aA (aah e5) ?_;simp -implicitDefEqProofs only [go_sem,s1];refine aA (y8 e6) ?_;rcases av hr with⟨e7,hr⟩|⟨e7,hr⟩
      · subst e7;simp -implicitDefEqProofs only [go_sem,s9,hw];refine hK _ _ (next _ H a hr hrow ?_ ?_ ?_ ?_ ?_)<;>simp -implicitDefEqProofs only [go_sem,s0,s1,s2,s8]
      · subst e7;obtain⟨d,e8,hr⟩:=aj hr;simp -implicitDefEqProofs only [go_sem,s2];refine aA (y8 e8) ?_;rcases av hr with⟨e9,hr⟩|⟨e9,hr⟩
        · subst e9;obtain rfl:=ak hr;simp -implicitDefEqProofs only [go_sem];exact q1 _ H rfl aZ aZ
        · subst e9;obtain⟨y,e10,hr⟩:=aj hr;obtain⟨id,C,rfl,hid,hC,hcell,hle,hdrop,hI⟩:=aK.content hrow e10;have hI':jG 5 v (.int .i64 i)=some (.ref id (i*5)):=hI .i64 i (by omega) (by omega);simp -implicitDefEqProofs only [go_sem,s2,s8,s9,hI'];refine nK (f:=Nd.cells) (id:=id) (o:=i*5+2) (i:=i) (j:=2) (a:=y) (y:={y with text:=bf}) (vs:=[.str bf]) aZ rfl rfl hrow e10 aZ rfl rfl (by decide) rfl (fun H' r' hf' ok'=> ?_);simp -implicitDefEqProofs only [go_sem,s9,hw];refine hK _ _ (next _ H' _ hr r' ?_ ?_ ?_ ?_ ?_)<;>simp -implicitDefEqProofs only [go_sem,s0,s1,s2,s8]
def Bo (k:Nat) (e:List Nd) (aT bf:Str):Option (List Nd×Int):=if xV e=true then Option.bind (Au k e aT bf (List.range' 0 e.length) e) fun o=>some (match o with|none=>([],19)|some a=>(a,0))else none
theorem acO (k:Nat) (e:List Nd) (aT bf:Str) {c:Ck} {r:List Nd×Int} (h:Bo k e aT bf=some r):aF Tryz.prog 40 [.aB (e.map Nd.cells) c,.str aT,.str bf] (.dw [.aB (r.1.map Nd.cells) .unk,.int .i64 r.2]):=by
  refine aF.wk (args:=[eU e,.str aT,.str bf]) ?_ (.aB (.same (.same .nil)));refine aF.aP (bg.mem (.cons (aU Nd.pu _) (.cons (.str _) (.cons (.str _) .nil)))) (aH arq (by simp) (aD ?_)) (.dw _ (bg.mem (.cons (aU Nd.pu _) (.cons (.int _ _) .nil))));unfold Bo at h;obtain⟨e1,h⟩:=aO h;obtain⟨o,e2,h⟩:=aj h;cases h;have hl:e.length<=1000000:=by
    simp only [xV,Bool.and_eq_true,decide_eq_true_eq]at e1;exact e1.1.2
  unfold ak3;simp -implicitDefEqProofs only [go_sem];refine He (agQ e1) fun v ids H' g1 g2 g3 g4=> ?_;simp -implicitDefEqProofs only [go_sem];refine aeC k e aT bf (v:=v) (ids:=ids) hl e.length 0 _ H' e o (by omega) e2 aZ aZ aZ aZ aZ g1 (fun σ' H2 a' eo t8 hr=> ?_) (fun σ' H2 eo t6 t7=> ?_)
  · subst eo;simp -implicitDefEqProofs only [go_sem,t8];exact bR (.cons (hr.fz Nd.pu) (.cons (.pure _ (.int _ _)) .nil))
  · subst eo;simp -implicitDefEqProofs only [go_sem,t6,t7];exact bR (.cons (dN Nd.pu [] _) (.cons (.pure _ (.int _ _)) .nil))
end Go.VL
end
section
namespace Go.VL
open Tm
section
variable {e:List Nd} {vs:List (Nat×List Str)} (h:Qv e vs)
include h
theorem agR {i:Nat} {q:List Str} (hq:(i,q)∈vs) (P:Nat×List Str->Bool):(vs.any fun v=>P v&&decide (i<=v.1))=(P (i,q)||vs.any fun v=>P v&&decide (i+1<=v.1)):=by
  rw [<-h.any hq P,Bool.eq_iff_iff];simp only [List.any_eq_true,Bool.or_eq_true,Bool.and_eq_true,decide_eq_true_eq];constructor
  · rintro⟨v,h1,h2,h3⟩;by_cases hv:v.1=i
    · exact .inl ⟨v,h1,h2,hv⟩
    · exact .inr ⟨v,h1,h2,by omega⟩
  · rintro(⟨v,h1,h2,h3⟩|⟨v,h1,h2,h3⟩)
    · exact⟨v,h1,h2,by omega⟩
    · exact⟨v,h1,h2,by omega⟩
theorem ajH (hL:jd e) (hF:K3 e) (aT bf:Str): ∀(m i:Nat),i+m=e.length->Ev (fun k=>Au k e aT bf (List.range' i m) ((kL e aT bf vs e).take i++e.drop i))
    (if(vs.any fun v=>(lD e aT v&&decide (bf∈v.2))&&decide (i<=v.1))=true then none else some (kL e aT bf vs e)):=by
  have hRl:(kL e aT bf vs e).length=e.length:=(aey (an1 h aT bf)).symm;intro m
  induction m with
  |zero=>
    intro i hi;have hno:(vs.any fun v=>(lD e aT v&&decide (bf∈v.2))&&decide (i<=v.1))=false:=by
      rw [List.any_eq_false];intro v hv;have:=(h.bd v hv).2.2;simp only [Bool.and_eq_true,decide_eq_true_eq,not_and];intro _;omega
    rw [hno,List.range'_zero];simp only [Au];rw [List.take_of_length_le (by omega),List.drop_of_length_le (by omega),List.append_nil];exact Ev.some
  |succ m ih=>
    intro i hi;have hlt:i<e.length:=by omega
    obtain⟨q,hq⟩:=h.all i hlt;obtain⟨hb,hql,_⟩:=h.bd _ hq;have hn:=hF.ok i _ (bM hlt);have hget:=abe h hq aT bf;rw [agR h hq fun v=>lD e aT v&&decide (bf∈v.2),List.range'_succ];simp only [Au,bM hlt,Option.bind_some];have hh:lD e aT (i,q)=(Ao e[i]&&decide (e[i].text=aT)&& !decide (aT∈q)):=by unfold lD;rw [bM hlt]
    have hRi:(kL e aT bf vs e)[i]? =some ((kL e aT bf vs e)[i]'(by omega)):=bM (by omega);have hdr:e.drop i=e[i]::e.drop (i+1):=List.drop_eq_getElem_cons hlt;have htk:(kL e aT bf vs e).take (i+1)=(kL e aT bf vs e).take i++[(kL e aT bf vs e)[i]'(by omega)]:=List.take_succ_eq_append_getElem (by omega);have skip:lD e aT (i,q)=false->Ev (fun k=>Au k e aT bf (List.range' (i+1) m) ((kL e aT bf vs e).take i++e.drop i)) (if((lD e aT (i,q)&&decide (bf∈q))||vs.any fun v=>(lD e aT v&&decide (bf∈v.2))&&decide (i+1<=v.1))=true then none else some (kL e aT bf vs e)):=by
      intro hf;have:=ih (i+1) (by omega);rw [hf,if_neg (by simp),hRi,bM hlt]at hget;rw [htk,Option.some.inj hget,List.append_assoc,List.singleton_append,<-hdr]at this;rw [hf];rw [Bool.false_and,Bool.false_or];exact this
    refine Ev.bind (acE hn (hL.nd i _ (bM hlt)).1) ?_;cases hnm:Ao e[i]with
    |false=>exact Ev.cT (by simp) (skip (by rw [hh,hnm];rfl))
    |true=>
      by_cases ht:e[i].text=aT
      · refine Ev.cF (by simp [ht]) (Ev.bind hb (Ev.bind (tu _ _ (by omega)) ?_));by_cases hfq:aT∈q
        · exact Ev.cT (decide_eq_true hfq) (skip (by rw [hh];simp [hfq]))
        · have hhit:lD e aT (i,q)=true:=by rw [hh,hnm];simp [ht,hfq]
          refine Ev.cF (decide_eq_false hfq) (Ev.bind (tu _ _ (by omega)) ?_);rw [hhit];by_cases htq:bf∈q
          · exact Ev.cT (decide_eq_true htq) (Ev.some' (by simp [htq]))
          · rw [hhit,if_pos rfl,hRi,bM hlt]at hget;have hg2:(kL e aT bf vs e)[i]'(by omega)=Vf bf e[i]:=Option.some.inj hget;refine Ev.cF (decide_eq_false htq) ?_;have hl:((kL e aT bf vs e).take i).length=i:=by rw [List.length_take];omega
            have ha:((kL e aT bf vs e).take i++e.drop i)[i]? =some e[i]:=by
              rw [List.getElem?_append_right (by omega),hl,Nat.sub_self,hdr];rfl
            have hs:((kL e aT bf vs e).take i++e.drop i).set i {e[i]with text:=bf}=(kL e aT bf vs e).take (i+1)++e.drop (i+1):=by
              rw [List.set_append_right _ _ (by omega),hl,Nat.sub_self,hdr,List.set_cons_zero,htk,hg2,List.append_assoc];rfl
            simp only [ha,Option.bind_some,hs];rw [decide_eq_false htq,Bool.and_false,Bool.false_or];exact ih (i+1) (by omega)
      · exact Ev.cT (by simp [ht]) (skip (by rw [hh];simp [ht]))
theorem aap (hL:jd e) (hF:K3 e) (aT bf:Str):Ev (fun k=>Bo k e aT bf) (if(vs.any fun v=>lD e aT v&&decide (bf∈v.2))=true then([],19)else(kL e aT bf vs e,0)):=by
  unfold Bo;refine Ev.kg (OD hL h.pos) ?_;have key:=ajH h hL hF aT bf e.length 0 (by omega);simp only [List.take_zero,List.drop_zero,List.nil_append,Nat.zero_le,decide_true,Bool.and_true]at key;refine Ev.bind key ?_;cases(vs.any fun v=>lD e aT v&&decide (bf∈v.2))
  · exact Ev.some
  · exact Ev.some
end
end Go.VL
end
section
namespace Go.VL
open Go.Proofs Go.RowKit
def apI:List Nat:=[0,0,0,0,0,0,48,112,240,496,0,0,3072,7168,15360,32752,65523,131059,262131,524287,1048575,2097151]
end Go.VL
end
