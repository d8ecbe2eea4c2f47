/- Part 6. -/
import Derived.Test.YthebklihgmhgoaaGreatDoorKi5
import Derived.KernelRfl
import Derived.Lib.ItoaNum
set_option maxRecDepth 8000
set_option linter.unusedVariables false
set_option linter.unusedSectionVars false
set_option linter.unusedSimpArgs false
section
namespace Go.VL
namespace Tm
mutual
def bgT (b:Nat):Tm->List Int
  | .mk _ cs=>r9 b cs++[(b:Int)]
def r9 (b:Nat):List Tm->List Int
  |[]=>[]
  |c::cs=>bgT b c++r9 (b+c.size) cs
end
theorem abQ {b:Nat} {x:Nd} {cs:List Tm}:bgT b (.mk x cs)=r9 b cs++[(b:Int)]:=by rw [bgT]
mutual
theorem aeu (b:Nat): ∀t:Tm,(bgT b t).length=t.size
  | .mk x cs=>by rw [abQ];unfold size;rw [List.length_append,wS b cs];rfl
theorem wS (b:Nat): ∀cs:List Tm,(r9 b cs).length=sizes cs
  |[]=>rfl
  |c::cs=>by unfold r9 sizes;rw [List.length_append,aeu b c,wS (b+c.size) cs]
end
theorem yT: ∀(b:Nat) (l m:List Tm),r9 b (l++m)=r9 b l++r9 (b+sizes l) m
  |b,[],m=>by simp [r9,sizes]
  |b,c::l,m=>by simp only [List.cons_append,r9,sizes,yT (b+c.size) l m,List.append_assoc,Nat.add_assoc]
theorem ajX {b:Nat} {t:Tm}:(bgT b t)[t.size -1]? =some (b:Int):=by
  cases t with
  |mk x cs=>
    rw [abQ];have:(mk x cs).size -1=sizes cs:=by unfold size;omega
    rw [this,List.getElem?_append_right (by rw [wS];exact Nat.le_refl _),wS,Nat.sub_self];rfl
theorem IQ (t:Tm):sizes [t]=t.size:=by simp [sizes]
theorem ahR (b:Nat) (t:Tm):dS b [t]=flat b t:=by simp [dS]
theorem ajY (b:Nat) (t:Tm):r9 b [t]=bgT b t:=by simp [r9]
theorem ahS (b:Nat) (t:Tm):roots b [t]=[((b+t.size -1:Nat):Int)]:=by simp [roots]
theorem XI {b:Nat} {l m:List Tm} {t:Tm}:(r9 b (l++t::m))[sizes l+t.size -1]? =some ((b+sizes l:Nat):Int):=by
  have hp:=t.size_pos;rw [yT,List.getElem?_append_right (by rw [wS];omega),wS];unfold r9;rw [List.getElem?_append_left (by rw [aeu];omega),show sizes l+t.size -1 -sizes l=t.size -1 by omega,ajX]
theorem abR {ts:List Tm} {acc:List Int} (ha:acc=r9 0 ts): ∀(l:List Int) (t1 rest:List Tm),ts=t1++rest->tF acc ((sizes t1:Nat):Int) l=true-> ∃front mid,t1=front++mid/\l.reverse=roots (sizes front) mid
  |[],t1,rest,_,_=>⟨t1,[],by simp,by simp [roots]⟩
  |a::l,t1,rest,hts,hp=>by
    rw [tF,Bool.and_eq_true,Bool.and_eq_true,decide_eq_true_eq,decide_eq_true_eq]at hp;obtain⟨⟨h1,h2⟩,h3⟩:=hp;rcases List.eq_nil_or_concat t1 with rfl|⟨t2,t,rfl⟩
    · simp [sizes]at h2
    rw [List.concat_eq_append]at*;have hpos:=t.size_pos;have hsz:sizes (t2++[t])=sizes t2+t.size:=by rw [kU,IQ]
    have hget:acc[(((sizes (t2++[t]):Nat):Int) -1).toNat]? =some ((sizes t2:Nat):Int):=by
      rw [ha,hts,List.append_assoc,hsz,show((((sizes t2+t.size:Nat):Int) -1).toNat)=sizes t2+t.size -1 by omega];have:=XI (b:=0) (l:=t2) (m:=rest) (t:=t);rw [Nat.zero_add]at this;exact this
    rw [hget,Option.getD_some]at h3;obtain⟨front,mid,e1,e2⟩:=abR ha l t2 ([t]++rest) (by rw [hts,List.append_assoc]) h3;refine⟨front,mid++[t],by rw [e1,List.append_assoc],?_⟩;rw [List.reverse_cons,e2,GX,ahS];congr 2
    rw [h1,hsz,e1,kU];omega
def bare (n:Nd):Nd:={n with args:=[]}
theorem anD {n:Nd} {b:Nat} {cs:List Tm} (h:n.args=roots b cs):nd (bare n) b cs=n:=by
  unfold nd bare;cases n;simp only at h⊢;rw [h]
theorem row_step {ts:List Tm} {acc:List Int} {n:Nd} (ha:acc=r9 0 ts) (hp:tF acc (acc.length:Int) n.args.reverse=true):
    ∃front last,ts=front++last/\n.args=roots (sizes front) last/\dS 0 (front++[.mk (bare n) last])=dS 0 ts++[n]/\r9 0 (front++[.mk (bare n) last])=acc++[zF acc n]:=by
  have hl:acc.length=sizes ts:=by rw [ha,wS]
  rw [hl]at hp;obtain⟨front,last,e1,e2⟩:=abR ha n.args.reverse ts [] (by simp) hp;rw [List.reverse_reverse]at e2;refine⟨front,last,e1,e2,?_,?_⟩
  · rw [BX,ahR,qX,anD (by rw [Nat.zero_add];exact e2),e1,BX,List.append_assoc]
  · rw [yT,ajY,abQ,ha,e1,yT,List.append_assoc];congr 3
    rw [Nat.zero_add];unfold zF;rw [e2];cases last with
    |nil=>simp [roots,r9,wS]
    |cons c cs=>
      simp only [roots];have h1:=XI (b:=0) (l:=front) (m:=cs) (t:=c);rw [Nat.zero_add,yT,Nat.zero_add]at h1;rw [Int.toNat_natCast,h1,Option.getD_some]
mutual
def BZ (b:Nat) (p k:Int):Tm->List (Int×Int)
  | .mk _ cs=>jd b ((b+sizes cs:Nat):Int) 0 cs++[(p,k)]
def jd (b:Nat) (p:Int) (k:Nat):List Tm->List (Int×Int)
  |[]=>[]
  |c::cs=>BZ b p k c++jd (b+c.size) p (k+1) cs
end
def bO (b:Nat):List Tm->List (Int×Int)
  |[]=>[]
  |c::cs=>BZ b (-1) 0 c++bO (b+c.size) cs
theorem Di {b:Nat} {p k:Int} {x:Nd} {cs:List Tm}:BZ b p k (.mk x cs)=jd b ((b+sizes cs:Nat):Int) 0 cs++[(p,k)]:=by rw [BZ]
mutual
theorem jy (b:Nat) (p k:Int): ∀t:Tm,(BZ b p k t).length=t.size
  | .mk x cs=>by rw [Di];unfold size;rw [List.length_append,lS];rfl
theorem lS (b:Nat) (p:Int) (k:Nat): ∀cs:List Tm,(jd b p k cs).length=sizes cs
  |[]=>rfl
  |c::cs=>by unfold jd sizes;rw [List.length_append,jy b p k c,lS (b+c.size) p (k+1) cs]
end
theorem wT: ∀(b:Nat) (cs:List Tm),(bO b cs).length=sizes cs
  |_,[]=>rfl
  |b,c::cs=>by unfold bO sizes;rw [List.length_append,jy,wT (b+c.size) cs]
theorem GY: ∀(b:Nat) (l m:List Tm),bO b (l++m)=bO b l++bO (b+sizes l) m
  |b,[],m=>by simp [bO,sizes]
  |b,c::l,m=>by simp only [List.cons_append,bO,sizes,GY (b+c.size) l m,List.append_assoc,Nat.add_assoc]
theorem ahT (b:Nat) (t:Tm):bO b [t]=BZ b (-1) 0 t:=by simp [bO]
theorem YH: ∀(b:Nat) (p:Int) (k:Nat) (cs:List Tm) (j:Nat) (a:Int),(roots b cs)[j]? =some a-> ∃r:Nat,a=((b+r:Nat):Int)/\r<sizes cs/\(jd b p k cs)[r]? =some (p,((k+j:Nat):Int))
  |b,p,k,[],j,a,h=>by simp [roots]at h
  |b,p,k,c::cs,j,a,h=>by
    have hpos:=c.size_pos;cases j with
    |zero=>
      simp only [roots,List.getElem?_cons_zero,Option.some.injEq]at h;refine⟨c.size -1,by rw [<-h];congr 1;omega,by simp only [sizes];omega,?_⟩;unfold jd;rw [List.getElem?_append_left (by rw [jy];omega)];cases c with
      |mk x ds=>
        rw [Di,show(mk x ds).size -1=sizes ds by unfold size;omega,List.getElem?_append_right (by rw [lS];exact Nat.le_refl _),lS,Nat.sub_self];rfl
    |succ j=>
      simp only [roots,List.getElem?_cons_succ]at h;obtain⟨r,h1,h2,h3⟩:=YH (b+c.size) p (k+1) cs j a h;refine⟨c.size+r,by rw [h1,Nat.add_assoc],by simp only [sizes];omega,?_⟩;unfold jd;rw [List.getElem?_append_right (by rw [jy];omega),jy,show c.size+r -c.size=r by omega,h3];congr 3
      omega
mutual
theorem aev: ∀(b:Nat) (p k:Int) (t:Tm) (q:Nat) (n:Nd) (j:Nat) (a:Int),(flat b t)[q]? =some n->n.args[j]? =some a-> ∃r:Nat,a=((b+r:Nat):Int)/\r<q/\(BZ b p k t)[r]? =some (((b+q:Nat):Int),(j:Int))
  |b,p,k,.mk x cs,q,n,j,a,h1,h2=>by
    rw [qX]at h1;rw [Di];by_cases hq:q<sizes cs
    · rw [List.getElem?_append_left (by rw [jv];exact hq)]at h1;obtain⟨r,h3,h4,h5⟩:=abS b ((b+sizes cs:Nat):Int) 0 cs q n j a h1 h2;exact⟨r,h3,h4,by rw [List.getElem?_append_left (by rw [lS];omega)];exact h5⟩
    · have hlt:=(List.getElem?_eq_some_iff.1 h1).1;rw [List.length_append,jv]at hlt;obtain rfl:q=sizes cs:=by simp at hlt;omega
      rw [List.getElem?_append_right (by rw [jv];exact Nat.le_refl _),jv,Nat.sub_self,List.getElem?_cons_zero,Option.some.injEq]at h1;subst h1;obtain⟨r,h3,h4,h5⟩:=YH b ((b+sizes cs:Nat):Int) 0 cs j a h2;refine⟨r,h3,h4,?_⟩;rw [List.getElem?_append_left (by rw [lS];exact h4),h5,Nat.zero_add]
theorem abS: ∀(b:Nat) (p:Int) (k:Nat) (cs:List Tm) (q:Nat) (n:Nd) (j:Nat) (a:Int),(dS b cs)[q]? =some n->n.args[j]? =some a-> ∃r:Nat,a=((b+r:Nat):Int)/\r<q/\(jd b p k cs)[r]? =some (((b+q:Nat):Int),(j:Int))
  |b,p,k,[],q,n,j,a,h1,h2=>by simp [dS]at h1
  |b,p,k,c::cs,q,n,j,a,h1,h2=>by
    rw [lC]at h1;unfold jd;by_cases hq:q<c.size
    · rw [List.getElem?_append_left (by rw [ig];exact hq)]at h1;obtain⟨r,h3,h4,h5⟩:=aev b p k c q n j a h1 h2;exact⟨r,h3,h4,by rw [List.getElem?_append_left (by rw [jy];omega)];exact h5⟩
    · rw [List.getElem?_append_right (by rw [ig];omega),ig]at h1;obtain⟨r,h3,h4,h5⟩:=abS (b+c.size) p (k+1) cs (q -c.size) n j a h1 h2;refine⟨c.size+r,by rw [h3,Nat.add_assoc],by omega,?_⟩;rw [List.getElem?_append_right (by rw [jy];omega),jy,show c.size+r -c.size=r by omega,h5];congr 3
      omega
end
theorem abT: ∀(b:Nat) (cs:List Tm) (q:Nat) (n:Nd) (j:Nat) (a:Int),(dS b cs)[q]? =some n->n.args[j]? =some a-> ∃r:Nat,a=((b+r:Nat):Int)/\r<q/\(bO b cs)[r]? =some (((b+q:Nat):Int),(j:Int))
  |b,[],q,n,j,a,h1,h2=>by simp [dS]at h1
  |b,c::cs,q,n,j,a,h1,h2=>by
    rw [lC]at h1;unfold bO;by_cases hq:q<c.size
    · rw [List.getElem?_append_left (by rw [ig];exact hq)]at h1;obtain⟨r,h3,h4,h5⟩:=aev b (-1) 0 c q n j a h1 h2;exact⟨r,h3,h4,by rw [List.getElem?_append_left (by rw [jy];omega)];exact h5⟩
    · rw [List.getElem?_append_right (by rw [ig];omega),ig]at h1;obtain⟨r,h3,h4,h5⟩:=abT (b+c.size) cs (q -c.size) n j a h1 h2;refine⟨c.size+r,by rw [h3,Nat.add_assoc],by omega,?_⟩;rw [List.getElem?_append_right (by rw [jy];omega),jy,show c.size+r -c.size=r by omega,h5];congr 3
      omega
def Says (b:Nat) (l:List Nd) (r:Nat) (P j:Int):Prop:= ∃(q j':Nat) (n:Nd),P=((b+q:Nat):Int)/\j=(j':Int)/\r<q/\l[q]? =some n/\n.args[j']? =some ((b+r:Nat):Int)
theorem Oc {b:Nat} {l m:List Nd} {r:Nat} {P j:Int} (h:Says b l r P j):Says b (l++m) r P j:=by
  obtain⟨q,j',n,h1,h2,h3,h4,h5⟩:=h;exact⟨q,j',n,h1,h2,h3,by rw [List.getElem?_append_left (List.getElem?_eq_some_iff.1 h4).1];exact h4,h5⟩
theorem TT {b:Nat} {l m:List Nd} {r:Nat} {P j:Int} (h:Says (b+l.length) m r P j):Says b (l++m) (l.length+r) P j:=by
  obtain⟨q,j',n,h1,h2,h3,h4,h5⟩:=h;exact⟨l.length+q,j',n,by rw [h1,Nat.add_assoc],h2,by omega,by rw [List.getElem?_append_right (by omega),show l.length+q -l.length=q by omega];exact h4,by rw [h5,Nat.add_assoc]⟩
theorem af3: ∀(b:Nat) (cs:List Tm) (k:Nat) (c:Tm) (l m:List Tm),cs=l++c::m->(roots b cs)[l.length]? =some ((b+(sizes l+c.size -1):Nat):Int):=by
  intro b cs k c l m h;have hp:=c.size_pos;rw [h,Ob];congr 2
  omega
mutual
theorem YI: ∀(b:Nat) (p k:Int) (t:Tm) (r:Nat) (P j:Int),(BZ b p k t)[r]? =some (P,j)->(r=t.size -1/\P=p/\j=k)\/Says b (flat b t) r P j
  |b,p,k,.mk x cs,r,P,j,h=>by
    rw [Di]at h;by_cases hr:r<sizes cs
    · rw [List.getElem?_append_left (by rw [lS];exact hr)]at h;rw [qX];rcases TU b ((b+sizes cs:Nat):Int) 0 cs r P j h with⟨l,c,m,e1,e2,e3,e4⟩|hs
      · right;refine⟨sizes cs,l.length,nd x b cs,e3,by rw [e4,Nat.zero_add],hr,?_,?_⟩
        · rw [List.getElem?_append_right (by rw [jv];exact Nat.le_refl _),jv,Nat.sub_self];rfl
        · show(roots b cs)[l.length]? =_
          rw [af3 b cs 0 c l m e1,e2]
      · exact .inr (Oc hs)
    · have hlt:=(List.getElem?_eq_some_iff.1 h).1;rw [List.length_append,lS]at hlt;obtain rfl:r=sizes cs:=by simp at hlt;omega
      rw [List.getElem?_append_right (by rw [lS];exact Nat.le_refl _),lS,Nat.sub_self,List.getElem?_cons_zero]at h;cases h;left;exact⟨by unfold size;omega,rfl,rfl⟩
theorem TU: ∀(b:Nat) (p:Int) (k:Nat) (cs:List Tm) (r:Nat) (P j:Int),(jd b p k cs)[r]? =some (P,j)->
    (∃l c m,cs=l++c::m/\r=sizes l+c.size -1/\P=p/\j=((k+l.length:Nat):Int))\/Says b (dS b cs) r P j
  |b,p,k,[],r,P,j,h=>by simp [jd]at h
  |b,p,k,c::cs,r,P,j,h=>by
    unfold jd at h;rw [lC];by_cases hr:r<c.size
    · rw [List.getElem?_append_left (by rw [jy];exact hr)]at h;rcases YI b p k c r P j h with⟨e1,e2,e3⟩|hs
      · exact .inl ⟨[],c,cs,rfl,by simp [sizes,e1],e2,by simp [e3]⟩
      · exact .inr (Oc hs)
    · rw [List.getElem?_append_right (by rw [jy];omega),jy]at h;rcases TU (b+c.size) p (k+1) cs (r -c.size) P j h with⟨l,d,m,e1,e2,e3,e4⟩|hs
      · refine .inl ⟨c::l,d,m,by rw [e1];rfl,?_,e3,by rw [e4,List.length_cons];omega⟩;have:=d.size_pos;simp only [sizes];omega
      · right;have h2:Says (b+(flat b c).length) (dS (b+c.size) cs) (r -c.size) P j:=by rw [ig];exact hs
        have:=TT h2;rw [ig,show c.size+(r -c.size)=r by omega]at this;exact this
end
theorem Ll: ∀(b:Nat) (cs:List Tm) (r:Nat) (P j:Int),(bO b cs)[r]? =some (P,j)->(P= -1/\j=0)\/Says b (dS b cs) r P j
  |b,[],r,P,j,h=>by simp [bO]at h
  |b,c::cs,r,P,j,h=>by
    unfold bO at h;rw [lC];by_cases hr:r<c.size
    · rw [List.getElem?_append_left (by rw [jy];exact hr)]at h;rcases YI b (-1) 0 c r P j h with⟨e1,e2,e3⟩|hs
      · exact .inl ⟨e2,e3⟩
      · exact .inr (Oc hs)
    · rw [List.getElem?_append_right (by rw [jy];omega),jy]at h;rcases Ll (b+c.size) cs (r -c.size) P j h with hs|hs
      · exact .inl hs
      · right;have h2:Says (b+(flat b c).length) (dS (b+c.size) cs) (r -c.size) P j:=by rw [ig];exact hs
        have:=TT h2;rw [ig,show c.size+(r -c.size)=r by omega]at this;exact this
end Tm
end Go.VL
end
section
namespace Go.VL
open Tm
theorem aew: ∀(l:List Nd) (acc acc':List Int),ou acc l= .inl acc'-> ∀(i:Nat) n,l[i]? =some n->bW true n=0
  |[],_,_,_,i,n,hn=>by simp at hn
  |m::l,acc,acc',h,i,n,hn=>by
    rw [ou]at h;by_cases hc:bW (tF acc acc.length m.args.reverse) m=0
    · rw [if_neg (fun k=>k hc)]at h;cases i with
      |zero=>
        simp only [List.getElem?_cons_zero,Option.some.injEq]at hn;subst hn;rw [yL hc]at hc;exact hc
      |succ i=>exact aew l _ acc' h i n (by simpa using hn)
    · rw [if_pos hc]at h;cases h
def Kn (a:Int):List Int->Nat->Option Nat
  |[],_=>none
  |x::l,j=>if x=a then some j else Kn a l (j+1)
def JE (a:Int):List Nd->Nat->Option (Nat×Nat)
  |[],_=>none
  |n::l,k=>match Kn a n.args 0 with
    |some j=>some (k,j)
    |none=>JE a l (k+1)
theorem abU {a:Int}: ∀{l:List Int} {j j':Nat},Kn a l j=some j'-> ∃d,j'=j+d/\l[d]? =some a
  |[],j,j',h=>by simp [Kn]at h
  |x::l,j,j',h=>by
    rw [Kn]at h;by_cases hx:x=a
    · rw [if_pos hx]at h;cases h;exact⟨0,rfl,by simp [hx]⟩
    · rw [if_neg hx]at h;obtain⟨d,e1,e2⟩:=abU h;exact⟨d+1,by omega,by simpa using e2⟩
theorem abV {a:Int}: ∀{l:List Int} {j:Nat},Kn a l j=none-> ∀d:Nat,l[d]? ≠some a
  |[],j,h,d=>by simp
  |x::l,j,h,d=>by
    rw [Kn]at h;by_cases hx:x=a
    · rw [if_pos hx]at h;cases h
    · rw [if_neg hx]at h;cases d with
      |zero=>simpa using hx
      |succ d=>simpa using abV h d
theorem YJ {a:Int}: ∀{l:List Nd} {k k' j:Nat},JE a l k=some (k',j)-> ∃d n,k'=k+d/\l[d]? =some n/\n.args[j]? =some a
  |[],k,k',j,h=>by simp [JE]at h
  |n::l,k,k',j,h=>by
    rw [JE]at h;cases hf:Kn a n.args 0 with
    |some j'=>
      rw [hf]at h;cases h;obtain⟨d,e1,e2⟩:=abU hf;exact⟨0,n,rfl,rfl,by rw [e1,Nat.zero_add];exact e2⟩
    |none=>
      rw [hf]at h;obtain⟨d,m,e1,e2,e3⟩:=YJ h;exact⟨d+1,m,by omega,by simpa using e2,e3⟩
theorem YK {a:Int}: ∀{l:List Nd} {k:Nat},JE a l k=none-> ∀(d:Nat) n (j:Nat),l[d]? =some n->n.args[j]? ≠some a
  |[],k,h,d,n,j,hn=>by simp at hn
  |m::l,k,h,d,n,j,hn=>by
    rw [JE]at h;cases hf:Kn a m.args 0 with
    |some j'=>rw [hf]at h;cases h
    |none=>
      rw [hf]at h;cases d with
      |zero=>simp only [List.getElem?_cons_zero,Option.some.injEq]at hn;subst hn;exact abV hf j
      |succ d=>exact YK h d n j (by simpa using hn)
theorem XJ {e:List Nd} {k:Nat} {n:Nd} (hn:e[k]? =some n) (hl:n.args.length<=1000000) (a:Int): ∀j,j<=n.args.length->Ev (fun f=>pV f e a (k:Int) (j:Int)) (match Kn a (n.args.drop j) j with|some j'=> .inr ((k:Int),(j':Int))|none=> .inl ()):=by
  refine down ?_ fun j hj ih=> ?_
  · refine Ev.succ ?_;simp only [pV,Int.toNat_natCast,hn,Option.bind_some,nn,if_true];exact Ev.cF (jU _) (Ev.some' (by simp [Kn]))
  · refine Ev.succ ?_;simp only [pV,Int.toNat_natCast,hn,bE hj,Option.bind_some,nn,if_true,mh hj,cond_true,eT hj (show n.args.length<=1099511627776 by omega)];rw [drop_cons hj,Kn];by_cases h:n.args[j]=a
    · refine Ev.cT (by rw [beq_iff_eq];exact h) (Ev.some' ?_);rw [if_pos h]
    · refine Ev.cF (by rw [beq_eq_false_iff_ne];exact h) ?_;rw [if_neg h];exact ih
theorem XK {e:List Nd} (hL:Bq e) (a:Int): ∀k,k<=e.length->Ev (fun f=>pW f e a (k:Int)) (match JE a (e.drop k) k with|some (k',j)=> .inr ((k':Int),(j:Int))|none=> .inl ()):=by
  have hlen:=hL.len;refine down ?_ fun k hk ih=> ?_
  · refine Ev.succ ?_;simp only [pW];exact Ev.cF (jU _) (Ev.some' (by simp [JE]))
  · refine Ev.succ ?_;simp only [pW];rw [eT hk (by omega)];have h0:=XJ (bE hk) (hL.nd k _ (bE hk)).2.2 a 0 (Nat.zero_le _);rw [List.drop_zero]at h0;refine Ev.cT (mh hk) (Ev.bind h0 ?_);rw [drop_cons hk,JE];cases Kn a e[k].args 0 with
    |some j=>simp only [dn];exact Ev.some
    |none=>simp only [bZ];exact ih
theorem Qz {ts:List Tm} {e:List Nd} (he:e=dS 0 ts) (hL:Bq e) {i:Nat} {P j:Int} (hi:i<e.length) (hp:(bO 0 ts)[i]? =some (P,j)):Ev (fun k=>CV k e (i:Int)) (P,j):=by
  have hlen:=hL.len;unfold CV;rw [eT hi (by omega)];refine Ev.bind (XK hL (i:Int) (i+1) (by omega)) ?_;cases hf:JE (i:Int) (e.drop (i+1)) (i+1)with
  |some q=>
    obtain⟨k',j'⟩:=q;obtain⟨d,n,e1,e2,e3⟩:=YJ hf;rw [List.getElem?_drop]at e2;rw [he]at e2;obtain⟨r,h1,h2,h3⟩:=abT 0 ts (i+1+d) n j' (i:Int) e2 e3;obtain rfl:r=i:=by omega
    rw [hp]at h3;cases h3;simp only [dn];exact Ev.some' (by rw [e1,Nat.zero_add])
  |none=>
    simp only [bZ];rcases Ll 0 ts i P j hp with⟨rfl,rfl⟩|⟨q,j',n,h1,h2,h3,h4,h5⟩
    · exact Ev.some
    · exfalso;rw [<-he]at h4;have:=YK hf (q -(i+1)) n j' (by rw [List.getElem?_drop,show i+1+(q -(i+1))=q by omega];exact h4);rw [Nat.zero_add]at h5;exact this h5
theorem ahU {b:Nat} {p k p' k':Int} (t:Tm):(BZ b p k t).set (t.size -1) (p',k')=BZ b p' k' t:=by
  cases t with
  |mk x cs=>
    rw [Di,Di,show(mk x cs).size -1=sizes cs by unfold size;omega,List.set_append_right _ _ (by rw [lS];exact Nat.le_refl _),lS,Nat.sub_self];rfl
theorem TV {i:Nat} {args:List Int} (hl:args.length<=1000000) (A B:List (Int×Int)) (last:List Tm) (ha:args=roots A.length last):
    ∀(rest:List Tm) (done:List Tm),last=done++rest->Ev (fun k=>nW k ((A++jd A.length (i:Int) 0 done++bO (A.length+sizes done) rest++B).map Prod.fst) ((A++jd A.length (i:Int) 0 done++bO (A.length+sizes done) rest++B).map Prod.snd) (i:Int) args (args.length:Int) (done.length:Int))
      ((A++jd A.length (i:Int) 0 last++B).map Prod.fst,(A++jd A.length (i:Int) 0 last++B).map Prod.snd):=by
  intro rest
  induction rest with
  |nil=>
    intro done hd;rw [List.append_nil]at hd;subst hd;refine Ev.succ ?_;simp only [nW];have:args.length=last.length:=by rw [ha,qd]
    rw [this];exact Ev.cF (jU _) (Ev.some' (by simp [bO]))
  |cons c rest ih=>
    intro done hd;have hpos:=c.size_pos;have hal:args.length=last.length:=by rw [ha,qd]
    have hdl:done.length<args.length:=by rw [hal,hd];simp
    have hget:args[done.length]? =some ((A.length+sizes done+c.size -1:Nat):Int):=by rw [ha,hd];exact Ob
    refine Ev.succ ?_;simp only [nW,Int.toNat_natCast,hget,Option.bind_some,nn,if_true,eT hdl (show args.length<=1099511627776 by omega)];refine Ev.cT (mh hdl) ?_;have hL:(A++jd A.length (i:Int) 0 done).length=A.length+sizes done:=by rw [List.length_append,lS]
    have hset:(A++jd A.length (i:Int) 0 done++bO (A.length+sizes done) (c::rest)++B).set (A.length+sizes done+c.size -1) ((i:Int),(done.length:Int))=A++jd A.length (i:Int) 0 (done++[c])++bO (A.length+sizes (done++[c])) rest++B:=by
      have e1:jd A.length (i:Int) 0 (done++[c])=jd A.length (i:Int) 0 done++BZ (A.length+sizes done) (i:Int) (done.length:Int) c:=by
        have gen: ∀(d:List Tm) (b k:Nat),jd b (i:Int) k (d++[c])=jd b (i:Int) k d++BZ (b+sizes d) (i:Int) ((k+d.length:Nat):Int) c:=by
          intro d
          induction d with
          |nil=>intro b k;simp [jd,sizes]
          |cons x d ih=>
            intro b k;simp only [List.cons_append,jd,ih,List.append_assoc,sizes,Nat.add_assoc,List.length_cons];congr 4
            omega
        rw [gen,Nat.zero_add]
      rw [e1,kU,IQ];show(A++jd A.length (i:Int) 0 done++(BZ (A.length+sizes done) (-1) 0 c++bO (A.length+sizes done+c.size) rest)++B).set _ _=_
      rw [List.append_assoc,List.set_append_right _ _ (by rw [hL];omega),hL,show A.length+sizes done+c.size -1 -(A.length+sizes done)=c.size -1 by omega];rw [List.append_assoc (BZ (A.length+sizes done) (-1) 0 c),List.set_append_left _ _ (by rw [jy];omega),ahU];simp only [List.append_assoc,Nat.add_assoc]
    have hin:A.length+sizes done+c.size -1<(A++jd A.length (i:Int) 0 done++bO (A.length+sizes done) (c::rest)++B).length:=by
      rw [List.length_append,List.length_append,hL,wT];simp only [sizes];omega
    rw [List.getElem?_map,List.getElem?_map,bE hin];simp only [Option.map_some,Option.bind_some];have:=ih (done++[c]) (by rw [hd,List.append_assoc];rfl);rw [<-hset,List.map_set,List.map_set]at this;rw [List.length_append]at this;exact this
theorem TW {e:List Nd} (hL:Bq e): ∀(l:List Nd) (acc:List Int) (ts:List Tm) (acc':List Int) (i:Nat),acc=r9 0 ts->sizes ts=i->l=e.drop i->i<=e.length->ou acc l= .inl acc'->
    ∃ts',dS 0 ts'=dS 0 ts++l/\acc'=r9 0 ts'/\Ev (fun k=>nX k ((bO 0 ts++List.replicate (e.length -i) ((-1:Int),(0:Int))).map Prod.fst) ((bO 0 ts++List.replicate (e.length -i) ((-1:Int),(0:Int))).map Prod.snd) e (e.length:Int) (i:Int)) ((bO 0 ts').map Prod.fst,(bO 0 ts').map Prod.snd):=by
  have hlen:=hL.len;intro l
  induction l with
  |nil=>
    intro acc ts acc' i ha hs hl hi h;have:e.length<=i:=by
      have:=congrArg List.length hl;rw [List.length_drop,List.length_nil]at this;omega
    obtain rfl:i=e.length:=by omega
    refine⟨ts,by simp,by rw [ou]at h;cases h;exact ha,Ev.succ ?_⟩;simp only [nX];exact Ev.cF (jU _) (Ev.some' (by simp))
  |cons n l ih=>
    intro acc ts acc' i ha hs hl hi h;have hlt:i<e.length:=by
      have:=congrArg List.length hl;rw [List.length_drop,List.length_cons]at this;omega
    rw [drop_cons hlt]at hl;obtain⟨rfl,rfl⟩:=List.cons.inj hl;rw [ou]at h;have hc:bW (tF acc acc.length e[i].args.reverse) e[i]=0:=by
      by_cases hc:bW (tF acc acc.length e[i].args.reverse) e[i]=0
      · exact hc
      · rw [if_pos hc]at h;cases h
    rw [if_neg (fun k=>k hc)]at h;obtain⟨front,last,e1,e2,e3,e4⟩:=row_step ha (yL hc);have hsz:sizes (front++[.mk (bare e[i]) last])=i+1:=by
      rw [kU,IQ];unfold size;rw [<-hs,e1,kU];omega
    obtain⟨ts',h1,hb,h2⟩:=ih _ _ acc' (i+1) e4.symm hsz rfl hlt h;refine⟨ts',by rw [h1,e3,List.append_assoc];rfl,hb,Ev.succ ?_⟩;simp only [nX,Int.toNat_natCast,bE hlt,Option.bind_some,nn,if_true];rw [eT hlt (by omega)];refine Ev.cT (mh hlt) ?_;have hrep:List.replicate (e.length -i) ((-1:Int),(0:Int))=((-1:Int),(0:Int))::List.replicate (e.length -(i+1)) ((-1:Int),(0:Int)):=by
      rw [show e.length -i=(e.length -(i+1))+1 by omega,List.replicate_succ]
    have hA:(bO 0 front).length=sizes front:=wT 0 front;have key:=TV (i:=i) (args:=e[i].args) (hL.nd i _ (bE hlt)).2.2 (bO 0 front) (List.replicate (e.length -i) ((-1:Int),(0:Int))) last (by rw [hA];exact e2) last [] rfl;have hstart:bO 0 front++jd (bO 0 front).length (i:Int) 0 []++bO ((bO 0 front).length+sizes []) last++List.replicate (e.length -i) ((-1:Int),(0:Int))=bO 0 ts++List.replicate (e.length -i) ((-1:Int),(0:Int)):=by
      rw [hA,e1,GY];simp [jd,sizes]
    rw [hstart]at key;refine Ev.bind key ?_;have hend:bO 0 front++jd (bO 0 front).length (i:Int) 0 last++List.replicate (e.length -i) ((-1:Int),(0:Int))=bO 0 (front++[.mk (bare e[i]) last])++List.replicate (e.length -(i+1)) ((-1:Int),(0:Int)):=by
      rw [hA,GY,ahT,Di,hrep];have:sizes front+sizes last=i:=by rw [<-kU,<-e1,hs]
      simp [this]
    rw [hend];exact h2
theorem abW {e:List Nd} (hL:Bq e) {acc':List Int} (h:ou [] e= .inl acc'): ∃ts,e=dS 0 ts/\acc'=r9 0 ts/\Ev (fun k=>Aa k e) ((bO 0 ts).map Prod.fst,(bO 0 ts).map Prod.snd):=by
  have hlen:=hL.len;obtain⟨ts',h1,hb,h2⟩:=TW hL e [] [] acc' 0 rfl rfl rfl (Nat.zero_le _) h;refine⟨ts',by rw [h1];rfl,hb,?_⟩;unfold Aa;refine Ev.aX ⟨rfl,by omega,by omega⟩ (Ev.aX ⟨by omega,by omega,by omega⟩ ?_);have e1:((bO 0 ([]:List Tm)++List.replicate (e.length -0) ((-1:Int),(0:Int))).map Prod.fst)=(J6 [(-1)] (e.length:Int):List Int):=by simp [bO,J6]
  have e2:((bO 0 ([]:List Tm)++List.replicate (e.length -0) ((-1:Int),(0:Int))).map Prod.snd)=List.replicate e.length (0:Int):=by simp [bO]
  rw [e1,e2]at h2;exact Ev.bind h2 Ev.some
theorem Od {ts:List Tm} {i:Nat} {P j:Int} (hp:(bO 0 ts)[i]? =some (P,j)):(P= -1/\j=0)\/ ∃q:Nat,P=(q:Int)/\i<q/\q<(dS 0 ts).length:=by
  rcases Ll 0 ts i P j hp with h|⟨q,j',n,h1,h2,h3,h4,h5⟩
  · exact .inl h
  · exact .inr ⟨q,by rw [h1,Nat.zero_add],h3,(List.getElem?_eq_some_iff.1 h4).1⟩
def Lm (e:List Nd) (U:List (Int×Int)):Nat->Nat->Bool
  |0,_=>false
  |m+1,i=>match U[i]? with
    |some (P,j)=>if P<0 then false else(decide ((e[P.toNat]?.map Nd.kind)=some 19)&&decide (j=2))||Lm e U m P.toNat
    |none=>false
section
variable {ts:List Tm} {e:List Nd}
theorem XL (he:e=dS 0 ts): ∀(m i:Nat),e.length<=i+m->i<e.length->Ev (fun k=>pY k e ((bO 0 ts).map Prod.fst) ((bO 0 ts).map Prod.snd) (i:Int)) (if Lm e (bO 0 ts) m i=true then .inr false else .inl ()):=by
  intro m
  induction m with
  |zero=>intro i h1 h2;omega
  |succ m ih=>
    intro i h1 h2;have hlt:i<(bO 0 ts).length:=by rw [wT,<-jv 0 ts,<-he];exact h2
    obtain⟨P,j,hU⟩: ∃P j,(bO 0 ts)[i]? =some (P,j):=⟨_,_,bE hlt⟩;refine Ev.succ ?_;have hf:((bO 0 ts).map Prod.fst)[i]? =some P:=by rw [List.getElem?_map,hU];rfl
    have hs:((bO 0 ts).map Prod.snd)[i]? =some j:=by rw [List.getElem?_map,hU];rfl
    simp only [pY,Int.toNat_natCast,hf,hs,Option.bind_some,nn,if_true];rw [Lm,hU];simp only;rcases Od hU with⟨rfl,rfl⟩|⟨q,rfl,hq,hq2⟩
    · exact Ev.cF (by rfl) Ev.some
    · have hqe:q<e.length:=by rw [he];exact hq2
      refine Ev.cT (by rw [bne_iff_ne];omega) (Ev.aX (by omega) ?_);simp only [Int.toNat_natCast,bE hqe,Option.bind_some,Option.map_some,Option.some.injEq,show ¬(q:Int)<0 by omega,if_false];have ihq:=ih q (by omega) hqe;by_cases h3:e[q].kind=19
      · refine Ev.cT (by rw [h3];rfl) ?_;by_cases h4:j=2
        · refine Ev.cT (by rw [h4];rfl) (Ev.some' ?_);simp [h3,h4]
        · refine Ev.cF (by rw [beq_eq_false_iff_ne];exact h4) (ihq.to ?_);simp [h4]
      · refine Ev.cF (by rw [beq_eq_false_iff_ne];exact h3) (ihq.to ?_);simp [h3]
theorem ajZ (he:e=dS 0 ts) (hL:Bq e): ∀(m i:Nat),e.length<=i+m->i<e.length-> ∀P j,(bO 0 ts)[i]? =some (P,j)-> ∀o:Bool,Ev (fun k=>q8 k e P j o) (o||Lm e (bO 0 ts) m i):=by
  intro m
  induction m with
  |zero=>intro i h1 h2;omega
  |succ m ih=>
    intro i h1 h2 P j hU o;refine Ev.succ ?_;rw [Lm,hU];simp only;rcases Od hU with⟨rfl,rfl⟩|⟨q,rfl,hq,hq2⟩
    · simp only [q8];exact Ev.cF (by rfl) (Ev.some' (by simp))
    · have hqe:q<e.length:=by rw [he];exact hq2
      have hlt:q<(bO 0 ts).length:=by rw [wT,<-jv 0 ts];exact hq2
      obtain⟨P',j',hU'⟩: ∃P j,(bO 0 ts)[q]? =some (P,j):=⟨_,_,bE hlt⟩;simp only [q8];refine Ev.cT (decide_eq_true (by omega)) (Ev.lV (x:=o||(decide (e[q].kind=19)&&decide (j=2))) ?_ (Ev.bind (Qz he hL hqe hU') ?_))
      · unfold E5;cases o
        · simp only [Int.toNat_natCast,bE hqe,Option.bind_some,cond_false,nn,if_true,Bool.false_or];by_cases h3:e[q].kind=19
          · rw [Ar (by rw [h3];rfl)];by_cases h4:j=2
            · simp [h3,h4]
            · simp [h4]
          · rw [uO (by rw [beq_eq_false_iff_ne];exact h3)];simp [h3]
        · rfl
      · refine(ih q (by omega) hqe P' j' hU' _).to ?_;simp only [Int.toNat_natCast,bE hqe,Option.map_some,Option.some.injEq,show ¬(q:Int)<0 by omega,if_false,Bool.or_assoc]
theorem abX (t:Str) (h:(bH bU t).2=true):gq t=false:=by
  have h1:((bU.map (·.text)).all fun t=> !gq t)=true:=by kernel_rfl
  by_cases hm:t∈bU.map (·.text)
  · simpa using List.all_eq_true.1 h1 t hm
  · rw [Oa hm]at h;cases h
theorem aj0 {n:Nd} (h:bW true n=0) (hk:n.kind=3):(bH bU n.text).2= !gq n.text:=by
  cases ho:(bH bU n.text).2
  · unfold bW at h
    split at h;·cases h
    split at h;·cases h
    split at h;·cases h
    split at h;·cases h
    split at h
    · rename_i h1;exact absurd h h1
    · rename_i h1;have h1:oq n=0:=by omega
      unfold oq at h1
      split at h1;·cases h1
      cases hr:gq n.text
      · simp [hk,ho,hr]at h1
      · rfl
  · rw [abX _ ho];rfl
def Pj (e:List Nd) (U:List (Int×Int)) (i:Nat):Bool:=match e[i]?,U[i]? with
  |some n,some (P,j)=>if n.kind=24 then(if P<0 then true else match e[P.toNat]? with
      |some m=>if m.kind=3 then(bH bU m.text).2 else true
      |none=>true)else if n.kind=20 then !Lm e U e.length i else false
  |_,_=>false
theorem adE (he:e=dS 0 ts) (hL:Bq e) {i:Nat} (hi:i<e.length):Ev (fun k=>GQ k e (i:Int) ((bO 0 ts).map Prod.fst) ((bO 0 ts).map Prod.snd)) (Pj e (bO 0 ts) i):=by
  have hlt:i<(bO 0 ts).length:=by rw [wT,<-jv 0 ts,<-he];exact hi
  obtain⟨P,j,hU⟩: ∃P j,(bO 0 ts)[i]? =some (P,j):=⟨_,_,bE hlt⟩;have hf:((bO 0 ts).map Prod.fst)[i]? =some P:=by rw [List.getElem?_map,hU];rfl
  unfold GQ Pj;simp only [Int.toNat_natCast,bE hi,hf,Option.bind_some,nn,if_true,hU];by_cases h1:e[i].kind=24
  · refine Ev.cT (by rw [h1];rfl) ?_;simp only [h1,if_true];rcases Od hU with⟨rfl,rfl⟩|⟨q,rfl,hq,hq2⟩
    · exact Ev.cT (by rfl) Ev.some
    · have hqe:q<e.length:=by rw [he];exact hq2
      refine Ev.cF (by rw [beq_eq_false_iff_ne];omega) (Ev.aX (by omega) ?_);simp only [Int.toNat_natCast,bE hqe,Option.bind_some,show ¬(q:Int)<0 by omega,if_false];by_cases h2:e[q].kind=3
      · refine Ev.cF (by rw [h2];rfl) (Ev.bind (rH _) (Ev.some' ?_));simp only [h2,if_true]
      · refine Ev.cT (by rw [bne_iff_ne];exact h2) (Ev.some' ?_);simp only [h2,if_false]
  · refine Ev.cF (by rw [beq_eq_false_iff_ne];exact h1) ?_;simp only [h1,if_false];by_cases h2:e[i].kind=20
    · refine Ev.cT (by rw [h2];rfl) (Ev.bind (XL he e.length i (by omega) hi) ?_);simp only [h2,if_true];cases Lm e (bO 0 ts) e.length i
      · simp only [Bool.false_eq_true,if_false,bZ];exact Ev.some
      · simp only [if_true,dn];exact Ev.some
    · refine Ev.cF (by rw [beq_eq_false_iff_ne];exact h2) (Ev.some' ?_);simp only [h2,if_false]
def IU (e:List Nd) (U:List (Int×Int)):Nat->Nat->Option Nat
  |0,_=>none
  |m+1,i=>if Pj e U i=true then some i else IU e U m (i+1)
theorem P8 (he:e=dS 0 ts) (hL:Bq e): ∀i,i<=e.length->Ev (fun k=>jZ k e ((bO 0 ts).map Prod.fst) ((bO 0 ts).map Prod.snd) (e.length:Int) (i:Int)) (match IU e (bO 0 ts) (e.length -i) i with|some j=> .inr ((j:Int),30)|none=> .inl ()):=by
  have hlen:=hL.len;refine down ?_ fun i hi ih=> ?_
  · refine Ev.succ ?_;simp only [jZ];exact Ev.cF (jU _) (Ev.some' (by simp [IU]))
  · refine Ev.succ ?_;simp only [jZ];rw [eT hi (by omega)];refine Ev.cT (mh hi) (Ev.bind (adE he hL hi) ?_);rw [show e.length -i=(e.length -(i+1))+1 by omega,IU];cases Pj e (bO 0 ts) i
    · simp only [cond_false,Bool.false_eq_true,if_false];exact ih
    · exact Ev.some
theorem Zx (he:e=dS 0 ts) (hL:Bq e) (hok: ∀(i:Nat) n,e[i]? =some n->bW true n=0): ∀i,i<=e.length->Ev (fun k=>nA k e (i:Int)) (match IU e (bO 0 ts) (e.length -i) i with|some j=> .inr ((j:Int),30)|none=> .inl ()):=by
  have hlen:=hL.len;refine down ?_ fun i hi ih=> ?_
  · refine Ev.succ ?_;simp only [nA];exact Ev.cF (jU _) (Ev.some' (by simp [IU]))
  · refine Ev.succ ?_;have hlt:i<(bO 0 ts).length:=by rw [wT,<-jv 0 ts,<-he];exact hi
    obtain⟨P,j,hU⟩: ∃P j,(bO 0 ts)[i]? =some (P,j):=⟨_,_,bE hlt⟩;simp only [nA,Int.toNat_natCast,bE hi,Option.bind_some,nn,if_true];rw [eT hi (by omega)];refine Ev.cT (mh hi) (Ev.bind (Qz he hL hi hU) ?_);have axY:Ev (fun k=>Bf k e P (decide (P>=0))) (match e[P.toNat]? with|some m=>decide (0<=P)&&decide (m.kind=3)&&gq m.text|none=>false):=by
      unfold Bf;rcases Od hU with⟨rfl,rfl⟩|⟨q,rfl,hq,hq2⟩
      · refine Ev.cF (by rfl) (Ev.some' ?_);cases e[(-1:Int).toNat]? <;>rfl
      · have hqe:q<e.length:=by rw [he];exact hq2
        refine Ev.cT (decide_eq_true (by omega)) (Ev.aX (by omega) ?_);simp only [Int.toNat_natCast,bE hqe,Option.bind_some,nn,decide_true,Bool.true_and];by_cases h2:e[q].kind=3
        · refine Ev.cT (by rw [h2];rfl) (Ev.bind (Jw _ (by have:=(hL.nd q _ (bE hqe)).1;omega)) (Ev.some' ?_));simp only [h2,decide_true,Bool.true_and]
        · refine Ev.cF (by rw [beq_eq_false_iff_ne];exact h2) (Ev.some' ?_);simp only [h2,decide_false,Bool.false_and]
    refine Ev.bind axY ?_;have hold:=ajZ he hL e.length i (by omega) hi P j hU false;rw [Bool.false_or]at hold;rw [show e.length -i=(e.length -(i+1))+1 by omega,IU];have hl:Pj e (bO 0 ts) i=if e[i].kind=24 then !(match e[P.toNat]? with|some m=>decide (0<=P)&&decide (m.kind=3)&&gq m.text|none=>false)else if e[i].kind=20 then !Lm e (bO 0 ts) e.length i else false:=by
      unfold Pj;simp only [bE hi,hU];rcases Od hU with⟨rfl,rfl⟩|⟨q,rfl,hq,hq2⟩
      · simp only [show(-1:Int)<0 by omega,if_true,show ¬(0:Int)<= -1 by omega,decide_false,Bool.false_and];cases e[(-1:Int).toNat]? <;>rfl
      · have hqe:q<e.length:=by rw [he];exact hq2
        simp only [Int.toNat_natCast,bE hqe,show ¬(q:Int)<0 by omega,if_false,nn,decide_true,Bool.true_and];by_cases h2:e[q].kind=3
        · simp only [h2,if_true,decide_true,Bool.true_and,aj0 (hok q _ (bE hqe)) h2]
        · simp only [h2,if_false,decide_false,Bool.false_and,Bool.not_false]
    rw [hl];generalize(match e[P.toNat]? with|some m=>decide (0<=P)&&decide (m.kind=3)&&gq m.text|none=>false)=lam
    refine Ev.lV (x:=decide (e[i].kind=24)&& !lam) (by
      unfold EZ;by_cases h1:e[i].kind=24
      · rw [Ar (by rw [h1];rfl)];simp [h1]
      · rw [uO (by rw [beq_eq_false_iff_ne];exact h1)];simp [h1]) ?_
    by_cases h1:e[i].kind=24
    · simp only [h1,decide_true,Bool.true_and,if_true];cases lam
      · exact Ev.some
      · refine Ev.cF rfl (Ev.bind hold ?_);exact Ev.cF (by rfl) ih
    · simp only [h1,decide_false,Bool.false_and,cond_false,if_false];refine Ev.bind hold ?_;by_cases h2:e[i].kind=20
      · refine Ev.cT (by rw [h2];rfl) ?_;simp only [h2,if_true];cases Lm e (bO 0 ts) e.length i
        · exact Ev.some
        · exact ih
      · refine Ev.cF (by rw [beq_eq_false_iff_ne];exact h2) (ih.to ?_);simp only [h2,if_false,Bool.false_eq_true]
end
structure Valid (e:List Nd):Prop where
  tree: ∃t,e=flat 0 t
  len:e.length<=160
  ok: ∀(i:Nat) n,e[i]? =some n->bW true n=0
theorem abY: ∀(l:List Nd) (acc:List Int) (p:Int×Int),ou acc l= .inr p->p.2≠0
  |[],acc,p,h=>by rw [ou]at h;cases h
  |n::l,acc,p,h=>by
    rw [ou]at h;by_cases hc:bW (tF acc acc.length n.args.reverse) n=0
    · rw [if_neg (fun k=>k hc)]at h;exact abY l _ p h
    · rw [if_pos hc]at h;cases h;exact hc
theorem Lp (e:List Nd) (hL:Bq e): ∃r,Ev (fun k=>nI k e) r/\Ev (fun k=>zY k e) r/\(r.2=0->Valid e):=by
  have hlen:=hL.len;by_cases h0:e.length=0
  · refine⟨(0,1),?_,?_,fun h=>by cases h⟩
    · unfold nI;simp only [Bn,Option.bind_some,h0];refine Ev.bind (Kl _ (by simp)) ?_;exact Ev.cT (by rfl) Ev.some
    · unfold zY;simp only [h0];exact Ev.cT (by rfl) Ev.some
  by_cases h1:160<e.length
  · refine⟨(0,2),?_,?_,fun h=>by cases h⟩
    · unfold nI;have a:((e.length:Int)==0)=false:=by rw [beq_eq_false_iff_ne];omega
      have b:decide ((e.length:Int)>160)=true:=decide_eq_true (by omega);simp only [Bn,Option.bind_some,a,b];refine Ev.bind (Kl _ (by simp)) ?_;exact Ev.cT (by rfl) Ev.some
    · unfold zY;refine Ev.cF (by rw [beq_eq_false_iff_ne];omega) ?_;exact Ev.cT (decide_eq_true (by omega)) Ev.some
  have a:((e.length:Int)==0)=false:=by rw [beq_eq_false_iff_ne];omega
  have b:decide ((e.length:Int)>160)=false:=decide_eq_false (by omega);have st:=P7 hL 0 (Nat.zero_le _) [] (qO.zero e);have sr:=Zi hL 0 (Nat.zero_le _) [] (qO.zero e);rw [List.drop_zero]at st sr;have abZ: ∀r,Ev (fun k=>Option.bind (jY k e ([]:List Int) (e.length:Int) ((0:Nat):Int)) (fun o=>Sum.elim (fun p40=>Option.bind (Aa k e) fun p51=>Option.bind (jZ k e p51.1 p51.2 (e.length:Int) ((0:Nat):Int)) (fun o=>Sum.elim (fun p58=>if 0<=(IntKind.wrap .i64 ((e.length:Int) -1))then Option.bind (p40[(IntKind.wrap .i64 ((e.length:Int) -1)).toNat]?) fun x65=>cond (x65 !=0) (some ((IntKind.wrap .i64 ((e.length:Int) -1)),15)) (some (0,0))else none) (fun p74=>some (p74.1,p74.2)) o)) (fun Bb=>some (Bb.1,Bb.2)) o)) r->Ev (fun k=>nI k e) r:=by
    intro r hr;unfold nI;simp only [Bn,Option.bind_some,a,b];refine Ev.bind (Kl _ (by simp)) ?_;exact Ev.cF (by rfl) hr
  have ab0: ∀r,Ev (fun k=>Option.bind (pE k e ((0:Nat):Int)) (fun o=>Sum.elim (fun p9=>Option.bind (nA k e ((0:Nat):Int)) (fun o=>Sum.elim (fun Yt=>Option.bind (uW k e (IntKind.wrap .i64 ((e.length:Int) -1))) fun Mc=>cond (Mc !=0) (some ((IntKind.wrap .i64 ((e.length:Int) -1)),15)) (some (0,0))) (fun JW=>some (JW.1,JW.2)) o)) (fun Tt=>some (Tt.1,Tt.2)) o)) r->Ev (fun k=>zY k e) r:=by
    intro r hr;unfold zY;exact Ev.cF a (Ev.cF b hr)
  cases hs:ou [] e with
  |inr p=>
    rw [hs]at st sr;refine⟨p,abZ _ (Ev.bind st ?_),ab0 _ (Ev.bind sr ?_),fun h=>absurd h (abY _ _ _ hs)⟩
    · simp only [dn];exact Ev.some
    · simp only [dn];exact Ev.some
  |inl acc=>
    rw [hs]at st sr;obtain⟨ts,he,hacc,hpar⟩:=abW hL hs;have hok:=aew e [] acc hs;have lt:=P8 he hL 0 (Nat.zero_le _);have lr:=Zx he hL hok 0 (Nat.zero_le _);cases hl:IU e (bO 0 ts) (e.length -0) 0 with
    |some j=>
      rw [hl]at lt lr;refine⟨((j:Int),30),abZ _ (Ev.bind st ?_),ab0 _ (Ev.bind sr ?_),fun h=>by cases h⟩
      · simp only [bZ];refine Ev.bind hpar (Ev.bind lt ?_);simp only [dn];exact Ev.some
      · simp only [bZ];refine Ev.bind lr ?_;simp only [dn];exact Ev.some
    |none=>
      rw [hl]at lt lr;have hOk:qO e e.length acc:=by
        have gen: ∀(l:List Nd) (i:Nat) (a:List Int),l=e.drop i->i<=e.length->qO e i a->ou a l= .inl acc->qO e e.length acc:=by
          intro l
          induction l with
          |nil=>
            intro i a hl hi ho h;rw [ou]at h;cases h;have:=congrArg List.length hl;rw [List.length_drop,List.length_nil]at this;obtain rfl:i=e.length:=by omega
            exact ho
          |cons n l ih=>
            intro i a hl hi ho h;have hlt:i<e.length:=by
              have:=congrArg List.length hl;rw [List.length_drop,List.length_cons]at this;omega
            rw [drop_cons hlt]at hl;obtain⟨rfl,rfl⟩:=List.cons.inj hl;rw [ou,ho.len]at h;by_cases hc:bW (tF a i e[i].args.reverse) e[i]=0
            · rw [if_neg (fun k=>k hc)]at h;exact ih (i+1) _ rfl hlt (ho.succ (bE hlt) (yL hc)) h
            · rw [if_pos hc]at h;cases h
        exact gen e 0 [] rfl (Nat.zero_le _) (qO.zero e) hs
      obtain⟨n,bb,h3,h4,h5,h6,_⟩:=hOk.at_ (e.length -1) (by omega);have hw:IntKind.wrap .i64 ((e.length:Int) -1)=((e.length -1:Nat):Int):=by rw [wrap64 (by omega) (by omega)];omega
      refine⟨if bb=0 then(0,0)else(((e.length -1:Nat):Int),15),abZ _ (Ev.bind st ?_),ab0 _ (Ev.bind sr ?_),fun hr=> ?_⟩
      · simp only [bZ];refine Ev.bind hpar (Ev.bind lt ?_);simp only [bZ,hw,Int.toNat_natCast,h4,Option.bind_some,nn,if_true];by_cases hb:bb=0
        · exact Ev.cF (by rw [hb];rfl) (Ev.some' (by simp [hb]))
        · exact Ev.cT (by rw [bne_iff_ne];exact hb) (Ev.some' (by simp [hb]))
      · simp only [bZ];refine Ev.bind lr ?_;simp only [bZ,hw];refine Ev.bind (TF hOk hlen h4) ?_;by_cases hb:bb=0
        · exact Ev.cF (by rw [hb];rfl) (Ev.some' (by simp [hb]))
        · exact Ev.cT (by rw [bne_iff_ne];exact hb) (Ev.some' (by simp [hb]))
      · by_cases hb:bb=0
        case neg=>rw [if_neg hb]at hr;cases hr
        refine⟨?_,by omega,hok⟩;rcases List.eq_nil_or_concat ts with rfl|⟨l,t,rfl⟩
        · rw [he]at h0;simp [dS]at h0
        · rw [List.concat_eq_append]at*;have hsz:e.length=sizes l+t.size:=by rw [he,jv,kU,IQ]
          have hpos:=t.size_pos;have hg:=XI (b:=0) (l:=l) (m:=[]) (t:=t);rw [<-hacc,Nat.zero_add,show sizes l+t.size -1=e.length -1 by omega,h4]at hg;have hl0:sizes l=0:=by have:=Option.some.inj hg;omega
          cases l with
          |nil=>exact⟨t,by rw [he];simp [dS]⟩
          |cons c l=>
            have:=c.size_pos;simp only [sizes]at hl0;omega
end Go.VL
end
section
namespace Go.VL
open Go.Proofs Go.RowKit
theorem aj1 {α:Type} (f:α->List PV) (sz:Nat) [hr:Aq f sz] (l:List α):tX sz (.aB (l.map f) .unk) none (some (.int .i64 (l.length:Int))) (some (.int .i64 (l.length:Int)))=some (.aB (l.map f) .exact):=by
  have hl:KP sz (l.map f):=fun cs h=>by
    obtain⟨x,_,rfl⟩:=List.mem_map.1 h;exact hr.len x
  have h0:(0:Int)<=(l.length:Int):=by omega
  simp only [tX,om];rw [if_pos h0];simp only [Int.toNat_natCast,List.length_map,Option.isSome_some,and_true];rw [if_pos ⟨Nat.zero_le _,Nat.le_refl _,hl⟩];simp only [if_true];rw [List.take_of_length_le (by rw [List.length_map];exact Nat.le_refl _),List.drop_zero]
theorem ab1 (l:List Str):Pu (.aB (l.map aU) .exact):=by
  have h:=bC dw l;cases h with
  |aB _ _ h1 h2=>exact .aB _ _ h1 (by simp)
theorem ahV (l:List Str) {c:Ck}:aC Tryz.prog 120 [.aB (l.map aU) c] (.aB (l.map aU) .exact):=by
  refine aC.wk (args:=[.aB (l.map aU) .unk]) ?_ (.aB .nil);refine aC.aP (bn.mem (.cons (bC dw _) .nil)) (aK alb (by simp) (aD ?_)) (ab1 l);unfold ala;simp -implicitDefEqProofs only [go_sem,aj1 aU 1];first|done|exact .pure _ (ab1 l)
end Go.VL
end
section
namespace Go.VL
open Go.Proofs
theorem anE {α:Type} {σ:Nat->PV} {H:AH} {sz b:Nat} {x y:AE} {f:α->List PV} (hf: ∀x,xw sz (f x)) (xs ys:List α) (c c2:Ck)
    (hx:x.ev σ= .aB (xs.map f) c) (hy:LX (y.ev σ)= .aB (ys.map f) c2) (hok:eD H c) (hb:(xs.length+ys.length)*b<=1099511627776):
    ∃c' H',ni (.app sz b x y) σ H=some (.aB ((xs++ys).map f) c',H')/\eD H' c'/\H.next<=H'.next/\(∀i,H'.obj i=H.obj i)/\(∀c3,eD H c3->qz c c3->eD H' c3/\qz c' c3):=by
  have h:=kN (P:=Tryz.prog) (s:=[]) (Q:=fun e σ' H'=> ∃c',σ'=upd σ (some 0) (.aB ((xs++ys).map f) c')/\eD H' c'/\H.next<=H'.next/\(∀i,H'.obj i=H.obj i)/\(∀c3,eD H c3->qz c c3->eD H' c3/\qz c' c3)) (d:=some 0) (l:=[]) (H:=H) hf xs ys c c2 hx hy hok hb
    (fun c' H' h1 h2 h3 h4=>⟨c',rfl,h1,h2,h3,h4⟩)
  have h2:WD Tryz.prog (ni (.app sz b x y) σ H) (some 0) [] [] (fun e σ' H'=> ∃c',σ'=upd σ (some 0) (.aB ((xs++ys).map f) c')/\eD H' c'/\H.next<=H'.next/\(∀i,H'.obj i=H.obj i)/\(∀c3,eD H c3->qz c c3->eD H' c3/\qz c' c3)) σ:=by
    have h3:WO Tryz.prog (⟨some 0,.d (.app sz b x y),none⟩::[]) [] _ σ H:=h;rw [WO,agV]at h3;revert h3;cases ni (.app sz b x y) σ H with
    |none=>intro h3;exact h3
    |some q=>intro h3;exact h3
  revert h2;cases ni (.app sz b x y) σ H with
  |none=>intro h2;exact h2.elim
  |some q=>
    intro h2;obtain⟨c',e,h3⟩:=(h2: ∃c',upd σ (some 0) q.1=upd σ (some 0) (.aB ((xs++ys).map f) c')/\eD q.2 c'/\H.next<=q.2.next/\(∀i,q.2.obj i=H.obj i)/\(∀c3,eD H c3->qz c c3->eD q.2 c3/\qz c' c3));have e2:=congrFun e 0;simp only [upd,if_true]at e2;exact⟨c',q.2,by rw [<-e2],h3⟩
section
variable {α:Type}
def TY (rec:Int->List Str->α->Option α) (n:Nd) (bound:List Str):Nat->List Int->α->Option α
  |_,[],a=>some a
  |i,op::l,a=>Option.bind (Pf n (i:Int)) fun b=>if(bound.length+b.length)*16<=1099511627776 then Option.bind (rec op (bound++b) a) fun a'=>TY rec n bound (i+1) l a' else none
def Fj (step:α->Int->List Str->Option α) (e:List Nd):Nat->Int->List Str->α->Option α
  |0,_,_,_=>none
  |k+1,at_,bound,a=>Option.bind (step a at_ bound) fun a'=>if 0<=at_ then Option.bind (e[at_.toNat]?) fun n=>if n.args.length<=1099511627776 then TY (Fj step e k) n bound 0 n.args a' else none else none
structure Visit (g:FuncId) (caps:List PV) (S:α->AH->Prop) (step:α->Int->List Str->Option α):Prop where
  stable: ∀a H H',S a H->H.next<=H'.next->(∀i,H'.obj i=H.obj i)->(∀c,eD H c->eD H' c)->S a H'
  call: ∀a at_ bound a' H,S a H->step a at_ bound=some a'->dU Tryz.prog g (.int .i64 at_:: .aB (bound.map aU) .unk::caps) H fun _ H'=>S a' H'
theorem ahW {g:FuncId} {caps:List PV} {S:α->AH->Prop} {step:α->Int->List Str->Option α} (hv:Visit g caps S step) (e:List Nd) (k:Nat)
    (ih: ∀(at_:Int) (bound:List Str) (a a':α) (H:AH),S a H->Fj step e k at_ bound a=some a'->dU Tryz.prog 70 [jg e,.int .i64 at_,Ap bound,.fn (.func g) [] caps] H fun _ H'=>S a' H')
    (at_:Int) (bound:List Str) (n:Nd) (e2:0<=at_) (e3:e[at_.toNat]? =some n) (e4:n.args.length<=1099511627776):
    ∀(l:List Int) (i:Nat) (a a':α) (σ:Nat->PV) (H:AH),l=n.args.drop i->i<=n.args.length->σ 0=jg e->σ 1= .int .i64 at_->σ 2=Ap bound->σ 3= .fn (.func g) [] caps->σ 18=aat n.args->σ 19= .int .i64 n.args.length->σ 20= .int .i64 i->
      S a H->TY (Fj step e k) n bound i l a=some a'-> ∀(Q:Post),(∀σ' H',S a' H'->Q (.exit 0) σ' H')->W Tryz.prog (.loop OY) Q σ H:=by
  intro l
  induction l with
  |nil=>
    intro i a a' σ H hl hi s0 s1 s2 s3 qB qM s20 hS h Q q0;have hii:i=n.args.length:=by
      have:=congrArg List.length hl;rw [List.length_drop,List.length_nil]at this;omega
    rw [TY]at h;cases h;refine bf (fun K hK=>aD ?_);unfold OY;have hd:decide ((i:Int)<(n.args.length:Int))=false:=decide_eq_false (by omega);simp -implicitDefEqProofs only [go_sem,qM,s20,hd];exact q0 _ _ hS
  |cons op l ihl=>
    intro i a a' σ H hl hi s0 s1 s2 s3 qB qM s20 hS h Q q0;have hlt:i<n.args.length:=by
      have:=congrArg List.length hl;rw [List.length_drop,List.length_cons]at this;omega
    have hop:n.args[i]? =some op:=by
      have:=congrArg (·[0]?) hl
      simpa [List.getElem?_drop]using this.symm
    have hl':l=n.args.drop (i+1):=by
      have:=congrArg List.tail hl;simpa using this
    rw [TY]at h;cases e5:Pf n (i:Int)with
    |none=>rw [Au e5]at h;cases h
    |some b=>
    rw [Av e5]at h;by_cases e6:(bound.length+b.length)*16<=1099511627776
    case neg=>rw [if_neg e6]at h;cases h
    rw [if_pos e6]at h;cases e7:Fj step e k op (bound++b) a with
    |none=>rw [Au e7]at h;cases h
    |some a1=>
    rw [Av e7]at h;refine bf (fun K hK=>aD ?_);unfold OY;have hd:decide ((i:Int)<(n.args.length:Int))=true:=decide_eq_true (by omega);simp -implicitDefEqProofs only [go_sem,s0,s1,s2,s3,qB,qM,s20,hd,List.getElem?_map,hop,Option.map_some];have hb:=ahs e5;have hw:IntKind.wrap .i64 ((i:Int)+1)=((i+1:Nat):Int):=by rw [IntKind.wrap_i64];omega
    refine⟨fun _=>True,trivial,?_⟩;refine uN (jg e) (fun H' _=>by simp -implicitDefEqProofs only [go_sem,s0,s1,s2,s3,qB,qM,s20,e2,e3,List.getElem?_map,Option.map_some]) ?_;refine uN (.int .i64 op) (fun H' _=>by simp -implicitDefEqProofs only [go_sem,s0,s1,s2,s3,qB,qM,s20,e2,e3,List.getElem?_map,Option.map_some]) ?_;refine uN (Ap bound) (fun H' _=>by simp -implicitDefEqProofs only [go_sem,s0,s1,s2,s3,qB,qM,s20,e2,e3,List.getElem?_map,Option.map_some]) ?_;refine D5 (.aB (bound.map aU) .exact) (by simp -implicitDefEqProofs only [go_sem,s0,s1,s2,s3,qB,qM,s20,e2,e3,List.getElem?_map,Option.map_some];exact ahV bound) ?_;refine uN (jg e) (fun H' _=>by simp -implicitDefEqProofs only [go_sem,s0,s1,s2,s3,qB,qM,s20,e2,e3,List.getElem?_map,Option.map_some]) ?_;refine uN (.int .i64 at_) (fun H' _=>by simp -implicitDefEqProofs only [go_sem,s0,s1,s2,s3,qB,qM,s20,e2,e3,List.getElem?_map,Option.map_some]) ?_;refine uN (.eP n.cells 0) (fun H' _=>by simp -implicitDefEqProofs only [go_sem,s0,s1,s2,s3,qB,qM,s20,e2,e3,List.getElem?_map,Option.map_some]) ?_;refine uN (.agg n.cells) (fun H' _=>by simp -implicitDefEqProofs only [go_sem,s0,s1,s2,s3,qB,qM,s20,e2,e3,List.getElem?_map,Option.map_some]) ?_;refine uN (.int .i64 i) (fun H' _=>by simp -implicitDefEqProofs only [go_sem,s0,s1,s2,s3,qB,qM,s20,e2,e3,List.getElem?_map,Option.map_some]) ?_;refine D5 (Ap b) (by simp -implicitDefEqProofs only [go_sem,s0,s1,s2,s3,qB,qM,s20,e2,e3,List.getElem?_map,Option.map_some];exact hb) ?_;obtain⟨c',H',f1,f2,f3,f4,f5⟩:=anE (σ:=(upd (upd (upd (upd (upd (upd (upd (upd (upd (upd (upd (upd (upd (upd (upd (upd σ (some 21) (PV.bool true)) (some 22) (PV.int IntKind.i64 ↑i)) (some 23) (PV.eP [PV.int IntKind.i64 op] 0)) (some 24) (PV.int IntKind.i64 op)) (some 8) (PV.int IntKind.i64 ↑i)) (some 9) (PV.int IntKind.i64 op)) (some 25) (jg e)) (some 26) (.int .i64 op)) (some 27) (Ap bound)) (some 28) (.aB (bound.map aU) .exact)) (some 29) (jg e)) (some 30) (.int .i64 at_)) (some 31) (.eP n.cells 0)) (some 32) (.agg n.cells)) (some 33) (.int .i64 i)) (some 34) (Ap b))) (H:=H) (sz:=1) (b:=16) (x:=AE.t 28) (y:=AE.t 34) uV bound b .exact .unk (by simp -implicitDefEqProofs only [go_sem,s0,s1,s2,s3,qB,qM,s20,e2,e3,List.getElem?_map,Option.map_some]) (by simp -implicitDefEqProofs only [go_sem,s0,s1,s2,s3,qB,qM,s20,e2,e3,List.getElem?_map,Option.map_some]) trivial e6;refine aaq _ H' f1 trivial ?_;refine uN (.fn (.func g) [] caps) (fun H' _=>by simp -implicitDefEqProofs only [go_sem,s0,s1,s2,s3,qB,qM,s20,e2,e3,List.getElem?_map,Option.map_some]) ?_;have hS':S a H':=hv.stable a H H' hS f3 f4 fun c hc=>(f5 c hc .exact).1;rw [aiQ];refine dB ?_;simp -implicitDefEqProofs only [go_sem,s0,s1,s2,s3,qB,qM,s20,e2,e3,List.getElem?_map,Option.map_some];refine dU.mono (dU.wk (ih op (bound++b) a a1 H' hS' e7) (.same (.same (.aB (.same .nil))))) fun r H2 hS2=> ?_;simp -implicitDefEqProofs only [go_sem,s0,s1,s2,s3,qB,qM,s20,e2,e3,List.getElem?_map,Option.map_some];refine hK _ _ ?_;refine ihl (i+1) a1 a' _ H2 hl' hlt ?_ ?_ ?_ ?_ ?_ ?_ ?_ hS2 h Q q0
    all_goals (simp -implicitDefEqProofs only [go_sem,s0,s1,s2,s3,qB,qM,s20,e2,e3,List.getElem?_map,Option.map_some,hw];try rfl)
theorem asc {g:FuncId} {caps:List PV} {S:α->AH->Prop} {step:α->Int->List Str->Option α} (hv:Visit g caps S step) (e:List Nd):
    ∀(k:Nat) (at_:Int) (bound:List Str) (a a':α) (H:AH),S a H->Fj step e k at_ bound a=some a'->dU Tryz.prog 70 [jg e,.int .i64 at_,Ap bound,.fn (.func g) [] caps] H fun _ H'=>S a' H':=by
  intro k
  induction k with
  |zero=>intro at_ bound a a' H hS h;simp only [Fj,reduceCtorEq]at h
  |succ k ih=>
    intro at_ bound a a' H hS h
    rw [Fj]at h;cases e1:step a at_ bound with
    |none=>rw [Au e1]at h;cases h
    |some a1=>
    rw [Av e1]at h;by_cases e2:0<=at_
    case neg=>rw [if_neg e2]at h;cases h
    rw [if_pos e2]at h;cases e3:e[at_.toNat]? with
    |none=>rw [Au e3]at h;cases h
    |some n=>
    rw [Av e3]at h;by_cases e4:n.args.length<=1099511627776
    case neg=>rw [if_neg e4]at h;cases h
    rw [if_pos e4]at h;refine aK ajg (by simp) (aD ?_);unfold apX;simp -implicitDefEqProofs only [go_sem];refine dU.mono (hv.call a at_ bound a1 H hS e1) fun r H1 hS1=> ?_;simp -implicitDefEqProofs only [go_sem,e2,e3];refine ahW hv e k ih at_ bound n e2 e3 e4 n.args 0 a1 a' _ H1 rfl (Nat.zero_le _) ?_ ?_ ?_ ?_ ?_ ?_ ?_ hS1 h _ ?_
    all_goals first
      |(simp -implicitDefEqProofs only [go_sem];done)
      |skip
    intro σ' H' hS';exact hS'
end
end Go.VL
end
section
namespace Go.VL
open Tm
structure dA where
  kind:Int
  text:Str
  out:Bool->Str
def fq (k:Int) (t:Str):Operator×Bool:=if k=3 then bH bU t else(Bo,false)
def dA.op (c:dA):Operator×Bool:=fq c.kind c.text
def fE (k:Int):Bool:=decide (k∈([8,9,10,11,12,21,22,23,24]:List Int))
def fV (c:dA) (must f:Bool):Str:=if must=true then 40::(c.out false++[41])else c.out f
def zf (o:Operator) (c:dA):Bool:=c.op.2&& !(c.op.1.text==o.text)
def zh (o:Operator) (c:dA):Bool:=c.op.2&&((decide (c.op.1.fix=0)&&decide (c.op.1.low<o.low))||(!decide (c.op.1.fix=0)&&decide (c.op.1.low<=o.high))||(decide (c.op.1.text=[45,46])&&decide (o.text=[45,46])))
def j3 (o:Operator) (i:Nat) (c:dA):Bool:=c.op.2&&decide (c.op.1.low<=o.high)&& !(decide (i=0)&&decide (c.op.1.text=o.text)&&o.left)
def zi (o:Operator):Str:=if o.text=[45,46]then [45]else match o.text with
  |c::_=>if 65<=c.toNat/\c.toNat<=90 then o.text++[32]else o.text
  |[]=>[]
def j4 (o:Operator) (f:Bool):Nat->List dA->List Str
  |_,[]=>[]
  |i,c::l=>fV c (j3 o i c) (f|| !l.isEmpty)::j4 o f (i+1) l
def Ca (o:Operator) (ks:List dA) (f:Bool):Str:=match ks with
  |[]=>[]
  |c::_=>if o.fix=2 then fV c (zf o c) true++o.text else if o.fix=0 then zi o++fV c (zh o c) f else Lib.join (j4 o f 0 ks) (32::(o.text++[32]))
def iT (ks:List dA):Str:=Lib.join (ks.map fun c=>c.out false) [44,32]
def dH (sign:Str) (names:List Str) (ks:List dA):Str:=Lib.join (List.zipWith (fun s c=>s++(sign++dA.out c false)) names ks) [44,32]
def iq:List dA->List Str
  |[]=>[]
  |[c]=>[79::84::72::69::82::32::45::62::32::c.out false]
  |c::d::l=>(c.out false++(32::45::62::32::d.out (!l.isEmpty)))::iq l
def yw (names:List Str):Str×Str:=match names with
  |[]=>([],[])
  |[x]=>(x,x)
  |x::p=>(x++(40::(Lib.join p [44,32]++[41])),x++(40::(Lib.join (List.replicate p.length [95]) [44,32]++[41])))
def Lr (n:Int) (names:List Str) (a b:Str):Str:=
  76::69::84::32::((if n=1 then 82::69::67::85::82::83::73::86::69::32::((yw names).2++(32::(yw names).1))else(yw names).1)++(32::61::61::32::(a++(32::73::78::32::b))))
def j5 (ks:List dA) (i:Nat):Str:=match ks[i]? with|some c=>c.out false|none=>[]
def gY (ks:List dA):Str:=j5 ks (ks.length -1)
def ab2 (ks:List dA):Str:=match ks with|c::_=>fV c (c.op.2||decide (c.kind=0)) true|[]=>[]
def XM (ks:List dA):Str:=match ks[1]? with|some c=>fV c (!(decide (c.kind=2)&&rName c.text)&& !decide (c.kind=4)) false|none=>[]
def GZ (s:Str):Bool:=rName s||decide (s=[66,79,79,76,69,65,78])||decide (s=[83,84,82,73,78,71])
def zk (s:Str):Bool:=GZ (s.takeWhile jG)&&decide ([32,92,105,110,32]<+:s.dropWhile jG)
def wU (s:Str):Str:=if zk s=true then 40::(s++[41])else s
def DT (kind n:Int) (text:Str) (names:List Str) (ks:List dA):Str:=
  if kind=0 then Lib.itoa n else
  if kind=1 then 34::(text++[34])else
  if kind=2 then text else
  if kind=3 then text++(40::(iT ks++[41]))else
  if kind=4 then 60::60::(iT ks++[62,62])else
  if kind=5 then 123::(iT ks++[125])else
  if kind=6 then 123::(dH [32,92,105,110,32] names ks++(32::58::32::(j5 ks 1++[125])))else
  if kind=7 then 123::(wU (gY ks)++(32::58::32::(dH [32,92,105,110,32] names ks++[125])))else
  if kind=8 then 92::65::32::(dH [32,92,105,110,32] names ks++(32::58::32::gY ks))else
  if kind=9 then 92::69::32::(dH [32,92,105,110,32] names ks++(32::58::32::gY ks))else
  if kind=10 then 92::65::32::(Lib.join names [44,32]++(32::58::32::gY ks))else
  if kind=11 then 92::69::32::(Lib.join names [44,32]++(32::58::32::gY ks))else
  if kind=12 then 67::72::79::79::83::69::32::(dH [32,92,105,110,32] names ks++(32::58::32::gY ks))else
  if kind=13 then 91::(dH [32,92,105,110,32] names ks++(32::124::45::62::32::(gY ks++[93])))else
  if kind=14 then ab2 ks++(91::(iT (ks.drop 1)++[93]))else
  if kind=15 then 91::(j5 ks 0++(32::45::62::32::(j5 ks 1++[93])))else
  if kind=16 then 91::(dH [32,124,45,62,32] names ks++[93])else
  if kind=17 then 91::(dH [32,58,32] names ks++[93])else
  if kind=18 then ab2 ks++(46::text)else
  if kind=19 then 91::(j5 ks 0++(32::69::88::67::69::80::84::32::33::91::(j5 ks 1++(93::32::61::32::(j5 ks 2++[93])))))else
  if kind=20 then [64]else
  if kind=21 then 73::70::32::(j5 ks 0++(32::84::72::69::78::32::(j5 ks 1++(32::69::76::83::69::32::j5 ks 2))))else
  if kind=22 then 67::65::83::69::32::Lib.join (iq ks) [32,91,93,32]else
  if kind=23 then Lr n names (j5 ks 0) (j5 ks 1)else
  if kind=24 then 76::65::77::66::68::65::32::(Lib.join names [44,32]++(32::58::32::gY ks))else
  if kind=25 then 91::(j5 ks 0++(93::95::XM ks))else
  if kind=26 then 60::60::(j5 ks 0++(62::62::95::XM ks))else
  if kind=27 then 87::70::95::(XM ks++(40::(j5 ks 0++[41])))else
  83::70::95::(XM ks++(40::(j5 ks 0++[41])))
def Oe (kind n:Int) (text:Str) (names:List Str) (ks:List dA) (f:Bool):Str:=if(fq kind text).2=true then Ca (fq kind text).1 ks f else DT kind n text names ks
def Ko (x:Nd) (ks:List dA) (f:Bool):Str:=if(f&&fE x.kind)=true then 40::(Oe x.kind x.n x.text x.names ks false++[41])else Oe x.kind x.n x.text x.names ks f
mutual
def fm:Tm->Bool->Str
  | .mk x cs=>Ko x (ER cs)
def ER:List Tm->List dA
  |[]=>[]
  |c::cs=>⟨c.root.kind,c.root.text,fm c⟩::ER cs
end
theorem ZN {x:Nd} {cs:List Tm}:fm (.mk x cs)=Ko x (ER cs):=by rw [fm]
theorem Ls {c:Tm} {cs:List Tm}:ER (c::cs)=⟨c.root.kind,c.root.text,fm c⟩::ER cs:=by rw [ER]
theorem aex: ∀cs:List Tm,(ER cs).length=cs.length
  |[]=>by rw [ER];rfl
  |c::cs=>by rw [Ls,List.length_cons,List.length_cons,aex cs]
theorem Og (sep:Str): ∀(l:List Str) (m:Nat),(∀s∈l,s.length<=m)->(Lib.joinTail sep l).length<=l.length*(m+sep.length)
  |[],m,h=>by simp [Lib.joinTail]
  |a::l,m,h=>by
    have h1:=h a (by simp);have h2:=Og sep l m fun s hs=>h s (by simp only [List.mem_cons];exact .inr hs);simp only [Lib.joinTail,List.map_cons,List.flatten_cons,List.length_append,List.length_cons]at h2⊢;rw [Nat.add_mul l.length 1,Nat.one_mul];omega
theorem dO (a:Str) (l:List Str) (sep:Str):Lib.join (a::l) sep=a++Lib.joinTail sep l:=Lib.join_cons a l sep
theorem aj2 (l:List Str) (sep:Str) (m:Nat) (h: ∀s∈l,s.length<=m):(Lib.join l sep).length<=l.length*(m+sep.length):=by
  cases l with
  |nil=>simp [Lib.join_nil]
  |cons a l=>
    have h1:=h a (by simp);have h2:=Og sep l m fun s hs=>h s (by simp only [List.mem_cons];exact .inr hs);rw [dO,List.length_append,List.length_cons,Nat.add_mul l.length 1,Nat.one_mul];omega
def lH:List Operator:=[⟨[126],0,4,4,false,1,1⟩,⟨[69,78,65,66,76,69,68],0,4,15,false,1,1⟩,⟨[85,78,67,72,65,78,71,69,68],0,4,15,false,1,1⟩,⟨[91,93],0,4,15,false,1,1⟩,⟨[60,62],0,4,15,false,1,1⟩,⟨[83,85,66,83,69,84],0,8,8,false,1,1⟩,⟨[85,78,73,79,78],0,8,8,false,1,1⟩,⟨[68,79,77,65,73,78],0,9,9,false,1,1⟩,⟨[45,46],0,12,12,false,1,1⟩,⟨[61,62],1,1,1,false,2,2⟩,⟨[60,61,62],1,2,2,false,2,2⟩,⟨[126,62],1,2,2,false,2,2⟩,⟨[47,92],1,3,3,true,2,2⟩,⟨[92,47],1,3,3,true,2,2⟩,⟨[61],1,5,5,false,2,2⟩,⟨[35],1,5,5,false,2,2⟩,⟨[60],1,5,5,false,2,2⟩,⟨[60,61],1,5,5,false,2,2⟩,⟨[62],1,5,5,false,2,2⟩,⟨[62,61],1,5,5,false,2,2⟩,⟨[92,105,110],1,5,5,false,2,2⟩,⟨[92,110,111,116,105,110],1,5,5,false,2,2⟩,⟨[92,115,117,98,115,101,116,101,113],1,5,5,false,2,2⟩,⟨[92,115,113,115,117,98,115,101,116,101,113],1,5,5,false,2,2⟩,⟨[64,64],1,6,6,true,2,2⟩,⟨[58,62],1,7,7,false,2,2⟩,⟨[92,99,100,111,116],1,5,14,true,2,2⟩,⟨[92,99,117,112],1,8,8,true,2,2⟩,⟨[92,99,97,112],1,8,8,true,2,2⟩,⟨[92],1,8,8,false,2,2⟩,⟨[46,46],1,9,9,false,2,2⟩,⟨[43],1,10,10,true,2,2⟩,⟨[40,43,41],1,10,10,true,2,2⟩,⟨[37],1,10,11,false,2,2⟩,⟨[92,88],1,10,13,false,2,4⟩,⟨[45],1,11,11,true,2,2⟩,⟨[40,45,41],1,11,11,true,2,2⟩,⟨[42],1,13,13,true,2,2⟩,⟨[92,100,105,118],1,13,13,false,2,2⟩,⟨[92,111],1,13,13,true,2,2⟩,⟨[94],1,14,14,false,2,2⟩,⟨[39],2,15,15,false,1,1⟩]
theorem anF:bU=lH:=by kernel_rfl
theorem af4 {t:Str} {o:Operator} (h:bH bU t=(o,true)):o∈lH/\o.text=t:=by
  have aux: ∀l:List Operator,bH l t=(o,true)->o∈l/\o.text=t:=by
    intro l
    induction l with
    |nil=>intro h;cases h
    |cons p l ih=>
      intro h;rw [bH]at h;by_cases hp:p.text=t
      · rw [if_pos hp]at h;cases h;exact⟨List.mem_cons_self,hp⟩
      · rw [if_neg hp]at h;exact⟨List.mem_cons_of_mem _ (ih h).1,(ih h).2⟩
  rw [anF]at h;exact aux _ h
def tJ:List Str:=[[58],[124,45,62],[45,62],[84,72,69,78],[69,76,83,69],[91,93],[73,78],[69,88,67,69,80,84]]
def af5:List Str:=(lH.filter fun o=>decide (o.fix=1)).map (·.text)
def RY (o:Operator):Bool:=decide (o.low<=o.high)&&(decide (o.fix=0)||decide (o.fix=1)||decide (o.fix=2))&&(!o.left||(decide (o.fix=1)&&decide (o.most=2)))&&(!decide (o.fix=2)||decide (o.text=[39]))&&
  (!decide (o.fix=1)||(o.text.all fun c=>decide (c≠32))&&decide (o.least=2)&&decide (o.text∈af5))&&(decide (o.fix=1)||(decide (o.least=1)&&decide (o.most=1)))
theorem T9: ∀o∈lH,RY o=true:=by
  have:(lH.all RY)=true:=by kernel_rfl
  exact List.all_eq_true.1 this
theorem anG: ∀w∈tJ,w∉af5:=by
  have:(tJ.all fun w=>decide (w∉af5))=true:=by kernel_rfl
  intro w hw;simpa using List.all_eq_true.1 this w hw
theorem ase: ∀w∈tJ,∀c∈w,c≠32:=by
  have:(tJ.all fun w=>w.all fun c=>decide (c≠32))=true:=by kernel_rfl
  intro w hw c hc;simpa using List.all_eq_true.1 (List.all_eq_true.1 this w hw) c hc
theorem Lu {p:UInt8->Bool}: ∀{w w' s s':Str},(∀c∈w,p c=true)->(∀c∈w',p c=true)->(∀c t,s=c::t->p c=false)->(∀c t,s'=c::t->p c=false)->w++s=w'++s'->w=w'/\s=s'
  |[],[],s,s',_,_,_,_,h=>⟨rfl,h⟩
  |[],c::w',s,s',_,h2,h3,_,h=>by
    have:=h3 c _ h;rw [h2 c List.mem_cons_self]at this;cases this
  |c::w,[],s,s',h1,_,_,h4,h=>by
    have:=h4 c _ h.symm;rw [h1 c List.mem_cons_self]at this;cases this
  |c::w,d::w',s,s',h1,h2,h3,h4,h=>by
    simp only [List.cons_append,List.cons.injEq]at h;obtain⟨e1,e2⟩:=Lu (fun x hx=>h1 x (List.mem_cons_of_mem _ hx)) (fun x hx=>h2 x (List.mem_cons_of_mem _ hx)) h3 h4 h.2;exact⟨by rw [h.1,e1],e2⟩
theorem XO {p:UInt8->Bool} {w s:Str} (hw: ∀c∈w,p c=true) (hs: ∀c t,s=c::t->p c=false):(w++s).takeWhile p=w:=by
  induction w with
  |nil=>
    cases s with
    |nil=>rfl
    |cons c t=>rw [List.nil_append,List.takeWhile_cons,hs c t rfl];rfl
  |cons c w ih=>rw [List.cons_append,List.takeWhile_cons,hw c List.mem_cons_self,ih fun x hx=>hw x (List.mem_cons_of_mem _ hx)];rfl
def lF (c:UInt8):Bool:=jG c||decide (c=33)
theorem kI:(∀(a:UInt8) (s t:Str),a::s++t=a::(s++t))/\(∀a b c:Str,a++b++c=a++(b++c))/\(∀s:Str,[]++s=s)/\(∀(a b:UInt8) (s t:Str),(a::s=b::t)=(a=b/\s=t))/\ ∀p:Prop,(True/\p)=p:=⟨fun _ _ _=>rfl,fun _ _ _=>List.append_assoc _ _ _,fun _=>rfl,fun _ _ _ _=>List.cons.injEq _ _ _ _,fun _=>true_and _⟩
def Stp (s:Str):Prop:= ∀c t,s=c::t->lF c=false
theorem lI {c:UInt8} {s:Str} (h:lF c=false):Stp (c::s):=fun d t e=>by cases e;exact h
theorem qo {w w' s s':Str} (hw: ∀c∈w,lF c=true) (hw': ∀c∈w',lF c=true) (hs:Stp s) (hs':Stp s') (h:w++s=w'++s'):w=w'/\s=s':=Lu hw hw' hs hs' h
theorem anH {w w' s s':Str} (hw: ∀c∈w,c≠32) (hw': ∀c∈w',c≠32) (h:w++32::s=w'++32::s'):w=w'/\s=s':=by
  have:=Lu (p:=fun c=>decide (c≠32)) (w:=w) (w':=w') (s:=32::s) (s':=32::s') (fun c hc=>by simpa using hw c hc) (fun c hc=>by simpa using hw' c hc) (fun c t e=>by cases e;rfl) (fun c t e=>by cases e;rfl) h;exact⟨this.1,(List.cons.inj this.2).2⟩
def YL (r:Str):Prop:=r=[]\/(∃c s,r=c::s/\c∈([44,41,93,125,62]:List UInt8))\/ ∃w s,w∈tJ/\r=32::(w++32::s)
theorem auy {c:UInt8} {s:Str} (h:c∈([44,41,93,125,62]:List UInt8)):YL (c::s):= .inr (.inl ⟨c,s,rfl,h⟩)
theorem amg (w:Str) {s:Str} (h:w∈tJ):YL (32::(w++32::s)):= .inr (.inr ⟨w,s,h,rfl⟩)
def Oh (s:Str):Prop:= ∀c t,s=c::t->c∈([39,91,46,32,44,41,93,125,62]:List UInt8)
theorem sV {s:Str} (h:Oh s):Stp s:=by
  have:(([39,91,46,32,44,41,93,125,62]:List UInt8).all fun c=> !lF c)=true:=by kernel_rfl
  intro c t e;simpa using List.all_eq_true.1 this c (h c t e)
theorem anI {s:Str} (h:YL s):Oh s:=by
  intro c t e;rcases h with h|⟨d,u,h,hd⟩|⟨w,u,hw,h⟩
  · rw [h]at e;cases e
  · rw [h]at e;cases e;simp only [List.mem_cons,List.not_mem_nil,or_false]at hd⊢;rcases hd with rfl|rfl|rfl|rfl|rfl<;>simp
  · rw [h]at e;cases e;simp
def ca:Str->Nat
  |[]=>0
  |c::s=>if c=39 then 1 else if c=91 then 2 else if c=46 then 3 else if c=32 then(if s.takeWhile (fun c=>decide (c≠32))∈af5 then 4 else 0)else 0
theorem amh {w s:Str} (hw: ∀c∈w,c≠32):(w++32::s).takeWhile (fun c=>decide (c≠32))=w:=
  XO (fun c hc=>by simpa using hw c hc) (fun c t e=>by cases e;rfl)
theorem asf {r:Str} (h:YL r):ca r=0:=by
  rcases h with rfl|⟨c,s,rfl,hc⟩|⟨w,s,hw,rfl⟩
  · rfl
  · simp only [List.mem_cons,List.not_mem_nil,or_false]at hc;rcases hc with rfl|rfl|rfl|rfl|rfl<;>rfl
  · show(if _ then 4 else 0)=0
    rw [amh (ase w hw),if_neg (anG w hw)]
theorem ab3 {o:Operator} {s:Str} (ho:o∈lH) (hf:o.fix=1):ca (32::(o.text++32::s))=4/\ ∀c∈o.text,c≠32:=by
  have:=T9 o ho;unfold RY at this;simp only [hf,decide_true,Bool.not_true,Bool.false_or,Bool.and_eq_true,decide_eq_true_eq,List.all_eq_true]at this;have h1:=this.1.2.1.1;have h2:=this.1.2.2;refine⟨?_,h1⟩;show(if _ then 4 else 0)=4
  rw [amh h1,if_pos h2]
def Kq (w:Str):Nat:=
  if w=[69,78,65,66,76,69,68]then 104 else if w=[85,78,67,72,65,78,71,69,68]then 105 else if w=[83,85,66,83,69,84]then 106 else if w=[85,78,73,79,78]then 107 else if w=[68,79,77,65,73,78]then 108 else
  if w=[73,70]then 9 else if w=[67,65,83,69]then 10 else if w=[76,69,84]then 11 else if w=[76,65,77,66,68,65]then 12 else if w=[67,72,79,79,83,69]then 13 else if w=[79,84,72,69,82]then 109 else if w.take 3=[87,70,95]then 14 else if w.take 3=[83,70,95]then 15 else if w.all pI=true then 1 else 16
def cls (s:Str):Nat:=match s with
  |[]=>99
  |c::t=>if lF c=true then Kq (s.takeWhile lF)else if c=91 then(if t.head? =some 93 then 102 else 5)else if c=60 then(if t.head? =some 62 then 103 else 3)else if c=92 then(if t.head? =some 65 then 7 else 8)else c.toNat+200
theorem XP {w s:Str} (hw: ∀c∈w,lF c=true) (h0:w≠[]) (hs:Stp s):cls (w++s)=Kq w:=by
  obtain⟨c,w',rfl⟩:=List.exists_cons_of_ne_nil h0;show(if lF c=true then Kq ((c::w'++s).takeWhile lF)else _)=_
  rw [if_pos (hw c List.mem_cons_self),XO hw hs]
def G5 (o:Operator):Nat:=cls (zi o++[40])
def EI:List Operator:=lH.filter fun o=>decide (o.fix=0)
theorem anJ {o:Operator} (ho:o∈lH) (hf:o.fix=0):o∈EI:=List.mem_filter.2 ⟨ho,by simpa using hf⟩
theorem aey:EI=[⟨[126],0,4,4,false,1,1⟩,⟨[69,78,65,66,76,69,68],0,4,15,false,1,1⟩,⟨[85,78,67,72,65,78,71,69,68],0,4,15,false,1,1⟩,⟨[91,93],0,4,15,false,1,1⟩,⟨[60,62],0,4,15,false,1,1⟩,⟨[83,85,66,83,69,84],0,8,8,false,1,1⟩,⟨[85,78,73,79,78],0,8,8,false,1,1⟩,⟨[68,79,77,65,73,78],0,9,9,false,1,1⟩,⟨[45,46],0,12,12,false,1,1⟩]:=by kernel_rfl
theorem Kr {o:Operator} (ho:o∈EI) (s:Str):cls (zi o++s)=G5 o:=by
  rw [aey]at ho;simp only [List.mem_cons,List.not_mem_nil,or_false]at ho;rcases ho with rfl|rfl|rfl|rfl|rfl|rfl|rfl|rfl|rfl<;>rfl
theorem aj3 {o o':Operator} (ho:o∈EI) (ho':o'∈EI) (h:G5 o=G5 o'):o=o':=by
  have:(EI.all fun o=>EI.all fun o'=>decide (G5 o=G5 o'->o=o'))=true:=by kernel_rfl
  have:=List.all_eq_true.1 (List.all_eq_true.1 this o ho) o' ho';exact of_decide_eq_true this h
def iA:List Nat:=[240,1,234,3,323,5,264,7,8,9,10,11,12,13,14,15,16]
theorem ab4 {o:Operator} (ho:o∈EI):G5 o∉iA:=by
  have:(EI.all fun o=>decide (G5 o∉iA))=true:=by kernel_rfl
  exact of_decide_eq_true (List.all_eq_true.1 this o ho)
def uw (l:List Str):Prop:= ∀s∈l,rName s=true
inductive uT:Tm->Prop
  |num (n:Int) (h:0<=n/\n<=10000):uT (.mk ⟨0,n,[],[],[]⟩ [])
  |str (s:Str) (h:qD s=true):uT (.mk ⟨1,0,s,[],[]⟩ [])
  |nam (s:Str) (h:(gq s||oJ s)=true):uT (.mk ⟨2,0,s,[],[]⟩ [])
  |app (s:Str) (c:Tm) (cs:List Tm) (h:gq s=true) (h2:(bH bU s).2=false):uT (.mk ⟨3,0,s,[],[]⟩ (c::cs))
  |pre (o:Operator) (c:Tm) (ho:o∈lH) (hf:o.fix=0) (hop:bH bU o.text=(o,true)):uT (.mk ⟨3,0,o.text,[],[]⟩ [c])
  |pos (o:Operator) (c:Tm) (ho:o∈lH) (hf:o.fix=2) (hop:bH bU o.text=(o,true)):uT (.mk ⟨3,0,o.text,[],[]⟩ [c])
  |inf (o:Operator) (c d:Tm) (cs:List Tm) (ho:o∈lH) (hf:o.fix=1) (hop:bH bU o.text=(o,true)) (hl:o.left=true->cs=[]):uT (.mk ⟨3,0,o.text,[],[]⟩ (c::d::cs))
  |bM (k:Int) (cs:List Tm) (hk:k=4\/k=5):uT (.mk ⟨k,0,[],[],[]⟩ cs)
  |MB (k:Int) (names:List Str) (cs:List Tm) (b:Tm) (hk:k=6\/k=7\/k=8\/k=9\/k=12\/k=13) (hn:uw names) (h0:names≠[]) (hl:cs.length=names.length) (h6:k=6->names.length=1):uT (.mk ⟨k,0,[],names,[]⟩ (cs++[b]))
  |any (k:Int) (names:List Str) (b:Tm) (hk:k=10\/k=11\/k=24) (hn:uw names) (h0:names≠[]):uT (.mk ⟨k,0,[],names,[]⟩ [b])
  |call (c d:Tm) (cs:List Tm):uT (.mk ⟨14,0,[],[],[]⟩ (c::d::cs))
  |bin (k:Int) (a b:Tm) (hk:k=15\/k=25\/k=26\/k=27\/k=28):uT (.mk ⟨k,0,[],[],[]⟩ [a,b])
  |YM (k:Int) (names:List Str) (cs:List Tm) (hk:k=16\/k=17) (hn:uw names) (h0:names≠[]) (hl:cs.length=names.length):uT (.mk ⟨k,0,[],names,[]⟩ cs)
  |je (s:Str) (c:Tm) (h:rName s=true):uT (.mk ⟨18,0,s,[],[]⟩ [c])
  |ME (k:Int) (a b c:Tm) (hk:k=19\/k=21):uT (.mk ⟨k,0,[],[],[]⟩ [a,b,c])
  |old:uT (.mk ⟨20,0,[],[],[]⟩ [])
  |cas (c d:Tm) (cs:List Tm):uT (.mk ⟨22,0,[],[],[]⟩ (c::d::cs))
  |lt (n:Int) (x:Str) (p:List Str) (a b:Tm) (h:n=0\/n=1) (hn:uw (x::p)):uT (.mk ⟨23,n,[],x::p,[]⟩ [a,b])
theorem Lv {α:Type} {l:List α} (h:l.length=1): ∃a,l=[a]:=by
  match l,h with
  |[a],_=>exact⟨a,rfl⟩
theorem XQ {α:Type} {l:List α} (h:l.length=2): ∃a b,l=[a,b]:=by
  match l,h with
  |[a,b],_=>exact⟨a,b,rfl⟩
theorem asg {α:Type} {l:List α} (h:l.length=3): ∃a b c,l=[a,b,c]:=by
  match l,h with
  |[a,b,c],_=>exact⟨a,b,c,rfl⟩
theorem af6 {α:Type} {l:List α} (h:2<=l.length): ∃a b m,l=a::b::m:=by
  match l,h with
  |a::b::m,_=>exact⟨a,b,m,rfl⟩
theorem ZO {α:Type} {l:List α} (h:1<=l.length): ∃a m,l=a::m:=by
  match l,h with
  |a::m,_=>exact⟨a,m,rfl⟩
theorem LA {α:Type} {l:List α} {n:Nat} (h:l.length=n+1): ∃m b,l=m++[b]/\m.length=n:=by
  have h0:l≠[]:=fun e=>by rw [e]at h;cases h
  exact⟨l.dropLast,l.getLast h0,(List.dropLast_concat_getLast h0).symm,by rw [List.length_dropLast];omega⟩
theorem ash {kind n:Int} {text:Str} {names:List Str} {cs:List Tm} {b:Nat} (h:bW true (nd ⟨kind,n,text,names,[]⟩ b cs)=0):uT (.mk ⟨kind,n,text,names,[]⟩ cs):=by
  unfold bW at h
  split at h;·cases h
  rename_i c1
  split at h;·cases h
  rename_i c2
  split at h;·cases h
  rename_i c3
  split at h;·cases h
  rename_i c4;split at h
  · rename_i c5;exact absurd h c5
  rename_i c5;clear h;have hal:(nd ⟨kind,n,text,names,[]⟩ b cs).args.length=cs.length:=qd b cs;have d5:oq (nd ⟨kind,n,text,names,[]⟩ b cs)=0:=by omega
  have d2:ql (nd ⟨kind,n,text,names,[]⟩ b cs)=true:=by simpa using c2
  have d3:mo (nd ⟨kind,n,text,names,[]⟩ b cs)=true:=by simpa using c3
  clear c2 c3 c5;unfold ql at d2;simp only [hal,show(nd ⟨kind,n,text,names,[]⟩ b cs).names=names from rfl,show(nd ⟨kind,n,text,names,[]⟩ b cs).text=text from rfl,show(nd ⟨kind,n,text,names,[]⟩ b cs).kind=kind from rfl]at d2;unfold mo at d3;simp only [show(nd ⟨kind,n,text,names,[]⟩ b cs).n=n from rfl,show(nd ⟨kind,n,text,names,[]⟩ b cs).text=text from rfl,show(nd ⟨kind,n,text,names,[]⟩ b cs).kind=kind from rfl]at d3;unfold oq at d5;simp only [hal,show(nd ⟨kind,n,text,names,[]⟩ b cs).names=names from rfl,show(nd ⟨kind,n,text,names,[]⟩ b cs).text=text from rfl,show(nd ⟨kind,n,text,names,[]⟩ b cs).kind=kind from rfl]at d5;simp only [show(nd ⟨kind,n,text,names,[]⟩ b cs).n=n from rfl,show(nd ⟨kind,n,text,names,[]⟩ b cs).kind=kind from rfl]at c4 c1
  split at d5;·cases d5
  rename_i c6;have hn:uw names:=by
    have:names.all rName=true:=by simpa using c6
    exact List.all_eq_true.1 this
  have hk:kind=0\/kind=1\/kind=2\/kind=3\/kind=4\/kind=5\/kind=6\/kind=7\/kind=8\/kind=9\/kind=10\/kind=11\/kind=12\/kind=13\/kind=14\/kind=15\/kind=16\/kind=17\/kind=18\/kind=19\/kind=20\/kind=21\/kind=22\/kind=23\/kind=24\/kind=25\/kind=26\/kind=27\/kind=28:=by
    unfold fK at c1;simp only [Bool.not_eq_false,decide_eq_true_eq]at c1;omega
  by_cases h3:kind=3
  · subst h3;rw [show aS 3=((0,0,1,4),false) by kernel_rfl]at d2;simp only [fK,Bool.and_eq_true,decide_eq_true_eq,decide_true,Bool.and_true,Bool.false_eq_true,if_false,Int.mul_zero,Int.sub_zero]at d2;obtain rfl:names=[]:=List.length_eq_zero_iff.1 (by omega);obtain rfl:n=0:=by simp at d3;exact d3
    simp only [if_neg (show ¬(3:Int)=2 by decide),if_neg (show ¬(3:Int)=18 by decide),if_true]at d5;cases ho:bH bU text with
    |mk o is=>
    rw [ho]at d5 d2;cases is with
    |false=>
      simp only [Bool.false_or,Bool.false_and,Bool.false_eq_true,if_false]at d5 d2;have ht:gq text=true:=by
        cases hr:gq text with
        |true=>rfl
        |false=>rw [hr]at d5;cases d5
      obtain⟨c,m,rfl⟩:=ZO (show 1<=cs.length by omega);exact .app text c m ht (by rw [ho])
    |true=>
      simp only [Bool.true_or,Bool.true_and,if_true]at d5;obtain⟨hm,rfl⟩:=af4 ho;have hF:=T9 o hm;have hin:fK (cs.length:Int) o.least o.most=true:=by
        cases hi:fK (cs.length:Int) o.least o.most with
        |true=>rfl
        |false=>rw [hi]at d5;cases d5
      unfold fK at hin;simp only [decide_eq_true_eq]at hin;unfold RY at hF;simp only [Bool.and_eq_true,Bool.or_eq_true,decide_eq_true_eq,Bool.not_eq_true',decide_eq_false_iff_not]at hF;obtain⟨⟨⟨⟨⟨f1,f2⟩,f3⟩,f4⟩,f5⟩,f6⟩:=hF;rcases f2 with(f2|f2)|f2
      · obtain⟨c,rfl⟩:=Lv (show cs.length=1 by rcases f6 with f6|f6<;>omega);exact .pre o c hm f2 ho
      · have hl:o.least=2:=by
          rcases f5 with f5|f5
          · exact absurd f2 f5
          · exact f5.1.2
        obtain⟨c,d,m,rfl⟩:=af6 (show 2<=cs.length by omega);refine .inf o c d m hm f2 ho fun hleft=> ?_;rcases f3 with f3|f3
        · rw [hleft]at f3;cases f3
        · simp only [List.length_cons]at hin;exact List.length_eq_zero_iff.1 (by omega)
      · obtain⟨c,rfl⟩:=Lv (show cs.length=1 by rcases f6 with f6|f6<;>omega);exact .pos o c hm f2 ho
  · have hnk:((bH bU text).2&&decide (kind=3))=false:=by rw [decide_eq_false h3,Bool.and_false]
    rw [hnk]at d2;simp only [Bool.false_eq_true,if_false]at d2;simp only [Bool.and_eq_true,Bool.or_eq_true,decide_eq_true_eq,Bool.not_eq_true',decide_eq_false_iff_not,h3,false_or,or_false]at d3;obtain⟨⟨⟨q1,q2⟩,q3⟩,q4⟩:=d3;have hsh: ∀a b' c d m,aS kind=((a,b',c,d),m)->((a<=(names.length:Int)/\(names.length:Int)<=b')/\(c<=(cs.length:Int) -(names.length:Int)*(if m=true then 1 else 0)/\(cs.length:Int) -(names.length:Int)*(if m=true then 1 else 0)<=d)):=by
      intro a b' c d m e;rw [e]at d2;simp only [fK,Bool.and_eq_true,decide_eq_true_eq]at d2;exact d2
    clear d2 hnk;rcases hk with rfl|rfl|rfl|rfl|rfl|rfl|rfl|rfl|rfl|rfl|rfl|rfl|rfl|rfl|rfl|rfl|rfl|rfl|rfl|rfl|rfl|rfl|rfl|rfl|rfl|rfl|rfl|rfl|rfl
    · obtain⟨⟨l1,l2⟩,l3,l4⟩:=hsh _ _ _ _ _ (show aS 0=((0,0,0,0),false) by kernel_rfl);simp only [Bool.false_eq_true,if_false,Int.mul_zero,Int.sub_zero]at l3 l4;obtain rfl:text=[]:=by simpa using q1
      obtain rfl:names=[]:=List.length_eq_zero_iff.1 (by omega);try simp only [List.length_nil,Int.natCast_zero,Int.sub_zero]at l3 l4
      obtain rfl:cs=[]:=List.length_eq_zero_iff.1 (by omega);refine .num n ?_;simp only [fK,decide_true,Bool.true_and,Bool.not_eq_true',decide_eq_false_iff_not,Decidable.not_not]at c4;exact c4
    · obtain⟨⟨l1,l2⟩,l3,l4⟩:=hsh _ _ _ _ _ (show aS 1=((0,0,0,0),false) by kernel_rfl);simp only [Bool.false_eq_true,if_false,Int.mul_zero,Int.sub_zero]at l3 l4;obtain rfl:n=0:=by simpa using q2
      obtain rfl:names=[]:=List.length_eq_zero_iff.1 (by omega);try simp only [List.length_nil,Int.natCast_zero,Int.sub_zero]at l3 l4
      obtain rfl:cs=[]:=List.length_eq_zero_iff.1 (by omega);refine .str text ?_;simpa using q4
    · obtain⟨⟨l1,l2⟩,l3,l4⟩:=hsh _ _ _ _ _ (show aS 2=((0,0,0,0),false) by kernel_rfl);simp only [Bool.false_eq_true,if_false,Int.mul_zero,Int.sub_zero]at l3 l4;obtain rfl:n=0:=by simpa using q2
      obtain rfl:names=[]:=List.length_eq_zero_iff.1 (by omega);try simp only [List.length_nil,Int.natCast_zero,Int.sub_zero]at l3 l4
      obtain rfl:cs=[]:=List.length_eq_zero_iff.1 (by omega);refine .nam text ?_;simp only [if_true]at d5;cases hr:(gq text||oJ text)with
      |true=>rfl
      |false=>rw [hr]at d5;cases d5
    · exact absurd rfl h3
    · obtain⟨⟨l1,l2⟩,l3,l4⟩:=hsh _ _ _ _ _ (show aS 4=((0,0,0,30),false) by kernel_rfl);simp only [Bool.false_eq_true,if_false,Int.mul_zero,Int.sub_zero]at l3 l4;obtain rfl:text=[]:=by simpa using q1
      obtain rfl:n=0:=by simpa using q2
      obtain rfl:names=[]:=List.length_eq_zero_iff.1 (by omega);try simp only [List.length_nil,Int.natCast_zero,Int.sub_zero]at l3 l4
      exact .bM 4 cs (by decide)
    · obtain⟨⟨l1,l2⟩,l3,l4⟩:=hsh _ _ _ _ _ (show aS 5=((0,0,0,30),false) by kernel_rfl);simp only [Bool.false_eq_true,if_false,Int.mul_zero,Int.sub_zero]at l3 l4;obtain rfl:text=[]:=by simpa using q1
      obtain rfl:n=0:=by simpa using q2
      obtain rfl:names=[]:=List.length_eq_zero_iff.1 (by omega);try simp only [List.length_nil,Int.natCast_zero,Int.sub_zero]at l3 l4
      exact .bM 5 cs (by decide)
    · obtain⟨⟨l1,l2⟩,l3,l4⟩:=hsh _ _ _ _ _ (show aS 6=((1,1,2,2),false) by kernel_rfl);simp only [Bool.false_eq_true,if_false,Int.mul_zero,Int.sub_zero]at l3 l4;obtain rfl:text=[]:=by simpa using q1
      obtain rfl:n=0:=by simpa using q2
      obtain⟨m,b1,rfl,hm⟩:=LA (show cs.length=names.length+1 by omega);exact .MB 6 names m b1 (by decide) hn (fun e=>by rw [e]at l1;simp at l1) hm (fun e=>by first|omega|cases e)
    · obtain⟨⟨l1,l2⟩,l3,l4⟩:=hsh _ _ _ _ _ (show aS 7=((1,4,1,1),true) by kernel_rfl);simp only [if_true,Int.mul_one]at l3 l4;obtain rfl:text=[]:=by simpa using q1
      obtain rfl:n=0:=by simpa using q2
      obtain⟨m,b1,rfl,hm⟩:=LA (show cs.length=names.length+1 by omega);exact .MB 7 names m b1 (by decide) hn (fun e=>by rw [e]at l1;simp at l1) hm (fun e=>by first|omega|cases e)
    · obtain⟨⟨l1,l2⟩,l3,l4⟩:=hsh _ _ _ _ _ (show aS 8=((1,4,1,1),true) by kernel_rfl);simp only [if_true,Int.mul_one]at l3 l4;obtain rfl:text=[]:=by simpa using q1
      obtain rfl:n=0:=by simpa using q2
      obtain⟨m,b1,rfl,hm⟩:=LA (show cs.length=names.length+1 by omega);exact .MB 8 names m b1 (by decide) hn (fun e=>by rw [e]at l1;simp at l1) hm (fun e=>by first|omega|cases e)
    · obtain⟨⟨l1,l2⟩,l3,l4⟩:=hsh _ _ _ _ _ (show aS 9=((1,4,1,1),true) by kernel_rfl);simp only [if_true,Int.mul_one]at l3 l4;obtain rfl:text=[]:=by simpa using q1
      obtain rfl:n=0:=by simpa using q2
      obtain⟨m,b1,rfl,hm⟩:=LA (show cs.length=names.length+1 by omega);exact .MB 9 names m b1 (by decide) hn (fun e=>by rw [e]at l1;simp at l1) hm (fun e=>by first|omega|cases e)
    · obtain⟨⟨l1,l2⟩,l3,l4⟩:=hsh _ _ _ _ _ (show aS 10=((1,4,1,1),false) by kernel_rfl);simp only [Bool.false_eq_true,if_false,Int.mul_zero,Int.sub_zero]at l3 l4;obtain rfl:text=[]:=by simpa using q1
      obtain rfl:n=0:=by simpa using q2
      obtain⟨c,rfl⟩:=Lv (show cs.length=1 by omega);exact .any 10 names c (by decide) hn (fun e=>by rw [e]at l1;simp at l1)
    · obtain⟨⟨l1,l2⟩,l3,l4⟩:=hsh _ _ _ _ _ (show aS 11=((1,4,1,1),false) by kernel_rfl);simp only [Bool.false_eq_true,if_false,Int.mul_zero,Int.sub_zero]at l3 l4;obtain rfl:text=[]:=by simpa using q1
      obtain rfl:n=0:=by simpa using q2
      obtain⟨c,rfl⟩:=Lv (show cs.length=1 by omega);exact .any 11 names c (by decide) hn (fun e=>by rw [e]at l1;simp at l1)
    · obtain⟨⟨l1,l2⟩,l3,l4⟩:=hsh _ _ _ _ _ (show aS 12=((1,1,2,2),false) by kernel_rfl);simp only [Bool.false_eq_true,if_false,Int.mul_zero,Int.sub_zero]at l3 l4;obtain rfl:text=[]:=by simpa using q1
      obtain rfl:n=0:=by simpa using q2
      obtain⟨m,b1,rfl,hm⟩:=LA (show cs.length=names.length+1 by omega);exact .MB 12 names m b1 (by decide) hn (fun e=>by rw [e]at l1;simp at l1) hm (fun e=>by first|omega|cases e)
    · obtain⟨⟨l1,l2⟩,l3,l4⟩:=hsh _ _ _ _ _ (show aS 13=((1,4,1,1),true) by kernel_rfl);simp only [if_true,Int.mul_one]at l3 l4;obtain rfl:text=[]:=by simpa using q1
      obtain rfl:n=0:=by simpa using q2
      obtain⟨m,b1,rfl,hm⟩:=LA (show cs.length=names.length+1 by omega);exact .MB 13 names m b1 (by decide) hn (fun e=>by rw [e]at l1;simp at l1) hm (fun e=>by first|omega|cases e)
    · obtain⟨⟨l1,l2⟩,l3,l4⟩:=hsh _ _ _ _ _ (show aS 14=((0,0,2,5),false) by kernel_rfl);simp only [Bool.false_eq_true,if_false,Int.mul_zero,Int.sub_zero]at l3 l4;obtain rfl:text=[]:=by simpa using q1
      obtain rfl:n=0:=by simpa using q2
      obtain rfl:names=[]:=List.length_eq_zero_iff.1 (by omega);try simp only [List.length_nil,Int.natCast_zero,Int.sub_zero]at l3 l4
      obtain⟨c,d,m,rfl⟩:=af6 (show 2<=cs.length by omega);exact .call c d m
    · obtain⟨⟨l1,l2⟩,l3,l4⟩:=hsh _ _ _ _ _ (show aS 15=((0,0,2,2),false) by kernel_rfl);simp only [Bool.false_eq_true,if_false,Int.mul_zero,Int.sub_zero]at l3 l4;obtain rfl:text=[]:=by simpa using q1
      obtain rfl:n=0:=by simpa using q2
      obtain rfl:names=[]:=List.length_eq_zero_iff.1 (by omega);try simp only [List.length_nil,Int.natCast_zero,Int.sub_zero]at l3 l4
      obtain⟨c,d,rfl⟩:=XQ (show cs.length=2 by omega);exact .bin 15 c d (by decide)
    · obtain⟨⟨l1,l2⟩,l3,l4⟩:=hsh _ _ _ _ _ (show aS 16=((1,30,0,0),true) by kernel_rfl);simp only [if_true,Int.mul_one]at l3 l4;obtain rfl:text=[]:=by simpa using q1
      obtain rfl:n=0:=by simpa using q2
      exact .YM 16 names cs (by decide) hn (fun e=>by rw [e]at l1;simp at l1) (by omega)
    · obtain⟨⟨l1,l2⟩,l3,l4⟩:=hsh _ _ _ _ _ (show aS 17=((1,30,0,0),true) by kernel_rfl);simp only [if_true,Int.mul_one]at l3 l4;obtain rfl:text=[]:=by simpa using q1
      obtain rfl:n=0:=by simpa using q2
      exact .YM 17 names cs (by decide) hn (fun e=>by rw [e]at l1;simp at l1) (by omega)
    · obtain⟨⟨l1,l2⟩,l3,l4⟩:=hsh _ _ _ _ _ (show aS 18=((0,0,1,1),false) by kernel_rfl);simp only [Bool.false_eq_true,if_false,Int.mul_zero,Int.sub_zero]at l3 l4;obtain rfl:n=0:=by simpa using q2
      obtain rfl:names=[]:=List.length_eq_zero_iff.1 (by omega);try simp only [List.length_nil,Int.natCast_zero,Int.sub_zero]at l3 l4
      obtain⟨c,rfl⟩:=Lv (show cs.length=1 by omega);refine .je text c ?_;simp only [if_true,if_neg (show ¬(18:Int)=2 by decide)]at d5;cases hr:rName text with
      |true=>rfl
      |false=>rw [hr]at d5;cases d5
    · obtain⟨⟨l1,l2⟩,l3,l4⟩:=hsh _ _ _ _ _ (show aS 19=((0,0,3,3),false) by kernel_rfl);simp only [Bool.false_eq_true,if_false,Int.mul_zero,Int.sub_zero]at l3 l4;obtain rfl:text=[]:=by simpa using q1
      obtain rfl:n=0:=by simpa using q2
      obtain rfl:names=[]:=List.length_eq_zero_iff.1 (by omega);try simp only [List.length_nil,Int.natCast_zero,Int.sub_zero]at l3 l4
      obtain⟨c,d,e,rfl⟩:=asg (show cs.length=3 by omega);exact .ME 19 c d e (by decide)
    · obtain⟨⟨l1,l2⟩,l3,l4⟩:=hsh _ _ _ _ _ (show aS 20=((0,0,0,0),false) by kernel_rfl);simp only [Bool.false_eq_true,if_false,Int.mul_zero,Int.sub_zero]at l3 l4;obtain rfl:text=[]:=by simpa using q1
      obtain rfl:n=0:=by simpa using q2
      obtain rfl:names=[]:=List.length_eq_zero_iff.1 (by omega);try simp only [List.length_nil,Int.natCast_zero,Int.sub_zero]at l3 l4
      obtain rfl:cs=[]:=List.length_eq_zero_iff.1 (by omega);exact .old
    · obtain⟨⟨l1,l2⟩,l3,l4⟩:=hsh _ _ _ _ _ (show aS 21=((0,0,3,3),false) by kernel_rfl);simp only [Bool.false_eq_true,if_false,Int.mul_zero,Int.sub_zero]at l3 l4;obtain rfl:text=[]:=by simpa using q1
      obtain rfl:n=0:=by simpa using q2
      obtain rfl:names=[]:=List.length_eq_zero_iff.1 (by omega);try simp only [List.length_nil,Int.natCast_zero,Int.sub_zero]at l3 l4
      obtain⟨c,d,e,rfl⟩:=asg (show cs.length=3 by omega);exact .ME 21 c d e (by decide)
    · obtain⟨⟨l1,l2⟩,l3,l4⟩:=hsh _ _ _ _ _ (show aS 22=((0,0,2,30),false) by kernel_rfl);simp only [Bool.false_eq_true,if_false,Int.mul_zero,Int.sub_zero]at l3 l4;obtain rfl:text=[]:=by simpa using q1
      obtain rfl:n=0:=by simpa using q2
      obtain rfl:names=[]:=List.length_eq_zero_iff.1 (by omega);try simp only [List.length_nil,Int.natCast_zero,Int.sub_zero]at l3 l4
      obtain⟨c,d,m,rfl⟩:=af6 (show 2<=cs.length by omega);exact .cas c d m
    · obtain⟨⟨l1,l2⟩,l3,l4⟩:=hsh _ _ _ _ _ (show aS 23=((1,5,2,2),false) by kernel_rfl);simp only [Bool.false_eq_true,if_false,Int.mul_zero,Int.sub_zero]at l3 l4;obtain rfl:text=[]:=by simpa using q1
      obtain⟨c,d,rfl⟩:=XQ (show cs.length=2 by omega);obtain⟨x,p,rfl⟩:=ZO (show 1<=names.length by omega);refine .lt n x p c d ?_ hn;simp only [not_true_eq_false,false_or,fK,decide_eq_true_eq]at q3;omega
    · obtain⟨⟨l1,l2⟩,l3,l4⟩:=hsh _ _ _ _ _ (show aS 24=((1,4,1,1),false) by kernel_rfl);simp only [Bool.false_eq_true,if_false,Int.mul_zero,Int.sub_zero]at l3 l4;obtain rfl:text=[]:=by simpa using q1
      obtain rfl:n=0:=by simpa using q2
      obtain⟨c,rfl⟩:=Lv (show cs.length=1 by omega);exact .any 24 names c (by decide) hn (fun e=>by rw [e]at l1;simp at l1)
    · obtain⟨⟨l1,l2⟩,l3,l4⟩:=hsh _ _ _ _ _ (show aS 25=((0,0,2,2),false) by kernel_rfl);simp only [Bool.false_eq_true,if_false,Int.mul_zero,Int.sub_zero]at l3 l4;obtain rfl:text=[]:=by simpa using q1
      obtain rfl:n=0:=by simpa using q2
      obtain rfl:names=[]:=List.length_eq_zero_iff.1 (by omega);try simp only [List.length_nil,Int.natCast_zero,Int.sub_zero]at l3 l4
      obtain⟨c,d,rfl⟩:=XQ (show cs.length=2 by omega);exact .bin 25 c d (by decide)
    · obtain⟨⟨l1,l2⟩,l3,l4⟩:=hsh _ _ _ _ _ (show aS 26=((0,0,2,2),false) by kernel_rfl);simp only [Bool.false_eq_true,if_false,Int.mul_zero,Int.sub_zero]at l3 l4;obtain rfl:text=[]:=by simpa using q1
      obtain rfl:n=0:=by simpa using q2
      obtain rfl:names=[]:=List.length_eq_zero_iff.1 (by omega);try simp only [List.length_nil,Int.natCast_zero,Int.sub_zero]at l3 l4
      obtain⟨c,d,rfl⟩:=XQ (show cs.length=2 by omega);exact .bin 26 c d (by decide)
    · obtain⟨⟨l1,l2⟩,l3,l4⟩:=hsh _ _ _ _ _ (show aS 27=((0,0,2,2),false) by kernel_rfl);simp only [Bool.false_eq_true,if_false,Int.mul_zero,Int.sub_zero]at l3 l4;obtain rfl:text=[]:=by simpa using q1
      obtain rfl:n=0:=by simpa using q2
      obtain rfl:names=[]:=List.length_eq_zero_iff.1 (by omega);try simp only [List.length_nil,Int.natCast_zero,Int.sub_zero]at l3 l4
      obtain⟨c,d,rfl⟩:=XQ (show cs.length=2 by omega);exact .bin 27 c d (by decide)
    · obtain⟨⟨l1,l2⟩,l3,l4⟩:=hsh _ _ _ _ _ (show aS 28=((0,0,2,2),false) by kernel_rfl);simp only [Bool.false_eq_true,if_false,Int.mul_zero,Int.sub_zero]at l3 l4;obtain rfl:text=[]:=by simpa using q1
      obtain rfl:n=0:=by simpa using q2
      obtain rfl:names=[]:=List.length_eq_zero_iff.1 (by omega);try simp only [List.length_nil,Int.natCast_zero,Int.sub_zero]at l3 l4
      obtain⟨c,d,rfl⟩:=XQ (show cs.length=2 by omega);exact .bin 28 c d (by decide)
mutual
def VT:Tm->Prop
  | .mk x cs=>uT (.mk x cs)/\Cb cs
def Cb:List Tm->Prop
  |[]=>True
  |c::cs=>VT c/\Cb cs
end
theorem VT.bX {t:Tm} (h:VT t):uT t:=by cases t;rw [VT]at h;exact h.1
theorem VT.kids {x:Nd} {cs:List Tm} (h:VT (.mk x cs)):Cb cs:=by rw [VT]at h;exact h.2
theorem Cb.get: ∀{cs:List Tm},Cb cs-> ∀c∈cs,VT c
  |[],_,c,hc=>by cases hc
  |d::cs,h,c,hc=>by
    rw [Cb]at h;rcases List.mem_cons.1 hc with rfl|hc
    · exact h.1
    · exact h.2.get c hc
def kd (c:Tm):dA:=⟨c.root.kind,c.root.text,fm c⟩
theorem aez: ∀cs:List Tm,ER cs=cs.map kd
  |[]=>by rw [ER];rfl
  |c::cs=>by rw [Ls,aez cs];rfl
theorem ami (x:Nd) (cs:List Tm):fm (.mk x cs)=Ko x (cs.map kd):=by rw [ZN,aez]
theorem Cc {x:Nd} (cs:List Tm) (f:Bool) (h:(fq x.kind x.text).2=false):fm (.mk x cs) f=if(f&&fE x.kind)=true then 40::(DT x.kind x.n x.text x.names (cs.map kd)++[41])else DT x.kind x.n x.text x.names (cs.map kd):=by
  rw [ami];unfold Ko Oe;simp only [h,Bool.false_eq_true,if_false]
theorem Fp {x:Nd} (cs:List Tm) (f:Bool) {o:Operator} (h:fq x.kind x.text=(o,true)):fm (.mk x cs) f=Ca o (cs.map kd) f:=by
  have hk:x.kind=3:=by
    unfold fq at h;by_cases hk:x.kind=3
    · exact hk
    · rw [if_neg hk]at h;cases h
  rw [hk]at h;rw [ami];unfold Ko Oe;simp only [hk,h,if_true,show fE 3=false from rfl,Bool.and_false,Bool.false_eq_true,if_false]
inductive It where
  |pre (o:Operator)
  |inf (o:Operator)
  |post
  |call (l:List Tm)
  |je (s:Str)
  |base (t:Tm) (p:Bool)
structure Kt where
  t:Tm
  out:Bool->List It
def QA (k:Kt) (must f:Bool):List It:=if must=true then [.base k.t true]else k.out f
def vD (o:Operator) (f:Bool):Nat->List Kt->List It
  |_,[]=>[]
  |i,c::l=>match l with
    |[]=>QA c (j3 o i (kd c.t)) f
    |d::m=>QA c (j3 o i (kd c.t)) true++ .inf o::vD o f (i+1) (d::m)
def yx (c:Tm):Bool:=(kd c).op.2||decide ((kd c).kind=0)
def YN (x:Nd) (cs:List Tm) (ks:List Kt) (f:Bool):List It:=
  if(f&&fE x.kind)=true then [.base (.mk x cs) true]else
  if(fq x.kind x.text).2=true then(match ks with
    |[]=>[]
    |c::_=>if(fq x.kind x.text).1.fix=2 then QA c (zf (fq x.kind x.text).1 (kd c.t)) true++[.post]else if(fq x.kind x.text).1.fix=0 then .pre (fq x.kind x.text).1::QA c (zh (fq x.kind x.text).1 (kd c.t)) f else vD (fq x.kind x.text).1 f 0 ks)else
  if x.kind=14 then(match ks with|[]=>[]|c::_=>QA c (yx c.t) true++[.call (cs.drop 1)])else
  if x.kind=18 then(match ks with|[]=>[]|c::_=>QA c (yx c.t) true++[.je x.text])else [.base (.mk x cs) false]
mutual
def items:Tm->Bool->List It
  | .mk x cs=>YN x cs (its cs)
def its:List Tm->List Kt
  |[]=>[]
  |c::cs=>⟨c,items c⟩::its cs
end
def kt (c:Tm):Kt:=⟨c,items c⟩
theorem aeA: ∀cs:List Tm,its cs=cs.map kt
  |[]=>by rw [its];rfl
  |c::cs=>by rw [its,aeA cs];rfl
theorem Dk (x:Nd) (cs:List Tm):items (.mk x cs)=YN x cs (cs.map kt):=by rw [items,aeA]
def oi (c:Tm) (must f:Bool):List It:=if must=true then [.base c true]else items c f
theorem ab6 (c:Tm) (m f:Bool):QA (kt c) m f=oi c m f:=rfl
def txt:It->Str
  | .pre o=>zi o
  | .inf o=>32::(o.text++[32])
  | .post=>[39]
  | .call l=>91::(iT (l.map kd)++[93])
  | .je s=>46::s
  | .base t p=>if p=true then 40::(fm t false++[41])else fm t false
def ji (l:List It):Str:=(l.map txt).flatten
theorem fu (a:It) (l:List It):ji (a::l)=txt a++ji l:=rfl
theorem Pk (a b:List It):ji (a++b)=ji a++ji b:=by unfold ji;rw [List.map_append,List.flatten_append]
theorem u6 (a:It):ji [a]=txt a:=by simp [ji]
theorem IV {t:Str}:fq 3 t=bH bU t:=rfl
theorem Oi {o:Operator} {c:Tm} (hf:o.fix=0) (hop:bH bU o.text=(o,true)) (f:Bool):items (.mk ⟨3,0,o.text,[],[]⟩ [c]) f= .pre o::oi c (zh o (kd c)) f:=by
  rw [Dk];unfold YN;simp only [IV,hop,hf,show fE 3=false from rfl,Bool.and_false,Bool.false_eq_true,if_false,if_true,List.map_cons,List.map_nil,show ¬(0:Int)=2 by decide];rfl
theorem Oj {o:Operator} {c:Tm} (hf:o.fix=2) (hop:bH bU o.text=(o,true)) (f:Bool):items (.mk ⟨3,0,o.text,[],[]⟩ [c]) f=oi c (zf o (kd c)) true++[.post]:=by
  rw [Dk];unfold YN;simp only [IV,hop,hf,show fE 3=false from rfl,Bool.and_false,Bool.false_eq_true,if_false,if_true,List.map_cons,List.map_nil];rfl
theorem Ku {o:Operator} {c d:Tm} {cs:List Tm} (hf:o.fix=1) (hop:bH bU o.text=(o,true)) (f:Bool):items (.mk ⟨3,0,o.text,[],[]⟩ (c::d::cs)) f=vD o f 0 ((c::d::cs).map kt):=by
  rw [Dk];unfold YN;simp only [IV,hop,hf,show fE 3=false from rfl,Bool.and_false,Bool.false_eq_true,if_false,if_true,List.map_cons,show ¬(1:Int)=2 by decide,show ¬(1:Int)=0 by decide]
theorem Kv {c:Tm} {cs:List Tm} (f:Bool):items (.mk ⟨14,0,[],[],[]⟩ (c::cs)) f=oi c (yx c) true++[.call cs]:=by
  rw [Dk];unfold YN;simp only [show fE 14=false from rfl,Bool.and_false,Bool.false_eq_true,if_false,if_true,List.map_cons,show(fq 14 []).2=false from rfl];rfl
theorem Ol {s:Str} {c:Tm} (f:Bool):items (.mk ⟨18,0,s,[],[]⟩ [c]) f=oi c (yx c) true++[.je s]:=by
  rw [Dk];unfold YN;simp only [show fE 18=false from rfl,Bool.and_false,Bool.false_eq_true,if_false,if_true,List.map_cons,List.map_nil,show(fq 18 s).2=false from rfl,show ¬(18:Int)=14 by decide];rfl
def gP (t:Tm):Bool:= !(fq t.root.kind t.root.text).2&& !decide (t.root.kind=14)&& !decide (t.root.kind=18)
theorem Kw {t:Tm} (h:gP t=true) (f:Bool):items t f=[.base t (f&&fE t.root.kind)]:=by
  obtain⟨x,cs⟩:=t;unfold gP at h;simp only [Bool.and_eq_true,Bool.not_eq_true',decide_eq_false_iff_not]at h;obtain⟨⟨h1,h2⟩,h3⟩:=h;have h1:(fq x.kind x.text).2=false:=h1;rw [Dk];unfold YN;simp only [h1,Bool.false_eq_true,if_false,show ¬x.kind=14 from h2,show ¬x.kind=18 from h3];cases hh:(f&&fE x.kind)with
  |true=>rw [if_pos rfl];rw [show(Tm.mk x cs).root=x from rfl,hh]
  |false=>rw [if_neg (by simp)];rw [show(Tm.mk x cs).root=x from rfl,hh]
theorem xQ {t:Tm} (h:uT t):gP t=true\/(∃o c,o∈lH/\o.fix=0/\bH bU o.text=(o,true)/\t= .mk ⟨3,0,o.text,[],[]⟩ [c])\/(∃o c,o∈lH/\o.fix=2/\bH bU o.text=(o,true)/\t= .mk ⟨3,0,o.text,[],[]⟩ [c])\/
    (∃o c d cs,o∈lH/\o.fix=1/\bH bU o.text=(o,true)/\(o.left=true->cs=[])/\t= .mk ⟨3,0,o.text,[],[]⟩ (c::d::cs))\/(∃c d cs,t= .mk ⟨14,0,[],[],[]⟩ (c::d::cs))\/ ∃s c,rName s=true/\t= .mk ⟨18,0,s,[],[]⟩ [c]:=by
  cases h with
  |app s c cs h h2=>
    refine .inl ?_;unfold gP;simp only [show(Tm.mk ⟨3,0,s,[],[]⟩ (c::cs)).root=⟨3,0,s,[],[]⟩from rfl,IV,h2];rfl
  |pre o c ho hf hop=>exact .inr (.inl ⟨o,c,ho,hf,hop,rfl⟩)
  |pos o c ho hf hop=>exact .inr (.inr (.inl ⟨o,c,ho,hf,hop,rfl⟩))
  |inf o c d cs ho hf hop hl=>exact .inr (.inr (.inr (.inl ⟨o,c,d,cs,ho,hf,hop,hl,rfl⟩)))
  |call c d cs=>exact .inr (.inr (.inr (.inr (.inl ⟨c,d,cs,rfl⟩))))
  |je s c h=>exact .inr (.inr (.inr (.inr (.inr ⟨s,c,h,rfl⟩))))
  |bM k cs hk=>rcases hk with rfl|rfl<;>exact .inl rfl
  |MB k names cs b hk=>rcases hk with rfl|rfl|rfl|rfl|rfl|rfl<;>exact .inl rfl
  |any k names b hk=>rcases hk with rfl|rfl|rfl<;>exact .inl rfl
  |bin k a b hk=>rcases hk with rfl|rfl|rfl|rfl|rfl<;>exact .inl rfl
  |YM k names cs hk=>rcases hk with rfl|rfl<;>exact .inl rfl
  |ME k a b c hk=>rcases hk with rfl|rfl<;>exact .inl rfl
  |_=>exact .inl rfl
theorem Ky {c:Tm} {m f:Bool} (h:ji (items c f)=fm c f):ji (oi c m f)=fV (kd c) m f:=by
  unfold oi fV;cases m with
  |true=>exact u6 _
  |false=>exact h
theorem aeB {o:Operator} {f:Bool}: ∀(l:List Tm) (i:Nat),(∀c∈l,∀f,ji (items c f)=fm c f)->ji (vD o f i (l.map kt))=Lib.join (j4 o f i (l.map kd)) (32::(o.text++[32]))
  |[],i,h=>rfl
  |[c],i,h=>by
    rw [List.map_cons,List.map_nil,List.map_cons,List.map_nil];show ji (QA (kt c) (j3 o i (kd c)) f)=Lib.join [fV (kd c) (j3 o i (kd c)) (f|| !([]:List dA).isEmpty)] _
    rw [ab6,Ky (h c (by simp) f),dO];simp [Lib.joinTail]
  |c::d::m,i,h=>by
    have ih:=aeB (o:=o) (f:=f) (d::m) (i+1) (fun x hx=>h x (List.mem_cons_of_mem _ hx));have e1:ji (vD o f i ((c::d::m).map kt))=ji (oi c (j3 o i (kd c)) true)++(txt (.inf o)++ji (vD o f (i+1) ((d::m).map kt))):=by
      rw [<-fu,<-Pk];rfl
    have e2:j4 o f i ((c::d::m).map kd)=fV (kd c) (j3 o i (kd c)) true::j4 o f (i+1) ((d::m).map kd):=by
      show fV (kd c) (j3 o i (kd c)) (f||true)::_=_
      rw [Bool.or_true]
    rw [e1,e2,ih,Ky (h c (by simp) true),dO];have e3:j4 o f (i+1) ((d::m).map kd)=fV (kd d) (j3 o (i+1) (kd d)) (f|| !(m.map kd).isEmpty)::j4 o f (i+1+1) (m.map kd):=rfl;rw [e3,dO];simp [Lib.joinTail,txt]
mutual
theorem iF: ∀(t:Tm),VT t-> ∀f,ji (items t f)=fm t f
  | .mk x cs,h,f=>by
    have ih:=ab7 cs h.kids;rcases xQ h.bX with ha|⟨o,c,ho,hf,hop,e⟩|⟨o,c,ho,hf,hop,e⟩|⟨o,c,d,m,ho,hf,hop,hl,e⟩|⟨c,d,m,e⟩|⟨s,c,hs,e⟩
    · rw [Kw ha f,u6];unfold gP at ha;simp only [Bool.and_eq_true,Bool.not_eq_true']at ha;have hno:(fq x.kind x.text).2=false:=ha.1.1;show(if(f&&fE x.kind)=true then 40::(fm (.mk x cs) false++[41])else fm (.mk x cs) false)=_
      rw [Cc cs f hno,Cc cs false hno];simp only [Bool.false_and,Bool.false_eq_true,if_false]
    · cases e;rw [Oi hf hop,fu,Ky (ih c (by simp) f),Fp (x:=⟨3,0,o.text,[],[]⟩) (o:=o) _ _ hop];simp only [Ca,List.map_cons,hf,show ¬(0:Int)=2 by decide,if_false,if_true];rfl
    · cases e;have h39:o.text=[39]:=by
        have:=T9 o ho;unfold RY at this;simp only [hf,decide_true,Bool.not_true,Bool.false_or,Bool.and_eq_true,decide_eq_true_eq]at this;exact this.1.1.2
      rw [Oj hf hop,Pk,u6,Ky (ih c (by simp) true),Fp (x:=⟨3,0,o.text,[],[]⟩) (o:=o) _ _ hop];simp only [Ca,List.map_cons,hf,if_true,h39];rfl
    · cases e;rw [Ku hf hop,aeB _ _ ih,Fp (x:=⟨3,0,o.text,[],[]⟩) (o:=o) _ _ hop];simp only [Ca,List.map_cons,hf,show ¬(1:Int)=2 by decide,show ¬(1:Int)=0 by decide,if_false]
    · cases e;rw [Kv,Pk,u6,Ky (ih c (by simp) true),Cc _ _ rfl];simp only [show fE 14=false from rfl,Bool.and_false,Bool.false_eq_true,if_false];rfl
    · cases e;rw [Ol,Pk,u6,Ky (ih c (by simp) true),Cc _ _ rfl];simp only [show fE 18=false from rfl,Bool.and_false,Bool.false_eq_true,if_false];rfl
theorem ab7: ∀(cs:List Tm),Cb cs-> ∀c∈cs,∀f,ji (items c f)=fm c f
  |[],_,c,hc=>by cases hc
  |d::cs,h,c,hc=>by
    rw [Cb]at h;by_cases e:c=d
    · rw [e];exact iF d h.1
    · exact ab7 cs h.2 c ((List.mem_cons.1 hc).resolve_left e)
end
def wt (t:Tm) (p:Bool):Nat:=2*t.size+(if p=true then 1 else 0)
def wf (w:Nat) (g:Bool):Bool->List It->Prop
  |true,.pre o::l=>o∈EI/\wf w g true l
  |true,.base t p::l=>(VT t/\(p=false->gP t=true)/\wt t p<=w/\(p=false->fE t.root.kind=true->g=true/\l=[]))/\wf w g false l
  |false,[]=>True
  |false,.post::l=>wf w g false l
  |false,.call ts::l=>(ts≠[]/\ ∀c∈ts,VT c/\2*c.size+1<w)/\wf w g false l
  |false,.je s::l=>rName s=true/\wf w g false l
  |false,.inf o::l=>(o∈lH/\o.fix=1)/\wf w g true l
  |_,_=>False
theorem jL {w w':Nat} {g g':Bool} (hw:w<=w') (hg:g=true->g'=true): ∀(l:List It) (n:Bool),wf w g n l->wf w' g' n l
  |[],n,h=>by cases n<;>exact h
  | .pre o::l,n,h=>by
    cases n
    · exact h
    · exact⟨h.1,jL hw hg l true h.2⟩
  | .base t p::l,n,h=>by
    cases n
    · exact h
    · obtain⟨⟨h1,h2,h3,h4⟩,h5⟩:=h;exact⟨⟨h1,h2,Nat.le_trans h3 hw,fun a b=>⟨hg (h4 a b).1,(h4 a b).2⟩⟩,jL hw hg l false h5⟩
  | .post::l,n,h=>by
    cases n
    · exact jL hw hg l false h
    · exact h
  | .call ts::l,n,h=>by
    cases n
    · exact⟨⟨h.1.1,fun c hc=>⟨(h.1.2 c hc).1,Nat.lt_of_lt_of_le (h.1.2 c hc).2 hw⟩⟩,jL hw hg l false h.2⟩
    · exact h
  | .je s::l,n,h=>by
    cases n
    · exact⟨h.1,jL hw hg l false h.2⟩
    · exact h
  | .inf o::l,n,h=>by
    cases n
    · exact⟨h.1,jL hw hg l true h.2⟩
    · exact h
theorem yU {w:Nat} {g:Bool} {m:List It} (hm:wf w g false m): ∀(l:List It) (n:Bool),wf w false n l->wf w g n (l++m)
  |[],n,h=>by
    cases n
    · exact hm
    · exact h.elim
  | .pre o::l,n,h=>by
    cases n
    · exact h
    · exact⟨h.1,yU hm l true h.2⟩
  | .base t p::l,n,h=>by
    cases n
    · exact h
    · obtain⟨⟨h1,h2,h3,h4⟩,h5⟩:=h;exact⟨⟨h1,h2,h3,fun a b=>by cases(h4 a b).1⟩,yU hm l false h5⟩
  | .post::l,n,h=>by
    cases n
    · exact yU hm l false h
    · exact h
  | .call ts::l,n,h=>by
    cases n
    · exact⟨h.1,yU hm l false h.2⟩
    · exact h
  | .je s::l,n,h=>by
    cases n
    · exact⟨h.1,yU hm l false h.2⟩
    · exact h
  | .inf o::l,n,h=>by
    cases n
    · exact⟨h.1,yU hm l true h.2⟩
    · exact h
theorem RZ: ∀{cs:List Tm},∀c∈cs,c.size<=sizes cs
  |[],c,hc=>by cases hc
  |d::cs,c,hc=>by
    simp only [sizes];rcases List.mem_cons.1 hc with rfl|hc
    · omega
    · have:=RZ c hc;omega
theorem uz {x:Nd} {cs:List Tm} {c:Tm} (hc:c∈cs):c.size+1<=(Tm.mk x cs).size:=by
  have:=RZ c hc;simp only [size];omega
theorem aeC {w:Nat} {g:Bool} {o:Operator} {l:List It} (ho:o∈lH) (hf:o.fix=1) (h:wf w g true l):wf w g false (.inf o::l):=⟨⟨ho,hf⟩,h⟩
theorem aj4 {w:Nat} {g:Bool}:wf w g false [.post]:=trivial
theorem aj5 {w:Nat} {g:Bool} {ts:List Tm} (h:ts≠[]/\ ∀c∈ts,VT c/\2*c.size+1<w):wf w g false [.call ts]:=⟨h,trivial⟩
theorem anK {w:Nat} {g:Bool} {s:Str} (h:rName s=true):wf w g false [.je s]:=⟨h,trivial⟩
theorem XR {w:Nat} {g:Bool} {c:Tm} (hc:VT c) (hw:2*c.size+1<=w):wf w g true [.base c true]:=⟨⟨hc,fun h=>Bool.noConfusion h,hw,fun h=>Bool.noConfusion h⟩,trivial⟩
theorem Pm {w:Nat} {c:Tm} {m f:Bool} (hc:VT c) (hw:2*c.size+1<=w) (h:wf (2*c.size+1) (!f) true (items c f)):wf w (!f) true (oi c m f):=by
  unfold oi;cases m with
  |true=>
    rw [if_pos rfl];exact XR hc hw
  |false=>rw [if_neg (by simp)];exact jL hw id _ _ h
theorem aeD {o:Operator} (ho:o∈lH) (hf:o.fix=1) {w:Nat} {f:Bool}: ∀(l:List Tm) (i:Nat),l≠[]->(∀c∈l,VT c/\2*c.size+1<=w/\ ∀f,wf (2*c.size+1) (!f) true (items c f))->wf w (!f) true (vD o f i (l.map kt))
  |[],i,h0,h=>absurd rfl h0
  |[c],i,h0,h=>by
    obtain⟨h1,h2,h3⟩:=h c (by simp);show wf w (!f) true (QA (kt c) (j3 o i (kd c)) f)
    rw [ab6];exact Pm h1 h2 (h3 f)
  |c::d::m,i,h0,h=>by
    obtain⟨h1,h2,h3⟩:=h c (by simp);have ih:=aeD ho hf (f:=f) (d::m) (i+1) (by simp) (fun x hx=>h x (List.mem_cons_of_mem _ hx));show wf w (!f) true (QA (kt c) (j3 o i (kd c)) true++ .inf o::vD o f (i+1) ((d::m).map kt))
    rw [ab6];exact yU (aeC ho hf ih) _ _ (Pm (f:=true) h1 h2 (h3 true))
mutual
theorem G6: ∀(t:Tm),VT t-> ∀f,wf (2*t.size+(if f=true then 1 else 0)) (!f) true (items t f)
  | .mk x cs,h,f=>by
    have ih:=aeE cs h.kids;have hg:=h.kids.get;rcases xQ h.bX with ha|⟨o,c,ho,hf,hop,e⟩|⟨o,c,ho,hf,hop,e⟩|⟨o,c,d,m,ho,hf,hop,hl,e⟩|⟨c,d,m,e⟩|⟨s,c,hs,e⟩
    · rw [Kw ha f];refine⟨⟨h,fun _=>ha,?_,fun h1 h2=> ?_⟩,trivial⟩
      · unfold wt;cases f
        · simp
        · cases hh:fE (Tm.mk x cs).root.kind<;>simp
      · rw [h2]at h1;simp only [Bool.and_true]at h1;rw [h1];exact⟨rfl,rfl⟩
    · cases e;have hs:=uz (x:=⟨3,0,o.text,[],[]⟩) (cs:=[c]) (c:=c) (by simp);rw [Oi hf hop];exact⟨anJ ho hf,Pm (hg c (by simp)) (by omega) (ih c (by simp) f)⟩
    · cases e;have hs:=uz (x:=⟨3,0,o.text,[],[]⟩) (cs:=[c]) (c:=c) (by simp);rw [Oj hf hop];exact yU aj4 _ _ (Pm (f:=true) (hg c (by simp)) (by omega) (ih c (by simp) true))
    · cases e;rw [Ku hf hop];refine aeD ho hf _ _ (by simp) fun y hy=>⟨hg y hy,?_,ih y hy⟩
      have:=uz (x:=⟨3,0,o.text,[],[]⟩) (cs:=c::d::m) hy;omega
    · cases e;rw [Kv];have hs:=fun y hy=>uz (x:=⟨14,0,[],[],[]⟩) (cs:=c::d::m) (c:=y) hy;refine yU (aj5 ⟨by simp,fun y hy=>⟨hg y (List.mem_cons_of_mem _ hy),?_⟩⟩) _ _ (Pm (f:=true) (hg c (by simp)) ?_ (ih c (by simp) true))
      · have:=hs y (List.mem_cons_of_mem _ hy);omega
      · have:=hs c (by simp);omega
    · cases e;have hs2:=uz (x:=⟨18,0,s,[],[]⟩) (cs:=[c]) (c:=c) (by simp);rw [Ol];exact yU (anK hs) _ _ (Pm (f:=true) (hg c (by simp)) (by omega) (ih c (by simp) true))
theorem aeE: ∀(cs:List Tm),Cb cs-> ∀c∈cs,∀f,wf (2*c.size+1) (!f) true (items c f)
  |[],_,c,hc=>by cases hc
  |d::cs,h,c,hc=>by
    rw [Cb]at h;by_cases e:c=d
    · rw [e];exact fun f=>jL (by cases f<;>simp) id _ _ (G6 d h.1 f)
    · exact aeE cs h.2 c ((List.mem_cons.1 hc).resolve_left e)
end
theorem amj {t:Tm} (h:VT t) (f:Bool):wf (2*t.size+1) true true (items t f):=jL (by cases f<;>simp) (fun _=>rfl) _ _ (G6 t h f)
theorem Eh {t:Tm} (h:VT t):wf (2*t.size) true true (items t false):=jL (Nat.le_refl _) (fun _=>rfl) _ _ (G6 t h false)
def kV (l:List It):List Operator:=l.filterMap fun| .inf o=>some o|_=>none
theorem zH (a b:List It):kV (a++b)=kV a++kV b:=by unfold kV;rw [List.filterMap_append]
theorem aj6 (o:Operator) (l:List It):kV (.pre o::l)=kV l:=rfl
theorem zI (o:Operator) (l:List It):kV (.inf o::l)=o::kV l:=rfl
theorem yV {o:Operator} (ho:o∈lH):o.low<=o.high:=by
  have:=T9 o ho;unfold RY at this;simp only [Bool.and_eq_true,decide_eq_true_eq]at this;exact this.1.1.1.1.1
def Fq (L:List It):Prop:= ∃t p l,L= .base t p::l
inductive Inv (t:Tm) (L:List It):Prop
  |unit (h1:kV L=[]) (h2:Fq L) (h3: ∀o,(kd t).op=(o,true)->o.fix=2)
  |pre (o:Operator) (ho:o∈lH) (hf:o.fix=0) (hop:(kd t).op=(o,true)) (h1: ∃l,L= .pre o::l) (h2: ∀y∈kV L,o.low<y.low)
  |inf (o:Operator) (ho:o∈lH) (hf:o.fix=1) (hop:(kd t).op=(o,true)) (h1:o∈kV L) (h2: ∀y∈kV L,y=o\/o.high<y.low) (h3: ∀q l,L= .pre q::l->o.high<q.low)
theorem af7 (c:Tm):(kd c).op=fq c.root.kind c.root.text:=rfl
theorem Dl {o:Operator} (ho:o∈lH) (hf:o.fix=1) (hop:bH bU o.text=(o,true)) {c:Tm} {i:Nat} {f:Bool} (hc:Inv c (items c f)):
    (∀y∈kV (oi c (j3 o i (kd c)) f),(y=o/\i=0/\o.left=true)\/o.high<y.low)/\(∀q l,oi c (j3 o i (kd c)) f= .pre q::l->o.high<q.low):=by
  unfold oi;cases hm:j3 o i (kd c)with
  |true=>
    rw [if_pos rfl];exact⟨fun y hy=>(List.not_mem_nil hy).elim,fun q l e=>by cases e⟩
  |false=>
    rw [if_neg (by simp)];have hz: ∀z,(kd c).op=(z,true)->o.high<z.low\/(i=0/\z=o/\o.left=true):=by
      intro z e;unfold j3 at hm;rw [e]at hm;simp only [Bool.true_and,Bool.and_eq_false_iff,decide_eq_false_iff_not,Bool.not_eq_false',Bool.and_eq_true,decide_eq_true_eq]at hm;rcases hm with hm|⟨⟨h1,h2⟩,h3⟩
      · exact .inl (by omega)
      · refine .inr ⟨h1,?_,h3⟩;rw [af7]at e;unfold fq at e;by_cases h3:c.root.kind=3
        · rw [if_pos h3]at e;have:=(af4 e).2;rw [<-this,h2,hop]at e;exact(Prod.mk.inj e).1.symm
        · rw [if_neg h3]at e;cases e
    cases hc with
    |unit h1 h2 h3=>
      rw [h1];obtain⟨t,p,l,e⟩:=h2;exact⟨fun y hy=>(List.not_mem_nil hy).elim,fun q l' e'=>by rw [e]at e';cases e'⟩
    |pre z hz1 hz2 hz3 h1 h2=>
      have hlt:o.high<z.low:=by
        rcases hz z hz3 with h|⟨_,rfl,_⟩
        · exact h
        · omega
      obtain⟨l,e⟩:=h1;refine⟨fun y hy=> .inr (by have:=h2 y hy;omega),fun q l' e'=> ?_⟩;rw [e]at e';cases e';exact hlt
    |inf z hz1 hz2 hz3 h1 h2 h3=>
      have hzl:=yV hz1;rcases hz z hz3 with hlt|⟨h0,rfl,hl⟩
      · refine⟨fun y hy=> ?_,fun q l' e'=> ?_⟩
        · rcases h2 y hy with rfl|h
          · exact .inr hlt
          · exact .inr (by omega)
        · have:=h3 q l' e';omega
      · refine⟨fun y hy=> ?_,fun q l' e'=>h3 q l' e'⟩;rcases h2 y hy with rfl|h
        · exact .inl ⟨rfl,h0,hl⟩
        · exact .inr h
theorem zJ (o:Operator) (f:Bool) (i:Nat) (c d:Tm) (m:List Tm):vD o f i ((c::d::m).map kt)=oi c (j3 o i (kd c)) true++ .inf o::vD o f (i+1) ((d::m).map kt):=rfl
theorem zK (o:Operator) (f:Bool) (i:Nat) (c:Tm):vD o f i ([c].map kt)=oi c (j3 o i (kd c)) f:=rfl
theorem ab8 {o:Operator} (ho:o∈lH) (hf:o.fix=1) (hop:bH bU o.text=(o,true)) {f:Bool}: ∀(l:List Tm) (i:Nat),(∀c∈l,∀f,Inv c (items c f))-> ∀y∈kV (vD o f i (l.map kt)),y=o\/o.high<y.low
  |[],i,h,y,hy=>(List.not_mem_nil hy).elim
  |[c],i,h,y,hy=>by
    rw [zK]at hy;exact((Dl ho hf hop (i:=i) (h c (by simp) f)).1 y hy).imp (fun h=>h.1) id
  |c::d::m,i,h,y,hy=>by
    rw [zJ,zH,zI,List.mem_append,List.mem_cons]at hy;rcases hy with hy|rfl|hy
    · exact((Dl ho hf hop (i:=i) (h c (by simp) true)).1 y hy).imp (fun h=>h.1) id
    · exact .inl rfl
    · exact ab8 ho hf hop (d::m) (i+1) (fun x hx=>h x (List.mem_cons_of_mem _ hx)) y hy
theorem af8 {c:Tm} {m f:Bool} (hc:Inv c (items c f)): ∃a l,oi c m f=a::l:=by
  unfold oi;cases m with
  |true=>exact⟨_,_,rfl⟩
  |false=>
    rw [if_neg (by simp)];cases hc with
    |unit h1 h2 h3=>obtain⟨t,p,l,e⟩:=h2;exact⟨_,_,e⟩
    |pre o ho hf hop h1 h2=>obtain⟨l,e⟩:=h1;exact⟨_,_,e⟩
    |inf o ho hf hop h1 h2 h3=>
      cases h:items c f with
      |nil=>rw [h]at h1;exact(List.not_mem_nil h1).elim
      |cons a l=>exact⟨a,l,rfl⟩
theorem XT {c:Tm} {m f:Bool} (hc:Inv c (items c f)) (hm: ∀o,(kd c).op=(o,true)->m=false->o.fix=2):kV (oi c m f)=[]/\Fq (oi c m f):=by
  unfold oi;cases m with
  |true=>exact⟨rfl,_,_,_,rfl⟩
  |false=>
    rw [if_neg (by simp)];cases hc with
    |unit h1 h2 h3=>exact⟨h1,h2⟩
    |pre o ho hf hop h1 h2=>have:=hm o hop rfl;omega
    |inf o ho hf hop h1 h2 h3=>have:=hm o hop rfl;omega
theorem Om {a b:List It} (h:Fq a):Fq (a++b):=by
  obtain⟨t,p,l,rfl⟩:=h;exact⟨t,p,l++b,rfl⟩
theorem aj7 {o:Operator} (ho:o∈lH) (hf:o.fix=2):o.text=[39]:=by
  have:=T9 o ho;unfold RY at this;simp only [hf,decide_true,Bool.not_true,Bool.false_or,Bool.and_eq_true,decide_eq_true_eq]at this;exact this.1.1.2
theorem anL {c:Tm} {o z:Operator} (hop:bH bU o.text=(o,true)) (e:(kd c).op=(z,true)) (ht:z.text=o.text):z=o:=by
  rw [af7]at e;unfold fq at e;by_cases h3:c.root.kind=3
  · rw [if_pos h3]at e;have:=(af4 e).2;rw [<-this,ht,hop]at e;exact(Prod.mk.inj e).1.symm
  · rw [if_neg h3]at e;cases e
mutual
theorem IW: ∀(t:Tm),VT t-> ∀f,Inv t (items t f)
  | .mk x cs,h,f=>by
    have ih:=ab9 cs h.kids;rcases xQ h.bX with ha|⟨o,c,ho,hf,hop,e⟩|⟨o,c,ho,hf,hop,e⟩|⟨o,c,d,m,ho,hf,hop,hl,e⟩|⟨c,d,m,e⟩|⟨s,c,hs,e⟩
    · refine .unit ?_ ?_ ?_
      · rw [Kw ha f];rfl
      · rw [Kw ha f];exact⟨_,_,_,rfl⟩
      · intro o e;unfold gP at ha;simp only [Bool.and_eq_true,Bool.not_eq_true']at ha;have:=ha.1.1;rw [af7]at e;rw [e]at this;cases this
    · cases e;refine .pre o ho hf hop ⟨_,Oi hf hop f⟩ ?_;rw [Oi hf hop,aj6];have hol:=yV ho;intro y hy;unfold oi at hy;cases hm:zh o (kd c)with
      |true=>rw [hm,if_pos rfl]at hy;exact(List.not_mem_nil hy).elim
      |false=>
        rw [hm,if_neg (by simp)]at hy;unfold zh at hm;have hc:=ih c (by simp) f;cases hc with
        |unit h1 h2 h3=>rw [h1]at hy;exact(List.not_mem_nil hy).elim
        |pre z hz hzf Kz h1 h2=>
          rw [Kz]at hm;simp only [hzf,decide_true,Bool.true_and,Bool.or_eq_false_iff,decide_eq_false_iff_not]at hm;have:=hm.1.1;have:=h2 y hy;omega
        |inf z hz hzf Kz h1 h2 h3=>
          rw [Kz]at hm;simp only [hzf,show decide ((1:Int)=0)=false from rfl,Bool.not_false,Bool.false_and,Bool.true_and,Bool.false_or,Bool.or_eq_false_iff,decide_eq_false_iff_not]at hm;have:=hm.1;have hzl:=yV hz;rcases h2 y hy with rfl|h
          · omega
          · omega
    · cases e;have hu:=XT (m:=zf o (kd c)) (ih c (by simp) true) fun z hz hm=>by
        unfold zf at hm;rw [hz]at hm;simp only [Bool.true_and,Bool.not_eq_false',beq_iff_eq]at hm;rw [anL hop hz hm];exact hf
      refine .unit ?_ ?_ ?_
      · rw [Oj hf hop,zH,hu.1];rfl
      · rw [Oj hf hop];exact Om hu.2
      · intro z hz;have hz:bH bU o.text=(z,true):=hz;rw [hop]at hz;cases hz;exact hf
    · cases e;have h2:=ab8 ho hf hop (f:=f) (c::d::m) 0 ih;refine .inf o ho hf hop ?_ ?_ ?_
      · rw [Ku hf hop,zJ,zH,zI];simp
      · rw [Ku hf hop];exact h2
      · intro q l e;rw [Ku hf hop,zJ]at e;obtain⟨a,l',ea⟩:=af8 (m:=j3 o 0 (kd c)) (ih c (by simp) true);rw [ea,List.cons_append]at e;have e1:=(List.cons.inj e).1;subst e1;exact(Dl ho hf hop (i:=0) (ih c (by simp) true)).2 q l' ea
    · cases e;have hu:=XT (m:=yx c) (ih c (by simp) true) fun z hz hm=>by
        unfold yx at hm;rw [hz]at hm;cases hm
      refine .unit ?_ ?_ ?_
      · rw [Kv,zH,hu.1];rfl
      · rw [Kv];exact Om hu.2
      · intro z hz;cases hz
    · cases e;have hu:=XT (m:=yx c) (ih c (by simp) true) fun z hz hm=>by
        unfold yx at hm;rw [hz]at hm;cases hm
      refine .unit ?_ ?_ ?_
      · rw [Ol,zH,hu.1];rfl
      · rw [Ol];exact Om hu.2
      · intro z hz;cases hz
theorem ab9: ∀(cs:List Tm),Cb cs-> ∀c∈cs,∀f,Inv c (items c f)
  |[],_,c,hc=>by cases hc
  |d::cs,h,c,hc=>by
    rw [Cb]at h;by_cases e:c=d
    · rw [e];exact IW d h.1
    · exact ab9 cs h.2 c ((List.mem_cons.1 hc).resolve_left e)
end
theorem JF {o:Operator}: ∀{a a' b b':List It},o∉kV a->o∉kV a'->a++ .inf o::b=a'++ .inf o::b'->a=a'/\b=b'
  |[],[],b,b',_,_,h=>⟨rfl,(List.cons.inj h).2⟩
  |[],x::a',b,b',_,h2,h=>by
    have e:=(List.cons.inj h).1;subst e;exact(h2 (by rw [zI];exact List.mem_cons_self)).elim
  |x::a,[],b,b',h1,_,h=>by
    have e:=(List.cons.inj h).1;subst e;exact(h1 (by rw [zI];exact List.mem_cons_self)).elim
  |x::a,y::a',b,b',h1,h2,h=>by
    simp only [List.cons_append,List.cons.injEq]at h;have k: ∀(z:It) (l:List It),o∈kV l->o∈kV (z::l):=fun z l hl=>by
      cases z<;>first|exact hl|(rw [zI];exact List.mem_cons_of_mem _ hl)
    obtain⟨e1,e2⟩:=JF (fun hm=>h1 (k x a hm)) (fun hm=>h2 (k y a' hm)) h.2;exact⟨by rw [h.1,e1],e2⟩
theorem ace (l:List It):kV l.reverse=(kV l).reverse:=by unfold kV;rw [List.filterMap_reverse]
theorem af9 {o:Operator} {a a' b b':List It} (h1:o∉kV b) (h2:o∉kV b') (h:a++ .inf o::b=a'++ .inf o::b'):a=a'/\b=b':=by
  have:=congrArg List.reverse h;simp only [List.reverse_append,List.reverse_cons,List.append_assoc,List.singleton_append]at this;obtain⟨e1,e2⟩:=JF (by rw [ace];simpa using h1) (by rw [ace];simpa using h2) this;exact⟨List.reverse_inj.1 e2,List.reverse_inj.1 e1⟩
theorem R3 {t:Tm} {L:List It} (h:Inv t L) (hu: ∀o,(kd t).op=(o,true)->o.fix=2):kV L=[]/\Fq L:=by
  cases h with
  |unit h1 h2 h3=>exact⟨h1,h2⟩
  |pre o ho hf hop h1 h2=>have:=hu o hop;omega
  |inf o ho hf hop h1 h2 h3=>have:=hu o hop;omega
inductive Cas:Tm->List It->Prop
  |atom (t:Tm) (p:Bool) (h:gP t=true):Cas t [.base t p]
  |pre (o:Operator) (c:Tm) (f:Bool) (h2: ∀y∈kV (.pre o::oi c (zh o (kd c)) f),o.low<y.low):Cas (.mk ⟨3,0,o.text,[],[]⟩ [c]) (.pre o::oi c (zh o (kd c)) f)
  |pos (o:Operator) (c:Tm) (ht:o.text=[39]) (hu:kV (oi c (zf o (kd c)) true++[.post])=[]/\Fq (oi c (zf o (kd c)) true++[.post])):Cas (.mk ⟨3,0,o.text,[],[]⟩ [c]) (oi c (zf o (kd c)) true++[.post])
  |inf (o:Operator) (l:List Tm) (f:Bool) (h2:2<=l.length) (ho:o∈lH) (hf:o.fix=1) (hop:bH bU o.text=(o,true)) (hl:o.left=true->l.length=2) (hin:o∈kV (vD o f 0 (l.map kt))) (hall: ∀y∈kV (vD o f 0 (l.map kt)),y=o\/o.high<y.low)
      (hpre: ∀q l',vD o f 0 (l.map kt)= .pre q::l'->o.high<q.low):Cas (.mk ⟨3,0,o.text,[],[]⟩ l) (vD o f 0 (l.map kt))
  |call (c:Tm) (l:List Tm) (hu:kV (oi c (yx c) true++[.call l])=[]/\Fq (oi c (yx c) true++[.call l])):Cas (.mk ⟨14,0,[],[],[]⟩ (c::l)) (oi c (yx c) true++[.call l])
  |je (s:Str) (c:Tm) (hu:kV (oi c (yx c) true++[.je s])=[]/\Fq (oi c (yx c) true++[.je s])):Cas (.mk ⟨18,0,s,[],[]⟩ [c]) (oi c (yx c) true++[.je s])
theorem acg {t:Tm} (h:VT t) (f:Bool):Cas t (items t f):=by
  have hf':=h.bX;have hi:=IW t h f;rcases xQ hf' with ha|⟨o,c,ho,hf,hop,e⟩|⟨o,c,ho,hf,hop,e⟩|⟨o,c,d,m,ho,hf,hop,hl,e⟩|⟨c,d,m,e⟩|⟨s,c,hs,e⟩
  · rw [Kw ha f];exact .atom t _ ha
  · subst e;rw [Oi hf hop]at hi⊢;refine .pre o c f ?_;cases hi with
    |unit h1 h2 h3=>have:=h3 o hop;omega
    |pre z hz hzf Kz h1 h2=>
      obtain⟨l,e⟩:=h1;cases e;exact h2
    |inf z hz hzf Kz h1 h2 h3=>
      have e:(kd (.mk ⟨3,0,o.text,[],[]⟩ [c])).op=(o,true):=hop;rw [e]at Kz;cases Kz;omega
  · subst e;rw [Oj hf hop]at hi⊢;refine .pos o c (aj7 ho hf) (R3 hi fun z hz=> ?_);have e:(kd (.mk ⟨3,0,o.text,[],[]⟩ [c])).op=(o,true):=hop;rw [e]at hz;cases hz;exact hf
  · subst e;rw [Ku hf hop]at hi⊢;have e:(kd (.mk ⟨3,0,o.text,[],[]⟩ (c::d::m))).op=(o,true):=hop;cases hi with
    |unit h1 h2 h3=>have:=h3 o e;omega
    |pre z hz hzf Kz h1 h2=>rw [e]at Kz;cases Kz;omega
    |inf z hz hzf Kz h1 h2 h3=>
      rw [e]at Kz;cases Kz;exact .inf o _ f (by simp) ho hf hop (fun hh=>by rw [hl hh];rfl) h1 h2 h3
  · subst e;rw [Kv]at hi⊢;exact .call c _ (R3 hi fun z hz=>by cases hz)
  · subst e;rw [Ol]at hi⊢;exact .je s c (R3 hi fun z hz=>by cases hz)
theorem qE {α:Type} {a a':List α} {x y:α} (h:a++[x]=a'++[y]):a=a'/\x=y:=by
  have:=List.append_inj' h rfl;exact⟨this.1,by simpa using this.2⟩
theorem Ua {c:Tm} (h:VT c) (f:Bool):Inv c (items c f):=IW c h f
theorem ach {c:Tm} {m f:Bool} (h:VT c):oi c m f≠[]:=by
  obtain⟨a,l,e⟩:=af8 (m:=m) (Ua h f);rw [e];simp
theorem Oo {t u:Tm} {p f:Bool} (h:VT t) (e:items t f=[.base u p]):t=u:=by
  have hk: ∀{x:Nd} {cs:List Tm} {c:Tm},VT (.mk x cs)->c∈cs->VT c:=fun h hc=>h.kids.get _ hc;have hc:=acg h f;have snoc: ∀{a:List It} {x:It},a≠[]->a++[x]=[.base u p]->False:=by
    intro a x ha e;have:=congrArg List.length e;simp only [List.length_append,List.length_cons,List.length_nil]at this;exact ha (List.length_eq_zero_iff.1 (by omega))
  generalize items t f=L at hc e;cases hc with
  |atom t' q ha=>exact(It.base.inj (List.cons.inj e).1).1
  |pre o c f h2=>cases e
  |pos o c ht hu=>exact(snoc (ach (hk h (by simp))) e).elim
  |inf o l f h2 ho hf hop hl hin hall hpre=>
    rw [e]at hin;exact(List.not_mem_nil hin).elim
  |call c l hu=>exact(snoc (ach (hk h (by simp))) e).elim
  |je s c hu=>exact(snoc (ach (hk h (by simp))) e).elim
theorem Ei {c c':Tm} {m m' f f':Bool} (h:VT c) (h':VT c') (ih: ∀t' f',VT t'->items c f=items t' f'->c=t') (e:oi c m f=oi c' m' f'):c=c':=by
  unfold oi at e;cases m<;>cases m'
  · exact ih _ _ h' (by simpa using e)
  · simp only [Bool.false_eq_true,if_false,if_true]at e;exact Oo h e
  · simp only [Bool.false_eq_true,if_false,if_true]at e;exact(Oo h' e.symm).symm
  · simpa using e
theorem aci {o:Operator} (ho:o∈lH) (hf:o.fix=1) (hop:bH bU o.text=(o,true)): ∀(l l':List Tm) (i:Nat) (f f':Bool),1<=l.length->1<=l'.length->(1<=i\/o.left=false\/(l.length=2/\l'.length=2))->(∀c∈l,VT c/\ ∀f t' f',VT t'->items c f=items t' f'->c=t')->(∀c∈l',VT c)->vD o f i (l.map kt)=vD o f' i (l'.map kt)->l=l'
  |[],_,i,f,f',h,_,_,_,_,_=>by simp at h
  |_,[],i,f,f',_,h,_,_,_,_=>by simp at h
  |[c],[c'],i,f,f',_,_,_,hl,hl',e=>by
    rw [zK,zK]at e;rw [Ei (hl c (by simp)).1 (hl' c' (by simp)) (fun t' f'=>(hl c (by simp)).2 _ t' f') e]
  |[c],c'::d'::m',i,f,f',_,_,hi,hl,hl',e=>by
    rw [zK,zJ]at e;have h1:=(Dl ho hf hop (i:=i) (Ua (hl c (by simp)).1 f)).1 o (by rw [e,zH,zI];simp);have:=yV ho;rcases h1 with⟨_,h2,h3⟩|h
    · rcases hi with hi|hi|hi
      · omega
      · rw [h3]at hi;cases hi
      · have:=hi.1;simp at this
    · omega
  |c::d::m,[c'],i,f,f',_,_,hi,hl,hl',e=>by
    rw [zK,zJ]at e;have h1:=(Dl ho hf hop (i:=i) (Ua (hl' c' (by simp)) f')).1 o (by rw [<-e,zH,zI];simp);have:=yV ho;rcases h1 with⟨_,h2,h3⟩|h
    · rcases hi with hi|hi|hi
      · omega
      · rw [h3]at hi;cases hi
      · have:=hi.2;simp at this
    · omega
  |c::d::m,c'::d'::m',i,f,f',_,_,hi,hl,hl',e=>by
    rw [zJ,zJ]at e;have hol:=yV ho;have no: ∀{x:Tm} {j:Nat} {g:Bool},VT x->(1<=j\/o.left=false)->o∉kV (oi x (j3 o j (kd x)) g):=by
      intro x j g hx hj hm;rcases(Dl ho hf hop (i:=j) (Ua hx g)).1 o hm with⟨_,h2,h3⟩|h
      · rcases hj with hj|hj
        · omega
        · rw [h3]at hj;cases hj
      · omega
    have step:1<=i\/o.left=false->c::d::m=c'::d'::m':=by
      intro hj;obtain⟨e1,e2⟩:=JF (no (hl c (by simp)).1 hj) (no (hl' c' (by simp)) hj) e;rw [Ei (hl c (by simp)).1 (hl' c' (by simp)) (fun t' f'=>(hl c (by simp)).2 _ t' f') e1,aci ho hf hop (d::m) (d'::m') (i+1) f f' (by simp) (by simp) (.inl (by omega)) (fun x hx=>hl x (List.mem_cons_of_mem _ hx)) (fun x hx=>hl' x (List.mem_cons_of_mem _ hx)) e2]
    rcases hi with hi|hi|⟨h1,h2⟩
    · exact step (.inl hi)
    · exact step (.inr hi)
    · simp only [List.length_cons]at h1 h2;obtain rfl:m=[]:=List.length_eq_zero_iff.1 (by omega);obtain rfl:m'=[]:=List.length_eq_zero_iff.1 (by omega);rw [zK,zK]at e;obtain⟨e1,e2⟩:=af9 (no (hl d (by simp)).1 (.inl (by omega))) (no (hl' d' (by simp)) (.inl (by omega))) e;rw [Ei (hl c (by simp)).1 (hl' c' (by simp)) (fun t' f'=>(hl c (by simp)).2 _ t' f') e1,Ei (hl d (by simp)).1 (hl' d' (by simp)) (fun t' f'=>(hl d (by simp)).2 _ t' f') e2]
theorem aga {t t':Tm} {f f':Bool} (h:VT t) (h':VT t') (ih: ∀c∈t.kids,∀f t' f',VT t'->items c f=items t' f'->c=t') (e:items t f=items t' f'):t=t':=by
  have hk: ∀{x:Nd} {cs:List Tm} {c:Tm},VT (.mk x cs)->c∈cs->VT c:=fun h hc=>h.kids.get _ hc;have c1:=acg h f;have c2:=acg h' f';rw [<-e]at c2;generalize items t f=L at c1 c2;clear e;have KA: ∀{a:List It} {x y:It},x≠y->a++[x]=[y]->False:=by
    intro a x y hx e;have:=congrArg List.getLast? e;simp at this;exact hx this
  have bp: ∀{q:Operator} {l:List It},Fq (.pre q::l)->False:=fun⟨_,_,_,e⟩=>by cases e
  generalize hL:L=L' at c2;cases c1 with
  |atom _ p ha=>
    cases c2 with
    |atom _ p ha'=>exact(It.base.inj (List.cons.inj hL).1).1
    |pre o c f h2=>cases hL
    |pos o c ht hu=>exact(KA (by simp) hL.symm).elim
    |inf o l f h2 ho hf hop hl hin hall hpre=>rw [<-hL]at hin;exact(List.not_mem_nil hin).elim
    |call c l hu=>exact(KA (by simp) hL.symm).elim
    |je s c hu=>exact(KA (by simp) hL.symm).elim
  |pre o c f h2=>
    cases c2 with
    |atom _ p ha'=>cases hL
    |pre o' c' f' h2'=>
      have e1:=(List.cons.inj hL).1;cases e1;rw [Ei (hk h (by simp)) (hk h' (by simp)) (ih c (by simp [kids]) f) (List.cons.inj hL).2]
    |pos o c ht hu=>rw [<-hL]at hu;exact(bp hu.2).elim
    |inf o' l f' h2' ho hf hop hl hin hall hpre=>
      have h1:=hpre o _ hL.symm;rw [<-hL]at hin;have h3:=h2 o' hin;have:=yV ho;omega
    |call c l hu=>rw [<-hL]at hu;exact(bp hu.2).elim
    |je s c hu=>rw [<-hL]at hu;exact(bp hu.2).elim
  |pos o c ht hu=>
    cases c2 with
    |atom _ p ha'=>exact(KA (by simp) hL).elim
    |pre o' c' f' h2'=>rw [hL]at hu;exact(bp hu.2).elim
    |pos o' c' ht' hu'=>
      rw [ht,ht',Ei (hk h (by simp)) (hk h' (by simp)) (ih c (by simp [kids]) true) (qE hL).1]
    |inf o' l f' h2' ho hf hop hl hin hall hpre=>rw [<-hL,hu.1]at hin;exact(List.not_mem_nil hin).elim
    |call c l hu=>cases(qE hL).2
    |je s c hu=>cases(qE hL).2
  |inf o l f h2 ho hf hop hl hin hall hpre=>
    cases c2 with
    |atom _ p ha'=>rw [hL]at hin;exact(List.not_mem_nil hin).elim
    |pre o' c' f' h2'=>
      have h1:=hpre o' _ hL;rw [hL]at hin;have h3:=h2' o hin;have:=yV ho;omega
    |pos o' c' ht' hu'=>rw [hL,hu'.1]at hin;exact(List.not_mem_nil hin).elim
    |inf o' l' f' h2' ho' hf' hop' hl' hin' auz hpre'=>
      have k1:=hall o' (by rw [hL];exact hin');have k2:=auz o (by rw [<-hL];exact hin);have n1:=yV ho;have n2:=yV ho';have eo:o'=o:=by
        rcases k1 with k1|k1
        · exact k1
        · rcases k2 with k2|k2
          · exact k2.symm
          · omega
      subst eo;have hi:1<=0\/o'.left=false\/(l.length=2/\l'.length=2):=by
        cases hleft:o'.left with
        |false=>exact .inr (.inl rfl)
        |true=>exact .inr (.inr ⟨hl hleft,hl' hleft⟩)
      rw [aci ho hf hop l l' 0 f f' (by omega) (by omega) hi (fun c hc=>⟨hk h hc,ih c (by simpa [kids]using hc)⟩) (fun c hc=>hk h' hc) hL]
    |call c l hu=>rw [hL,hu.1]at hin;exact(List.not_mem_nil hin).elim
    |je s c hu=>rw [hL,hu.1]at hin;exact(List.not_mem_nil hin).elim
  |call c l hu=>
    cases c2 with
    |atom _ p ha'=>exact(KA (by simp) hL).elim
    |pre o' c' f' h2'=>rw [hL]at hu;exact(bp hu.2).elim
    |pos o' c' ht' hu'=>cases(qE hL).2
    |inf o' l f' h2' ho hf hop hl hin hall hpre=>rw [<-hL,hu.1]at hin;exact(List.not_mem_nil hin).elim
    |call c' l' hu'=>
      have e1:=(qE hL).2;cases e1;rw [Ei (hk h (by simp)) (hk h' (by simp)) (ih c (by simp [kids]) true) (qE hL).1]
    |je s c hu=>cases(qE hL).2
  |je s c hu=>
    cases c2 with
    |atom _ p ha'=>exact(KA (by simp) hL).elim
    |pre o' c' f' h2'=>rw [hL]at hu;exact(bp hu.2).elim
    |pos o' c' ht' hu'=>cases(qE hL).2
    |inf o' l f' h2' ho hf hop hl hin hall hpre=>rw [<-hL,hu.1]at hin;exact(List.not_mem_nil hin).elim
    |call c' l' hu'=>cases(qE hL).2
    |je s' c' hu'=>
      have e1:=(qE hL).2;cases e1;rw [Ei (hk h (by simp)) (hk h' (by simp)) (ih c (by simp [kids]) true) (qE hL).1]
mutual
theorem IX: ∀(t:Tm),VT t-> ∀f t' f',VT t'->items t f=items t' f'->t=t'
  | .mk x cs,h,f,t',f',h',e=>aga h h' (fun c hc=>Ub cs h.kids c hc) e
theorem Ub: ∀(cs:List Tm),Cb cs-> ∀c∈cs,∀f t' f',VT t'->items c f=items t' f'->c=t'
  |[],_,c,hc=>by cases hc
  |d::cs,h,c,hc=>by
    rw [Cb]at h;by_cases e:c=d
    · rw [e];exact IX d h.1
    · exact Ub cs h.2 c ((List.mem_cons.1 hc).resolve_left e)
end
end Go.VL
end
section
namespace Go.VL
def dval (s:Str):Nat:=s.foldl (fun a c=>a*10+(c.toNat -48)) 0
theorem FU {d:Nat} (h:d<10):(UInt8.ofNat (48+d)).toNat=48+d:=by
  rw [UInt8.toNat_ofNat'];omega
theorem R4: ∀(m u:Nat),u<=m->dval (Lib.decDigits u)=u
  |0,u,h=>by
    have:u=0:=by omega
    subst this;rw [Lib.decDigits,dif_pos (by omega)];simp only [dval,List.foldl_cons,List.foldl_nil,FU (show 0<10 by omega)]
  |m+1,u,h=>by
    rw [Lib.decDigits];split
    · rename_i h1;simp only [dval,List.foldl_cons,List.foldl_nil,FU h1];omega
    · have:=R4 m (u/10) (by omega);unfold dval at this⊢;rw [List.foldl_append,this];simp only [List.foldl_cons,List.foldl_nil,FU (show u% 10<10 by omega)];omega
theorem anM {u v:Nat} (h:Lib.decDigits u=Lib.decDigits v):u=v:=by
  rw [<-R4 u u (Nat.le_refl _),<-R4 v v (Nat.le_refl _),h]
theorem R5 (u:Nat):Lib.itoa (u:Int)=Lib.decDigits u:=by unfold Lib.itoa;rw [if_neg (by omega)];simp
theorem acj: ∀(m u:Nat),u<=m-> ∀c∈Lib.decDigits u,48<=c.toNat/\c.toNat<=57
  |0,u,h,c,hc=>by
    rw [Lib.decDigits,dif_pos (by omega)]at hc;rw [List.mem_singleton.1 hc,FU (by omega)];omega
  |m+1,u,h,c,hc=>by
    rw [Lib.decDigits]at hc;split at hc
    · rename_i h1;rw [List.mem_singleton.1 hc,FU h1];omega
    · rcases List.mem_append.1 hc with hc|hc
      · exact acj m (u/10) (by omega) c hc
      · rw [List.mem_singleton.1 hc,FU (by omega)];omega
end Go.VL
end
section
namespace Go.VL
open Tm
def rJ:List Str:=[[69,78,65,66,76,69,68],[85,78,67,72,65,78,71,69,68],[83,85,66,83,69,84],[85,78,73,79,78],[68,79,77,65,73,78],[73,70],[67,65,83,69],[76,69,84],[76,65,77,66,68,65],[67,72,79,79,83,69],[79,84,72,69,82]]
theorem asi: ∀w∈rJ,w∈JZ:=by
  have:(rJ.all fun w=>decide (w∈JZ))=true:=by kernel_rfl
  intro w hw;simpa using List.all_eq_true.1 this w hw
theorem anN: ∀w∈rJ,(33:UInt8)∉w:=by
  have:(rJ.all fun w=>decide ((33:UInt8)∉w))=true:=by kernel_rfl
  intro w hw;simpa using List.all_eq_true.1 this w hw
theorem ahX {w:Str} (h1: ∀k∈rJ,w≠k) (h2:w.take 3≠[87,70,95]) (h3:w.take 3≠[83,70,95]) (h4:w.all pI=false):Kq w=16:=by
  unfold Kq;rw [if_neg (h1 _ (by simp [rJ])),if_neg (h1 _ (by simp [rJ])),if_neg (h1 _ (by simp [rJ])),if_neg (h1 _ (by simp [rJ])),if_neg (h1 _ (by simp [rJ])),if_neg (h1 _ (by simp [rJ])),if_neg (h1 _ (by simp [rJ])),if_neg (h1 _ (by simp [rJ])),if_neg (h1 _ (by simp [rJ])),if_neg (h1 _ (by simp [rJ])),if_neg (h1 _ (by simp [rJ])),if_neg h2,if_neg h3,if_neg (by rw [h4];simp)]
theorem anO {c:UInt8} (h:isLet c=true):pI c=false:=by
  unfold isLet at h;unfold pI;simp only [Bool.or_eq_true,decide_eq_true_eq]at h;exact decide_eq_false (by omega)
structure NmS (s:Str):Prop where
  ne:s≠[]
  ch: ∀c∈s,jG c=true
  kw:Kq s=16
  wf:s.take 3≠[87,70,95]/\s.take 3≠[83,70,95]
theorem mG {s:Str} (h:rName s=true):NmS s:=by
  unfold rName bName at h;simp only [Bool.and_eq_true,Bool.not_eq_true',decide_eq_true_eq,decide_eq_false_iff_not]at h;obtain⟨⟨⟨⟨⟨h1,h2⟩,h3⟩,h4⟩,h5⟩,h6⟩:=h;have hw:s.take 3≠[87,70,95]/\s.take 3≠[83,70,95]:=by
    unfold TD at h6;simp only [Bool.or_eq_false_iff,decide_eq_false_iff_not]at h6;exact h6
  refine⟨fun e=>by rw [e]at h1;simp at h1,fun c hc=>List.all_eq_true.1 h3 c hc,ahX (fun k hk e=>h2 (e▸asi k hk)) hw.1 hw.2 ?_,hw⟩;obtain⟨c,hc,hl⟩:=List.any_eq_true.1 h4;rw [List.all_eq_false];exact⟨c,hc,by rw [anO hl];simp⟩
theorem rM {c:UInt8} (h:jG c=true):lF c=true:=by unfold lF;rw [h];rfl
theorem YO: ∀{s a b:Str},bang s=some (a,b)->s=a++33::b
  |[],a,b,h=>by cases h
  |c::s,a,b,h=>by
    rw [bang]at h;by_cases hc:c=33
    · rw [if_pos hc]at h;cases h;rw [hc];rfl
    · rw [if_neg hc]at h;obtain⟨⟨a',b'⟩,h1,h2⟩:=Option.map_eq_some_iff.1 h;cases h2;rw [YO h1];rfl
structure TmS (s:Str):Prop where
  ne:s≠[]
  ch: ∀c∈s,lF c=true
  kw:Kq s=16
theorem qp {s:Str} (h:(gq s||oJ s)=true):TmS s:=by
  rcases Bool.or_eq_true _ _▸h with h|h
  · unfold gq at h;cases hb:bang s with
    |none=>
      rw [hb]at h;have:=mG h;exact⟨this.ne,fun c hc=>rM (this.ch c hc),this.kw⟩
    |some p=>
      obtain⟨a,b⟩:=p;rw [hb]at h;simp only [Bool.and_eq_true]at h;have ha:=mG h.1;have hb':=mG h.2;have e:=YO hb;subst e;have hm:(33:UInt8)∈a++33::b:=by simp
      have tk: ∀w:Str,w.length=3->(33:UInt8)∉w->a.take 3≠w->(a++33::b).take 3≠w:=by
        intro w hl hw hne e;by_cases hal:3<=a.length
        · rw [List.take_append_of_le_length hal]at e;exact hne e
        · apply hw
          rw [<-e,List.take_append,List.mem_append];right;rw [show 3 -a.length=(2 -a.length)+1 by omega,List.take_succ_cons];exact List.mem_cons_self
      refine⟨by simp,fun c hc=> ?_,ahX (fun k hk e=>anN k hk (e▸hm)) (tk _ rfl (by decide) ha.wf.1) (tk _ rfl (by decide) ha.wf.2) ?_⟩
      · rcases List.mem_append.1 hc with hc|hc
        · exact rM (ha.ch c hc)
        · rcases List.mem_cons.1 hc with rfl|hc
          · rfl
          · exact rM (hb'.ch c hc)
      · rw [List.all_eq_false];exact⟨33,hm,by decide⟩
  · unfold oJ at h;simp only [Bool.or_eq_true,decide_eq_true_eq]at h;rcases h with((rfl|rfl)|rfl)|rfl
    · exact⟨by simp,fun c hc=>List.all_eq_true.1 (show(([84,82,85,69]:Str).all lF)=true by kernel_rfl) c hc,by rfl⟩
    · exact⟨by simp,fun c hc=>List.all_eq_true.1 (show(([70,65,76,83,69]:Str).all lF)=true by kernel_rfl) c hc,by rfl⟩
    · exact⟨by simp,fun c hc=>List.all_eq_true.1 (show(([66,79,79,76,69,65,78]:Str).all lF)=true by kernel_rfl) c hc,by rfl⟩
    · exact⟨by simp,fun c hc=>List.all_eq_true.1 (show(([83,84,82,73,78,71]:Str).all lF)=true by kernel_rfl) c hc,by rfl⟩
theorem Fu {n:Int} (h:0<=n/\n<=10000):Lib.itoa n≠[]/\(∀c∈Lib.itoa n,pI c=true):=by
  obtain⟨u,rfl⟩: ∃u:Nat,n=u:=⟨n.toNat,by omega⟩;rw [R5];refine⟨?_,fun c hc=> ?_⟩
  · rw [Lib.decDigits];split<;>simp
  · have:=acj u u (Nat.le_refl _) c hc;unfold pI;exact decide_eq_true this
theorem aj8 {n m:Int} (hn:0<=n) (hm:0<=m) (h:Lib.itoa n=Lib.itoa m):n=m:=by
  obtain⟨u,rfl⟩: ∃u:Nat,n=u:=⟨n.toNat,by omega⟩;obtain⟨v,rfl⟩: ∃v:Nat,m=v:=⟨m.toNat,by omega⟩;rw [R5,R5]at h;rw [anM h]
theorem Pn {c:UInt8} (h:pI c=true):lF c=true:=by unfold lF jG;rw [h];simp
theorem anP {w:Str} (h0:w≠[]) (h: ∀c∈w,pI c=true):Kq w=1:=by
  have hk:(rJ.all fun w=>w.any fun c=> !pI c)=true:=by kernel_rfl
  have h1: ∀k∈rJ,w≠k:=by
    intro k hk' e;obtain⟨c,hc,hd⟩:=List.any_eq_true.1 (List.all_eq_true.1 hk k hk');rw [h c (e▸hc)]at hd;cases hd
  have tk: ∀a b c:UInt8,pI a=false->w.take 3≠[a,b,c]:=by
    intro a b c ha e;have:a∈w:=List.mem_of_mem_take (i:=3) (by rw [e];simp);rw [h a this]at ha;cases ha
  unfold Kq;rw [if_neg (h1 _ (by simp [rJ])),if_neg (h1 _ (by simp [rJ])),if_neg (h1 _ (by simp [rJ])),if_neg (h1 _ (by simp [rJ])),if_neg (h1 _ (by simp [rJ])),if_neg (h1 _ (by simp [rJ])),if_neg (h1 _ (by simp [rJ])),if_neg (h1 _ (by simp [rJ])),if_neg (h1 _ (by simp [rJ])),if_neg (h1 _ (by simp [rJ])),if_neg (h1 _ (by simp [rJ])),if_neg (tk _ _ _ rfl),if_neg (tk _ _ _ rfl),if_pos (List.all_eq_true.2 h)]
theorem asj (w:Str):Kq (87::70::95::w)=14:=by
  unfold Kq;simp
theorem asl (w:Str):Kq (83::70::95::w)=15:=by
  unfold Kq;simp
theorem KC: ∀{l l':List Str} {s s':Str},l≠[]->l'≠[]->(∀x∈l,∀c∈x,lF c=true)->(∀x∈l',∀c∈x,lF c=true)->(∀c t,s=c::t->lF c=false/\c≠44)->(∀c t,s'=c::t->lF c=false/\c≠44)->Lib.join l [44,32]++s=Lib.join l' [44,32]++s'->l=l'/\s=s'
  |[],_,s,s',h,_,_,_,_,_,_=>absurd rfl h
  |_,[],s,s',_,h,_,_,_,_,_=>absurd rfl h
  |x::l,y::l',s,s',_,_,h1,h2,h3,h4,e=>by
    have jt: ∀(z:Str) (m:List Str),Lib.joinTail [44,32] (z::m)=44::32::Lib.join (z::m) [44,32]:=by
      intro z m;rw [dO];simp [Lib.joinTail]
    have Oq: ∀(m:List Str) (t:Str),(∀c u,t=c::u->lF c=false/\c≠44)->Stp (Lib.joinTail [44,32] m++t):=by
      intro m t ht;cases m with
      |nil=>intro c u e;exact(ht c u (by simpa [Lib.joinTail]using e)).1
      |cons z m=>rw [jt];exact lI (by decide)
    rw [dO,dO,List.append_assoc,List.append_assoc]at e;obtain⟨e1,e2⟩:=qo (h1 x List.mem_cons_self) (h2 y List.mem_cons_self) (Oq l s h3) (Oq l' s' h4) e;subst e1;cases l with
    |nil=>
      cases l' with
      |nil=>exact⟨rfl,by simpa [Lib.joinTail]using e2⟩
      |cons z m=>
        rw [jt]at e2;exact absurd rfl (h3 44 (32::(Lib.join (z::m) [44,32]++s')) (by simpa [Lib.joinTail]using e2)).2
    |cons z m=>
      cases l' with
      |nil=>
        rw [jt]at e2;exact absurd rfl (h4 44 (32::(Lib.join (z::m) [44,32]++s)) (by simpa [Lib.joinTail]using e2.symm)).2
      |cons z' m'=>
        rw [jt,jt]at e2;have e3:=(List.cons.inj (List.cons.inj e2).2).2;obtain⟨e4,e5⟩:=KC (by simp) (by simp) (fun x hx=>h1 x (List.mem_cons_of_mem _ hx)) (fun x hx=>h2 x (List.mem_cons_of_mem _ hx)) h3 h4 e3;rw [e4];exact⟨rfl,e5⟩
theorem tx {x:Nd} (cs:List Tm) (h:(fq x.kind x.text).2=false):fm (.mk x cs) false=DT x.kind x.n x.text x.names (cs.map kd):=by
  rw [Cc _ _ h];simp
def G7 (c:UInt8):Prop:=c∉([93,41,62,125]:List UInt8)
theorem anQ {c:UInt8} (h:lF c=true):G7 c:=by
  intro hm;have:(([93,41,62,125]:List UInt8).all fun c=> !lF c)=true:=by kernel_rfl
  have:=List.all_eq_true.1 this c hm;rw [h]at this;cases this
def Hd (s:Str):Prop:= ∃c r,s=c::r/\G7 c
theorem pq {s t:Str} (h:Hd s):Hd (s++t):=by
  obtain⟨c,r,rfl,h⟩:=h;exact⟨c,r++t,rfl,h⟩
theorem qY {c:UInt8} {s:Str} (h:G7 c):Hd (c::s):=⟨c,s,rfl,h⟩
theorem ZP {w:Str} (h0:w≠[]) (h: ∀c∈w,lF c=true):Hd w:=by
  obtain⟨c,r,rfl⟩:=List.exists_cons_of_ne_nil h0;exact⟨c,r,rfl,anQ (h c List.mem_cons_self)⟩
theorem ahY {sign:Str} {names:List Str} {ks:List dA} (hn:uw names) (h0:names≠[]) (hk:ks≠[]):Hd (dH sign names ks):=by
  obtain⟨x,p,rfl⟩:=List.exists_cons_of_ne_nil h0;obtain⟨k,m,rfl⟩:=List.exists_cons_of_ne_nil hk;have hx:=mG (hn x List.mem_cons_self);unfold dH;rw [List.zipWith_cons_cons,dO];exact pq (pq (ZP hx.ne fun c hc=>rM (hx.ch c hc)))
theorem anR {t:Tm} (h:uT t) (ha:gP t=true):Hd (fm t false):=by
  cases h with
  |num n h=>
    rw [tx _ rfl];have:=Fu h;exact ZP this.1 fun c hc=>Pn (this.2 c hc)
  |str s h=>rw [tx _ rfl];exact qY (by unfold G7;decide)
  |nam s h=>rw [tx _ rfl];exact ZP (qp h).ne (qp h).ch
  |app s c cs h h2=>
    rw [tx (x:=⟨3,0,s,[],[]⟩) _ h2];have:=qp (s:=s) (by rw [h];rfl);exact pq (ZP this.ne this.ch)
  |pre o c ho hf hop=>unfold gP at ha;rw [show(fq (Tm.mk ⟨3,0,o.text,[],[]⟩ [c]).root.kind (Tm.mk ⟨3,0,o.text,[],[]⟩ [c]).root.text)=(o,true)from hop]at ha;cases ha
  |pos o c ho hf hop=>unfold gP at ha;rw [show(fq (Tm.mk ⟨3,0,o.text,[],[]⟩ [c]).root.kind (Tm.mk ⟨3,0,o.text,[],[]⟩ [c]).root.text)=(o,true)from hop]at ha;cases ha
  |inf o c d cs ho hf hop hl=>unfold gP at ha;rw [show(fq (Tm.mk ⟨3,0,o.text,[],[]⟩ (c::d::cs)).root.kind (Tm.mk ⟨3,0,o.text,[],[]⟩ (c::d::cs)).root.text)=(o,true)from hop]at ha;cases ha
  |bM k cs hk=>rcases hk with rfl|rfl<;>(rw [tx _ rfl];exact qY (by unfold G7;decide))
  |MB k names cs b hk hn h0 hl h6=>rcases hk with rfl|rfl|rfl|rfl|rfl|rfl<;>(rw [tx _ rfl];exact qY (by unfold G7;decide))
  |any k names b hk hn h0=>rcases hk with rfl|rfl|rfl<;>(rw [tx _ rfl];exact qY (by unfold G7;decide))
  |call c d cs=>cases ha
  |bin k a b hk=>rcases hk with rfl|rfl|rfl|rfl|rfl<;>(rw [tx _ rfl];exact qY (by unfold G7;decide))
  |YM k names cs hk hn h0 hl=>rcases hk with rfl|rfl<;>(rw [tx _ rfl];exact qY (by unfold G7;decide))
  |je s c h=>cases ha
  |ME k a b c hk=>rcases hk with rfl|rfl<;>(rw [tx _ rfl];exact qY (by unfold G7;decide))
  |old=>rw [tx _ rfl];exact qY (by unfold G7;decide)
  |cas c d cs=>rw [tx _ rfl];exact qY (by unfold G7;decide)
  |lt n x p a b h hn=>rw [tx _ rfl];exact qY (by unfold G7;decide)
theorem amk {w:Nat} {g:Bool} {L:List It} (h:wf w g true L):Hd (ji L):=by
  match L,h with
  | .pre o::l,h=>
    have ho:=h.1;rw [fu];refine pq ?_;show Hd (zi o)
    rw [aey]at ho;simp only [List.mem_cons,List.not_mem_nil,or_false]at ho;rcases ho with rfl|rfl|rfl|rfl|rfl|rfl|rfl|rfl|rfl<;>exact qY (by unfold G7;decide)
  | .base t p::l,h=>
    rw [fu];refine pq ?_;cases p with
    |true=>exact qY (by unfold G7;decide)
    |false=>exact anR h.1.1.bX (h.1.2.1 rfl)
theorem ZQ {t:Tm} (h:VT t) (f:Bool):Hd (fm t f):=by
  rw [<-iF t h f];exact amk (amj h f)
theorem Ot {s:Str} (h:Hd s):cls (91::s)=5:=by
  obtain⟨c,r,rfl,hc⟩:=h;show(if some c=some 93 then 102 else 5)=5
  rw [if_neg (fun e=>hc (by cases e;simp))]
def acL:List Nat:=[1,234,16,16,3,323,323,323,7,8,7,8,13,5,0,5,5,5,0,5,264,9,10,11,12,5,3,14,15]
def iU (k:Int):Nat:=acL.getD k.toNat 0
def Uc (t:Tm):Nat:=iU t.root.kind
theorem aso (s:Str):cls (87::70::95::s)=14:=asj (s.takeWhile lF)
theorem asq (s:Str):cls (83::70::95::s)=15:=asl (s.takeWhile lF)
theorem Dm {t:Tm} (hv:VT t) (ha:gP t=true) {s:Str} (hs:Stp s):cls (fm t false++s)=Uc t:=by
  have acn: ∀{x:Nd} {cs:List Tm} {c:Tm},VT (.mk x cs)->c∈cs->VT c:=fun h hc=>h.kids.get _ hc;have h:=hv.bX;cases h with
  |num n h=>
    rw [tx _ rfl];have:=Fu h;exact(XP (fun c hc=>Pn (this.2 c hc)) this.1 hs).trans (anP this.1 this.2)
  |str s h=>rw [tx _ rfl];rfl
  |nam s0 h=>rw [tx _ rfl];exact(XP (qp h).ch (qp h).ne hs).trans (qp h).kw
  |app s0 c cs h h2=>
    rw [tx (x:=⟨3,0,s0,[],[]⟩) _ h2];have:=qp (s:=s0) (by rw [h];rfl);show cls ((s0++40::(iT ((c::cs).map kd)++[41]))++s)=_
    rw [List.append_assoc];exact(XP this.ch this.ne (lI (by decide))).trans this.kw
  |pre o c ho hf hop=>unfold gP at ha;rw [show(fq (Tm.mk ⟨3,0,o.text,[],[]⟩ [c]).root.kind (Tm.mk ⟨3,0,o.text,[],[]⟩ [c]).root.text)=(o,true)from hop]at ha;cases ha
  |pos o c ho hf hop=>unfold gP at ha;rw [show(fq (Tm.mk ⟨3,0,o.text,[],[]⟩ [c]).root.kind (Tm.mk ⟨3,0,o.text,[],[]⟩ [c]).root.text)=(o,true)from hop]at ha;cases ha
  |inf o c d cs ho hf hop hl=>unfold gP at ha;rw [show(fq (Tm.mk ⟨3,0,o.text,[],[]⟩ (c::d::cs)).root.kind (Tm.mk ⟨3,0,o.text,[],[]⟩ (c::d::cs)).root.text)=(o,true)from hop]at ha;cases ha
  |bM k cs hk=>
    rcases hk with rfl|rfl
    · rw [tx _ rfl];rfl
    · rw [tx _ rfl];rfl
  |MB k names cs b hk hn h0 hl h6=>
    rcases hk with rfl|rfl|rfl|rfl|rfl|rfl
    · rw [tx _ rfl];rfl
    · rw [tx _ rfl];rfl
    · rw [tx _ rfl];rfl
    · rw [tx _ rfl];rfl
    · rw [tx _ rfl];rfl
    · rw [tx _ rfl];exact Ot (pq (pq (ahY hn h0 (by simp))))
  |any k names b hk hn h0=>rcases hk with rfl|rfl|rfl<;>(rw [tx _ rfl];rfl)
  |call c d cs=>cases ha
  |bin k a b hk=>
    have h1:=ZQ (acn hv (c:=a) (by simp)) false;rcases hk with rfl|rfl|rfl|rfl|rfl
    · rw [tx _ rfl];exact Ot (pq (pq h1))
    · rw [tx _ rfl];exact Ot (pq (pq h1))
    · rw [tx _ rfl];rfl
    · rw [tx _ rfl];exact aso _
    · rw [tx _ rfl];exact asq _
  |YM k names cs hk hn h0 hl=>
    have hc:cs.map kd≠[]:=by
      intro e;have:=congrArg List.length e;simp at this;rw [this]at hl;exact h0 (List.length_eq_zero_iff.1 (by simpa using hl.symm))
    rcases hk with rfl|rfl<;>(rw [tx _ rfl];exact Ot (pq (pq (ahY hn h0 hc))))
  |je s c h=>cases ha
  |ME k a b c hk=>
    rcases hk with rfl|rfl
    · rw [tx _ rfl];exact Ot (pq (pq (ZQ (acn hv (c:=a) (by simp)) false)))
    · rw [tx _ rfl];rfl
  |old=>rw [tx _ rfl];rfl
  |cas c d cs=>rw [tx _ rfl];rfl
  |lt n x p a b h hn=>rw [tx _ rfl];rfl
theorem Fv {t:Tm} (h:uT t) (ha:gP t=true):Uc t∈iA/\Uc t≠240:=by
  cases h with
  |pre o c ho hf hop=>unfold gP at ha;rw [show(fq (Tm.mk ⟨3,0,o.text,[],[]⟩ [c]).root.kind (Tm.mk ⟨3,0,o.text,[],[]⟩ [c]).root.text)=(o,true)from hop]at ha;cases ha
  |pos o c ho hf hop=>unfold gP at ha;rw [show(fq (Tm.mk ⟨3,0,o.text,[],[]⟩ [c]).root.kind (Tm.mk ⟨3,0,o.text,[],[]⟩ [c]).root.text)=(o,true)from hop]at ha;cases ha
  |inf o c d cs ho hf hop hl=>unfold gP at ha;rw [show(fq (Tm.mk ⟨3,0,o.text,[],[]⟩ (c::d::cs)).root.kind (Tm.mk ⟨3,0,o.text,[],[]⟩ (c::d::cs)).root.text)=(o,true)from hop]at ha;cases ha
  |bM k cs hk=>
    rcases hk with rfl|rfl
    · exact show iU 4∈iA/\iU 4≠240 by decide
    · exact show iU 5∈iA/\iU 5≠240 by decide
  |MB k names cs b hk hn h0 hl h6=>
    rcases hk with rfl|rfl|rfl|rfl|rfl|rfl
    · exact show iU 6∈iA/\iU 6≠240 by decide
    · exact show iU 7∈iA/\iU 7≠240 by decide
    · exact show iU 8∈iA/\iU 8≠240 by decide
    · exact show iU 9∈iA/\iU 9≠240 by decide
    · exact show iU 12∈iA/\iU 12≠240 by decide
    · exact show iU 13∈iA/\iU 13≠240 by decide
  |any k names b hk hn h0=>
    rcases hk with rfl|rfl|rfl
    · exact show iU 10∈iA/\iU 10≠240 by decide
    · exact show iU 11∈iA/\iU 11≠240 by decide
    · exact show iU 24∈iA/\iU 24≠240 by decide
  |bin k a b hk=>
    rcases hk with rfl|rfl|rfl|rfl|rfl
    · exact show iU 15∈iA/\iU 15≠240 by decide
    · exact show iU 25∈iA/\iU 25≠240 by decide
    · exact show iU 26∈iA/\iU 26≠240 by decide
    · exact show iU 27∈iA/\iU 27≠240 by decide
    · exact show iU 28∈iA/\iU 28≠240 by decide
  |YM k names cs hk hn h0 hl=>
    rcases hk with rfl|rfl
    · exact show iU 16∈iA/\iU 16≠240 by decide
    · exact show iU 17∈iA/\iU 17≠240 by decide
  |ME k a b c hk=>
    rcases hk with rfl|rfl
    · exact show iU 19∈iA/\iU 19≠240 by decide
    · exact show iU 21∈iA/\iU 21≠240 by decide
  |call c d cs=>cases ha
  |je s c h=>cases ha
  |num n h=>exact show iU 0∈iA/\iU 0≠240 by decide
  |str s h=>exact show iU 1∈iA/\iU 1≠240 by decide
  |nam s h=>exact show iU 2∈iA/\iU 2≠240 by decide
  |app s c cs h h2=>exact show iU 3∈iA/\iU 3≠240 by decide
  |old=>exact show iU 20∈iA/\iU 20≠240 by decide
  |cas c d cs=>exact show iU 22∈iA/\iU 22≠240 by decide
  |lt n x p a b h hn=>exact show iU 23∈iA/\iU 23≠240 by decide
theorem KD {w:Nat} {g:Bool} {L:List It} {r:Str} (h:wf w g false L) (hr:YL r):Oh (ji L++r):=by
  match L,h with
  |[],h=>exact anI hr
  | .post::l,h=>intro c t e;cases e;simp
  | .call ts::l,h=>intro c t e;cases e;simp
  | .je s::l,h=>intro c t e;cases e;simp
  | .inf o::l,h=>intro c t e;cases e;simp
section
variable {t:Tm} (h:uT t)
include h
theorem aco (e:t.root.kind=0): ∃n:Int,t= .mk ⟨0,n,[],[],[]⟩ []/\0<=n/\n<=10000:=by
  cases h<;>simp only [root]at e<;>first|(exfalso;omega)|exact⟨_,rfl,by assumption⟩
theorem acp (e:t.root.kind=1): ∃s:Str,t= .mk ⟨1,0,s,[],[]⟩ []/\qD s=true:=by
  cases h<;>simp only [root]at e<;>first|(exfalso;omega)|exact⟨_,rfl,by assumption⟩
theorem G8 (e:t.root.kind=2): ∃s:Str,t= .mk ⟨2,0,s,[],[]⟩ []/\(gq s||oJ s)=true:=by
  cases h<;>simp only [root]at e<;>first|(exfalso;omega)|exact⟨_,rfl,by assumption⟩
theorem R6 (ha:gP t=true) (e:t.root.kind=3): ∃s c cs,t= .mk ⟨3,0,s,[],[]⟩ (c::cs)/\gq s=true/\(bH bU s).2=false:=by
  cases h with
  |pre o c ho hf hop=>unfold gP at ha;rw [show(fq (Tm.mk ⟨3,0,o.text,[],[]⟩ [c]).root.kind (Tm.mk ⟨3,0,o.text,[],[]⟩ [c]).root.text)=(o,true)from hop]at ha;cases ha
  |pos o c ho hf hop=>unfold gP at ha;rw [show(fq (Tm.mk ⟨3,0,o.text,[],[]⟩ [c]).root.kind (Tm.mk ⟨3,0,o.text,[],[]⟩ [c]).root.text)=(o,true)from hop]at ha;cases ha
  |inf o c d cs ho hf hop hl=>unfold gP at ha;rw [show(fq (Tm.mk ⟨3,0,o.text,[],[]⟩ (c::d::cs)).root.kind (Tm.mk ⟨3,0,o.text,[],[]⟩ (c::d::cs)).root.text)=(o,true)from hop]at ha;cases ha
  |app s c cs h h2=>exact⟨s,c,cs,rfl,h,h2⟩
  |num _ _=>simp only [root]at e;exfalso;omega
  |str _ _=>simp only [root]at e;exfalso;omega
  |nam _ _=>simp only [root]at e;exfalso;omega
  |bM _ _ hk=>simp only [root]at e;exfalso;omega
  |MB _ _ _ _ hk _ _ _ _=>simp only [root]at e;exfalso;omega
  |any _ _ _ hk _ _=>simp only [root]at e;exfalso;omega
  |call _ _ _=>simp only [root]at e;exfalso;omega
  |bin _ _ _ hk=>simp only [root]at e;exfalso;omega
  |YM _ _ _ hk _ _ _=>simp only [root]at e;exfalso;omega
  |je _ _ _=>simp only [root]at e;exfalso;omega
  |ME _ _ _ _ hk=>simp only [root]at e;exfalso;omega
  |old=>simp only [root]at e;exfalso;omega
  |cas _ _ _=>simp only [root]at e;exfalso;omega
  |lt _ _ _ _ _ _ _=>simp only [root]at e;exfalso;omega
theorem zL {k:Int} (hk:k=4\/k=5) (e:t.root.kind=k): ∃cs,t= .mk ⟨k,0,[],[],[]⟩ cs:=by
  cases h<;>simp only [root]at e<;>first|(exfalso;omega)|(subst e;exact⟨_,rfl⟩)
theorem kC {k:Int} (hk:k=6\/k=7\/k=8\/k=9\/k=12\/k=13) (e:t.root.kind=k): ∃names cs b,t= .mk ⟨k,0,[],names,[]⟩ (cs++[b])/\uw names/\names≠[]/\cs.length=names.length/\(k=6->names.length=1):=by
  cases h<;>simp only [root]at e<;>first|(exfalso;omega)|(subst e;exact⟨_,_,_,rfl,by assumption,by assumption,by assumption,by assumption⟩)
theorem zM {k:Int} (hk:k=10\/k=11\/k=24) (e:t.root.kind=k): ∃names b,t= .mk ⟨k,0,[],names,[]⟩ [b]/\uw names/\names≠[]:=by
  cases h<;>simp only [root]at e<;>first|(exfalso;omega)|(subst e;exact⟨_,_,rfl,by assumption,by assumption⟩)
theorem mZ {k:Int} (hk:k=15\/k=25\/k=26\/k=27\/k=28) (e:t.root.kind=k): ∃a b,t= .mk ⟨k,0,[],[],[]⟩ [a,b]:=by
  cases h<;>simp only [root]at e<;>first|(exfalso;omega)|(subst e;exact⟨_,_,rfl⟩)
theorem Dn {k:Int} (hk:k=16\/k=17) (e:t.root.kind=k): ∃names cs,t= .mk ⟨k,0,[],names,[]⟩ cs/\uw names/\names≠[]/\cs.length=names.length:=by
  cases h<;>simp only [root]at e<;>first|(exfalso;omega)|(subst e;exact⟨_,_,rfl,by assumption,by assumption,by assumption⟩)
theorem G9 {k:Int} (hk:k=19\/k=21) (e:t.root.kind=k): ∃a b c,t= .mk ⟨k,0,[],[],[]⟩ [a,b,c]:=by
  cases h<;>simp only [root]at e<;>first|(exfalso;omega)|(subst e;exact⟨_,_,_,rfl⟩)
theorem acr (e:t.root.kind=20):t= .mk ⟨20,0,[],[],[]⟩ []:=by
  cases h<;>simp only [root]at e<;>first|(exfalso;omega)|rfl
theorem acs (e:t.root.kind=22): ∃c d cs,t= .mk ⟨22,0,[],[],[]⟩ (c::d::cs):=by
  cases h<;>simp only [root]at e<;>first|(exfalso;omega)|exact⟨_,_,_,rfl⟩
theorem aeF (e:t.root.kind=23): ∃n x p a b,t= .mk ⟨23,n,[],x::p,[]⟩ [a,b]/\(n=0\/n=1)/\uw (x::p):=by
  cases h<;>simp only [root]at e<;>first|(exfalso;omega)|exact⟨_,_,_,_,_,rfl,by assumption,by assumption⟩
theorem R7:0<=t.root.kind/\t.root.kind<=28:=by
  cases h<;>simp only [root]<;>omega
end
def FG (g:Bool) (r:Str):Prop:=YL r/\(g=true-> ∀u,r≠32::91::93::u)
theorem gT {g:Bool} {c:UInt8} {s:Str} (h:c∈([44,41,93,125,62]:List UInt8)):FG g (c::s):=⟨auy h,fun _ u e=>by
  have:=(List.cons.inj e).1;subst this;revert h;decide⟩
theorem vE {g:Bool} (a:UInt8) (w:Str) {s:Str} (h:(a::w)∈tJ) (ha:a≠91):FG g (32::a::(w++32::s)):=⟨amg (a::w) h,fun _ u e=>ha (List.cons.inj (List.cons.inj e).2).1⟩
def YP (W:Nat):Prop:= ∀(g g':Bool) (L L':List It) (r r':Str),wf W g true L->wf W g' true L'->FG g r->FG g' r'->ji L++r=ji L'++r'->L=L'/\r=r'
def Kd (W:Nat) (c:Tm):Prop:=VT c/\2*c.size+1<=W
section
variable {W:Nat} (hU:YP W)
include hU
theorem Po {c c':Tm} {f f':Bool} {r r':Str} (h:Kd W c) (h':Kd W c') (hr:FG (!f) r) (hr':FG (!f') r') (e:fm c f++r=fm c' f'++r'):c=c'/\r=r':=by
  rw [<-iF c h.1,<-iF c' h'.1]at e;have h2:=h.2;have h2':=h'.2;obtain⟨e1,e2⟩:=hU _ _ _ _ _ _ (jL (by cases f<;>simp<;>omega) id _ _ (G6 c h.1 f)) (jL (by cases f'<;>simp<;>omega) id _ _ (G6 c' h'.1 f')) hr hr' e;exact⟨IX c h.1 f c' f' h'.1 e1,e2⟩
theorem jH {c c':Tm} {r r':Str} (h:Kd W c) (h':Kd W c') (hr:FG true r) (hr':FG true r') (e:fm c false++r=fm c' false++r'):c=c'/\r=r':=Po hU (f:=false) (f':=false) h h' hr hr' e
theorem FV (c:Tm):iT [kd c]=fm c false:=by unfold iT;rw [List.map_cons,List.map_nil,dO];simp [Lib.joinTail,kd]
theorem FW (c d:Tm) (m:List Tm):iT ((c::d::m).map kd)=fm c false++44::32::iT ((d::m).map kd):=by
  unfold iT;rw [List.map_cons,List.map_cons,dO];rw [List.map_cons,List.map_cons,dO];simp [Lib.joinTail,kd]
theorem KE {c0:UInt8} (hc0:c0∈([41,93,125,62]:List UInt8)) {s s':Str}: ∀{cs cs':List Tm},(∀c∈cs,Kd W c)->(∀c∈cs',Kd W c)->iT (cs.map kd)++c0::s=iT (cs'.map kd)++c0::s'->cs=cs'/\s=s':=by
  have Qg:c0≠44:=by rintro rfl;revert hc0;decide
  have hf: ∀x:Str,FG true (c0::x):=fun x=>gT (by
    simp only [List.mem_cons,List.not_mem_nil,or_false]at hc0⊢;rcases hc0 with rfl|rfl|rfl|rfl<;>simp)
  have hno: ∀{x y:Str},Hd x->x++y=c0::s->False:=by
    intro x y hx e;obtain⟨c,r,rfl,hc⟩:=hx;have:=(List.cons.inj e).1;subst this;apply hc
    simp only [List.mem_cons,List.not_mem_nil,or_false]at hc0⊢;rcases hc0 with rfl|rfl|rfl|rfl<;>simp
  have hno': ∀{x y:Str},Hd x->x++y=c0::s'->False:=by
    intro x y hx e;obtain⟨c,r,rfl,hc⟩:=hx;have:=(List.cons.inj e).1;subst this;apply hc
    simp only [List.mem_cons,List.not_mem_nil,or_false]at hc0⊢;rcases hc0 with rfl|rfl|rfl|rfl<;>simp
  have hl: ∀{c:Tm} {m:List Tm},Kd W c->Hd (iT ((c::m).map kd)):=by
    intro c m hc;cases m with
    |nil=>rw [List.map_cons,List.map_nil,FV hU];exact ZQ hc.1 _
    |cons d m=>rw [FW hU];exact pq (ZQ hc.1 _)
  intro cs
  induction cs with
  |nil=>
    intro cs' h h' e;cases cs' with
    |nil=>exact⟨rfl,(List.cons.inj e).2⟩
    |cons c m=>exact(hno (hl (h' c List.mem_cons_self)) e.symm).elim
  |cons c m ih=>
    intro cs' h h' e;cases cs' with
    |nil=>exact(hno' (hl (h c List.mem_cons_self)) e).elim
    |cons c' m'=>
      have k:=h c List.mem_cons_self;have k':=h' c' List.mem_cons_self;cases m with
      |nil=>
        cases m' with
        |nil=>
          rw [List.map_cons,List.map_nil,List.map_cons,List.map_nil,FV hU,FV hU]at e;obtain⟨e1,e2⟩:=jH hU k k' (hf s) (hf s') e;exact⟨by rw [e1],(List.cons.inj e2).2⟩
        |cons d' m'=>
          have e:iT [kd c]++c0::s=iT ((c'::d'::m').map kd)++c0::s':=e;rw [FV hU,FW hU,List.append_assoc]at e;obtain⟨e1,e2⟩:=jH hU k k' (hf s) (gT (by simp)) e;exact absurd (List.cons.inj e2).1 Qg
      |cons d m=>
        cases m' with
        |nil=>
          have e:iT ((c::d::m).map kd)++c0::s=iT [kd c']++c0::s':=e;rw [FV hU,FW hU,List.append_assoc]at e;obtain⟨e1,e2⟩:=jH hU k k' (gT (by simp)) (hf s') e;exact absurd (List.cons.inj e2).1.symm Qg
        |cons d' m'=>
          rw [FW hU,FW hU,List.append_assoc,List.append_assoc]at e;obtain⟨e1,e2⟩:=jH hU k k' (gT (by simp)) (gT (by simp)) e;have e3:=(List.cons.inj (List.cons.inj e2).2).2;obtain⟨e4,e5⟩:=ih (fun x hx=>h x (List.mem_cons_of_mem _ hx)) (fun x hx=>h' x (List.mem_cons_of_mem _ hx)) e3;exact⟨by rw [e1,e4],e5⟩
theorem FX (sign x:Str) (c:Tm) (ks:List dA):dH sign [x] (kd c::ks)=x++(sign++fm c false):=by
  unfold dH;rw [List.zipWith_cons_cons,List.zipWith_nil_left,dO];simp [Lib.joinTail,kd]
theorem FY (sign x y:Str) (p:List Str) (c d:Tm) (ks:List dA):dH sign (x::y::p) (kd c::kd d::ks)=x++(sign++(fm c false++44::32::dH sign (y::p) (kd d::ks))):=by
  unfold dH;rw [List.zipWith_cons_cons,List.zipWith_cons_cons,dO,dO];simp [Lib.joinTail,kd]
theorem Ac {sign:Str} (hs: ∃u,sign=32::u) {s s':Str} (hf:FG true s) (hf':FG true s') (Qg: ∀u,s≠44::u) (axZ: ∀u,s'≠44::u): ∀{p p':List Str} {cs cs':List Tm} {ks ks':List dA},uw p->uw p'->p≠[]->p'≠[]->cs.length=p.length->cs'.length=p'.length->(∀c∈cs,Kd W c)->(∀c∈cs',Kd W c)->
    dH sign p (cs.map kd++ks)++s=dH sign p' (cs'.map kd++ks')++s'->p=p'/\cs=cs'/\s=s':=by
  have Oq: ∀u:Str,Stp (sign++u):=by
    obtain⟨v,rfl⟩:=hs;exact fun u=>lI (by decide)
  intro p
  induction p with
  |nil=>intro p' cs cs' ks ks' _ _ h;exact absurd rfl h
  |cons x p ih=>
    intro p' cs cs' ks ks' hn hn' h0 h0' hl hl' hk hk' e;cases p' with
    |nil=>exact absurd rfl h0'
    |cons x' p'=>
    cases cs with
    |nil=>simp at hl
    |cons c m=>
    cases cs' with
    |nil=>simp at hl'
    |cons c' m'=>
    have hx:=mG (hn x List.mem_cons_self);have hx':=mG (hn' x' List.mem_cons_self);have k:=hk c List.mem_cons_self;have k':=hk' c' List.mem_cons_self;have nx: ∀y∈x,lF y=true:=fun y hy=>rM (hx.ch y hy);have nx': ∀y∈x',lF y=true:=fun y hy=>rM (hx'.ch y hy);cases p with
    |nil=>
      obtain rfl:m=[]:=List.length_eq_zero_iff.1 (by simpa using hl);cases p' with
      |nil=>
        obtain rfl:m'=[]:=List.length_eq_zero_iff.1 (by simpa using hl');rw [List.map_cons,List.map_cons,List.cons_append,List.cons_append,FX hU,FX hU,List.append_assoc,List.append_assoc,List.append_assoc,List.append_assoc]at e;obtain⟨e1,e2⟩:=qo nx nx' (Oq _) (Oq _) e;obtain⟨e3,e4⟩:=jH hU k k' hf hf' (List.append_cancel_left e2);exact⟨by rw [e1],by rw [e3],e4⟩
      |cons y' p'=>
        cases m' with
        |nil=>simp at hl'
        |cons d' m'=>
        rw [List.map_cons,List.map_cons,List.map_cons,List.cons_append,List.cons_append,List.cons_append,FX hU,FY hU,List.append_assoc,List.append_assoc,List.append_assoc,List.append_assoc,List.append_assoc]at e;obtain⟨e1,e2⟩:=qo nx nx' (Oq _) (Oq _) e;obtain⟨e3,e4⟩:=jH hU k k' hf (gT (by simp)) (List.append_cancel_left e2);exact absurd e4 (Qg _)
    |cons y p=>
      cases m with
      |nil=>simp at hl
      |cons d m=>
      cases p' with
      |nil=>
        obtain rfl:m'=[]:=List.length_eq_zero_iff.1 (by simpa using hl');rw [List.map_cons,List.map_cons,List.map_cons,List.cons_append,List.cons_append,List.cons_append,FY hU,FX hU,List.append_assoc,List.append_assoc,List.append_assoc,List.append_assoc,List.append_assoc]at e;obtain⟨e1,e2⟩:=qo nx nx' (Oq _) (Oq _) e;obtain⟨e3,e4⟩:=jH hU k k' (gT (by simp)) hf' (List.append_cancel_left e2);exact absurd e4.symm (axZ _)
      |cons y' p'=>
        cases m' with
        |nil=>simp at hl'
        |cons d' m'=>
        rw [List.map_cons,List.map_cons,List.map_cons,List.map_cons,List.cons_append,List.cons_append,List.cons_append,List.cons_append,FY hU,FY hU,List.append_assoc,List.append_assoc,List.append_assoc,List.append_assoc,List.append_assoc,List.append_assoc]at e;obtain⟨e1,e2⟩:=qo nx nx' (Oq _) (Oq _) e;obtain⟨e3,e4⟩:=jH hU k k' (gT (by simp)) (gT (by simp)) (List.append_cancel_left e2);have e5:=(List.cons.inj (List.cons.inj e4).2).2;obtain⟨g1,g2,g3⟩:=ih (p':=y'::p') (cs:=d::m) (cs':=d'::m') (ks:=ks) (ks':=ks') (fun z hz=>hn z (List.mem_cons_of_mem _ hz)) (fun z hz=>hn' z (List.mem_cons_of_mem _ hz)) (by simp) (by simp) (by simpa using hl) (by simpa using hl') (fun z hz=>hk z (List.mem_cons_of_mem _ hz)) (fun z hz=>hk' z (List.mem_cons_of_mem _ hz)) e5;exact⟨by rw [e1,g1],by rw [e3,g2],g3⟩
end
theorem iJ (cs:List Tm) (b:Tm):gY ((cs++[b]).map kd)=fm b false:=by
  unfold gY j5;rw [List.map_append,List.length_append,List.map_cons,List.map_nil,List.length_singleton,Nat.add_sub_cancel,List.getElem?_append_right (Nat.le_refl _),Nat.sub_self];rfl
def mS (b:Tm):Bool:= !(decide (b.root.kind=2)&&rName b.root.text)&& !decide (b.root.kind=4)
section
variable {W:Nat} (hU:YP W)
include hU
theorem Pp {b b':Tm} {s s':Str} (h:Kd W b) (h':Kd W b') (hs:Stp s) (hs':Stp s') (e:fV (kd b) (mS b) false++s=fV (kd b') (mS b') false++s'):b=b'/\s=s':=by
  have acn: ∀{x:Nd} {cs:List Tm},Kd W (.mk x cs)-> ∀c∈cs,Kd W c:=fun{x} {cs} h c hc=>⟨h.1.kids.get _ hc,by have:=uz (x:=x) hc;have:=h.2;omega⟩
  have raw: ∀{b:Tm},Kd W b->mS b=false->(∃x,b= .mk ⟨2,0,x,[],[]⟩ []/\rName x=true)\/ ∃cs,b= .mk ⟨4,0,[],[],[]⟩ cs:=by
    intro b hb hm;unfold mS at hm;simp only [Bool.and_eq_false_iff,Bool.not_eq_false',Bool.and_eq_true,decide_eq_true_eq]at hm;rcases hm with⟨h1,h2⟩|h1
    · obtain⟨x,rfl,_⟩:=G8 hb.1.bX h1;exact .inl ⟨x,rfl,h2⟩
    · exact .inr (zL hb.1.bX (.inl rfl) h1)
  have tn: ∀x:Str,fm (.mk ⟨2,0,x,[],[]⟩ []) false=x:=fun x=>by rw [tx _ rfl];rfl
  have tt: ∀cs:List Tm,fm (.mk ⟨4,0,[],[],[]⟩ cs) false=60::60::(iT (cs.map kd)++[62,62]):=fun cs=>by rw [tx _ rfl];rfl
  have EP: ∀{b:Tm} {s u:Str},Kd W b->mS b=false->fm b false++s=40::u->False:=by
    intro b s u hb hm e;rcases raw hb hm with⟨x,rfl,hx⟩|⟨cs,rfl⟩
    · rw [tn]at e;have:=mG hx;obtain⟨c,x',rfl⟩:=List.exists_cons_of_ne_nil this.ne;have hc:=rM (this.ch c List.mem_cons_self);have:=(List.cons.inj e).1;subst this;revert hc;decide
    · rw [tt]at e;cases e
  unfold fV at e;cases hm:mS b with
  |true=>
    cases hm':mS b' with
    |true=>
      rw [hm,hm',if_pos rfl,if_pos rfl]at e;have e:40::(fm b false++[41])++s=40::(fm b' false++[41])++s':=e;simp only [kI]at e;obtain⟨e1,e2⟩:=jH hU h h' (gT (by simp)) (gT (by simp)) e;exact⟨e1,(List.cons.inj e2).2⟩
    |false=>
      rw [hm,hm',if_pos rfl,if_neg (by simp)]at e;exact(EP h' hm' e.symm).elim
  |false=>
    cases hm':mS b' with
    |true=>
      rw [hm,hm',if_pos rfl,if_neg (by simp)]at e;exact(EP h hm e).elim
    |false=>
      rw [hm,hm',if_neg (by simp),if_neg (by simp)]at e;have e:fm b false++s=fm b' false++s':=e;have cross: ∀{x:Str} {s u:Str},rName x=true->x++s=60::u->False:=by
        intro x s u hx e;have:=mG hx;obtain⟨c,x',rfl⟩:=List.exists_cons_of_ne_nil this.ne;have hc:=rM (this.ch c List.mem_cons_self);have:=(List.cons.inj e).1;subst this;revert hc;decide
      rcases raw h hm with⟨x,rfl,hx⟩|⟨cs,rfl⟩<;>rcases raw h' hm' with⟨x',rfl,hx'⟩|⟨cs',rfl⟩
      · rw [tn,tn]at e;obtain⟨e1,e2⟩:=qo (fun c hc=>rM ((mG hx).ch c hc)) (fun c hc=>rM ((mG hx').ch c hc)) hs hs' e;exact⟨by rw [e1],e2⟩
      · rw [tn,tt]at e;exact(cross hx e).elim
      · rw [tn,tt]at e;exact(cross hx' e.symm).elim
      · rw [tt,tt]at e;simp only [kI]at e;obtain⟨e1,e2⟩:=KE hU (c0:=62) (by simp) (acn h) (acn h') e;exact⟨by rw [e1],(List.cons.inj e2).2⟩
theorem LB: ∀(c d:Tm) (m:List Tm),Lib.join (iq ((c::d::m).map kd)) [32,91,93,32]=fm c false++(32::45::62::32::(fm d (!m.isEmpty)++(if m=[]then []else 32::91::93::32::Lib.join (iq (m.map kd)) [32,91,93,32])))
  |c,d,m=>by
    have e1:iq ((c::d::m).map kd)=(fm c false++(32::45::62::32::fm d (!(m.map kd).isEmpty)))::iq (m.map kd):=by
      rw [List.map_cons,List.map_cons,iq];rfl
    have e2:(m.map kd).isEmpty=m.isEmpty:=by cases m<;>rfl
    rw [e1,e2,dO];cases m with
    |nil=>simp [iq,Lib.joinTail]
    |cons x m=>
      have:iq ((x::m).map kd)≠[]:=by
        cases m with
        |nil=>simp [iq]
        |cons y m=>rw [List.map_cons,List.map_cons,iq];simp
      obtain⟨y,l,hy⟩:=List.exists_cons_of_ne_nil this;rw [hy,dO,if_neg (by simp)];simp [Lib.joinTail]
theorem IY (c:Tm):Lib.join (iq ([c].map kd)) [32,91,93,32]=79::84::72::69::82::32::45::62::32::fm c false:=by
  rw [List.map_cons,List.map_nil,iq,dO];simp [Lib.joinTail,kd]
theorem asr {t:Tm} (h:VT t) (f:Bool) {s:Str} (hs:YL s):(∃o∈EI,cls (fm t f++s)=G5 o)\/cls (fm t f++s)∈iA:=by
  rw [<-iF t h f];have hw:=amj h f
  match hL:items t f,hw with
  | .pre o::l,hw=>
    rw [fu,List.append_assoc];exact .inl ⟨o,hw.1,Kr hw.1 _⟩
  | .base u p::l,hw=>
    rw [fu,List.append_assoc];refine .inr ?_;cases p with
    |true=>exact show(240:Nat)∈iA by decide
    |false=>
      rw [show txt (.base u false)=fm u false from rfl,Dm hw.1.1 (hw.1.2.1 rfl) (sV (KD hw.2 hs))];exact(Fv hw.1.1.bX (hw.1.2.1 rfl)).1
theorem YQ {t:Tm} (h:VT t) {f:Bool} {s:Str} (hs:YL s) {u:Str} (e:fm t f++s=79::84::72::69::82::32::u):False:=by
  have hc:cls (fm t f++s)=109:=by rw [e];rfl
  rcases asr hU h f hs with⟨o,ho,e1⟩|e1
  · rw [hc]at e1;have:(EI.all fun o=>decide (G5 o≠109))=true:=by kernel_rfl
    have:=List.all_eq_true.1 this o ho;simp [<-e1]at this
  · rw [hc]at e1;revert e1;decide
theorem anS {s s':Str} (hs:FG true s) (hs':FG true s'): ∀(n:Nat) (cs cs':List Tm),cs.length<=n->cs≠[]->cs'≠[]->(∀c∈cs,Kd W c)->(∀c∈cs',Kd W c)->Lib.join (iq (cs.map kd)) [32,91,93,32]++s=Lib.join (iq (cs'.map kd)) [32,91,93,32]++s'->cs=cs'/\s=s':=by
  have agb: ∀u:Str,FG true (32::45::62::32::u):=fun u=>vE 45 [62] (s:=u) (by simp [tJ]) (by decide);intro n
  induction n with
  |zero=>intro cs cs' hn h0;exact absurd (List.length_eq_zero_iff.1 (by omega)) h0
  |succ n ih=>
    intro cs cs' hn h0 h0' hk hk' e
    match cs,cs',h0,h0' with
    |[c],[c'],_,_=>
      rw [IY hU,IY hU]at e;simp only [List.cons_append,List.cons.injEq,true_and]at e;obtain⟨e1,e2⟩:=jH hU (hk c (by simp)) (hk' c' (by simp)) hs hs' e;exact⟨by rw [e1],e2⟩
    |[c],c'::d'::m',_,_=>
      rw [IY hU,LB hU]at e;simp only [List.cons_append,List.append_assoc]at e;exact(YQ hU (hk' c' (by simp)).1 (agb _).1 e.symm).elim
    |c::d::m,[c'],_,_=>
      rw [IY hU,LB hU]at e;simp only [List.cons_append,List.append_assoc]at e;exact(YQ hU (hk c (by simp)).1 (agb _).1 e).elim
    |c::d::m,c'::d'::m',_,_=>
      rw [LB hU,LB hU]at e;simp only [List.cons_append,List.append_assoc]at e;obtain⟨e1,e2⟩:=jH hU (hk c (by simp)) (hk' c' (by simp)) (agb _) (agb _) e;simp only [List.cons.injEq,true_and]at e2;have f91: ∀u:Str,FG false (32::91::93::32::u):=fun u=>⟨amg [91,93] (by simp [tJ]),fun h=>by cases h⟩
      cases m with
      |nil=>
        cases m' with
        |nil=>
          rw [if_pos rfl,List.nil_append,List.nil_append]at e2;obtain⟨e3,e4⟩:=jH hU (hk d (by simp)) (hk' d' (by simp)) hs hs' e2;exact⟨by rw [e1,e3],e4⟩
        |cons x' m'=>
          rw [if_pos rfl,if_neg (by simp),List.nil_append]at e2;simp only [List.cons_append]at e2;obtain⟨e3,e4⟩:=Po hU (f:=false) (f':=true) (hk d (by simp)) (hk' d' (by simp)) hs (f91 _) e2;exact absurd e4 (hs.2 rfl _)
      |cons x m=>
        cases m' with
        |nil=>
          rw [if_pos rfl,if_neg (by simp),List.nil_append]at e2;simp only [List.cons_append]at e2;obtain⟨e3,e4⟩:=Po hU (f:=true) (f':=false) (hk d (by simp)) (hk' d' (by simp)) (f91 _) hs' e2;exact absurd e4.symm (hs'.2 rfl _)
        |cons x' m'=>
          rw [if_neg (by simp),if_neg (by simp)]at e2;simp only [List.cons_append]at e2;obtain⟨e3,e4⟩:=Po hU (f:=true) (f':=true) (hk d (by simp)) (hk' d' (by simp)) (f91 _) (f91 _) e2;simp only [List.cons_append,List.cons.injEq,true_and]at e4;obtain⟨e5,e6⟩:=ih (x::m) (x'::m') (by simp only [List.length_cons]at hn⊢;omega) (by simp) (by simp) (fun y hy=>hk y (by simp [hy])) (fun y hy=>hk' y (by simp [hy])) e4;exact⟨by rw [e1,e3,e5],e6⟩
end
def PL (q:List Str):Str:=match q with
  |[]=>[]
  |w::q=>40::(Lib.join (w::q) [44,32]++[41])
theorem jO (cs:List Tm) (b:Tm):(cs++[b]).map kd=cs.map kd++[kd b]:=by rw [List.map_append];rfl
section
variable {W:Nat} (hU:YP W)
include hU
theorem anT {b b':Tm} {s s':Str} (h:Kd W b) (h':Kd W b') (hs:FG true s) (hs':FG true s') (e:wU (fm b false)++s=wU (fm b' false)++s'):b=b'/\s=s':=by
  have row: ∀{b b':Tm} {s s':Str},Kd W b->Kd W b'->FG true s->FG true s'->40::(fm b false++[41])++s=fm b' false++s'->b'=b:=by
    intro b b' s s' h h' hs hs' e;rw [<-iF b' h'.1]at e;have e:ji [.base b true]++s=ji (items b' false)++s':=by rw [u6];exact e
    have h2:=h'.2;obtain⟨e1,_⟩:=hU true true _ _ _ _ (XR h.1 h.2) (jL (by omega) id _ _ (Eh h'.1)) hs hs' e;exact Oo h'.1 e1.symm
  unfold wU at e;cases hb:zk (fm b false)with
  |true=>
    cases hb':zk (fm b' false)with
    |true=>
      rw [hb,hb',if_pos rfl,if_pos rfl]at e;simp only [kI]at e;obtain⟨e1,e2⟩:=jH hU h h' (gT (by simp)) (gT (by simp)) e;exact⟨e1,(List.cons.inj e2).2⟩
    |false=>
      rw [hb,hb',if_pos rfl,if_neg (by simp)]at e;have:=row h h' hs hs' e;rw [this,hb]at hb';cases hb'
  |false=>
    cases hb':zk (fm b' false)with
    |true=>
      rw [hb,hb',if_pos rfl,if_neg (by simp)]at e;have:=row h' h hs' hs e.symm;rw [this,hb']at hb;cases hb
    |false=>
      rw [hb,hb',if_neg (by simp),if_neg (by simp)]at e;exact jH hU h h' hs hs' e
omit hU in
theorem ahZ (q:List Str) (u:Str):Stp (PL q++32::u):=by
  cases q with
  |nil=>exact lI (by decide)
  |cons w q=>exact lI (by decide)
theorem ah0 {x x':Str} {q q':List Str} {u u':Str} (hx: ∀c∈x,lF c=true) (hx': ∀c∈x',lF c=true) (hq: ∀y∈q,∀c∈y,lF c=true) (hq': ∀y∈q',∀c∈y,lF c=true) (e:x++(PL q++32::u)=x'++(PL q'++32::u')):x=x'/\q=q'/\u=u':=by
  obtain⟨e1,e2⟩:=qo hx hx' (ahZ q u) (ahZ q' u') e;cases q with
  |nil=>
    cases q' with
    |nil=>exact⟨e1,rfl,(List.cons.inj e2).2⟩
    |cons w q'=>cases e2
  |cons w q=>
    cases q' with
    |nil=>cases e2
    |cons w' q'=>
      have e2:40::(Lib.join (w::q) [44,32]++[41])++32::u=40::(Lib.join (w'::q') [44,32]++[41])++32::u':=e2;simp only [List.append_assoc,List.cons_append,List.nil_append,List.cons.injEq,true_and]at e2;obtain⟨g1,g2⟩:=KC (by simp) (by simp) hq hq' (fun c t e=>by cases e;decide) (fun c t e=>by cases e;decide) e2;exact⟨e1,g1,(List.cons.inj (List.cons.inj g2).2).2⟩
theorem ah1 {t t':Tm} (hv:VT t) (hv':VT t') (ha:gP t=true) (ha':gP t'=true) (hw:2*t.size<=W+1) (hw':2*t'.size<=W+1) {s s':Str} (hs:Oh s) (hs':Oh s') (ho:fE t.root.kind=true->FG true s/\FG true s') (e:t'.root.kind=t.root.kind) (E:fm t false++s=fm t' false++s'):t=t'/\s=s':=by
  have hk: ∀{x:Nd} {cs:List Tm},VT (.mk x cs)->2*(Tm.mk x cs).size<=W+1-> ∀c∈cs,Kd W c:=fun{x} {cs} h h2 c hc=>⟨h.kids.get _ hc,by have:=uz (x:=x) hc;omega⟩
  have ss:=sV hs;have ss':=sV hs';have J4: ∀{u:Str},FG true (32::58::32::u):=fun{u}=>vE 58 [] (s:=u) (by simp [tJ]) (by decide);have asu: ∀{u:Str},FG true (32::124::45::62::32::u):=fun{u}=>vE 124 [45,62] (s:=u) (by simp [tJ]) (by decide);have w45: ∀{u:Str},FG true (32::45::62::32::u):=fun{u}=>vE 45 [62] (s:=u) (by simp [tJ]) (by decide);have wth: ∀{u:Str},FG true (32::84::72::69::78::32::u):=fun{u}=>vE 84 [72,69,78] (s:=u) (by simp [tJ]) (by decide);have wel: ∀{u:Str},FG true (32::69::76::83::69::32::u):=fun{u}=>vE 69 [76,83,69] (s:=u) (by simp [tJ]) (by decide);have win: ∀{u:Str},FG true (32::73::78::32::u):=fun{u}=>vE 73 [78] (s:=u) (by simp [tJ]) (by decide);have wex: ∀{u:Str},FG true (32::69::88::67::69::80::84::32::u):=fun{u}=>vE 69 [88,67,69,80,84] (s:=u) (by simp [tJ]) (by decide);have nn: ∀{l:List Str},uw l-> ∀x∈l,∀c∈x,lF c=true:=fun h x hx c hc=>rM ((mG (h x hx)).ch c hc);have n58: ∀{u:Str},∀c t,(32::58::32::u:Str)=c::t->lF c=false/\c≠44:=fun c t e=>by cases e;decide
  have hr:=R7 hv.bX;have hc:t.root.kind=0\/t.root.kind=1\/t.root.kind=2\/t.root.kind=3\/t.root.kind=4\/t.root.kind=5\/t.root.kind=6\/t.root.kind=7\/t.root.kind=8\/t.root.kind=9\/t.root.kind=10\/t.root.kind=11\/t.root.kind=12\/t.root.kind=13\/t.root.kind=14\/t.root.kind=15\/t.root.kind=16\/t.root.kind=17\/t.root.kind=18\/t.root.kind=19\/t.root.kind=20\/t.root.kind=21\/t.root.kind=22\/t.root.kind=23\/t.root.kind=24\/t.root.kind=25\/t.root.kind=26\/t.root.kind=27\/t.root.kind=28:=by omega
  rcases hc with e0|e0|e0|e0|e0|e0|e0|e0|e0|e0|e0|e0|e0|e0|e0|e0|e0|e0|e0|e0|e0|e0|e0|e0|e0|e0|e0|e0|e0
  · rw [e0]at e;obtain⟨n,rfl,hn⟩:=aco hv.bX e0;obtain⟨m,rfl,hm⟩:=aco hv'.bX e;rw [tx _ rfl,tx _ rfl]at E;have E:Lib.itoa n++s=Lib.itoa m++s':=E;obtain⟨e1,e2⟩:=qo (fun c hc=>Pn ((Fu hn).2 c hc)) (fun c hc=>Pn ((Fu hm).2 c hc)) ss ss' E;rw [aj8 hn.1 hm.1 e1];exact⟨rfl,e2⟩
  · rw [e0]at e;obtain⟨n,rfl,hn⟩:=acp hv.bX e0;obtain⟨m,rfl,hm⟩:=acp hv'.bX e;rw [tx _ rfl,tx _ rfl]at E;have E:34::(n++[34])++s=34::(m++[34])++s':=E;simp only [kI]at E;have hq: ∀{w:Str},qD w=true-> ∀c∈w,decide (c≠34)=true:=by
      intro w hw c hc;unfold qD at hw;simp only [Bool.and_eq_true,List.all_eq_true]at hw;have:=hw.2 c hc;unfold J2 at this;refine decide_eq_true fun e=> ?_;subst e;revert this;decide
    obtain⟨e1,e2⟩:=Lu (p:=fun c=>decide (c≠34)) (hq hn) (hq hm) (fun c t e=>by cases e;rfl) (fun c t e=>by cases e;rfl) E;rw [e1];exact⟨rfl,(List.cons.inj e2).2⟩
  · rw [e0]at e;obtain⟨n,rfl,hn⟩:=G8 hv.bX e0;obtain⟨m,rfl,hm⟩:=G8 hv'.bX e;rw [tx _ rfl,tx _ rfl]at E;have E:n++s=m++s':=E;obtain⟨e1,e2⟩:=qo (qp hn).ch (qp hm).ch ss ss' E;rw [e1];exact⟨rfl,e2⟩
  · rw [e0]at e;obtain⟨n,c,cs,rfl,hn,h2⟩:=R6 hv.bX ha e0;obtain⟨m,c',cs',rfl,hm,h2'⟩:=R6 hv'.bX ha' e;rw [tx (x:=⟨3,0,n,[],[]⟩) _ h2,tx (x:=⟨3,0,m,[],[]⟩) _ h2']at E;have E:n++(40::(iT ((c::cs).map kd)++[41]))++s=m++(40::(iT ((c'::cs').map kd)++[41]))++s':=E;simp only [List.append_assoc,List.cons_append,List.nil_append]at E;obtain⟨e1,e2⟩:=qo (qp (s:=n) (by rw [hn];rfl)).ch (qp (s:=m) (by rw [hm];rfl)).ch (lI (by decide)) (lI (by decide)) E;obtain⟨e3,e4⟩:=KE hU (c0:=41) (by simp) (hk hv hw) (hk hv' hw') (List.cons.inj e2).2;rw [e1,e3];exact⟨rfl,e4⟩
  · rw [e0]at e;obtain⟨cs,rfl⟩:=zL hv.bX (by omega) e0;obtain⟨cs',rfl⟩:=zL hv'.bX (by omega) e;rw [tx _ rfl,tx _ rfl]at E;have E:60::60::(iT (cs.map kd)++[62,62])++s=60::60::(iT (cs'.map kd)++[62,62])++s':=E;simp only [kI]at E;obtain⟨e3,e4⟩:=KE hU (c0:=62) (by simp) (hk hv hw) (hk hv' hw') E;rw [e3];exact⟨rfl,(List.cons.inj e4).2⟩
  · rw [e0]at e;obtain⟨cs,rfl⟩:=zL hv.bX (by omega) e0;obtain⟨cs',rfl⟩:=zL hv'.bX (by omega) e;rw [tx _ rfl,tx _ rfl]at E;have E:123::(iT (cs.map kd)++[125])++s=123::(iT (cs'.map kd)++[125])++s':=E;simp only [kI]at E;obtain⟨e3,e4⟩:=KE hU (c0:=125) (by simp) (hk hv hw) (hk hv' hw') E;rw [e3];exact⟨rfl,e4⟩
  · rw [e0]at e;obtain⟨names,cs,b,rfl,hn,h0,hl,h6⟩:=kC hv.bX (by omega) e0;obtain⟨names',cs',b',rfl,hn',h0',hl',h6'⟩:=kC hv'.bX (by omega) e;rw [tx _ rfl,tx _ rfl]at E;have o1: ∀{cs:List Tm} {b:Tm},cs.length=1->j5 ((cs++[b]).map kd) 1=fm b false:=by
      intro cs b h;obtain⟨a,rfl⟩:=Lv h;rfl
    have E:123::(dH [32,92,105,110,32] names ((cs++[b]).map kd)++(32::58::32::(j5 ((cs++[b]).map kd) 1++[125])))++s=123::(dH [32,92,105,110,32] names' ((cs'++[b']).map kd)++(32::58::32::(j5 ((cs'++[b']).map kd) 1++[125])))++s':=E;rw [o1 (by rw [hl];exact h6 rfl),o1 (by rw [hl'];exact h6' rfl),jO,jO]at E;simp only [kI]at E;obtain⟨g1,g2,g3⟩:=Ac hU ⟨_,rfl⟩ J4 J4 (fun u e=>by cases e) (fun u e=>by cases e) hn hn' h0 h0' hl hl' (fun c hc=>hk hv hw c (List.mem_append_left _ hc)) (fun c hc=>hk hv' hw' c (List.mem_append_left _ hc)) E;simp only [kI]at g3;obtain⟨g4,g5⟩:=jH hU (hk hv hw b (by simp)) (hk hv' hw' b' (by simp)) (gT (by simp)) (gT (by simp)) g3;rw [g1,g2,g4];exact⟨rfl,(List.cons.inj g5).2⟩
  · rw [e0]at e;obtain⟨names,cs,b,rfl,hn,h0,hl,h6⟩:=kC hv.bX (by omega) e0;obtain⟨names',cs',b',rfl,hn',h0',hl',h6'⟩:=kC hv'.bX (by omega) e;rw [tx _ rfl,tx _ rfl]at E;have E:123::(wU (gY ((cs++[b]).map kd))++(32::58::32::(dH [32,92,105,110,32] names ((cs++[b]).map kd)++[125])))++s=123::(wU (gY ((cs'++[b']).map kd))++(32::58::32::(dH [32,92,105,110,32] names' ((cs'++[b']).map kd)++[125])))++s':=E;rw [iJ,iJ,jO,jO]at E;simp only [kI]at E;obtain⟨g4,g5⟩:=anT hU (hk hv hw b (by simp)) (hk hv' hw' b' (by simp)) J4 J4 E;simp only [kI]at g5;obtain⟨g1,g2,g3⟩:=Ac hU ⟨_,rfl⟩ (gT (by simp)) (gT (by simp)) (fun u e=>by cases e) (fun u e=>by cases e) hn hn' h0 h0' hl hl' (fun c hc=>hk hv hw c (List.mem_append_left _ hc)) (fun c hc=>hk hv' hw' c (List.mem_append_left _ hc)) g5;rw [g1,g2,g4];exact⟨rfl,(List.cons.inj g3).2⟩
  · rw [e0]at e;obtain⟨names,cs,b,rfl,hn,h0,hl,h6⟩:=kC hv.bX (by omega) e0;obtain⟨names',cs',b',rfl,hn',h0',hl',h6'⟩:=kC hv'.bX (by omega) e;obtain⟨fs,fs'⟩:=ho (by rw [e0];rfl);rw [tx _ rfl,tx _ rfl]at E;have E:92::65::32::(dH [32,92,105,110,32] names ((cs++[b]).map kd)++(32::58::32::gY ((cs++[b]).map kd)))++s=92::65::32::(dH [32,92,105,110,32] names' ((cs'++[b']).map kd)++(32::58::32::gY ((cs'++[b']).map kd)))++s':=E;rw [iJ,iJ,jO,jO]at E;simp only [kI]at E;obtain⟨g1,g2,g3⟩:=Ac hU ⟨_,rfl⟩ J4 J4 (fun u e=>by cases e) (fun u e=>by cases e) hn hn' h0 h0' hl hl' (fun c hc=>hk hv hw c (List.mem_append_left _ hc)) (fun c hc=>hk hv' hw' c (List.mem_append_left _ hc)) E;simp only [kI]at g3;obtain⟨g4,g5⟩:=jH hU (hk hv hw b (by simp)) (hk hv' hw' b' (by simp)) fs fs' g3;rw [g1,g2,g4];exact⟨rfl,g5⟩
  · rw [e0]at e;obtain⟨names,cs,b,rfl,hn,h0,hl,h6⟩:=kC hv.bX (by omega) e0;obtain⟨names',cs',b',rfl,hn',h0',hl',h6'⟩:=kC hv'.bX (by omega) e;obtain⟨fs,fs'⟩:=ho (by rw [e0];rfl);rw [tx _ rfl,tx _ rfl]at E;have E:92::69::32::(dH [32,92,105,110,32] names ((cs++[b]).map kd)++(32::58::32::gY ((cs++[b]).map kd)))++s=92::69::32::(dH [32,92,105,110,32] names' ((cs'++[b']).map kd)++(32::58::32::gY ((cs'++[b']).map kd)))++s':=E;rw [iJ,iJ,jO,jO]at E;simp only [kI]at E;obtain⟨g1,g2,g3⟩:=Ac hU ⟨_,rfl⟩ J4 J4 (fun u e=>by cases e) (fun u e=>by cases e) hn hn' h0 h0' hl hl' (fun c hc=>hk hv hw c (List.mem_append_left _ hc)) (fun c hc=>hk hv' hw' c (List.mem_append_left _ hc)) E;simp only [kI]at g3;obtain⟨g4,g5⟩:=jH hU (hk hv hw b (by simp)) (hk hv' hw' b' (by simp)) fs fs' g3;rw [g1,g2,g4];exact⟨rfl,g5⟩
  · rw [e0]at e;obtain⟨names,b,rfl,hn,h0⟩:=zM hv.bX (by omega) e0;obtain⟨names',b',rfl,hn',h0'⟩:=zM hv'.bX (by omega) e;obtain⟨fs,fs'⟩:=ho (by rw [e0];rfl);rw [tx _ rfl,tx _ rfl]at E;have E:92::65::32::(Lib.join names [44,32]++(32::58::32::fm b false))++s=92::65::32::(Lib.join names' [44,32]++(32::58::32::fm b' false))++s':=E;simp only [kI]at E;obtain⟨g1,g3⟩:=KC h0 h0' (nn hn) (nn hn') n58 n58 E;simp only [kI]at g3;obtain⟨g4,g5⟩:=jH hU (hk hv hw b (by simp)) (hk hv' hw' b' (by simp)) fs fs' g3;rw [g1,g4];exact⟨rfl,g5⟩
  · rw [e0]at e;obtain⟨names,b,rfl,hn,h0⟩:=zM hv.bX (by omega) e0;obtain⟨names',b',rfl,hn',h0'⟩:=zM hv'.bX (by omega) e;obtain⟨fs,fs'⟩:=ho (by rw [e0];rfl);rw [tx _ rfl,tx _ rfl]at E;have E:92::69::32::(Lib.join names [44,32]++(32::58::32::fm b false))++s=92::69::32::(Lib.join names' [44,32]++(32::58::32::fm b' false))++s':=E;simp only [kI]at E;obtain⟨g1,g3⟩:=KC h0 h0' (nn hn) (nn hn') n58 n58 E;simp only [kI]at g3;obtain⟨g4,g5⟩:=jH hU (hk hv hw b (by simp)) (hk hv' hw' b' (by simp)) fs fs' g3;rw [g1,g4];exact⟨rfl,g5⟩
  · rw [e0]at e;obtain⟨names,cs,b,rfl,hn,h0,hl,h6⟩:=kC hv.bX (by omega) e0;obtain⟨names',cs',b',rfl,hn',h0',hl',h6'⟩:=kC hv'.bX (by omega) e;obtain⟨fs,fs'⟩:=ho (by rw [e0];rfl);rw [tx _ rfl,tx _ rfl]at E;have E:67::72::79::79::83::69::32::(dH [32,92,105,110,32] names ((cs++[b]).map kd)++(32::58::32::gY ((cs++[b]).map kd)))++s=67::72::79::79::83::69::32::(dH [32,92,105,110,32] names' ((cs'++[b']).map kd)++(32::58::32::gY ((cs'++[b']).map kd)))++s':=E;rw [iJ,iJ,jO,jO]at E;simp only [kI]at E;obtain⟨g1,g2,g3⟩:=Ac hU ⟨_,rfl⟩ J4 J4 (fun u e=>by cases e) (fun u e=>by cases e) hn hn' h0 h0' hl hl' (fun c hc=>hk hv hw c (List.mem_append_left _ hc)) (fun c hc=>hk hv' hw' c (List.mem_append_left _ hc)) E;simp only [kI]at g3;obtain⟨g4,g5⟩:=jH hU (hk hv hw b (by simp)) (hk hv' hw' b' (by simp)) fs fs' g3;rw [g1,g2,g4];exact⟨rfl,g5⟩
  · rw [e0]at e;obtain⟨names,cs,b,rfl,hn,h0,hl,h6⟩:=kC hv.bX (by omega) e0;obtain⟨names',cs',b',rfl,hn',h0',hl',h6'⟩:=kC hv'.bX (by omega) e;rw [tx _ rfl,tx _ rfl]at E;have E:91::(dH [32,92,105,110,32] names ((cs++[b]).map kd)++(32::124::45::62::32::(gY ((cs++[b]).map kd)++[93])))++s=91::(dH [32,92,105,110,32] names' ((cs'++[b']).map kd)++(32::124::45::62::32::(gY ((cs'++[b']).map kd)++[93])))++s':=E;rw [iJ,iJ,jO,jO]at E;simp only [kI]at E;obtain⟨g1,g2,g3⟩:=Ac hU ⟨_,rfl⟩ asu asu (fun u e=>by cases e) (fun u e=>by cases e) hn hn' h0 h0' hl hl' (fun c hc=>hk hv hw c (List.mem_append_left _ hc)) (fun c hc=>hk hv' hw' c (List.mem_append_left _ hc)) E;simp only [kI]at g3;obtain⟨g4,g5⟩:=jH hU (hk hv hw b (by simp)) (hk hv' hw' b' (by simp)) (gT (by simp)) (gT (by simp)) g3;rw [g1,g2,g4];exact⟨rfl,(List.cons.inj g5).2⟩
  · rw [e0]at e;unfold gP at ha;rw [e0]at ha;simp at ha
  · rw [e0]at e;obtain⟨a,b,rfl⟩:=mZ hv.bX (by omega) e0;obtain⟨a',b',rfl⟩:=mZ hv'.bX (by omega) e;rw [tx _ rfl,tx _ rfl]at E;have E:91::(fm a false++(32::45::62::32::(fm b false++[93])))++s=91::(fm a' false++(32::45::62::32::(fm b' false++[93])))++s':=E;simp only [kI]at E;obtain⟨g1,g2⟩:=jH hU (hk hv hw a (by simp)) (hk hv' hw' a' (by simp)) w45 w45 E;simp only [kI]at g2;obtain⟨g4,g5⟩:=jH hU (hk hv hw b (by simp)) (hk hv' hw' b' (by simp)) (gT (by simp)) (gT (by simp)) g2;rw [g1,g4];exact⟨rfl,(List.cons.inj g5).2⟩
  · rw [e0]at e;obtain⟨names,cs,rfl,hn,h0,hl⟩:=Dn hv.bX (by omega) e0;obtain⟨names',cs',rfl,hn',h0',hl'⟩:=Dn hv'.bX (by omega) e;rw [tx _ rfl,tx _ rfl]at E;have E:91::(dH [32,124,45,62,32] names (cs.map kd)++[93])++s=91::(dH [32,124,45,62,32] names' (cs'.map kd)++[93])++s':=E;rw [<-List.append_nil (cs.map kd),<-List.append_nil (cs'.map kd)]at E;simp only [List.cons_append,List.append_assoc,List.cons.injEq,true_and]at E;obtain⟨g1,g2,g3⟩:=Ac hU ⟨_,rfl⟩ (gT (s:=s) (c:=93) (by simp)) (gT (s:=s') (c:=93) (by simp)) (fun u e=>by cases e) (fun u e=>by cases e) hn hn' h0 h0' hl hl' (hk hv hw) (hk hv' hw') E;rw [g1,g2];exact⟨rfl,(List.cons.inj g3).2⟩
  · rw [e0]at e;obtain⟨names,cs,rfl,hn,h0,hl⟩:=Dn hv.bX (by omega) e0;obtain⟨names',cs',rfl,hn',h0',hl'⟩:=Dn hv'.bX (by omega) e;rw [tx _ rfl,tx _ rfl]at E;have E:91::(dH [32,58,32] names (cs.map kd)++[93])++s=91::(dH [32,58,32] names' (cs'.map kd)++[93])++s':=E;rw [<-List.append_nil (cs.map kd),<-List.append_nil (cs'.map kd)]at E;simp only [List.cons_append,List.append_assoc,List.cons.injEq,true_and]at E;obtain⟨g1,g2,g3⟩:=Ac hU ⟨_,rfl⟩ (gT (s:=s) (c:=93) (by simp)) (gT (s:=s') (c:=93) (by simp)) (fun u e=>by cases e) (fun u e=>by cases e) hn hn' h0 h0' hl hl' (hk hv hw) (hk hv' hw') E;rw [g1,g2];exact⟨rfl,(List.cons.inj g3).2⟩
  · rw [e0]at e;unfold gP at ha;rw [e0]at ha;simp at ha
  · rw [e0]at e;obtain⟨a,b,c,rfl⟩:=G9 hv.bX (by omega) e0;obtain⟨a',b',c',rfl⟩:=G9 hv'.bX (by omega) e;rw [tx _ rfl,tx _ rfl]at E;have E:91::(fm a false++(32::69::88::67::69::80::84::32::33::91::(fm b false++(93::32::61::32::(fm c false++[93])))))++s=91::(fm a' false++(32::69::88::67::69::80::84::32::33::91::(fm b' false++(93::32::61::32::(fm c' false++[93])))))++s':=E;simp only [kI]at E;obtain⟨g1,g2⟩:=jH hU (hk hv hw a (by simp)) (hk hv' hw' a' (by simp)) wex wex E;simp only [kI]at g2;obtain⟨g3,g4⟩:=jH hU (hk hv hw b (by simp)) (hk hv' hw' b' (by simp)) (gT (by simp)) (gT (by simp)) g2;simp only [kI]at g4;obtain⟨g5,g6⟩:=jH hU (hk hv hw c (by simp)) (hk hv' hw' c' (by simp)) (gT (by simp)) (gT (by simp)) g4;rw [g1,g3,g5];exact⟨rfl,(List.cons.inj g6).2⟩
  · rw [e0]at e;obtain rfl:=acr hv.bX e0;obtain rfl:=acr hv'.bX e;rw [tx _ rfl]at E;have E:[64]++s=[64]++s':=E;exact⟨rfl,(List.cons.inj E).2⟩
  · rw [e0]at e;obtain⟨a,b,c,rfl⟩:=G9 hv.bX (by omega) e0;obtain⟨a',b',c',rfl⟩:=G9 hv'.bX (by omega) e;obtain⟨fs,fs'⟩:=ho (by rw [e0];rfl);rw [tx _ rfl,tx _ rfl]at E;have E:73::70::32::(fm a false++(32::84::72::69::78::32::(fm b false++(32::69::76::83::69::32::fm c false))))++s=73::70::32::(fm a' false++(32::84::72::69::78::32::(fm b' false++(32::69::76::83::69::32::fm c' false))))++s':=E;simp only [kI]at E;obtain⟨g1,g2⟩:=jH hU (hk hv hw a (by simp)) (hk hv' hw' a' (by simp)) wth wth E;simp only [kI]at g2;obtain⟨g3,g4⟩:=jH hU (hk hv hw b (by simp)) (hk hv' hw' b' (by simp)) wel wel g2;simp only [kI]at g4;obtain⟨g5,g6⟩:=jH hU (hk hv hw c (by simp)) (hk hv' hw' c' (by simp)) fs fs' g4;rw [g1,g3,g5];exact⟨rfl,g6⟩
  · rw [e0]at e;obtain⟨c,d,cs,rfl⟩:=acs hv.bX e0;obtain⟨c',d',cs',rfl⟩:=acs hv'.bX e;obtain⟨fs,fs'⟩:=ho (by rw [e0];rfl);rw [tx _ rfl,tx _ rfl]at E;have E:67::65::83::69::32::Lib.join (iq ((c::d::cs).map kd)) [32,91,93,32]++s=67::65::83::69::32::Lib.join (iq ((c'::d'::cs').map kd)) [32,91,93,32]++s':=E;simp only [kI]at E;obtain⟨g1,g2⟩:=anS hU fs fs' _ (c::d::cs) (c'::d'::cs') (Nat.le_refl _) (by simp) (by simp) (hk hv hw) (hk hv' hw') E;rw [g1];exact⟨rfl,g2⟩
  · rw [e0]at e;obtain⟨n,x,p,a,b,rfl,hn,hx⟩:=aeF hv.bX e0;obtain⟨n',x',p',a',b',rfl,hn',hx'⟩:=aeF hv'.bX e;obtain⟨fs,fs'⟩:=ho (by rw [e0];rfl);rw [tx _ rfl,tx _ rfl]at E;have E:Lr n (x::p) (fm a false) (fm b false)++s=Lr n' (x'::p') (fm a' false) (fm b' false)++s':=E;have nx:=nn hx x List.mem_cons_self;have nx':=nn hx' x' List.mem_cons_self;have np: ∀y∈p,∀c∈y,lF c=true:=fun y hy=>nn hx y (List.mem_cons_of_mem _ hy);have np': ∀y∈p',∀c∈y,lF c=true:=fun y hy=>nn hx' y (List.mem_cons_of_mem _ hy);have rp: ∀k:Nat,∀y∈List.replicate k ([95]:Str),∀c∈y,lF c=true:=fun k y hy c hc=>by
      rw [(List.mem_replicate.1 hy).2]at hc;rw [List.mem_singleton.1 hc];decide
    have asv: ∀{y:Str} {u v:Str},rName y=true->Stp u->y++u=82::69::67::85::82::83::73::86::69::32::v->False:=by
      intro y u v hy hu e;have e:y++u=[82,69,67,85,82,83,73,86,69]++32::v:=e;have ks: ∀c∈([82,69,67,85,82,83,73,86,69]:Str),lF c=true:=fun c hc=>List.all_eq_true.1 (show(([82,69,67,85,82,83,73,86,69]:Str).all lF)=true by kernel_rfl) c hc;obtain⟨e1,_⟩:=qo (fun c hc=>rM ((mG hy).ch c hc)) ks hu (lI (by decide)) e;have hr:([82,69,67,85,82,83,73,86,69]:Str)∈JZ:=by decide+kernel
      unfold rName bName at hy;simp only [Bool.and_eq_true,Bool.not_eq_true',decide_eq_true_eq,decide_eq_false_iff_not]at hy;exact hy.1.1.1.1.2 (e1▸hr)
    have e1: ∀(z:Str) (q:List Str),(yw (z::q)).1=z++PL q/\(yw (z::q)).2=z++PL (List.replicate q.length [95]):=by
      intro z q;cases q with
      |nil=>exact⟨(List.append_nil z).symm,(List.append_nil z).symm⟩
      |cons w q=>exact⟨rfl,rfl⟩
    have sp: ∀(q:List Str) (u:Str),Stp (PL q++32::u):=by
      intro q u;cases q with
      |nil=>exact lI (by decide)
      |cons w q=>exact lI (by decide)
    unfold Lr at E;rw [(e1 x p).1,(e1 x p).2,(e1 x' p').1,(e1 x' p').2]at E;have fin: ∀{u u':Str},x++(PL p++32::u)=x'++(PL p'++32::u')->x=x'/\p=p'/\u=u':=fun e=>ah0 hU nx nx' np np' e;have asw:n=n'->x=x'->p=p'->(61::61::32::(fm a false++32::73::78::32::(fm b false++s)):Str)=61::61::32::(fm a' false++32::73::78::32::(fm b' false++s'))->Tm.mk ⟨23,n,[],x::p,[]⟩ [a,b]= .mk ⟨23,n',[],x'::p',[]⟩ [a',b']/\s=s':=by
      intro q1 q2 q3 e;simp only [List.cons.injEq,true_and]at e;obtain⟨g1,g2⟩:=jH hU (hk hv hw a (by simp)) (hk hv' hw' a' (by simp)) win win e;simp only [List.cons.injEq,true_and]at g2;obtain⟨g3,g4⟩:=jH hU (hk hv hw b (by simp)) (hk hv' hw' b' (by simp)) fs fs' g2;rw [q1,q2,q3,g1,g3];exact⟨rfl,g4⟩
    rcases hn with rfl|rfl<;>rcases hn' with rfl|rfl
    · rw [if_neg (by decide),if_neg (by decide)]at E;simp only [List.append_assoc,List.cons_append,List.nil_append,List.cons.injEq,true_and]at E;obtain⟨g1,g2,g3⟩:=fin E;exact asw rfl g1 g2 g3
    · rw [if_neg (by decide),if_pos rfl]at E;simp only [List.append_assoc,List.cons_append,List.nil_append,List.cons.injEq,true_and]at E;exact(asv (hx x List.mem_cons_self) (sp p _) E).elim
    · rw [if_pos rfl,if_neg (by decide)]at E;simp only [List.append_assoc,List.cons_append,List.nil_append,List.cons.injEq,true_and]at E;exact(asv (hx' x' List.mem_cons_self) (sp p' _) E.symm).elim
    · rw [if_pos rfl,if_pos rfl]at E;simp only [List.append_assoc,List.cons_append,List.nil_append,List.cons.injEq,true_and]at E;obtain⟨_,_,g3⟩:=ah0 hU nx nx' (rp _) (rp _) E;obtain⟨g4,g5,g6⟩:=fin g3;exact asw rfl g4 g5 g6
  · rw [e0]at e;obtain⟨names,b,rfl,hn,h0⟩:=zM hv.bX (by omega) e0;obtain⟨names',b',rfl,hn',h0'⟩:=zM hv'.bX (by omega) e;obtain⟨fs,fs'⟩:=ho (by rw [e0];rfl);rw [tx _ rfl,tx _ rfl]at E;have E:76::65::77::66::68::65::32::(Lib.join names [44,32]++(32::58::32::fm b false))++s=76::65::77::66::68::65::32::(Lib.join names' [44,32]++(32::58::32::fm b' false))++s':=E;simp only [kI]at E;obtain⟨g1,g3⟩:=KC h0 h0' (nn hn) (nn hn') n58 n58 E;simp only [kI]at g3;obtain⟨g4,g5⟩:=jH hU (hk hv hw b (by simp)) (hk hv' hw' b' (by simp)) fs fs' g3;rw [g1,g4];exact⟨rfl,g5⟩
  · rw [e0]at e;obtain⟨a,b,rfl⟩:=mZ hv.bX (by omega) e0;obtain⟨a',b',rfl⟩:=mZ hv'.bX (by omega) e;rw [tx _ rfl,tx _ rfl]at E;have E:91::(fm a false++(93::95::fV (kd b) (mS b) false))++s=91::(fm a' false++(93::95::fV (kd b') (mS b') false))++s':=E;simp only [kI]at E;obtain⟨g1,g2⟩:=jH hU (hk hv hw a (by simp)) (hk hv' hw' a' (by simp)) (gT (by simp)) (gT (by simp)) E;simp only [kI]at g2;obtain⟨g4,g5⟩:=Pp hU (hk hv hw b (by simp)) (hk hv' hw' b' (by simp)) ss ss' g2;rw [g1,g4];exact⟨rfl,g5⟩
  · rw [e0]at e;obtain⟨a,b,rfl⟩:=mZ hv.bX (by omega) e0;obtain⟨a',b',rfl⟩:=mZ hv'.bX (by omega) e;rw [tx _ rfl,tx _ rfl]at E;have E:60::60::(fm a false++(62::62::95::fV (kd b) (mS b) false))++s=60::60::(fm a' false++(62::62::95::fV (kd b') (mS b') false))++s':=E;simp only [kI]at E;obtain⟨g1,g2⟩:=jH hU (hk hv hw a (by simp)) (hk hv' hw' a' (by simp)) (gT (by simp)) (gT (by simp)) E;simp only [kI]at g2;obtain⟨g4,g5⟩:=Pp hU (hk hv hw b (by simp)) (hk hv' hw' b' (by simp)) ss ss' g2;rw [g1,g4];exact⟨rfl,g5⟩
  · rw [e0]at e;obtain⟨a,b,rfl⟩:=mZ hv.bX (by omega) e0;obtain⟨a',b',rfl⟩:=mZ hv'.bX (by omega) e;rw [tx _ rfl,tx _ rfl]at E;have E:87::70::95::(fV (kd b) (mS b) false++(40::(fm a false++[41])))++s=87::70::95::(fV (kd b') (mS b') false++(40::(fm a' false++[41])))++s':=E;simp only [kI]at E;obtain⟨g4,g5⟩:=Pp hU (hk hv hw b (by simp)) (hk hv' hw' b' (by simp)) (lI (by decide)) (lI (by decide)) E;simp only [kI]at g5;obtain⟨g1,g2⟩:=jH hU (hk hv hw a (by simp)) (hk hv' hw' a' (by simp)) (gT (by simp)) (gT (by simp)) g5;rw [g1,g4];exact⟨rfl,(List.cons.inj g2).2⟩
  · rw [e0]at e;obtain⟨a,b,rfl⟩:=mZ hv.bX (by omega) e0;obtain⟨a',b',rfl⟩:=mZ hv'.bX (by omega) e;rw [tx _ rfl,tx _ rfl]at E;have E:83::70::95::(fV (kd b) (mS b) false++(40::(fm a false++[41])))++s=83::70::95::(fV (kd b') (mS b') false++(40::(fm a' false++[41])))++s':=E;simp only [kI]at E;obtain⟨g4,g5⟩:=Pp hU (hk hv hw b (by simp)) (hk hv' hw' b' (by simp)) (lI (by decide)) (lI (by decide)) E;simp only [kI]at g5;obtain⟨g1,g2⟩:=jH hU (hk hv hw a (by simp)) (hk hv' hw' a' (by simp)) (gT (by simp)) (gT (by simp)) g5;rw [g1,g4];exact⟨rfl,(List.cons.inj g2).2⟩
end
def yA (x:Str):Tm:= .mk ⟨2,0,x,[],[]⟩ []
def YR:Operator:=⟨[92,105,110],1,5,5,false,2,2⟩
theorem anU:YR∈lH:=by unfold YR lH;simp
theorem Ou (x:Str):fm (yA x) false=x:=by unfold yA;rw [tx _ rfl];rfl
theorem ZR {W:Nat} {g:Bool} {x:Str} {l:List It} (hx:rName x=true) (hW:2<=W) (hl:wf W g false l):wf W g true (.base (yA x) false::l):=by
  refine⟨⟨?_,fun _=>rfl,?_,fun _ h=>by cases h⟩,hl⟩
  · unfold yA;rw [VT];refine⟨.nam x ?_,trivial⟩;unfold gq;have hb:bang x=none:=by
      have h33: ∀c∈x,c≠33:=by
        intro c hc e;subst e;have:=(mG hx).ch 33 hc;revert this;decide
      clear hx hl
      induction x with
      |nil=>rfl
      |cons c y ih=>rw [bang,if_neg (h33 c List.mem_cons_self),ih fun d hd=>h33 d (List.mem_cons_of_mem _ hd)];rfl
    rw [hb];show(rName x||oJ x)=true
    rw [hx];rfl
  · unfold wt yA;simp only [size,sizes];simp;omega
def Dcp (W:Nat) (pre:Str) (m:List It->Str->Int) (k:Int) (T:Str):Prop:= ∃F ρ,T=pre++(ji F++ρ)/\wf W true true F/\FG true ρ/\m F ρ=k
theorem Ov {W:Nat} (hU:YP W) {pre:Str} {m:List It->Str->Int} {k k':Int} {T T':Str} (d:Dcp W pre m k T) (d':Dcp W pre m k' T') (E:T=T'):k=k':=by
  obtain⟨F,ρ,e1,h1,h2,h3⟩:=d;obtain⟨F',ρ',e1',h1',h2',h3'⟩:=d';rw [e1,e1']at E;obtain⟨e2,e3⟩:=hU _ _ _ _ _ _ h1 h1' h2 h2' (List.append_cancel_left E);rw [<-h3,<-h3',e2,e3]
theorem ah2 {t:Tm} (h:VT t) (f:Bool):1<=(items t f).length:=by
  obtain⟨a,l,e⟩:=af8 (c:=t) (m:=false) (f:=f) (IW t h f);have e:items t f=a::l:=e;rw [e];simp
section
variable {W:Nat} (hU:YP W)
include hU
theorem XU {x:Str} {p:List Str} {cs:List Tm} {ks:List dA} {r:Str} (hn:uw (x::p)) (hl:cs.length=p.length+1) (hk: ∀c∈cs,Kd W c) (hW:2<=W) (hr:FG true r):
    ∃F ρ,dH [32,92,105,110,32] (x::p) (cs.map kd++ks)++r=ji F++ρ/\wf W true true F/\FG true ρ/\(∃L,F= .base (yA x) false:: .inf YR::L)/\3<=F.length/\((ρ=r/\p=[])\/(p≠[]/\ ∃u,ρ=44::u)):=by
  cases cs with
  |nil=>simp at hl
  |cons c m=>
  have hc:=hk c List.mem_cons_self;have hwf:wf W true true (.base (yA x) false:: .inf YR::items c false):=ZR (hn x List.mem_cons_self) hW (aeC anU rfl (jL (by have:=hc.2;omega) id _ _ (Eh hc.1)));have ht: ∀u:Str,x++([32,92,105,110,32]++(fm c false++u))=ji (.base (yA x) false:: .inf YR::items c false)++u:=by
    intro u;rw [fu,fu,iF c hc.1,show txt (.base (yA x) false)=x from Ou x];simp [txt,YR]
  have hlen:3<=(It.base (yA x) false:: .inf YR::items c false).length:=by
    have:=ah2 hc.1 false;simp only [List.length_cons];omega
  cases p with
  |nil=>
    obtain rfl:m=[]:=List.length_eq_zero_iff.1 (by simpa using hl);refine⟨_,r,?_,hwf,hr,⟨_,rfl⟩,hlen,.inl ⟨rfl,rfl⟩⟩;rw [List.map_cons,List.cons_append,FX hU,List.append_assoc,List.append_assoc,ht]
  |cons y p=>
    cases m with
    |nil=>simp at hl
    |cons d m=>
    refine⟨_,44::32::(dH [32,92,105,110,32] (y::p) (kd d::(m.map kd++ks))++r),?_,hwf,gT (by simp),⟨_,rfl⟩,hlen,.inr ⟨by simp,_,rfl⟩⟩;rw [List.map_cons,List.map_cons,List.cons_append,List.cons_append,FY hU,List.append_assoc,List.append_assoc,List.append_assoc,ht];rfl
theorem aeH {sign x:Str} {p:List Str} {cs:List Tm} {ks:List dA} {r:Str} (hn:uw (x::p)) (hl:cs.length=p.length+1): ∃u,dH sign (x::p) (cs.map kd++ks)++r=x++(sign++u):=by
  cases cs with
  |nil=>simp at hl
  |cons c m=>
  cases p with
  |nil=>
    exact⟨fm c false++r,by rw [List.map_cons,List.cons_append,FX hU,List.append_assoc,List.append_assoc]⟩
  |cons y p=>
    cases m with
    |nil=>simp at hl
    |cons d m=>
    exact⟨(fm c false++44::32::dH sign (y::p) (kd d::(m.map kd++ks)))++r,by rw [List.map_cons,List.map_cons,List.cons_append,List.cons_append,FY hU,List.append_assoc,List.append_assoc]⟩
theorem anV {x:Str} {p:List Str} {r:Str} (hr:FG true r): ∃ρ,Lib.join (x::p) [44,32]++r=x++ρ/\FG true ρ:=by
  rw [dO,List.append_assoc];cases p with
  |nil=>exact⟨r,by simp [Lib.joinTail],hr⟩
  |cons y p=>exact⟨_,rfl,by simp only [Lib.joinTail,List.map_cons,List.flatten_cons,List.cons_append];exact gT (by simp)⟩
theorem aeI {c:Tm} {cs:List Tm} {c0:UInt8} {s:Str} (hc:Kd W c) (h0:c0∈([93,125,62]:List UInt8)): ∃ρ,iT ((c::cs).map kd)++c0::s=ji (items c false)++ρ/\wf W true true (items c false)/\FG true ρ/\(ρ=c0::s\/ ∃u,ρ=44::u):=by
  have hw:wf W true true (items c false):=jL (by have:=hc.2;omega) id _ _ (Eh hc.1);have h0':c0∈([44,41,93,125,62]:List UInt8):=by
    simp only [List.mem_cons,List.not_mem_nil,or_false]at h0⊢;rcases h0 with rfl|rfl|rfl<;>simp
  rw [iF c hc.1];cases cs with
  |nil=>exact⟨c0::s,by rw [List.map_cons,List.map_nil,FV hU],hw,gT h0',.inl rfl⟩
  |cons d m=>exact⟨44::32::(iT ((d::m).map kd)++c0::s),by rw [FW hU,List.append_assoc];rfl,hw,gT (by simp),.inr ⟨_,rfl⟩⟩
end
def m5 (F:List It) (ρ:Str):Int:=if ρ.take 2=[93,95]then 25 else if ρ.take 2=[32,69]then 19 else if ρ.take 2=[32,45]then 15 else if ρ.take 2=[32,58]then 17 else if F.length=1 then 16 else 13
def isIn:List It->Bool
  | .base t false:: .inf o::_=>decide (t.root.kind=2)&&rName t.root.text&&decide (o.text=[92,105,110])
  |_=>false
def R8 (F:List It) (ρ:Str):Int:=if ρ.take 2=[32,58]then(if isIn F=true then 6 else 7)else 5
def m78 (a b:Int) (F:List It) (ρ:Str):Int:=if F.length=1 then a else b
def m3 (F:List It) (ρ:Str):Int:=if ρ.take 3=[62,62,95]then 26 else 4
theorem u7 {W:Nat} {x:Nd} {cs:List Tm} (h:VT (.mk x cs)) (h2:2*(Tm.mk x cs).size<=W+1): ∀c∈cs,Kd W c:=fun c hc=>⟨h.kids.get _ hc,by have:=uz (x:=x) hc;omega⟩
theorem KF {W:Nat} {x:Nd} {cs:List Tm} {c:Tm} (hc:c∈cs) (h2:2*(Tm.mk x cs).size<=W+1):2<=W:=by
  have:=uz (x:=x) hc;have:=size_pos c;omega
theorem XV {W:Nat} {c:Tm} (h:Kd W c):wf W true true (items c false):=jL (by have:=h.2;omega) id _ _ (Eh h.1)
section
variable {W:Nat} (hU:YP W)
include hU
theorem asy {t:Tm} (hv:VT t) (hw:2*t.size<=W+1) {s:Str} (hk:t.root.kind=13\/t.root.kind=15\/t.root.kind=16\/t.root.kind=17\/t.root.kind=19\/t.root.kind=25):Dcp W [91] m5 t.root.kind (fm t false++s):=by
  rcases hk with e0|e0|e0|e0|e0|e0
  · obtain⟨names,cs,b,rfl,hn,h0,hl,_⟩:=kC hv.bX (by omega) e0;have hK:=u7 hv hw;obtain⟨x,p,rfl⟩:=List.exists_cons_of_ne_nil h0;obtain⟨F,ρ,g1,g2,g3,g4,g5,g6⟩:=XU hU (ks:=[kd b]) (r:=32::124::45::62::32::(fm b false++93::s)) hn hl (fun c hc=>hK c (List.mem_append_left _ hc)) (KF (c:=b) (by simp) hw) (vE 124 [45,62] (s:=fm b false++93::s) (by simp [tJ]) (by decide));refine⟨F,ρ,?_,g2,g3,?_⟩
    · rw [tx _ rfl,<-g1];show 91::(dH [32,92,105,110,32] (x::p) ((cs++[b]).map kd)++(32::124::45::62::32::(gY ((cs++[b]).map kd)++[93])))++s=_
      rw [iJ,jO];simp
    · show m5 F ρ=13
      unfold m5;rcases g6 with⟨rfl,_⟩|⟨_,u,rfl⟩<;>simp<;>omega
  · obtain⟨a,b,rfl⟩:=mZ hv.bX (by omega) e0;have ka:=u7 hv hw a (by simp);refine⟨items a false,32::45::62::32::(fm b false++93::s),?_,XV ka,vE 45 [62] (s:=fm b false++93::s) (by simp [tJ]) (by decide),rfl⟩;rw [tx _ rfl,iF a ka.1];show 91::(fm a false++(32::45::62::32::(fm b false++[93])))++s=_
    simp
  · obtain⟨names,cs,rfl,hn,h0,hl⟩:=Dn hv.bX (by omega) e0;obtain⟨x,p,rfl⟩:=List.exists_cons_of_ne_nil h0;obtain⟨u,hu⟩:=aeH hU (sign:=[32,124,45,62,32]) (ks:=[]) (r:=93::s) hn hl;rw [List.append_nil]at hu;obtain⟨c,m,rfl⟩:=ZO (l:=cs) (by rw [hl];simp);refine⟨[.base (yA x) false],32::124::45::62::32::u,?_,ZR (hn x List.mem_cons_self) (KF (c:=c) (by simp) hw) trivial,vE 124 [45,62] (s:=u) (by simp [tJ]) (by decide),rfl⟩;rw [tx _ rfl,u6,show txt (.base (yA x) false)=x from Ou x];show 91::(dH [32,124,45,62,32] (x::p) ((c::m).map kd)++[93])++s=_
    simp only [List.cons_append,List.append_assoc,List.nil_append,hu]
  · obtain⟨names,cs,rfl,hn,h0,hl⟩:=Dn hv.bX (by omega) e0;obtain⟨x,p,rfl⟩:=List.exists_cons_of_ne_nil h0;obtain⟨u,hu⟩:=aeH hU (sign:=[32,58,32]) (ks:=[]) (r:=93::s) hn hl;rw [List.append_nil]at hu;obtain⟨c,m,rfl⟩:=ZO (l:=cs) (by rw [hl];simp);refine⟨[.base (yA x) false],32::58::32::u,?_,ZR (hn x List.mem_cons_self) (KF (c:=c) (by simp) hw) trivial,vE 58 [] (s:=u) (by simp [tJ]) (by decide),rfl⟩;rw [tx _ rfl,u6,show txt (.base (yA x) false)=x from Ou x];show 91::(dH [32,58,32] (x::p) ((c::m).map kd)++[93])++s=_
    simp only [List.cons_append,List.append_assoc,List.nil_append,hu]
  · obtain⟨a,b,c,rfl⟩:=G9 hv.bX (by omega) e0;have ka:=u7 hv hw a (by simp);refine⟨items a false,32::69::88::67::69::80::84::32::(33::91::(fm b false++(93::32::61::32::(fm c false++93::s)))),?_,XV ka,vE 69 [88,67,69,80,84] (s:=33::91::(fm b false++(93::32::61::32::(fm c false++93::s)))) (by simp [tJ]) (by decide),rfl⟩;rw [tx _ rfl,iF a ka.1];show 91::(fm a false++(32::69::88::67::69::80::84::32::33::91::(fm b false++(93::32::61::32::(fm c false++[93])))))++s=_
    simp
  · obtain⟨a,b,rfl⟩:=mZ hv.bX (by omega) e0;have ka:=u7 hv hw a (by simp);refine⟨items a false,93::95::(fV (kd b) (mS b) false++s),?_,XV ka,gT (by simp),rfl⟩;rw [tx _ rfl,iF a ka.1];show 91::(fm a false++(93::95::fV (kd b) (mS b) false))++s=_
    simp
theorem ah3 {t:Tm} (hv:VT t) (hw:2*t.size<=W+1) {s:Str} (hk:t.root.kind=5\/t.root.kind=6\/t.root.kind=7):(t.root.kind=5/\fm t false++s=123::125::s)\/Dcp W [123] R8 t.root.kind (fm t false++s):=by
  rcases hk with e0|e0|e0
  · obtain⟨cs,rfl⟩:=zL hv.bX (by omega) e0;have e1:fm (.mk ⟨5,0,[],[],[]⟩ cs) false++s=123::(iT (cs.map kd)++125::s):=by
      rw [tx _ rfl];show 123::(iT (cs.map kd)++[125])++s=_
      simp
    rw [e1];cases cs with
    |nil=>exact .inl ⟨rfl,rfl⟩
    |cons c m=>
      obtain⟨ρ,g1,g2,g3,g4⟩:=aeI hU (cs:=m) (c0:=125) (s:=s) (u7 hv hw c (by simp)) (by simp);refine .inr ⟨_,ρ,?_,g2,g3,?_⟩
      · rw [g1];rfl
      · show R8 _ ρ=5
        unfold R8;rcases g4 with rfl|⟨u,rfl⟩<;>simp
  · obtain⟨names,cs,b,rfl,hn,h0,hl,h6⟩:=kC hv.bX (by omega) e0;have hK:=u7 hv hw;obtain⟨x,p,rfl⟩:=List.exists_cons_of_ne_nil h0;obtain rfl:p=[]:=List.length_eq_zero_iff.1 (by simpa using h6 rfl);obtain⟨a,rfl⟩:=Lv (show cs.length=1 by rw [hl];rfl);obtain⟨F,ρ,g1,g2,g3,⟨L,g4⟩,g5,g6⟩:=XU hU (ks:=[kd b]) (r:=32::58::32::(fm b false++125::s)) hn hl (fun c hc=>hK c (List.mem_append_left _ hc)) (KF (c:=b) (by simp) hw) (vE 58 [] (s:=fm b false++125::s) (by simp [tJ]) (by decide));refine .inr ⟨F,ρ,?_,g2,g3,?_⟩
    · rw [tx _ rfl,<-g1];show 123::(dH [32,92,105,110,32] [x] (([a]++[b]).map kd)++(32::58::32::(fm b false++[125])))++s=_
      rw [jO];simp
    · show R8 F ρ=6
      unfold R8;rcases g6 with⟨rfl,_⟩|⟨h,_⟩
      · have:isIn F=true:=by
          rw [g4];show(decide ((2:Int)=2)&&rName x&&decide (YR.text=[92,105,110]))=true
          rw [hn x List.mem_cons_self];rfl
        simp [this]
      · exact absurd rfl h
  · obtain⟨names,cs,b,rfl,hn,h0,hl,h6⟩:=kC hv.bX (by omega) e0;have kb:=u7 hv hw b (by simp);have e1:fm (.mk ⟨7,0,[],names,[]⟩ (cs++[b])) false++s=123::(wU (fm b false)++32::58::32::(dH [32,92,105,110,32] names ((cs++[b]).map kd)++125::s)):=by
      rw [tx _ rfl];show 123::(wU (gY ((cs++[b]).map kd))++(32::58::32::(dH [32,92,105,110,32] names ((cs++[b]).map kd)++[125])))++s=_
      rw [iJ];simp
    rw [e1];unfold wU;cases hb:zk (fm b false)with
    |true=>
      refine .inr ⟨[.base b true],_,?_,XR kb.1 kb.2,vE 58 [] (s:=dH [32,92,105,110,32] names ((cs++[b]).map kd)++125::s) (by simp [tJ]) (by decide),rfl⟩;rw [u6];rfl
    |false=>
      refine .inr ⟨items b false,32::58::32::(dH [32,92,105,110,32] names ((cs++[b]).map kd)++125::s),?_,XV kb,vE 58 [] (s:=dH [32,92,105,110,32] names ((cs++[b]).map kd)++125::s) (by simp [tJ]) (by decide),?_⟩
      · rw [iF b kb.1];rfl
      · have hno:isIn (items b false)=false:=by
          cases hi:isIn (items b false)with
          |false=>rfl
          |true=>
            have hw0:=XV kb;have ht:=iF b kb.1 false;revert hi hw0 ht;generalize items b false=L;intro hi hw0 ht
            match L,hi with
            | .base u false:: .inf o::L',hi=>
              have hi:(decide (u.root.kind=2)&&rName u.root.text&&decide (o.text=[92,105,110]))=true:=hi;simp only [Bool.and_eq_true,decide_eq_true_eq]at hi;obtain⟨x,rfl,_⟩:=G8 hw0.1.1.bX hi.1.1;have hx:rName x=true:=hi.1.2;have h2:o.text=[92,105,110]:=hi.2;have hS:=mG hx;have:fm b false=x++(32::92::105::110::32::ji L'):=by
                rw [<-ht,fu,fu,show txt (.base (.mk ⟨2,0,x,[],[]⟩ []) false)=x from Ou x];simp [txt,h2]
              have hr:(x++(32::92::105::110::32::ji L')).takeWhile jG=x:=XO hS.ch (fun c t e=>by cases e;decide);have hd:(x++(32::92::105::110::32::ji L')).dropWhile jG=32::92::105::110::32::ji L':=by
                have:=List.takeWhile_append_dropWhile (p:=jG) (l:=x++(32::92::105::110::32::ji L'));rw [hr]at this;exact List.append_cancel_left this
              have:zk (fm b false)=true:=by
                rw [this];unfold zk GZ;rw [hr,hd,hx];simp
              rw [hb]at this;cases this
        show R8 _ _=7
        unfold R8;simp [hno]
theorem ZT {t:Tm} {c1:UInt8} {a b:Int} (hab:(c1=65/\a=10/\b=8)\/(c1=69/\a=11/\b=9)) (hv:VT t) (hw:2*t.size<=W+1) {s:Str} (hk:t.root.kind=a\/t.root.kind=b):Dcp W [92,c1,32] (m78 a b) t.root.kind (fm t false++s):=by
  rcases hk with e0|e0
  · obtain⟨names,d,rfl,hn,h0⟩:=zM (k:=a) hv.bX (by omega) e0;obtain⟨x,p,rfl⟩:=List.exists_cons_of_ne_nil h0;obtain⟨ρ,g1,g2⟩:=anV hU (x:=x) (p:=p) (r:=32::58::32::(fm d false++s)) (vE 58 [] (s:=fm d false++s) (by simp [tJ]) (by decide));refine⟨[.base (yA x) false],ρ,?_,ZR (hn x List.mem_cons_self) (KF (c:=d) (by simp) hw) trivial,g2,rfl⟩;rw [u6,show txt (.base (yA x) false)=x from Ou x,<-g1];rcases hab with⟨rfl,rfl,rfl⟩|⟨rfl,rfl,rfl⟩
    · rw [tx _ rfl];show 92::65::32::(Lib.join (x::p) [44,32]++(32::58::32::fm d false))++s=_
      simp
    · rw [tx _ rfl];show 92::69::32::(Lib.join (x::p) [44,32]++(32::58::32::fm d false))++s=_
      simp
  · obtain⟨names,cs,d,rfl,hn,h0,hl,_⟩:=kC (k:=b) hv.bX (by omega) e0;have hK:=u7 hv hw;obtain⟨x,p,rfl⟩:=List.exists_cons_of_ne_nil h0;obtain⟨F,ρ,g1,g2,g3,g4,g5,g6⟩:=XU hU (ks:=[kd d]) (r:=32::58::32::(fm d false++s)) hn hl (fun c hc=>hK c (List.mem_append_left _ hc)) (KF (c:=d) (by simp) hw) (vE 58 [] (s:=fm d false++s) (by simp [tJ]) (by decide));refine⟨F,ρ,?_,g2,g3,?_⟩
    · rw [<-g1];rcases hab with⟨rfl,rfl,rfl⟩|⟨rfl,rfl,rfl⟩
      · rw [tx _ rfl];show 92::65::32::(dH [32,92,105,110,32] (x::p) ((cs++[d]).map kd)++(32::58::32::gY ((cs++[d]).map kd)))++s=_
        rw [iJ,jO];simp
      · rw [tx _ rfl];show 92::69::32::(dH [32,92,105,110,32] (x::p) ((cs++[d]).map kd)++(32::58::32::gY ((cs++[d]).map kd)))++s=_
        rw [iJ,jO];simp
    · show m78 a b F ρ=b
      unfold m78;rw [if_neg (by omega)]
theorem asz {t:Tm} (hv:VT t) (hw:2*t.size<=W+1) {s:Str} (hs:Oh s) (hk:t.root.kind=4\/t.root.kind=26):(t.root.kind=4/\fm t false++s=60::60::62::62::s)\/Dcp W [60,60] m3 t.root.kind (fm t false++s):=by
  rcases hk with e0|e0
  · obtain⟨cs,rfl⟩:=zL hv.bX (by omega) e0;have e1:fm (.mk ⟨4,0,[],[],[]⟩ cs) false++s=60::60::(iT (cs.map kd)++62::62::s):=by
      rw [tx _ rfl];show 60::60::(iT (cs.map kd)++[62,62])++s=_
      simp
    rw [e1];cases cs with
    |nil=>exact .inl ⟨rfl,rfl⟩
    |cons c m=>
      obtain⟨ρ,g1,g2,g3,g4⟩:=aeI hU (cs:=m) (c0:=62) (s:=62::s) (u7 hv hw c (by simp)) (by simp);refine .inr ⟨_,ρ,?_,g2,g3,?_⟩
      · rw [g1];rfl
      · show m3 _ ρ=4
        unfold m3;rcases g4 with rfl|⟨u,rfl⟩
        · cases s with
          |nil=>simp
          |cons c u=>
            have:c≠95:=fun e=>by have:=hs c u rfl;rw [e]at this;revert this;decide
            simp [this]
        · simp
  · obtain⟨a,b,rfl⟩:=mZ hv.bX (by omega) e0;have ka:=u7 hv hw a (by simp);refine .inr ⟨items a false,62::62::95::(fV (kd b) (mS b) false++s),?_,XV ka,gT (by simp),rfl⟩;rw [tx _ rfl,iF a ka.1];show 60::60::(fm a false++(62::62::95::fV (kd b) (mS b) false))++s=_
    simp
end
theorem aj9: ∀i j:Fin 29,acL.getD i.val 0=acL.getD j.val 0->i.val=j.val\/((i.val=2\/i.val=3)/\(j.val=2\/j.val=3))\/((i.val=4\/i.val=26)/\(j.val=4\/j.val=26))\/((i.val=5\/i.val=6\/i.val=7)/\(j.val=5\/j.val=6\/j.val=7))\/((i.val=8\/i.val=10)/\(j.val=8\/j.val=10))\/((i.val=9\/i.val=11)/\(j.val=9\/j.val=11))\/
    ((i.val=13\/i.val=15\/i.val=16\/i.val=17\/i.val=19\/i.val=25)/\(j.val=13\/j.val=15\/j.val=16\/j.val=17\/j.val=19\/j.val=25))\/i.val=14\/i.val=18:=by decide+kernel
theorem anW: ∀{o o':Operator},o∈lH->o'∈lH->o.text=o'.text->o=o':=by
  have:(lH.all fun o=>lH.all fun o'=>decide (o.text=o'.text->o=o'))=true:=by kernel_rfl
  intro o o' ho ho' e;exact of_decide_eq_true (List.all_eq_true.1 (List.all_eq_true.1 this o ho) o' ho') e
theorem asA {u v:Str} (e:123::u=[123]++v):u=v:=(List.cons.inj e).2
theorem asB {u v:Str} (e:60::60::u=[60,60]++v):u=v:=(List.cons.inj (List.cons.inj e).2).2
section
variable {W:Nat} (hU:YP W)
include hU
theorem akb {t t':Tm} (hv:VT t) (hv':VT t') (ha:gP t=true) (ha':gP t'=true) (hw:2*t.size<=W+1) (hw':2*t'.size<=W+1) {s s':Str} (hs:Oh s) (hs':Oh s') (E:fm t false++s=fm t' false++s'):t'.root.kind=t.root.kind:=by
  have hcl:Uc t=Uc t':=by
    rw [<-Dm hv ha (sV hs),<-Dm hv' ha' (sV hs'),E]
  have r1:=R7 hv.bX;have r2:=R7 hv'.bX;have n14:t.root.kind≠14/\t.root.kind≠18:=by
    unfold gP at ha;simp only [Bool.and_eq_true,Bool.not_eq_true',decide_eq_false_iff_not]at ha;exact⟨ha.1.2,ha.2⟩
  have hno: ∀{c0:UInt8} {F:List It} {ρ u:Str} {g:Bool},c0∈([93,41,62,125]:List UInt8)->wf W g true F->c0::u=ji F++ρ->False:=by
    intro c0 F ρ u g hc hF e;obtain⟨c,r,h1,h2⟩:=amk hF;rw [h1]at e;have:=(List.cons.inj e).1;subst this;exact h2 hc
  have aeJ: ∀{t t':Tm} {s s':Str},VT t->VT t'->gP t'=true->Oh s->t.root.kind=2->t'.root.kind=3->fm t false++s=fm t' false++s'->False:=by
    intro t t' s s' hv hv' ha' hs e e' E;obtain⟨n,rfl,hn⟩:=G8 hv.bX e;obtain⟨m,c,cs,rfl,hm,h2⟩:=R6 hv'.bX ha' e';rw [tx _ rfl,tx (x:=⟨3,0,m,[],[]⟩) _ h2]at E;have E:n++s=m++(40::(iT ((c::cs).map kd)++[41]))++s':=E;rw [List.append_assoc]at E;obtain⟨_,e2⟩:=qo (qp hn).ch (qp (s:=m) (by rw [hm];rfl)).ch (sV hs) (lI (by decide)) E;have:=hs 40 _ e2;revert this;decide
  have key:=aj9 ⟨t.root.kind.toNat,by omega⟩ ⟨t'.root.kind.toNat,by omega⟩ hcl;simp only at key;rcases key with h|⟨h,h'⟩|⟨h,h'⟩|⟨h,h'⟩|⟨h,h'⟩|⟨h,h'⟩|⟨h,h'⟩|h|h
  · omega
  · rcases h with h|h<;>rcases h' with h'|h'
    · omega
    · exact(aeJ hv hv' ha' hs (by omega) (by omega) E).elim
    · exact(aeJ hv' hv ha hs' (by omega) (by omega) E.symm).elim
    · omega
  · rcases asz hU hv hw hs (by omega)with⟨k1,e1⟩|d1<;>rcases asz hU hv' hw' hs' (by omega)with⟨k2,e2⟩|d2
    · omega
    · obtain⟨F,ρ,g1,g2,g3,g4⟩:=d2;rw [e1,g1]at E;exact(hno (c0:=62) (by simp) g2 (asB E)).elim
    · obtain⟨F,ρ,g1,g2,g3,g4⟩:=d1;rw [e2,g1]at E;exact(hno (c0:=62) (by simp) g2 (asB E.symm)).elim
    · exact(Ov hU d1 d2 E).symm
  · rcases ah3 hU hv hw (s:=s) (by omega)with⟨k1,e1⟩|d1<;>rcases ah3 hU hv' hw' (s:=s') (by omega)with⟨k2,e2⟩|d2
    · omega
    · obtain⟨F,ρ,g1,g2,g3,g4⟩:=d2;rw [e1,g1]at E;exact(hno (c0:=125) (by simp) g2 (asA E)).elim
    · obtain⟨F,ρ,g1,g2,g3,g4⟩:=d1;rw [e2,g1]at E;exact(hno (c0:=125) (by simp) g2 (asA E.symm)).elim
    · exact(Ov hU d1 d2 E).symm
  · exact(Ov hU (ZT hU (.inl ⟨rfl,rfl,rfl⟩) hv hw (by omega)) (ZT hU (.inl ⟨rfl,rfl,rfl⟩) hv' hw' (by omega)) E).symm
  · exact(Ov hU (ZT hU (.inr ⟨rfl,rfl,rfl⟩) hv hw (by omega)) (ZT hU (.inr ⟨rfl,rfl,rfl⟩) hv' hw' (by omega)) E).symm
  · exact(Ov hU (asy hU hv hw (by omega)) (asy hU hv' hw' (by omega)) E).symm
  · omega
  · omega
theorem akc {t t':Tm} {p p':Bool} (hv:VT t) (hv':VT t') (ha:p=false->gP t=true) (ha':p'=false->gP t'=true) (hw:wt t p<=W+1) (hw':wt t' p'<=W+1) {s s':Str} (hs:Oh s) (hs':Oh s')
    (ho:p=false->fE t.root.kind=true->FG true s) (ho':p'=false->fE t'.root.kind=true->FG true s') (E:txt (.base t p)++s=txt (.base t' p')++s'):t=t'/\p=p'/\s=s':=by
  have asC: ∀(t:Tm) (s:Str),cls (40::(fm t false++[41])++s)=240:=fun t s=>rfl;cases p with
  |true=>
    cases p' with
    |true=>
      have E:40::(fm t false++[41])++s=40::(fm t' false++[41])++s':=E;simp only [kI]at E;rw [<-iF t hv,<-iF t' hv']at E;unfold wt at hw hw';simp only [if_true]at hw hw';obtain⟨e1,e2⟩:=hU true true _ _ _ _ (jL (by omega) id _ _ (Eh hv)) (jL (by omega) id _ _ (Eh hv')) (gT (by simp)) (gT (by simp)) E;exact⟨IX t hv _ _ _ hv' e1,rfl,(List.cons.inj e2).2⟩
    |false=>
      have E:40::(fm t false++[41])++s=fm t' false++s':=E;have h1:=Dm hv' (ha' rfl) (sV hs');rw [<-E,asC]at h1;exact absurd h1.symm (Fv hv'.bX (ha' rfl)).2
  |false=>
    cases p' with
    |true=>
      have E:fm t false++s=40::(fm t' false++[41])++s':=E;have h1:=Dm hv (ha rfl) (sV hs);rw [E,asC]at h1;exact absurd h1.symm (Fv hv.bX (ha rfl)).2
    |false=>
      have E:fm t false++s=fm t' false++s':=E;unfold wt at hw hw';simp only [Bool.false_eq_true,if_false,Nat.add_zero]at hw hw';have hk:=akb hU hv hv' (ha rfl) (ha' rfl) hw hw' hs hs' E;obtain⟨e1,e2⟩:=ah1 hU hv hv' (ha rfl) (ha' rfl) hw hw' hs hs' (fun h=>⟨ho rfl h,ho' rfl (by rw [hk];exact h)⟩) hk E;exact⟨e1,rfl,e2⟩
theorem akd: ∀(L:List It) (n g g':Bool) (L':List It) (r r':Str),wf (W+1) g n L->wf (W+1) g' n L'->FG g r->FG g' r'->ji L++r=ji L'++r'->L=L'/\r=r':=by
  have cA: ∀{w:Nat} {g:Bool} {L:List It} {r:Str},wf w g false L->FG g r->ca (ji L++r)=(match L with|[]=>0| .post::_=>1| .call _::_=>2| .je _::_=>3|_=>4):=by
    intro w g L r h hr
    match L,h with
    |[],h=>exact asf hr.1
    | .post::l,h=>rfl
    | .call ts::l,h=>rfl
    | .je s::l,h=>rfl
    | .inf o::l,h=>
      have:=(ab3 (s:=ji l++r) h.1.1 h.1.2).1;rw [fu];show ca (32::(o.text++[32])++ji l++r)=4
      rw [List.append_assoc,List.cons_append,List.append_assoc];exact this
  intro L
  induction L with
  |nil=>
    intro n g g' L' r r' h h' hr hr' E;cases n with
    |true=>exact h.elim
    |false=>
      have h1:=cA h hr;have h2:=cA h' hr';rw [E,h2]at h1
      match L',h' with
      |[],_=>exact⟨rfl,E⟩
      | .post::l,_=>cases h1
      | .call ts::l,_=>cases h1
      | .je s::l,_=>cases h1
      | .inf o::l,_=>cases h1
  |cons a l ih=>
    intro n g g' L' r r' h h' hr hr' E;cases n with
    |false=>
      have h1:=cA h hr;have h2:=cA h' hr';rw [E,h2]at h1
      match a,L',h,h' with
      | .post,.post::l',h,h'=>
        rw [fu,fu,List.append_assoc,List.append_assoc]at E;obtain⟨e1,e2⟩:=ih false g g' l' r r' h h' hr hr' (List.append_cancel_left E);exact⟨by rw [e1],e2⟩
      | .call ts,.call ts'::l',h,h'=>
        rw [fu,fu]at E;have E:91::(iT (ts.map kd)++[93])++ji l++r=91::(iT (ts'.map kd)++[93])++ji l'++r':=E;simp only [kI]at E;obtain⟨e1,e2⟩:=KE hU (c0:=93) (by simp) (fun c hc=>⟨(h.1.2 c hc).1,by have:=(h.1.2 c hc).2;omega⟩) (fun c hc=>⟨(h'.1.2 c hc).1,by have:=(h'.1.2 c hc).2;omega⟩) E;obtain⟨e3,e4⟩:=ih false g g' l' r r' h.2 h'.2 hr hr' e2;exact⟨by rw [e1,e3],e4⟩
      | .je x,.je x'::l',h,h'=>
        rw [fu,fu]at E;have E:46::x++ji l++r=46::x'++ji l'++r':=E;simp only [List.cons_append,List.append_assoc,List.cons.injEq,true_and]at E;obtain⟨e1,e2⟩:=qo (fun c hc=>rM ((mG h.1).ch c hc)) (fun c hc=>rM ((mG h'.1).ch c hc)) (sV (KD h.2 hr.1)) (sV (KD h'.2 hr'.1)) E;obtain⟨e3,e4⟩:=ih false g g' l' r r' h.2 h'.2 hr hr' e2;exact⟨by rw [e1,e3],e4⟩
      | .inf o,.inf o'::l',h,h'=>
        rw [fu,fu]at E;have E:32::(o.text++[32])++ji l++r=32::(o'.text++[32])++ji l'++r':=E;simp only [kI]at E;obtain⟨e1,e2⟩:=anH (ab3 (s:=[]) h.1.1 h.1.2).2 (ab3 (s:=[]) h'.1.1 h'.1.2).2 E;obtain⟨e3,e4⟩:=ih true g g' l' r r' h.2 h'.2 hr hr' e2;exact⟨by rw [anW h.1.1 h'.1.1 e1,e3],e4⟩
      | .post,[],_,_=>cases h1
      | .post,.call _::_,_,_=>cases h1
      | .post,.je _::_,_,_=>cases h1
      | .post,.inf _::_,_,_=>cases h1
      | .call _,[],_,_=>cases h1
      | .call _,.post::_,_,_=>cases h1
      | .call _,.je _::_,_,_=>cases h1
      | .call _,.inf _::_,_,_=>cases h1
      | .je _,[],_,_=>cases h1
      | .je _,.post::_,_,_=>cases h1
      | .je _,.call _::_,_,_=>cases h1
      | .je _,.inf _::_,_,_=>cases h1
      | .inf _,[],_,_=>cases h1
      | .inf _,.post::_,_,_=>cases h1
      | .inf _,.call _::_,_,_=>cases h1
      | .inf _,.je _::_,_,_=>cases h1
    |true=>
      have cP: ∀{w:Nat} {g:Bool} {t:Tm} {p:Bool} {l:List It} {r:Str},wf w g true (.base t p::l)->FG g r->cls (ji (.base t p::l)++r)∈iA:=by
        intro w g t p l r h hr;rw [fu,List.append_assoc];cases p with
        |true=>exact show(240:Nat)∈iA by decide
        |false=>
          rw [show txt (.base t false)=fm t false from rfl,Dm h.1.1 (h.1.2.1 rfl) (sV (KD h.2 hr.1))];exact(Fv h.1.1.bX (h.1.2.1 rfl)).1
      match a,L',h,h' with
      | .pre o,.pre o'::l',h,h'=>
        rw [fu,fu,List.append_assoc,List.append_assoc]at E;have e0:G5 o=G5 o':=by
          rw [<-Kr h.1 (ji l++r),<-Kr h'.1 (ji l'++r')];exact congrArg cls E
        obtain rfl:=aj3 h.1 h'.1 e0;obtain⟨e1,e2⟩:=ih true g g' l' r r' h.2 h'.2 hr hr' (List.append_cancel_left E);exact⟨by rw [e1],e2⟩
      | .pre o,.base t p::l',h,h'=>
        have h1:=cP h' hr';rw [<-E,fu,List.append_assoc,show txt (.pre o)=zi o from rfl,Kr h.1]at h1;exact(ab4 h.1 h1).elim
      | .base t p,.pre o::l',h,h'=>
        have h1:=cP h hr;rw [E,fu,List.append_assoc,show txt (.pre o)=zi o from rfl,Kr h'.1]at h1;exact(ab4 h'.1 h1).elim
      | .base t p,.base t' p'::l',h,h'=>
        rw [fu,fu,List.append_assoc,List.append_assoc]at E;have op: ∀{g:Bool} {t:Tm} {p:Bool} {l:List It} {r:Str},wf (W+1) g true (.base t p::l)->FG g r->p=false->fE t.root.kind=true->FG true (ji l++r):=by
          intro g t p l r h hr h1 h2;obtain⟨rfl,rfl⟩:=h.1.2.2.2 h1 h2;exact hr
        obtain⟨rfl,rfl,e3⟩:=akc hU h.1.1 h'.1.1 h.1.2.1 h'.1.2.1 h.1.2.2.1 h'.1.2.2.1 (KD h.2 hr.1) (KD h'.2 hr'.1) (op h hr) (op h' hr') E;obtain⟨e4,e5⟩:=ih false g g' l' r r' h.2 h'.2 hr hr' e3;exact⟨by rw [e4],e5⟩
end
theorem aeK {g:Bool}: ∀(L:List It),wf 0 g true L->False
  |[],h=>h
  | .pre o::l,h=>aeK l h.2
  | .base t p::l,h=>by
    have:=h.1.2.2.1;have:=size_pos t;unfold wt at*;omega
  | .post::l,h=>h
  | .call ts::l,h=>h
  | .je s::l,h=>h
  | .inf o::l,h=>h
theorem uat: ∀W,YP W
  |0=>fun g g' L L' r r' h=>(aeK L h).elim
  |W+1=>fun g g' L L' r r' h h' hr hr' E=>akd (uat W) L true g g' L' r r' h h' hr hr' E
theorem asD {t t':Tm} (h:VT t) (h':VT t') (e:fm t false=fm t' false):t=t':=by
  have k: ∀{t:Tm},VT t->t.size<=t.size+t'.size:=fun _=>Nat.le_add_right _ _;have nil:FG true []:=⟨.inl rfl,fun _ u e=>by cases e⟩;rw [<-iF t h,<-iF t' h',<-List.append_nil (ji (items t false)),<-List.append_nil (ji (items t' false))]at e;obtain⟨e1,_⟩:=uat (2*(t.size+t'.size)+1) true true _ _ _ _ (jL (by omega) id _ _ (Eh h)) (jL (by omega) id _ _ (Eh h')) nil nil e;exact IX t h _ _ _ h' e1
mutual
def strip:Tm->Tm
  | .mk x cs=> .mk ⟨x.kind,x.n,x.text,x.names,[]⟩ (strips cs)
def strips:List Tm->List Tm
  |[]=>[]
  |c::cs=>strip c::strips cs
end
mutual
theorem LC: ∀t:Tm,(strip t).size=t.size
  | .mk x cs=>by rw [strip];simp only [size];rw [QB cs]
theorem QB: ∀cs:List Tm,sizes (strips cs)=sizes cs
  |[]=>by rw [strips]
  |c::cs=>by rw [strips];simp only [sizes];rw [LC c,QB cs]
end
theorem He: ∀(cs:List Tm) (b:Nat),roots b (strips cs)=roots b cs
  |[],b=>by rw [strips]
  |c::cs,b=>by rw [strips,roots,roots,LC,He cs]
mutual
theorem Ud: ∀(t:Tm) (b:Nat),flat b (strip t)=flat b t
  | .mk x cs,b=>by rw [strip,qX,qX,QC cs b];unfold nd;rw [He]
theorem QC: ∀(cs:List Tm) (b:Nat),dS b (strips cs)=dS b cs
  |[],b=>by rw [strips]
  |c::cs,b=>by rw [strips,lC,lC,Ud c b,LC,QC cs]
end
mutual
theorem aeL: ∀(t:Tm) (b:Nat),(∀n∈flat b t,bW true n=0)->VT (strip t)
  | .mk x cs,b,h=>by
    rw [strip,VT];refine⟨ash (b:=b) (h _ ?_),acu cs b fun n hn=>h n (by rw [qX];exact List.mem_append_left _ hn)⟩;rw [qX];unfold nd;rw [He];simp
theorem acu: ∀(cs:List Tm) (b:Nat),(∀n∈dS b cs,bW true n=0)->Cb (strips cs)
  |[],b,h=>by rw [strips,Cb];trivial
  |c::cs,b,h=>by
    rw [strips,Cb];exact⟨aeL c b fun n hn=>h n (by rw [lC];exact List.mem_append_left _ hn),acu cs _ fun n hn=>h n (by rw [lC];exact List.mem_append_right _ hn)⟩
end
theorem acv {e:List Nd} (hV:Valid e): ∃t,e=flat 0 t/\VT t:=by
  obtain⟨t,rfl⟩:=hV.tree;refine⟨strip t,(Ud t 0).symm,aeL t 0 fun n hn=> ?_⟩;obtain⟨i,hi⟩:=List.mem_iff_getElem?.1 hn;exact hV.ok i n hi
mutual
def EJ:Tm->Bool
  | .mk x cs=>fE x.kind||((fq x.kind x.text).2&& !decide ((fq x.kind x.text).1.fix=2)&&EK cs)
def EK:List Tm->Bool
  |[]=>false
  |c::cs=>if cs=[]then EJ c else EK cs
end
theorem Pq (x:Nd) (cs:List Tm):EJ (.mk x cs)=(fE x.kind||((fq x.kind x.text).2&& !decide ((fq x.kind x.text).1.fix=2)&&EK cs)):=by rw [EJ]
theorem YS: ∀(cs:List Tm) (c:Tm),EK (cs++[c])=EJ c
  |[],c=>by rw [List.nil_append,EK,if_pos rfl]
  |d::cs,c=>by rw [List.cons_append,EK,if_neg (by simp),YS cs c]
theorem acw {c:Tm} (h:(fm c false).length<=(fm c true).length) (m:Bool):(fV (kd c) m false).length<=(fV (kd c) m true).length:=by
  unfold fV;cases m with
  |true=>simp
  |false=>exact h
theorem ah4 (sep:Str): ∀(l l':List Str),l.length=l'.length->(∀(i:Nat) (a b:Str),l[i]? =some a->l'[i]? =some b->a.length<=b.length)->(Lib.join l sep).length<=(Lib.join l' sep).length
  |[],[],_,_=>Nat.le_refl _
  |[],b::l',h,_=>by simp at h
  |a::l,[],h,_=>by simp at h
  |a::l,b::l',h,hk=>by
    have h0:=hk 0 a b rfl rfl;have jt: ∀(l l':List Str),l.length=l'.length->(∀(i:Nat) (a b:Str),l[i]? =some a->l'[i]? =some b->a.length<=b.length)->(Lib.joinTail sep l).length<=(Lib.joinTail sep l').length:=by
      intro l
      induction l with
      |nil=>intro l' h _;cases l' with|nil=>exact Nat.le_refl _|cons _ _=>simp at h
      |cons x l ih=>
        intro l' h hk;cases l' with
        |nil=>simp at h
        |cons y l'=>
          have h1:=hk 0 x y rfl rfl;have h2:=ih l' (by simpa using h) fun i a b ha hb=>hk (i+1) a b ha hb;simp only [Lib.joinTail,List.map_cons,List.flatten_cons,List.length_append]at h2⊢;omega
    have h1:=jt l l' (by simpa using h) fun i a b ha hb=>hk (i+1) a b ha hb;rw [dO,dO,List.length_append,List.length_append];omega
theorem R9 {o:Operator}: ∀(ks:List dA) (i:Nat) (f:Bool),(j4 o f i ks).length=ks.length
  |[],i,f=>rfl
  |c::l,i,f=>by show(j4 o f (i+1) l).length+1=_;rw [R9 l];rfl
theorem IZ (o:Operator) (f:Bool) (i:Nat) (c:dA) (l:List dA):j4 o f i (c::l)=fV c (j3 o i c) (f|| !l.isEmpty)::j4 o f (i+1) l:=rfl
theorem aeM {o:Operator}: ∀(l:List Tm) (i:Nat),(∀c∈l,(fm c false).length<=(fm c true).length)-> ∀(j:Nat) (a b:Str),(j4 o false i (l.map kd))[j]? =some a->(j4 o true i (l.map kd))[j]? =some b->a.length<=b.length
  |[],i,h,j,a,b,ha,hb=>by simp [j4]at ha
  |c::l,i,h,j,a,b,ha,hb=>by
    rw [List.map_cons,IZ]at ha hb;cases j with
    |zero=>
      simp only [List.getElem?_cons_zero,Option.some.injEq]at ha hb;subst ha;subst hb;have h1:=acw (h c List.mem_cons_self) (j3 o i (kd c));cases(l.map kd).isEmpty with
      |true=>exact h1
      |false=>exact Nat.le_refl _
    |succ j=>exact aeM l (i+1) (fun x hx=>h x (List.mem_cons_of_mem _ hx)) j a b ha hb
theorem YT {o:Operator}: ∀(l:List Tm) (i:Nat),EK l=false->(∀c∈l,EJ c=false->fm c true=fm c false)->j4 o true i (l.map kd)=j4 o false i (l.map kd)
  |[],i,h,hc=>rfl
  |[c],i,h,hc=>by
    have h:EJ c=false:=by rw [EK,if_pos rfl]at h;exact h
    have e:=hc c (by simp) h;show [fV (kd c) (j3 o i (kd c)) true]=[fV (kd c) (j3 o i (kd c)) false]
    unfold fV;rw [show(kd c).out true=(kd c).out false from e]
  |c::d::m,i,h,hc=>by
    have h:EK (d::m)=false:=by rw [EK,if_neg (by simp)]at h;exact h
    have ih:=YT (o:=o) (d::m) (i+1) h fun x hx=>hc x (List.mem_cons_of_mem _ hx);rw [List.map_cons,IZ,IZ,ih,List.map_cons];rfl
structure Flg (t:Tm):Prop where
  le:(fm t false).length<=(fm t true).length
  eq:EJ t=false->fm t true=fm t false
theorem XW {x:Nd} {cs:List Tm} (h:(fq x.kind x.text).2=false):Flg (.mk x cs):=by
  refine⟨?_,fun ho=> ?_⟩
  · rw [Cc cs false h,Cc cs true h];cases fE x.kind<;>simp<;>omega
  · rw [Pq]at ho;simp only [Bool.or_eq_false_iff]at ho;rw [Cc cs false h,Cc cs true h,ho.1];rfl
mutual
theorem flg: ∀t:Tm,VT t->Flg t
  | .mk x cs,h=>by
    have ih:=asF cs h.kids;rcases xQ h.bX with ha|⟨o,c,ho,hf,hop,e⟩|⟨o,c,ho,hf,hop,e⟩|⟨o,c,d,m,ho,hf,hop,hl,e⟩|⟨c,d,m,e⟩|⟨s,c,hs,e⟩
    · unfold gP at ha;simp only [Bool.and_eq_true,Bool.not_eq_true']at ha;exact XW ha.1.1
    · cases e;have hc:=ih c (by simp);have ef: ∀f,fm (.mk ⟨3,0,o.text,[],[]⟩ [c]) f=zi o++fV (kd c) (zh o (kd c)) f:=fun f=>by
        rw [Fp (x:=⟨3,0,o.text,[],[]⟩) (o:=o) _ _ hop];simp only [Ca,List.map_cons,hf,show ¬(0:Int)=2 by decide,if_false,if_true]
      refine⟨?_,fun hn=> ?_⟩
      · rw [ef,ef,List.length_append,List.length_append];have:=acw hc.le (zh o (kd c));omega
      · rw [Pq]at hn;have hn:EJ c=false:=by
          simp only [IV,hop,hf,Bool.or_eq_false_iff,Bool.and_eq_false_iff,show decide ((0:Int)=2)=false from rfl,Bool.not_false,Bool.true_eq_false,false_or,EK,if_true]at hn;simpa using hn.2
        rw [ef,ef];unfold fV;rw [show(kd c).out true=(kd c).out false from hc.eq hn]
    · cases e;have ef: ∀f,fm (.mk ⟨3,0,o.text,[],[]⟩ [c]) f=fV (kd c) (zf o (kd c)) true++o.text:=fun f=>by
        rw [Fp (x:=⟨3,0,o.text,[],[]⟩) (o:=o) _ _ hop];simp only [Ca,List.map_cons,hf,if_true]
      exact⟨by rw [ef,ef];exact Nat.le_refl _,fun _=>by rw [ef,ef]⟩
    · cases e;have ef: ∀f,fm (.mk ⟨3,0,o.text,[],[]⟩ (c::d::m)) f=Lib.join (j4 o f 0 ((c::d::m).map kd)) (32::(o.text++[32])):=fun f=>by
        rw [Fp (x:=⟨3,0,o.text,[],[]⟩) (o:=o) _ _ hop];simp only [Ca,List.map_cons,hf,show ¬(1:Int)=2 by decide,show ¬(1:Int)=0 by decide,if_false]
      refine⟨?_,fun hn=> ?_⟩
      · rw [ef,ef];exact ah4 _ _ _ (by rw [R9,R9]) (aeM _ 0 fun y hy=>(ih y hy).le)
      · rw [Pq]at hn;have hn:EK (c::d::m)=false:=by
          simp only [IV,hop,hf,Bool.or_eq_false_iff,Bool.and_eq_false_iff,show decide ((1:Int)=2)=false from rfl,Bool.not_false,Bool.true_eq_false,false_or]at hn;exact hn.2
        rw [ef,ef,YT _ 0 hn fun y hy=>(ih y hy).eq]
    · cases e;exact XW rfl
    · cases e;exact XW rfl
theorem asF: ∀cs:List Tm,Cb cs-> ∀c∈cs,Flg c
  |[],_,c,hc=>by cases hc
  |d::cs,h,c,hc=>by
    rw [Cb]at h;by_cases e:c=d
    · rw [e];exact flg d h.1
    · exact asF cs h.2 c ((List.mem_cons.1 hc).resolve_left e)
end
def Has (T:Str) (c:Tm):Prop:= ∃a f b,T=a++(fm c f++b)
theorem fA (c:Tm) (f:Bool):Has (fm c f) c:=⟨[],f,[],by simp⟩
theorem bV {T:Str} {c:Tm} (x:Str) (h:Has T c):Has (x++T) c:=by
  obtain⟨a,f,b,rfl⟩:=h;exact⟨x++a,f,b,by simp⟩
theorem gG {T:Str} {c:Tm} (y:Str) (h:Has T c):Has (T++y) c:=by
  obtain⟨a,f,b,rfl⟩:=h;exact⟨a,f,b++y,by simp⟩
theorem bQ {T:Str} {c:Tm} (x:UInt8) (h:Has T c):Has (x::T) c:=bV [x] h
theorem Dp (c:Tm) (m f:Bool):Has (fV (kd c) m f) c:=by
  unfold fV;cases m with
  |true=>exact bQ 40 (gG [41] (fA c false))
  |false=>exact fA c f
theorem Hf {s:Str} {c:Tm} (sep:Str): ∀{l:List Str},s∈l->Has s c->Has (Lib.join l sep) c
  |[],h,_=>by cases h
  |[x],h,hs=>by
    rw [dO];rw [List.mem_singleton.1 h]at hs;exact gG _ hs
  |x::y::l,h,hs=>by
    have e:Lib.joinTail sep (y::l)=sep++Lib.join (y::l) sep:=by rw [dO];simp [Lib.joinTail]
    rw [dO,e];rcases List.mem_cons.1 h with rfl|h
    · exact gG _ hs
    · exact bV _ (bV _ (Hf sep h hs))
theorem Pt {c:Tm} {cs:List Tm} (h:c∈cs):Has (iT (cs.map kd)) c:=by
  unfold iT;refine Hf _ (s:=fm c false) ?_ (fA c false);rw [List.map_map];exact List.mem_map.2 ⟨c,h,rfl⟩
theorem aeN {c:Tm} {sign:Str}: ∀{names:List Str} {cs:List Tm} {ks:List dA},c∈cs->cs.length=names.length-> ∃s∈List.zipWith (fun s k=>s++(sign++dA.out k false)) names (cs.map kd++ks),Has s c
  |[],[],ks,h,_=>by cases h
  |[],d::cs,ks,h,hl=>by simp at hl
  |x::p,[],ks,h,_=>by cases h
  |x::p,d::cs,ks,h,hl=>by
    rw [List.map_cons,List.cons_append,List.zipWith_cons_cons];by_cases e:c=d
    · subst e;exact⟨_,List.mem_cons_self,bV _ (bV _ (fA c false))⟩
    · obtain⟨s,h1,h2⟩:=aeN (sign:=sign) (names:=p) (ks:=ks) ((List.mem_cons.1 h).resolve_left e) (by simpa using hl);exact⟨s,List.mem_cons_of_mem _ h1,h2⟩
theorem acy {c:Tm} {sign:Str} {names:List Str} {cs:List Tm} {ks:List dA} (h:c∈cs) (hl:cs.length=names.length):Has (dH sign names (cs.map kd++ks)) c:=by
  obtain⟨s,h1,h2⟩:=aeN (sign:=sign) (names:=names) (ks:=ks) h hl;exact Hf _ h1 h2
theorem aeO {c:Tm}: ∀{cs:List Tm},c∈cs-> ∃s∈iq (cs.map kd),Has s c
  |[],h=>by cases h
  |[d],h=>by
    rw [List.mem_singleton.1 h];exact⟨_,by rw [List.map_cons,List.map_nil,iq];exact List.mem_cons_self,bQ _ (bQ _ (bQ _ (bQ _ (bQ _ (bQ _ (bQ _ (bQ _ (bQ _ (fA d false)))))))))⟩
  |d::e::m,h=>by
    rw [List.map_cons,List.map_cons,iq];by_cases h1:c=d
    · subst h1;exact⟨_,List.mem_cons_self,gG _ (fA c false)⟩
    · by_cases h2:c=e
      · subst h2;exact⟨_,List.mem_cons_self,bV _ (bQ _ (bQ _ (bQ _ (bQ _ (fA c _)))))⟩
      · obtain⟨s,h3,h4⟩:=aeO (cs:=m) (by simpa [h1,h2]using h);exact⟨s,List.mem_cons_of_mem _ h3,h4⟩
theorem acz {o:Operator} {c:Tm}: ∀{cs:List Tm} {i:Nat} {f:Bool},c∈cs-> ∃s∈j4 o f i (cs.map kd),Has s c
  |[],i,f,h=>by cases h
  |d::m,i,f,h=>by
    rw [List.map_cons,IZ];by_cases h1:c=d
    · subst h1;exact⟨_,List.mem_cons_self,Dp c _ _⟩
    · obtain⟨s,h3,h4⟩:=acz (o:=o) (cs:=m) (i:=i+1) (f:=f) ((List.mem_cons.1 h).resolve_left h1);exact⟨s,List.mem_cons_of_mem _ h3,h4⟩
theorem anX {c:Tm}:Has (wU (fm c false)) c:=by
  unfold wU;cases zk (fm c false)with
  |true=>exact bQ 40 (gG [41] (fA c false))
  |false=>exact fA c false
end Go.VL
end
