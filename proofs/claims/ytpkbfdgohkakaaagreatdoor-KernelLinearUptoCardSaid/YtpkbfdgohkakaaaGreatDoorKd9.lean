/- Part 9. -/
import Derived.Test.YtpkbfdgohkakaaaGreatDoorKd8
import Derived.Lib.SlicesCompact
import Derived.Lib.RowBridge
import Derived.Lib.ItoaNum
import Derived.KernelRfl
import Derived.Test.YtpkbfdgohkakaaaGreatDoorRows
import Derived.RangeFuncOwn
import Derived.TacticsIn
import Derived.TacticsInMore
import Derived.LoopIn
import Derived.Walk
import Derived.WalkKit
set_option maxRecDepth 8000
set_option linter.unusedVariables false
set_option linter.unusedSectionVars false
set_option linter.unusedSimpArgs false
section
namespace Go.VL
namespace Tm
mutual
def QW (b:Nat):Tm->List Int
 | .mk _ cs=>lN b cs++[(b:Int)]
def lN (b:Nat):List Tm->List Int
 |[]=>[]
 |c::cs=>QW b c++lN (b+c.size) cs
end
theorem VR {b:Nat} {x:Nd} {cs:List Tm}:QW b (.mk x cs)=lN b cs++[(b:Int)]:=by rw [QW]
mutual
theorem Yq (b:Nat): ∀t:Tm,(QW b t).length=t.size
 | .mk x cs=>by rw [VR];unfold size;rw [X1,vv b cs];rfl
theorem vv (b:Nat): ∀cs:List Tm,(lN b cs).length=sizes cs
 |[]=>rfl
 |c::cs=>by unfold lN sizes;rw [X1,Yq b c,vv (b+c.size) cs]
end
theorem Br: ∀(b:Nat) (l m:List Tm),lN b (l++m)=lN b l++lN (b+sizes l) m
 |b,[],m=>by simp [lN,sizes]
 |b,c::l,m=>by simp only [B4,lN,sizes,Br (b+c.size) l m,T1,G4]
theorem ac9 {b:Nat} {t:Tm}:(QW b t)[t.size -1]? =some (b:Int):=by
 cases t with
 |mk x cs=>
  rw [VR];have:(mk x cs).size -1=sizes cs:=by unfold size;omega
  rw [this,N0 (by rw [vv];exact R0 _),vv,L5];rfl
theorem mR (t:Tm):sizes [t]=t.size:=by simp [sizes]
theorem zK (b:Nat) (t:Tm):aV b [t]=flat b t:=by simp [aV]
theorem aos (b:Nat) (t:Tm):lN b [t]=QW b t:=by simp [lN]
theorem Zw (b:Nat) (t:Tm):roots b [t]=[((b+t.size -1:Nat):Int)]:=by simp [roots]
theorem Lr {b:Nat} {l m:List Tm} {t:Tm}:(lN b (l++t::m))[sizes l+t.size -1]? =some ((b+sizes l:Nat):Int):=by
 have hp:=t.size_pos;rw [Br,N0 (by rw [vv];omega),vv];unfold lN;rw [C0 (by rw [Yq];omega),show sizes l+t.size -1 -sizes l=t.size -1 by omega,ac9]
theorem ada {ts:List Tm} {acc:List Int} (ha:acc=lN 0 ts): ∀(l:List Int) (t1 rest:List Tm),ts=t1++rest->uq acc ((sizes t1:Nat):Int) l=true-> ∃front mid,t1=front++mid/\l.reverse=roots (sizes front) mid
 |[],t1,rest,_,_=>⟨t1,[],by simp,by simp [roots]⟩
 |a::l,t1,rest,hts,hp=>by
  rw [uq,z1,z1,B2,B2]at hp;obtain⟨⟨h1,h2⟩,h3⟩:=hp;rcases pB t1 with rfl|⟨t2,t,rfl⟩
  · simp [sizes]at h2
  rw [mB]at*;have hpos:=t.size_pos;have hsz:sizes (t2++[t])=sizes t2+t.size:=by rw [dG,mR]
  have hget:acc[(((sizes (t2++[t]):Nat):Int) -1).toNat]? =some ((sizes t2:Nat):Int):=by
   rw [ha,hts,T1,hsz,show((((sizes t2+t.size:Nat):Int) -1).toNat)=sizes t2+t.size -1 by omega];have:=Lr (b:=0) (l:=t2) (m:=rest) (t:=t);rw [V1]at this;exact this
  rw [hget,E2]at h3;obtain⟨front,mid,e1,e2⟩:=ada ha l t2 ([t]++rest) (by rw [hts,T1]) h3;refine⟨front,mid++[t],by rw [e1,T1],?_⟩;rw [List.reverse_cons,e2,zJ,Zw];congr 2;rw [h1,hsz,e1,dG];omega
def bare (n:Nd):Nd:={n with args:=[]}
theorem aut {n:Nd} {b:Nat} {cs:List Tm} (h:n.args=roots b cs):nd (bare n) b cs=n:=by
 unfold nd bare;cases n;simp only at h⊢;rw [h]
theorem row_step {ts:List Tm} {acc:List Int} {n:Nd} (ha:acc=lN 0 ts) (hp:uq acc (acc.length:Int) n.args.reverse=true):
 ∃front last,ts=front++last/\n.args=roots (sizes front) last/\aV 0 (front++[.mk (bare n) last])=aV 0 ts++[n]/\lN 0 (front++[.mk (bare n) last])=acc++[yB acc n]:=by
 have hl:acc.length=sizes ts:=by rw [ha,vv]
 rw [hl]at hp;obtain⟨front,last,e1,e2⟩:=ada ha n.args.reverse ts [] (by simp) hp;rw [List.reverse_reverse]at e2;refine⟨front,last,e1,e2,?_,?_⟩
 · rw [sK,zK,ig,aut (by rw [V1];exact e2),e1,sK,T1]
 · rw [Br,aos,VR,ha,e1,Br,T1];congr 3;rw [V1];unfold yB;rw [e2];cases last with
   |nil=>simp [roots,lN,vv]
   |cons c cs=>
    simp only [roots];have h1:=Lr (b:=0) (l:=front) (m:=cs) (t:=c);rw [V1,Br,V1]at h1;rw [V0,h1,E2]
mutual
def nY (b:Nat) (p k:Int):Tm->List (Int×Int)
 | .mk _ cs=>fI b ((b+sizes cs:Nat):Int) 0 cs++[(p,k)]
def fI (b:Nat) (p:Int) (k:Nat):List Tm->List (Int×Int)
 |[]=>[]
 |c::cs=>nY b p k c++fI (b+c.size) p (k+1) cs
end
def bH (b:Nat):List Tm->List (Int×Int)
 |[]=>[]
 |c::cs=>nY b (-1) 0 c++bH (b+c.size) cs
theorem wu {b:Nat} {p k:Int} {x:Nd} {cs:List Tm}:nY b p k (.mk x cs)=fI b ((b+sizes cs:Nat):Int) 0 cs++[(p,k)]:=by rw [nY]
mutual
theorem fM (b:Nat) (p k:Int): ∀t:Tm,(nY b p k t).length=t.size
 | .mk x cs=>by rw [wu];unfold size;rw [X1,eP];rfl
theorem eP (b:Nat) (p:Int) (k:Nat): ∀cs:List Tm,(fI b p k cs).length=sizes cs
 |[]=>rfl
 |c::cs=>by unfold fI sizes;rw [X1,fM b p k c,eP (b+c.size) p (k+1) cs]
end
theorem wQ: ∀(b:Nat) (cs:List Tm),(bH b cs).length=sizes cs
 |_,[]=>rfl
 |b,c::cs=>by unfold bH sizes;rw [X1,fM,wQ (b+c.size) cs]
theorem Je: ∀(b:Nat) (l m:List Tm),bH b (l++m)=bH b l++bH (b+sizes l) m
 |b,[],m=>by simp [bH,sizes]
 |b,c::l,m=>by simp only [B4,bH,sizes,Je (b+c.size) l m,T1,G4]
theorem Kc (b:Nat) (t:Tm):bH b [t]=nY b (-1) 0 t:=by simp [bH]
theorem Zx: ∀(b:Nat) (p:Int) (k:Nat) (cs:List Tm) (j:Nat) (a:Int),(roots b cs)[j]? =some a-> ∃r:Nat,a=((b+r:Nat):Int)/\r<sizes cs/\(fI b p k cs)[r]? =some (p,((k+j:Nat):Int))
 |b,p,k,[],j,a,h=>by simp [roots]at h
 |b,p,k,c::cs,j,a,h=>by
  have hpos:=c.size_pos;cases j with
  |zero=>
   simp only [roots,N2,L1]at h;refine⟨c.size -1,by rw [<-h];congr 1;omega,by simp only [sizes];omega,?_⟩;unfold fI;rw [C0 (by rw [fM];omega)];cases c with
   |mk x ds=>
    rw [wu,show(mk x ds).size -1=sizes ds by unfold size;omega,N0 (by rw [eP];exact R0 _),eP,L5];rfl
  |succ j=>
   simp only [roots,d5]at h;obtain⟨r,h1,h2,h3⟩:=Zx (b+c.size) p (k+1) cs j a h;refine⟨c.size+r,by rw [h1,G4],by simp only [sizes];omega,?_⟩;unfold fI;rw [N0 (by rw [fM];omega),fM,show c.size+r -c.size=r by omega,h3];congr 3;omega
mutual
theorem agV: ∀(b:Nat) (p k:Int) (t:Tm) (q:Nat) (n:Nd) (j:Nat) (a:Int),(flat b t)[q]? =some n->n.args[j]? =some a-> ∃r:Nat,a=((b+r:Nat):Int)/\r<q/\(nY b p k t)[r]? =some (((b+q:Nat):Int),(j:Int))
 |b,p,k,.mk x cs,q,n,j,a,h1,h2=>by
  rw [ig]at h1;rw [wu];by_cases hq:q<sizes cs
  · rw [C0 (by rw [dz];exact hq)]at h1;obtain⟨r,h3,h4,h5⟩:=adb b ((b+sizes cs:Nat):Int) 0 cs q n j a h1 h2;exact⟨r,h3,h4,by rw [C0 (by rw [eP];omega)];exact h5⟩
  · have hlt:=(S0.1 h1).1;rw [X1,dz]at hlt;obtain rfl:q=sizes cs:=by simp at hlt;omega
    rw [N0 (by rw [dz];exact R0 _),dz,L5,N2,L1]at h1;subst h1;obtain⟨r,h3,h4,h5⟩:=Zx b ((b+sizes cs:Nat):Int) 0 cs j a h2;refine⟨r,h3,h4,?_⟩;rw [C0 (by rw [eP];exact h4),h5,V1]
theorem adb: ∀(b:Nat) (p:Int) (k:Nat) (cs:List Tm) (q:Nat) (n:Nd) (j:Nat) (a:Int),(aV b cs)[q]? =some n->n.args[j]? =some a-> ∃r:Nat,a=((b+r:Nat):Int)/\r<q/\(fI b p k cs)[r]? =some (((b+q:Nat):Int),(j:Int))
 |b,p,k,[],q,n,j,a,h1,h2=>by simp [aV]at h1
 |b,p,k,c::cs,q,n,j,a,h1,h2=>by
  rw [fH]at h1;unfold fI;by_cases hq:q<c.size
  · rw [C0 (by rw [bn];exact hq)]at h1;obtain⟨r,h3,h4,h5⟩:=agV b p k c q n j a h1 h2;exact⟨r,h3,h4,by rw [C0 (by rw [fM];omega)];exact h5⟩
  · rw [N0 (by rw [bn];omega),bn]at h1;obtain⟨r,h3,h4,h5⟩:=adb (b+c.size) p (k+1) cs (q -c.size) n j a h1 h2;refine⟨c.size+r,by rw [h3,G4],by omega,?_⟩;rw [N0 (by rw [fM];omega),fM,show c.size+r -c.size=r by omega,h5];congr 3;omega
end
theorem Uu: ∀(b:Nat) (cs:List Tm) (q:Nat) (n:Nd) (j:Nat) (a:Int),(aV b cs)[q]? =some n->n.args[j]? =some a-> ∃r:Nat,a=((b+r:Nat):Int)/\r<q/\(bH b cs)[r]? =some (((b+q:Nat):Int),(j:Int))
 |b,[],q,n,j,a,h1,h2=>by simp [aV]at h1
 |b,c::cs,q,n,j,a,h1,h2=>by
  rw [fH]at h1;unfold bH;by_cases hq:q<c.size
  · rw [C0 (by rw [bn];exact hq)]at h1;obtain⟨r,h3,h4,h5⟩:=agV b (-1) 0 c q n j a h1 h2;exact⟨r,h3,h4,by rw [C0 (by rw [fM];omega)];exact h5⟩
  · rw [N0 (by rw [bn];omega),bn]at h1;obtain⟨r,h3,h4,h5⟩:=Uu (b+c.size) cs (q -c.size) n j a h1 h2;refine⟨c.size+r,by rw [h3,G4],by omega,?_⟩;rw [N0 (by rw [fM];omega),fM,show c.size+r -c.size=r by omega,h5];congr 3;omega
def Says (b:Nat) (l:List Nd) (r:Nat) (P j:Int):Prop:= ∃(q j':Nat) (n:Nd),P=((b+q:Nat):Int)/\j=(j':Int)/\r<q/\l[q]? =some n/\n.args[j']? =some ((b+r:Nat):Int)
theorem Pv {b:Nat} {l m:List Nd} {r:Nat} {P j:Int} (h:Says b l r P j):Says b (l++m) r P j:=by
 obtain⟨q,j',n,h1,h2,h3,h4,h5⟩:=h;exact⟨q,j',n,h1,h2,h3,by rw [C0 (S0.1 h4).1];exact h4,h5⟩
theorem VT {b:Nat} {l m:List Nd} {r:Nat} {P j:Int} (h:Says (b+l.length) m r P j):Says b (l++m) (l.length+r) P j:=by
 obtain⟨q,j',n,h1,h2,h3,h4,h5⟩:=h;exact⟨l.length+q,j',n,by rw [h1,G4],h2,by omega,by rw [N0 (by omega),show l.length+q -l.length=q by omega];exact h4,by rw [h5,G4]⟩
theorem ai5: ∀(b:Nat) (cs:List Tm) (k:Nat) (c:Tm) (l m:List Tm),cs=l++c::m->(roots b cs)[l.length]? =some ((b+(sizes l+c.size -1):Nat):Int):=by
 intro b cs k c l m h;have hp:=c.size_pos;rw [h,FX];congr 2;omega
mutual
theorem Zy: ∀(b:Nat) (p k:Int) (t:Tm) (r:Nat) (P j:Int),(nY b p k t)[r]? =some (P,j)->(r=t.size -1/\P=p/\j=k)\/Says b (flat b t) r P j
 |b,p,k,.mk x cs,r,P,j,h=>by
  rw [wu]at h;by_cases hr:r<sizes cs
  · rw [C0 (by rw [eP];exact hr)]at h;rw [ig];rcases VU b ((b+sizes cs:Nat):Int) 0 cs r P j h with⟨l,c,m,e1,e2,e3,e4⟩|hs
    · right;refine⟨sizes cs,l.length,nd x b cs,e3,by rw [e4,V1],hr,?_,?_⟩
      · rw [N0 (by rw [dz];exact R0 _),dz,L5];rfl
      · show(roots b cs)[l.length]? =_
        rw [ai5 b cs 0 c l m e1,e2]
    · exact .inr (Pv hs)
  · have hlt:=(S0.1 h).1;rw [X1,eP]at hlt;obtain rfl:r=sizes cs:=by simp at hlt;omega
    rw [N0 (by rw [eP];exact R0 _),eP,L5,N2]at h;cases h;left;exact⟨by unfold size;omega,rfl,rfl⟩
theorem VU: ∀(b:Nat) (p:Int) (k:Nat) (cs:List Tm) (r:Nat) (P j:Int),(fI b p k cs)[r]? =some (P,j)->
 (∃l c m,cs=l++c::m/\r=sizes l+c.size -1/\P=p/\j=((k+l.length:Nat):Int))\/Says b (aV b cs) r P j
 |b,p,k,[],r,P,j,h=>by simp [fI]at h
 |b,p,k,c::cs,r,P,j,h=>by
  unfold fI at h;rw [fH];by_cases hr:r<c.size
  · rw [C0 (by rw [fM];exact hr)]at h;rcases Zy b p k c r P j h with⟨e1,e2,e3⟩|hs
    · exact .inl ⟨[],c,cs,rfl,by simp [sizes,e1],e2,by simp [e3]⟩
    · exact .inr (Pv hs)
  · rw [N0 (by rw [fM];omega),fM]at h;rcases VU (b+c.size) p (k+1) cs (r -c.size) P j h with⟨l,d,m,e1,e2,e3,e4⟩|hs
    · refine .inl ⟨c::l,d,m,by rw [e1];rfl,?_,e3,by rw [e4,I0];omega⟩;have:=d.size_pos;simp only [sizes];omega
    · right;have h2:Says (b+(flat b c).length) (aV (b+c.size) cs) (r -c.size) P j:=by rw [bn];exact hs
      have:=VT h2;rw [bn,show c.size+(r -c.size)=r by omega]at this;exact this
end
theorem MP: ∀(b:Nat) (cs:List Tm) (r:Nat) (P j:Int),(bH b cs)[r]? =some (P,j)->(P= -1/\j=0)\/Says b (aV b cs) r P j
 |b,[],r,P,j,h=>by simp [bH]at h
 |b,c::cs,r,P,j,h=>by
  unfold bH at h;rw [fH];by_cases hr:r<c.size
  · rw [C0 (by rw [fM];exact hr)]at h;rcases Zy b (-1) 0 c r P j h with⟨e1,e2,e3⟩|hs
    · exact .inl ⟨e2,e3⟩
    · exact .inr (Pv hs)
  · rw [N0 (by rw [fM];omega),fM]at h;rcases MP (b+c.size) cs (r -c.size) P j h with hs|hs
    · exact .inl hs
    · right;have h2:Says (b+(flat b c).length) (aV (b+c.size) cs) (r -c.size) P j:=by rw [bn];exact hs
      have:=VT h2;rw [bn,show c.size+(r -c.size)=r by omega]at this;exact this
end Tm
end Go.VL
end
section
namespace Go.VL
open Tm
theorem agW: ∀(l:List Nd) (acc acc':List Int),jy acc l= .inl acc'-> ∀(i:Nat) n,l[i]? =some n->bI true n=0
 |[],_,_,_,i,n,hn=>by simp at hn
 |m::l,acc,acc',h,i,n,hn=>by
  rw [jy]at h;by_cases hc:bI (uq acc acc.length m.args.reverse) m=0
  · rw [if_neg (fun k=>k hc)]at h;cases i with
    |zero=>
     simp only [N2,L1]at hn;subst hn;rw [Bh hc]at hc;exact hc
    |succ i=>exact agW l _ acc' h i n (by simpa using hn)
  · rw [if_pos hc]at h;cases h
def Ls (a:Int):List Int->Nat->Option Nat
 |[],_=>none
 |x::l,j=>if x=a then some j else Ls a l (j+1)
def Gp (a:Int):List Nd->Nat->Option (Nat×Nat)
 |[],_=>none
 |n::l,k=>match Ls a n.args 0 with
  |some j=>some (k,j)
  |none=>Gp a l (k+1)
theorem ade {a:Int}: ∀{l:List Int} {j j':Nat},Ls a l j=some j'-> ∃d,j'=j+d/\l[d]? =some a
 |[],j,j',h=>by simp [Ls]at h
 |x::l,j,j',h=>by
  rw [Ls]at h;by_cases hx:x=a
  · rw [if_pos hx]at h;cases h;exact⟨0,rfl,by simp [hx]⟩
  · rw [if_neg hx]at h;obtain⟨d,e1,e2⟩:=ade h;exact⟨d+1,by omega,by simpa using e2⟩
theorem adf {a:Int}: ∀{l:List Int} {j:Nat},Ls a l j=none-> ∀d:Nat,l[d]? ≠some a
 |[],j,h,d=>by simp
 |x::l,j,h,d=>by
  rw [Ls]at h;by_cases hx:x=a
  · rw [if_pos hx]at h;cases h
  · rw [if_neg hx]at h;cases d with
    |zero=>simpa using hx
    |succ d=>simpa using adf h d
theorem Zz {a:Int}: ∀{l:List Nd} {k k' j:Nat},Gp a l k=some (k',j)-> ∃d n,k'=k+d/\l[d]? =some n/\n.args[j]? =some a
 |[],k,k',j,h=>by simp [Gp]at h
 |n::l,k,k',j,h=>by
  rw [Gp]at h;cases hf:Ls a n.args 0 with
  |some j'=>
   rw [hf]at h;cases h;obtain⟨d,e1,e2⟩:=ade hf;exact⟨0,n,rfl,rfl,by rw [e1,V1];exact e2⟩
  |none=>
   rw [hf]at h;obtain⟨d,m,e1,e2,e3⟩:=Zz h;exact⟨d+1,m,by omega,by simpa using e2,e3⟩
theorem ZA {a:Int}: ∀{l:List Nd} {k:Nat},Gp a l k=none-> ∀(d:Nat) n (j:Nat),l[d]? =some n->n.args[j]? ≠some a
 |[],k,h,d,n,j,hn=>by simp at hn
 |m::l,k,h,d,n,j,hn=>by
  rw [Gp]at h;cases hf:Ls a m.args 0 with
  |some j'=>rw [hf]at h;cases h
  |none=>
   rw [hf]at h;cases d with
   |zero=>simp only [N2,L1]at hn;subst hn;exact adf hf j
   |succ d=>exact ZA h d n j (by simpa using hn)
theorem Yr {e:List Nd} {k:Nat} {n:Nd} (hn:e[k]? =some n) (hl:n.args.length<=1000000) (a:Int): ∀j,j<=n.args.length->Ev (fun f=>uX f e a (k:Int) (j:Int)) (match Ls a (n.args.drop j) j with|some j'=> .inr ((k:Int),(j':Int))|none=> .inl ()):=by
 refine down ?_ fun j hj ih=> ?_
 · refine Ev.succ ?_;simp only [uX,V0,hn,W0,nn,A0];exact Ev.cF (eD _) (Ev.some' (by simp [Ls]))
 · refine Ev.succ ?_;simp only [uX,V0,hn,aP hj,W0,nn,A0,fC hj,S1,bW hj (show n.args.length<=1099511627776 by omega)];rw [drop_cons hj,Ls];by_cases h:n.args[j]=a
   · refine Ev.cT (by rw [E3];exact h) (Ev.some' ?_);rw [if_pos h]
   · refine Ev.cF (by rw [O0];exact h) ?_;rw [if_neg h];exact ih
theorem Lu {e:List Nd} (hL:oP e) (a:Int): ∀k,k<=e.length->Ev (fun f=>uY f e a (k:Int)) (match Gp a (e.drop k) k with|some (k',j)=> .inr ((k':Int),(j:Int))|none=> .inl ()):=by
 have hlen:=hL.len;refine down ?_ fun k hk ih=> ?_
 · refine Ev.succ ?_;simp only [uY];exact Ev.cF (eD _) (Ev.some' (by simp [Gp]))
 · refine Ev.succ ?_;simp only [uY];rw [bW hk (by omega)];have h0:=Yr (aP hk) (hL.nd k _ (aP hk)).2.2 a 0 (N3 _);rw [P1]at h0;refine Ev.cT (fC hk) (Ev.bind h0 ?_);rw [drop_cons hk,Gp];cases Ls a e[k].args 0 with
   |some j=>simp only [fP];exact Ev.some
   |none=>simp only [eH];exact ih
theorem Bt {ts:List Tm} {e:List Nd} (he:e=aV 0 ts) (hL:oP e) {i:Nat} {P j:Int} (hi:i<e.length) (hp:(bH 0 ts)[i]? =some (P,j)):Ev (fun k=>qP k e (i:Int)) (P,j):=by
 have hlen:=hL.len;unfold qP;rw [bW hi (by omega)];refine Ev.bind (Lu hL (i:Int) (i+1) (by omega)) ?_;cases hf:Gp (i:Int) (e.drop (i+1)) (i+1)with
 |some q=>
  obtain⟨k',j'⟩:=q;obtain⟨d,n,e1,e2,e3⟩:=Zz hf;rw [Q3]at e2;rw [he]at e2;obtain⟨r,h1,h2,h3⟩:=Uu 0 ts (i+1+d) n j' (i:Int) e2 e3;obtain rfl:r=i:=by omega
  rw [hp]at h3;cases h3;simp only [fP];exact Ev.some' (by rw [e1,V1])
 |none=>
  simp only [eH];rcases MP 0 ts i P j hp with⟨rfl,rfl⟩|⟨q,j',n,h1,h2,h3,h4,h5⟩
  · exact Ev.some
  · exfalso;rw [<-he]at h4;have:=ZA hf (q -(i+1)) n j' (by rw [Q3,show i+1+(q -(i+1))=q by omega];exact h4);rw [V1]at h5;exact this h5
theorem alm {b:Nat} {p k p' k':Int} (t:Tm):(nY b p k t).set (t.size -1) (p',k')=nY b p' k' t:=by
 cases t with
 |mk x cs=>
  rw [wu,wu,show(mk x cs).size -1=sizes cs by unfold size;omega,j7 _ _ (by rw [eP];exact R0 _),eP,L5];rfl
theorem VW {i:Nat} {args:List Int} (hl:args.length<=1000000) (A B:List (Int×Int)) (last:List Tm) (ha:args=roots A.length last):
 ∀(rest:List Tm) (done:List Tm),last=done++rest->Ev (fun k=>ql k ((A++fI A.length (i:Int) 0 done++bH (A.length+sizes done) rest++B).map Prod.fst) ((A++fI A.length (i:Int) 0 done++bH (A.length+sizes done) rest++B).map Prod.snd) (i:Int) args (args.length:Int) (done.length:Int))
   ((A++fI A.length (i:Int) 0 last++B).map Prod.fst,(A++fI A.length (i:Int) 0 last++B).map Prod.snd):=by
 intro rest
 induction rest with
 |nil=>
  intro done hd;rw [W3]at hd;subst hd;refine Ev.succ ?_;simp only [ql];have:args.length=last.length:=by rw [ha,iq]
  rw [this];exact Ev.cF (eD _) (Ev.some' (by simp [bH]))
 |cons c rest ih=>
  intro done hd;have hpos:=c.size_pos;have hal:args.length=last.length:=by rw [ha,iq]
  have hdl:done.length<args.length:=by rw [hal,hd];simp
  have hget:args[done.length]? =some ((A.length+sizes done+c.size -1:Nat):Int):=by rw [ha,hd];exact FX
  refine Ev.succ ?_;simp only [ql,V0,hget,W0,nn,A0,bW hdl (show args.length<=1099511627776 by omega)];refine Ev.cT (fC hdl) ?_;have hL:(A++fI A.length (i:Int) 0 done).length=A.length+sizes done:=by rw [X1,eP]
  have hset:(A++fI A.length (i:Int) 0 done++bH (A.length+sizes done) (c::rest)++B).set (A.length+sizes done+c.size -1) ((i:Int),(done.length:Int))=A++fI A.length (i:Int) 0 (done++[c])++bH (A.length+sizes (done++[c])) rest++B:=by
   have e1:fI A.length (i:Int) 0 (done++[c])=fI A.length (i:Int) 0 done++nY (A.length+sizes done) (i:Int) (done.length:Int) c:=by
    have gen: ∀(d:List Tm) (b k:Nat),fI b (i:Int) k (d++[c])=fI b (i:Int) k d++nY (b+sizes d) (i:Int) ((k+d.length:Nat):Int) c:=by
     intro d
     induction d with
     |nil=>intro b k;simp [fI,sizes]
     |cons x d ih=>
      intro b k;simp only [B4,fI,ih,T1,sizes,G4,I0];congr 4;omega
    rw [gen,V1]
   rw [e1,dG,mR];show(A++fI A.length (i:Int) 0 done++(nY (A.length+sizes done) (-1) 0 c++bH (A.length+sizes done+c.size) rest)++B).set _ _=_;rw [T1,j7 _ _ (by rw [hL];omega),hL,show A.length+sizes done+c.size -1 -(A.length+sizes done)=c.size -1 by omega];rw [T1 (nY (A.length+sizes done) (-1) 0 c),List.set_append_left _ _ (by rw [fM];omega),alm];simp only [T1,G4]
  have hin:A.length+sizes done+c.size -1<(A++fI A.length (i:Int) 0 done++bH (A.length+sizes done) (c::rest)++B).length:=by
   rw [X1,X1,hL,wQ];simp only [sizes];omega
  rw [J0,J0,aP hin];simp only [X2,W0];have:=ih (done++[c]) (by rw [hd,T1];rfl);rw [<-hset,HA,HA]at this;rw [X1]at this;exact this
theorem VX {e:List Nd} (hL:oP e): ∀(l:List Nd) (acc:List Int) (ts:List Tm) (acc':List Int) (i:Nat),acc=lN 0 ts->sizes ts=i->l=e.drop i->i<=e.length->jy acc l= .inl acc'->
 ∃ts',aV 0 ts'=aV 0 ts++l/\acc'=lN 0 ts'/\Ev (fun k=>qm k ((bH 0 ts++List.replicate (e.length -i) ((-1:Int),(0:Int))).map Prod.fst) ((bH 0 ts++List.replicate (e.length -i) ((-1:Int),(0:Int))).map Prod.snd) e (e.length:Int) (i:Int)) ((bH 0 ts').map Prod.fst,(bH 0 ts').map Prod.snd):=by
 have hlen:=hL.len;intro l
 induction l with
 |nil=>
  intro acc ts acc' i ha hs hl hi h;have:e.length<=i:=by
   have:=congrArg List.length hl;rw [E4,j0]at this;omega
  obtain rfl:i=e.length:=by omega
  refine⟨ts,by simp,by rw [jy]at h;cases h;exact ha,Ev.succ ?_⟩;simp only [qm];exact Ev.cF (eD _) (Ev.some' (by simp))
 |cons n l ih=>
  intro acc ts acc' i ha hs hl hi h;have hlt:i<e.length:=by
   have:=congrArg List.length hl;rw [E4,I0]at this;omega
  rw [drop_cons hlt]at hl;obtain⟨rfl,rfl⟩:=gC hl;rw [jy]at h;have hc:bI (uq acc acc.length e[i].args.reverse) e[i]=0:=by
   by_cases hc:bI (uq acc acc.length e[i].args.reverse) e[i]=0
   · exact hc
   · rw [if_pos hc]at h;cases h
  rw [if_neg (fun k=>k hc)]at h;obtain⟨front,last,e1,e2,e3,e4⟩:=row_step ha (Bh hc);have hsz:sizes (front++[.mk (bare e[i]) last])=i+1:=by
   rw [dG,mR];unfold size;rw [<-hs,e1,dG];omega
  obtain⟨ts',h1,hb,h2⟩:=ih _ _ acc' (i+1) e4.symm hsz rfl hlt h;refine⟨ts',by rw [h1,e3,T1];rfl,hb,Ev.succ ?_⟩;simp only [qm,V0,aP hlt,W0,nn,A0];rw [bW hlt (by omega)];refine Ev.cT (fC hlt) ?_;have hrep:List.replicate (e.length -i) ((-1:Int),(0:Int))=((-1:Int),(0:Int))::List.replicate (e.length -(i+1)) ((-1:Int),(0:Int)):=by
   rw [show e.length -i=(e.length -(i+1))+1 by omega,n8]
  have hA:(bH 0 front).length=sizes front:=wQ 0 front;have key:=VW (i:=i) (args:=e[i].args) (hL.nd i _ (aP hlt)).2.2 (bH 0 front) (List.replicate (e.length -i) ((-1:Int),(0:Int))) last (by rw [hA];exact e2) last [] rfl;have hstart:bH 0 front++fI (bH 0 front).length (i:Int) 0 []++bH ((bH 0 front).length+sizes []) last++List.replicate (e.length -i) ((-1:Int),(0:Int))=bH 0 ts++List.replicate (e.length -i) ((-1:Int),(0:Int)):=by
   rw [hA,e1,Je];simp [fI,sizes]
  rw [hstart]at key;refine Ev.bind key ?_;have hend:bH 0 front++fI (bH 0 front).length (i:Int) 0 last++List.replicate (e.length -i) ((-1:Int),(0:Int))=bH 0 (front++[.mk (bare e[i]) last])++List.replicate (e.length -(i+1)) ((-1:Int),(0:Int)):=by
   rw [hA,Je,Kc,wu,hrep];have:sizes front+sizes last=i:=by rw [<-dG,<-e1,hs]
   simp [this]
  rw [hend];exact h2
theorem Pw {e:List Nd} (hL:oP e) {acc':List Int} (h:jy [] e= .inl acc'): ∃ts,e=aV 0 ts/\acc'=lN 0 ts/\Ev (fun k=>zy k e) ((bH 0 ts).map Prod.fst,(bH 0 ts).map Prod.snd):=by
 have hlen:=hL.len;obtain⟨ts',h1,hb,h2⟩:=VX hL e [] [] acc' 0 rfl rfl rfl (N3 _) h;refine⟨ts',by rw [h1];rfl,hb,?_⟩;unfold zy;refine Ev.jv ⟨rfl,by omega,by omega⟩ (Ev.jv ⟨by omega,by omega,by omega⟩ ?_);have e1:((bH 0 ([]:List Tm)++List.replicate (e.length -0) ((-1:Int),(0:Int))).map Prod.fst)=(Lg [(-1)] (e.length:Int):List Int):=by simp [bH,Lg]
 have e2:((bH 0 ([]:List Tm)++List.replicate (e.length -0) ((-1:Int),(0:Int))).map Prod.snd)=List.replicate e.length (0:Int):=by simp [bH]
 rw [e1,e2]at h2;exact Ev.bind h2 Ev.some
theorem Px {ts:List Tm} {i:Nat} {P j:Int} (hp:(bH 0 ts)[i]? =some (P,j)):(P= -1/\j=0)\/ ∃q:Nat,P=(q:Int)/\i<q/\q<(aV 0 ts).length:=by
 rcases MP 0 ts i P j hp with h|⟨q,j',n,h1,h2,h3,h4,h5⟩
 · exact .inl h
 · exact .inr ⟨q,by rw [h1,V1],h3,(S0.1 h4).1⟩
def A8 (e:List Nd) (U:List (Int×Int)):Nat->Nat->Bool
 |0,_=>false
 |m+1,i=>match U[i]? with
  |some (P,j)=>if P<0 then false else(decide ((e[P.toNat]?.map Nd.kind)=some 19)&&decide (j=2))||A8 e U m P.toNat
  |none=>false
section
variable {ts:List Tm} {e:List Nd}
theorem Yt (he:e=aV 0 ts): ∀(m i:Nat),e.length<=i+m->i<e.length->Ev (fun k=>vk k e ((bH 0 ts).map Prod.fst) ((bH 0 ts).map Prod.snd) (i:Int)) (if A8 e (bH 0 ts) m i=true then .inr false else .inl ()):=by
 intro m
 induction m with
 |zero=>intro i h1 h2;omega
 |succ m ih=>
  intro i h1 h2;have hlt:i<(bH 0 ts).length:=by rw [wQ,<-dz 0 ts,<-he];exact h2
  obtain⟨P,j,hU⟩: ∃P j,(bH 0 ts)[i]? =some (P,j):=⟨_,_,aP hlt⟩;refine Ev.succ ?_;have hf:((bH 0 ts).map Prod.fst)[i]? =some P:=by rw [J0,hU];rfl
  have hs:((bH 0 ts).map Prod.snd)[i]? =some j:=by rw [J0,hU];rfl
  simp only [vk,V0,hf,hs,W0,nn,A0];rw [A8,hU];simp only;rcases Px hU with⟨rfl,rfl⟩|⟨q,rfl,hq,hq2⟩
  · exact Ev.cF (by rfl) Ev.some
  · have hqe:q<e.length:=by rw [he];exact hq2
    refine Ev.cT (by rw [S5];omega) (Ev.jv (by omega) ?_);simp only [V0,aP hqe,W0,X2,L1,show ¬(q:Int)<0 by omega,L2];have ihq:=ih q (by omega) hqe;by_cases h3:e[q].kind=19
    · refine Ev.cT (by rw [h3];rfl) ?_;by_cases h4:j=2
      · refine Ev.cT (by rw [h4];rfl) (Ev.some' ?_);simp [h3,h4]
      · refine Ev.cF (by rw [O0];exact h4) (ihq.to ?_);simp [h4]
    · refine Ev.cF (by rw [O0];exact h3) (ihq.to ?_);simp [h3]
theorem aot (he:e=aV 0 ts) (hL:oP e): ∀(m i:Nat),e.length<=i+m->i<e.length-> ∀P j,(bH 0 ts)[i]? =some (P,j)-> ∀o:Bool,Ev (fun k=>xw k e P j o) (o||A8 e (bH 0 ts) m i):=by
 intro m
 induction m with
 |zero=>intro i h1 h2;omega
 |succ m ih=>
  intro i h1 h2 P j hU o;refine Ev.succ ?_;rw [A8,hU];simp only;rcases Px hU with⟨rfl,rfl⟩|⟨q,rfl,hq,hq2⟩
  · simp only [xw];exact Ev.cF (by rfl) (Ev.some' (by simp))
  · have hqe:q<e.length:=by rw [he];exact hq2
    have hlt:q<(bH 0 ts).length:=by rw [wQ,<-dz 0 ts];exact hq2
    obtain⟨P',j',hU'⟩: ∃P j,(bH 0 ts)[q]? =some (P,j):=⟨_,_,aP hlt⟩;simp only [xw];refine Ev.cT (g0 (by omega)) (Ev.iG (x:=o||(decide (e[q].kind=19)&&decide (j=2))) ?_ (Ev.bind (Bt he hL hqe hU') ?_))
    · unfold GR;cases o
      · simp only [V0,aP hqe,W0,O2,nn,A0,Q4];by_cases h3:e[q].kind=19
        · rw [xR (by rw [h3];rfl)];by_cases h4:j=2
          · simp [h3,h4]
          · simp [h4]
        · rw [qc (by rw [O0];exact h3)];simp [h3]
      · rfl
    · refine(ih q (by omega) hqe P' j' hU' _).to ?_;simp only [V0,aP hqe,X2,L1,show ¬(q:Int)<0 by omega,L2,Bool.or_assoc]
theorem adg (t:Str) (h:(dF dW t).2=true):kH t=false:=by
 have h1:((dW.map (·.text)).all fun t=> !kH t)=true:=by kernel_rfl
 by_cases hm:t∈dW.map (·.text)
 · simpa using S3.1 h1 t hm
 · rw [Pt hm]at h;cases h
theorem adh {n:Nd} (h:bI true n=0) (hk:n.kind=3):(dF dW n.text).2= !kH n.text:=by
 cases ho:(dF dW n.text).2
 · unfold bI at h
   split at h;·cases h
   split at h;·cases h
   split at h;·cases h
   split at h;·cases h
   split at h
   · rename_i h1;exact absurd h h1
   · rename_i h1;have h1:qF n=0:=by omega
     unfold qF at h1
     split at h1;·cases h1
     cases hr:kH n.text
     · simp [hk,ho,hr]at h1
     · rfl
 · rw [adg _ ho];rfl
def D8 (e:List Nd) (U:List (Int×Int)) (i:Nat):Bool:=match e[i]?,U[i]? with
 |some n,some (P,j)=>if n.kind=24 then(if P<0 then true else match e[P.toNat]? with
  |some m=>if m.kind=3 then(dF dW m.text).2 else true
  |none=>true)else if n.kind=20 then !A8 e U e.length i else false
 |_,_=>false
theorem afJ (he:e=aV 0 ts) (hL:oP e) {i:Nat} (hi:i<e.length):Ev (fun k=>EN k e (i:Int) ((bH 0 ts).map Prod.fst) ((bH 0 ts).map Prod.snd)) (D8 e (bH 0 ts) i):=by
 have hlt:i<(bH 0 ts).length:=by rw [wQ,<-dz 0 ts,<-he];exact hi
 obtain⟨P,j,hU⟩: ∃P j,(bH 0 ts)[i]? =some (P,j):=⟨_,_,aP hlt⟩;have hf:((bH 0 ts).map Prod.fst)[i]? =some P:=by rw [J0,hU];rfl
 unfold EN D8;simp only [V0,aP hi,hf,W0,nn,A0,hU];by_cases h1:e[i].kind=24
 · refine Ev.cT (by rw [h1];rfl) ?_;simp only [h1,A0];rcases Px hU with⟨rfl,rfl⟩|⟨q,rfl,hq,hq2⟩
   · exact Ev.cT (by rfl) Ev.some
   · have hqe:q<e.length:=by rw [he];exact hq2
     refine Ev.cF (by rw [O0];omega) (Ev.jv (by omega) ?_);simp only [V0,aP hqe,W0,show ¬(q:Int)<0 by omega,L2];by_cases h2:e[q].kind=3
     · refine Ev.cF (by rw [h2];rfl) (Ev.bind (yN _) (Ev.some' ?_));simp only [h2,A0]
     · refine Ev.cT (by rw [S5];exact h2) (Ev.some' ?_);simp only [h2,L2]
 · refine Ev.cF (by rw [O0];exact h1) ?_;simp only [h1,L2];by_cases h2:e[i].kind=20
   · refine Ev.cT (by rw [h2];rfl) (Ev.bind (Yt he e.length i (by omega) hi) ?_);simp only [h2,A0];cases A8 e (bH 0 ts) e.length i
     · simp only [I2,L2,eH];exact Ev.some
     · simp only [A0,fP];exact Ev.some
   · refine Ev.cF (by rw [O0];exact h2) (Ev.some' ?_);simp only [h2,L2]
def Aq (e:List Nd) (U:List (Int×Int)):Nat->Nat->Option Nat
 |0,_=>none
 |m+1,i=>if D8 e U i=true then some i else Aq e U m (i+1)
theorem Gy (he:e=aV 0 ts) (hL:oP e): ∀i,i<=e.length->Ev (fun k=>jK k e ((bH 0 ts).map Prod.fst) ((bH 0 ts).map Prod.snd) (e.length:Int) (i:Int)) (match Aq e (bH 0 ts) (e.length -i) i with|some j=> .inr ((j:Int),30)|none=> .inl ()):=by
 have hlen:=hL.len;refine down ?_ fun i hi ih=> ?_
 · refine Ev.succ ?_;simp only [jK];exact Ev.cF (eD _) (Ev.some' (by simp [Aq]))
 · refine Ev.succ ?_;simp only [jK];rw [bW hi (by omega)];refine Ev.cT (fC hi) (Ev.bind (afJ he hL hi) ?_);rw [show e.length -i=(e.length -(i+1))+1 by omega,Aq];cases D8 e (bH 0 ts) i
   · simp only [O2,I2,L2];exact ih
   · exact Ev.some
theorem aaG (he:e=aV 0 ts) (hL:oP e) (hok: ∀(i:Nat) n,e[i]? =some n->bI true n=0): ∀i,i<=e.length->Ev (fun k=>rE k e (i:Int)) (match Aq e (bH 0 ts) (e.length -i) i with|some j=> .inr ((j:Int),30)|none=> .inl ()):=by
 have hlen:=hL.len;refine down ?_ fun i hi ih=> ?_
 · refine Ev.succ ?_;simp only [rE];exact Ev.cF (eD _) (Ev.some' (by simp [Aq]))
 · refine Ev.succ ?_;have hlt:i<(bH 0 ts).length:=by rw [wQ,<-dz 0 ts,<-he];exact hi
   obtain⟨P,j,hU⟩: ∃P j,(bH 0 ts)[i]? =some (P,j):=⟨_,_,aP hlt⟩;simp only [rE,V0,aP hi,W0,nn,A0];rw [bW hi (by omega)];refine Ev.cT (fC hi) (Ev.bind (Bt he hL hi hU) ?_);have aGN:Ev (fun k=>Dr k e P (decide (P>=0))) (match e[P.toNat]? with|some m=>decide (0<=P)&&decide (m.kind=3)&&kH m.text|none=>false):=by
    unfold Dr;rcases Px hU with⟨rfl,rfl⟩|⟨q,rfl,hq,hq2⟩
    · refine Ev.cF (by rfl) (Ev.some' ?_);cases e[(-1:Int).toNat]? <;>rfl
    · have hqe:q<e.length:=by rw [he];exact hq2
      refine Ev.cT (g0 (by omega)) (Ev.jv (by omega) ?_);simp only [V0,aP hqe,W0,nn,D4,C1];by_cases h2:e[q].kind=3
      · refine Ev.cT (by rw [h2];rfl) (Ev.bind (Fb _ (by have:=(hL.nd q _ (aP hqe)).1;omega)) (Ev.some' ?_));simp only [h2,D4,C1]
      · refine Ev.cF (by rw [O0];exact h2) (Ev.some' ?_);simp only [h2,L4,O3]
   refine Ev.bind aGN ?_;have hold:=aot he hL e.length i (by omega) hi P j hU false;rw [Q4]at hold;rw [show e.length -i=(e.length -(i+1))+1 by omega,Aq];have hl:D8 e (bH 0 ts) i=if e[i].kind=24 then !(match e[P.toNat]? with|some m=>decide (0<=P)&&decide (m.kind=3)&&kH m.text|none=>false)else if e[i].kind=20 then !A8 e (bH 0 ts) e.length i else false:=by
    unfold D8;simp only [aP hi,hU];rcases Px hU with⟨rfl,rfl⟩|⟨q,rfl,hq,hq2⟩
    · simp only [show(-1:Int)<0 by omega,A0,show ¬(0:Int)<= -1 by omega,L4,O3];cases e[(-1:Int).toNat]? <;>rfl
    · have hqe:q<e.length:=by rw [he];exact hq2
      simp only [V0,aP hqe,show ¬(q:Int)<0 by omega,L2,nn,D4,C1];by_cases h2:e[q].kind=3
      · simp only [h2,A0,D4,C1,adh (hok q _ (aP hqe)) h2]
      · simp only [h2,L2,L4,O3,C6]
   rw [hl];generalize(match e[P.toNat]? with|some m=>decide (0<=P)&&decide (m.kind=3)&&kH m.text|none=>false)=lam
   refine Ev.iG (x:=decide (e[i].kind=24)&& !lam) (by
    unfold GQ;by_cases h1:e[i].kind=24
    · rw [xR (by rw [h1];rfl)];simp [h1]
    · rw [qc (by rw [O0];exact h1)];simp [h1]) ?_
   by_cases h1:e[i].kind=24
   · simp only [h1,D4,C1,A0];cases lam
     · exact Ev.some
     · refine Ev.cF rfl (Ev.bind hold ?_);exact Ev.cF (by rfl) ih
   · simp only [h1,L4,O3,O2,L2];refine Ev.bind hold ?_;by_cases h2:e[i].kind=20
     · refine Ev.cT (by rw [h2];rfl) ?_;simp only [h2,A0];cases A8 e (bH 0 ts) e.length i
       · exact Ev.some
       · exact ih
     · refine Ev.cF (by rw [O0];exact h2) (ih.to ?_);simp only [h2,L2,I2]
end
structure Valid (e:List Nd):Prop where
 tree: ∃t,e=flat 0 t
 len:e.length<=160
 ok: ∀(i:Nat) n,e[i]? =some n->bI true n=0
theorem adi: ∀(l:List Nd) (acc:List Int) (p:Int×Int),jy acc l= .inr p->p.2≠0
 |[],acc,p,h=>by rw [jy]at h;cases h
 |n::l,acc,p,h=>by
  rw [jy]at h;by_cases hc:bI (uq acc acc.length n.args.reverse) n=0
  · rw [if_neg (fun k=>k hc)]at h;exact adi l _ p h
  · rw [if_pos hc]at h;cases h;exact hc
theorem VY (e:List Nd) (hL:oP e): ∃r,Ev (fun k=>iA k e) r/\Ev (fun k=>Cq k e) r/\(r.2=0->Valid e):=by
 have hlen:=hL.len;by_cases h0:e.length=0
 · refine⟨(0,1),?_,?_,fun h=>by cases h⟩
   · unfold iA;simp only [uo,W0,h0];refine Ev.bind (Ap _ (by simp)) ?_;exact Ev.cT (by rfl) Ev.some
   · unfold Cq;simp only [h0];exact Ev.cT (by rfl) Ev.some
 by_cases h1:160<e.length
 · refine⟨(0,2),?_,?_,fun h=>by cases h⟩
   · unfold iA;have a:((e.length:Int)==0)=false:=by rw [O0];omega
     have b:decide ((e.length:Int)>160)=true:=g0 (by omega);simp only [uo,W0,a,b];refine Ev.bind (Ap _ (by simp)) ?_;exact Ev.cT (by rfl) Ev.some
   · unfold Cq;refine Ev.cF (by rw [O0];omega) ?_;exact Ev.cT (g0 (by omega)) Ev.some
 have a:((e.length:Int)==0)=false:=by rw [O0];omega
 have b:decide ((e.length:Int)>160)=false:=B0 (by omega);have st:=Gx hL 0 (N3 _) [] (sJ.zero e);have sr:=aav hL 0 (N3 _) [] (sJ.zero e);rw [P1]at st sr;have Jf: ∀r,Ev (fun k=>Option.bind (jJ k e ([]:List Int) (e.length:Int) ((0:Nat):Int)) (fun o=>Sum.elim (fun p40=>(zy k e).bind fun p51=>Option.bind (jK k e p51.1 p51.2 (e.length:Int) ((0:Nat):Int)) (fun o=>Sum.elim (fun p58=>if 0<=(IntKind.wrap .i64 ((e.length:Int) -1))then (p40[(IntKind.wrap .i64 ((e.length:Int) -1)).toNat]?).bind fun x65=>cond (x65 !=0) (some ((IntKind.wrap .i64 ((e.length:Int) -1)),15)) (some (0,0))else none) (fun p74=>some (p74.1,p74.2)) o)) (fun yK=>some (yK.1,yK.2)) o)) r->Ev (fun k=>iA k e) r:=by
  intro r hr;unfold iA;simp only [uo,W0,a,b];refine Ev.bind (Ap _ (by simp)) ?_;exact Ev.cF (by rfl) hr
 have adj: ∀r,Ev (fun k=>Option.bind (tV k e ((0:Nat):Int)) (fun o=>Sum.elim (fun p9=>Option.bind (rE k e ((0:Nat):Int)) (fun o=>Sum.elim (fun p81=>(vQ k e (IntKind.wrap .i64 ((e.length:Int) -1))).bind fun Zk=>cond (Zk !=0) (some ((IntKind.wrap .i64 ((e.length:Int) -1)),15)) (some (0,0))) (fun QJ=>some (QJ.1,QJ.2)) o)) (fun Zm=>some (Zm.1,Zm.2)) o)) r->Ev (fun k=>Cq k e) r:=by
  intro r hr;unfold Cq;exact Ev.cF a (Ev.cF b hr)
 cases hs:jy [] e with
 |inr p=>
  rw [hs]at st sr;refine⟨p,Jf _ (Ev.bind st ?_),adj _ (Ev.bind sr ?_),fun h=>absurd h (adi _ _ _ hs)⟩
  · simp only [fP];exact Ev.some
  · simp only [fP];exact Ev.some
 |inl acc=>
  rw [hs]at st sr;obtain⟨ts,he,hacc,hpar⟩:=Pw hL hs;have hok:=agW e [] acc hs;have lt:=Gy he hL 0 (N3 _);have lr:=aaG he hL hok 0 (N3 _);cases hl:Aq e (bH 0 ts) (e.length -0) 0 with
  |some j=>
   rw [hl]at lt lr;refine⟨((j:Int),30),Jf _ (Ev.bind st ?_),adj _ (Ev.bind sr ?_),fun h=>by cases h⟩
   · simp only [eH];refine Ev.bind hpar (Ev.bind lt ?_);simp only [fP];exact Ev.some
   · simp only [eH];refine Ev.bind lr ?_;simp only [fP];exact Ev.some
  |none=>
   rw [hl]at lt lr;have hOk:sJ e e.length acc:=by
    have gen: ∀(l:List Nd) (i:Nat) (a:List Int),l=e.drop i->i<=e.length->sJ e i a->jy a l= .inl acc->sJ e e.length acc:=by
     intro l
     induction l with
     |nil=>
            intro i a hl hi ho h;rw [jy]at h;cases h;have:=congrArg List.length hl;rw [E4,j0]at this;obtain rfl:i=e.length:=by omega
            exact ho
     |cons n l ih=>
            intro i a hl hi ho h;have hlt:i<e.length:=by
             have:=congrArg List.length hl;rw [E4,I0]at this;omega
            rw [drop_cons hlt]at hl;obtain⟨rfl,rfl⟩:=gC hl;rw [jy,ho.len]at h;by_cases hc:bI (uq a i e[i].args.reverse) e[i]=0
            · rw [if_neg (fun k=>k hc)]at h;exact ih (i+1) _ rfl hlt (ho.succ (aP hlt) (Bh hc)) h
            · rw [if_pos hc]at h;cases h
    exact gen e 0 [] rfl (N3 _) (sJ.zero e) hs
   obtain⟨n,bb,h3,h4,h5,h6,_⟩:=hOk.at_ (e.length -1) (by omega);have hw:IntKind.wrap .i64 ((e.length:Int) -1)=((e.length -1:Nat):Int):=by rw [wrap64 (by omega) (by omega)];omega
   refine⟨if bb=0 then(0,0)else(((e.length -1:Nat):Int),15),Jf _ (Ev.bind st ?_),adj _ (Ev.bind sr ?_),fun hr=> ?_⟩
   · simp only [eH];refine Ev.bind hpar (Ev.bind lt ?_);simp only [eH,hw,V0,h4,W0,nn,A0];by_cases hb:bb=0
     · exact Ev.cF (by rw [hb];rfl) (Ev.some' (by simp [hb]))
     · exact Ev.cT (by rw [S5];exact hb) (Ev.some' (by simp [hb]))
   · simp only [eH];refine Ev.bind lr ?_;simp only [eH,hw];refine Ev.bind (VK hOk hlen h4) ?_;by_cases hb:bb=0
     · exact Ev.cF (by rw [hb];rfl) (Ev.some' (by simp [hb]))
     · exact Ev.cT (by rw [S5];exact hb) (Ev.some' (by simp [hb]))
   · by_cases hb:bb=0
     case neg=>rw [if_neg hb]at hr;cases hr
     refine⟨?_,by omega,hok⟩;rcases pB ts with rfl|⟨l,t,rfl⟩
     · rw [he]at h0;simp [aV]at h0
     · rw [mB]at*;have hsz:e.length=sizes l+t.size:=by rw [he,dz,dG,mR]
       have hpos:=t.size_pos;have hg:=Lr (b:=0) (l:=l) (m:=[]) (t:=t);rw [<-hacc,V1,show sizes l+t.size -1=e.length -1 by omega,h4]at hg;have hl0:sizes l=0:=by have:=V2 hg;omega
       cases l with
       |nil=>exact⟨t,by rw [he];simp [aV]⟩
       |cons c l=>
            have:=c.size_pos;simp only [sizes]at hl0;omega
end Go.VL
end
section
namespace Go.VL
open Go.Proofs Go.RowKit
theorem adk {α:Type} (f:α->List PV) (sz:Nat) [hr:nk f sz] (l:List α):qE sz (.ah (l.map f) .unk) none (some (.int .i64 (l.length:Int))) (some (.int .i64 (l.length:Int)))=some (.ah (l.map f) .exact):=by
 have hl:L9 sz (l.map f):=fun cs h=>by
  obtain⟨x,_,rfl⟩:=G3.1 h;exact hr.len x
 have h0:(0:Int)<=(l.length:Int):=by omega
 simp only [qE,pI];rw [if_pos h0];simp only [V0,J1,Option.isSome_some,and_true];rw [if_pos ⟨N3 _,R0 _,hl⟩];simp only [A0];rw [I3 (by rw [J1];exact R0 _),P1]
theorem adl (l:List Str):Pu (.ah (l.map aF) .exact):=by
 have h:=bK gu l;cases h with
 |ah _ _ h1 h2=>exact .ah _ _ h1 (by simp)
theorem aln (l:List Str) {c:Ck}:aG Tryz.prog 239 [.ah (l.map aF) c] (.ah (l.map aF) .exact):=by
 refine aG.wk (args:=[.ah (l.map aF) .unk]) ?_ (.ah .nil);refine aG.bX (dJ.mem (.cons (bK gu _) .nil)) (aL aBY (by simp) (aI ?_)) (adl l);unfold aqI;simp -implicitDefEqProofs only [go_sem,adk aF 1];first|done|exact .pure _ (adl l)
end Go.VL
end
section
namespace Go.VL
open Go.Proofs
theorem agX {α:Type} {σ:Nat->PV} {H:AH} {sz b:Nat} {x y:AE} {f:α->List PV} (hf: ∀x,kC sz (f x)) (xs ys:List α) (c c2:Ck)
 (hx:x.ev σ= .ah (xs.map f) c) (hy:KS (y.ev σ)= .ah (ys.map f) c2) (hok:aR H c) (hb:(xs.length+ys.length)*b<=1099511627776):
 ∃c' H',jc (.app sz b x y) σ H=some (.ah ((xs++ys).map f) c',H')/\aR H' c'/\H.next<=H'.next/\(∀i,H'.obj i=H.obj i)/\(∀c3,aR H c3->ku c c3->aR H' c3/\ku c' c3):=by
 have h:=gI (P:=Tryz.prog) (s:=[]) (Q:=fun e σ' H'=> ∃c',σ'=upd σ (some 0) (.ah ((xs++ys).map f) c')/\aR H' c'/\H.next<=H'.next/\(∀i,H'.obj i=H.obj i)/\(∀c3,aR H c3->ku c c3->aR H' c3/\ku c' c3)) (d:=some 0) (l:=[]) (H:=H) hf xs ys c c2 hx hy hok hb
  (fun c' H' h1 h2 h3 h4=>⟨c',rfl,h1,h2,h3,h4⟩)
 have h2:WD Tryz.prog (jc (.app sz b x y) σ H) (some 0) [] [] (fun e σ' H'=> ∃c',σ'=upd σ (some 0) (.ah ((xs++ys).map f) c')/\aR H' c'/\H.next<=H'.next/\(∀i,H'.obj i=H.obj i)/\(∀c3,aR H c3->ku c c3->aR H' c3/\ku c' c3)) σ:=by
  have h3:WO Tryz.prog (⟨some 0,.d (.app sz b x y),none⟩::[]) [] _ σ H:=h;rw [WO,aki]at h3;revert h3;cases jc (.app sz b x y) σ H with
  |none=>intro h3;exact h3
  |some q=>intro h3;exact h3
 revert h2;cases jc (.app sz b x y) σ H with
 |none=>intro h2;exact h2.elim
 |some q=>
  intro h2;obtain⟨c',e,h3⟩:=(h2: ∃c',upd σ (some 0) q.1=upd σ (some 0) (.ah ((xs++ys).map f) c')/\aR q.2 c'/\H.next<=q.2.next/\(∀i,q.2.obj i=H.obj i)/\(∀c3,aR H c3->ku c c3->aR q.2 c3/\ku c' c3));have e2:=congrFun e 0;simp only [upd,A0]at e2;exact⟨c',q.2,by rw [<-e2],h3⟩
section
variable {α:Type}
def Ke (rec:Int->List Str->α->Option α) (n:Nd) (bound:List Str):Nat->List Int->α->Option α
 |_,[],a=>some a
 |i,op::l,a=>(iJ n (i:Int)).bind fun b=>if(bound.length+b.length)*16<=1099511627776 then (rec op (bound++b) a).bind fun a'=>Ke rec n bound (i+1) l a' else none
def Au (step:α->Int->List Str->Option α) (e:List Nd):Nat->Int->List Str->α->Option α
 |0,_,_,_=>none
 |k+1,at_,bound,a=>(step a at_ bound).bind fun a'=>if 0<=at_ then (e[at_.toNat]?).bind fun n=>if n.args.length<=1099511627776 then Ke (Au step e k) n bound 0 n.args a' else none else none
structure Visit (g:FuncId) (caps:List PV) (S:α->AH->Prop) (step:α->Int->List Str->Option α):Prop where
 stable: ∀a H H',S a H->H.next<=H'.next->(∀i,H'.obj i=H.obj i)->(∀c,aR H c->aR H' c)->S a H'
 call: ∀a at_ bound a' H,S a H->step a at_ bound=some a'->aW Tryz.prog g (.int .i64 at_:: .ah (bound.map aF) .unk::caps) H fun _ H'=>S a' H'
theorem alo {g:FuncId} {caps:List PV} {S:α->AH->Prop} {step:α->Int->List Str->Option α} (hv:Visit g caps S step) (e:List Nd) (k:Nat)
 (ih: ∀(at_:Int) (bound:List Str) (a a':α) (H:AH),S a H->Au step e k at_ bound a=some a'->aW Tryz.prog 189 [gH e,.int .i64 at_,FE bound,.fn (.func g) [] caps] H fun _ H'=>S a' H')
 (at_:Int) (bound:List Str) (n:Nd) (e2:0<=at_) (e3:e[at_.toNat]? =some n) (e4:n.args.length<=1099511627776):
 ∀(l:List Int) (i:Nat) (a a':α) (σ:Nat->PV) (H:AH),l=n.args.drop i->i<=n.args.length->σ 0=gH e->σ 1= .int .i64 at_->σ 2=FE bound->σ 3= .fn (.func g) [] caps->σ 18=akj n.args->σ 19= .int .i64 n.args.length->σ 20= .int .i64 i->
   S a H->Ke (Au step e k) n bound i l a=some a'-> ∀(Q:Post),(∀σ' H',S a' H'->Q (.exit 0) σ' H')->W Tryz.prog (.loop Ml) Q σ H:=by
 intro l
 induction l with
 |nil=>
  intro i a a' σ H hl hi s0 s1 s2 s3 ow zm s20 hS h Q q0;have hii:i=n.args.length:=by
   have:=congrArg List.length hl;rw [E4,j0]at this;omega
  rw [Ke]at h;cases h;refine bB (fun K hK=>aI ?_);unfold Ml;have hd:decide ((i:Int)<(n.args.length:Int))=false:=B0 (by omega);simp -implicitDefEqProofs only [go_sem,zm,s20,hd];exact q0 _ _ hS
 |cons op l ihl=>
  intro i a a' σ H hl hi s0 s1 s2 s3 ow zm s20 hS h Q q0;have hlt:i<n.args.length:=by
   have:=congrArg List.length hl;rw [E4,I0]at this;omega
  have hop:n.args[i]? =some op:=by
   have:=congrArg (·[0]?) hl
   simpa [Q3]using this.symm
  have hl':l=n.args.drop (i+1):=by
   have:=congrArg List.tail hl;simpa using this
  rw [Ke]at h;cases e5:iJ n (i:Int)with
  |none=>rw [C9 e5]at h;cases h
  |some b=>
  rw [Da e5]at h;by_cases e6:(bound.length+b.length)*16<=1099511627776
  case neg=>rw [if_neg e6]at h;cases h
  rw [if_pos e6]at h;cases e7:Au step e k op (bound++b) a with
  |none=>rw [C9 e7]at h;cases h
  |some a1=>
  rw [Da e7]at h;refine bB (fun K hK=>aI ?_);unfold Ml;have hd:decide ((i:Int)<(n.args.length:Int))=true:=g0 (by omega);simp -implicitDefEqProofs only [go_sem,s0,s1,s2,s3,ow,zm,s20,hd,J0,hop,X2];have hb:=akS e5;have hw:IntKind.wrap .i64 ((i:Int)+1)=((i+1:Nat):Int):=by rw [IntKind.wrap_i64];omega
  refine⟨fun _=>True,trivial,?_⟩;refine dR (gH e) (fun H' _=>by simp -implicitDefEqProofs only [go_sem,s0,s1,s2,s3,ow,zm,s20,e2,e3,J0,X2]) ?_;refine dR (.int .i64 op) (fun H' _=>by simp -implicitDefEqProofs only [go_sem,s0,s1,s2,s3,ow,zm,s20,e2,e3,J0,X2]) ?_;refine dR (FE bound) (fun H' _=>by simp -implicitDefEqProofs only [go_sem,s0,s1,s2,s3,ow,zm,s20,e2,e3,J0,X2]) ?_;refine Ch (.ah (bound.map aF) .exact) (by simp -implicitDefEqProofs only [go_sem,s0,s1,s2,s3,ow,zm,s20,e2,e3,J0,X2];exact aln bound) ?_;refine dR (gH e) (fun H' _=>by simp -implicitDefEqProofs only [go_sem,s0,s1,s2,s3,ow,zm,s20,e2,e3,J0,X2]) ?_;refine dR (.int .i64 at_) (fun H' _=>by simp -implicitDefEqProofs only [go_sem,s0,s1,s2,s3,ow,zm,s20,e2,e3,J0,X2]) ?_;refine dR (.cK n.cells 0) (fun H' _=>by simp -implicitDefEqProofs only [go_sem,s0,s1,s2,s3,ow,zm,s20,e2,e3,J0,X2]) ?_;refine dR (.agg n.cells) (fun H' _=>by simp -implicitDefEqProofs only [go_sem,s0,s1,s2,s3,ow,zm,s20,e2,e3,J0,X2]) ?_;refine dR (.int .i64 i) (fun H' _=>by simp -implicitDefEqProofs only [go_sem,s0,s1,s2,s3,ow,zm,s20,e2,e3,J0,X2]) ?_;refine Ch (FE b) (by simp -implicitDefEqProofs only [go_sem,s0,s1,s2,s3,ow,zm,s20,e2,e3,J0,X2];exact hb) ?_;obtain⟨c',H',f1,f2,f3,f4,f5⟩:=agX (σ:=(upd (upd (upd (upd (upd (upd (upd (upd (upd (upd (upd (upd (upd (upd (upd (upd σ (some 21) (PV.bool true)) (some 22) (PV.int IntKind.i64 ↑i)) (some 23) (PV.cK [PV.int IntKind.i64 op] 0)) (some 24) (PV.int IntKind.i64 op)) (some 8) (PV.int IntKind.i64 ↑i)) (some 9) (PV.int IntKind.i64 op)) (some 25) (gH e)) (some 26) (.int .i64 op)) (some 27) (FE bound)) (some 28) (.ah (bound.map aF) .exact)) (some 29) (gH e)) (some 30) (.int .i64 at_)) (some 31) (.cK n.cells 0)) (some 32) (.agg n.cells)) (some 33) (.int .i64 i)) (some 34) (FE b))) (H:=H) (sz:=1) (b:=16) (x:=AE.t 28) (y:=AE.t 34) lG bound b .exact .unk (by simp -implicitDefEqProofs only [go_sem,s0,s1,s2,s3,ow,zm,s20,e2,e3,J0,X2]) (by simp -implicitDefEqProofs only [go_sem,s0,s1,s2,s3,ow,zm,s20,e2,e3,J0,X2]) trivial e6;refine Vj _ H' f1 trivial ?_;refine dR (.fn (.func g) [] caps) (fun H' _=>by simp -implicitDefEqProofs only [go_sem,s0,s1,s2,s3,ow,zm,s20,e2,e3,J0,X2]) ?_;have hS':S a H':=hv.stable a H H' hS f3 f4 fun c hc=>(f5 c hc .exact).1;rw [am3];refine oG ?_;simp -implicitDefEqProofs only [go_sem,s0,s1,s2,s3,ow,zm,s20,e2,e3,J0,X2];refine aW.mono (aW.wk (ih op (bound++b) a a1 H' hS' e7) (.same (.same (.ah (.same .nil))))) fun r H2 hS2=> ?_;simp -implicitDefEqProofs only [go_sem,s0,s1,s2,s3,ow,zm,s20,e2,e3,J0,X2];refine hK _ _ ?_;refine ihl (i+1) a1 a' _ H2 hl' hlt ?_ ?_ ?_ ?_ ?_ ?_ ?_ hS2 h Q q0
  all_goals (simp -implicitDefEqProofs only [go_sem,s0,s1,s2,s3,ow,zm,s20,e2,e3,J0,X2,hw];try rfl)
theorem ay5 {g:FuncId} {caps:List PV} {S:α->AH->Prop} {step:α->Int->List Str->Option α} (hv:Visit g caps S step) (e:List Nd):
 ∀(k:Nat) (at_:Int) (bound:List Str) (a a':α) (H:AH),S a H->Au step e k at_ bound a=some a'->aW Tryz.prog 189 [gH e,.int .i64 at_,FE bound,.fn (.func g) [] caps] H fun _ H'=>S a' H':=by
 intro k
 induction k with
 |zero=>intro at_ bound a a' H hS h;simp only [Au,reduceCtorEq]at h
 |succ k ih=>
  intro at_ bound a a' H hS h
  rw [Au]at h;cases e1:step a at_ bound with
  |none=>rw [C9 e1]at h;cases h
  |some a1=>
  rw [Da e1]at h;by_cases e2:0<=at_
  case neg=>rw [if_neg e2]at h;cases h
  rw [if_pos e2]at h;cases e3:e[at_.toNat]? with
  |none=>rw [C9 e3]at h;cases h
  |some n=>
  rw [Da e3]at h;by_cases e4:n.args.length<=1099511627776
  case neg=>rw [if_neg e4]at h;cases h
  rw [if_pos e4]at h;refine aL aBz (by simp) (aI ?_);unfold aqi;simp -implicitDefEqProofs only [go_sem];refine aW.mono (hv.call a at_ bound a1 H hS e1) fun r H1 hS1=> ?_;simp -implicitDefEqProofs only [go_sem,e2,e3];refine alo hv e k ih at_ bound n e2 e3 e4 n.args 0 a1 a' _ H1 rfl (N3 _) ?_ ?_ ?_ ?_ ?_ ?_ ?_ hS1 h _ ?_
  all_goals first
   |(simp -implicitDefEqProofs only [go_sem];done)
   |skip
  intro σ' H' hS';exact hS'
end
end Go.VL
end
section
set_option maxHeartbeats 4000000
namespace Go.VL
open Go.Proofs
def xE:Nat->(List Str)->Str->Int->Option Int
 |0,_,_,_=>none
 |k+1,aZ,s_1,Gq=>
  cond (decide (Gq<(aZ.length:Int))) (if 0<=Gq then (aZ[Gq.toNat]?).bind fun x3=>cond (strLt x3 s_1) (xE k aZ s_1 (IntKind.wrap .i64 (Gq+1))) (some (Gq))else none) (some (Gq))
def ZB:List Nat:=[5]++List.range' 7 14
theorem ai6: ∀(k:Nat) (aZ:List Str) (s_1:Str) (Gq:Int) (aH σ:Nat->PV) (H:AH) (f0:Fr ZB aH σ) (sl:σ 0=(.ah (aZ.map aF) .unk)/\σ 1=(.str s_1)/\σ 5=(.int .i64 Gq)) (o:Int) (h:xE k aZ s_1 Gq=some o) (Q:Post) (q0: ∀(p:Int) (σ':Nat->PV),o=p->Fr ZB aH σ'->(σ' 5=(.int .i64 p))->Q (.exit 0) σ' H),W Tryz.prog (.loop TK) Q σ H:=by
 intro k
 induction k with
 |zero=>intro aZ s_1 Gq aH σ H f0 sl o h Q q0;simp only [xE,reduceCtorEq]at h
 |succ k ih=>
  intro aZ s_1 Gq aH σ H f0 sl o h Q q0;obtain⟨s0,s1,s5⟩:=sl;unfold xE at h;refine bB (fun K hK=>aI ?_);unfold TK;obtain⟨e1,h⟩|⟨e1,h⟩:=aJ h
  ·obtain⟨e2,h⟩:=aX h;obtain⟨x3,e4,h⟩:=aj h;obtain⟨e5,h⟩|⟨e5,h⟩:=aJ h
   ·refine ak ?_;refine hK _ _ ?_;exact ih aZ s_1 (IntKind.wrap .i64 (Gq+1)) _ _ _ bG aA _ h _ q0
   ·cases h;refine ak ?_;exact q0 _ _ rfl bG aA
  ·cases h;refine ak ?_;exact q0 _ _ rfl bG aA
def VZ (k:Nat) (aZ:List Str) (s_1:Str):Option (List Str):=
 Option.bind (xE k aZ s_1 0) (fun p8=>cond (decide (p8<(aZ.length:Int))) (if 0<=p8 then (aZ[p8.toNat]?).bind fun JW=>cond (JW==s_1) (some aZ) (if 0<=p8/\p8.toNat<=aZ.length then if(([]:List Str).length+(aZ.take p8.toNat).length)*16<=1099511627776 then if((([]:List Str)++(aZ.take p8.toNat)).length+1)*16<=1099511627776 then if(((([]:List Str)++(aZ.take p8.toNat))++[s_1]).length+(aZ.drop p8.toNat).length)*16<=1099511627776 then some (((([]:List Str)++(aZ.take p8.toNat))++[s_1])++(aZ.drop p8.toNat))else none else none else none else none)else none) (if 0<=p8/\p8.toNat<=aZ.length then if(([]:List Str).length+(aZ.take p8.toNat).length)*16<=1099511627776 then if((([]:List Str)++(aZ.take p8.toNat)).length+1)*16<=1099511627776 then if(((([]:List Str)++(aZ.take p8.toNat))++[s_1]).length+(aZ.drop p8.toNat).length)*16<=1099511627776 then some (((([]:List Str)++(aZ.take p8.toNat))++[s_1])++(aZ.drop p8.toNat))else none else none else none else none))
theorem auu {k:Nat} {aZ:List Str} {s_1:Str} {c0:Ck} {r:List Str} (h:VZ k aZ s_1=some r):aG Tryz.prog 250 [(.ah (aZ.map aF) c0),(.str s_1)] (.ah (r.map aF) .unk):=by
 refine aG.lw (.ah (.same .nil)) (aG.bX (dJ.mem (.cons (bK gu _) (.cons (.str _) .nil))) (aL aB6 (by simp) (aI ?_)) (bK gu _));unfold VZ at h;unfold aqQ;refine ak ?_;obtain⟨o6,h7,h⟩:=aj h;refine ai6 k aZ s_1 0 _ _ _ (Fr.refl _ _) aA _ h7 _ ?_
 ·rintro p8 σ' eo fr9 s12;rw [eo]at h;have s13:σ' 0=(.ah (aZ.map aF) .unk):=(fr9 0 (by decide)).trans aA;have QN:σ' 1=(.str s_1):=(fr9 1 (by decide)).trans aA;obtain⟨e15,h⟩|⟨e15,h⟩:=aJ h
  ·obtain⟨e16,h⟩:=aX h;obtain⟨JW,e18,h⟩:=aj h;obtain⟨e19,h⟩|⟨e19,h⟩:=aJ h
   ·cases h;refine ak ?_;exact(jV gu _ _)
   ·obtain⟨e20,h⟩:=aX h;refine ak ?_;refine aL ace (by simp) (aI ?_);unfold XI;obtain⟨e26,h⟩:=aX h;refine ak ?_;refine gI (f:=aF) lG ([]:List Str) ((aZ.take p8.toNat):List Str) .exact .unk aA aA eG (by first|exact e26|(simp only [I0,j0];exact e26)) (fun c22 H23 anv le aGO aL4=> ?_);have aL5:HF [] _ H23:=⟨le,fun i _ _=>aGO i⟩;try simp only [AH.aN,AH.aO,AH.aS,AH.aT]at le
    obtain⟨e33,h⟩:=aX h;refine ak ?_;refine gI (f:=aF) lG (([]:List Str)++(aZ.take p8.toNat)) ([s_1]:List Str) c22 .exact aA aA eG (by first|exact e33|(simp only [I0,j0];exact e33)) (fun c29 H30 aL6 le aGP aL7=> ?_);have ai7:HF [] _ H30:=⟨le,fun i _ _=>aGP i⟩;try simp only [AH.aN,AH.aO,AH.aS,AH.aT]at le
    obtain⟨e40,h⟩:=aX h;refine ak ?_;refine gI (f:=aF) lG ((([]:List Str)++(aZ.take p8.toNat))++[s_1]) ((aZ.drop p8.toNat):List Str) c29 .unk aA aA eG (by first|exact e40|(simp only [I0,j0];exact e40)) (fun c36 H37 ayt le aGQ aL8=> ?_);have ay0:HF [] _ H37:=⟨le,fun i _ _=>aGQ i⟩;try simp only [AH.aN,AH.aO,AH.aS,AH.aT]at le
    cases h;refine ak ?_;exact(jV gu _ _)
  ·obtain⟨e43,h⟩:=aX h;refine ak ?_;refine aL ace (by simp) (aI ?_);unfold XI;obtain⟨e49,h⟩:=aX h;refine ak ?_;refine gI (f:=aF) lG ([]:List Str) ((aZ.take p8.toNat):List Str) .exact .unk aA aA eG (by first|exact e49|(simp only [I0,j0];exact e49)) (fun c45 H46 aGR le aou aGS=> ?_);have aiZ:HF [] _ H46:=⟨le,fun i _ _=>aou i⟩;try simp only [AH.aN,AH.aO,AH.aS,AH.aT]at le
   obtain⟨e56,h⟩:=aX h;refine ak ?_;refine gI (f:=aF) lG (([]:List Str)++(aZ.take p8.toNat)) ([s_1]:List Str) c45 .exact aA aA eG (by first|exact e56|(simp only [I0,j0];exact e56)) (fun c52 ZC aL9 le aov aMa=> ?_);have aow:HF [] _ ZC:=⟨le,fun i _ _=>aov i⟩;try simp only [AH.aN,AH.aO,AH.aS,AH.aT]at le
   obtain⟨e63,h⟩:=aX h;refine ak ?_;refine gI (f:=aF) lG ((([]:List Str)++(aZ.take p8.toNat))++[s_1]) ((aZ.drop p8.toNat):List Str) c52 .unk aA aA eG (by first|exact e63|(simp only [I0,j0];exact e63)) (fun c59 H60 aMb le aGT aMc=> ?_);have aox:HF [] _ H60:=⟨le,fun i _ _=>aGT i⟩;try simp only [AH.aN,AH.aO,AH.aS,AH.aT]at le
   cases h;refine ak ?_;exact(jV gu _ _)
def qw:Nat->(List Nd)->(List Str)->Int->Int->Option (List Str)
 |0,_,_,_,_=>none
 |k+1,au,iY,MQ,Ij=>
  cond (decide (MQ>=0)) (if 0<=MQ then (au[MQ.toNat]?).bind fun x5=>(vT x5 Ij).bind fun p8=>if(([]:List Str).length+p8.length)*16<=1099511627776 then if((([]:List Str)++p8).length+iY.length)*16<=1099511627776 then (qP k au MQ).bind fun p25=>qw k au ((([]:List Str)++p8)++iY) p25.1 p25.2 else none else none else none) (some (iY))
def Nq:List Nat:=[5,6,7]++List.range' 14 17
theorem Yu: ∀(k:Nat) (au:List Nd) (iY:List Str) (MQ:Int) (Ij:Int) (D9:Ck) (aH σ:Nat->PV) (H0 H:AH) (f0:Fr Nq aH σ) (hf0:HF [] H0 H) (sl:σ 0=(.ah (au.map Nd.cells) .unk)/\σ 5=(.ah (iY.map aF) D9)/\σ 6=(.int .i64 MQ)/\σ 7=(.int .i64 Ij)) (o:List Str) (h:qw k au iY MQ Ij=some o) (Q:Post) (q0: ∀(p:List Str) (c0:Ck) (σ':Nat->PV) (H':AH),o=p->Fr Nq aH σ'->HF [] H0 H'->(σ' 5=(.ah (p.map aF) c0))->Q (.exit 0) σ' H'),W Tryz.prog (.loop RF) Q σ H:=by
 intro k
 induction k with
 |zero=>intro au iY MQ Ij D9 aH σ H0 H f0 hf0 sl o h Q q0;simp only [qw,reduceCtorEq]at h
 |succ k ih=>
  intro au iY MQ Ij D9 aH σ H0 H f0 hf0 sl o h Q q0;obtain⟨s0,s5,s6,s7⟩:=sl;have hle0:=hf0.1;unfold qw at h;refine bB (fun K hK=>aI ?_);unfold RF;obtain⟨e3,h⟩|⟨e3,h⟩:=aJ h
  ·obtain⟨e4,h⟩:=aX h;obtain⟨x5,e6,h⟩:=aj h;obtain⟨p8,e7,h⟩:=aj h;refine ak ?_;refine av (Zo e7) ?_;refine ak ?_;refine aL ace (by simp) (aI ?_);unfold XI;obtain⟨e14,h⟩:=aX h;refine ak ?_;refine gI (f:=aF) lG ([]:List Str) (p8:List Str) .exact .unk aA aA eG (by first|exact e14|(simp only [I0,j0];exact e14)) (fun c10 H11 aMd le aGU aMe=> ?_);have aiQ:HF [] _ H11:=⟨le,fun i _ _=>aGU i⟩;try simp only [AH.aN,AH.aO,AH.aS,AH.aT]at le
   obtain⟨e21,h⟩:=aX h;refine ak ?_;refine gI (f:=aF) lG (([]:List Str)++p8) (iY:List Str) c10 D9 aA aA eG (by first|exact e21|(simp only [I0,j0];exact e21)) (fun c17 H18 ah2 le aGV aoy=> ?_);have aMf:HF [] _ H18:=⟨le,fun i _ _=>aGV i⟩;try simp only [AH.aN,AH.aO,AH.aS,AH.aT]at le
   obtain⟨p25,e24,h⟩:=aj h;refine ak ?_;refine av (VF e24) ?_;refine ak ?_;refine hK _ _ ?_;exact ih au ((([]:List Str)++p8)++iY) p25.1 p25.2 c17 _ _ _ _ bG II aA _ h _ q0
  ·cases h;refine ak ?_;exact q0 _ D9 _ _ rfl bG yH aA
def zL (k:Nat) (au:List Nd) (eB:Int):Option (List Str):=
 (qP k au eB).bind fun p2=>Option.bind (qw k au ([]:List Str) p2.1 p2.2) (fun p28=>some p28)
theorem afK {k:Nat} {au:List Nd} {eB:Int} {c0:Ck} {r:List Str} (h:zL k au eB=some r):aG Tryz.prog 113 [(.ah (au.map Nd.cells) c0),(.int .i64 eB)] (.ah (r.map aF) .unk):=by
 refine aG.lw (.ah (.same .nil)) (aG.bX (dJ.mem (.cons (bK Nd.pu _) (.cons (.int _ _) .nil))) (aL aA2 (by simp) (aI ?_)) (bK gu _));unfold zL at h;unfold apM;obtain⟨p2,e1,h⟩:=aj h;refine ak ?_;refine av (VF e1) ?_;refine ak ?_;obtain⟨o26,h27,h⟩:=aj h;refine Yu k au ([]:List Str) p2.1 p2.2 .nil _ _ _ _ (Fr.refl _ _) (HF.refl _ _) aA _ h27 _ ?_
 ·rintro p28 c32 σ' H31 eo aFP anQ s33;rw [eo]at h;have le:=anQ.1;try simp only [AH.aN,AH.aO,AH.aS,AH.aT]at le
  cases h;refine ak ?_;exact(jV gu _ _)
end Go.VL
end
section
namespace Go.VL
open Tm
def Av (n:Nd) (p:Nat):List Str:=(iJ n (p:Int)).getD []
theorem Uv {n:Nd} (h:bI true n=0) (hk:n.kind=23):n.args.length=2/\1<=n.names.length:=by
 unfold bI at h
 split at h;·cases h
 split at h;·cases h
 rename_i _ h1;have h1:nM n=true:=by simpa using h1
 unfold nM at h1;have hs:iE 23=((1,5,2,2),false):=by kernel_rfl
 rw [hk,hs]at h1;simp [gy]at h1;omega
theorem Nr {n:Nd} (h:bI true n=0) (hl:n.args.length<=1000000) (p:Nat):iJ n (p:Int)=some (Av n p):=by
 have hj: ∃b,kX n.kind=some b:=by
  unfold kX
  repeat' first
   |exact⟨_,rfl⟩
   |(generalize(n.kind==_)=b;cases b<;>simp only [S1,O2])
 obtain⟨b,hb⟩:=hj;have: ∃r,iJ n (p:Int)=some r:=by
  unfold iJ;rw [hb,W0];cases b with
  |true=>rw [S1];cases((p:Int)==IntKind.wrap .i64 ((n.args.length:Int) -1))<;>exact⟨_,rfl⟩
  |false=>
   rw [O2];by_cases hk:n.kind=23
   · obtain⟨h1,h2⟩:=Uv h hk;rw [xR (by rw [hk];rfl)];rw [if_pos h2,if_pos h2];cases((p:Int)==IntKind.wrap .i64 ((n.args.length:Int) -1))<;>cases(n.n==1)<;>exact⟨_,rfl⟩
   · rw [qc (by rw [O0];exact hk)];exact⟨_,rfl⟩
 obtain⟨r,hr⟩:=this;unfold Av;rw [hr];rfl
theorem Ns {n:Nd} (h:bI true n=0) (hl:n.args.length<=1000000) (p:Nat):vT n (p:Int)=some (Av n p):=by
 rw [<-Nr h hl];unfold vT iJ;show Option.bind (kX n.kind) _=_;cases kX n.kind with
 |none=>rfl
 |some b=>
  rw [W0,W0];cases b with
  |true=>rfl
  |false=>
   rw [O2,O2];by_cases hk:n.kind=23
   · obtain⟨h1,h2⟩:=Uv h hk;rw [h1];rfl
   · rw [qc (by rw [O0];exact hk),qc (by rw [O0];exact hk)]
theorem Py {n:Nd} {m:Nat} (hm:n.names.length<=m) (p:Nat):(Av n p).length<=m:=by
 have key: ∀r,iJ n (p:Int)=some r->r.length<=m:=by
  intro r hr;unfold iJ at hr;cases hj:kX n.kind with
  |none=>rw [hj]at hr;cases hr
  |some b=>
   rw [hj,W0]at hr;cases b with
   |true=>
    rw [S1]at hr;cases e:((p:Int)==IntKind.wrap .i64 ((n.args.length:Int) -1))<;>rw [e]at hr<;>cases hr
    · exact N3 _
    · exact hm
   |false=>
    rw [O2]at hr;cases e0:(n.kind==23)<;>rw [e0]at hr
    · cases hr;exact N3 _
    · rw [S1]at hr;by_cases h1:1<=n.names.length
      · rw [if_pos h1,if_pos h1]at hr;cases e:((p:Int)==IntKind.wrap .i64 ((n.args.length:Int) -1))<;>rw [e]at hr
        · cases e2:(n.n==1)<;>rw [e2]at hr<;>cases hr
          · simp;omega
          · exact hm
        · cases hr;simp;omega
      · rw [if_neg h1,if_neg h1]at hr;cases e:((p:Int)==IntKind.wrap .i64 ((n.args.length:Int) -1))<;>rw [e]at hr
        · cases e2:(n.n==1)<;>rw [e2]at hr<;>cases hr;exact hm
        · cases hr
 unfold Av;cases h:iJ n (p:Int)with
 |none=>exact N3 _
 |some r=>exact key r h
mutual
def vis (b:Nat) (bd:List Str):Tm->List (Nat×List Str)
 | .mk x cs=>(b+sizes cs,bd)::ER b bd (nd x b cs) 0 cs
def ER (b:Nat) (bd:List Str) (n:Nd) (j:Nat):List Tm->List (Nat×List Str)
 |[]=>[]
 |c::cs=>vis b (bd++Av n j) c++ER (b+c.size) bd n (j+1) cs
end
theorem Kg {b:Nat} {bd:List Str} {n:Nd} {j:Nat} {c:Tm} {cs:List Tm}:ER b bd n j (c::cs)=vis b (bd++Av n j) c++ER (b+c.size) bd n (j+1) cs:=by rw [ER]
theorem V3 {b:Nat} {bd:List Str} {x:Nd} {cs:List Tm}:vis b bd (.mk x cs)=(b+sizes cs,bd)::ER b bd (nd x b cs) 0 cs:=by rw [vis]
section
variable {α:Type}
def Ea (step:α->Int->List Str->Option α):List (Nat×List Str)->α->Option α
 |[],a=>some a
 |v::l,a=>(step a (v.1:Int) v.2).bind fun a'=>Ea step l a'
theorem QX (step:α->Int->List Str->Option α): ∀(l m:List (Nat×List Str)) (a:α),Ea step (l++m) a=(Ea step l a).bind fun a'=>Ea step m a'
 |[],m,a=>rfl
 |v::l,m,a=>by
  rw [B4,Ea,Ea];cases step a (v.1:Int) v.2 with
  |none=>rfl
  |some a'=>exact QX step l m a'
structure BU (e:List Nd):Prop where
 len:e.length<=170
 ok: ∀(i:Nat) n,e[i]? =some n->bI true n=0
 few: ∀(i:Nat) n,e[i]? =some n->n.args.length<=34/\n.names.length<=34
variable {e:List Nd} (hF:BU e) (step:α->Int->List Str->Option α)
include hF
mutual
theorem adn: ∀(t:Tm) (b:Nat) (bd:List Str) (k:Nat) (a:α),Seg e b t->t.size<=k->bd.length+34*(b+t.size -1)<=10000->Au step e k ((b+t.size -1:Nat):Int) bd a=Ea step (vis b bd t) a
 | .mk x cs,b,bd,k,a,hS,hk,hb=>by
  have hn:=hS.node;have hsz:b+(Tm.mk x cs).size -1=b+sizes cs:=by simp only [size];omega
  rw [hsz]at hb⊢;obtain⟨k,rfl⟩: ∃j,k=j+1:=⟨k -1,by simp only [size]at hk;omega⟩;rw [Au,V3,Ea];cases step a ((b+sizes cs:Nat):Int) bd with
  |none=>rfl
  |some a'=>
   simp only [W0,nn,A0,V0,hn];have hl:(nd x b cs).args.length<=1099511627776:=by have:=(hF.few _ _ hn).1;omega
   rw [if_pos hl];exact ZE cs x [] b bd k a' hS (by simp only [size]at hk;omega) (by simp only [R2];omega)
theorem ZE: ∀(cs:List Tm) (x:Nd) (l:List Tm) (b:Nat) (bd:List Str) (k:Nat) (a:α),Seg e b (.mk x (l++cs))->sizes cs<=k->bd.length+34*(b+sizes (l++cs))<=10000->
 Ke (Au step e k) (nd x b (l++cs)) bd l.length (roots (b+sizes l) cs) a=Ea step (ER (b+sizes l) bd (nd x b (l++cs)) l.length cs) a
 |[],x,l,b,bd,k,a,hS,hk,hb=>by rw [roots,Ke,ER,Ea]
 |c::cs,x,l,b,bd,k,a,hS,hk,hb=>by
  have hn:=hS.node;have Eb:=hF.few _ _ hn;have hbl:=Py Eb.2 l.length;have hcp:=c.size_pos;have hsz:sizes (l++c::cs)=sizes l+(c.size+sizes cs):=by rw [dG,sizes]
  rw [hsz]at hb;rw [roots,Ke,Kg,QX,Nr (hF.ok _ _ hn) (by omega),W0,if_pos (by omega)];have hk2:sizes (c::cs)=c.size+sizes cs:=by rw [sizes]
  rw [adn c (b+sizes l) (bd++Av (nd x b (l++c::cs)) l.length) k a hS.kid (by omega) (by rw [X1];omega)];cases Ea step (vis (b+sizes l) (bd++Av (nd x b (l++c::cs)) l.length) c) a with
  |none=>rfl
  |some a'=>
   have e1:l++c::cs=(l++[c])++cs:=by simp
   have e2:l.length+1=(l++[c]).length:=by simp
   have e3:b+sizes l+c.size=b+sizes (l++[c]):=by rw [dG,mR];omega
   rw [W0,W0,e1,e2,e3];exact ZE cs x (l++[c]) b bd k a' (by rw [<-e1];exact hS) (by omega) (by rw [<-e1,hsz];omega)
end
end
end Go.VL
end
section
namespace Go.VL
theorem Pz: ∀a b:Str,strLt a b=true↔a<b
 |[],[]=>by simp [strLt]
 |a::x,[]=>by simp [strLt]
 |[],b::y=>by simp [strLt]
 |a::x,b::y=>by
  rw [strLt,List.cons_lt_cons_iff,C5,z1,B2,E3,Pz x y]
theorem tri (a b:Str):a<b\/a=b\/b<a:=by
 rcases List.le_total a b with h|h
 · by_cases e:a=b
   · exact .inr (.inl e)
   · by_cases h2:a<b
     · exact .inl h2
     · exact absurd (vA h (List.not_lt.1 h2)) e
 · by_cases e:a=b
   · exact .inr (.inl e)
   · by_cases h2:b<a
     · exact .inr (.inr h2)
     · exact absurd (vA (List.not_lt.1 h2) h) e
def xG (s:Str):List Str->List Str
 |[]=>[s]
 |x::l=>if strLt x s=true then x::xG s l else if x=s then x::l else s::x::l
def MR (l:List Str):List Str:=l.foldl (fun a s=>xG s a) []
theorem MS {s y:Str}: ∀{l:List Str},y∈xG s l↔y=s\/y∈l
 |[]=>by simp [xG]
 |x::l=>by
  rw [xG];split
  · simp only [M1,MS (l:=l)];constructor
    · rintro(h|h|h)<;>simp [h]
    · rintro(h|h|h)<;>simp [h]
  · split
    · rename_i h;subst h;simp
    · simp
theorem Uw {s:Str}: ∀{l:List Str},l.Pairwise (·< ·)->(xG s l).Pairwise (·< ·)
 |[],_=>by simp [xG]
 |x::l,h=>by
  rw [xG];obtain⟨h1,h2⟩:=mC.1 h;split
  · rename_i hx;refine mC.2 ⟨fun y hy=> ?_,Uw h2⟩;rcases MS.1 hy with rfl|hy
    · exact(Pz _ _).1 hx
    · exact h1 y hy
  · rename_i hx;split
    · exact h
    · rename_i hne;have hlt:s<x:=by
       rcases tri s x with h|h|h
       · exact h
       · exact absurd h.symm hne
       · exact absurd ((Pz _ _).2 h) hx
      refine mC.2 ⟨fun y hy=> ?_,h⟩;rcases M1.1 hy with rfl|hy
      · exact hlt
      · exact List.lt_trans hlt (h1 y hy)
theorem Ux: ∀(l a:List Str),a.Pairwise (·< ·)->(l.foldl (fun a s=>xG s a) a).Pairwise (·< ·)/\ ∀y,y∈l.foldl (fun a s=>xG s a) a↔y∈l\/y∈a
 |[],a,h=>⟨h,fun y=>by simp⟩
 |s::l,a,h=>by
  obtain⟨h1,h2⟩:=Ux l (xG s a) (Uw h);refine⟨h1,fun y=> ?_⟩;rw [m6,h2 y,MS,M1];constructor
  · rintro(h|h|h)<;>simp [h]
  · rintro((h|h)|h)<;>simp [h]
theorem ado (l:List Str):(MR l).Pairwise (·< ·):=(Ux l [] List.Pairwise.nil).1
theorem adp {l:List Str} {y:Str}:y∈MR l↔y∈l:=by rw [MR,(Ux l [] List.Pairwise.nil).2 y];simp
theorem adq {l m:List Str} (hl:l.Pairwise (·< ·)) (hm:m.Pairwise (·< ·)) (h: ∀y,y∈l↔y∈m):l=m:=by
 have nd: ∀{l:List Str},l.Pairwise (·< ·)->l.Nodup:=fun h=>h.imp (S:=fun a b=>a≠b) fun{a b} hab e=>List.lt_irrefl a (by rw [<-e]at hab;exact hab)
 have hp:l.Perm m:=(List.perm_ext_iff_of_nodup (nd hl) (nd hm)).2 h
 exact List.Perm.eq_of_pairwise (le:=(·< ·)) (fun a b _ _ h1 h2=>absurd (List.lt_trans h1 h2) (List.lt_irrefl a)) hl hm hp
theorem Jg (d:Array Str) (hd: ∀i j,i<j->j<d.size->d[i]! <=d[j]!): ∀m,m<=d.size->(Lib.compactUpTo d m).Pairwise (·< ·)/\(∀x∈Lib.compactUpTo d m,∃j,j<m/\x=d[j]!)/\(∀j,j<m->d[j]! ∈Lib.compactUpTo d m)
 |0,_=>⟨List.Pairwise.nil,fun x h=>(by simp [Lib.compactUpTo]at h),fun j h=>absurd h (Nat.not_lt_zero _)⟩
 |m+1,hm=>by
  obtain⟨h1,h2,h3⟩:=Jg d hd m (by omega);rw [Lib.compactUpTo_succ];cases hk:Lib.keeps d m with
  |true=>
   rw [if_pos rfl];refine⟨List.pairwise_append.2 ⟨h1,DB _ _,fun a ha b hb=> ?_⟩,fun x hx=> ?_,fun j hj=> ?_⟩
   · rw [P0]at hb;subst hb;obtain⟨j,hj,rfl⟩:=h2 a ha;have hne:d[m]! ≠d[m -1]! :=by
      unfold Lib.keeps at hk;rw [B2]at hk;rcases hk with h|h
      · omega
      · exact h
     have h4:d[j]! <=d[m -1]! :=by
      by_cases e:j=m -1
      · rw [e];exact List.le_refl _
      · exact hd j (m -1) (by omega) (by omega)
     have h5:d[m -1]! <=d[m]! :=hd (m -1) m (by omega) (by omega);have h6:d[m -1]! <d[m]! :=by
      rcases tri d[m -1]! d[m]! with h|h|h
      · exact h
      · exact absurd h.symm hne
      · exact absurd (vA h5 (List.le_of_lt h)).symm hne
     rcases tri d[j]! d[m]! with h|h|h
     · exact h
     · rw [h]at h4;exact absurd (vA h4 h5) hne
     · have h7:=List.lt_trans h6 h;exact absurd (vA h4 (List.le_of_lt h7)) (fun e=>List.lt_irrefl _ (e▸h7))
   · rcases P2.1 hx with hx|hx
     · obtain⟨j,hj,e⟩:=h2 x hx;exact⟨j,by omega,e⟩
     · rw [P0]at hx;exact⟨m,A2 _,hx⟩
   · by_cases e:j=m
     · subst e;exact T5 _ (P0.2 rfl)
     · exact N4 _ (h3 j (by omega))
  |false=>
   rw [if_neg (by simp),W3];refine⟨h1,fun x hx=> ?_,fun j hj=> ?_⟩
   · obtain⟨j,hj,e⟩:=h2 x hx;exact⟨j,by omega,e⟩
   · by_cases e:j=m
     · subst e;unfold Lib.keeps at hk;rw [E6,not_or,Decidable.not_not]at hk;rw [hk.2];exact h3 (j -1) (by omega)
     · exact h3 j (by omega)
theorem adr (l:List Str):Lib.compact (l.mergeSort fun x y=>decide (x<=y))=MR l:=by
 have tr: ∀a b c:Str,decide (a<=b)=true->decide (b<=c)=true->decide (a<=c)=true:=fun a b c h1 h2=>by simp only [B2]at*;exact List.le_trans h1 h2
 have tot: ∀a b:Str,(decide (a<=b)||decide (b<=a))=true:=fun a b=>by simp only [C5,B2];exact List.le_total a b
 have hs:=List.pairwise_mergeSort (le:=fun x y:Str=>decide (x<=y)) tr tot l;have hp:=List.mergeSort_perm l (fun x y:Str=>decide (x<=y));generalize(l.mergeSort fun x y=>decide (x<=y))=m at hs hp;have hd: ∀i j,i<j->j<m.toArray.size->m.toArray[i]! <=m.toArray[j]! :=fun i j hij hj=>by
  have hj':j<m.length:=by simpa using hj
  have:=kA.1 hs i j (by omega) hj' hij;rw [B2]at this;simp [hj',show i<m.length by omega];exact this
 obtain⟨h1,h2,h3⟩:=Jg m.toArray hd m.length (by simp);refine adq h1 (ado l) fun y=> ?_;rw [adp,<-hp.mem_iff];constructor
 · intro h;obtain⟨j,hj,rfl⟩:=h2 y h;simp [hj]
 · intro h;obtain⟨j,hj,rfl⟩:=List.getElem_of_mem h;have:=h3 j hj;unfold Lib.compact;simpa [hj]using this
end Go.VL
end
section
set_option maxHeartbeats 4000000
namespace Go.VL
open Go.Proofs
def jL:Nat->(List Nd)->(List Str)->Int->Option (List Str)
 |0,_,_,_=>none
 |k+1,au,gL,gW=>
  cond (decide (gW<(au.length:Int))) (if 0<=gW then (au[gW.toNat]?).bind fun x3=>(Ah k x3).bind fun p6=>cond p6 ((zL k au gW).bind fun p9=>(lW k p9 x3.text).bind fun vO=>cond vO (jL k au gL (IntKind.wrap .i64 (gW+1))) ((VZ k gL x3.text).bind fun nG=>jL k au nG (IntKind.wrap .i64 (gW+1)))) (jL k au gL (IntKind.wrap .i64 (gW+1)))else none) (some (gL))
def PD:List Nat:=List.range' 3 32
theorem aaH: ∀(k:Nat) (au:List Nd) (gL:List Str) (gW:Int) (kW:Ck) (aH σ:Nat->PV) (H:AH) (f0:Fr PD aH σ) (sl:σ 0=(.ah (au.map Nd.cells) .unk)/\σ 3=(.ah (gL.map aF) kW)/\σ 4=(.int .i64 gW)) (o:List Str) (h:jL k au gL gW=some o) (Q:Post) (q0: ∀(p:List Str) (c0:Ck) (σ':Nat->PV),o=p->Fr PD aH σ'->(σ' 3=(.ah (p.map aF) c0))->Q (.exit 0) σ' H),W Tryz.prog (.loop Te) Q σ H:=by
 intro k
 induction k with
 |zero=>intro au gL gW kW aH σ H f0 sl o h Q q0;simp only [jL,reduceCtorEq]at h
 |succ k ih=>
  intro au gL gW kW aH σ H f0 sl o h Q q0;obtain⟨s0,s3,s4⟩:=sl;unfold jL at h;refine bB (fun K hK=>aI ?_);unfold Te;obtain⟨e1,h⟩|⟨e1,h⟩:=aJ h
  ·refine ak ?_;refine oH ?_;obtain⟨e2,h⟩:=aX h;obtain⟨x3,e4,h⟩:=aj h;obtain⟨p6,e5,h⟩:=aj h;refine ak ?_;refine PC.mk (Zn e5) ?_;obtain⟨e7,h⟩|⟨e7,h⟩:=aJ h
   ·obtain⟨p9,e8,h⟩:=aj h;refine ak ?_;refine PC.mk (afK e8) ?_;obtain⟨vO,e10,h⟩:=aj h;refine ak ?_;refine av (IW e10) ?_;obtain⟨e12,h⟩|⟨e12,h⟩:=aJ h
    ·refine ak ?_;refine hK _ _ ?_;exact ih au gL (IntKind.wrap .i64 (gW+1)) kW _ _ _ bG aA _ h _ q0
    ·obtain⟨nG,e13,h⟩:=aj h;refine ak ?_;refine av (auu e13) ?_;refine ak ?_;refine hK _ _ ?_;exact ih au nG (IntKind.wrap .i64 (gW+1)) .unk _ _ _ bG aA _ h _ q0
   ·refine ak ?_;refine hK _ _ ?_;exact ih au gL (IntKind.wrap .i64 (gW+1)) kW _ _ _ bG aA _ h _ q0
  ·cases h;refine ak ?_;exact q0 _ kW _ rfl bG aA
def zM (k:Nat) (au:List Nd):Option (List Str):=
 Option.bind (jL k au ([]:List Str) 0) (fun K9=>some K9)
theorem ai8 {k:Nat} {au:List Nd} {c0:Ck} {r:List Str} (h:zM k au=some r):aG Tryz.prog 198 [(.ah (au.map Nd.cells) c0)] (.ah (r.map aF) .unk):=by
 refine aG.lw (.ah .nil) (aG.bX (dJ.mem (.cons (bK Nd.pu _) .nil)) (aL aBG (by simp) (aI ?_)) (bK gu _));unfold zM at h;unfold aqp;refine ak ?_;obtain⟨o15,h16,h⟩:=aj h;refine aaH k au ([]:List Str) 0 .nil _ _ _ (Fr.refl _ _) aA _ h16 _ ?_
 ·rintro K9 c21 σ' eo aMg s22;rw [eo]at h;cases h;refine ak ?_;exact(jV gu _ _)
end Go.VL
end
section
namespace Go.VL
def nB (s:Str):List Str->Nat
 |[]=>0
 |x::l=>if strLt x s=true then nB s l+1 else 0
theorem ai9 (s:Str): ∀l,nB s l<=l.length
 |[]=>R0 _
 |x::l=>by
  rw [nB];split
  · have:=ai9 s l;simp only [I0];omega
  · omega
theorem Yv (s:Str): ∀l,xG s l=if l[nB s l]? =some s then l else l.take (nB s l)++s::l.drop (nB s l)
 |[]=>by simp [xG,nB]
 |x::l=>by
  rw [xG,nB];by_cases h:strLt x s=true
  · rw [if_pos h,if_pos h,Yv s l];simp only [d5,m9,GC];split<;>rfl
  · rw [if_neg h,if_neg h];by_cases h2:x=s
    · subst h2;simp
    · simp [h2]
theorem afL (l:List Str) (s:Str) (hl:l.length<=1000000):Ev (fun k=>xE k l s ((0:Nat):Int)) (((0+nB s (l.drop 0):Nat):Int)):=by
 refine eO (len:=l.length) (p:=fun i=>Ev (fun k=>xE k l s (i:Int)) (((i+nB s (l.drop i):Nat):Int))) ?_ fun i hi ih=> ?_
 · refine Ev.succ ?_;simp only [xE];exact Ev.cF (eD _) (Ev.some' (by simp [nB]))
 · refine Ev.succ ?_;simp only [xE,V0,aP hi,W0,nn,A0,fC hi,S1,bW hi (show l.length<=1099511627776 by omega)];rw [drop_cons hi,nB];by_cases h:strLt l[i] s=true
   · refine Ev.cT h (ih.to ?_);rw [if_pos h];omega
   · refine Ev.cF (by simpa using h) (Ev.some' ?_);rw [if_neg h];rfl
theorem aoz (l:List Str) (s:Str) (hl:l.length<=1000000):Ev (fun k=>VZ k l s) (xG s l):=by
 have h0:=afL l s hl;rw [P1,V1]at h0;have hle:=ai9 s l;unfold VZ;refine Ev.bind h0 ?_;rw [Yv];have e1:(([]:List Str).length+(l.take (nB s l)).length)*16<=1099511627776:=by simp;omega
 have e2:((([]:List Str)++(l.take (nB s l))).length+1)*16<=1099511627776:=by simp;omega
 have e3:(((([]:List Str)++(l.take (nB s l)))++[s]).length+(l.drop (nB s l)).length)*16<=1099511627776:=by simp;omega
 have e4:(0:Int)<=((nB s l:Nat):Int)/\nB s l<=l.length:=⟨by omega,hle⟩;have tail:Ev (fun _:Nat=>if(0:Int)<=((nB s l:Nat):Int)/\nB s l<=l.length then(if(([]:List Str).length+(l.take (nB s l)).length)*16<=1099511627776 then(if((([]:List Str)++(l.take (nB s l))).length+1)*16<=1099511627776 then(if(((([]:List Str)++(l.take (nB s l)))++[s]).length+(l.drop (nB s l)).length)*16<=1099511627776 then some (((([]:List Str)++(l.take (nB s l)))++[s])++(l.drop (nB s l)))else none)else none)else none)else none) (l.take (nB s l)++s::l.drop (nB s l)):=by
  rw [if_pos e4,if_pos e1,if_pos e2,if_pos e3];exact Ev.some' (by simp)
 by_cases h:nB s l<l.length
 · simp only [V0,aP h,W0,nn,A0];refine Ev.cT (fC h) ?_;by_cases h2:l[nB s l]=s
   · refine Ev.cT (by rw [E3];exact h2) (Ev.some' ?_);rw [if_pos (by rw [h2])]
   · refine Ev.cF (by rw [O0];exact h2) ?_;refine Ev.to ?_ (if_neg (fun e=>h2 (V2 e))).symm;simpa only [nn,T8]using tail
 · have h2:l[nB s l]? =none:=R1 (by omega);simp only [V0];refine Ev.cF (B0 (by omega)) ?_;exact Ev.to tail (if_neg (fun e=>by rw [h2]at e;cases e)).symm
theorem ads (s:Str) (l:List Str):(xG s l).length<=l.length+1:=by
 rw [Yv];split
 · omega
 · have:=ai9 s l;simp;omega
end Go.VL
end
section
set_option maxHeartbeats 4000000
namespace Go.VL
open Go.Proofs
def nR (k:Nat) (aU:Nd):Option Bool:=
 (nI k aU.text).bind fun p2=>cond (aU.kind==2) ((FQ aU.text).bind fun p5=>cond p5 (cond (aU.kind==3) (some (!p2.2)) (some false)) (some true)) (cond (aU.kind==3) (some (!p2.2)) (some false))
instance afM (k:Nat) (aU:Nd):bY Tryz.prog 191 [(.agg (Nd.cells aU))] (nR k aU) (fun r=>(.bool r)):=bM aBA (by unfold nR aqj;exact bE)
theorem QY {k:Nat} {aU:Nd} {r:Bool} (h:nR k aU=some r):aG Tryz.prog 191 [(.agg (Nd.cells aU))] (.bool r):=(afM _ _).c _ h
def lY (jo:Int):Option Bool:=
 cond (jo !=16) (some (jo !=17)) (some false)
instance adt (jo:Int):bY Tryz.prog 283 [(.int .i64 jo)] (lY jo) (fun r=>(.bool r)):=bM aCr (by unfold lY arb;exact bE)
theorem adu {jo:Int} {r:Bool} (h:lY jo=some r):aG Tryz.prog 283 [(.int .i64 jo)] (.bool r):=(adt _).c _ h
def wR:Nat->Int->Int->Int->Str->(List Str)->(List Int)->(List Int)->Int->Option (List Int)
 |0,_,_,_,_,_,_,_,_=>none
 |k+1,lQ,Jh,Ji,Jj,Jk,Ec,yu,KH=>
  cond (decide (KH<(Ec.length:Int))) (if 0<=KH then (Ec[KH.toNat]?).bind fun x15=>if(yu.length+1)*8<=1099511627776 then wR k lQ Jh Ji Jj Jk Ec (yu++[(IntKind.wrap .i64 (x15+lQ))]) (IntKind.wrap .i64 (KH+1))else none else none) (some (yu))
def V5:List Nat:=[11,12]++List.range' 47 17
theorem afN: ∀(k:Nat) (FY:Nat) (lQ:Int) (Jh:Int) (Ji:Int) (Jj:Str) (Jk:List Str) (Ec:List Int) (yu:List Int) (KH:Int) (qx:Ck) (mU:Ck) (Aw:Ck) (aH σ:Nat->PV) (H0 H:AH) (f0:Fr V5 aH σ) (hf0:HF [] H0 H) (sl:σ 8=(.int .i64 lQ)/\σ 10=(.ref (FY) 0)/\σ 11=(.ah (yu.map aK) qx)/\σ 12=(.int .i64 KH)/\H.obj FY=some [(.int .i64 Jh),(.int .i64 Ji),(.str Jj),(.ah (Jk.map aF) .unk),(.ah (Ec.map aK) .unk)]) (MU:FY<H.next) (V6:aR H qx) (Ed:aR H mU) (ar6:aR H Aw) (sZ:ku qx mU) (tq:ku qx Aw) (uE:ku mU Aw) (o:List Int) (h:wR k lQ Jh Ji Jj Jk Ec yu KH=some o) (Q:Post) (q0: ∀(p:List Int) (c0:Ck) (σ':Nat->PV) (H':AH),o=p->Fr V5 aH σ'->HF [] H0 H'->(σ' 11=(.ah (p.map aK) c0))->aR H' mU->aR H' Aw->ku mU Aw->Q (.exit 4) σ' H'),W Tryz.prog (.loop RH) Q σ H:=by
 intro k
 induction k with
 |zero=>intro FY lQ Jh Ji Jj Jk Ec yu KH qx mU Aw aH σ H0 H f0 hf0 sl MU V6 Ed ar6 sZ tq uE o h Q q0;simp only [wR,reduceCtorEq]at h
 |succ k ih=>
  intro FY lQ Jh Ji Jj Jk Ec yu KH qx mU Aw aH σ H0 H f0 hf0 sl MU V6 Ed ar6 sZ tq uE o h Q q0;obtain⟨s8,s10,s11,s12,aGW⟩:=sl;have aGX:=ne_next MU;have aGY:=bA MU;have hle0:=hf0.1;unfold wR at h;refine bB (fun K hK=>aI ?_);unfold RH;obtain⟨e13,h⟩|⟨e13,h⟩:=aJ h
  ·obtain⟨e14,h⟩:=aX h;obtain⟨x15,e16,h⟩:=aj h;obtain⟨e21,h⟩:=aX h;refine ak ?_;refine gI (f:=aK) tJ yu ([(IntKind.wrap .i64 (x15+lQ))]:List Int) qx .exact aA aA eG (by first|exact e21|(simp only [I0,j0];exact e21)) (fun c17 H18 ah2 le aGZ aoy=> ?_);have aMh:HF [] _ H18:=⟨le,fun i _ _=>aGZ i⟩;try simp only [AH.aN,AH.aO,AH.aS,AH.aT]at le
   obtain⟨awn,aG0⟩:=aoy mU eG sZ;obtain⟨anv,aG1⟩:=aoy Aw eG tq;have n28:=ne_next (show FY<H18.next from aY);have m29:=bA (show FY<H18.next from aY);refine ak ?_;refine hK _ _ ?_;exact ih FY lQ Jh Ji Jj Jk Ec (yu++[(IntKind.wrap .i64 (x15+lQ))]) (IntKind.wrap .i64 (KH+1)) c17 mU Aw _ _ _ _ bG II aA aY eG eG eG aG0 aG1 uE _ h _ q0
  ·cases h;refine ak ?_;exact q0 _ qx _ _ rfl bG yH aA eG eG uE
def wS:Nat->(List (List Nd))->(List Nd)->Int->Int->Int->Option (List Nd)
 |0,_,_,_,_,_=>none
 |k+1,bT,iY,iH,lQ,AY=>
  if 0<=iH then (bT[iH.toNat]?).bind fun x5=>cond (decide (AY<(x5.length:Int))) (if 0<=AY then (x5[AY.toNat]?).bind fun x9=>(jX x9.names).bind fun rT=>Option.bind (wR k lQ x9.kind x9.n x9.text rT x9.args ([]:List Int) 0) (fun p32=>if(iY.length+1)*80<=1099511627776 then wS k bT (iY++[(Nd.mk x9.kind x9.n x9.text rT p32)]) iH lQ (IntKind.wrap .i64 (AY+1))else none)else none) (some (iY))else none
def V7:List Nat:=[5,9,10,11,12]++List.range' 27 43
theorem afO: ∀(k:Nat) (bT:List (List Nd)) (iY:List Nd) (iH:Int) (lQ:Int) (AY:Int) (rF:Ck) (mV:Ck) (aH σ:Nat->PV) (H0 H:AH) (f0:Fr V7 aH σ) (hf0:HF [] H0 H) (sl:σ 1=(.ah (bT.map (bR Nd.cells)) .unk)/\σ 5=(.ah (iY.map Nd.cells) rF)/\σ 7=(.int .i64 iH)/\σ 8=(.int .i64 lQ)/\σ 9=(.int .i64 AY)) (Jl:aR H rF) (Ed:aR H mV) (qH:ku rF mV) (o:List Nd) (h:wS k bT iY iH lQ AY=some o) (Q:Post) (q0: ∀(p:List Nd) (c0:Ck) (σ':Nat->PV) (H':AH),o=p->Fr V7 aH σ'->HF [] H0 H'->(σ' 5=(.ah (p.map Nd.cells) c0))->aR H' c0->aR H' mV->ku c0 mV->Q (.exit 2) σ' H'),W Tryz.prog (.loop RI) Q σ H:=by
 intro k
 induction k with
 |zero=>intro bT iY iH lQ AY rF mV aH σ H0 H f0 hf0 sl Jl Ed qH o h Q q0;simp only [wS,reduceCtorEq]at h
 |succ k ih=>
  intro bT iY iH lQ AY rF mV aH σ H0 H f0 hf0 sl Jl Ed qH o h Q q0;obtain⟨s1,s5,s7,s8,s9⟩:=sl;have hle0:=hf0.1;unfold wS at h;refine bB (fun K hK=>aI ?_);unfold RI;obtain⟨e4,h⟩:=aX h;obtain⟨x5,e6,h⟩:=aj h;obtain⟨e7,h⟩|⟨e7,h⟩:=aJ h
  ·obtain⟨e8,h⟩:=aX h;obtain⟨x9,e10,h⟩:=aj h;obtain⟨rT,e11,h⟩:=aj h;refine ak ?_;refine av (Dt e11) ?_;refine ak ?_;obtain⟨o30,h31,h⟩:=aj h;refine afN k (H.next) lQ x9.kind x9.n x9.text rT x9.args ([]:List Int) 0 .nil rF mV _ _ _ _ (Fr.refl _ _) (HF.refl _ _) aA aY eG eG eG ku.nil ku.nil qH _ h31 _ ?_
   ·rintro p32 c36 σ' H35 eo Gn ay9 s37 ayt aMi aG2;rw [eo]at h;have s41:σ' 1=(.ah (bT.map (bR Nd.cells)) .unk):=(Gn 1 (by decide)).trans aA;have s42:σ' 5=(.ah (iY.map Nd.cells) rF):=(Gn 5 (by decide)).trans aA;have s43:σ' 7=(.int .i64 iH):=(Gn 7 (by decide)).trans aA;have s44:σ' 8=(.int .i64 lQ):=(Gn 8 (by decide)).trans aA;have s45:σ' 9=(.int .i64 AY):=(Gn 9 (by decide)).trans aA;have s46:σ' 10=(.ref (H.next) 0):=(Gn 10 (by decide)).trans aA;have le:=ay9.1;try simp only [AH.aN,AH.aO,AH.aS,AH.aT]at le
    have g47:H35.obj (H.next)=some [(.int .i64 x9.kind),(.int .i64 x9.n),(.str x9.text),(.ah (rT.map aF) .unk),(.ah (x9.args.map aK) .unk)]:=(ay9.2 _ aY (by first|exact D0|(simp only [M1,D0,B7,not_or];omega))).trans aA;have n48:=ne_next (show H.next<H35.next from aY);have m49:=bA (show H.next<H35.next from aY);obtain⟨e54,h⟩:=aX h;refine ak ?_;refine gI (f:=Nd.cells) Nd.row iY ([(Nd.mk x9.kind x9.n x9.text rT p32)]:List Nd) rF .exact aA aA eG (by first|exact e54|(simp only [I0,j0];exact e54)) (fun c50 H51 aMj le aov aG3=> ?_);have aow:HF [] _ H51:=⟨le,fun i _ _=>aov i⟩;try simp only [AH.aN,AH.aO,AH.aS,AH.aT]at le
    obtain⟨ayw,aG4⟩:=aG3 mV eG aG2;have n59:=ne_next (show H.next<H51.next from aY);have m60:=bA (show H.next<H51.next from aY);refine ak ?_;refine hK _ _ ?_;exact ih bT (iY++[(Nd.mk x9.kind x9.n x9.text rT p32)]) iH lQ (IntKind.wrap .i64 (AY+1)) c50 mV _ _ _ _ FJ II aA eG eG aG4 _ h _ q0
  ·cases h;refine ak ?_;exact q0 _ rF _ _ rfl bG yH aA eG eG qH
def wT:Nat->(List (List Nd))->(List Nd)->Int->Int->Str->(List Str)->(List Int)->Int->Option (((List Nd)×Int×Int×Str×(List Str)×(List Int)))
 |0,_,_,_,_,_,_,_,_=>none
 |k+1,bT,iY,He,Hf,Hg,Hl,Ee,iH=>
  cond (decide (iH<(bT.length:Int))) (Option.bind (wS k bT iY iH (iY.length:Int) 0) (fun p63=>if(Ee.length+1)*8<=1099511627776 then wT k bT p63 He Hf Hg Hl (Ee++[(IntKind.wrap .i64 ((p63.length:Int) -1))]) (IntKind.wrap .i64 (iH+1))else none)) (some ((iY,He,Hf,Hg,Hl,Ee)))
def V8:List Nat:=[5,7,8,9,10,11,12]++List.range' 19 59
theorem afP: ∀(k:Nat) (xH:Nat) (bT:List (List Nd)) (iY:List Nd) (He:Int) (Hf:Int) (Hg:Str) (Hl:List Str) (Ee:List Int) (iH:Int) (xI:Ck) (rG:Ck) (aH σ:Nat->PV) (H0 H:AH) (f0:Fr V8 aH σ) (hf0:HF [xH] H0 H) (sl:σ 1=(.ah (bT.map (bR Nd.cells)) .unk)/\σ 5=(.ah (iY.map Nd.cells) xI)/\σ 6=(.ref (xH) 0)/\σ 7=(.int .i64 iH)/\H.obj xH=some [(.int .i64 He),(.int .i64 Hf),(.str Hg),(.ah (Hl.map aF) .unk),(.ah (Ee.map aK) rG)]) (Qq:xH<H.next) (Jl:aR H xI) (adw:aR H rG) (sM:ku xI rG) (o:((List Nd)×Int×Int×Str×(List Str)×(List Int))) (h:wT k bT iY He Hf Hg Hl Ee iH=some o) (Q:Post) (q0: ∀(p:(List Nd)×Int×Int×Str×(List Str)×(List Int)) (c0:Ck) (c5:Ck) (σ':Nat->PV) (H':AH),o=p->Fr V8 aH σ'->HF [xH] H0 H'->(σ' 5=(.ah (p.1.map Nd.cells) c0)/\H'.obj xH=some [(.int .i64 p.2.1),(.int .i64 p.2.2.1),(.str p.2.2.2.1),(.ah (p.2.2.2.2.1.map aF) .unk),(.ah (p.2.2.2.2.2.map aK) c5)])->aR H' c0->Q (.exit 0) σ' H'),W Tryz.prog (.loop RJ) Q σ H:=by
 intro k
 induction k with
 |zero=>intro xH bT iY He Hf Hg Hl Ee iH xI rG aH σ H0 H f0 hf0 sl Qq Jl adw sM o h Q q0;simp only [wT,reduceCtorEq]at h
 |succ k ih=>
  intro xH bT iY He Hf Hg Hl Ee iH xI rG aH σ H0 H f0 hf0 sl Qq Jl adw sM o h Q q0;obtain⟨s1,s5,s6,s7,aHV⟩:=sl;have aHW:=ne_next Qq;have aHX:=bA Qq;have hle0:=hf0.1;unfold wT at h;refine bB (fun K hK=>aI ?_);unfold RJ;obtain⟨e3,h⟩|⟨e3,h⟩:=aJ h
  ·refine ak ?_;obtain⟨o61,h62,h⟩:=aj h;refine afO k bT iY iH (iY.length:Int) 0 xI rG _ _ _ _ (Fr.refl _ _) (HF.refl _ _) aA eG eG sM _ h62 _ ?_
   ·rintro p63 c67 σ' H66 eo aoA aox s69 anx aGd aG5;rw [eo]at h;have s72:σ' 1=(.ah (bT.map (bR Nd.cells)) .unk):=(aoA 1 (by decide)).trans aA;have s73:σ' 6=(.ref (xH) 0):=(aoA 6 (by decide)).trans aA;have s74:σ' 7=(.int .i64 iH):=(aoA 7 (by decide)).trans aA;have le:=aox.1;try simp only [AH.aN,AH.aO,AH.aS,AH.aT]at le
    have g75:H66.obj (xH)=some [(.int .i64 He),(.int .i64 Hf),(.str Hg),(.ah (Hl.map aF) .unk),(.ah (Ee.map aK) rG)]:=(aox.2 _ aY (by first|exact D0|(simp only [M1,D0,B7,not_or];omega))).trans aA;have n76:=ne_next (show xH<H66.next from aY);have m77:=bA (show xH<H66.next from aY);obtain⟨e82,h⟩:=aX h;refine ak ?_;refine gI (f:=aK) tJ Ee ([(IntKind.wrap .i64 ((p63.length:Int) -1))]:List Int) rG .exact aA aA eG (by first|exact e82|(simp only [I0,j0];exact e82)) (fun c78 H79 anA le aG6 aG7=> ?_);have aMk:HF [] _ H79:=⟨le,fun i _ _=>aG6 i⟩;try simp only [AH.aN,AH.aO,AH.aS,AH.aT]at le
    obtain⟨awQ,aG8⟩:=aG7 c67 eG (ku.symm aG5);have n87:=ne_next (show xH<H79.next from aY);have m88:=bA (show xH<H79.next from aY);refine ak ?_;refine hK _ _ ?_;exact ih xH bT p63 He Hf Hg Hl (Ee++[(IntKind.wrap .i64 ((p63.length:Int) -1))]) (IntKind.wrap .i64 (iH+1)) c67 c78 _ _ _ _ FJ II aA aY eG eG (ku.symm aG8) _ h _ q0
  ·cases h;refine ak ?_;exact q0 _ xI rG _ _ rfl bG yH aA eG
def Lv (k:Nat) (Bu:Nd) (bT:List (List Nd)):Option (List Nd):=
 (jX Bu.names).bind fun p2=>Option.bind (wT k bT ([]:List Nd) Bu.kind Bu.n Bu.text p2 ([]:List Int) 0) (fun ou=>if(ou.1.length+1)*80<=1099511627776 then some (ou.1++[(Nd.mk ou.2.1 ou.2.2.1 ou.2.2.2.1 ou.2.2.2.2.1 ou.2.2.2.2.2)])else none)
theorem aoB {k:Nat} {Bu:Nd} {bT:List (List Nd)} {c1:Ck} {r:List Nd} (h:Lv k Bu bT=some r):aG Tryz.prog 118 [(.agg (Nd.cells Bu)),(.ah (bT.map (bR Nd.cells)) c1)] (.ah (r.map Nd.cells) .unk):=by
 refine aG.lw (.same (.ah .nil)) (aG.bX (dJ.mem (.cons (.agg _ (Nd.pu _)) (.cons (bK (tN Nd.pu) _) .nil))) (aL aA4 (by simp) (aI ?_)) (bK Nd.pu _));unfold Lv at h;unfold apO;obtain⟨p2,e1,h⟩:=aj h;refine ak ?_;refine av (Dt e1) ?_;refine ak ?_;obtain⟨o89,h90,h⟩:=aj h;refine afP k (AH.empty.next+1) bT ([]:List Nd) Bu.kind Bu.n Bu.text p2 ([]:List Int) 0 .nil .nil _ _ _ _ (Fr.refl _ _) (HF.refl _ _) aA aY eG eG ku.nil _ h90 _ ?_
 ·rintro ou c95 c98 σ' H94 eo an5 an6 ⟨s97,g99⟩ aMl;rw [eo]at h;have aya:σ' 6=(.ref (AH.empty.next+1) 0):=(an5 6 (by decide)).trans aA;have le:=an6.1;try simp only [AH.aN,AH.aO,AH.aS,AH.aT]at le
  have n102:=ne_next (show AH.empty.next+1<H94.next from aY);have aMm:=bA (show AH.empty.next+1<H94.next from aY);obtain⟨e108,h⟩:=aX h;refine ak ?_;refine gI (f:=Nd.cells) Nd.row ou.1 ([(Nd.mk ou.2.1 ou.2.2.1 ou.2.2.2.1 ou.2.2.2.2.1 ou.2.2.2.2.2)]:List Nd) c95 .exact aA aA eG (by first|exact e108|(simp only [I0,j0];exact e108)) (fun aMn adx aLb le aCW aLc=> ?_);have aLd:HF [] _ adx:=⟨le,fun i _ _=>aCW i⟩;try simp only [AH.aN,AH.aO,AH.aS,AH.aT]at le
  have n111:=ne_next (show AH.empty.next<adx.next from aY);have aMo:=bA (show AH.empty.next<adx.next from aY);have n113:=ne_next (show AH.empty.next+1<adx.next from aY);have aMp:=bA (show AH.empty.next+1<adx.next from aY);cases h;refine ak ?_;exact(jV Nd.pu _ _)
end Go.VL
end
section
namespace Go.VL
open Go.Proofs
def ES (k:Nat) (e:List Nd) (out:List Str) (at_:Int) (bound:List Str):Option (List Str):=
 if 0<=at_ then (e[at_.toNat]?).bind fun n=>(nR k n).bind fun b=>cond b ((bO k bound n.text).bind fun c=>cond c (some out) (if(out.length+1)*16<=1099511627776 then some (out++[n.text])else none)) (some out)else none
def ar7 (e:List Nd) (o0 o1:Nat) (out:List Str) (H:AH):Prop:=o0<H.next/\o1<H.next/\o0≠o1/\H.obj o0=some [gH e]/\ ∃v ids,H.obj o1=some [v]/\aB H aF 1 out v ids/\o0∉ids/\o1∉ids
theorem aja (k:Nat) (e:List Nd) (o0 o1:Nat):Visit 242 [.ref o0 0,.ref o1 0] (ar7 e o0 o1) (ES k e) where
 stable:=by
  rintro a H H' ⟨h1,h2,h3,h4,v,ids,h5,h6,h7,h8⟩ hn ho hc;exact⟨by omega,by omega,h3,(ho _).trans h4,v,ids,(ho _).trans h5,h6.hf (M:=[]) ⟨hn,fun i _ _=>ho i⟩ (fun _ _ h=>by cases h),h7,h8⟩
 call:=by
  rintro a at_ bound a' H ⟨h1,h2,h3,h4,v,ids,h5,h6,h7,h8⟩ h
  unfold ES at h;by_cases e1:0<=at_
  case neg=>rw [if_neg e1]at h;cases h
  rw [if_pos e1]at h;cases e2:e[at_.toNat]? with
  |none=>rw [C9 e2]at h;cases h
  |some n=>
  rw [Da e2]at h;cases e3:nR k n with
  |none=>rw [C9 e3]at h;cases h
  |some b=>
  rw [Da e3]at h;refine aL aB0 (by simp) (aI ?_);unfold aqK;simp -implicitDefEqProofs only [go_sem,h4,e1,e2,J0,X2];refine av (QY e3) ?_;cases b with
  |false=>
   rw [qc rfl]at h;cases h;simp -implicitDefEqProofs only [go_sem,h4,e1,e2,J0,X2];exact⟨h1,h2,h3,h4,v,ids,h5,h6,h7,h8⟩
  |true=>
   rw [xR rfl]at h;cases e4:bO k bound n.text with
   |none=>rw [C9 e4]at h;cases h
   |some c=>
   rw [Da e4]at h;simp -implicitDefEqProofs only [go_sem,h4,e1,e2,J0,X2];refine av (jD e4) ?_;cases c with
   |true=>
    rw [xR rfl]at h;cases h;simp -implicitDefEqProofs only [go_sem,h4,e1,e2,J0,X2];exact⟨h1,h2,h3,h4,v,ids,h5,h6,h7,h8⟩
   |false=>
    rw [qc rfl]at h;by_cases e5:(a.length+1)*16<=1099511627776
    case neg=>rw [if_neg e5]at h;cases h
    rw [if_pos e5]at h;cases h;simp -implicitDefEqProofs only [go_sem,h4,e1,e2,J0,X2];refine oH ?_;simp -implicitDefEqProofs only [go_sem,h4,h5,e1,e2,J0,X2];refine JU (f:=aF) lG a [n.text] .exact aC h6 aC (by simp) (by simpa using e5) (fun v' gD H' g1 g2 g3 g4=> ?_);have k0:H'.obj o0=some [gH e]:=(g3.2 o0 h1 h7).trans h4;have k1:H'.obj o1=some [v]:=(g3.2 o1 h2 h8).trans h5;have n0: ¬o0∈gD:=fun hm=>by
     rcases g2 o0 hm with q|q
     · exact h7 q
     · omega
    have n1: ¬o1∈gD:=fun hm=>by
     rcases g2 o1 hm with q|q
     · exact h8 q
     · omega
    have g1':=g1;rcases g1 with⟨_,q,_⟩|⟨id,cap,junk,rfl,rfl,q1,q2,q3,q4⟩
    · simp at q
    · have hid:id≠o1:=fun e=>n1 (by rw [e];exact P0.2 rfl);simp -implicitDefEqProofs only [go_sem,dB,k1,R0];refine⟨K0 h1 g3.1,K0 h2 g3.1,h3,?_,_,[id],?_,g1'.put n1,n0,n1⟩
      · show(if o0=o1 then _ else H'.obj o0)=_
        rw [if_neg h3];exact k0
      · show(if o1=o1 then _ else H'.obj o1)=_
        rw [if_pos rfl]
end Go.VL
end
section
namespace Go.VL
open Go.Proofs Go.RowKit
section
variable {B:Nat->Prop} {G:Gh} {H:AH} {w w':World}
theorem HM.putRow (hM:HM B H G w) {id b:Nat} {cs cs':List PV} {arr:Array Value} {t:TypeId} (d:Array (List UInt8)) (n:Nat) (os:Array Obj) (ho:H.obj id=some cs) (hm:G.m id=some b) (hb:w.heap[b]? =some (.cells arr t (0,0)))
 (hV:Vs G H.next cs' (Sort.putCells encStr 0 d arr)):HM B (H.put id cs') G (Sort.grow (Sort.putRow encStr (Sort.ahead w n) b 0 d) os)/\Tr B w (Sort.grow (Sort.putRow encStr (Sort.ahead w n) b 0 d) os):=by
 obtain⟨h1,h2⟩:=hM.putObj ho hm hb hV;have hh:(Sort.putRow encStr (Sort.ahead w n) b 0 d).heap=(w.setRow b (Sort.putCells encStr 0 d arr)).heap:=by
  apply Array.ext_getElem?
  intro k;by_cases hk:k=b
  · subst hk;rw [setRow_heap w k arr _ t (0,0) hb];show(w.heap.modify k _)[k]? =_;rw [Array.getElem?_modify,if_pos rfl,hb];rfl
  · rw [setRow_other w b k _ hk];show(w.heap.modify b _)[k]? =_;rw [Array.getElem?_modify,if_neg (B3 hk)]
 have hB:Below (w.setRow b (Sort.putCells encStr 0 d arr)).heap.size (w.setRow b (Sort.putCells encStr 0 d arr)) (Sort.grow (Sort.putRow encStr (Sort.ahead w n) b 0 d) os):=by
  refine⟨rfl,rfl,rfl,?_,fun k hk=> ?_⟩
  · rw [Sort.size_grow,hh];exact tB _ _
  · rw [<-hh]at hk⊢;rw [Sort.heap_grow_old _ _ hk]
 exact⟨h1.below hB,(Tr.setRow h2 _).trans (Tr.below hB)⟩
theorem aCX {n:Nat} {s:List UInt8} {v:Value} (h:V G n (.str s) v):v= .string ⟨s.toArray⟩:=by cases h;rfl
theorem ar8 {n id off len cap sz:Nat} {v:Value} (h:V G n (.bP id off len cap sz) v): ∃b,id<n/\G.m id=some b/\v= .slice (some ⟨b,off,none⟩) len cap:=by
 cases h with
 |bP _ _ _ _ _ b h1 h2=>exact⟨b,h1,h2,rfl⟩
theorem FZ (l:List Str):(l.map aF).flatten=l.map PV.str:=by
 induction l with
 |nil=>rfl
 |cons s l ih=>rw [M3,A4,ih];rfl
theorem ZF {l:List Str} {junk:List PV} {arr:Array Value} {b:Nat} {t:TypeId} (hb:w.heap[b]? =some (.cells arr t (0,0))) (hV:Vs G H.next ((l.map aF).flatten++junk) arr):Sort.Holds encStr w b 0 l.toArray:=by
 intro j hj;have hj':j<l.length:=by simpa using hj
 have hlt:j<arr.size:=by rw [hV.1,X1,FZ,J1];omega
 have hv:=aCX (hV.2 j (.str l[j]) arr[j] (by rw [FZ,C0 (by simpa using hj')];simp [hj']) (by simp [hlt]));refine⟨?_,?_⟩
 · have:arr[j]? =some arr[j]:=by simp [hlt]
   simp only [World.cell?,hb,V1,this,hv];simp [encStr,hj']
 · simp [World.frozen?,hb]
theorem als {n:Nat} {l m:List Str} {junk:List PV} {arr:Array Value} (hl:m.length=l.length) (hV:Vs G n ((l.map aF).flatten++junk) arr):Vs G n ((m.map aF).flatten++junk) (Sort.putCells encStr 0 m.toArray arr):=by
 rw [FZ]at hV⊢;have hs:=hV.1;rw [X1,J1]at hs;refine⟨by simp [Sort.putCells,hs,hl],fun j c x hc hx=> ?_⟩;simp only [Sort.putCells,Array.getElem?_mapIdx,Z1]at hx;obtain⟨y,hy,rfl⟩:=hx;by_cases hj:j<m.length
 · rw [C0 (by simpa using hj)]at hc;simp [hj]at hc;subst hc;have h2:0<=j/\j<0+m.toArray.size:=by simpa using hj
   rw [if_pos h2];simp [encStr,hj];exact .str _
 · have h2: ¬(0<=j/\j<0+m.toArray.size):=by simp;omega
   rw [if_neg h2];rw [N0 (by simp;omega),J1,hl]at hc;refine hV.2 j c y ?_ hy;rw [N0 (by simp;omega),J1];exact hc
end
def Kh (l:List Str):List Str:=l.mergeSort fun x y=>decide (x<=y)
theorem azb {H:AH} {l:List Str} {v:PV} {ids:List Nat} (h:aB H aF 1 l v ids) (hl:l.length<4611686018427387904):aW Tryz.prog 243 [v] H fun _ H'=>aB H' aF 1 (Kh l) v ids/\HF ids H H'/\ ∀c,aR H c->aR H' c:=by
 refine⟨⟨_,Tryz.func243,rfl,by kernel_rfl⟩,fun B G w vs hU hM hv=> ?_⟩;obtain⟨u,rfl,hu⟩: ∃u,vs=#[u]/\V G H.next v u:=by
  obtain⟨h1,h2⟩:=hv
  match vs,h1,h2 with
  |⟨[u]⟩,_,h2=>exact⟨u,rfl,h2 0 v u rfl rfl⟩
 rcases h with⟨rfl,rfl,rfl⟩|⟨id,cap,junk,rfl,rfl,h2,h3,h4,h5⟩
 · rw [aa6 hu];refine(Tryz.slices_Sort_string_none none 0 w).mono ?_;rintro e w' ⟨rfl,rfl⟩;exact⟨.dn [],_,H,G,rfl,Tr.refl _ _,Ext.refl _ _ _,R0 _,hM,.dn [] #[] rfl (fun j c x e=>by simp at e),.inl ⟨rfl,by simp [Kh],rfl⟩,HF.refl _ _,fun _ h=>h⟩
 · obtain⟨b,_,hm,rfl⟩:=ar8 hu;obtain⟨_,b',arr,t,k1,k2,k3,k4,k5⟩:=hM.obj id _ h4;obtain rfl:b'=b:=by rw [hm]at k1;exact(V2 k1).symm
   have hlt:=hM.lt k3;refine(Tryz.slices_Sort_string b' 0 cap l w (ZF k3 k4) hlt hl).mono ?_;rintro e w' ⟨rfl,n,os,rfl⟩;have hlen:(Kh l).length=l.length:=List.length_mergeSort _;obtain⟨e1,e2⟩:=hM.putRow (cs':=((Kh l).map aF).flatten++junk) (Kh l).toArray n os h4 hm k3 (als hlen k4);refine⟨.dn [],_,H.put id (((Kh l).map aF).flatten++junk),G,rfl,e2,Ext.refl _ _ _,R0 _,e1,.dn [] #[] rfl (fun j c x e=>by simp at e),.inr ⟨id,cap,junk,rfl,by rw [hlen],by rw [hlen];exact h2,h3,?_,by rw [hlen];exact h5⟩,HF.put (.inl (P0.2 rfl)) (HF.refl _ _),fun c hc=>hc.put⟩;show(if id=id then some _ else _)=_;rw [if_pos rfl]
theorem ajb (l:List Str):(Lib.compact l).length<=l.length:=Lib.compact_length_le l
theorem ajc {H:AH} {l:List Str} {v:PV} {ids:List Nat} (h:aB H aF 1 l v ids) (hl:l.length<4611686018427387904):aW Tryz.prog 244 [v] H fun r H'=>aB H' aF 1 (Lib.compact l) r ids/\HF ids H H'/\ ∀c,aR H c->aR H' c:=by
 refine⟨⟨_,Tryz.func244,rfl,by kernel_rfl⟩,fun B G w vs hU hM hv=> ?_⟩;obtain⟨u,rfl,hu⟩: ∃u,vs=#[u]/\V G H.next v u:=by
  obtain⟨h1,h2⟩:=hv
  match vs,h1,h2 with
  |⟨[u]⟩,_,h2=>exact⟨u,rfl,h2 0 v u rfl rfl⟩
 rcases h with⟨rfl,rfl,rfl⟩|⟨id,cap,junk,rfl,rfl,h2,h3,h4,h5⟩
 · rw [aa6 hu];refine(Tryz.slices_Compact_string_empty none 0 w).mono ?_;rintro e w' ⟨rfl,rfl⟩;exact⟨.ah [] .nil,_,H,G,rfl,Tr.refl _ _,Ext.refl _ _ _,R0 _,hM,aa6 hu▸hu,.inl ⟨rfl,rfl,rfl⟩,HF.refl _ _,fun _ h=>h⟩
 · obtain⟨b,_,hm,rfl⟩:=ar8 hu;obtain⟨_,b',arr,t,k1,k2,k3,k4,k5⟩:=hM.obj id _ h4;obtain rfl:b'=b:=by rw [hm]at k1;exact(V2 k1).symm
   refine(Tryz.slices_Compact_string b' 0 cap l w (ZF k3 k4) (by omega) h2).mono ?_;rintro e w' ⟨rfl,q,rfl⟩;have hc:=ajb l;have hlen:(Lib.compact l++List.replicate (l.length -(Lib.compact l).length) []).length=l.length:=by rw [X1,D2];omega
   obtain⟨e1,e2⟩:=hM.putRow (cs':=((Lib.compact l++List.replicate (l.length -(Lib.compact l).length) []).map aF).flatten++junk) (Lib.compact l++List.replicate (l.length -(Lib.compact l).length) []).toArray q #[] h4 hm k3 (als hlen k4);rw [Sort.grow_empty]at e1 e2;refine⟨.bP id 0 (Lib.compact l).length cap 1,_,H.put id (((Lib.compact l++List.replicate (l.length -(Lib.compact l).length) []).map aF).flatten++junk),G,rfl,e2,Ext.refl _ _ _,R0 _,e1,.bP _ _ _ _ _ b' h3 hm,.inr ⟨id,cap,(List.replicate (l.length -(Lib.compact l).length) ([]:Str)).map PV.str++junk,rfl,rfl,by omega,h3,?_,?_⟩,HF.put (.inl (P0.2 rfl)) (HF.refl _ _),fun c hc=>hc.put⟩
   · show(if id=id then some _ else _)=_
     rw [if_pos rfl,FZ,A5,FZ,T1]
   · rw [X1,J1,D2,h5];omega
end Go.VL
end
section
namespace Go.VL
open Go.Proofs
def Ef (k:Nat) (e:List Nd):Option (List Str):=
 (Au (ES k e) e k (IntKind.wrap .i64 ((e.length:Int) -1)) [] []).bind fun out=>if out.length<4611686018427387904 then some (MR out)else none
theorem aoC (k:Nat) (e:List Nd) {c:Ck} {r:List Str} (h:Ef k e=some r):aG Tryz.prog 193 [.ah (e.map Nd.cells) c] (.ah (r.map aF) .unk):=by
 refine aG.wk (args:=[gH e]) ?_ (.ah .nil);refine aG.bX (dJ.mem (.cons (bK Nd.pu _) .nil)) (aL aBB (by simp) (aI ?_)) (bK gu _);unfold Ef at h;cases e1:Au (ES k e) e k (IntKind.wrap .i64 ((e.length:Int) -1)) [] []with
 |none=>rw [C9 e1]at h;cases h
 |some out=>
 rw [Da e1]at h;by_cases e2:out.length<4611686018427387904
 case neg=>rw [if_neg e2]at h;cases h
 rw [if_pos e2]at h;have h:=V2 h;subst h;unfold aqk;simp -implicitDefEqProofs only [go_sem];have hS:ar7 e (AH.empty.next) (AH.empty.next+1) [] ((AH.empty.new [gH e]).new [.ah [] .nil]):=by
  refine⟨(show 0<2 by omega),(show 1<2 by omega),by decide,rfl,.ah [] .nil,[],rfl,aB.nil,D0,D0⟩
 refine aW.mono (aW.wk (ay5 (aja k e _ _) e k _ [] [] out _ hS e1) (.same (.same (.ah (.same .nil))))) fun r H1 hS1=> ?_;obtain⟨h1,h2,h3,h4,v,ids,h5,h6,h7,h8⟩:=hS1;simp -implicitDefEqProofs only [go_sem,h5];refine aW.mono (azb h6 e2) fun r2 H2 ⟨g1,g2,g3⟩=> ?_;have h5':H2.obj (AH.empty.next+1)=some [v]:=(g2.2 _ h2 h8).trans h5;simp -implicitDefEqProofs only [go_sem,h5'];refine aW.mono (ajc g1 (by rw [show(Kh out).length=out.length from List.length_mergeSort _];exact e2)) fun r3 H3 ⟨f1,f2,f3⟩=> ?_;simp -implicitDefEqProofs only [go_sem];have hc:Lib.compact (Kh out)=MR out:=adr out;rw [<-hc];exact f1.fz gu
end Go.VL
end
section
namespace Go.VL
open Tm
def ady (e:List Nd) (R:Nat) (bd:List Str):Prop:= ∃P j,Ev (fun k=>qP k e (R:Int)) (P,j)/\ ∀out:List Str,out.length<=34*R->Ev (fun k=>qw k e out P j) (bd++out)
section
variable {t0:Tm} {e:List Nd} (he:e=flat 0 t0) (hL:oP e) (hF:BU e)
include he hL hF
theorem auv:ady e (t0.size -1) []:=by
 have hs:=t0.size_pos;refine⟨-1,0,Bt (ts:=[t0]) (by rw [zK];exact he) hL (by rw [he,bn];omega) ?_,fun out _=>Ev.succ ?_⟩
 · rw [Kc];cases t0 with
   |mk x cs=>
    rw [wu,show(Tm.mk x cs).size -1=(fI 0 ((0+sizes cs:Nat):Int) 0 cs).length by rw [eP];simp only [size];omega,List.getElem?_concat_length]
 · simp only [qw];exact Ev.cF (by rfl) Ev.some
theorem azc {b:Nat} {bd:List Str} {x:Nd} {l m:List Tm} {c:Tm} (hS:Seg e b (.mk x (l++c::m))) (hU:ady e (b+sizes (l++c::m)) bd):ady e (b+sizes l+c.size -1) (bd++Av (nd x b (l++c::m)) l.length):=by
 have hn:=hS.node;have hlt:=(S0.1 hn).1;have Eb:=hF.few _ _ hn;have hbl:=Py Eb.2 l.length;have hcp:=c.size_pos;have hsz:sizes (l++c::m)=sizes l+(c.size+sizes m):=by rw [dG,sizes]
 obtain⟨P,j,hP,hout⟩:=hU;have ha:(nd x b (l++c::m)).args[l.length]? =some ((b+sizes l+c.size -1:Nat):Int):=FX;obtain⟨r,h1,h2,h3⟩:=Uu 0 [t0] (b+sizes (l++c::m)) (nd x b (l++c::m)) l.length _ (by rw [zK,<-he];exact hn) ha;obtain rfl:r=b+sizes l+c.size -1:=by omega
 refine⟨_,_,Bt (ts:=[t0]) (by rw [zK];exact he) hL (by omega) h3,fun out ho=>Ev.succ ?_⟩;simp only [qw,V1];refine Ev.cT (g0 (by omega)) (Ev.jv (by omega) ?_);simp only [V0,hn,W0];rw [Ns (hF.ok _ _ hn) (by omega)];simp only [W0,R2,j0,V1];refine Ev.jv (by omega) (Ev.jv (by have:=hF.len;omega) (Ev.bind hP ((hout _ ?_).to ?_)))
 · rw [X1];omega
 · rw [T1]
mutual
theorem ZG: ∀(t:Tm) (b:Nat) (bd:List Str),Seg e b t->ady e (b+t.size -1) bd->bd.length+34*(b+t.size -1)<=10000-> ∀v∈vis b bd t,Ev (fun k=>zL k e (v.1:Int)) v.2/\v.2.length<=10000/\v.1<e.length
 | .mk x cs,b,bd,hS,hU,hb,v,hv=>by
  have hsz:b+(Tm.mk x cs).size -1=b+sizes cs:=by simp only [size];omega
  rw [hsz]at hb hU;rw [V3,M1]at hv;rcases hv with rfl|hv
  · refine⟨?_,(show bd.length<=10000 by omega),(S0.1 hS.node).1⟩;obtain⟨P,j,hP,hout⟩:=hU;unfold zL;refine Ev.bind hP (Ev.bind (hout [] (N3 _)) (Ev.some' ?_));rw [W3]
  · exact V9 cs x [] b bd hS hU (by simp only [R2];omega) v hv
theorem V9: ∀(cs:List Tm) (x:Nd) (l:List Tm) (b:Nat) (bd:List Str),Seg e b (.mk x (l++cs))->ady e (b+sizes (l++cs)) bd->bd.length+34*(b+sizes (l++cs))<=10000->
 ∀v∈ER (b+sizes l) bd (nd x b (l++cs)) l.length cs,Ev (fun k=>zL k e (v.1:Int)) v.2/\v.2.length<=10000/\v.1<e.length
 |[],x,l,b,bd,hS,hU,hb,v,hv=>by rw [ER]at hv;cases hv
 |c::cs,x,l,b,bd,hS,hU,hb,v,hv=>by
  have hn:=hS.node;have hbl:=Py (hF.few _ _ hn).2 l.length;have hcp:=c.size_pos;have hsz:sizes (l++c::cs)=sizes l+(c.size+sizes cs):=by rw [dG,sizes]
  rw [Kg,P2]at hv;rcases hv with hv|hv
  · exact ZG c _ _ hS.kid (azc he hL hF hS hU) (by rw [hsz]at hb;rw [X1];omega) v hv
  · have e1:l++c::cs=(l++[c])++cs:=by simp
    have e2:l.length+1=(l++[c]).length:=by simp
    have e3:b+sizes l+c.size=b+sizes (l++[c]):=by rw [dG,mR];omega
    rw [e1,e2,e3]at hv;rw [e1]at hS hU hb;exact V9 cs x (l++[c]) b bd hS hU hb v hv
end
end
mutual
theorem ag0: ∀(t:Tm) (b:Nat) (bd:List Str) (i:Nat),b<=i->i<b+t.size-> ∃q,(i,q)∈vis b bd t
 | .mk x cs,b,bd,i,h1,h2=>by
  rw [V3];by_cases h:i=b+sizes cs
  · exact⟨bd,by rw [h];exact A1⟩
  · simp only [size]at h2;obtain⟨q,hq⟩:=adz cs b bd (nd x b cs) 0 i h1 (by omega);exact⟨q,I1 _ hq⟩
theorem adz: ∀(cs:List Tm) (b:Nat) (bd:List Str) (n:Nd) (j:Nat) (i:Nat),b<=i->i<b+sizes cs-> ∃q,(i,q)∈ER b bd n j cs
 |[],b,bd,n,j,i,h1,h2=>by simp only [sizes]at h2;omega
 |c::cs,b,bd,n,j,i,h1,h2=>by
  rw [Kg];simp only [sizes]at h2;by_cases h:i<b+c.size
  · obtain⟨q,hq⟩:=ag0 c b (bd++Av n j) i h1 h;exact⟨q,N4 _ hq⟩
  · obtain⟨q,hq⟩:=adz cs (b+c.size) bd n (j+1) i (by omega) (by omega);exact⟨q,T5 _ hq⟩
end
mutual
theorem ag1: ∀(t:Tm) (b:Nat) (bd:List Str),(vis b bd t).length=t.size
 | .mk x cs,b,bd=>by rw [V3,I0,adA cs];rfl
theorem adA: ∀(cs:List Tm) (b:Nat) (bd:List Str) (n:Nd) (j:Nat),(ER b bd n j cs).length=sizes cs
 |[],b,bd,n,j=>by rw [ER];rfl
 |c::cs,b,bd,n,j=>by rw [Kg,X1,ag1 c,adA cs];rfl
end
def kK (n:Nd):Bool:=(decide (n.kind=2)&& !vV n.text)||(decide (n.kind=3)&& !(dF dW n.text).2)
theorem PE (n:Nd):Ev (fun k=>nR k n) (kK n):=by
 unfold nR kK;refine Ev.bind (yN n.text) ?_;rw [OV];by_cases h:n.kind=2
 · refine Ev.cT (by rw [h];rfl) ?_;simp only [h,D4,C1,W0];cases vV n.text
   · exact Ev.cF rfl (Ev.some' rfl)
   · exact Ev.cT rfl (Ev.cF (by rfl) (Ev.some' rfl))
 · refine Ev.cF (by rw [O0];exact h) ?_;simp only [h,L4,O3,Q4];by_cases h2:n.kind=3
   · exact Ev.cT (by rw [h2];rfl) (Ev.some' (by simp [h2]))
   · exact Ev.cF (by rw [O0];exact h2) (Ev.some' (by simp [h2]))
theorem Wh {n:Nd} (h0:bI true n=0) (hl:n.text.length<=1000000):Ev (fun k=>Ah k n) (kK n):=by
 unfold Ah kK;rw [Dy];by_cases h:n.kind=2
 · refine Ev.cT (by rw [h];rfl) ?_;simp only [h,D4,C1,W0];cases vV n.text
   · exact Ev.cF rfl (Ev.some' rfl)
   · exact Ev.cT rfl (Ev.cF (by rfl) (Ev.some' rfl))
 · refine Ev.cF (by rw [O0];exact h) ?_;simp only [h,L4,O3,Q4];by_cases h2:n.kind=3
   · refine Ev.cT (by rw [h2];rfl) (Ev.bind (Fb _ (by omega)) (Ev.some' ?_));rw [adh h0 h2];simp [h2]
   · exact Ev.cF (by rw [O0];exact h2) (Ev.some' (by simp [h2]))
def rH (e:List Nd) (v:Nat×List Str):Option Str:=match e[v.1]? with
 |some n=>if(kK n&& !decide (n.text∈v.2))=true then some n.text else none
 |none=>none
theorem adB {e:List Nd}: ∀(l:List (Nat×List Str)) (out:List Str),(∀v∈l,v.2.length<=10000/\v.1<e.length)->out.length+l.length<=10000->Ev (fun k=>Ea (ES k e) l out) (out++l.filterMap (rH e))
 |[],out,h,hb=>Ev.some' (by simp)
 |v::l,out,h,hb=>by
  obtain⟨h1,h2⟩:=h v A1;rw [I0]at hb;have ih:=fun o=>adB l o (fun w hw=>h w (I1 _ hw));have hf:rH e v=if(kK e[v.1]&& !decide (e[v.1].text∈v.2))=true then some e[v.1].text else none:=by unfold rH;rw [aP h2]
  simp only [Ea];refine Ev.bind (x:=out++(rH e v).toList) ?_ ?_
  · unfold ES;simp only [nn,A0,V0,aP h2,W0];refine Ev.bind (PE _) ?_;rw [hf];cases kK e[v.1]
    · exact Ev.cF rfl (Ev.some' (by simp))
    · refine Ev.cT rfl (Ev.bind (tK _ _ (by omega)) ?_);by_cases h3:e[v.1].text∈v.2
      · exact Ev.cT (g0 h3) (Ev.some' (by simp [h3]))
      · refine Ev.cF (B0 h3) (Ev.jv (by omega) (Ev.some' (by simp [h3])))
  · have hl:(rH e v).toList.length<=1:=by cases rH e v<;>simp
    refine(ih _ (by rw [X1];omega)).to ?_;rw [List.filterMap_cons,T1];cases rH e v<;>rfl
end Go.VL
end
section
namespace Go.VL
def KI (n:Nd):Bool:=decide (n.args.length<=34)&&decide (n.names.length<=34)&&decide (n.text.length<=80)&&n.names.all fun s=>decide (s.length<=80)
def yE (e:List Nd):Bool:=(e.take 172).all KI&&decide (e.length<=170)
theorem afQ {e:List Nd} {i:Nat} {n:Nd} (hn:e[i]? =some n) (hl:n.names.length<=34):Ev (fun k=>zh k e (i:Int) ((0:Nat):Int)) (if(n.names.drop 0).all (fun s=>decide (s.length<=80))=true then .inl ()else .inr false):=by
 refine eO (len:=n.names.length) (p:=fun j=>Ev (fun k=>zh k e (i:Int) (j:Int)) (if(n.names.drop j).all (fun s=>decide (s.length<=80))=true then .inl ()else .inr false)) ?_ fun j hj ih=> ?_
 · refine Ev.succ ?_;simp only [zh,V0,hn,W0,nn,A0];exact Ev.cF (eD _) (Ev.some' (by simp))
 · refine Ev.succ ?_;simp only [zh,V0,hn,aP hj,W0,nn,A0,fC hj,S1,bW hj (show n.names.length<=1099511627776 by omega)];rw [drop_cons hj];simp only [N5,z1,B2];by_cases h:n.names[j].length<=80
   · refine Ev.cF (B0 (by omega)) (ih.to ?_);simp only [h,T8]
   · refine Ev.cT (g0 (by omega)) (Ev.some' ?_);simp only [h,false_and,L2]
theorem QZ (i:Nat) (m:Nat):I4 (i:Int) (decide ((i:Int)<(m:Int)))=some (decide (i<m)&&decide (i<172)):=by
 unfold I4;by_cases h:i<m
 · rw [xR (g0 (by omega)),g0 h,C1];by_cases h2:i<172
   · rw [g0 h2,g0 (show(i:Int)<172 by omega)]
   · rw [B0 h2,B0 (show ¬(i:Int)<172 by omega)]
 · rw [qc (B0 (by omega)),B0 h,O3]
theorem Uy (e:List Nd):Ev (fun k=>JX k e) (yE e):=by
 have hlen:(e.take 172).length=min 172 e.length:=P3;have key:Ev (fun k=>zi k e ((0:Nat):Int)) (if((e.take 172).drop 0).all KI=true then .inl ()else .inr false):=by
  refine eO (len:=(e.take 172).length) (p:=fun i=>Ev (fun k=>zi k e (i:Int)) (if((e.take 172).drop i).all KI=true then .inl ()else .inr false)) ?_ fun i hi ih=> ?_
  · refine Ev.succ ?_;simp only [zi,QZ];refine Ev.iG rfl (Ev.cF ?_ (Ev.some' (by rw [wA];rfl)));rw [kB,E6,E6];omega
  · have hie:i<e.length:=by omega
    have azd:i<172:=by omega
    have hget:(e.take 172)[i]'hi=e[i]:=by simp
    refine Ev.succ ?_;simp only [zi,QZ,V0,aP hie,W0,nn,A0,g0 hie,g0 azd,Bool.and_self,S1];rw [drop_cons hi,hget,bW azd (by omega),N5];have hp:I5 e (i:Int) (decide ((e[i].args.length:Int)>34))=some (!(decide (e[i].args.length<=34)&&decide (e[i].names.length<=34)&&decide (e[i].text.length<=80))):=by
     unfold I5;simp only [V0,aP hie,W0,nn,A0];by_cases a:e[i].args.length<=34
     · rw [qc (B0 (by omega))];by_cases b:e[i].names.length<=34
       · rw [qc (B0 (by omega))];by_cases c:e[i].text.length<=80
         · rw [B0 (by omega)];simp [a,b,c]
         · rw [g0 (by omega)];simp [a,b,c]
       · rw [xR (g0 (by omega))];simp [a,b]
     · rw [xR (g0 (by omega))];simp [a]
    refine Ev.iG hp ?_;unfold KI;by_cases h3:(decide (e[i].args.length<=34)&&decide (e[i].names.length<=34)&&decide (e[i].text.length<=80))=true
    · rw [h3];simp only [z1,B2]at h3;have h0:=afQ (aP hie) h3.1.2;rw [P1]at h0;refine Ev.cF rfl (Ev.bind h0 ?_);cases h4:e[i].names.all fun s=>decide (s.length<=80)
      · simp only [I2,L2,fP];exact Ev.some' (by simp)
      · simp only [A0,eH,C1];exact ih
    · have h3:(decide (e[i].args.length<=34)&&decide (e[i].names.length<=34)&&decide (e[i].text.length<=80))=false:=by simpa using h3
      rw [h3];exact Ev.cT rfl (Ev.some' (by simp))
 unfold JX;refine Ev.bind key ?_;rw [P1];unfold yE;cases(e.take 172).all KI
 · simp only [I2,L2,fP,O3];exact Ev.some
 · simp only [A0,eH,C1];refine Ev.some' ?_;by_cases h:e.length<=170
   · rw [g0 h,g0 (show(e.length:Int)<=170 by omega)]
   · rw [B0 h,B0 (show ¬(e.length:Int)<=170 by omega)]
theorem LB {e:List Nd} (h:yE e=true):e.length<=170/\ ∀(i:Nat) n,e[i]? =some n->n.args.length<=34/\n.names.length<=34/\n.text.length<=80/\ ∀s∈n.names,s.length<=80:=by
 unfold yE at h;rw [z1,B2]at h;refine⟨h.2,fun i n hn=> ?_⟩;rw [I3 (by omega)]at h;have:=S3.1 h.1 n (B1 hn);unfold KI at this;simp only [z1,B2,S3]at this;exact⟨this.1.1.1,this.1.1.2,this.1.2,this.2⟩
theorem ET {e:List Nd} (h:yE e=true):oP e:=by
 obtain⟨h1,h2⟩:=LB h;exact⟨by omega,fun i n hn=>by have:=h2 i n hn;omega⟩
theorem adC {e:List Nd} (hL:oP e):Ev (fun k=>tX k e) e:=by
 have hlen:=hL.len;have key: ∀i,i<=e.length->Ev (fun k=>kJ k e (e.take i) (i:Int)) e:=by
  refine down ?_ fun i hi ih=> ?_
  · refine Ev.succ ?_;simp only [kJ];exact Ev.cF (eD _) (Ev.some' (by simp))
  · refine Ev.succ ?_;obtain⟨h1,h2,h3⟩:=hL.nd i _ (aP hi);have e1:jX e[i].names=some e[i].names:=by
     unfold jX;rw [if_pos (by simp;omega)];rfl
    have e2:rV e[i].args=some e[i].args:=by
     unfold rV;rw [if_pos (by simp;omega)];rfl
    have e3:((e.take i).length+1)*80<=1099511627776:=by rw [P3];omega
    simp only [kJ,V0,aP hi,W0,nn,A0,fC hi,S1,bW hi (show e.length<=1099511627776 by omega),e1,e2,if_pos e3];rw [<-M2 hi];exact ih
 unfold tX;exact Ev.bind (key 0 (N3 _)) Ev.some
end Go.VL
end
section
namespace Go.VL
open Tm
section
variable {e:List Nd} (hV:Valid e) (hL:oP e) (hF:BU e)
include hV hL hF
theorem ajd: ∃(vs:List (Nat×List Str)),(∀(α:Type) (step:α->Int->List Str->Option α) (k:Nat) (a:α),1000<=k->Au step e k (IntKind.wrap .i64 ((e.length:Int) -1)) [] a=Ea step vs a)/\
 (∀v∈vs,Ev (fun k=>zL k e (v.1:Int)) v.2/\v.2.length<=10000/\v.1<e.length)/\(∀i<e.length,∃q,(i,q)∈vs)/\vs.length=e.length/\0<e.length:=by
 obtain⟨t,he⟩:=hV.tree;have hlen:=hF.len;have hs:=t.size_pos;have hsz:e.length=t.size:=by rw [he,bn]
 have hS:Seg e 0 t:=by rw [he];exact Seg.whole t
 have hw:IntKind.wrap .i64 ((e.length:Int) -1)=((0+t.size -1:Nat):Int):=by rw [wrap64 (by omega) (by omega)];omega
 refine⟨vis 0 [] t,fun α step k a hk=> ?_,?_,fun i hi=>ag0 t 0 [] i (N3 _) (by omega),by rw [ag1,hsz],by omega⟩
 · rw [hw];exact adn hF step t 0 [] k a hS (by omega) (by simp only [j0];omega)
 · refine ZG he hL hF t 0 [] hS ?_ (by simp only [j0];omega);rw [V1];exact auv he hL hF
theorem alu: ∃r,Ev (fun k=>Ef k e) r/\Ev (fun k=>zM k e) r/\r.length<=1000:=by
 obtain⟨vs,hw,hvs,hall,hlen,hpos⟩:=ajd hV hL hF;have hl:=hF.len;have hfr:=adB (e:=e) vs [] (fun v hv=>(hvs v hv).2) (by simp only [j0];omega);rw [R2]at hfr;have hfl:(vs.filterMap (rH e)).length<=170:=E1 (List.length_filterMap_le _ _) (by omega);have h1:Ev (fun k=>Ef k e) (MR (vs.filterMap (rH e))):=by
  unfold Ef;refine Ev.bind (x:=vs.filterMap (rH e)) ?_ (Ev.jv (by omega) Ev.some);obtain⟨K,hK⟩:=hfr;exact⟨max K 1000,fun k hk=>(hw _ _ k _ (by omega)).trans (hK k (by omega))⟩
 have hsl: ∀(l a:List Str),(l.foldl (fun a s=>xG s a) a).length<=a.length+l.length:=by
  intro l
  induction l with
  |nil=>intro a;exact R0 _
  |cons s l ih=>
   intro a;rw [m6];have:=ih (xG s a);have:=ads s a;simp only [I0];omega
 refine⟨_,h1,?_,by have:=hsl (vs.filterMap (rH e)) [];unfold MR;simp only [j0]at this;omega⟩
 have key: ∀i,i<=e.length-> ∀out:List Str,out.length<=i->out.Pairwise (·< ·)-> ∃r,Ev (fun k=>jL k e out (i:Int)) r/\r.Pairwise (·< ·)/\ ∀y,y∈r↔y∈out\/ ∃v∈vs,i<=v.1/\rH e v=some y:=by
  refine down (fun out _ ha=> ?_) fun i hi ih out ho ha=> ?_
  · refine⟨out,Ev.succ ?_,ha,fun y=>⟨.inl,?_⟩⟩
    · simp only [jL];exact Ev.cF (eD _) (Ev.some' rfl)
    · rintro(h|⟨v,hv,h1,_⟩)
      · exact h
      · have:=(hvs v hv).2.2;omega
  · obtain⟨q,hq⟩:=hall i hi;have hu: ∀v∈vs,v.1=i->v.2=q:=by
     intro v hv hvi;have h2:=(hvs v hv).1;rw [hvi]at h2;exact h2.uniq (hvs _ hq).1
    have hfi:rH e (i,q)=if(kK e[i]&& !decide (e[i].text∈q))=true then some e[i].text else none:=by unfold rH;simp only [aP hi]
    have hstep: ∀(out':List Str),(∀y,y∈out'↔y∈out\/rH e (i,q)=some y)-> ∀y,(y∈out'\/ ∃v∈vs,i+1<=v.1/\rH e v=some y)↔(y∈out\/ ∃v∈vs,i<=v.1/\rH e v=some y):=by
     intro out' h y;rw [h y];constructor
     · rintro((h2|h2)|⟨v,hv,h2,h3⟩)
       · exact .inl h2
       · exact .inr ⟨_,hq,R0 _,h2⟩
       · exact .inr ⟨v,hv,by omega,h3⟩
     · rintro(h2|⟨v,hv,h2,h3⟩)
       · exact .inl (.inl h2)
       · by_cases h4:v.1=i
         · obtain⟨v1,v2⟩:=v;have h5:=hu _ hv h4;simp only at h4 h5;subst h4 h5;exact .inl (.inr h3)
         · exact .inr ⟨v,hv,by omega,h3⟩
    have hne: ∀r,Ev (fun k=>jL k e out ((i+1:Nat):Int)) r->rH e (i,q)=none->True:=fun _ _ _=>trivial;have hnm:=Wh (hF.ok i _ (aP hi)) (by have:=(hL.nd i _ (aP hi)).1;omega);have hbd:=(hvs _ hq).1;by_cases h2:kK e[i]=true
    · by_cases h3:e[i].text∈q
      · obtain⟨r,h4,h5,h6⟩:=ih out (by omega) ha;refine⟨r,Ev.succ ?_,h5,fun y=>(h6 y).trans (hstep out (fun y=> ?_) y)⟩
        · simp only [jL,V0,aP hi,W0,nn,A0,fC hi,S1,bW hi (show e.length<=1099511627776 by omega)];refine Ev.bind hnm (Ev.cT h2 (Ev.bind hbd (Ev.bind (qR _ _ (show q.length<=1099511627776 by have:=(hvs _ hq).2.1;simp only at this;omega)) (Ev.cT (g0 h3) h4))))
        · rw [hfi,h2];simp [h3]
      · obtain⟨r,h4,h5,h6⟩:=ih (xG e[i].text out) (by have:=ads e[i].text out;omega) (Uw ha);refine⟨r,Ev.succ ?_,h5,fun y=>(h6 y).trans (hstep _ (fun y=> ?_) y)⟩
        · simp only [jL,V0,aP hi,W0,nn,A0,fC hi,S1,bW hi (show e.length<=1099511627776 by omega)];refine Ev.bind hnm (Ev.cT h2 (Ev.bind hbd (Ev.bind (qR _ _ (show q.length<=1099511627776 by have:=(hvs _ hq).2.1;simp only at this;omega)) (Ev.cF (B0 h3) (Ev.bind (aoz _ _ (by omega)) h4)))))
        · rw [MS,hfi,h2];simp [h3];constructor
          · rintro(rfl|h)
            · exact .inr rfl
            · exact .inl h
          · rintro(h|rfl)
            · exact .inr h
            · exact .inl rfl
    · have h2:kK e[i]=false:=by simpa using h2
      obtain⟨r,h4,h5,h6⟩:=ih out (by omega) ha;refine⟨r,Ev.succ ?_,h5,fun y=>(h6 y).trans (hstep out (fun y=> ?_) y)⟩
      · simp only [jL,V0,aP hi,W0,nn,A0,fC hi,S1,bW hi (show e.length<=1099511627776 by omega)];exact Ev.bind hnm (Ev.cF h2 h4)
      · rw [hfi,h2];simp
 obtain⟨r,h4,h5,h6⟩:=key 0 (N3 _) [] (R0 _) List.Pairwise.nil;have:MR (vs.filterMap (rH e))=r:=by
  refine adq (ado _) h5 fun y=> ?_;rw [adp,h6 y,List.mem_filterMap];simp only [D0,false_or,N3,T8]
 rw [this];unfold zM;exact Ev.bind h4 Ev.some
end
theorem adD {e:List Nd} (h:yE e=true) (hV:Valid e):BU e:=⟨(LB h).1,hV.ok,fun i n hn=>⟨((LB h).2 i n hn).1,((LB h).2 i n hn).2.1⟩⟩
def aoD (e:List Nd) (i:Nat):Int×Int:=match Gp (i:Int) (e.drop (i+1)) (i+1)with
 |some q=>((q.1:Int),(q.2:Int))
 |none=>(-1,0)
def Uz (e:List Nd):List (Int×Int):=(List.range e.length).map (aoD e)
theorem aaI {e:List Nd} (hL:oP e) {i:Nat} (hi:i<e.length):Ev (fun k=>qP k e (i:Int)) (aoD e i):=by
 have hlen:=hL.len;unfold qP aoD;rw [bW hi (by omega)];refine Ev.bind (Lu hL (i:Int) (i+1) (by omega)) ?_;cases Gp (i:Int) (e.drop (i+1)) (i+1)with
 |some q=>obtain⟨k',j'⟩:=q;simp only [fP];exact Ev.some
 |none=>simp only [eH];exact Ev.some
theorem Yw {ts:List Tm} {e:List Nd} (he:e=aV 0 ts) (hL:oP e):bH 0 ts=Uz e:=by
 have hl:(bH 0 ts).length=e.length:=by rw [wQ,<-dz 0 ts,<-he]
 refine List.ext_getElem? fun i=> ?_;by_cases hi:i<e.length
 · obtain⟨P,j,hU⟩: ∃P j,(bH 0 ts)[i]? =some (P,j):=⟨_,_,aP (by omega)⟩;rw [hU,(Bt he hL hi hU).uniq (aaI hL hi)];simp [Uz,hi]
 · rw [R1 (by omega),R1 (by simp [Uz];omega)]
def chk (e:List Nd):Int×Int:=if e.length=0 then(0,1)else if 160<e.length then(0,2)else match jy [] e with
 | .inr p=>p
 | .inl acc=>match Aq e (Uz e) e.length 0 with
  |some j=>((j:Int),30)
  |none=>if acc[e.length -1]?.getD 0=0 then(0,0)else(((e.length -1:Nat):Int),15)
theorem Q0 {e:List Nd} (hL:oP e):Ev (fun k=>iA k e) (chk e):=by
 have hlen:=hL.len;unfold chk;by_cases h0:e.length=0
 · rw [if_pos h0];unfold iA;simp only [uo,W0,h0];refine Ev.bind (Ap _ (by simp)) ?_;exact Ev.cT (by rfl) Ev.some
 rw [if_neg h0];by_cases h1:160<e.length
 · rw [if_pos h1];unfold iA;have a:((e.length:Int)==0)=false:=by rw [O0];omega
   have b:decide ((e.length:Int)>160)=true:=g0 (by omega);simp only [uo,W0,a,b];refine Ev.bind (Ap _ (by simp)) ?_;exact Ev.cT (by rfl) Ev.some
 rw [if_neg h1];have a:((e.length:Int)==0)=false:=by rw [O0];omega
 have b:decide ((e.length:Int)>160)=false:=B0 (by omega);have st:=Gx hL 0 (N3 _) [] (sJ.zero e);rw [P1]at st;have Jf: ∀r,Ev (fun k=>Option.bind (jJ k e ([]:List Int) (e.length:Int) ((0:Nat):Int)) (fun o=>Sum.elim (fun p40=>(zy k e).bind fun p51=>Option.bind (jK k e p51.1 p51.2 (e.length:Int) ((0:Nat):Int)) (fun o=>Sum.elim (fun p58=>if 0<=(IntKind.wrap .i64 ((e.length:Int) -1))then (p40[(IntKind.wrap .i64 ((e.length:Int) -1)).toNat]?).bind fun x65=>cond (x65 !=0) (some ((IntKind.wrap .i64 ((e.length:Int) -1)),15)) (some (0,0))else none) (fun p74=>some (p74.1,p74.2)) o)) (fun yK=>some (yK.1,yK.2)) o)) r->Ev (fun k=>iA k e) r:=by
  intro r hr;unfold iA;simp only [uo,W0,a,b];refine Ev.bind (Ap _ (by simp)) ?_;exact Ev.cF (by rfl) hr
 cases hs:jy [] e with
 |inr p=>
  rw [hs]at st;refine Jf _ (Ev.bind st ?_);simp only [fP];exact Ev.some
 |inl acc=>
  rw [hs]at st;obtain⟨ts,he,hacc,hpar⟩:=Pw hL hs;have lt:=Gy he hL 0 (N3 _);have hU:=Yw he hL;rw [hU]at hpar;rw [hU,Nat.sub_zero]at lt;simp only;cases hl:Aq e (Uz e) e.length 0 with
  |some j=>
   rw [hl]at lt;refine Jf _ (Ev.bind st ?_);simp only [eH];refine Ev.bind hpar (Ev.bind lt ?_);simp only [fP];exact Ev.some
  |none=>
   rw [hl]at lt;have hal:acc.length=e.length:=by rw [hacc,vv,he,dz]
   have h4:acc[e.length -1]? =some acc[e.length -1]:=aP (by omega);have hw:IntKind.wrap .i64 ((e.length:Int) -1)=((e.length -1:Nat):Int):=by rw [wrap64 (by omega) (by omega)];omega
   refine Jf _ (Ev.bind st ?_);simp only [eH];refine Ev.bind hpar (Ev.bind lt ?_);simp only [eH,hw,V0,h4,W0,nn,A0,E2];by_cases hb:acc[e.length -1]=0
   · exact Ev.cF (by rw [hb];rfl) (Ev.some' (by simp [hb]))
   · exact Ev.cT (by rw [S5];exact hb) (Ev.some' (by simp [hb]))
theorem Yx (a b:List Int) (hl:a.length<=1099511627776):Ev (fun k=>Bf k a b) (decide (a=b)):=by
 unfold Bf;by_cases hab:a.length=b.length
 · refine Ev.cF (by simp [hab]) ?_;have key:Ev (fun k=>mJ k a b ((0:Nat):Int)) (if a.drop 0=b.drop 0 then .inl ()else .inr false):=by
    refine eO (len:=a.length) (p:=fun i=>Ev (fun k=>mJ k a b (i:Int)) (if a.drop i=b.drop i then .inl ()else .inr false)) ?_ fun i hi ih=> ?_
    · refine Ev.succ ?_;simp only [mJ];refine Ev.cF (eD _) (Ev.some' ?_);simp [hab]
    · have hi':i<b.length:=hab▸hi;refine Ev.succ ?_;simp only [mJ,V0,aP hi,aP hi',W0,nn,A0,fC hi,S1,bW hi hl];have e1:List.drop i a=a[i]::List.drop (i+1) a:=N1 hi;have e2:List.drop i b=b[i]::List.drop (i+1) b:=N1 hi';by_cases h:a[i]=b[i]
      · refine Ev.cF (by rw [bne_eq_false_iff_eq];exact h) (ih.to ?_);rw [e1,e2];simp only [h,S7,T8]
      · refine Ev.cT (by rw [S5];exact h) (Ev.some' ?_);rw [if_neg];intro e;rw [e1,e2,S7]at e;exact h e.1
   refine Ev.bind key ?_;by_cases h:a=b
   · subst h;simp only [A0,eH,D4];exact Ev.some
   · simp only [P1,h,L2,fP,L4];exact Ev.some
 · refine Ev.cT (by simp;omega) (Ev.some' ?_);exact(B0 fun e=>hab (by rw [e])).symm
theorem aaJ (x y:Nd) (h1:x.names.length<=1000000) (h2:x.args.length<=1000000):Ev (fun k=>Dv k x y) (decide (x=y)):=by
 unfold Dv;obtain⟨k1,n1,t1,m1,a1⟩:=x;obtain⟨k2,n2,t2,m2,a2⟩:=y;simp only at h1 h2;simp only [Nd.mk.injEq];by_cases e1:k1=k2
 · refine Ev.cT (by rw [E3];exact e1) ?_;by_cases e2:n1=n2
   · refine Ev.cT (by rw [E3];exact e2) ?_;by_cases e3:t1=t2
     · refine Ev.cT (by rw [E3];exact e3) (Ev.bind (VJ m1 m2 (by omega)) ?_);by_cases e4:m1=m2
       · refine Ev.cT (g0 e4) (Ev.bind (Yx a1 a2 (by omega)) (Ev.some' ?_));simp [e1,e2,e3,e4]
       · exact Ev.cF (B0 e4) (Ev.some' (by simp [e4]))
     · exact Ev.cF (by rw [O0];exact e3) (Ev.some' (by simp [e3]))
   · exact Ev.cF (by rw [O0];exact e2) (Ev.some' (by simp [e2]))
 · exact Ev.cF (by rw [O0];exact e1) (Ev.some' (by simp [e1]))
theorem aaK {a b:List Nd} (hL:oP a):Ev (fun k=>Ag k a b) (decide (a=b)):=by
 have hl:=hL.len;unfold Ag;by_cases hab:a.length=b.length
 · refine Ev.cF (by simp [hab]) ?_;have key:Ev (fun k=>nQ k a b ((0:Nat):Int)) (if a.drop 0=b.drop 0 then .inl ()else .inr false):=by
    refine eO (len:=a.length) (p:=fun i=>Ev (fun k=>nQ k a b (i:Int)) (if a.drop i=b.drop i then .inl ()else .inr false)) ?_ fun i hi ih=> ?_
    · refine Ev.succ ?_;simp only [nQ];refine Ev.cF (eD _) (Ev.some' ?_);simp [hab]
    · have hi':i<b.length:=hab▸hi;refine Ev.succ ?_;obtain⟨_,h2,h3⟩:=hL.nd i _ (aP hi);simp only [nQ,V0,aP hi,aP hi',W0,nn,A0,fC hi,S1,bW hi (show a.length<=1099511627776 by omega)];have e1:List.drop i a=a[i]::List.drop (i+1) a:=N1 hi;have e2:List.drop i b=b[i]::List.drop (i+1) b:=N1 hi';refine Ev.bind (aaJ _ _ h2 h3) ?_;by_cases h:a[i]=b[i]
      · refine Ev.cT (g0 h) (ih.to ?_);rw [e1,e2];simp only [h,S7,T8]
      · refine Ev.cF (B0 h) (Ev.some' ?_);rw [if_neg];intro e;rw [e1,e2,S7]at e;exact h e.1
   refine Ev.bind key ?_;by_cases h:a=b
   · subst h;simp only [A0,eH,D4];exact Ev.some
   · simp only [P1,h,L2,fP,L4];exact Ev.some
 · refine Ev.cT (by simp;omega) (Ev.some' ?_);exact(B0 fun e=>hab (by rw [e])).symm
theorem adF {α:Type} [DecidableEq α]: ∀{l m:List α},l.Nodup->(∀x∈l,x∈m)->l.length<=m.length
 |[],m,_,_=>N3 _
 |x::l,m,hd,hs=>by
  have hx:=hs x A1;obtain⟨h1,h2⟩:=lA.1 hd;have ih:=adF (l:=l) (m:=m.erase x) h2 fun y hy=>by
   have hne:y≠x:=fun e=>h1 (e▸hy);exact(List.mem_erase_of_ne hne).2 (hs y (I1 _ hy))
  have hl:=List.length_erase_of_mem hx;have:=List.length_pos_of_mem hx;simp only [I0];omega
end Go.VL
end
section
namespace Go.VL
def dval (s:Str):Nat:=s.foldl (fun a c=>a*10+(c.toNat -48)) 0
theorem Yy {d:Nat} (h:d<10):(UInt8.ofNat (48+d)).toNat=48+d:=by
 rw [UInt8.toNat_ofNat'];omega
theorem UA: ∀(m u:Nat),u<=m->dval (Lib.decDigits u)=u
 |0,u,h=>by
  have:u=0:=by omega
  subst this;rw [Lib.decDigits,dif_pos (by omega)];simp only [dval,m6,BC,Yy (show 0<10 by omega)]
 |m+1,u,h=>by
  rw [Lib.decDigits];split
  · rename_i h1;simp only [dval,m6,BC,Yy h1];omega
  · have:=UA m (u/10) (by omega);unfold dval at this⊢;rw [List.foldl_append,this];simp only [m6,BC,Yy (show u% 10<10 by omega)];omega
theorem auw {u v:Nat} (h:Lib.decDigits u=Lib.decDigits v):u=v:=by
 rw [<-UA u u (R0 _),<-UA v v (R0 _),h]
theorem adG (u:Nat):Lib.itoa (u:Int)=Lib.decDigits u:=by unfold Lib.itoa;rw [if_neg (by omega)];simp
def bN (n:Nat):Str:=OU (n:Int)
theorem Wi (n:Nat):bN n=98::95::Lib.decDigits n:=by unfold bN OU;rw [adG]
theorem alv {u v:Nat} (h:bN u=bN v):u=v:=by
 rw [Wi,Wi]at h;exact auw (gC (gC h).2).2
theorem Ki: ∀(k u:Nat),u<10^(k+1)->(Lib.decDigits u).length<=k+1
 |0,u,h=>by rw [Lib.decDigits,dif_pos (by simpa using h)];simp
 |k+1,u,h=>by
  rw [Lib.decDigits];split
  · simp
  · have:=Ki k (u/10) (by rw [Nat.pow_succ]at h;omega);simp;omega
theorem aze {n:Nat} (h:n<10000):(bN n).length<=6:=by
 rw [Wi];have:=Ki 3 n (by simpa using h);simp;omega
def cnt (left:List Str) (c:Nat):Nat:=((List.range c).filter fun j=>decide (bN (j+1)∈left)).length
theorem EU (left:List Str) (c:Nat):cnt left (c+1)=cnt left c+if bN (c+1)∈left then 1 else 0:=by
 unfold cnt;rw [List.range_succ,List.filter_append,X1];by_cases h:bN (c+1)∈left<;>simp [h]
theorem Wj (left:List Str) (c:Nat):cnt left c<=left.length:=by
 unfold cnt;have hn:(((List.range c).filter fun j=>decide (bN (j+1)∈left)).map fun j=>bN (j+1)).Nodup:=by
  refine List.Pairwise.map _ ?_ (List.Pairwise.filter _ List.nodup_range);intro a b hab h;exact hab (by have:=alv h;omega)
 have:=adF hn (m:=left) (fun x hx=>by
  obtain⟨j,hj,rfl⟩:=G3.1 hx;simpa using (i6.1 hj).2)
 rwa [J1]at this
def F3 (left:List Str):Nat->Nat->Nat
 |0,c=>c+1
 |f+1,c=>if bN (c+1)∈left then F3 left f (c+1)else c+1
def xJ (left:List Str) (c:Nat):Nat:=F3 left left.length c
theorem adH (left:List Str): ∀(f c:Nat),left.length<=f+cnt left c->bN (F3 left f c)∉left/\c<F3 left f c/\F3 left f c+cnt left c=c+1+cnt left (F3 left f c)
 |0,c,h=>by
  have h1:=EU left c;have h2:=Wj left (c+1);have hn:bN (c+1)∉left:=fun hm=>by rw [if_pos hm]at h1;omega
  rw [if_neg hn]at h1;refine⟨hn,by unfold F3;omega,?_⟩;unfold F3;omega
 |f+1,c,h=>by
  have h1:=EU left c;rw [F3];by_cases hm:bN (c+1)∈left
  · rw [if_pos hm]at h1⊢;obtain⟨a,b,d⟩:=adH left f (c+1) (by omega);exact⟨a,by omega,by omega⟩
  · rw [if_neg hm]at h1⊢;exact⟨hm,by omega,by omega⟩
theorem F4 (left:List Str) (c:Nat):bN (xJ left c)∉left/\c<xJ left c/\xJ left c+cnt left c=c+1+cnt left (xJ left c):=adH left _ c (by omega)
def ni (left:List Str):Nat->Nat->List Str×Nat
 |0,c=>([],c)
 |m+1,c=>(bN (xJ left c)::(ni left m (xJ left c)).1,(ni left m (xJ left c)).2)
theorem ZH (left:List Str): ∀m c,(ni left m c).1.length=m
 |0,_=>rfl
 |m+1,c=>by rw [ni,I0,ZH left m]
theorem ZI (left:List Str): ∀m c,(ni left m c).2+cnt left c=c+m+cnt left (ni left m c).2
 |0,c=>by simp only [ni];omega
 |m+1,c=>by
  have h1:=(F4 left c).2.2;have h2:=ZI left m (xJ left c);simp only [ni];omega
theorem Jm (left:List Str): ∀m c,c<=(ni left m c).2
 |0,c=>R0 _
 |m+1,c=>by
  have h1:=(F4 left c).2.1;have h2:=Jm left m (xJ left c);simp only [ni];omega
theorem PG (left:List Str): ∀m c s,s∈(ni left m c).1->s∉left/\ ∃n,s=bN n/\c<n/\n<=(ni left m c).2
 |0,c,s,h=>by cases h
 |m+1,c,s,h=>by
  obtain⟨h1,h2,_⟩:=F4 left c;have h3:=Jm left m (xJ left c);simp only [ni]at h⊢;rcases M1.1 h with rfl|h
  · exact⟨h1,_,rfl,h2,h3⟩
  · obtain⟨a,n,rfl,b,d⟩:=PG left m (xJ left c) s h;exact⟨a,n,rfl,by omega,d⟩
theorem Q5 (left:List Str): ∀m c,(ni left m c).1.Nodup
 |0,c=>List.Pairwise.nil
 |m+1,c=>by
  simp only [ni];refine lA.2 ⟨fun h=> ?_,Q5 left m _⟩;obtain⟨_,n,e,h1,_⟩:=PG left m _ _ h;have:=alv e;omega
theorem alx:(List.range 10).all (fun d=>decide ((([48,49,50,51,52,53,54,55,56,57]:Str).take (d+1)).drop d=[UInt8.ofNat (48+d)]))=true:=by kernel_rfl
theorem adI: ∀(m u:Nat) (s:Str),u<m->u<=10000->s.length+u<=1000000->Ev (fun k=>Cr k (u:Int) s) (Lib.decDigits u++s):=by
 intro m
 induction m with
 |zero=>intro u s h1;omega
 |succ m ih=>
  intro u s h1 h2 h3;have e0:((u:Int)).tmod 10=((u% 10:Nat):Int):=by rw [Int.tmod_eq_emod_of_nonneg (by omega)];omega
  have e1:((u:Int)).tdiv 10=((u/10:Nat):Int):=by rw [Int.tdiv_eq_ediv_of_nonneg (by omega)];omega
  have e2:VI ((u% 10:Nat):Int)=some ((u% 10:Nat):Int):=by
   unfold VI;rw [B0 (by omega)];rfl
  have e3:IntKind.wrap .i64 (((u% 10:Nat):Int)+1)=((u% 10+1:Nat):Int):=by rw [wrap64 (by omega) (by omega)];omega
  have e4:IntKind.wrap .i64 ((u/10:Nat):Int)=((u/10:Nat):Int):=wrap64 (by omega) (by omega);have hd:=W5 (S3.1 alx (u% 10) (B5.2 (by omega)));refine Ev.succ ?_;simp only [Cr,e0,e1,e2,e3,e4,W0,V0,hd];refine Ev.jv (by omega) (Ev.jv (by simp;omega) ?_);rw [Lib.decDigits];by_cases hu:u<10
  · rw [dif_pos hu];refine Ev.cT (by rw [E3];omega) (Ev.some' ?_);rw [show u% 10=u by omega]
  · rw [dif_neg hu];refine Ev.cF (by rw [O0];omega) ?_;refine(ih (u/10) _ (by omega) (by omega) (by simp;omega)).to ?_;simp
theorem aly {n:Int} (h:0<=n/\n<=10000):Ev (fun k=>FR k n) (Lib.itoa n):=by
 obtain⟨u,rfl⟩: ∃u:Nat,n=(u:Int):=⟨n.toNat,by omega⟩;unfold FR Lib.itoa;refine Ev.bind (adI (u+1) u [] (by omega) (by omega) (by simp;omega)) (Ev.cF (B0 (by omega)) (Ev.some' ?_));rw [if_neg (by omega)];simp
end Go.VL
end
section
set_option maxHeartbeats 4000000
namespace Go.VL
open Go.Proofs
def rY:Nat->(List Nd)->Int->Int->Int->Int->Str->(List Str)->(List Int)->Int->Option ((Int×Int×Str×(List Str)×(List Int)))
 |0,_,_,_,_,_,_,_,_,_=>none
 |k+1,au,cZ,iH,Kj,Kk,Kl,Km,Fu,AY=>
  if 0<=iH then (au[iH.toNat]?).bind fun x10=>cond (decide (AY<(x10.args.length:Int))) (if 0<=AY then (x10.args[AY.toNat]?).bind fun x14=>if(Fu.length+1)*8<=1099511627776 then rY k au cZ iH Kj Kk Kl Km (Fu++[(IntKind.wrap .i64 (x14 -cZ))]) (IntKind.wrap .i64 (AY+1))else none else none) (some ((Kj,Kk,Kl,Km,Fu)))else none
def Wm:List Nat:=[9]++List.range' 28 25
theorem afR: ∀(k:Nat) (Eh:Nat) (au:List Nd) (cZ:Int) (iH:Int) (Kj:Int) (Kk:Int) (Kl:Str) (Km:List Str) (Fu:List Int) (AY:Int) (xK:Ck) (mU:Ck) (aH σ:Nat->PV) (H0 H:AH) (f0:Fr Wm aH σ) (hf0:HF [Eh] H0 H) (sl:σ 0=(.ah (au.map Nd.cells) .unk)/\σ 5=(.int .i64 cZ)/\σ 7=(.int .i64 iH)/\σ 8=(.ref (Eh) 0)/\σ 9=(.int .i64 AY)/\H.obj Eh=some [(.int .i64 Kj),(.int .i64 Kk),(.str Kl),(.ah (Km.map aF) .unk),(.ah (Fu.map aK) xK)]) (Qr:Eh<H.next) (adJ:aR H xK) (Ed:aR H mU) (wz:ku xK mU) (o:(Int×Int×Str×(List Str)×(List Int))) (h:rY k au cZ iH Kj Kk Kl Km Fu AY=some o) (Q:Post) (q0: ∀(p:Int×Int×Str×(List Str)×(List Int)) (c4:Ck) (σ':Nat->PV) (H':AH),o=p->Fr Wm aH σ'->HF [Eh] H0 H'->(H'.obj Eh=some [(.int .i64 p.1),(.int .i64 p.2.1),(.str p.2.2.1),(.ah (p.2.2.2.1.map aF) .unk),(.ah (p.2.2.2.2.map aK) c4)])->aR H' mU->Q (.exit 2) σ' H'),W Tryz.prog (.loop Sg) Q σ H:=by
 intro k
 induction k with
 |zero=>intro Eh au cZ iH Kj Kk Kl Km Fu AY xK mU aH σ H0 H f0 hf0 sl Qr adJ Ed wz o h Q q0;simp only [rY,reduceCtorEq]at h
 |succ k ih=>
  intro Eh au cZ iH Kj Kk Kl Km Fu AY xK mU aH σ H0 H f0 hf0 sl Qr adJ Ed wz o h Q q0;obtain⟨s0,s5,s7,s8,s9,aHY⟩:=sl;have aHZ:=ne_next Qr;have aH0:=bA Qr;have hle0:=hf0.1;unfold rY at h;refine bB (fun K hK=>aI ?_);unfold Sg;obtain⟨e9,h⟩:=aX h;obtain⟨x10,e11,h⟩:=aj h;obtain⟨e12,h⟩|⟨e12,h⟩:=aJ h
  ·refine ak ?_;refine oH ?_;obtain⟨e13,h⟩:=aX h;obtain⟨x14,e15,h⟩:=aj h;obtain⟨e20,h⟩:=aX h;refine ak ?_;refine gI (f:=aK) tJ Fu ([(IntKind.wrap .i64 (x14 -cZ))]:List Int) xK .exact aA aA eG (by first|exact e20|(simp only [I0,j0];exact e20)) (fun c16 H17 awi le aG9 aHa=> ?_);have aMq:HF [] _ H17:=⟨le,fun i _ _=>aG9 i⟩;try simp only [AH.aN,AH.aO,AH.aS,AH.aT]at le
   obtain⟨awl,aHb⟩:=aHa mU eG wz;have n25:=ne_next (show Eh<H17.next from aY);have m26:=bA (show Eh<H17.next from aY);refine ak ?_;refine hK _ _ ?_;exact ih Eh au cZ iH Kj Kk Kl Km (Fu++[(IntKind.wrap .i64 (x14 -cZ))]) (IntKind.wrap .i64 (AY+1)) c16 mU _ _ _ _ bG II aA aY eG eG aHb _ h _ q0
  ·cases h;refine ak ?_;exact q0 _ xK _ _ rfl bG yH aA eG
def uF:Nat->(List Nd)->Int->Int->(List Nd)->Int->Option (List Nd)
 |0,_,_,_,_,_=>none
 |k+1,au,dx,cZ,nJ,iH=>
  cond (decide (iH<=dx)) (if 0<=iH then (au[iH.toNat]?).bind fun x5=>(jX x5.names).bind fun p8=>Option.bind (rY k au cZ iH x5.kind x5.n x5.text p8 ([]:List Int) 0) (fun p29=>if(nJ.length+1)*80<=1099511627776 then uF k au dx cZ (nJ++[(Nd.mk p29.1 p29.2.1 p29.2.2.1 p29.2.2.2.1 p29.2.2.2.2)]) (IntKind.wrap .i64 (iH+1))else none)else none) (some (nJ))
def Wn:List Nat:=[6,7,8,9]++List.range' 14 43
theorem afS: ∀(k:Nat) (au:List Nd) (dx:Int) (cZ:Int) (nJ:List Nd) (iH:Int) (uG:Ck) (aH σ:Nat->PV) (H0 H:AH) (f0:Fr Wn aH σ) (hf0:HF [] H0 H) (sl:σ 0=(.ah (au.map Nd.cells) .unk)/\σ 1=(.int .i64 dx)/\σ 5=(.int .i64 cZ)/\σ 6=(.ah (nJ.map Nd.cells) uG)/\σ 7=(.int .i64 iH)) (Jo:aR H uG) (o:List Nd) (h:uF k au dx cZ nJ iH=some o) (Q:Post) (q0: ∀(p:List Nd) (c0:Ck) (σ':Nat->PV) (H':AH),o=p->Fr Wn aH σ'->HF [] H0 H'->(σ' 6=(.ah (p.map Nd.cells) c0))->Q (.exit 0) σ' H'),W Tryz.prog (.loop Si) Q σ H:=by
 intro k
 induction k with
 |zero=>intro au dx cZ nJ iH uG aH σ H0 H f0 hf0 sl Jo o h Q q0;simp only [uF,reduceCtorEq]at h
 |succ k ih=>
  intro au dx cZ nJ iH uG aH σ H0 H f0 hf0 sl Jo o h Q q0;obtain⟨s0,s1,s5,s6,s7⟩:=sl;have hle0:=hf0.1;unfold uF at h;refine bB (fun K hK=>aI ?_);unfold Si;obtain⟨e3,h⟩|⟨e3,h⟩:=aJ h
  ·obtain⟨e4,h⟩:=aX h;obtain⟨x5,e6,h⟩:=aj h;obtain⟨p8,e7,h⟩:=aj h;refine ak ?_;refine av (Dt e7) ?_;refine ak ?_;obtain⟨o27,h28,h⟩:=aj h;refine afR k (H.next) au cZ iH x5.kind x5.n x5.text p8 ([]:List Int) 0 .nil uG _ _ _ _ (Fr.refl _ _) (HF.refl _ _) aA aY eG eG ku.nil _ h28 _ ?_
   ·rintro p29 c33 σ' Wo eo Yz aHc g34 aMr;rw [eo]at h;have s36:σ' 0=(.ah (au.map Nd.cells) .unk):=(Yz 0 (by decide)).trans aA;have s37:σ' 1=(.int .i64 dx):=(Yz 1 (by decide)).trans aA;have s38:σ' 5=(.int .i64 cZ):=(Yz 5 (by decide)).trans aA;have s39:σ' 6=(.ah (nJ.map Nd.cells) uG):=(Yz 6 (by decide)).trans aA;have s40:σ' 7=(.int .i64 iH):=(Yz 7 (by decide)).trans aA;have s41:σ' 8=(.ref (H.next) 0):=(Yz 8 (by decide)).trans aA;have le:=aHc.1;try simp only [AH.aN,AH.aO,AH.aS,AH.aT]at le
    have n43:=ne_next (show H.next<Wo.next from aY);have m44:=bA (show H.next<Wo.next from aY);obtain⟨e49,h⟩:=aX h;refine ak ?_;refine gI (f:=Nd.cells) Nd.row nJ ([(Nd.mk p29.1 p29.2.1 p29.2.2.1 p29.2.2.2.1 p29.2.2.2.2)]:List Nd) uG .exact aA aA eG (by first|exact e49|(simp only [I0,j0];exact e49)) (fun c45 H46 aGR le aou aGS=> ?_);have aiZ:HF [] _ H46:=⟨le,fun i _ _=>aou i⟩;try simp only [AH.aN,AH.aO,AH.aS,AH.aT]at le
    have n52:=ne_next (show H.next<H46.next from aY);have m53:=bA (show H.next<H46.next from aY);refine ak ?_;refine hK _ _ ?_;exact ih au dx cZ (nJ++[(Nd.mk p29.1 p29.2.1 p29.2.2.1 p29.2.2.2.1 p29.2.2.2.2)]) (IntKind.wrap .i64 (iH+1)) c45 _ _ _ _ FJ II aA eG _ h _ q0
  ·cases h;refine ak ?_;exact q0 _ uG _ _ rfl bG yH aA
def LC (k:Nat) (au:List Nd) (dx:Int):Option (List Nd):=
 (vQ k au dx).bind fun p2=>Option.bind (uF k au dx p2 ([]:List Nd) p2) (fun p56=>some p56)
theorem aoE {k:Nat} {au:List Nd} {dx:Int} {c0:Ck} {r:List Nd} (h:LC k au dx=some r):aG Tryz.prog 139 [(.ah (au.map Nd.cells) c0),(.int .i64 dx)] (.ah (r.map Nd.cells) .unk):=by
 refine aG.lw (.ah (.same .nil)) (aG.bX (dJ.mem (.cons (bK Nd.pu _) (.cons (.int _ _) .nil))) (aL aBd (by simp) (aI ?_)) (bK Nd.pu _));unfold LC at h;unfold apW;obtain⟨p2,e1,h⟩:=aj h;refine ak ?_;refine av (akK e1) ?_;refine ak ?_;obtain⟨o54,h55,h⟩:=aj h;refine afS k au dx p2 ([]:List Nd) p2 .nil _ _ _ _ (Fr.refl _ _) (HF.refl _ _) aA eG _ h55 _ ?_
 ·rintro p56 c60 σ' H59 eo aMs aow s61;rw [eo]at h;have le:=aow.1;try simp only [AH.aN,AH.aO,AH.aS,AH.aT]at le
  cases h;refine ak ?_;exact(jV Nd.pu _ _)
instance aHd (k:Nat) (au:List Nd) (dx:Int):bY Tryz.prog 139 [(.ah (au.map Nd.cells) .unk),(.int .i64 dx)] (LC k au dx) (fun r=>(.ah (r.map Nd.cells) .unk)):=⟨fun _ h=>aoE h⟩
def qy (k:Nat) (au:List Nd) (PI:Int):Option (List Nd):=
 (uj au).bind fun p2=>if 0<=PI then (p2.args[PI.toNat]?).bind fun x4=>(LC k au x4).bind fun p7=>some p7 else none
instance afT (k:Nat) (au:List Nd) (PI:Int):bY Tryz.prog 73 [(.ah (au.map Nd.cells) .unk),(.int .i64 PI)] (qy k au PI) (fun r=>(.ah (r.map Nd.cells) .unk)):=bM aFx (by unfold qy awH;exact bE)
theorem afU {k:Nat} {au:List Nd} {PI:Int} {c0:Ck} {r:List Nd} (h:qy k au PI=some r):aG Tryz.prog 73 [(.ah (au.map Nd.cells) c0),(.int .i64 PI)] (.ah (r.map Nd.cells) .unk):=((afT _ _ _).c _ h).wk (.ah (.same .nil))
def vw:Nat->(List Str)->(List Str)->Str->Int->Option (Unit⊕Str)
 |0,_,_,_,_=>none
 |k+1,qI,oW,s_2,iH=>
  cond (decide (iH>=0)) (if 0<=iH then (qI[iH.toNat]?).bind fun x3=>cond (x3==s_2) ((oW[iH.toNat]?).bind fun x6=>some (.inr (x6))) (vw k qI oW s_2 (IntKind.wrap .i64 (iH -1)))else none) (some (.inl ()))
instance avg (k:Nat): ∀(qI:List Str) (oW:List Str) (s_2:Str) (iH:Int),Lp Tryz.prog (.loop TQ) (vw k qI oW s_2 iH) [(6,8),(11,25)] [(0,(.ah (qI.map aF) .unk)),(1,(.ah (oW.map aF) .unk)),(2,(.str s_2)),(7,(.int .i64 iH))] (Sum.elim (fun p=>(.exit 0,[])) (fun p=>(.ret,[(6,(.str p))]))):=by
 induction k with
 |zero=>exact fun _ _ _ _=>rP rfl
 |succ k ih=>exact fun _ _ _ _=>rQ TQ.eq_1 (by unfold vw;exact bZ)
def xL (k:Nat) (qI:List Str) (oW:List Str) (s_2:Str):Option Str:=
 Option.bind (vw k qI oW s_2 (IntKind.wrap .i64 ((qI.length:Int) -1))) (fun o=>Sum.elim (fun mH=>some s_2) (fun K7=>some K7) o)
instance aje (k:Nat) (qI:List Str) (oW:List Str) (s_2:Str):bY Tryz.prog 262 [(.ah (qI.map aF) .unk),(.ah (oW.map aF) .unk),(.str s_2)] (xL k qI oW s_2) (fun r=>(.str r)):=bM aCc (by unfold xL aqW;exact bE)
theorem ajf {k:Nat} {qI:List Str} {oW:List Str} {s_2:Str} {c0 c1:Ck} {r:Str} (h:xL k qI oW s_2=some r):aG Tryz.prog 262 [(.ah (qI.map aF) c0),(.ah (oW.map aF) c1),(.str s_2)] (.str r):=((aje _ _ _ _).c _ h).wk (.ah (.ah (.same .nil)))
def lZ:Nat->(List Str)->Str->Int->Option (Unit⊕Int)
 |0,_,_,_=>none
 |k+1,aZ,s_1,iK=>
  cond (decide (iK<(aZ.length:Int))) (if 0<=iK then (aZ[iK.toNat]?).bind fun x3=>cond (x3==s_1) (some (.inr (iK))) (lZ k aZ s_1 (IntKind.wrap .i64 (iK+1)))else none) (some (.inl ()))
instance azf (k:Nat): ∀(aZ:List Str) (s_1:Str) (iK:Int),Lp Tryz.prog (.loop RG) (lZ k aZ s_1 iK) [(4,19)] [(0,(.ah (aZ.map aF) .unk)),(1,(.str s_1)),(5,(.int .i64 iK))] (Sum.elim (fun p=>(.exit 0,[])) (fun p=>(.ret,[(4,(.int .i64 p))]))):=by
 induction k with
 |zero=>exact fun _ _ _=>rP rfl
 |succ k ih=>exact fun _ _ _=>rQ RG.eq_1 (by unfold lZ;exact bZ)
def Ay (k:Nat) (aZ:List Str) (s_1:Str):Option Int:=
 Option.bind (lZ k aZ s_1 0) (fun o=>Sum.elim (fun p8=>some (-1)) (fun rT=>some rT) o)
instance alA (k:Nat) (aZ:List Str) (s_1:Str):bY Tryz.prog 114 [(.ah (aZ.map aF) .unk),(.str s_1)] (Ay k aZ s_1) (fun r=>(.int .i64 r)):=bM aA3 (by unfold Ay apN;exact bE)
theorem alB {k:Nat} {aZ:List Str} {s_1:Str} {c0:Ck} {r:Int} (h:Ay k aZ s_1=some r):aG Tryz.prog 114 [(.ah (aZ.map aF) c0),(.str s_1)] (.int .i64 r):=((alA _ _ _).c _ h).wk (.ah (.same .nil))
end Go.VL
end
section
namespace Go.VL
open Go.Proofs Go.RowKit
def Ei (taken:List Str):Nat->Int->Option (Str×Int)
 |0,_=>none
 |k+1,c=>if 0<=c/\c<=9000 then (FR k (c+1)).bind fun d=>if d.length<=100 then (lW k taken ([98,95]++d)).bind fun b=>cond b (Ei taken k (c+1)) (some ([98,95]++d,c+1))else none else none
theorem afV (taken:List Str) (o:Nat): ∀(k:Nat) (c:Int) (s:Str) (c':Int) (σ:Nat->PV) (H:AH) (cl:Ck) (Q:Post),Ei taken k c=some (s,c')->σ 0= .ref o 0->H.obj o=some [.ah (taken.map aF) cl,.int .i64 c]->
 (∀σ',σ' 2= .str s->Q .ret σ' (H.put o [.ah (taken.map aF) cl,.int .i64 c']))->W Tryz.prog (.loop TS) Q σ H:=by
 intro k
 induction k with
 |zero=>intro c s c' σ H cl Q h;cases h
 |succ k ih=>
  intro c s c' σ H cl Q h s0 ho q0;rw [Ei]at h;obtain⟨hc,h⟩:=aX h;obtain⟨d,hd,h⟩:=aj h;obtain⟨hdl,h⟩:=aX h;obtain⟨b,hb,h⟩:=aj h;have hw:IntKind.wrap .i64 (c+1)=c+1:=by rw [IntKind.wrap_i64];omega
  have hg:([98,95]:Str).length+d.length<=4611686018427387904:=by simp;omega
  refine bB (fun K hK=>aI ?_);unfold TS;simp -implicitDefEqProofs only [go_sem,dB,s0,ho,hw,R0];refine av (anX hd) ?_;simp -implicitDefEqProofs only [go_sem,dB,R0];refine abV hg ?_;have Dx:(H.put o [.ah (taken.map aF) cl,.int .i64 (c+1)]).obj o=some [.ah (taken.map aF) cl,.int .i64 (c+1)]:=by
   show(if o=o then _ else _)=_
   rw [if_pos rfl]
  simp -implicitDefEqProofs only [go_sem,dB,s0,Dx,R0];refine av (IW hb) ?_;obtain⟨e1,h⟩|⟨e1,h⟩:=aJ h
  · subst e1;simp -implicitDefEqProofs only [go_sem,dB,R0];refine hK _ _ (ih (c+1) s c' _ _ cl Q h aC Dx fun σ' h2=> ?_);rw [agO];exact q0 σ' h2
  · subst e1;cases aaW h;simp -implicitDefEqProofs only [go_sem,dB,R0];exact q0 _ aC
theorem ajg {taken:List Str} {o:Nat} {k:Nat} {c:Int} {s:Str} {c':Int} {H:AH} {cl:Ck} (h:Ei taken k c=some (s,c')) (ho:H.obj o=some [.ah (taken.map aF) cl,.int .i64 c]):
 aW Tryz.prog 263 [.ref o 0] H fun v H'=>v= .str s/\H'=H.put o [.ah (taken.map aF) cl,.int .i64 c']:=by
 refine aL aCd (by simp) (aI ?_);unfold aqX;simp -implicitDefEqProofs only [go_sem];refine afV taken o k c s c' _ H cl _ h aC ho fun σ' h2=> ?_;simp -implicitDefEqProofs only [go_sem,h2,C7]
structure rJ (H:AH) (l:List Str) (v:PV) (ids:List Nat):Prop where
 len:z8 v=some (.int .i64 l.length)
 at_: ∀(i:Nat) s,l[i]? =some s-> ∃id off C,jS 1 v (.int .i64 i)=some (.ref id off)/\id∈ids/\id<H.next/\H.obj id=some C/\C[off]? =some (.str s)
theorem rJ.hf {M:List Nat} {H H':AH} {l:List Str} {v:PV} {ids:List Nat} (h:rJ H l v ids) (hf:HF M H H') (hd:Dj ids M):rJ H' l v ids:=
 ⟨h.len,fun i s e=>let ⟨id,off,C,h1,h2,h3,h4,h5⟩:=h.at_ i s e;⟨id,off,C,h1,h2,K0 h3 hf.1,(hf.2 id h3 (hd id h2)).trans h4,h5⟩⟩
theorem rJ.nil {H:AH} {c:Ck} {ids:List Nat}:rJ H [] (.ah [] c) ids:=⟨rfl,fun i s e=>by simp at e⟩
theorem jF.cells {H:AH} {n:Nd} {id len cap:Nat} (h:jF H (n,.m id len cap)):len=n.names.length/\n.names.length<=cap/\id<H.next/\ ∃C,H.obj id=some C/\C.length=cap/\ ∀(i:Nat) s,n.names[i]? =some s->C[i]? =some (.str s):=by
 obtain⟨h0,h⟩:=h;have h':aB H aF 1 n.names (.bP id 0 len cap 1) [id]:=h;have hl:=h'.Ow;have hlen:len=n.names.length:=by
  simp only [z8,L1,PV.int.injEq,T8]at hl;omega
 have h'':=h';rcases h' with⟨e,_⟩|⟨id',cap',junk,e1,e2,e3,e4,e5,e6⟩
 · cases e
 · cases e2;refine⟨hlen,e3,e4,_,e5,?_,fun i s e=> ?_⟩
   · have hfl:((n.names.map aF).flatten).length=n.names.length*1:=nu (f:=aF) (fun _=>rfl) _;rw [X1,hfl,e6];omega
   · obtain⟨id2,C,q1,q2,q3,q4,_⟩:=aB.content h'' e;obtain rfl:id=id2:=by simpa using q1
     rw [e5]at q3;cases q3;have:=q4 0 (.str s) rfl;simpa using this
theorem rJ.part {H:AH} {n:Nd} {id len cap:Nat} (h:jF H (n,.m id len cap)) {a b:Nat} (hb:a+b<=n.names.length) (cap':Nat):rJ H ((n.names.drop a).take b) (.bP id a b cap' 1) [id]:=by
 obtain⟨h1,h2,h3,C,h4,h5,h6⟩:=h.cells;have hl:((n.names.drop a).take b).length=b:=by rw [P3,E4];omega
 refine⟨by simp only [z8,hl],fun i s e=>⟨id,a+i,C,?_,P0.2 rfl,h3,h4,?_⟩⟩
 · have:=(S0.1 e).1;rw [hl]at this;simp only [jS];rw [if_pos ⟨by omega,by omega,trivial⟩];simp
 · rw [gA]at e;split at e
   · rw [Q3]at e;exact h6 _ s e
   · cases e
theorem rJ.whole {H:AH} {n:Nd} {y:NV} (h:jF H (n,y)):rJ H n.names y.pv y.ids:=by
 cases y with
 |p l=>
  obtain⟨h1,h2⟩:l=[]/\n.names=[]:=h;subst h1;rw [h2];exact rJ.nil
 |m id len cap=>
  have h1:=h.cells.1;have:=rJ.part h (a:=0) (b:=n.names.length) (by omega) cap;rw [P1,z6]at this;subst h1;exact this
theorem adK {H:AH} {n:Nd} {y:NV} {p:Nat} {r:List Str} (hy:jF H (n,y)) (h:iJ n (p:Int)=some r):aW Tryz.prog 240 [.agg (kD (n,y)),.int .i64 p] H fun v H'=>rJ H' r v y.ids/\HF [] H H'/\ ∀c,aR H c->aR H' c:=by
 refine aL aia (by simp) (aI ?_);have hnew:HF [] H (H.new (kD (n,y))):=HF.new (HF.refl _ _);have hok: ∀c,aR H c->aR (H.new (kD (n,y))) c:=fun c k=>k.new;have hy':=hy.hf hnew (fun _ _ h=>by cases h);unfold iJ at h;unfold aa3;simp -implicitDefEqProofs only [go_sem,dB,kD,R0];obtain⟨o9,h10,h⟩:=aj h;have Dx:(H.new (kD (n,y))).obj H.next=some (kD (n,y)):=by
  show(if H.next=H.next then some _ else _)=_
  rw [if_pos rfl]
 refine(OT n.kind).c _ _ ⟨aC,trivial⟩ _ h10 _ fun σ' IZ s15=> ?_
 replace s15:=s15.1
 have s16:σ' 2=(.ref H.next 0):=(IZ 2 (by decide)).trans aC;have Cu:σ' 5=(.bool ((p:Int)==(IntKind.wrap .i64 ((n.args.length:Int) -1)))):=(IZ 5 (by decide)).trans aC;have ow:σ' 13=(.int .i64 n.kind):=(IZ 13 (by decide)).trans aC;clear IZ;obtain⟨e19,h⟩|⟨e19,h⟩:=aJ h
 · obtain⟨e20,h⟩|⟨e20,h⟩:=aJ h
   · cases h;simp -implicitDefEqProofs only [go_sem,dB,s15,s16,Cu,ow,e19,e20];exact⟨rJ.whole hy',hnew,hok⟩
   · cases h;simp -implicitDefEqProofs only [go_sem,dB,s15,s16,Cu,ow,e19,e20];exact⟨rJ.nil,hnew,hok⟩
 · obtain⟨e21,h⟩|⟨e21,h⟩:=aJ h
   · have hm:1<=n.names.length-> ∃id len cap,y= .m id len cap/\len=n.names.length/\n.names.length<=cap:=by
      intro h1;cases y with
      |p l=>have h2:n.names=[]:=hy.2;rw [h2]at h1;simp at h1
      |m id len cap=>exact⟨id,len,cap,rfl,hy.cells.1,hy.cells.2.1⟩
     obtain⟨e22,h⟩|⟨e22,h⟩:=aJ h
     · obtain⟨e23,h⟩:=aX h;cases h;obtain⟨id,len,cap,rfl,rfl,hcap⟩:=hm e23;have hs:qE 1 (.bP id 0 n.names.length cap 1) none (some (.int .i64 1)) none=some (.bP id 0 1 cap 1):=by
        simp only [qE,pI];rw [if_pos (by decide)];simp only [Int.toNat_one];rw [if_pos ⟨N3 _,e23,trivial,by omega,by omega⟩];simp
       simp -implicitDefEqProofs only [go_sem,dB,s15,s16,Cu,ow,e19,e21,e22,NV.pv,hs];refine⟨?_,hnew,hok⟩;have:=rJ.part hy' (a:=0) (b:=1) (by omega) cap;rw [P1]at this;exact this
     · obtain⟨e24,h⟩|⟨e24,h⟩:=aJ h
       · cases h;simp -implicitDefEqProofs only [go_sem,dB,s15,s16,Cu,ow,e19,e21,e22,e24];exact⟨rJ.whole hy',hnew,hok⟩
       · obtain⟨e25,h⟩:=aX h;cases h;obtain⟨id,len,cap,rfl,rfl,hcap⟩:=hm e25;by_cases h1:1<cap
         · have hs:qE 1 (.bP id 0 n.names.length cap 1) (some (.int .i64 1)) none none=some (.bP id 1 (n.names.length -1) (cap -1) 1):=by
            simp only [qE,pI];rw [if_pos (by decide)];simp only [Int.toNat_one];rw [if_pos ⟨e25,R0 _,trivial,h1,hcap⟩]
           simp -implicitDefEqProofs only [go_sem,dB,s15,s16,Cu,ow,e19,e21,e22,e24,NV.pv,hs];refine⟨?_,hnew,hok⟩;have:=rJ.part hy' (a:=1) (b:=n.names.length -1) (by omega) (cap -1);rw [I3 (by rw [E4];omega)]at this;exact this
         · have hl1:n.names.length=1:=by omega
           have hc1:cap=1:=by omega
           subst hc1;have hs:qE 1 (.bP id 0 n.names.length 1 1) (some (.int .i64 1)) none none=some (.ah [] .unk):=by
            rw [hl1];rfl
           simp -implicitDefEqProofs only [go_sem,dB,s15,s16,Cu,ow,e19,e21,e22,e24,NV.pv,hs];refine⟨?_,hnew,hok⟩;rw [P4 (by omega)];exact rJ.nil
   · cases h;simp -implicitDefEqProofs only [go_sem,dB,s15,s16,Cu,ow,e19,e21];exact⟨rJ.nil,hnew,hok⟩
section
variable [Glob] {P:Program} {Q:Post} {σ:Nat->PV} {s:List Fm} {α:Type} {H:AH} {f:α->List PV} {sz:Nat}
theorem alC {d:Option Nat} {b:Nat} {x y:AE} {l:List aD} [hr:nk f sz] (hf: ∀x,kC sz (f x)) (ys:List α) {yv:PV}
 (hx:x.ev σ= .ah [] .exact) (hy:y.ev σ=yv) (hrow:rowOf sz H yv=some (ys.map f)) (hs:0<ys.length) (hb:ys.length*b<=1099511627776)
 (h: ∀(v':PV) (gD:List Nat) (H':AH),aB H' f sz ys v' gD->Nw H [] gD->HF [] H H'->(∀c3,aR H c3->aR H' c3)->WO P l s Q (upd σ d v') H'):
 WO P (⟨d,.n (.app sz b x y),none⟩::l) s Q σ H:=by
 show eZ P _ _ σ H
 rw [IB];simp only [nop,hx,hy];have h0: ¬((ys.map f).length=0):=by rw [J1];omega
 have hx0:rowOf sz H (.ah [] .exact)=some []:=rfl;simp only [vJ,hrow,hx0];rw [if_neg h0];split
 · intro cap hcap;simp only [J1,j0,V1,R2]at hcap⊢;refine h _ [H.next] _ (.inr ⟨H.next,cap,List.replicate ((cap -ys.length)*sz) .any,rfl,rfl,hcap,A2 _,?_,by rw [D2]⟩) (fun i hi=> .inr (by rw [P0.1 hi];exact R0 _)) (HF.new (HF.refl _ _)) (fun c3 k=>k.new);show(if H.next=H.next then some _ else _)=_;rw [if_pos rfl]
 · rename_i hno;exact(hno ⟨qO hf ([]:List α),qO hf ys,by simpa using hb⟩).elim
end
theorem afW {H:AH} {n:Nd} {y:NV} (hy:jF H (n,y)) (hl:n.names.length<=1000000):aW Tryz.prog 181 [y.pv] H fun v H'=> ∃z:NV,v=z.pv/\jF H' (n,z)/\(∀j∈z.ids,H.next<=j)/\HF [] H H'/\ ∀c,aR H c->aR H' c:=by
 cases y with
 |p l=>
  obtain⟨h1,h2⟩:l=[]/\n.names=[]:=hy;subst h1;have:=QG n hl H;rw [h2]at this;exact this
 |m id len cap=>
  have hy0:=hy;obtain⟨h0,hr⟩:=hy;have hr:aB H aF 1 n.names (.bP id 0 len cap 1) [id]:=hr;have hlen:len=n.names.length:=hy0.cells.1;subst hlen;have hpos:0<n.names.length:=List.length_pos_iff.2 h0;obtain⟨id',cap',junk,e1,e2,e3,e4,e5,e6⟩: ∃id' cap' junk,[id]=[id']/\PV.bP id 0 n.names.length cap 1= .bP id' 0 n.names.length cap' 1/\n.names.length<=cap'/\id'<H.next/\H.obj id'=some ((n.names.map aF).flatten++junk)/\junk.length=(cap' -n.names.length)*1:=by
   rcases hr with⟨e,_⟩|h
   · cases e
   · exact h
  cases e2;have hrow:rowOf 1 H (.bP id 0 n.names.length cap 1)=some (n.names.map aF):=by
   simp only [rowOf,e5];have hfl:((n.names.map aF).flatten).length=n.names.length*1:=nu (f:=aF) (fun _=>rfl) _;rw [if_pos ⟨trivial,by rw [X1,hfl];omega⟩,P1];have:=yV (sz:=1) (n.names.map aF) junk (fun cs h=>by obtain⟨s,_,rfl⟩:=G3.1 h;rfl);rw [J1]at this;rw [this]
  show aW Tryz.prog 181 [.bP id 0 n.names.length cap 1] H _
  refine aL Cn.aro (by simp) (aI ?_);unfold Cn.aif;simp -implicitDefEqProofs only [go_sem];refine alC (f:=aF) lG n.names aC aC hrow hpos (by omega) (fun v' gD H' g1 g2 g3 g4=> ?_);simp -implicitDefEqProofs only [go_sem];have g1':=g1;rcases g1 with⟨_,h,_⟩|⟨id2,cap2,aLe,rfl,rfl,_⟩
  · exact absurd h h0
  · refine⟨.m id2 n.names.length cap2,rfl,⟨h0,g1'⟩,fun j hj=> ?_,g3,g4⟩;rcases g2 j hj with q|q
    · cases q
    · exact q
end Go.VL
end
section
namespace Go.VL
open Go.Proofs Go.RowKit
set_option maxRecDepth 100000
theorem alD:Enters Tryz.prog 319:=⟨_,Tryz.func319,rfl,by kernel_rfl⟩
theorem aoF:Vg Tryz.prog 319 2 true:=by
 intro l m bx n J Jx W hn hc hY h0;refine callsIn_of_wp Tryz.func319 rfl trivial ?_ rfl;simp only [Tryz.ntmps319,B8,I0,j0,Nat.reduceAdd,Nat.reduceSub,Array.replicate_succ,Array.replicate_zero,List.push_toArray,List.append_toArray,R2,B4];obtain⟨ad0,cap0,hc0⟩:=hc
 gi_wp2
 gi_loopw [3] (fun v3 wr=> ∃k:Nat,v3= .int .i64 ((k:Int) -1)/\k<=n/\J k wr) (fun v3 wr=>(RowKit.intOf v3+1).toNat)
 case atStart=>exact⟨n,rfl,R0 _,h0⟩
 case round=>
  obtain⟨k,rfl,hk,hJ⟩:=hrel;cases k with
  |zero=>
   have c1: ¬(0:Int)<=((0:Nat):Int) -1:=by omega
   gi_wp2
   go_end0
   exact⟨⟨_,rfl⟩,.inl hJ⟩
  |succ k=>
   obtain⟨b,o,cap,vs,hb,hkn,hvs,hld,fn,tmps,assign,body,hy,hR⟩:=hY k wr hJ;have e1:((k+1:Nat):Int) -1=(k:Int):=by omega
   rw [e1];have c1:(0:Int)<=(k:Int):=by omega
   have c2:(k:Int)<(n:Int):=by omega
   obtain⟨x0,x1,rfl⟩: ∃x0 x1,vs=#[x0,x1]:=by
    match vs,hvs with
    |⟨[x0,x1]⟩,_=>exact⟨x0,x1,rfl⟩
   have l0:wr.cell? ⟨b,o+k*2,none⟩=some x0:=by simpa using hld 0 x0 rfl
   have l1:wr.cell? ⟨b,o+k*2+1,none⟩=some x1:=by simpa using hld 1 x1 rfl
   have l2:wr.cell? ⟨b,o+(k*2+1),none⟩=some x1:=by rw [<-G4];exact l1
   clear hld;have hev:elemV true #[x0,x1]=Value.agg #[x0,x1]:=rfl;rw [hev]at hy
   gi_wp2
   refine⟨fun hd=>absurd hd (by simp [Fence.wide]),(QD hR).mono ?_⟩;rintro e W' (⟨rfl,hJ'⟩|⟨rfl,hJx⟩)
   · gi_wp2
     go_roundw
     case rel=>exact⟨k,rfl,by omega,hJ'⟩
     case measure=>simp [RowKit.intOf]
   · gi_wp2
     refine bodyPost_ret (results_none rfl _ _ _) rfl ?_;exact⟨⟨_,rfl⟩,.inr hJx⟩
end Go.VL
end
section
namespace Go.VL
open Go.Proofs Go.RowKit
theorem ZJ {α:Type} {f:α->List PV} (hf: ∀x,∀c∈f x,Pu c) (l:List α):Pu (.ah (l.map f) .exact):=by
 have h:=bK hf l;cases h with
 |ah _ _ h1 h2=>exact .ah _ _ h1 (by simp)
theorem alE (l:List Scope) {c:Ck}:aG Tryz.prog 285 [.ah (l.map Scope.cells) c] (.ah (l.map Scope.cells) .exact):=by
 refine aG.wk (args:=[.ah (l.map Scope.cells) .unk]) ?_ (.ah .nil);refine aG.bX (dJ.mem (.cons (bK Scope.pu _) .nil)) (aL aCt (by simp) (aI ?_)) (ZJ Scope.pu l);unfold arf;simp -implicitDefEqProofs only [go_sem,adk Scope.cells 2];first|done|exact .pure _ (ZJ Scope.pu l)
def mF (l:List (Nd×NV)) (id o:Nat):List Nat:=o::id::(l.map fun x=>x.2.ids).flatten
structure lS (H:AH) (l:List (Nd×NV)) (v:PV) (id o lo:Nat) (left:List Str) (cl:Ck) (c:Int):Prop where
 own:OI H l v id l.length lo
 obj:H.obj o=some [v,.ah (left.map aF) cl,.int .i64 c]
 lt:o<H.next
 ne:o≠id
 nen: ∀(i:Nat) (x:Nd×NV),l[i]? =some x->o∉x.2.ids
theorem Qs {l:List (Nd×NV)} {i:Nat} {x:Nd×NV} (h:l[i]? =some x) {a:Nat} (ha:a∈x.2.ids):a∈(l.map fun x=>x.2.ids).flatten:=
 uB.2 ⟨x.2.ids,G3.2 ⟨x,B1 h,rfl⟩,ha⟩
theorem lS.hf {H H':AH} {l:List (Nd×NV)} {v:PV} {id o lo:Nat} {left:List Str} {cl:Ck} {c:Int} {M:List Nat} (h:lS H l v id o lo left cl c) (hf:HF M H H') (hd:Dj (mF l id o) M):lS H' l v id o lo left cl c:=by
 have hdo:o∉M:=fun hm=>hd o A1 hm;have hdi:id∉M:=fun hm=>hd id (I1 _ A1) hm;have hdn: ∀(i:Nat) (x:Nd×NV),l[i]? =some x->Dj x.2.ids M:=fun i x hx a ha hm=>hd a (I1 _ (I1 _ (Qs hx ha))) hm;refine⟨⟨h.own.row.hf hf (fun a ha hm=>hdi (P0.1 ha▸hm)),fun i x hx=> ?_,h.own.dj,h.own.ne,h.own.lob,h.own.X0⟩,(hf.2 o h.lt hdo).trans h.obj,K0 h.lt hf.1,h.ne,h.nen⟩;have:=h.own.Cj i x hx;have hi:=(S0.1 hx).1;rw [if_pos hi]at this⊢;exact this.hf hf (hdn i x hx)
theorem lS.lts {H:AH} {l:List (Nd×NV)} {v:PV} {id o lo:Nat} {left:List Str} {cl:Ck} {c:Int} (h:lS H l v id o lo left cl c): ∀a∈mF l id o,a<H.next:=by
 intro a ha;simp only [mF,M1]at ha;rcases ha with rfl|rfl|ha
 · exact h.lt
 · exact h.own.row.lt _ (P0.2 rfl)
 · obtain⟨is,h1,h2⟩:=uB.1 ha;obtain⟨x,h3,rfl⟩:=G3.1 h1;obtain⟨i,hi⟩:=S6.1 h3;have:=h.own.Cj i x hi;rw [if_pos (S0.1 hi).1]at this;exact this.lt a h2
theorem lS.new {H H':AH} {l:List (Nd×NV)} {v:PV} {id o lo:Nat} {left:List Str} {cl:Ck} {c:Int} (h:lS H l v id o lo left cl c) {M:List Nat} (hf:HF M H H') (hM: ∀a∈M,H.next<=a):lS H' l v id o lo left cl c:=
 h.hf hf fun a ha hm=>by have:=h.lts a ha;have:=hM a hm;omega
theorem lS.set {H H':AH} {l:List (Nd×NV)} {v:PV} {id o lo:Nat} {left:List Str} {cl:Ck} {c:Int} (h:lS H l v id o lo left cl c) {i:Nat} {n m:Nd} {y:NV} (hx:l[i]? =some (n,y)) (hn:m.names=n.names)
 (hr:aB H' kD 5 (l.set i (m,y)) v [id]) (hf:HF [id] H H'):lS H' (l.set i (m,y)) v id o lo left cl c:=by
 have hi:=(S0.1 hx).1;have hget: ∀(k:Nat) (x:Nd×NV),(l.set i (m,y))[k]? =some x-> ∃x0,l[k]? =some x0/\x.2=x0.2/\x.1.names=x0.1.names:=by
  intro k x e;rw [r8]at e;by_cases hk:i=k
  · subst hk;rw [if_pos rfl,if_pos hi]at e;cases e;exact⟨_,hx,rfl,hn⟩
  · rw [if_neg hk]at e;exact⟨x,e,rfl,rfl⟩
 refine⟨⟨hr,fun k x e=> ?_,fun k k' x x' e e' hne=> ?_,fun k x e=> ?_,fun k x e=> ?_,h.own.X0⟩,?_,K0 h.lt hf.1,h.ne,fun k x e=> ?_⟩
 · obtain⟨x0,e0,q1,q2⟩:=hget k x e;have hk:=(S0.1 e0).1;have MW:=h.own.Cj k x0 e0;rw [if_pos hk]at MW;rw [if_pos (by rw [W8];exact hk)];have:=MW.hf hf fun a ha hm=>h.own.ne k x0 e0 (P0.1 hm▸ha);obtain⟨n1,y1⟩:=x;obtain⟨n0,y0⟩:=x0;simp only at q1 q2;subst q1;unfold jF at this⊢;cases y1 with
   |p l=>simp only at this⊢;rw [q2];exact this
   |m a b d=>simp only at this⊢;rw [q2];exact this
 · obtain⟨x0,e0,q1,_⟩:=hget k x e;obtain⟨x0',e0',q1',_⟩:=hget k' x' e';rw [q1,q1'];exact h.own.dj k k' x0 x0' e0 e0' hne
 · obtain⟨x0,e0,q1,_⟩:=hget k x e;rw [q1];exact h.own.ne k x0 e0
 · obtain⟨x0,e0,q1,_⟩:=hget k x e;rw [q1];exact h.own.lob k x0 e0
 · exact(hf.2 o h.lt fun hm=>h.ne (P0.1 hm)).trans h.obj
 · obtain⟨x0,e0,q1,_⟩:=hget k x e;rw [q1];exact h.nen k x0 e0
theorem adL {l:List (Nd×NV)} {id o i:Nat} {n m:Nd} {y:NV} (hx:l[i]? =some (n,y)):mF (l.set i (m,y)) id o=mF l id o:=by
 unfold mF;congr 3;rw [HA];obtain⟨h,e⟩:=S0.1 hx;have:(l.map fun x=>x.2.ids)[i]'(by simpa using h)=y.ids:=by rw [List.getElem_map,e]
 rw [<-this,m7]
theorem alG (s:Scope):kC 2 s.cells:=row_of rfl rfl
def l8:List Scope->Str->Str
 |[],t=>t
 |s::l,t=>if(l.any fun s=>decide (s.old=t))=true then l8 l t else if s.old=t then s.new else l8 l t
theorem azi {H:AH} {n:Nd} {y:NV} (h:jF H (n,y)):Fz H (.agg (kD (n,y))) (.agg n.cells):=by
 have hn:Fz H y.pv (.ah (n.names.map aF) .unk):=by
  cases y with
  |p l=>
   obtain⟨h1,h2⟩:l=[]/\n.names=[]:=h;subst h1;rw [h2];exact jV gu [] .unk
  |m id len cap=>
   have hr:aB H aF 1 n.names (.bP id 0 len cap 1) [id]:=h.2;exact aB.fz gu hr
 exact jT (gB (gB (.cons (.pure _ (.str _)) (.cons hn (.cons (jV gV n.args .unk) .nil)))))
theorem MX (b:Scope) (t:Str): ∀l:List Scope,l8 (l++[b]) t=if b.old=t then b.new else l8 l t
 |[]=>by simp [l8]
 |s::l=>by
  rw [B4,l8,MX b t l];by_cases h:b.old=t
  · simp [h]
  · simp only [List.any_append,b8,List.any_nil,Bool.or_false,B0 h,if_neg h];rw [l8]
section
variable {l:List (Nd×NV)} {v:PV} {id o lo:Nat} {left:List Str} {cl:Ck} {c:Int} {i:Nat} {n:Nd} {y:NV}
theorem aoG (hx:l[i]? =some (n,y)) (bound:List Scope) (q bx:Nat) (Q:Post) (σ:Nat->PV) (s6:σ 6= .ref q 0) (hqb:q∉mF l id o) (hqx:q≠bx):
 ∀(k:Nat) (H:AH),k<=bound.length->lS H l v id o lo left cl c->q<H.next->bx<H.next->bx∉mF l id o->H.obj q=some [.ref id (i*5)]->H.obj bx=some [.ah (bound.map Scope.cells) .unk]->
   (∀(e:Ex) H',(e= .normal\/e= .exit 0)->lS H' (l.set i ({n with text:=l8 (bound.take k) n.text},y)) v id o lo left cl c->HF [id] H H'->H'.obj q=some [.ref id (i*5)]->Q e σ H')->
   GD (fun Q' σ' H'=>W Tryz.prog OG (JN (fun sF fu=>W Tryz.prog OH Q' sF fu)) σ' H') Q σ bx [.ah (bound.map Scope.cells) .unk] 28 29 ((bound.map Scope.cells).map (E9 true)) k H:=by
 intro k
 induction k with
 |zero=>
  intro H hk hV hq hb hbm ho hbx q0;refine q0 .normal H (.inl rfl) ?_ (HF.refl _ _) ho;have e1:l.set i (({n with text:=l8 (bound.take 0) n.text}:Nd),y)=l:=by
   obtain⟨h,e⟩:=S0.1 hx;have:(({n with text:=l8 (bound.take 0) n.text}:Nd),y)=l[i]:=by rw [e];rfl
   rw [this,m7]
  rw [e1];exact hV
 |succ k ih=>
  intro H hk hV hq hb hbm ho hbx q0;have hlt:k<bound.length:=by omega
  refine⟨hbx,.agg (Scope.cells bound[k]),?_,?_⟩
  · rw [J0,J0,W2 hlt];rfl
  obtain⟨id',C,e1,hid,hC,hcell,hle,hdrop,hI⟩:=aB.content hV.own.row hx;obtain rfl:id=id':=by simpa using e1
  have c2:C[i*5+2]? =some (.str n.text):=hcell 2 _ rfl;have hqn:id≠H.next:=by omega
  have aoH:q≠H.next:=by omega
  have hqi:q≠id:=fun e=>hqb (by rw [e];simp [mF]);refine aI ?_;unfold OG;simp -implicitDefEqProofs only [go_sem,dB,Scope.je,R0];obtain⟨H1,hH1⟩: ∃H1,H1=(H.new [.str [],.str []]).put H.next [.str bound[k].old,.str bound[k].new]:=⟨_,rfl⟩;rw [<-hH1];have hf1:HF [] H H1:=by
   rw [hH1];exact HF.put (.inr (R0 _)) (HF.new (HF.refl _ _))
  have o8:H1.obj H.next=some [.str bound[k].old,.str bound[k].new]:=by
   rw [hH1];show(if H.next=H.next then some _ else _)=_;rw [if_pos rfl]
  clear hH1;have oq:H1.obj q=some [.ref id (i*5)]:=(hf1.2 q hq D0).trans ho;have oid:H1.obj id=some C:=(hf1.2 id hid D0).trans hC;have obx:H1.obj bx=some [.ah (bound.map Scope.cells) .unk]:=(hf1.2 bx hb D0).trans hbx;have hV1:=hV.new hf1 (fun a ha=>by cases ha);have aCY:bound.take (k+1)=bound.take k++[bound[k]]:=M2 hlt;have aa8:l8 (bound.take (k+1)) n.text=if bound[k].old=n.text then bound[k].new else l8 (bound.take k) n.text:=by rw [aCY,MX]
  refine aI ?_;unfold OH;simp -implicitDefEqProofs only [go_sem];refine oH ?_;simp -implicitDefEqProofs only [go_sem,s6,o8,oq,oid,c2];by_cases hm:bound[k].old=n.text
  · rw [if_pos hm]at aa8;rw [aa8]at q0;have hdec:(bound[k].old==n.text)=true:=by rw [E3];exact hm
    simp -implicitDefEqProofs only [go_sem,s6,o8,oq,oid,c2,hdec];refine qd (f:=kD) (id:=id) (o:=i*5+2) (i:=i) (j:=2) (a:=(n,y)) (y:=({n with text:=bound[k].new},y)) (vs:=[.str bound[k].new]) aC rfl rfl hV1.own.row hx aC rfl rfl (by decide) (by cases y<;>rfl) (fun H' r' hf' ok'=> ?_);simp -implicitDefEqProofs only [go_sem];refine q0 (.exit 0) H' (.inr rfl) (hV1.set hx rfl r' hf') ⟨E1 hf1.1 hf'.1,fun a ha hm=>(hf'.2 a (K0 ha hf1.1) hm).trans (hf1.2 a ha D0)⟩ ((hf'.2 q (K0 hq hf1.1) fun hm=>hqi (P0.1 hm)).trans oq)
  · rw [if_neg hm]at aa8;rw [aa8]at q0;have hdec:(bound[k].old==n.text)=false:=by rw [O0];exact hm
    simp -implicitDefEqProofs only [go_sem,s6,o8,oq,oid,c2,hdec];exact ih H1 (by omega) hV1 (K0 hq hf1.1) (K0 hb hf1.1) hbm oq obx fun e H' he g1 g2 g3=>q0 e H' he g1 ⟨E1 hf1.1 g2.1,fun a ha hm=>(g2.2 a (K0 ha hf1.1) hm).trans (hf1.2 a ha D0)⟩ g3
end
theorem auy (es:List (List PV)) (ck:Ck) (H:AH):aW Tryz.prog 282 [.ah es ck] H fun v H'=>v= .fn (.func 319) [] [.ref H.next 0]/\H'=H.new [.ah es ck]:=by
 refine aL aCq (by simp) (aI ?_);unfold ara;simp -implicitDefEqProofs only [go_sem,dB,R0,C7]
theorem UC {l:List (Nd×NV)} {i:Nat} {x:Nd×NV} (hx:l[i]? =some x):l.set i x=l:=by
 obtain⟨h,e⟩:=S0.1 hx;rw [<-e,m7]
theorem azl {l:List (Nd×NV)} {v:PV} {id o lo:Nat} {left:List Str} {cl:Ck} {c:Int} {i:Nat} {n:Nd} {y:NV} {H:AH} {σ:Nat->PV} {bound:List Scope} {ck:Ck} {q k:Nat} {nm:Bool} {Q:Post}
 (hV:lS H l v id o lo left cl c) (hx:l[i]? =some (n,y)) (s2:σ 2= .ah (bound.map Scope.cells) ck) (s6:σ 6= .ref q 0) (hq:q<H.next) (Kn:q∉mF l id o) (ho:H.obj q=some [.ref id (i*5)]) (hnm:nR k n=some nm) (hb:bound.length<=1000000)
 (q0: ∀σ' H',(∀j,j∉([22,23,24,25,26,27]:List Nat)->σ' j=σ j)->lS H' (l.set i ({n with text:=if nm=true then l8 bound n.text else n.text},y)) v id o lo left cl c->HF [id] H H'->H'.obj q=some [.ref id (i*5)]->Q .normal σ' H'):W Tryz.prog TN Q σ H:=by
 obtain⟨id',C,e1,hid,hC,hcell,hle,hdrop,hI⟩:=aB.content hV.own.row hx;obtain rfl:id=id':=by simpa using e1
 have hy:jF H (n,y):=by
  have:=hV.own.Cj i _ hx;rw [if_pos (S0.1 hx).1]at this;exact this
 have h5:=hle 5 (R0 _);refine aI ?_;unfold TN;simp -implicitDefEqProofs only [go_sem,s6,ho,hC,hdrop,h5];refine FI (QY hnm) (.cons (azi hy) .nil) (.cons (.agg _ (Nd.pu n)) .nil) (Sc.bool _) ?_;cases nm
 case false=>
  simp -implicitDefEqProofs only [go_sem];refine q0 _ H ?_ ?_ (HF.refl _ _) ho
  · intro j hj;simp only [M1,D0,B7,not_or]at hj;simp only [upd,hj.1,hj.2.1,hj.2.2.1,hj.2.2.2.1,↓reduceIte]
  · rw [show({n with text:=if false=true then l8 bound n.text else n.text}:Nd)=n from rfl,UC hx];exact hV
 case true=>
  simp -implicitDefEqProofs only [go_sem,s2];refine aW.wk ((auy (bound.map Scope.cells) .unk H).mono ?_) (.ah .nil);rintro _ _ ⟨rfl,rfl⟩;have hnew:HF [] H (H.new [.ah (bound.map Scope.cells) .unk]):=HF.new (HF.refl _ _);have hV1:=hV.new hnew (fun a ha=>by cases ha);have azm:(H.new [.ah (bound.map Scope.cells) .unk]).obj H.next=some [.ah (bound.map Scope.cells) .unk]:=by
   show(if H.next=H.next then some _ else _)=_
   rw [if_pos rfl]
  have hqx:q≠H.next:=by omega
  have hbm:H.next∉mF l id o:=fun hm=>d8 _ (hV.lts _ hm);simp -implicitDefEqProofs only [go_sem];refine apy (g:=319) (id:=H.next) (sz:=2) (agg:=true) (es:=bound.map Scope.cells) (c:= .unk) aC alD aoF (by decide) azm (by rw [J1];omega) (FH (f:=Scope.cells) (fun _=>rfl) _) ?_;rw [J1];refine aoG hx bound q H.next _ _ aC Kn hqx bound.length _ (R0 _) hV1 (T7 hq) (A2 _) hbm ((hnew.2 q hq D0).trans ho) azm ?_;rw [z6];intro e H' he g1 g2 g3;have hF:HF [id] H H':=⟨E1 hnew.1 g2.1,fun a ha hm=>(g2.2 a (K0 ha hnew.1) hm).trans (hnew.2 a ha D0)⟩
  have fin:=q0 (upd (upd (upd (upd (upd (upd σ (some 22) (PV.ref id (i*5))) (some 23) (PV.ref id (i*5))) (some 24) (PV.agg (kD (n,y)))) (some 25) (PV.bool true)) (some 26) (.ah (bound.map Scope.cells) ck)) (some 27) (.fn (.func 319) [] [.ref H.next 0])) H' (by
   intro j hj;simp only [M1,D0,B7,not_or]at hj;simp only [upd,hj.1,hj.2.1,hj.2.2.1,hj.2.2.2.1,hj.2.2.2.2.1,hj.2.2.2.2.2,↓reduceIte]) g1 hF g3
  rcases he with rfl|rfl
  · exact fin
  · exact fin
theorem lS.aHe {H H':AH} {l:List (Nd×NV)} {v:PV} {id o lo:Nat} {left:List Str} {cl:Ck} {c:Int} (h:lS H l v id o lo left cl c) {i:Nat} {n:Nd} {id' len cap:Nat} {ns:List Str} (hx:l[i]? =some (n,.m id' len cap)) (h0:ns≠[])
 (hr:aB H' aF 1 ns (.bP id' 0 len cap 1) [id']) (hf:HF [id'] H H'):lS H' (l.set i ({n with names:=ns},.m id' len cap)) v id o lo left cl c:=by
 have hi:=(S0.1 hx).1;have hne:id≠id':=fun e=>h.own.ne i _ hx (by rw [e];exact P0.2 rfl);have hon:o≠id':=fun e=>h.nen i _ hx (by rw [e];exact P0.2 rfl);have hget: ∀(k:Nat) (x:Nd×NV),(l.set i (({n with names:=ns}:Nd),NV.m id' len cap))[k]? =some x->(k=i/\x=(({n with names:=ns}:Nd),NV.m id' len cap))\/(k≠i/\l[k]? =some x):=by
  intro k x e;rw [r8]at e;by_cases hk:i=k
  · subst hk;rw [if_pos rfl,if_pos hi]at e;cases e;exact .inl ⟨rfl,rfl⟩
  · rw [if_neg hk]at e;exact .inr ⟨fun e=>hk e.symm,e⟩
 have adM: ∀(k:Nat) (x:Nd×NV),(l.set i (({n with names:=ns}:Nd),NV.m id' len cap))[k]? =some x-> ∃x0,l[k]? =some x0/\x.2=x0.2:=by
  intro k x e;rcases hget k x e with⟨rfl,rfl⟩|⟨_,e⟩
  · exact⟨_,hx,rfl⟩
  · exact⟨x,e,rfl⟩
 have hrow:aB H' kD 5 (l.set i (({n with names:=ns}:Nd),NV.m id' len cap)) v [id]:=by
  have:=h.own.row.hf hf (fun a ha hm=>hne ((P0.1 ha).symm.trans (P0.1 hm)));have em:(l.set i (({n with names:=ns}:Nd),NV.m id' len cap)).map kD=l.map kD:=by
   rw [HA];have:kD (({n with names:=ns}:Nd),NV.m id' len cap)=(l.map kD)[i]'(by simpa using hi):=by
    rw [List.getElem_map,(S0.1 hx).2];rfl
   rw [this,m7]
  unfold aB at this⊢;rw [em,W8];rcases this with⟨h1,h2,h3⟩|h
  · subst h2;simp at hi
  · exact .inr h
 refine⟨⟨hrow,fun k x e=> ?_,fun k k' x x' e e' hne=> ?_,fun k x e=> ?_,fun k x e=> ?_,h.own.X0⟩,(hf.2 o h.lt fun hm=>hon (P0.1 hm)).trans h.obj,K0 h.lt hf.1,h.ne,fun k x e=> ?_⟩
 · rw [if_pos (S0.1 e).1];rcases hget k x e with⟨rfl,rfl⟩|⟨hk,e⟩
   · exact⟨h0,hr⟩
   · have MW:=h.own.Cj k x e;rw [if_pos (S0.1 e).1]at MW;exact MW.hf hf fun a ha hm=>h.own.dj k i x _ e hx hk a ha hm
 · obtain⟨x0,e0,q1⟩:=adM k x e;obtain⟨x0',e0',q1'⟩:=adM k' x' e';rw [q1,q1'];exact h.own.dj k k' x0 x0' e0 e0' hne
 · obtain⟨x0,e0,q1⟩:=adM k x e;rw [q1];exact h.own.ne k x0 e0
 · obtain⟨x0,e0,q1⟩:=adM k x e;rw [q1];exact h.own.lob k x0 e0
 · obtain⟨x0,e0,q1⟩:=adM k x e;rw [q1];exact h.nen k x0 e0
theorem lS.cnt {H:AH} {l:List (Nd×NV)} {v:PV} {id o lo:Nat} {left:List Str} {cl:Ck} {c c':Int} (h:lS H l v id o lo left cl c):lS (H.put o [v,.ah (left.map aF) cl,.int .i64 c']) l v id o lo left cl c'/\HF [o] H (H.put o [v,.ah (left.map aF) cl,.int .i64 c']):=by
 have hf:HF [o] H (H.put o [v,.ah (left.map aF) cl,.int .i64 c']):=HF.put (.inl (P0.2 rfl)) (HF.refl _ _);refine⟨⟨⟨h.own.row.hf hf (fun a ha hm=>h.ne ((P0.1 hm).symm.trans (P0.1 ha))),fun i x hx=> ?_,h.own.dj,h.own.ne,h.own.lob,h.own.X0⟩,?_,h.lt,h.ne,h.nen⟩,hf⟩
 · have:=h.own.Cj i x hx;have hi:=(S0.1 hx).1;rw [if_pos hi]at this⊢;exact this.hf hf fun a ha hm=>h.nen i x hx (P0.1 hm▸ha)
 · show(if o=o then _ else _)=_
   rw [if_pos rfl]
def Jp (left:List Str) (F:Nat):Nat->Int->Option (List Str×Int)
 |0,c=>some ([],c)
 |m+1,c=>(Dw left F c).bind fun p=>(Jp left F m p.2).bind fun r=>some (p.1::r.1,r.2)
theorem HF.up {M M':List Nat} {H H':AH} (h:HF M H H') (hs: ∀a∈M,a∈M'):HF M' H H':=⟨h.1,fun a ha hm=>h.2 a ha fun h=>hm (hs a h)⟩
theorem HF.tr {M:List Nat} {H H' fu:AH} (h:HF M H H') (h':HF M H' fu):HF M H fu:=⟨E1 h.1 h'.1,fun a ha hm=>(h'.2 a (K0 ha h.1) hm).trans (h.2 a ha hm)⟩
section
variable {l:List (Nd×NV)} {v:PV} {id o lo:Nat} {left:List Str} {cl:Ck} {i:Nat} {n:Nd} {y:NV} {F q:Nat} {ns:List Str} {c':Int} {Q:Post}
theorem afX (hx:(l[i]?).map (·.2)=some y) (Kn:q∉mF l id o) (hnl:n.names.length<=1000000): ∀(m k:Nat) (done:List Str) (c:Int) (ns:List Str) (σ:Nat->PV) (H:AH),done.length=k->k+m=n.names.length->Jp left F m c=some (ns,c')->
 lS H (l.set i ({n with names:=done++n.names.drop k},y)) v id o lo left cl c->σ 0= .ref o 0->σ 6= .ref q 0->σ 60= .int .i64 n.names.length->σ 61= .int .i64 k->q<H.next->H.obj q=some [.ref id (i*5)]->
 (∀σ' H',(∀j,j≠10->j<61\/72<j->σ' j=σ j)->lS H' (l.set i ({n with names:=done++ns},y)) v id o lo left cl c'->HF (o::y.ids) H H'->H'.obj q=some [.ref id (i*5)]->Q (.exit 2) σ' H')->W Tryz.prog (.loop Mt) Q σ H:=by
 obtain⟨hi,hy⟩:i<l.length/\(l[i]?).map (·.2)=some y:=by
  refine⟨?_,hx⟩;by_cases h:i<l.length
  · exact h
  · rw [R1 (by omega)]at hx;cases hx
 have hqo:q≠o:=fun e=>Kn (by rw [e];exact A1);have hqi:q≠id:=fun e=>Kn (by rw [e];exact I1 _ A1);have hqy:q∉y.ids:=by
  intro hm;obtain⟨x0,e0,e1⟩: ∃x0,l[i]? =some x0/\x0.2=y:=by
   cases h:l[i]? with
   |none=>rw [h]at hx;cases hx
   |some x0=>rw [h]at hx;exact⟨x0,rfl,by simpa using hx⟩
  exact Kn (I1 _ (I1 _ (Qs e0 (e1▸hm))))
 intro m
 induction m with
 |zero=>
  intro k done c ns σ H hd hk hF hV s0 s6 s60 s61 hq ho q0;cases hF;have hge:decide ((k:Int)<(n.names.length:Int))=false:=B0 (by omega);refine bB (fun K hK=>aI ?_);unfold Mt;simp -implicitDefEqProofs only [go_sem,s60,s61,hge];rw [P4 (by omega)]at hV;refine q0 _ H (fun j h10 hj=> ?_) hV (HF.refl _ _) ho;have:j≠62:=by omega
  simp only [upd,this,↓reduceIte]
 |succ m ih=>
  intro k done c ns σ H hd hk hF hV s0 s6 s60 s61 hq ho q0;rw [Jp]at hF;obtain⟨⟨s1,c1⟩,hF1,hF⟩:=aj hF;obtain⟨⟨r2,c2⟩,hF2,hF⟩:=aj hF;cases hF;have hlt:decide ((k:Int)<(n.names.length:Int))=true:=g0 (by omega);have hset:(l.set i (({n with names:=done++n.names.drop k}:Nd),y))[i]? =some (({n with names:=done++n.names.drop k}:Nd),y):=by rw [r8,if_pos rfl,if_pos hi]
  have MW:=hV.own.Cj i _ hset;rw [if_pos (by rw [W8];exact hi)]at MW;obtain⟨id0,C,e1,hid,hC,hcell,hle,hdrop,hI⟩:=aB.content hV.own.row hset;obtain rfl:id=id0:=by simpa using e1
  have hmem:(done++n.names.drop k)[k]? =some (n.names[k]'(by omega)):=by
   rw [N0 (by omega),hd,L5,Q3,S4,W2]
  cases y with
  |p l0=>
   have h2:done++n.names.drop k=[]:=MW.2;rw [h2]at hmem;cases hmem
  |m id' len cap=>
  obtain⟨h0,hr0⟩:=MW;have hr0:aB H aF 1 (done++n.names.drop k) (.bP id' 0 len cap 1) [id']:=hr0;have c3:C[i*5+3]? =some (.bP id' 0 len cap 1):=hcell 3 _ rfl;refine bB (fun K hK=>aI ?_);unfold Mt;simp -implicitDefEqProofs only [go_sem,s60,s61,hlt];have aHf:o≠id:=hV.ne;obtain⟨H1,hH1⟩: ∃H1,H1=H.put o [v,.ah (left.map aF) cl,.int .i64 c1]:=⟨_,rfl⟩;obtain⟨hV1,hf1⟩:=hV.cnt (c':=c1);rw [<-hH1]at hV1 hf1;have ho1:H1.obj q=some [.ref id (i*5)]:=(hf1.2 q hq fun hm=>hqo (P0.1 hm)).trans ho;have hC1:H1.obj id=some C:=(hf1.2 id hid fun hm=>aHf (P0.1 hm).symm).trans hC;refine⟨fun H'=>H'.obj q=some [.ref id (i*5)]/\H'.obj id=some C,⟨ho,hC⟩,?_⟩;refine dR (.ref id (i*5)) (fun H' hC'=>by simp -implicitDefEqProofs only [go_sem,s6,hC'.1]) ?_;refine dR (.ref id (i*5)) (fun H' hC'=>by simp -implicitDefEqProofs only [go_sem]) ?_;refine dR (.ref id (i*5+3)) (fun H' hC'=>by simp -implicitDefEqProofs only [go_sem]) ?_;refine dR (.bP id' 0 len cap 1) (fun H' hC'=>by simp -implicitDefEqProofs only [go_sem,hC'.2,c3]) ?_;refine dR (.int .i64 k) (fun H' hC'=>by simp -implicitDefEqProofs only [go_sem]) ?_;refine dR (.ref o 0) (fun H' hC'=>by simp -implicitDefEqProofs only [go_sem,s0]) ?_;refine .inr ⟨trivial,.str s1,H1,?_,⟨ho1,hC1⟩,?_⟩
  · show aW Tryz.prog 284 [_] H _
    simp -implicitDefEqProofs only [go_sem];exact(aiG hF1 hV.obj).mono fun _ _ h=>⟨h.1,by rw [hH1];exact h.2⟩
  clear hH1;show WO Tryz.prog [oX 71 1 67 68,oS 1 71 70] [Fm.block 3,Fm.seq (AC.ops [oB 72 BinOp.add (AE.t 61) (AE.c (PV.int IntKind.i64 1)),oM 61 72])] (Ab K Q) _ _;have asb:(l.set i (({n with names:=done++n.names.drop k}:Nd),NV.m id' len cap))[i]? =some (({n with names:=done++n.names.drop k}:Nd),NV.m id' len cap):=hset;have asc:=hV1.own.Cj i _ asb;rw [if_pos (by rw [W8];exact hi)]at asc;obtain⟨_,hr1⟩:=asc;have hr1:aB H1 aF 1 (done++n.names.drop k) (.bP id' 0 len cap 1) [id']:=hr1;obtain⟨id2,C2,e2,_,_,_,_,_,hI2⟩:=aB.content hr1 hmem;obtain rfl:id'=id2:=by simpa using e2
  have aHg:jS 1 (.bP id' 0 len cap 1) (.int .i64 k)=some (.ref id' (k*1)):=hI2 .i64 k (by omega) (by omega);simp -implicitDefEqProofs only [go_sem,aHg];refine qd (f:=aF) (id:=id') (o:=k*1) (i:=k) (j:=0) (a:=n.names[k]) (y:=s1) (vs:=[.str s1]) aC rfl rfl hr1 hmem aC rfl rfl (by decide) rfl (fun H' r' hf' ok'=> ?_);have es:(done++n.names.drop k).set k s1=(done++[s1])++n.names.drop (k+1):=by
   rw [j7 _ _ (by omega),hd,L5,N1 (by omega),List.set_cons_zero,T1];rfl
  rw [es]at r';have hV2:=hV1.aHe (ns:=(done++[s1])++n.names.drop (k+1)) asb (by simp) r' hf';rw [List.set_set]at hV2;have hV2:lS H' (l.set i (({n with names:=(done++[s1])++n.names.drop (k+1)}:Nd),NV.m id' len cap)) v id o lo left cl c1:=hV2;have aHh:q≠id':=fun e=>hqy (P0.2 e);have hf2:HF (o::(NV.m id' len cap).ids) H H':=(hf1.up fun a ha=>by rw [P0.1 ha];exact A1).tr (hf'.up fun a ha=>I1 _ ha);have hw:IntKind.wrap .i64 ((k:Int)+1)=((k+1:Nat):Int):=by rw [IntKind.wrap_i64];omega
  simp -implicitDefEqProofs only [go_sem,s61,hw];refine hK _ _ (ih (k+1) (done++[s1]) c1 r2 _ H' (by simp [hd]) (by omega) hF2 hV2 aC aC aC aC (K0 hq hf2.1) ((hf'.2 q (K0 hq hf1.1) fun hm=>aHh (P0.1 hm)).trans ho1) fun σ' H3 g1 g2 g3 g4=> ?_);rw [T1]at g2;refine q0 σ' H3 (fun j h10 hj=>(g1 j h10 hj).trans ?_) g2 (hf2.tr g3) g4;have:j≠61/\j≠62/\j≠63/\j≠64/\j≠65/\j≠66/\j≠67/\j≠68/\j≠69/\j≠70/\j≠71/\j≠72:=by omega
  simp only [upd,h10,this,↓reduceIte]
end
def adO (left:List Str) (F:Nat) (bi:Bool) (n:Nd) (c:Int):Option (Nd×Int):=
 cond bi ((Jp left F n.names.length c).bind fun p=>some ({n with names:=p.1},p.2)) (some (n,c))
theorem azo {sz id o:Nat} {x w:AE} {σ:Nat->PV} {H:AH} {vs cs:List PV} (hx:x.ev σ= .ref id o) (hw:cellsOf (w.ev σ)=some vs) (ho:H.obj id=some cs) (h1:vs.length=sz) (h2:o+sz<=cs.length) (h3:vs.all PV.one=true):
 jc (.store sz x w) σ H=some (.any,H.put id (putCells cs o vs)):=by
 simp only [jc,hx,hw,ho];rw [if_pos ⟨h1,h2,h3⟩]
theorem Wp {P:Program} {Q:Post} {s:List Fm} {d:Option Nat} {l:List aD} {sz id o:Nat} {x w:AE} {σ:Nat->PV} {H:AH} {vs cs:List PV} (hx:x.ev σ= .ref id o) (hw:cellsOf (w.ev σ)=some vs) (ho:H.obj id=some cs) (h1:vs.length=sz) (h2:o+vs.length<=cs.length) (h3:vs.all PV.one=true)
 (h:WO P l s Q (upd σ d .any) (H.put id (putCells cs o vs))):WO P (⟨d,.d (.store sz x w),none⟩::l) s Q σ H:=by
 rw [dB,azo hx hw ho h1 (h1▸h2) h3];exact h
section
variable {l:List (Nd×NV)} {v:PV} {id o lo:Nat} {left:List Str} {cl:Ck} {i:Nat} {n n':Nd} {y:NV} {F q b:Nat} {c c':Int} {bi:Bool} {H:AH} {σ:Nat->PV} {Q:Post}
theorem azp (hV:lS H l v id o lo left cl c) (hx:l[i]? =some (n,y)) (hnl:n.names.length<=1000000) (Kn:q∉mF l id o) (hbM:b∉mF l id o) (hqb:q≠b) (s0:σ 0= .ref o 0) (s6:σ 6= .ref q 0) (s9:σ 9= .ref b 0) (hq:q<H.next) (hbl:b<H.next)
 (ho:H.obj q=some [.ref id (i*5)]) (Dx:H.obj b=some (kD (n,y))) (hbi:lY n.kind=some bi) (hF:adO left F bi n c=some (n',c'))
 (q0: ∀σ' H' (z:NV),(∀j,j≠10->j<45\/72<j->σ' j=σ j)->lS H' (l.set i (n',y)) v id o lo left cl c'->(bi=true->jF H' (n,z)/\ ∀a∈z.ids,H.next<=a)->HF (b::o::y.ids) H H'->H'.obj q=some [.ref id (i*5)]->H'.obj b=some (kD (n,z))->Q .normal σ' H'):W Tryz.prog TP Q σ H:=by
 obtain⟨id0,C,e1,hid,hC,hcell,hle,hdrop,hI⟩:=aB.content hV.own.row hx;obtain rfl:id=id0:=by simpa using e1
 have hi:=(S0.1 hx).1;have hy:jF H (n,y):=by
  have:=hV.own.Cj i _ hx;rw [if_pos hi]at this;exact this
 have c0:C[i*5]? =some (.int .i64 n.kind):=hcell 0 _ rfl;have c3:C[i*5+3]? =some y.pv:=hcell 3 _ rfl;refine aI ?_;unfold TP;simp -implicitDefEqProofs only [go_sem,s6,ho,hC,c0];refine av (adu hbi) ?_;cases bi
 case false=>
  cases hF;simp -implicitDefEqProofs only [go_sem];refine q0 _ H y (fun j h10 hj=> ?_) (by rw [UC hx];exact hV) (fun h=>by cases h) (HF.refl _ _) ho Dx;have:j≠45/\j≠46/\j≠47/\j≠48/\j≠49:=by omega
  simp only [upd,this,↓reduceIte]
 case true=>
  obtain⟨⟨ns,c2⟩,hF1,hF⟩:=aj hF;cases hF;simp -implicitDefEqProofs only [go_sem,s6,ho,hC,c3];refine aW.mono (afW hy hnl) ?_;rintro _ H1 ⟨z,rfl,hz,hzn,hf1,hok1⟩;have aHi:b≠id:=fun e=>hbM (by rw [e];exact I1 _ A1);have ho1:H1.obj q=some [.ref id (i*5)]:=(hf1.2 q hq D0).trans ho;have hC1:H1.obj id=some C:=(hf1.2 id hid D0).trans hC;have aHj:H1.obj b=some (kD (n,y)):=(hf1.2 b hbl D0).trans Dx;have hV1:=hV.new hf1 (fun a ha=>by cases ha);have hcz:cellsOf z.pv=some [z.pv]:=by cases z<;>rfl
  have hone:[z.pv].all PV.one=true:=by cases z<;>rfl
  have hput:putCells (kD (n,y)) 3 [z.pv]=kD (n,z):=by cases z<;>rfl
  simp -implicitDefEqProofs only [go_sem,s9];refine Wp (id:=b) (o:=3) (vs:=[z.pv]) (cs:=kD (n,y)) aC (by simp -implicitDefEqProofs only [go_sem,hcz]) aHj rfl (by show 4<=5;decide) hone ?_;rw [hput];obtain⟨H2,hH2⟩: ∃H2,H2=H1.put b (kD (n,z)):=⟨_,rfl⟩;rw [<-hH2];have hf2:HF [b] H1 H2:=by rw [hH2];exact HF.put (.inl (P0.2 rfl)) (HF.refl _ _)
  have aHk:H2.obj b=some (kD (n,z)):=by
   rw [hH2];show(if b=b then _ else _)=_;rw [if_pos rfl]
  clear hH2;have hb1:b<H1.next:=K0 hbl hf1.1;have ho2:H2.obj q=some [.ref id (i*5)]:=(hf2.2 q (K0 hq hf1.1) fun hm=>hqb (P0.1 hm)).trans ho1;have hC2:H2.obj id=some C:=(hf2.2 id (K0 hid hf1.1) fun hm=>aHi (P0.1 hm).symm).trans hC1;have hV2:=hV1.hf hf2 (fun a ha hm=>hbM (P0.1 hm▸ha));have hz2:jF H2 (n,z):=hz.hf hf2 fun a ha hm=>by have:=hzn a ha;rw [P0.1 hm]at this;omega
  have hq2:q<H2.next:=K0 hq (E1 hf1.1 hf2.1);have hb2:b<H2.next:=K0 hb1 hf2.1;have hlen:z8 y.pv=some (.int .i64 n.names.length):=(rJ.whole hy).len;simp -implicitDefEqProofs only [go_sem,s6,ho2,hC2,c3,hlen];have e0:(({n with names:=[]++n.names.drop 0}:Nd),y)=(n,y):=rfl;refine afX (i:=i) (n:=n) (y:=y) (F:=F) (q:=q) (l:=l) (v:=v) (id:=id) (o:=o) (lo:=lo) (left:=left) (cl:=cl) (by rw [hx];rfl) Kn hnl n.names.length 0 [] c ns _ H2 rfl (V1 _) hF1 (by rw [e0,UC hx];exact hV2) aC aC aC aC hq2 ho2 fun σ' H3 g1 g2 g3 g4=> ?_;have wC:HF [b] H H2:=(hf1.up fun a ha=>by cases ha).tr hf2;have hby:b∉y.ids:=fun hm=>hbM (I1 _ (I1 _ (Qs hx hm)));have JI:b≠o:=fun e=>hbM (by rw [e];exact A1);refine q0 σ' H3 z (fun j h10 hj=>(g1 j h10 (by omega)).trans ?_) g2 (fun _=>⟨hz2.hf g3 fun a ha hm=> ?_,hzn⟩) ((wC.up fun a ha=> ?_).tr (g3.up fun a ha=>I1 _ ha)) g4 ((g3.2 b hb2 fun hm=> ?_).trans aHk)
  · have:j≠45/\j≠46/\j≠47/\j≠48/\j≠49/\j≠50/\j≠51/\j≠52/\j≠53/\j≠54/\j≠55/\j≠56/\j≠57/\j≠58/\j≠59/\j≠60/\j≠61:=by omega
    simp only [upd,this,↓reduceIte]
  · have h1:=hzn a ha;have h2:a<H.next:=by
     rcases M1.1 hm with rfl|hm
     · exact hV.lt
     · exact hy.lt a hm
    omega
  · rw [P0.1 ha];exact A1
  · rcases M1.1 hm with rfl|hm
    · exact JI rfl
    · exact hby hm
end
section
variable {l:List (Nd×NV)} {v:PV} {id o lo:Nat} {left:List Str} {cl:Ck} {i:Nat} {n:Nd} {y:NV} {q j:Nat} {c:Int} {a b:List Str} {ids:List Nat} {v87:PV} {Q:Post}
theorem alH (hx:l[i]? =some (n,y)) (Kn:q∉mF l id o) (hb:iJ n (j:Int)=some b) (hab:a.length<=b.length) (hal:a.length<=1000000): ∀(m k:Nat) (sc:List Scope) (ck:Ck) (σ:Nat->PV) (H:AH),k+m=a.length->rJ H a v87 ids->lS H l v id o lo left cl c->aR H ck->
 σ 87=v87->σ 88= .int .i64 a.length->σ 89= .int .i64 k->σ 11= .int .i64 j->σ 13= .ah (sc.map Scope.cells) ck->σ 6= .ref q 0->q<H.next->H.obj q=some [.ref id (i*5)]->sc.length+m<=1000000000->
 (∀σ' H' Eu,(∀j,j≠13/\j≠14/\j≠15->j<89\/107<j->σ' j=σ j)->σ' 13= .ah ((sc++List.zipWith Scope.mk (a.drop k) (b.drop k)).map Scope.cells) Eu->HF [] H H'->Q (.exit 6) σ' H')->W Tryz.prog (.loop Mv) Q σ H:=by
 intro m
 induction m with
 |zero=>
  intro k sc ck σ H hk hB hV hok s87 s88 s89 s11 s13 s6 hq ho hsc q0;have hge:decide ((k:Int)<(a.length:Int))=false:=B0 (by omega);refine bB (fun K hK=>aI ?_);unfold Mv;simp -implicitDefEqProofs only [go_sem,s88,s89,hge];refine q0 _ H ck (fun j h10 hj=> ?_) ?_ (HF.refl _ _)
  · have:j≠90:=by omega
    simp only [upd,this,↓reduceIte]
  · rw [P4 (by omega),List.zipWith_nil_left,W3];simp -implicitDefEqProofs only [go_sem,s13]
 |succ m ih=>
  intro k sc ck σ H hk hB hV hok s87 s88 s89 s11 s13 s6 hq ho hsc q0;have hlt:decide ((k:Int)<(a.length:Int))=true:=g0 (by omega);obtain⟨id0,C,e1,hid,hC,hcell,hle,hdrop,hI⟩:=aB.content hV.own.row hx;obtain rfl:id=id0:=by simpa using e1
  have h5:=hle 5 (R0 _);have hy:jF H (n,y):=by
   have:=hV.own.Cj i _ hx;rw [if_pos (S0.1 hx).1]at this;exact this
  have hka:k<a.length:=by omega
  have hkb:k<b.length:=by omega
  obtain⟨Oz,aMt,Ca,i1,i2,i3,i4,i5⟩:=hB.at_ k a[k] (W2 hka);refine bB (fun K hK=>aI ?_);unfold Mv;simp -implicitDefEqProofs only [go_sem,s87,s88,s89,hlt,i1,i4,i5,s13,s6,ho,hC,hdrop,h5,s11];refine aW.mono (adK hy hb) ?_;rintro vb H1 ⟨hBb,hf1,hok1⟩;obtain⟨JV,aMu,Cb,j1,j2,j3,j4,j5⟩:=hBb.at_ k b[k] (W2 hkb);simp -implicitDefEqProofs only [go_sem,j1,j4,j5];refine gI (f:=Scope.cells) alG sc [⟨a[k],b[k]⟩] ck .exact aC aC (hok1 ck hok) (by simp;omega) (fun Eu H2 g1 g2 g3 g4=> ?_);have hf2:HF [] H1 H2:=⟨g2,fun i _ _=>g3 i⟩;have wC:=hf1.tr hf2;have hw:IntKind.wrap .i64 ((k:Int)+1)=((k+1:Nat):Int):=by rw [IntKind.wrap_i64];omega
  simp -implicitDefEqProofs only [go_sem,s89,hw];refine hK _ _ (ih (k+1) (sc++[⟨a[k],b[k]⟩]) Eu _ H2 (by omega) (hB.hf wC (fun _ _ h=>by cases h)) (hV.new wC (fun _ h=>by cases h)) g1 aC aC aC aC aC aC (K0 hq wC.1) ((wC.2 q hq D0).trans ho) (by simp;omega) fun σ' H3 ck3 g1 g2 g3=> ?_);refine q0 σ' H3 ck3 (fun j h10 hj=>(g1 j h10 hj).trans ?_) ?_ (wC.tr g3)
  · have:j≠89/\j≠90/\j≠91/\j≠92/\j≠93/\j≠94/\j≠95/\j≠96/\j≠97/\j≠98/\j≠99/\j≠100/\j≠101/\j≠102/\j≠103/\j≠104/\j≠105/\j≠106/\j≠107:=by omega
    simp only [upd,h10,this,↓reduceIte]
  · rw [g2,N1 hka,N1 hkb,List.zipWith_cons_cons,T1];rfl
end
theorem alI {H:AH} {n:Nd} {z:NV} {p:Nat} (hk:n.kind=16\/n.kind=17):aW Tryz.prog 240 [.agg (kD (n,z)),.int .i64 p] H fun v H'=>rJ H' [] v z.ids/\HF [] H H'/\ ∀c,aR H c->aR H' c:=by
 refine aL aia (by simp) (aI ?_);have hnew:HF [] H (H.new (kD (n,z))):=HF.new (HF.refl _ _);have hok: ∀c,aR H c->aR (H.new (kD (n,z))) c:=fun c k=>k.new;have h10:kX n.kind=some false:=by rcases hk with h|h<;>rw [h]<;>rfl
 have e21:(n.kind==23)=false:=by rcases hk with h|h<;>rw [h]<;>rfl
 unfold aa3;simp -implicitDefEqProofs only [go_sem,dB,kD,R0];refine(OT n.kind).c _ _ ⟨(by simp -implicitDefEqProofs only [go_sem]),trivial⟩ _ h10 _ fun σ' IZ s15=> ?_
 replace s15:=s15.1
 have s16:σ' 2=(.ref H.next 0):=(IZ 2 (by decide)).trans (by simp -implicitDefEqProofs only [go_sem]);have Cu:σ' 5=(.bool ((p:Int)==(IntKind.wrap .i64 ((n.args.length:Int) -1)))):=(IZ 5 (by decide)).trans (by simp -implicitDefEqProofs only [go_sem]);have ow:σ' 13=(.int .i64 n.kind):=(IZ 13 (by decide)).trans (by simp -implicitDefEqProofs only [go_sem]);clear IZ;simp -implicitDefEqProofs only [go_sem,dB,s15,s16,Cu,ow,e21];exact⟨rJ.nil,hnew,hok⟩
theorem alJ {n:Nd} {j:Int} {r:List Str} (hk:n.kind=16\/n.kind=17) (h:iJ n j=some r):r=[]:=by
 have h10:kX n.kind=some false:=by rcases hk with h|h<;>rw [h]<;>rfl
 have e21:(n.kind==23)=false:=by rcases hk with h|h<;>rw [h]<;>rfl
 unfold iJ at h;rw [h10,W0,O2,e21,O2]at h;exact(aaW h).symm
theorem ZK {k:Int} (h:lY k=some false):k=16\/k=17:=by
 unfold lY at h;obtain⟨e,h⟩|⟨e,h⟩:=aJ h
 · right;have:=aaW h;simpa using this
 · left;simpa using e
abbrev ajh:=List Nd->Int->Nat->List Scope->Option (List Nd×Int)
def PK (rec:ajh) (old:Nd) (i:Nat) (bound:List Scope):List Int->Nat->List Nd->Int->Option (List Nd×Int)
 |[],_,out,c=>some (out,c)
 |a::l,j,out,c=>Option.bind out[i]? fun n=>(iJ old (j:Int)).bind fun x=>(iJ n (j:Int)).bind fun y=>
  if x.length<=y.length/\x.length<=1000000/\0<=a then (rec out c a.toNat (bound++List.zipWith Scope.mk x y)).bind fun p=>PK rec old i bound l (j+1) p.1 p.2 else none
def KJ (left:List Str) (F:Nat):Nat->ajh
 |0=>fun _ _ _ _=>none
 |k+1=>fun out c i bound=>Option.bind out[i]? fun n=>(nR F n).bind fun nm=>(lY n.kind).bind fun bi=>
  let n1:Nd:={n with text:=if nm=true then l8 bound n.text else n.text}
  (adO left F bi n1 c).bind fun p=>if bound.length<=1000000/\n.names.length<=1000000/\n.args.length<=1000000 then PK (KJ left F k) n1 i bound n.args 0 (out.set i p.1) p.2 else none
def Bv (taken:List Str) (F:Nat) (fx:Bool):List Str->Int->Option (List Str×Int)
 |[],c=>some ([],c)
 |s::l,c=>(cond fx (some (s,c)) (Ei taken F c)).bind fun p=>(Bv taken F fx l p.2).bind fun r=>some (p.1::r.1,r.2)
def kR (n:Nd) (v:PV):List PV:=[.int .i64 n.kind,.int .i64 n.n,.str n.text,v,.ah (n.args.map aK) .unk]
section
variable {taken:List Str} {F:Nat} {fx:Bool} {n:Nd} {o p b:Nat} {cl:Ck} {Q:Post} {c':Int}
theorem auz (hn:n.names.length<=1000000) (hop:o≠p) (Dx:o≠b) (hpb:p≠b): ∀(m i:Nat) (done:List Str) (ck:Ck) (c:Int) (ns:List Str) (σ:Nat->PV) (H:AH),i+m=n.names.length->done.length=i->Bv taken F fx (n.names.drop i) c=some (ns,c')->
 H.obj o=some [.ah (taken.map aF) cl,.int .i64 c]->H.obj p=some (kR n (.ah (done.map aF) ck))->H.obj b=some (kR n (.ah (n.names.map aF) .unk))->o<H.next->p<H.next->b<H.next->aR H ck->
 σ 0= .ref o 0->σ 9= .ref p 0->σ 10= .ref b 0->σ 11= .bool fx->σ 12= .int .i64 i->
 (∀σ' H' Eu,(∀j,j≠12->j<39\/63<j->σ' j=σ j)->H'.obj o=some [.ah (taken.map aF) cl,.int .i64 c']->H'.obj p=some (kR n (.ah ((done++ns).map aF) Eu))->HF [o,p] H H'->(∀c3,aR H c3->ku ck c3->aR H' c3)->Q (.exit 0) σ' H')->W Tryz.prog (.loop IL) Q σ H:=by
 intro m
 induction m with
 |zero=>
  intro i done ck c ns σ H hi hd h ho hp hb lo lp lb hok s0 s9 s10 s11 s12 q0;rw [P4 (by omega)]at h;cases h;have hge:decide ((i:Int)<(n.names.length:Int))=false:=B0 (by omega);refine bB (fun K hK=>aI ?_);unfold IL;have hb':=hb;unfold kR at hb';simp -implicitDefEqProofs only [go_sem,s10,s12,hb',hge];refine q0 _ H ck (fun j h12 hj=> ?_) ho (by rw [W3];exact hp) (HF.refl _ _) (fun c3 h _=>h);have:j≠39/\j≠40/\j≠41/\j≠42/\j≠43:=by omega
  simp only [upd,this,↓reduceIte]
 |succ m ih=>
  intro i done ck c ns σ H hi hd h ho hp hb lo lp lb hok s0 s9 s10 s11 s12 q0;have hin:i<n.names.length:=by omega
  rw [N1 hin,Bv]at h;obtain⟨⟨s1,c1⟩,h1,h2⟩:=aj h;obtain⟨⟨r2,c2⟩,h3,h4⟩:=aj h2;cases h4;clear h h2;have hlt:decide ((i:Int)<(n.names.length:Int))=true:=g0 (by omega);have hget:(n.names.map aF)[i]? =some (aF n.names[i]):=by rw [J0,W2 hin];rfl
  have hw:IntKind.wrap .i64 ((i:Int)+1)=((i+1:Nat):Int):=by rw [IntKind.wrap_i64];omega
  refine bB (fun K hK=>aI ?_);unfold IL;have hb':=hb;have hp':=hp;unfold kR at hb' hp';simp -implicitDefEqProofs only [go_sem,s10,s11,s12,hb',hlt];have hput: ∀v v':PV,putCells (kR n v) 3 [v']=kR n v':=fun _ _=>rfl;cases fx with
  |true=>
   cases h1;simp -implicitDefEqProofs only [go_sem];refine oH ?_;simp -implicitDefEqProofs only [go_sem,s9,s10,s12,hp',hb',hget];refine gI (f:=aF) lG done [n.names[i]] ck .exact aC aC hok (by simp;omega) (fun Eu H2 g1 g2 g3 g4=> ?_);simp -implicitDefEqProofs only [go_sem,s9];refine Wp (id:=p) (o:=3) (vs:=[.ah ((done++[n.names[i]]).map aF) Eu]) (cs:=kR n (.ah (done.map aF) ck)) aC aC ((g3 p).trans hp) rfl (by show 4<=5;decide) rfl ?_;rw [hput];simp -implicitDefEqProofs only [go_sem,s12,hw];obtain⟨H3,hH3⟩: ∃H3,H3=H2.put p (kR n (.ah ((done++[n.names[i]]).map aF) Eu)):=⟨_,rfl⟩;rw [<-hH3];have op3: ∀j,j≠p->H3.obj j=H2.obj j:=fun j hj=>by rw [hH3];show(if j=p then _ else _)=_;rw [if_neg hj]
   have pp3:H3.obj p=some (kR n (.ah ((done++[n.names[i]]).map aF) Eu)):=by rw [hH3];show(if p=p then _ else _)=_;rw [if_pos rfl]
   have nx3:H3.next=H2.next:=by rw [hH3];rfl
   have ok3: ∀c3,aR H2 c3->aR H3 c3:=fun c3 h=>by rw [hH3];exact h.put
   clear hH3;have hf3:HF [o,p] H H3:=⟨by rw [nx3];exact g2,fun a ha hm=>by
    rw [op3 a (fun e=>hm (by rw [e];simp)),g3]⟩
   refine hK _ _ (ih (i+1) (done++[n.names[i]]) Eu c r2 _ H3 (by omega) (by simp [hd]) h3 ((op3 o hop).trans ((g3 o).trans ho)) pp3 ((op3 b (B3 hpb)).trans ((g3 b).trans hb)) (by omega) (by omega) (by omega) (ok3 _ g1) aC aC aC aC aC fun σ' H4 ck4 k1 k2 k3 k4 k5=> ?_);rw [T1]at k3;refine q0 σ' H4 ck4 (fun j h12 hj=>(k1 j h12 hj).trans ?_) k2 k3 (hf3.tr k4) (fun c3 a1 a2=>k5 c3 (ok3 _ (g4 c3 a1 a2).1) (g4 c3 a1 a2).2);have:j≠39/\j≠40/\j≠41/\j≠42/\j≠43/\j≠44/\j≠45/\j≠46/\j≠47/\j≠48/\j≠49/\j≠50/\j≠51/\j≠52/\j≠53/\j≠54/\j≠55/\j≠56:=by omega
   simp only [upd,h12,this,↓reduceIte]
  |false=>
   simp -implicitDefEqProofs only [go_sem];obtain⟨H1,hH1⟩: ∃H1,H1=H.put o [.ah (taken.map aF) cl,.int .i64 c1]:=⟨_,rfl⟩;have op1: ∀j,j≠o->H1.obj j=H.obj j:=fun j hj=>by rw [hH1];show(if j=o then _ else _)=_;rw [if_neg hj]
   have oo1:H1.obj o=some [.ah (taken.map aF) cl,.int .i64 c1]:=by rw [hH1];show(if o=o then _ else _)=_;rw [if_pos rfl]
   have nx1:H1.next=H.next:=by rw [hH1];rfl
   have ok1: ∀c3,aR H c3->aR H1 c3:=fun c3 h=>by rw [hH1];exact h.put
   have hp1:H1.obj p=some (kR n (.ah (done.map aF) ck)):=(op1 p (B3 hop)).trans hp;refine⟨fun H'=>H'.obj p=some (kR n (.ah (done.map aF) ck)),hp,?_⟩;refine dR (.ref p 3) (fun H' hC'=>by simp -implicitDefEqProofs only [go_sem,s9]) ?_;refine dR (.ah (done.map aF) ck) (fun H' hC'=>by
    unfold kR at hC';simp -implicitDefEqProofs only [go_sem,hC']) ?_
   refine dR (.ref o 0) (fun H' hC'=>by simp -implicitDefEqProofs only [go_sem,s0]) ?_;refine .inr ⟨trivial,.str s1,H1,?_,hp1,?_⟩
   · show aW Tryz.prog 263 [_] H _
     simp -implicitDefEqProofs only [go_sem];exact(ajg h1 ho).mono fun _ _ h=>⟨h.1,by rw [hH1];exact h.2⟩
   clear hH1;refine dR (.ah [[.str s1]] .exact) (fun H' hC'=>by simp -implicitDefEqProofs only [go_sem]) ?_;show WO Tryz.prog [{dst:=some 62,k:=AK.d (DK.app 1 16 (AE.t 58) (AE.t 61)),g:=none},oF 63 3 9,oS 1 63 62] [Fm.block 1,Fm.seq (AC.ops [oM 44 12,oB 45 BinOp.add (AE.t 44) (AE.c (PV.int IntKind.i64 1)),oM 12 45])] (Ab K Q) _ _;refine gI (f:=aF) lG done [s1] ck .exact aC aC (ok1 _ hok) (by simp;omega) (fun Eu H2 g1 g2 g3 g4=> ?_);simp -implicitDefEqProofs only [go_sem,s9];refine Wp (id:=p) (o:=3) (vs:=[.ah ((done++[s1]).map aF) Eu]) (cs:=kR n (.ah (done.map aF) ck)) aC aC ((g3 p).trans hp1) rfl (by show 4<=5;decide) rfl ?_;rw [hput];simp -implicitDefEqProofs only [go_sem,s12,hw];obtain⟨H3,hH3⟩: ∃H3,H3=H2.put p (kR n (.ah ((done++[s1]).map aF) Eu)):=⟨_,rfl⟩;rw [<-hH3];have op3: ∀j,j≠p->H3.obj j=H2.obj j:=fun j hj=>by rw [hH3];show(if j=p then _ else _)=_;rw [if_neg hj]
   have pp3:H3.obj p=some (kR n (.ah ((done++[s1]).map aF) Eu)):=by rw [hH3];show(if p=p then _ else _)=_;rw [if_pos rfl]
   have nx3:H3.next=H2.next:=by rw [hH3];rfl
   have ok3: ∀c3,aR H2 c3->aR H3 c3:=fun c3 h=>by rw [hH3];exact h.put
   clear hH3;have hf3:HF [o,p] H H3:=⟨by omega,fun a ha hm=>by
    rw [op3 a (fun e=>hm (by rw [e];simp)),g3,op1 a (fun e=>hm (by rw [e];simp))]⟩
   refine hK _ _ (ih (i+1) (done++[s1]) Eu c1 r2 _ H3 (by omega) (by simp [hd]) h3 ((op3 o hop).trans ((g3 o).trans oo1)) pp3 ((op3 b (B3 hpb)).trans ((g3 b).trans ((op1 b (B3 Dx)).trans hb))) (by omega) (by omega) (by omega) (ok3 _ g1) aC aC aC aC aC fun σ' H4 ck4 k1 k2 k3 k4 k5=> ?_);rw [T1]at k3;refine q0 σ' H4 ck4 (fun j h12 hj=>(k1 j h12 hj).trans ?_) k2 k3 (hf3.tr k4) (fun c3 a1 a2=>k5 c3 (ok3 _ (g4 c3 (ok1 _ a1) a2).1) (g4 c3 (ok1 _ a1) a2).2);have:j≠39/\j≠40/\j≠41/\j≠42/\j≠43/\j≠44/\j≠45/\j≠46/\j≠57/\j≠58/\j≠59/\j≠60/\j≠61/\j≠62/\j≠63:=by omega
   simp only [upd,h12,this,↓reduceIte]
end
theorem aoI {P:Program} {C:AH->Prop} {α:Type} {d:Option Nat} {l:List (aD×Bool)} {K:(Nat->PV)->AH->Prop} {σ:Nat->PV} {H:AH} {sz b:Nat} {x y:AE} {f:α->List PV} (hf: ∀x,kC sz (f x)) (xs ys:List α) (c c2:Ck)
 (hx:x.ev σ= .ah (xs.map f) c) (hy:KS (y.ev σ)= .ah (ys.map f) c2) (hok:aR H c) (hb:(xs.length+ys.length)*b<=1099511627776)
 (h: ∀c' H',aR H' c'->H.next<=H'.next->(∀i,H'.obj i=H.obj i)->(∀c3,aR H c3->ku c c3->aR H' c3/\ku c' c3)->C H'/\jd P C l K (upd σ d (.ah ((xs++ys).map f) c')) H'):
 jd P C ((⟨d,.d (.app sz b x y),none⟩,true)::l) K σ H:=by
 obtain⟨c',H',f1,f2,f3,f4,f5⟩:=agX hf xs ys c c2 hx hy hok hb;obtain⟨h1,h2⟩:=h c' H' f2 f3 f4 f5;exact Vj _ H' f1 h1 h2
def PL (F:Nat) (old nn:List Str):List Str->Option (List Str)
 |[]=>some []
 |s::l=>(Ay F old s).bind fun j=>if 0<=j then Option.bind nn[j.toNat]? fun t=>(PL F old nn l).bind fun r=>some (t::r)else none
section
variable {F:Nat} {n:Nd} {p b:Nat} {bs nn:List Str} {Wq:Ck} {Q:Post}
theorem auA (hbs:bs.length<=1000000): ∀(m j:Nat) (bd cd:List Str) (c16 c17:Ck) (ms:List Str) (σ:Nat->PV) (H:AH),j+m=bs.length->PL F n.names nn (bs.drop j)=some ms->
 H.obj p=some (kR n (.ah (nn.map aF) Wq))->H.obj b=some (kR n (.ah (n.names.map aF) .unk))->aR H c16->aR H c17->ku c16 c17->bd.length+m<=100000000->cd.length+m<=100000000->
 σ 9= .ref p 0->σ 10= .ref b 0->σ 15= .ah (bs.map aF) .unk->σ 16= .ah (bd.map aF) c16->σ 17= .ah (cd.map aF) c17->σ 18= .int .i64 j->
 (∀σ' H' aji aoJ,(∀j,j≠16/\j≠17/\j≠18->j<78\/104<j->σ' j=σ j)->σ' 16= .ah ((bd++bs.drop j).map aF) aji->σ' 17= .ah ((cd++ms).map aF) aoJ->HF [] H H'->(∀c3,aR H c3->ku c16 c3->ku c17 c3->aR H' c3)->Q (.exit 4) σ' H')->W Tryz.prog (.loop Mq) Q σ H:=by
 intro m
 induction m with
 |zero=>
  intro j bd cd c16 c17 ms σ H hj h hp hb k16 k17 hd hl1 hl2 s9 s10 s15 s16 Cu ow q0;rw [P4 (by omega)]at h;cases h;have hge:decide ((j:Int)<(bs.length:Int))=false:=B0 (by omega);refine bB (fun K hK=>aI ?_);unfold Mq;simp -implicitDefEqProofs only [go_sem,s15,ow,hge];refine q0 _ H c16 c17 (fun i h12 hj=> ?_) ?_ ?_ (HF.refl _ _) (fun c3 h _ _=>h)
  · have:i≠78/\i≠79/\i≠80/\i≠81:=by omega
    simp only [upd,this,↓reduceIte]
  · rw [P4 (by omega),W3];simp -implicitDefEqProofs only [go_sem,s16]
  · rw [W3];simp -implicitDefEqProofs only [go_sem,Cu]
 |succ m ih=>
  intro j bd cd c16 c17 ms σ H hj h hp hb k16 k17 hd hl1 hl2 s9 s10 s15 s16 Cu ow q0;have hjn:j<bs.length:=by omega
  rw [N1 hjn,PL]at h;obtain⟨a,ha,h1⟩:=aj h;obtain⟨ha0,h2⟩:=aX h1;obtain⟨t,ht,h3⟩:=aj h2;obtain⟨r,hr,h4⟩:=aj h3;cases h4;clear h h1 h2 h3;have hlt:decide ((j:Int)<(bs.length:Int))=true:=g0 (by omega);have hget:(bs.map aF)[j]? =some (aF bs[j]):=by rw [J0,W2 hjn];rfl
  have aCZ:(nn.map aF)[a.toNat]? =some (aF t):=by rw [J0,ht];rfl
  have hw:IntKind.wrap .i64 ((j:Int)+1)=((j+1:Nat):Int):=by rw [IntKind.wrap_i64];omega
  refine bB (fun K hK=>aI ?_);unfold Mq;simp -implicitDefEqProofs only [go_sem,s15,ow,hlt];refine⟨fun H'=>H'.obj p=some (kR n (.ah (nn.map aF) Wq))/\H'.obj b=some (kR n (.ah (n.names.map aF) .unk)),⟨hp,hb⟩,?_⟩;refine dR (.ah (bd.map aF) c16) (fun H' hC'=>by simp -implicitDefEqProofs only [go_sem,s16]) ?_;refine dR (.ah (bs.map aF) .unk) (fun H' hC'=>by simp -implicitDefEqProofs only [go_sem,s15]) ?_;refine dR (.int .i64 j) (fun H' hC'=>by simp -implicitDefEqProofs only [go_sem,ow]) ?_;refine dR (.cK (aF bs[j]) 0) (fun H' hC'=>by simp -implicitDefEqProofs only [go_sem,hget]) ?_;refine dR (.str bs[j]) (fun H' hC'=>by simp -implicitDefEqProofs only [go_sem,aF]) ?_;refine dR (.ah [[.str bs[j]]] .exact) (fun H' hC'=>by simp -implicitDefEqProofs only [go_sem]) ?_;refine aoI (f:=aF) lG bd [bs[j]] c16 .exact aC aC k16 (by simp;omega) (fun aji H2 g1 g2 g3 g4=> ?_);have hp2:=(g3 p).trans hp;have hb2:=(g3 b).trans hb;refine⟨⟨hp2,hb2⟩,?_⟩;refine dR (.ah (cd.map aF) c17) (fun H' hC'=>by simp -implicitDefEqProofs only [go_sem,Cu]) ?_;refine dR (.ref p 3) (fun H' hC'=>by simp -implicitDefEqProofs only [go_sem,s9]) ?_;refine dR (.ah (nn.map aF) Wq) (fun H' hC'=>by
   have hC':=hC'.1;unfold kR at hC';simp -implicitDefEqProofs only [go_sem,hC']) ?_
  refine dR (.ref b 3) (fun H' hC'=>by simp -implicitDefEqProofs only [go_sem,s10]) ?_;refine dR (.ah (n.names.map aF) .unk) (fun H' hC'=>by
   have hC':=hC'.2;unfold kR at hC';simp -implicitDefEqProofs only [go_sem,hC']) ?_
  refine dR (.ah (bs.map aF) .unk) (fun H' hC'=>by simp -implicitDefEqProofs only [go_sem,s15]) ?_;refine dR (.int .i64 j) (fun H' hC'=>by simp -implicitDefEqProofs only [go_sem,ow]) ?_;refine dR (.cK (aF bs[j]) 0) (fun H' hC'=>by simp -implicitDefEqProofs only [go_sem,hget]) ?_;refine dR (.str bs[j]) (fun H' hC'=>by simp -implicitDefEqProofs only [go_sem,aF]) ?_;refine Ch (.int .i64 a) (by simp -implicitDefEqProofs only [go_sem];exact alB ha) ?_;refine dR (.cK (aF t) 0) (fun H' hC'=>by simp -implicitDefEqProofs only [go_sem,aCZ,ha0]) ?_;refine dR (.str t) (fun H' hC'=>by simp -implicitDefEqProofs only [go_sem,aF]) ?_;refine dR (.ah [[.str t]] .exact) (fun H' hC'=>by simp -implicitDefEqProofs only [go_sem]) ?_;show WO Tryz.prog [{dst:=some 104,k:=AK.d (DK.app 1 16 (AE.t 91) (AE.t 103)),g:=none},oM 16 90,oM 17 104] [Fm.block 5,Fm.seq (AC.ops [oM 82 18,oB 83 BinOp.add (AE.t 82) (AE.c (PV.int IntKind.i64 1)),oM 18 83])] (Ab K Q) _ _;obtain⟨aHl,aHm⟩:=g4 c17 k17 hd;refine gI (f:=aF) lG cd [t] c17 .exact aC aC aHl (by simp;omega) (fun aoJ H3 e1 e2 e3 e4=> ?_);simp -implicitDefEqProofs only [go_sem,ow,hw];have hf3:HF [] H H3:=⟨E1 g2 e2,fun a _ _=>(e3 a).trans (g3 a)⟩;obtain⟨aoK,aHn⟩:=e4 aji g1 aHm.symm;refine hK _ _ (ih (j+1) (bd++[bs[j]]) (cd++[t]) aji aoJ r _ H3 (by omega) hr ((e3 p).trans hp2) ((e3 b).trans hb2) aoK e1 aHn.symm (by simp;omega) (by simp;omega) aC aC aC aC aC aC fun σ' H4 u16 u17 v1 v2 v3 v4 v5=> ?_);rw [T1]at v2 v3;refine q0 σ' H4 u16 u17 (fun i h12 hj=>(v1 i h12 hj).trans ?_) ?_ v3 (hf3.tr v4) (fun c3 w1 w2 w3=> ?_)
  · have:i≠78/\i≠79/\i≠80/\i≠81/\i≠82/\i≠83/\i≠84/\i≠85/\i≠86/\i≠87/\i≠88/\i≠89/\i≠90/\i≠91/\i≠92/\i≠93/\i≠94/\i≠95/\i≠96/\i≠97/\i≠98/\i≠99/\i≠100/\i≠101/\i≠102/\i≠103/\i≠104:=by omega
    simp only [upd,h12,this,↓reduceIte]
  · rw [v2,N1 hjn];rfl
  · obtain⟨x1,x2⟩:=g4 c3 w1 w2;obtain⟨y1,y2⟩:=e4 c3 x1 w3;exact v5 c3 y1 x2 y2
end
theorem ag4 (l:List Str) (hl:l.length<=1000000) (H:AH):aW Tryz.prog 62 [.ah (l.map aF) .unk] H fun v H'=> ∃c',v= .ah (l.map aF) c'/\aR H' c'/\HF [] H H'/\ ∀c3,aR H c3->aR H' c3/\ku c' c3:=by
 refine aL ace (by simp) (aI ?_);unfold XI;simp -implicitDefEqProofs only [go_sem];refine gI (f:=aF) lG [] l .exact .unk aC aC trivial (by simp;omega) (fun c' H' g1 g2 g3 g4=> ?_);simp -implicitDefEqProofs only [go_sem];exact⟨c',rfl,g1,⟨g2,fun a _ _=>g3 a⟩,fun c3 h=>g4 c3 h (fun t e=>by cases e)⟩
abbrev ajj:=List Nd->Int->List Str->List Str->Option (List Nd×Int)
def Jq (rec:ajj) (F:Nat) (e:List Nd) (old:Nd) (nn bound called:List Str):Nat->Nat->Int->Option (List (List Nd)×Int)
 |0,_,c=>some ([],c)
 |m+1,i,c=>(vT old (i:Int)).bind fun bs=>(PL F old.names nn bs).bind fun ms=>(qy F e (i:Int)).bind fun sub=>
  if bs.length<=1000000/\ms.length=bs.length then (rec sub c (bound++bs) (called++ms)).bind fun p=>(Jq rec F e old nn bound called m (i+1) p.2).bind fun q=>some (p.1::q.1,q.2)else none
def azs (o:Nat) (taken:List Str) (cl:Ck) (rec:ajj):Prop:=
 ∀(e:List Nd) (c:Int) (bound called:List Str) (r:List Nd) (c':Int),rec e c bound called=some (r,c')-> ∀H:AH,H.obj o=some [.ah (taken.map aF) cl,.int .i64 c]->o<H.next->
   aW Tryz.prog 222 [.ref o 0,gH e,.ah (bound.map aF) .unk,.ah (called.map aF) .unk] H fun v H'=>v=gH r/\H'.obj o=some [.ah (taken.map aF) cl,.int .i64 c']/\HF [o] H H'/\ ∀c3,aR H c3->aR H' c3
section
variable {taken:List Str} {F o p b:Nat} {cl Wq:Ck} {rec:ajj} {e:List Nd} {old:Nd} {nn bound called:List Str} {Q:Post} {c':Int}
theorem auB (hrec:azs o taken cl rec) (hop:o≠p) (Dx:o≠b) (ha:old.args.length<=1000000) (hb1:bound.length<=1000000) (hb2:called.length<=1000000):
 ∀(m i:Nat) (parts ps:List (List Nd)) (ck:Ck) (c:Int) (σ:Nat->PV) (H:AH),i+m=old.args.length->Jq rec F e old nn bound called m i c=some (ps,c')->
 H.obj o=some [.ah (taken.map aF) cl,.int .i64 c]->H.obj p=some (kR old (.ah (nn.map aF) Wq))->H.obj b=some (kR old (.ah (old.names.map aF) .unk))->o<H.next->p<H.next->b<H.next->aR H ck->parts.length+m<=100000000->
 σ 0= .ref o 0->σ 1=gH e->σ 2= .ah (bound.map aF) .unk->σ 3= .ah (called.map aF) .unk->σ 9= .ref p 0->σ 10= .ref b 0->σ 13= .ah (parts.map (bR Nd.cells)) ck->σ 14= .int .i64 i->
 (∀σ' H' Eu,σ' 9= .ref p 0->σ' 13= .ah ((parts++ps).map (bR Nd.cells)) Eu->H'.obj o=some [.ah (taken.map aF) cl,.int .i64 c']->HF [o] H H'->(∀c3,aR H c3->ku ck c3->aR H' c3)->Q (.exit 2) σ' H')->W Tryz.prog (.loop IQ) Q σ H:=by
 intro m
 induction m with
 |zero=>
  intro i parts ps ck c σ H hi h ho hp hb lo lp lb hok hpl s0 s1 s2 s3 s9 s10 s13 QN q0;cases h;have hge:decide ((i:Int)<(old.args.length:Int))=false:=B0 (by omega);refine bB (fun K hK=>aI ?_);unfold IQ;have hb':=hb;unfold kR at hb';simp -implicitDefEqProofs only [go_sem,s10,QN,hb',hge];exact q0 _ H ck aC (by rw [W3];simp -implicitDefEqProofs only [go_sem,s13]) ho (HF.refl _ _) (fun c3 h _=>h)
 |succ m ih=>
  intro i parts ps ck c σ H hi h ho hp hb lo lp lb hok hpl s0 s1 s2 s3 s9 s10 s13 QN q0;rw [Jq]at h;obtain⟨bs,hbs,h1⟩:=aj h;obtain⟨ms,hms,h2⟩:=aj h1;obtain⟨sub,hsub,h3⟩:=aj h2;obtain⟨⟨hbl,hml⟩,h4⟩:=aX h3;obtain⟨⟨r1,c1⟩,hr,h5⟩:=aj h4;obtain⟨⟨qs,c2⟩,hq,h6⟩:=aj h5;cases h6;clear h h1 h2 h3 h4 h5;have hlt:decide ((i:Int)<(old.args.length:Int))=true:=g0 (by omega);have hw:IntKind.wrap .i64 ((i:Int)+1)=((i+1:Nat):Int):=by rw [IntKind.wrap_i64];omega
  refine bB (fun K hK=>aI ?_);unfold IQ;have hb':=hb;unfold kR at hb';simp -implicitDefEqProofs only [go_sem,s10,QN,hb',hlt,V1,R0,List.take,List.drop];refine av (Zo hbs) ?_;simp -implicitDefEqProofs only [go_sem,s2];refine aW.mono (ag4 bound hb1 H) ?_;rintro _ H1 ⟨c16,rfl,k16,hf1,kk1⟩;simp -implicitDefEqProofs only [go_sem,s3];refine aW.mono (ag4 called hb2 H1) ?_;rintro _ H2 ⟨c17,rfl,k17,hf2,kk2⟩;simp -implicitDefEqProofs only [go_sem];have wC:=hf1.tr hf2;obtain⟨aoK,d1⟩:=kk2 c16 k16;have hp2:=(wC.2 p lp D0).trans hp;have hb2':=(wC.2 b lb D0).trans hb;have ho2:=(wC.2 o lo D0).trans ho;refine auA (n:=old) (p:=p) (b:=b) (bs:=bs) (nn:=nn) (Wq:=Wq) (F:=F) hbl bs.length 0 bound called c16 c17 ms _ H2 (V1 _) (by rw [P1];exact hms) hp2 hb2' aoK k17 d1.symm (by omega) (by omega) aC aC aC aC aC aC fun σ' H3 u16 u17 fr e16 e17 hf3 kk3=> ?_;rw [P1]at e16;have t0:σ' 0= .ref o 0:=(fr 0 (by decide) (by decide)).trans aC;have t1:σ' 1=gH e:=(fr 1 (by decide) (by decide)).trans aC;have t2:σ' 2= .ah (bound.map aF) .unk:=(fr 2 (by decide) (by decide)).trans aC;have t3:σ' 3= .ah (called.map aF) .unk:=(fr 3 (by decide) (by decide)).trans aC;have t9:σ' 9= .ref p 0:=(fr 9 (by decide) (by decide)).trans aC;have t10:σ' 10= .ref b 0:=(fr 10 (by decide) (by decide)).trans aC;have t13:σ' 13= .ah (parts.map (bR Nd.cells)) ck:=(fr 13 (by decide) (by decide)).trans aC;have t14:σ' 14= .int .i64 i:=(fr 14 (by decide) (by decide)).trans aC;have aoL:=wC.tr hf3;have lo3:o<H3.next:=K0 lo aoL.1;have ho3:=(aoL.2 o lo D0).trans ho;have azt: ∀c3,aR H c3->aR H3 c3:=fun c3 h=>by
   obtain⟨x1,x2⟩:=kk1 c3 h;obtain⟨y1,y2⟩:=kk2 c3 x1;exact kk3 c3 y1 x2 y2
  simp -implicitDefEqProofs only [go_sem,t0,t1,t13,t14];refine av (afU hsub) ?_;simp -implicitDefEqProofs only [go_sem,e16,e17];refine aW.mono (aW.wk (hrec _ _ _ _ _ _ hr H3 ho3 lo3) (.same (.same (.ah (.ah .nil))))) ?_;rintro _ H4 ⟨rfl,ho4,hf4,kk4⟩;simp -implicitDefEqProofs only [go_sem];refine gI (f:=bR Nd.cells) IG parts [r1] ck .exact aC aC (kk4 _ (azt _ hok)) (by simp;omega) (fun ck5 H5 g1 g2 g3 g4=> ?_);simp -implicitDefEqProofs only [go_sem,t14,hw];have Q6:HF [] H4 H5:=⟨g2,fun a _ _=>g3 a⟩;have axH:HF [o] H H4:=(aoL.up fun a ha=>by cases ha).tr hf4;have OQ:HF [o] H H5:=axH.tr (Q6.up fun a ha=>by cases ha);have azv: ∀c3,aR H c3->ku ck c3->aR H5 c3/\ku ck5 c3:=fun c3 w1 w2=>g4 c3 (kk4 _ (azt _ w1)) w2;have op5:H5.obj p=some (kR old (.ah (nn.map aF) Wq)):=(OQ.2 p lp (fun hm=>hop (P0.1 hm).symm)).trans hp;have ob5:H5.obj b=some (kR old (.ah (old.names.map aF) .unk)):=(OQ.2 b lb (fun hm=>Dx (P0.1 hm).symm)).trans hb;refine hK _ _ (ih (i+1) (parts++[r1]) qs ck5 c1 _ H5 (by omega) hq ((g3 o).trans ho4) op5 ob5 (K0 lo OQ.1) (K0 lp OQ.1) (K0 lb OQ.1) g1 (by simp;omega) aC aC aC aC aC aC aC aC fun σ6 H6 ck6 w1 w2 w3 w4 w5=> ?_);rw [T1]at w2;exact q0 σ6 H6 ck6 w1 w2 w3 (OQ.tr w4) (fun c3 x1 x2=>w5 c3 (azv c3 x1 x2).1 (azv c3 x1 x2).2)
end
end Go.VL
end
