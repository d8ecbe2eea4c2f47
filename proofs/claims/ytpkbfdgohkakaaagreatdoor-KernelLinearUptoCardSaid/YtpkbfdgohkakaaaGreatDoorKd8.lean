/- Part 8. -/
import Derived.Test.YtpkbfdgohkakaaaGreatDoorKd7
import Derived.IntWalk
import Derived.KernelRfl
import Derived.Laws.RangeAny
import Derived.Test.YtpkbfdgohkakaaaGreatDoorRows
import Derived.RangeFuncOwn
import Derived.TacticsIn
import Derived.TacticsInMore
import Derived.LoopIn
import Derived.Walk
import Derived.WalkKit
set_option maxRecDepth 8000
set_option linter.unusedVariables false
set_option linter.unusedSectionVars false
set_option linter.unusedSimpArgs false
section
namespace Go.VL
open Go.Proofs Go.RowKit
theorem agO {H:AH} {id:Nat} {a b:List PV}:(H.put id a).put id b=H.put id b:=by
 unfold AH.put;simp only [AH.mk.injEq,T8,and_true]
 funext i
 by_cases h:i=id<;>simp [h]
def OU (n:Int):Str:=98::95::Lib.itoa n
def Dw (left:List Str):Nat->Int->Option (Str×Int)
 |0,_=>none
 |k+1,c=>if 0<=c/\c<=9000 then (bO k left (OU (c+1))).bind fun b=>cond b (Dw left k (c+1)) (some (OU (c+1),c+1))else none
theorem acM: ∀(m u:Nat),u<=m->(Lib.decDigits u).length<=u+1
 |0,u,h=>by rw [Lib.decDigits,dif_pos (by omega)];simp
 |m+1,u,h=>by
  rw [Lib.decDigits];split
  · simp
  · have:=acM m (u/10) (by omega);simp;omega
theorem akT {n:Int} (h:0<=n/\n<=10000):(Lib.itoa n).length<=10001:=by
 unfold Lib.itoa;rw [if_neg (by omega)];have:=acM n.toNat n.toNat (R0 _);omega
theorem aiF (left:List Str) (o:Nat) (ev:PV): ∀(k:Nat) (c:Int) (s:Str) (c':Int) (σ:Nat->PV) (H:AH) (cl:Ck) (Q:Post),Dw left k c=some (s,c')->σ 0= .ref o 0->H.obj o=some [ev,.ah (left.map aF) cl,.int .i64 c]->
 (∀σ',σ' 2= .str s->Q .ret σ' (H.put o [ev,.ah (left.map aF) cl,.int .i64 c']))->W Tryz.prog (.loop Uc) Q σ H:=by
 intro k
 induction k with
 |zero=>intro c s c' σ H cl Q h;cases h
 |succ k ih=>
  intro c s c' σ H cl Q h s0 ho q0;rw [Dw]at h;obtain⟨hc,h⟩:=aX h;obtain⟨b,hb,h⟩:=aj h;have hlen:=akT (n:=c+1) (by omega);have hw:IntKind.wrap .i64 (c+1)=c+1:=by rw [IntKind.wrap_i64];omega
  have hg:([98,95]:Str).length+(Lib.itoa (c+1)).length<=4611686018427387904:=by simp;omega
  refine bB (fun K hK=>aI ?_);unfold Uc;simp -implicitDefEqProofs only [go_sem,dB,s0,ho,hw,R0];refine av (axE (c+1) (by omega)) ?_;simp -implicitDefEqProofs only [go_sem,dB,R0];refine abV hg ?_;have Dx:(H.put o [ev,.ah (left.map aF) cl,.int .i64 (c+1)]).obj o=some [ev,.ah (left.map aF) cl,.int .i64 (c+1)]:=by
   show(if o=o then _ else _)=_
   rw [if_pos rfl]
  simp -implicitDefEqProofs only [go_sem,dB,s0,Dx,R0];refine av (jD hb) ?_;obtain⟨e1,h⟩|⟨e1,h⟩:=aJ h
  · subst e1;simp -implicitDefEqProofs only [go_sem,dB,R0];refine hK _ _ (ih (c+1) s c' _ _ cl Q h aC Dx fun σ' h2=> ?_);rw [agO];exact q0 σ' h2
  · subst e1;cases aaW h;simp -implicitDefEqProofs only [go_sem,dB,R0];exact q0 _ (by simp -implicitDefEqProofs only [go_sem];rfl)
theorem aiG {left:List Str} {o:Nat} {ev:PV} {k:Nat} {c:Int} {s:Str} {c':Int} {H:AH} {cl:Ck} (h:Dw left k c=some (s,c')) (ho:H.obj o=some [ev,.ah (left.map aF) cl,.int .i64 c]):
 aW Tryz.prog 284 [.ref o 0] H fun v H'=>v= .str s/\H'=H.put o [ev,.ah (left.map aF) cl,.int .i64 c']:=by
 refine aL aCs (by simp) (aI ?_);unfold ard;simp -implicitDefEqProofs only [go_sem];refine aiF left o ev k c s c' _ H cl _ h aC ho fun σ' h2=> ?_;simp -implicitDefEqProofs only [go_sem,h2,C7]
end Go.VL
end
section
namespace Go.VL
def Ev {α:Type} (f:Nat->Option α) (v:α):Prop:= ∃K,∀k,K<=k->f k=some v
section
variable {α β:Type} {f:Nat->Option α} {v w:α}
theorem Ev.of_eq {o:Option α} (h:o=some v):Ev (fun _=>o) v:=⟨0,fun _ _=>h⟩
theorem Ev.all (h: ∀k,f k=some v):Ev f v:=⟨0,fun k _=>h k⟩
theorem Ev.some:Ev (fun _=>Option.some v) v:=⟨0,fun _ _=>rfl⟩
theorem Ev.some' (h:w=v):Ev (fun _=>Option.some w) v:=h▸Ev.some
theorem Ev.succ (h:Ev (fun k=>f (k+1)) v):Ev f v:=by
 obtain⟨K,h⟩:=h;refine⟨K+1,fun k hk=> ?_⟩;obtain⟨k,rfl⟩: ∃j,k=j+1:=⟨k -1,by omega⟩;exact h k (by omega)
theorem Ev.bind {f:Nat->Option β} {g:Nat->β->Option α} {x:β} (hf:Ev f x) (hg:Ev (fun k=>g k x) v):Ev (fun k=>Option.bind (f k) (g k)) v:=by
 obtain⟨K,hK⟩:=hf;obtain⟨L,hL⟩:=hg;refine⟨max K L,fun k hk=> ?_⟩;show Option.bind (f k) (g k)=_;rw [hK k (by omega)];exact hL k (by omega)
theorem Ev.iG {o:Option β} {g:Nat->β->Option α} {x:β} (hf:o=Option.some x) (hg:Ev (fun k=>g k x) v):Ev (fun k=>Option.bind o (g k)) v:=Ev.bind (Ev.of_eq hf) hg
theorem Ev.jv {p:Prop} [Decidable p] {g:Nat->Option α} (hp:p) (hg:Ev g v):Ev (fun k=>if p then g k else none) v:=by
 obtain⟨K,hK⟩:=hg;exact⟨K,fun k hk=>(if_pos hp).trans (hK k hk)⟩
theorem Ev.cT {b:Bool} {g g':Nat->Option α} (hb:b=true) (hg:Ev g v):Ev (fun k=>cond b (g k) (g' k)) v:=by subst hb;exact hg
theorem Ev.cF {b:Bool} {g g':Nat->Option α} (hb:b=false) (hg:Ev g' v):Ev (fun k=>cond b (g k) (g' k)) v:=by subst hb;exact hg
theorem Ev.to (h:Ev f v) (e:v=w):Ev f w:=e▸h
theorem Ev.cg {f g:Nat->Option α} (h:Ev f v) (e: ∀k,g k=f k):Ev g v:=by
 obtain⟨K,hK⟩:=h;exact⟨K,fun k hk=>(e k).trans (hK k hk)⟩
theorem Ev.uniq (h:Ev f v) (h':Ev f w):v=w:=by
 obtain⟨K,hK⟩:=h;obtain⟨L,hL⟩:=h';have a:=hK (max K L) (by omega);have b:=hL (max K L) (by omega);rw [a]at b;exact V2 b
theorem Ev.get (h:Ev f v): ∃k,f k=Option.some v:=by
 obtain⟨K,hK⟩:=h;exact⟨K,hK K (R0 _)⟩
end
theorem wrap64 {x:Int} (h1: -9223372036854775808<=x) (h2:x<=9223372036854775807):IntKind.wrap .i64 x=x:=by rw [IntKind.wrap_i64];omega
theorem aP {α:Type} {l:List α} {i:Nat} (h:i<l.length):l[i]? =some l[i]:=W2 h
theorem down {p:Nat->Prop} {len:Nat} (h0:p len) (h1: ∀i,i<len->p (i+1)->p i): ∀i,i<=len->p i:=by
 intro i hi;obtain⟨n,rfl⟩: ∃n,len=i+n:=⟨len -i,by omega⟩
 induction n generalizing i with
 |zero=>exact h0
 |succ n ih=>exact h1 i (by omega) (ih (i+1) (by rw [Nat.add_right_comm];exact h0) (by rw [Nat.add_right_comm];exact h1) (by omega))
theorem eO {p:Nat->Prop} {len:Nat} (h0:p len) (h1: ∀i,i<len->p (i+1)->p i):p 0:=down h0 h1 0 (N3 _)
theorem bW {i n:Nat} (hi:i<n) (hn:n<=1099511627776):IntKind.wrap .i64 ((i:Int)+1)=((i+1:Nat):Int):=by rw [wrap64 (by omega) (by omega)];omega
theorem fC {i n:Nat} (h:i<n):decide ((i:Int)<(n:Int))=true:=g0 (by omega)
theorem eD (n:Nat):decide ((n:Int)<(n:Int))=false:=B0 (by omega)
theorem nn (i:Nat):(0:Int)<=(i:Int):=by omega
theorem Ul (b:Bool):ME b=some (if b=true then 1 else 0):=by cases b<;>rfl
theorem jE (n lo hi:Int):dw n lo hi=some (decide (lo<=n/\n<=hi)):=by
 unfold dw;by_cases h:lo<=n
 · simp [h,ge_iff_le]
 · simp [h,ge_iff_le]
theorem um (n lo hi:Int):gX n lo hi=some (decide (lo<=n/\n<=hi)):=by
 unfold gX;by_cases h:lo<=n
 · simp [h]
 · simp [h]
theorem uo (b:Bool) (c:Int):oJ b c=some (if b=true then c else 0):=by cases b<;>rfl
theorem MK {α:Type} {l:List α} {i:Nat} (h:i<l.length) {s:α}:s∈l.drop i↔l[i]=s\/s∈l.drop (i+1):=by
 rw [N1 h,M1];exact or_congr_left eq_comm
theorem qR (l:List Str) (s:Str) (hl:l.length<=1099511627776):Ev (fun k=>lW k l s) (decide (s∈l)):=by
 have key:Ev (fun k=>nP k l s ((0:Nat):Int)) (if s∈l.drop 0 then .inr true else .inl ()):=by
  refine eO (len:=l.length) (p:=fun i=>Ev (fun k=>nP k l s (i:Int)) (if s∈l.drop i then .inr true else .inl ())) ?_ fun i hi ih=> ?_
  · refine Ev.succ ?_;simp only [nP];refine Ev.cF (eD _) (Ev.some' ?_);simp
  · refine Ev.succ ?_;simp only [nP,V0,aP hi,W0,nn,A0,fC hi,S1,bW hi hl];by_cases h:l[i]=s
    · refine Ev.cT (by rw [E3];exact h) (Ev.some' ?_);rw [if_pos ((MK hi).2 (.inl h))]
    · refine Ev.cF (by rw [O0];exact h) (ih.to ?_);simp only [MK hi,h,false_or]
 unfold lW;refine Ev.bind key ?_;rw [P1];by_cases h:s∈l
 · simp only [h,A0,fP,D4];exact Ev.some
 · simp only [h,L2,eH,L4];exact Ev.some
theorem tK (l:List Str) (s:Str) (hl:l.length<=1099511627776):Ev (fun k=>bO k l s) (decide (s∈l)):=by
 have key: ∃o:Unit⊕Int,Ev (fun k=>dV k l s (l.length:Int) ((0:Nat):Int)) o/\((o= .inl ()/\ ¬s∈l.drop 0)\/(∃j:Nat,o= .inr (j:Int))/\s∈l.drop 0):=by
  refine eO (len:=l.length) (p:=fun i=> ∃o:Unit⊕Int,Ev (fun k=>dV k l s (l.length:Int) (i:Int)) o/\((o= .inl ()/\ ¬s∈l.drop i)\/(∃j:Nat,o= .inr (j:Int))/\s∈l.drop i)) ?_ fun i hi ⟨o,ih,ho⟩=> ?_
  · refine⟨.inl (),Ev.succ ?_,.inl ⟨rfl,by simp⟩⟩;simp only [dV];exact Ev.cF (eD _) Ev.some
  · by_cases h:l[i]=s
    · refine⟨.inr (i:Int),Ev.succ ?_,.inr ⟨⟨i,rfl⟩,(MK hi).2 (.inl h)⟩⟩;simp only [dV,V0,aP hi,W0,nn,A0,fC hi,S1,bW hi hl];exact Ev.cT (by rw [E3];exact h.symm) Ev.some
    · refine⟨o,Ev.succ ?_,by simp only [MK hi,h,false_or];exact ho⟩;simp only [dV,V0,aP hi,W0,nn,A0,fC hi,S1,bW hi hl];exact Ev.cF (by rw [O0];exact fun e=>h e.symm) ih
 obtain⟨o,h1,h2⟩:=key;rw [P1]at h2;unfold bO;rcases h2 with⟨rfl,h2⟩|⟨⟨j,rfl⟩,h2⟩
 · refine Ev.bind (x:= -1) (by unfold mI;exact Ev.bind h1 Ev.some) (Ev.some' ?_);simp [h2]
 · refine Ev.bind (x:=(j:Int)) (by unfold mI;exact Ev.bind h1 Ev.some) (Ev.some' ?_);simp [h2]
theorem VJ (a b:List Str) (hl:a.length<=1099511627776):Ev (fun k=>zk k a b) (decide (a=b)):=by
 unfold zk;by_cases hab:a.length=b.length
 · refine Ev.cF (by simp [hab]) ?_;have key:Ev (fun k=>lD k a b ((0:Nat):Int)) (if a.drop 0=b.drop 0 then .inl ()else .inr false):=by
    refine eO (len:=a.length) (p:=fun i=>Ev (fun k=>lD k a b (i:Int)) (if a.drop i=b.drop i then .inl ()else .inr false)) ?_ fun i hi ih=> ?_
    · refine Ev.succ ?_;simp only [lD];refine Ev.cF (eD _) (Ev.some' ?_);simp [hab]
    · have hi':i<b.length:=hab▸hi;refine Ev.succ ?_;simp only [lD,V0,aP hi,aP hi',W0,nn,A0,fC hi,S1,bW hi hl];by_cases h:a[i]=b[i]
      · refine Ev.cT (by rw [E3];exact h) (ih.to ?_);have:List.drop i a=a[i]::List.drop (i+1) a:=N1 hi;have:List.drop i b=b[i]::List.drop (i+1) b:=N1 hi';simp only [*,S7,T8]
      · refine Ev.cF (by rw [O0];exact h) (Ev.some' ?_);have e1:List.drop i a=a[i]::List.drop (i+1) a:=N1 hi;have e2:List.drop i b=b[i]::List.drop (i+1) b:=N1 hi';rw [if_neg];intro e;rw [e1,e2,S7]at e;exact h e.1
   refine Ev.bind key ?_;by_cases h:a=b
   · subst h;simp only [A0,eH,D4];exact Ev.some
   · simp only [P1,h,L2,fP,L4];exact Ev.some
 · refine Ev.cT (by simp;omega) (Ev.some' ?_);exact(B0 fun e=>hab (by rw [e])).symm
def Ld:Operator:=Operator.mk [] 0 0 0 false 0 0
def dF (l:List Operator) (t:Str):Operator×Bool:=match l with
 |[]=>(Ld,false)
 |o::l=>if o.text=t then(o,true)else dF l t
def aiH (x:Operator):Operator:=Operator.mk x.text x.fix x.low x.high x.left (if x.fix=1 then 2 else 1) (if x.text=[92,88]then 4 else if x.fix=1 then 2 else 1)
theorem aar (add:List Operator) (hl:add.length<=1000): ∀i,i<=add.length-> ∀out:List Operator,out.length=i->Ev (fun k=>pJ k out add (i:Int)) (out++(add.drop i).map aiH):=by
 refine down (p:=fun i=> ∀out:List Operator,out.length=i->Ev (fun k=>pJ k out add (i:Int)) (out++(add.drop i).map aiH)) ?_ fun i hi ih out ho=> ?_
 · intro out ho;refine Ev.succ ?_;simp only [pJ];refine Ev.cF (eD _) (Ev.some' ?_);simp
 · refine Ev.succ ?_;simp only [pJ,V0,aP hi,W0,nn,A0,fC hi,S1,bW hi (by omega),Ul];have e1:(out.length+1)*64<=1099511627776:=by omega
   have e2:IntKind.wrap .i64 (1+if(add[i].fix==1)=true then 1 else 0)=if add[i].fix=1 then 2 else 1:=by
    by_cases h:add[i].fix=1
    · simp [h];rfl
    · simp [h];rfl
   simp only [if_pos e1,e2];by_cases h:add[i].text=[92,88]
   · refine Ev.cT (by rw [E3];exact h) ((ih _ (by simp [ho])).to ?_);rw [N1 hi,M3,T1];simp [aiH,h]
   · refine Ev.cF (by rw [O0];exact h) ((ih _ (by simp [ho])).to ?_);rw [N1 hi,M3,T1];simp [aiH,h]
def dW:List Operator:=(ED 60).getD []
theorem aiI:Ev (fun k=>ED k) dW:=by
 unfold ED;exact Ev.bind (aar _ (by simp) 0 (N3 _) [] rfl) (Ev.some' (by kernel_rfl))
theorem JY (t:Str):Ev (fun k=>vN k t) (dF dW t):=by
 have hlen:dW.length≤1099511627776:=by
  have:dW.length=42:=by kernel_rfl
  omega
 have key: ∀(l:List Operator),l.length<=1099511627776->Ev (fun k=>lu k t ([]:Str) 0 0 0 false 0 0 l ((0:Nat):Int)) (match dF (l.drop 0) t with|(o,true)=> .inr (true,o.text,o.fix,o.low,o.high,o.left,o.least,o.most)|(_,false)=> .inl (([]:Str),0,0,0,false,0,0)):=by
  intro l hl;refine eO (len:=l.length) (p:=fun i=>Ev (fun k=>lu k t ([]:Str) 0 0 0 false 0 0 l (i:Int)) (match dF (l.drop i) t with|(o,true)=> .inr (true,o.text,o.fix,o.low,o.high,o.left,o.least,o.most)|(_,false)=> .inl (([]:Str),0,0,0,false,0,0))) ?_ fun i hi ih=> ?_
  · refine Ev.succ ?_;simp only [lu];refine Ev.cF (eD _) (Ev.some' ?_);simp [dF]
  · refine Ev.succ ?_;simp only [lu,V0,aP hi,W0,nn,A0,fC hi,S1,bW hi hl];have e1:List.drop i l=l[i]::List.drop (i+1) l:=N1 hi;by_cases h:l[i].text=t
    · refine Ev.cT (by rw [E3];exact h) (Ev.some' ?_);rw [e1,dF,if_pos h]
    · refine Ev.cF (by rw [O0];exact h) (ih.to ?_);rw [e1,dF,if_neg h]
 have hk:=key dW hlen;rw [P1]at hk;unfold vN;refine Ev.bind aiI (Ev.bind hk ?_);have hno: ∀l:List Operator,(dF l t).2=false->(dF l t).1=Ld:=by
  intro l
  induction l with
  |nil=>intro _;rfl
  |cons o l ih=>
   intro h;rw [dF]at h⊢;by_cases e:o.text=t
   · rw [if_pos e]at h;cases h
   · rw [if_neg e]at h⊢;exact ih h
 have:=hno dW;generalize dF dW t=r at this;obtain⟨o,b⟩:=r;cases b with
 |true=>simp only [fP];exact Ev.some
 |false=>simp only [eH];exact Ev.some' (by rw [show o=Ld from this rfl];rfl)
def isLet (c:UInt8):Bool:=decide (97<=c.toNat/\c.toNat<=122)||decide (65<=c.toNat/\c.toNat<=90)
def GU (c:UInt8):Bool:=decide (48<=c.toNat/\c.toNat<=57)
def sI (c:UInt8):Bool:=isLet c||GU c||decide (c.toNat=95)
def QM:List Str:=Ad.getD []
theorem aas:Ad=some QM:=rfl
theorem agP:QM.length=50:=by kernel_rfl
def bName (s:Str):Bool:=decide (1<=s.length/\s.length<=24)&& !decide (s∈QM)&&s.all sI&&s.any isLet
def vV (s:Str):Bool:=decide (s=[84,82,85,69])||decide (s=[70,65,76,83,69])||decide (s=[66,79,79,76,69,65,78])||decide (s=[83,84,82,73,78,71])
def Zp (s:Str):Bool:=decide (s.take 3=[87,70,95])||decide (s.take 3=[83,70,95])
def rName (s:Str):Bool:=bName s&& !vV s&& !Zp s
def bang:Str->Option (Str×Str)
 |[]=>none
 |c::s=>if c=33 then some ([],s)else(bang s).map fun p=>(c::p.1,p.2)
def kH (s:Str):Bool:=match bang s with
 |some (a,b)=>rName a&&rName b
 |none=>rName s
theorem aat (c:UInt8):Ae (c.toNat:Int)=some (isLet c):=by
 unfold Ae isLet;generalize c.toNat=n;by_cases h1:97<=n<;>by_cases h2:n<=122<;>by_cases h3:65<=n<;>by_cases h4:n<=90<;>simp [h1,h2,h3,h4,ge_iff_le,show((97:Int)<=n)=(97<=n) by rw [j9];omega,show((n:Int)<=122)=(n<=122) by rw [j9];omega,show((65:Int)<=n)=(65<=n) by rw [j9];omega,show((n:Int)<=90)=(n<=90) by rw [j9];omega]
theorem acN (c:UInt8):Cm (c.toNat:Int)=some (GU c):=by
 unfold Cm GU;generalize c.toNat=n;by_cases h1:48<=n<;>by_cases h2:n<=57<;>simp [h1,h2,ge_iff_le,show((48:Int)<=n)=(48<=n) by rw [j9];omega,show((n:Int)<=57)=(n<=57) by rw [j9];omega]
theorem drop_cons {α:Type} {l:List α} {i:Nat} (h:i<l.length):List.drop i l=l[i]::List.drop (i+1) l:=N1 h
theorem X9 (s:Str) (i:Nat) (h:i<s.length) (t:Bool):Bd s (i:Int) t=some (t&& !GU s[i]&& !decide (s[i].toNat=95)):=by
 unfold Bd;simp only [V0,aP h,W0,nn,A0,acN];cases t
 · rfl
 · cases GU s[i]
   · simp only [S1,O2,C1,C6];congr 1;by_cases e:s[i].toNat=95
     · simp [e]
     · simp only [e,L4,C6,S5,ne_eq];omega
   · rfl
theorem afA (s:Str):Ev (fun k=>EF k s) (bName s):=by
 unfold EF Fa;simp only [jE,aas,W0];by_cases h1:1<=s.length/\s.length<=24
 · have e1:(decide ((1:Int)<=(s.length:Int)/\(s.length:Int)<=24))=true:=g0 (by omega);simp only [e1,S1];by_cases h2:s∈QM
   · refine Ev.bind (x:= .inr false) (Ev.bind (qR _ _ (by rw [agP];omega)) (Ev.cT (g0 h2) Ev.some)) ?_;simp only [fP];exact Ev.some' (by simp [bName,h2])
   · refine Ev.bind (x:= .inl ()) (Ev.bind (qR _ _ (by rw [agP];omega)) (Ev.cF (B0 h2) Ev.some)) ?_;simp only [eH];have hb:s.length<=1099511627776:=by omega
     have key: ∀l:Bool,Ev (fun k=>ny k s l ((0:Nat):Int)) (if(s.drop 0).all sI=true then .inl (l||(s.drop 0).any isLet)else .inr false):=by
      refine eO (len:=s.length) (p:=fun i=> ∀l:Bool,Ev (fun k=>ny k s l (i:Int)) (if(s.drop i).all sI=true then .inl (l||(s.drop i).any isLet)else .inr false)) ?_ fun i hi ih l=> ?_
      · intro l;refine Ev.succ ?_;simp only [ny];refine Ev.cF (eD _) (Ev.some' ?_);simp
      · refine Ev.succ ?_;simp only [ny,V0,aP hi,W0,nn,A0,fC hi,S1,bW hi hb,aat,X9 s i hi];rw [drop_cons hi];simp only [N5,b8];by_cases hc:sI s[i]=true
        · refine Ev.cF ?_ ?_
          · unfold sI at hc;revert hc;cases isLet s[i]<;>cases GU s[i]<;>cases decide (s[i].toNat=95)<;>simp
          · simp only [hc,C1];cases l
            · simp only [O2,Q4];exact ih _
            · simp only [S1,S8];exact(ih true).to (by simp)
        · refine Ev.cT ?_ (Ev.some' ?_)
          · unfold sI at hc;revert hc;cases isLet s[i]<;>cases GU s[i]<;>cases decide (s[i].toNat=95)<;>simp
          · simp [hc]
     refine Ev.bind (key false) ?_;rw [P1];by_cases h3:s.all sI=true
     · simp only [h3,A0,eH];exact Ev.some' (by simp [bName,h1,h2,h3])
     · simp only [h3,fP];exact Ev.some' (by simp [bName,h3])
 · have e1:(decide ((1:Int)<=(s.length:Int)/\(s.length:Int)<=24))=false:=B0 (by omega);simp only [e1,O2,W0,fP];exact Ev.some' (by simp [bName,h1])
theorem Le (a b:Str):(a==b)=decide (a=b):=by
 by_cases h:a=b
 · simp [h]
 · simp [h]
theorem Dy (s:Str):yZ s=some (vV s):=by
 unfold yZ vV;simp only [Le];cases decide (s=[84,82,85,69])<;>cases decide (s=[70,65,76,83,69])<;>cases decide (s=[66,79,79,76,69,65,78])<;>rfl
theorem OV (s:Str):FQ s=some (vV s):=Dy s
theorem Bg (s:Str):Ev (fun k=>xk k s) (rName s):=by
 unfold xk;refine Ev.bind (afA s) ?_;simp only [Dy,W0,Le];unfold rName;cases bName s
 · exact Ev.some
 · simp only [S1,C1];cases vV s
   · simp only [O2,C6,C1];by_cases h:3<=s.length
     · refine Ev.cT (g0 (by omega)) (Ev.jv h ?_);unfold Zp;cases decide (s.take 3=[87,70,95])<;>exact Ev.some
     · refine Ev.cF (B0 (by omega)) (Ev.some' ?_);unfold Zp;have e1: ¬s.take 3=[87,70,95]:=fun e=>h (by have:=congrArg List.length e;rw [P3]at this;simp at this;omega);have e2: ¬s.take 3=[83,70,95]:=fun e=>h (by have:=congrArg List.length e;rw [P3]at this;simp at this;omega);simp [e1,e2]
   · exact Ev.some
theorem akU (s:Str) (i:Nat) (h:i<s.length):bang (s.drop i)=if s[i]=33 then some ([],s.drop (i+1))else(bang (s.drop (i+1))).map fun p=>(s[i]::p.1,p.2):=by
 rw [drop_cons h,bang]
theorem Fb (s:Str) (hb:s.length<=1099511627776):Ev (fun k=>xq k s) (kH s):=by
 have key: ∃o:Unit⊕Bool,Ev (fun k=>pK k s ((0:Nat):Int)) o/\(match bang (s.drop 0)with|some (a,b)=>o= .inr (rName (s.take 0++a)&&rName b)|none=>o= .inl ()):=by
  refine eO (len:=s.length) (p:=fun i=> ∃o:Unit⊕Bool,Ev (fun k=>pK k s (i:Int)) o/\(match bang (s.drop i)with|some (a,b)=>o= .inr (rName (s.take i++a)&&rName b)|none=>o= .inl ())) ?_ fun i hi ⟨o,ih,ho⟩=> ?_
  · refine⟨.inl (),Ev.succ ?_,by simp [bang]⟩;simp only [pK];exact Ev.cF (eD _) Ev.some
  · rw [akU s i hi];by_cases h:s[i]=33
    · refine⟨.inr (rName (s.take i)&&rName (s.drop (i+1))),Ev.succ ?_,by simp [h]⟩;simp only [pK,V0,aP hi,W0,nn,A0,fC hi,S1,bW hi hb,T8];refine Ev.cT (by rw [h];rfl) (Ev.jv (by omega) (Ev.bind (Bg _) ?_));cases rName (s.take i)
      · exact Ev.some
      · simp only [S1,C1];exact Ev.jv (by omega) (Ev.bind (Bg _) Ev.some)
    · refine⟨o,Ev.succ ?_,?_⟩
      · simp only [pK,V0,aP hi,W0,nn,A0,fC hi,S1,bW hi hb,T8];refine Ev.cF ?_ ih;rw [O0];intro e;refine h (UInt8.toNat_inj.1 ?_);show s[i].toNat=33;omega
      · rw [if_neg h];revert ho;cases bang (s.drop (i+1))with
        |none=>exact id
        |some p=>
            obtain⟨a,b⟩:=p;simp only [X2];rw [M2 hi,T1];exact id
 obtain⟨o,h1,h2⟩:=key;unfold xq;refine Ev.bind h1 ?_;unfold kH;rw [P1]at h2;revert h2;cases bang s with
 |none=>intro h2;subst h2;simp only [eH];exact Ev.bind (Bg s) Ev.some
 |some p=>
  obtain⟨a,b⟩:=p;intro h2;simp only [HB,R2]at h2;subst h2;simp only [fP];exact Ev.some
def gy (n lo hi:Int):Bool:=decide (lo<=n/\n<=hi)
def OW (c:UInt8):Bool:=decide (32<=c.toNat/\c.toNat<=126)&& !decide (c.toNat=34)&& !decide (c.toNat=92)
def zl (s:Str):Bool:=decide (s.length<=40)&&s.all OW
theorem acO (s:Str) (m:Int) (hm:m<=1099511627776):Ev (fun k=>FL k s m) (decide ((s.length:Int)<=m)&&s.all fun c=>decide (32<=c.toNat/\c.toNat<=126)):=by
 unfold FL;by_cases h:(s.length:Int)<=m
 · refine Ev.cF (B0 (by omega)) ?_;have hb:s.length<=1099511627776:=by omega
   have key:Ev (fun k=>qg k s ((0:Nat):Int)) (if(s.drop 0).all (fun c=>decide (32<=c.toNat/\c.toNat<=126))=true then .inl ()else .inr false):=by
    refine eO (len:=s.length) (p:=fun i=>Ev (fun k=>qg k s (i:Int)) (if(s.drop i).all (fun c=>decide (32<=c.toNat/\c.toNat<=126))=true then .inl ()else .inr false)) ?_ fun i hi ih=> ?_
    · refine Ev.succ ?_;simp only [qg];exact Ev.cF (eD _) (Ev.some' (by simp))
    · refine Ev.succ ?_;simp only [qg,V0,aP hi,W0,nn,A0,fC hi,S1,bW hi hb];rw [drop_cons hi];simp only [N5,z1,B2];by_cases h1:32<=s[i].toNat
      · refine Ev.cF (B0 (by omega)) ?_;by_cases h2:s[i].toNat<=126
        · refine Ev.cF (B0 (by omega)) (ih.to ?_);simp only [h1,h2,T8]
        · refine Ev.cT (g0 (by omega)) (Ev.some' ?_);simp only [h1,h2,and_false,false_and,L2]
      · refine Ev.cT (g0 (by omega)) (Ev.some' ?_);simp only [h1,false_and,L2]
   refine Ev.bind key ?_;rw [P1];by_cases h3:(s.all fun c=>decide (32<=c.toNat/\c.toNat<=126))=true
   · simp only [h3,A0,eH];exact Ev.some' (by simp [h])
   · simp only [h3,L2,fP];exact Ev.some' (by simp)
 · refine Ev.cT (g0 (by omega)) (Ev.some' ?_);simp [h]
theorem aiJ (s:Str):Ev (fun k=>jf k s) (zl s):=by
 unfold jf;refine Ev.bind (acO s 40 (by omega)) ?_;by_cases h0:s.length<=40
 · have h0':(s.length:Int)<=40:=by omega
   have hb:s.length<=1099511627776:=by omega
   have key:Ev (fun k=>tT k s ((0:Nat):Int)) (if(s.drop 0).all (fun c=> !decide (c.toNat=34)&& !decide (c.toNat=92))=true then .inl ()else .inr false):=by
    refine eO (len:=s.length) (p:=fun i=>Ev (fun k=>tT k s (i:Int)) (if(s.drop i).all (fun c=> !decide (c.toNat=34)&& !decide (c.toNat=92))=true then .inl ()else .inr false)) ?_ fun i hi ih=> ?_
    · refine Ev.succ ?_;simp only [tT];exact Ev.cF (eD _) (Ev.some' (by simp))
    · refine Ev.succ ?_;simp only [tT,V0,aP hi,W0,nn,A0,fC hi,S1,bW hi hb];rw [drop_cons hi];simp only [N5,z1,z7,E6];by_cases h1:s[i].toNat=34
      · refine Ev.cT (by rw [h1];rfl) (Ev.some' ?_);simp [h1]
      · refine Ev.cF (by rw [O0];omega) ?_;by_cases h2:s[i].toNat=92
        · refine Ev.cT (by rw [h2];rfl) (Ev.some' ?_);simp [h2]
        · refine Ev.cF (by rw [O0];omega) (ih.to ?_);simp [h1,h2]
   have hsplit:zl s=((s.all fun c=>decide (32<=c.toNat/\c.toNat<=126))&&s.all fun c=> !decide (c.toNat=34)&& !decide (c.toNat=92)):=by
    unfold zl;rw [g0 h0,C1]
    induction s with
    |nil=>rfl
    |cons c l ih=>
     have: ∀a b c d:Bool,(a&&b&&(c&&d))=(a&&c&&(b&&d)):=by decide
     have e1: ∀l:Str,l.all OW=((l.all fun c=>decide (32<=c.toNat/\c.toNat<=126))&&l.all fun c=> !decide (c.toNat=34)&& !decide (c.toNat=92)):=by
      intro l
      induction l with
      |nil=>rfl
      |cons c l ih=>simp only [N5,ih,OW,Bool.and_assoc];cases decide (32<=c.toNat/\c.toNat<=126)<;>cases decide (c.toNat=34)<;>cases decide (c.toNat=92)<;>simp
     exact e1 _
   rw [hsplit];simp only [g0 h0',C1];cases(s.all fun c=>decide (32<=c.toNat/\c.toNat<=126))
   · exact Ev.some
   · simp only [S1,C1];refine Ev.bind key ?_;rw [P1];cases h3:(s.all fun c=> !decide (c.toNat=34)&& !decide (c.toNat=92))
     · simp only [I2,L2,fP];exact Ev.some
     · simp only [A0,eH];exact Ev.some
 · have h0': ¬(s.length:Int)<=40:=by omega
   simp only [B0 h0',O3,O2];exact Ev.some' (by simp [zl,h0])
def iE (kind:Int):(Int×Int×Int×Int)×Bool:=(vP kind).getD ((0,0,0,0),false)
theorem aiK (kind:Int):vP kind=some (iE kind):=by
 have:(vP kind).isSome=true:=by
  unfold vP xu Dh Di Dk Dl Dm Dn
  repeat' first
   |rfl
   |(generalize(kind==_)=b;cases b<;>simp only [S1,O2,W0])
 unfold iE;cases h:vP kind with
 |none=>rw [h]at this;cases this
 |some v=>rfl
def nM (n:Nd):Bool:=
 let s:=iE n.kind
 let o:=(dF dW n.text).2&&decide (n.kind=3)
 let lo:=if o=true then 0 else s.1.2.2.1
 let hi:=if o=true then(n.args.length:Int)else s.1.2.2.2
 gy (n.names.length:Int) s.1.1 s.1.2.1&&gy ((n.args.length:Int) -(n.names.length:Int)*(if s.2=true then 1 else 0)) lo hi
def qj (n:Nd):Bool:=
 (decide (n.kind=1)||decide (n.kind=2)||decide (n.kind=3)||decide (n.kind=18)||decide (n.text=[]))&&
 (decide (n.kind=0)||decide (n.kind=23)||decide (n.n=0))&&(!decide (n.kind=23)||gy n.n 0 1)&&(!decide (n.kind=1)||zl n.text)
def vW:List Str->List Str->Bool
 |_,[]=>false
 |acc,s::l=>decide (s∈acc)||vW (acc++[s]) l
def qF (n:Nd):Int:=
 if(n.names.all rName)=false then 7 else
 if n.kind=2 then(if(kH n.text||vV n.text)=true then 0 else 7)else
 if n.kind=18 then(if rName n.text=true then 0 else 7)else
 if n.kind=3 then(if((dF dW n.text).2||kH n.text)=true then(if((dF dW n.text).2&& !gy (n.args.length:Int) (dF dW n.text).1.least (dF dW n.text).1.most)=true then 17 else 0)else 7)else 0
def bI (pl:Bool) (n:Nd):Int:=
 if gy n.kind 0 28=false then 4 else
 if nM n=false then 6 else
 if(pl&&qj n)=false then 5 else
 if(decide (n.kind=0)&& !gy n.n 0 10000)=true then 3 else
 if qF n≠0 then qF n else
 if vW [] n.names=true then 12 else 0
theorem aiL (a b:Int) (c:Str) (l:List Str) (d:List Int) (hl:l.length<=1099511627776):Ev (fun k=>qh k a b c l d ((0:Nat):Int)) (if(l.drop 0).all rName=true then .inl ()else .inr 7):=by
 refine eO (len:=l.length) (p:=fun i=>Ev (fun k=>qh k a b c l d (i:Int)) (if(l.drop i).all rName=true then .inl ()else .inr 7)) ?_ fun i hi ih=> ?_
 · refine Ev.succ ?_;simp only [qh];exact Ev.cF (eD _) (Ev.some' (by simp))
 · refine Ev.succ ?_;simp only [qh,V0,aP hi,W0,nn,A0,fC hi,S1,bW hi hl];refine Ev.bind (Bg _) ?_;rw [drop_cons hi];simp only [N5];by_cases hb:rName l[i]=true
   · exact Ev.cT hb (ih.to (by simp only [hb,C1]))
   · have hb:rName l[i]=false:=by simpa using hb
     exact Ev.cF hb (Ev.some' (by simp only [hb,O3];rfl))
theorem an1 (a b:Int) (c:Str) (l:List Str) (d:List Int) (hl:l.length<=1099511627776):Ev (fun k=>nH k a b c l d 1) (if vW [] l=true then .inr 12 else .inl ()):=by
 have key: ∀i,i<=l.length->Ev (fun k=>nH k a b c l d (i:Int)) (if vW (l.take i) (l.drop i)=true then .inr 12 else .inl ()):=by
  refine down ?_ fun i hi ih=> ?_
  · refine Ev.succ ?_;simp only [nH];exact Ev.cF (eD _) (Ev.some' (by simp [vW]))
  · refine Ev.succ ?_;have h2:i<=l.length:=by omega
    simp only [nH,V0,aP hi,W0,nn,A0,fC hi,S1,bW hi hl,T8,h2];refine Ev.bind (qR _ _ (by rw [P3];omega)) ?_;rw [drop_cons hi,vW,<-M2 hi];cases decide (l[i]∈l.take i)
    · simp only [O2,Q4];exact ih
    · exact Ev.some
 cases l with
 |nil=>
  refine Ev.succ ?_;simp only [nH];exact Ev.cF (by rfl) Ev.some
 |cons x l=>
  have:=key 1 (by simp);exact this.to (by simp [vW])
theorem acP (e:List Nd) (i:Nat) (n:Nd) (pl:Bool) (hn:e[i]? =some n) (hpl:Ev (fun k=>EG k e (i:Int)) pl) (h1:n.text.length<=1000000) (h2:n.names.length<=1000000) (h3:n.args.length<=1000000):
 Ev (fun k=>FM k e (i:Int)) (bI pl n):=by
 unfold FM;simp only [V0,hn,W0,nn,A0,jE,aiK,Ul];unfold bI;by_cases hk:gy n.kind 0 28=true
 case neg=>
  refine Ev.to (Ev.cF (by simpa [gy]using hk) Ev.some) (if_pos (by simpa using hk)).symm
 refine Ev.to ?_ (if_neg (by simp [hk])).symm;refine Ev.cT hk ?_
 have hj:Ev (fun k=>y7 k n.kind n.n n.text n.names n.args (iE n.kind).1.1 (iE n.kind).1.2.1 (iE n.kind).1.2.2.1 (iE n.kind).1.2.2.2)
  ((iE n.kind).1.1,(iE n.kind).1.2.1,if((dF dW n.text).2&&decide (n.kind=3))=true then 0 else(iE n.kind).1.2.2.1,if((dF dW n.text).2&&decide (n.kind=3))=true then(n.args.length:Int)else(iE n.kind).1.2.2.2):=by
  unfold y7 Dp;refine Ev.bind (JY _) ?_;cases(dF dW n.text).2
  · exact Ev.some
  · simp only [S1,W0,C1];by_cases h:n.kind=3
    · simp only [h,beq_self_eq_true,S1,D4,A0];exact Ev.some
    · rw [show(n.kind==3)=false from O0.2 h];simp only [O2,h,L4,I2,L2];exact Ev.some
 refine Ev.bind hj ?_;have hm:IntKind.wrap .i64 ((n.names.length:Int)*if(iE n.kind).2=true then 1 else 0)=(n.names.length:Int)*if(iE n.kind).2=true then 1 else 0:=by
  split
  · exact wrap64 (by omega) (by omega)
  · exact wrap64 (by omega) (by omega)
 have hm2:IntKind.wrap .i64 ((n.args.length:Int) -((n.names.length:Int)*if(iE n.kind).2=true then 1 else 0))=(n.args.length:Int) -((n.names.length:Int)*if(iE n.kind).2=true then 1 else 0):=by
  split
  · exact wrap64 (by omega) (by omega)
  · exact wrap64 (by omega) (by omega)
 simp only [hm,hm2]
 have hsh: ∀(t:Bool),y8 (iE n.kind).1.1 (iE n.kind).1.2.1 (if((dF dW n.text).2&&decide (n.kind=3))=true then 0 else(iE n.kind).1.2.2.1) (if((dF dW n.text).2&&decide (n.kind=3))=true then(n.args.length:Int)else(iE n.kind).1.2.2.2)
  ((n.args.length:Int) -((n.names.length:Int)*if(iE n.kind).2=true then 1 else 0)) (!gy (n.names.length:Int) (iE n.kind).1.1 (iE n.kind).1.2.1)=some (!nM n):=by
  intro t;unfold y8 nM;simp only [jE,W0];cases gy (n.names.length:Int) (iE n.kind).1.1 (iE n.kind).1.2.1
  · rfl
  · simp only [y6,O2,C1];rfl
 have ax2:=hsh true;unfold gy at ax2;refine Ev.iG ax2 ?_;cases hs:nM n
 · exact Ev.some
 simp only [y6,O2,A7,L2];have h3p:y9 n.kind n.n n.text n.names n.args (n.kind==1)=some (decide (n.kind=1)||decide (n.kind=2)||decide (n.kind=3)||decide (n.kind=18)):=by
  unfold y9;by_cases a:n.kind=1
  · simp [a]
  by_cases b:n.kind=2
  · simp [b]
  by_cases c:n.kind=3
  · simp [c]
  by_cases d:n.kind=18
  · simp [d]
  simp [a,b,c,d,O0.2 a,O0.2 b,O0.2 c,O0.2 d]
 refine Ev.iG h3p (Ev.bind hpl ?_);have h4:Ev (fun k=>za k n.kind n.n n.text n.names n.args (decide (n.kind=1)||decide (n.kind=2)||decide (n.kind=3)||decide (n.kind=18)) (!pl)) (!(pl&&qj n)):=by
  cases pl
  · exact Ev.some
  unfold za qj;simp only [y6,O2,C1,jE,W0];have hp:Ev (fun k=>(jf k n.text).bind fun p=>some (!p)) (!zl n.text):=Ev.bind (aiJ _) Ev.some
  have key: ∀T0 T3 T2:Bool,T0=decide (n.n=0)->T2=gy n.n 0 1->
   Ev (fun k=>cond (n.kind !=0) (cond (n.kind !=23) (cond (n.n !=0) (some true) (cond (n.kind==23) (cond (decide (0<=n.n/\n.n<=1)) (cond (n.kind==1) ((jf k n.text).bind fun p=>some (!p)) (some false)) (some true)) (cond (n.kind==1) ((jf k n.text).bind fun p=>some (!p)) (some false))))
    (cond (n.kind==23) (cond (decide (0<=n.n/\n.n<=1)) (cond (n.kind==1) ((jf k n.text).bind fun p=>some (!p)) (some false)) (some true)) (cond (n.kind==1) ((jf k n.text).bind fun p=>some (!p)) (some false))))
    (cond (n.kind==23) (cond (decide (0<=n.n/\n.n<=1)) (cond (n.kind==1) ((jf k n.text).bind fun p=>some (!p)) (some false)) (some true)) (cond (n.kind==1) ((jf k n.text).bind fun p=>some (!p)) (some false))))
   (!((decide (n.kind=0)||decide (n.kind=23)||decide (n.n=0))&&(!decide (n.kind=23)||gy n.n 0 1)&&(!decide (n.kind=1)||zl n.text))):=by
   intro T0 T3 T2 _ _;unfold gy;by_cases a:n.kind=0
   · simp only [a];exact Ev.some
   by_cases b:n.kind=23
   · simp only [b];by_cases c:0<=n.n/\n.n<=1
     · simp only [c,C7,D4];exact Ev.some
     · simp only [c,L4];exact Ev.some
   by_cases c:n.n=0
   · by_cases d:n.kind=1
     · simp only [c,d];exact hp
     · simp only [a,b,c,d,S5,O0.2 a,O0.2 b,O0.2 d,bne,C6,S1,O2,L4,D4];exact Ev.some
   · simp only [a,b,c,O0.2 a,O0.2 b,O0.2 c,bne,C6,S1,L4];exact Ev.some
  have key':=key _ false _ rfl rfl;cases(decide (n.kind=1)||decide (n.kind=2)||decide (n.kind=3)||decide (n.kind=18))
  · simp only [O2,Q4,Le];cases decide (n.text=[])
    · exact Ev.some
    · simp only [S1,C1];exact key'
  · simp only [S1,S8,C1];exact key'
 refine Ev.bind h4 ?_;cases hc:(pl&&qj n)
 · exact Ev.some
 simp only [y6,O2,A7,L2];have h5:ze n.kind n.n n.text n.names n.args (n.kind==0)=some (decide (n.kind=0)&& !gy n.n 0 10000):=by
  unfold ze gy;simp only [jE,W0];by_cases a:n.kind=0
  · simp only [a,beq_self_eq_true,S1,D4,C1]
  · simp only [a,O0.2 a,O2,L4,O3]
 refine Ev.iG h5 ?_;cases h6:(decide (n.kind=0)&& !gy n.n 0 10000)
 case true=>exact Ev.some
 simp only [O2,I2,L2];refine Ev.bind (aiL _ _ _ n.names _ (by omega)) ?_;rw [P1];unfold qF;cases h7:n.names.all rName
 · simp only [I2,L2,fP,A0];exact Ev.some
 simp only [A0,eH,A7,L2];refine Ev.bind (JY _) ?_
 have h8: ∀op:Operator,∀is:Bool,Ev (fun k=>zf k n.kind n.n n.text n.names n.args op.text op.fix op.low op.high op.left op.least op.most is)
  (if(if n.kind=2 then(if(kH n.text||vV n.text)=true then(0:Int)else 7)else if n.kind=18 then(if rName n.text=true then 0 else 7)else if n.kind=3 then(if(is||kH n.text)=true then(if(is&& !gy (n.args.length:Int) op.least op.most)=true then 17 else 0)else 7)else 0)=0 then .inl ()else
   .inr (if n.kind=2 then(if(kH n.text||vV n.text)=true then(0:Int)else 7)else if n.kind=18 then(if rName n.text=true then 0 else 7)else if n.kind=3 then(if(is||kH n.text)=true then(if(is&& !gy (n.args.length:Int) op.least op.most)=true then 17 else 0)else 7)else 0)):=by
  intro op is;unfold zf;by_cases a:n.kind=2
  · simp only [a,beq_self_eq_true,S1,A0];refine Ev.bind (Fb _ (by omega)) ?_;cases kH n.text
    · simp only [O2,Dy,W0,Q4];cases vV n.text<;>exact Ev.some
    · exact Ev.some
  by_cases b:n.kind=18
  · simp only [b];refine Ev.cF rfl (Ev.cT rfl ?_);refine Ev.bind (Bg _) ?_;cases rName n.text<;>exact Ev.some
  by_cases c:n.kind=3
  · simp only [c];refine Ev.cF rfl (Ev.cF rfl (Ev.cT rfl ?_));unfold Dq;cases is
    · simp only [C6,S1,Q4];refine Ev.bind (Ev.bind (Fb _ (by omega)) Ev.some) ?_;cases kH n.text<;>exact Ev.some
    · simp only [y6,O2,W0,S1,jE,S8,A0,C1];unfold gy;cases decide (op.least<=(n.args.length:Int)/\(n.args.length:Int)<=op.most)<;>exact Ev.some
  · simp only [a,b,c,O0.2 a,O0.2 b,O0.2 c,O2,L2,A0];exact Ev.some
 refine Ev.bind (h8 (dF dW n.text).1 (dF dW n.text).2) ?_;generalize hx:(if n.kind=2 then(if(kH n.text||vV n.text)=true then(0:Int)else 7)else if n.kind=18 then(if rName n.text=true then 0 else 7)else if n.kind=3 then(if((dF dW n.text).2||kH n.text)=true then(if((dF dW n.text).2&& !gy (n.args.length:Int) (dF dW n.text).1.least (dF dW n.text).1.most)=true then 17 else 0)else 7)else 0)=x;by_cases hx0:x=0
 · subst hx0;simp only [A0,eH,ne_eq,not_true_eq_false,L2];refine Ev.bind (an1 _ _ _ n.names _ (by omega)) ?_;cases vW [] n.names<;>exact Ev.some
 · simp only [hx0,L2,fP,ne_eq,W7,A0];exact Ev.some
def yB (acc:List Int) (n:Nd):Int:=match n.args with
 |[]=>acc.length
 |a::_=>acc[a.toNat]?.getD 0
def uq (acc:List Int):Int->List Int->Bool
 |_,[]=>true
 |next,a::l=>decide (a=next -1)&&decide (1<=next)&&uq acc (acc[(next -1).toNat]?.getD 0) l
structure sJ (e:List Nd) (i:Nat) (acc:List Int):Prop where
 len:acc.length=i
 le:i<=e.length
 at_: ∀j,j<i-> ∃n b,e[j]? =some n/\acc[j]? =some b/\0<=b/\b<=(j:Int)/\(n.args=[]->b=(j:Int))/\ ∀a l,n.args=a::l->0<=a/\a<(j:Int)/\acc[a.toNat]? =some b
structure oP (e:List Nd):Prop where
 len:e.length<=1000000
 nd: ∀(i:Nat) n,e[i]? =some n->n.text.length<=1000000/\n.names.length<=1000000/\n.args.length<=1000000
theorem sJ.rng {e:List Nd} {i:Nat} {acc:List Int} (h:sJ e i acc) {j:Nat} {b:Int} (hb:acc[j]? =some b):j<i/\0<=b/\b<=(j:Int):=by
 have hj:j<i:=by have:=(S0.1 hb).1;have:=h.len;omega
 obtain⟨n,b',h1,h2,h3,h4,_⟩:=h.at_ j hj;rw [hb]at h2;cases h2;exact⟨hj,h3,h4⟩
theorem aau {e:List Nd} {i:Nat} {acc:List Int} (h:sJ e i acc) (hi:i<=1000000): ∀(j:Nat) (b:Int),acc[j]? =some b->Ev (fun k=>rD k e (j:Int)) (.inl b):=by
 intro j
 induction j using Nat.strongRecOn with
 |_ j ih=>
  intro b hb;obtain⟨hj,hb0,hb1⟩:=h.rng hb;obtain⟨n,b',h1,h2,_,_,h5,h6⟩:=h.at_ j hj;rw [hb]at h2;cases h2;refine Ev.succ ?_;simp only [rD,V0,nn,A0,h1,W0,jE];cases hargs:n.args with
  |nil=>
   refine Ev.cF (by simp) (Ev.some' ?_);rw [h5 hargs]
  |cons a l=>
   obtain⟨h7,h8,h9⟩:=h6 a l hargs;refine Ev.cT (by simp) ?_;simp only [N2,W0];rw [wrap64 (by omega) (by omega)];refine Ev.cT (g0 (by omega)) ?_;have:=ih a.toNat (by omega) b h9
   rwa [Int.toNat_of_nonneg h7]at this
theorem VK {e:List Nd} {i:Nat} {acc:List Int} (h:sJ e i acc) (hi:i<=1000000) {j:Nat} {b:Int} (hb:acc[j]? =some b):Ev (fun k=>vQ k e (j:Int)) b:=by
 unfold vQ;refine Ev.cF (B0 (by omega)) (Ev.bind (aau h hi j b hb) ?_);simp only [eH];exact Ev.some
theorem acQ {α:Type} {l:List α} {m:Nat} (h:m<l.length):(l.take (m+1)).reverse=l[m]::(l.take m).reverse:=by
 rw [M2 h,List.reverse_append];rfl
theorem Ya {e:List Nd} {i:Nat} {acc:List Int} (h:sJ e i acc) (hi:i<=1000000) {n:Nd} (hn:e[i]? =some n) (hl:n.args.length<=1000000): ∀(m:Nat),m<=n.args.length-> ∀nx:Nat,nx<=i->
 Ev (fun k=>uW k e (i:Int) (nx:Int) ((m:Int) -1)) (if uq acc nx (n.args.take m).reverse=true then .inl ()else .inr false):=by
 intro m
 induction m with
 |zero=>
  intro _ nx hnx;refine Ev.succ ?_;simp only [uW];exact Ev.cF (by rfl) (Ev.some' (by simp [uq]))
 |succ m ih=>
  intro hm nx hnx;have hm':m<n.args.length:=by omega
  refine Ev.succ ?_;have e1:(((m+1:Nat):Int) -1)=(m:Int):=by omega
  simp only [e1,uW,V0,nn,A0,hn,W0,aP hm'];rw [acQ hm',uq];refine Ev.cT (by simp) ?_;rw [wrap64 (x:=(nx:Int) -1) (by omega) (by omega),wrap64 (x:=(m:Int) -1) (by omega) (by omega)];by_cases h1:n.args[m]=(nx:Int) -1
  · refine Ev.cF (by rw [h1];simp) ?_;by_cases h2:nx<1
    · refine Ev.cT (g0 (by omega)) (Ev.some' ?_);have: ¬(1:Int)<=nx:=by omega
      simp [this]
    · refine Ev.cF (B0 (by omega)) ?_;obtain⟨j,rfl⟩: ∃j,nx=j+1:=⟨nx -1,by omega⟩;have e2:(((j+1:Nat):Int) -1)=(j:Int):=by omega
      rw [e2]at h1⊢;obtain⟨n',b,h3,h4,h5,h6,_⟩:=h.at_ j (by omega);refine Ev.bind (VK h hi h4) ?_;obtain⟨b,rfl⟩: ∃b':Nat,b=b':=⟨b.toNat,by omega⟩;refine(ih (by omega) b (by omega)).to ?_;have e3:(1:Int)<=((j+1:Nat):Int):=by omega
      simp only [h1,e3,D4,C1,V0,h4,E2]
  · refine Ev.cT (by rw [S5];exact h1) (Ev.some' ?_);simp [h1]
theorem afB {e:List Nd} {i:Nat} {acc:List Int} (h:sJ e i acc) (hi:i<=1000000) {n:Nd} (hn:e[i]? =some n) (hl:n.args.length<=1000000):Ev (fun k=>EG k e (i:Int)) (uq acc i n.args.reverse):=by
 unfold EG;simp only [V0,nn,A0,hn,W0];rw [wrap64 (by omega) (by omega)];have:=Ya h hi hn hl n.args.length (R0 _) i (R0 _);rw [z6]at this;refine Ev.bind this ?_;cases uq acc i n.args.reverse
 · simp only [I2,L2,fP];exact Ev.some
 · simp only [A0,eH];exact Ev.some
theorem Yb {e:List Nd} {i:Nat} {acc:List Int} (h:sJ e i acc): ∀(l:List Int) (nx:Nat),nx<=i->uq acc nx l=true-> ∀a∈l,0<=a/\a<(nx:Int)
 |[],_,_,_,a,ha=>by cases ha
 |a::l,nx,hnx,hp,x,hx=>by
  rw [uq,z1,z1,B2,B2]at hp;obtain⟨⟨h1,h2⟩,h3⟩:=hp;rcases M1.1 hx with rfl|hx
  · omega
  · obtain⟨j,rfl⟩: ∃j,nx=j+1:=⟨nx -1,by omega⟩;have e2:(((j+1:Nat):Int) -1)=(j:Int):=by omega
    obtain⟨n',b,h4,h5,h6,h7,_⟩:=h.at_ j (by omega);rw [e2,V0,h5,E2]at h3;obtain⟨b,rfl⟩: ∃b':Nat,b=b':=⟨b.toNat,by omega⟩;have:=Yb h l b (by omega) h3 x hx;omega
theorem sJ.zero (e:List Nd):sJ e 0 []:=⟨rfl,N3 _,fun j hj=>absurd hj (Nat.not_lt_zero _)⟩
theorem sJ.succ {e:List Nd} {i:Nat} {acc:List Int} (h:sJ e i acc) {n:Nd} (hn:e[i]? =some n) (hp:uq acc i n.args.reverse=true):sJ e (i+1) (acc++[yB acc n]):=by
 have hmem:=Yb h _ i (R0 _) hp;have hlen:=h.len;refine⟨by simp [hlen],(S0.1 hn).1,fun j hj=> ?_⟩;have old: ∀(m:Nat) (b:Int),acc[m]? =some b->(acc++[yB acc n])[m]? =some b:=fun m b e=>by
  rw [C0 (S0.1 e).1];exact e
 by_cases hj':j<i
 · obtain⟨n',b,h1,h2,h3,h4,h5,h6⟩:=h.at_ j hj';exact⟨n',b,h1,old _ _ h2,h3,h4,h5,fun a l ha=>⟨(h6 a l ha).1,(h6 a l ha).2.1,old _ _ (h6 a l ha).2.2⟩⟩
 · obtain rfl:j=i:=by omega
   have hnew:(acc++[yB acc n])[j]? =some (yB acc n):=by rw [N0 (by omega),hlen,L5];rfl
   cases hargs:n.args with
   |nil=>
    have e1:yB acc n=(j:Int):=by unfold yB;rw [hargs];simp [hlen]
    exact⟨n,_,hn,hnew,by omega,by omega,fun _=>e1,fun a l ha=>by rw [hargs]at ha;cases ha⟩
   |cons a l=>
    have ha:=hmem a (by rw [hargs];simp);obtain⟨n',b,h1,h2,h3,h4,h5,h6⟩:=h.at_ a.toNat (by omega);have e1:yB acc n=b:=by unfold yB;rw [hargs];simp only [h2,E2]
    rw [e1]at hnew old⊢;refine⟨n,b,hn,hnew,h3,by omega,(fun h=>by rw [hargs]at h;cases h),fun a' l' ha'=> ?_⟩;rw [hargs]at ha';cases ha';exact⟨ha.1,ha.2,old _ _ h2⟩
def jy:List Int->List Nd->List Int⊕(Int×Int)
 |acc,[]=> .inl acc
 |acc,n::l=>if bI (uq acc acc.length n.args.reverse) n≠0 then .inr ((acc.length:Int),bI (uq acc acc.length n.args.reverse) n)else jy (acc++[yB acc n]) l
theorem Bh {n:Nd} {pl:Bool} (h:bI pl n=0):pl=true:=by
 cases pl with
 |true=>rfl
 |false=>
  exfalso;unfold bI at h;simp only [O3,A0]at h;split at h
  · cases h
  · split at h<;>cases h
theorem aav {e:List Nd} (hL:oP e): ∀i,i<=e.length-> ∀acc,sJ e i acc->Ev (fun k=>tV k e (i:Int)) (match jy acc (e.drop i)with| .inl _=> .inl ()| .inr r=> .inr r):=by
 have hlen:=hL.len;refine down (fun acc h=> ?_) (fun i hi ih acc h=> ?_)
 · refine Ev.succ ?_;simp only [tV];exact Ev.cF (eD _) (Ev.some' (by simp [jy]))
 · refine Ev.succ ?_;obtain⟨h1,h2,h3⟩:=hL.nd i _ (aP hi);simp only [tV];refine Ev.cT (fC hi) (Ev.bind (acP e i e[i] _ (aP hi) (afB h (by omega) (aP hi) h3) h1 h2 h3) ?_);rw [drop_cons hi,jy,h.len];by_cases hc:bI (uq acc i e[i].args.reverse) e[i]=0
   · refine Ev.cF (by rw [hc];rfl) ?_;rw [bW hi (by omega)];refine(ih _ (h.succ (aP hi) (Bh hc))).to ?_;simp only [hc,ne_eq,not_true_eq_false,L2]
   · refine Ev.cT (by rw [S5];exact hc) (Ev.some' ?_);simp only [ne_eq,hc,W7,A0]
end Go.VL
end
section
set_option maxHeartbeats 4000000
namespace Go.VL
open Go.Proofs
def Bj:Nat->Str->Int->Int->Int->Int->Option ((Int×Int))
 |0,_,_,_,_,_=>none
 |k+1,s_0,Zq,xA,wP,mo=>
  cond (decide (mo<(s_0.length:Int))) (if 0<=mo then (s_0[mo.toNat]?).bind fun x3=>if 0<=(x3.toNat:Int)/\(x3.toNat:Int)<256 then (C8[x3.toNat]?).bind fun x6=>Bj k s_0 (IntKind.wrap .i64 (Zq+(IntKind.wrap .i64 ((BitVec.ofInt (IntKind.bits .i64) xA&&&BitVec.ofInt (IntKind.bits .i64) (IntKind.wrap .i64 ((BitVec.ofInt (IntKind.bits .i64) (if IntKind.signed .i64=true then -1 else IntKind.max .i64)^^^BitVec.ofInt (IntKind.bits .i64) (IntKind.wrap .i64 x6)).toNat))).toNat)))) (IntKind.wrap .i64 x6) (IntKind.wrap .u8 ((BitVec.ofInt (IntKind.bits .u8) wP|||BitVec.ofInt (IntKind.bits .u8) (x3.toNat:Int)).toNat)) (IntKind.wrap .i64 (mo+1))else none else none) (some ((Zq,wP)))
def OX:List Nat:=[3,4,5,6,7,8]++List.range' 13 23
theorem aaw: ∀(k:Nat) (s_0:Str) (Zq:Int) (xA:Int) (wP:Int) (mo:Int) (aH σ:Nat->PV) (H:AH) (f0:Fr OX aH σ) (sl:σ 0=(.str s_0)/\σ 3=(.int .i64 Zq)/\σ 4=(.int .i64 xA)/\σ 5=(.int .u8 wP)/\σ 6=(.int .i64 mo)) (o:(Int×Int)) (h:Bj k s_0 Zq xA wP mo=some o) (Q:Post) (q0: ∀(p:Int×Int) (σ':Nat->PV),o=p->Fr OX aH σ'->(σ' 3=(.int .i64 p.1)/\σ' 5=(.int .u8 p.2))->Q (.exit 0) σ' H),W Tryz.prog (.loop TW) Q σ H:=by
 intro k
 induction k with
 |zero=>intro s_0 Zq xA wP mo aH σ H f0 sl o h Q q0;simp only [Bj,reduceCtorEq]at h
 |succ k ih=>
  intro s_0 Zq xA wP mo aH σ H f0 sl o h Q q0;obtain⟨s0,s3,s4,s5,s6⟩:=sl;unfold Bj at h;refine bB (fun K hK=>aI ?_);unfold TW;obtain⟨e1,h⟩|⟨e1,h⟩:=aJ h
  ·obtain⟨e2,h⟩:=aX h;obtain⟨x3,e4,h⟩:=aj h;obtain⟨e5,h⟩:=aX h;obtain⟨x6,e7,h⟩:=aj h;refine dD ?_;refine hK _ _ ?_;exact ih s_0 (IntKind.wrap .i64 (Zq+(IntKind.wrap .i64 ((BitVec.ofInt (IntKind.bits .i64) xA&&&BitVec.ofInt (IntKind.bits .i64) (IntKind.wrap .i64 ((BitVec.ofInt (IntKind.bits .i64) (if IntKind.signed .i64=true then -1 else IntKind.max .i64)^^^BitVec.ofInt (IntKind.bits .i64) (IntKind.wrap .i64 x6)).toNat))).toNat)))) (IntKind.wrap .i64 x6) (IntKind.wrap .u8 ((BitVec.ofInt (IntKind.bits .u8) wP|||BitVec.ofInt (IntKind.bits .u8) (x3.toNat:Int)).toNat)) (IntKind.wrap .i64 (mo+1)) _ _ _ bG aC _ h _ q0
  ·cases h;refine dD ?_;exact q0 _ _ rfl bG aC
def Bl:Nat->Str->Int->Option Int
 |0,_,_=>none
 |k+1,s_0,iL=>
  cond (decide (iL<(s_0.length:Int))) (if 0<=iL then (s_0[iL.toNat]?).bind fun x30=>if 0<=(x30.toNat:Int)/\(x30.toNat:Int)<256 then (C8[x30.toNat]?).bind fun x33=>cond (x33 !=0) (Bl k s_0 (IntKind.wrap .i64 (iL+1))) (some (iL))else none else none) (some (iL))
def OY:List Nat:=[12]++List.range' 42 14
theorem aax: ∀(k:Nat) (s_0:Str) (iL:Int) (aH σ:Nat->PV) (H:AH) (f0:Fr OY aH σ) (sl:σ 0=(.str s_0)/\σ 12=(.int .i64 iL)) (o:Int) (h:Bl k s_0 iL=some o) (Q:Post) (q0: ∀(p:Int) (σ':Nat->PV),o=p->Fr OY aH σ'->(σ' 12=(.int .i64 p))->Q (.exit 2) σ' H),W Tryz.prog (.loop TY) Q σ H:=by
 intro k
 induction k with
 |zero=>intro s_0 iL aH σ H f0 sl o h Q q0;simp only [Bl,reduceCtorEq]at h
 |succ k ih=>
  intro s_0 iL aH σ H f0 sl o h Q q0;obtain⟨s0,s12⟩:=sl;unfold Bl at h;refine bB (fun K hK=>aI ?_);unfold TY;obtain⟨e28,h⟩|⟨e28,h⟩:=aJ h
  ·obtain⟨e29,h⟩:=aX h;obtain⟨x30,e31,h⟩:=aj h;obtain⟨e32,h⟩:=aX h;obtain⟨x33,e34,h⟩:=aj h;obtain⟨e35,h⟩|⟨e35,h⟩:=aJ h
   ·refine dD ?_;refine hK _ _ ?_;exact ih s_0 (IntKind.wrap .i64 (iL+1)) _ _ _ bG aC _ h _ q0
   ·cases h;refine dD ?_;exact q0 _ _ rfl bG aC
  ·cases h;refine dD ?_;exact q0 _ _ rfl bG aC
def Bn:Nat->Str->Int->Option Int
 |0,_,_=>none
 |k+1,s_0,iL=>
  cond (decide (iL<(s_0.length:Int))) (if 0<=iL then (s_0[iL.toNat]?).bind fun x73=>if 0<=(x73.toNat:Int)/\(x73.toNat:Int)<256 then (C8[x73.toNat]?).bind fun x76=>cond (x76 !=0) (Bn k s_0 (IntKind.wrap .i64 (iL+1))) (some (iL))else none else none) (some (iL))
def OZ:List Nat:=[12]++List.range' 80 14
theorem aay: ∀(k:Nat) (s_0:Str) (iL:Int) (aH σ:Nat->PV) (H:AH) (f0:Fr OZ aH σ) (sl:σ 0=(.str s_0)/\σ 12=(.int .i64 iL)) (o:Int) (h:Bn k s_0 iL=some o) (Q:Post) (q0: ∀(p:Int) (σ':Nat->PV),o=p->Fr OZ aH σ'->(σ' 12=(.int .i64 p))->Q (.exit 6) σ' H),W Tryz.prog (.loop T9) Q σ H:=by
 intro k
 induction k with
 |zero=>intro s_0 iL aH σ H f0 sl o h Q q0;simp only [Bn,reduceCtorEq]at h
 |succ k ih=>
  intro s_0 iL aH σ H f0 sl o h Q q0;obtain⟨s0,s12⟩:=sl;unfold Bn at h;refine bB (fun K hK=>aI ?_);unfold T9;obtain⟨e71,h⟩|⟨e71,h⟩:=aJ h
  ·obtain⟨e72,h⟩:=aX h;obtain⟨x73,e74,h⟩:=aj h;obtain⟨e75,h⟩:=aX h;obtain⟨x76,e77,h⟩:=aj h;obtain⟨e78,h⟩|⟨e78,h⟩:=aJ h
   ·refine dD ?_;refine hK _ _ ?_;exact ih s_0 (IntKind.wrap .i64 (iL+1)) _ _ _ bG aC _ h _ q0
   ·cases h;refine dD ?_;exact q0 _ _ rfl bG aC
  ·cases h;refine dD ?_;exact q0 _ _ rfl bG aC
def yh:Nat->Str->(List Str)->Int->Int->Int->Option (((List Str)×Int×Int))
 |0,_,_,_,_,_=>none
 |k+1,s_0,O1,pO,gM,iL=>
  cond (decide (iL<(s_0.length:Int))) (if 0<=iL then (s_0[iL.toNat]?).bind fun x48=>if 0<=(x48.toNat:Int)/\(x48.toNat:Int)<256 then (C8[x48.toNat]?).bind fun x51=>cond (x51==0) (yh k s_0 O1 pO gM (IntKind.wrap .i64 (iL+1))) (if 0<=gM/\gM<=iL/\iL.toNat<=s_0.length then if 0<=pO then (O1[pO.toNat]?).bind fun x56=>Option.bind (Bn k s_0 (IntKind.wrap .i64 (iL+1))) (fun p81=>yh k s_0 (O1.set pO.toNat ((s_0.take iL.toNat).drop gM.toNat)) (IntKind.wrap .i64 (pO+1)) p81 p81)else none else none)else none else none) (some ((O1,pO,gM)))
def O4:List Nat:=[10,11,12]++List.range' 57 38
theorem aaz: ∀(k:Nat) (GV:PV) (EI:List Nat) (M:List Nat) (s_0:Str) (O1:List Str) (pO:Int) (gM:Int) (iL:Int) (aH σ:Nat->PV) (H0 H:AH) (f0:Fr O4 aH σ) (hf0:HF M H0 H) (sl:σ 0=(.str s_0)/\σ 9=GV/\σ 10=(.int .i64 pO)/\σ 11=(.int .i64 gM)/\σ 12=(.int .i64 iL)) (GX:aB H aF 1 O1 GV EI) (Lf:Nw H0 M EI) (o:((List Str)×Int×Int)) (h:yh k s_0 O1 pO gM iL=some o) (Q:Post) (q0: ∀(p:(List Str)×Int×Int) (v0:PV) (xB:List Nat) (σ':Nat->PV) (H':AH),o=p->Fr O4 aH σ'->HF M H0 H'->(σ' 9=v0/\σ' 10=(.int .i64 p.2.1)/\σ' 11=(.int .i64 p.2.2))->aB H' aF 1 p.1 v0 xB->Nw H0 M xB->Q (.exit 4) σ' H'),W Tryz.prog (.loop Ua) Q σ H:=by
 intro k
 induction k with
 |zero=>intro GV EI M s_0 O1 pO gM iL aH σ H0 H f0 hf0 sl GX Lf o h Q q0;simp only [yh,reduceCtorEq]at h
 |succ k ih=>
  intro GV EI M s_0 O1 pO gM iL aH σ H0 H f0 hf0 sl GX Lf o h Q q0;obtain⟨s0,s9,s10,s11,s12⟩:=sl;have hle0:=hf0.1;unfold yh at h;refine bB (fun K hK=>aI ?_);unfold Ua;obtain⟨e46,h⟩|⟨e46,h⟩:=aJ h
  ·obtain⟨e47,h⟩:=aX h;obtain⟨x48,e49,h⟩:=aj h;obtain⟨e50,h⟩:=aX h;obtain⟨x51,e52,h⟩:=aj h;obtain⟨e53,h⟩|⟨e53,h⟩:=aJ h
   ·refine dD ?_;refine hK _ _ ?_;exact ih GV EI M s_0 O1 pO gM (IntKind.wrap .i64 (iL+1)) _ _ _ _ bG yH aC (by repeat (first|exact GX|apply aB.new|refine aB.put ?_ (fun hm=>by have:=aB.lt GX _ hm;omega))) Lf _ h _ q0
   ·obtain⟨e54,h⟩:=aX h;obtain⟨e55,h⟩:=aX h;obtain⟨x56,e57,h⟩:=aj h;obtain⟨w58,w59,ax5,hil,w60,hC,hL,hD,hI⟩:=aB.content GX e57;have w61:=ne_next hil;have w62:=bA hil;have w63:jS 1 GV (.int .i64 pO)=some (.ref w58 (pO.toNat)):=by simpa using hI .i64 pO (by first|omega|decide) (by first|rfl|omega)
    have aKR:w59[pO.toNat]? =some (.str x56):=by simpa using hC 0 _ rfl
    clear hC hL hD hI;refine dD ?_;refine qd (f:=aF) (id:=w58) (o:=pO.toNat) (i:=pO.toNat) (j:=0) (a:=x56) (y:=((s_0.take iL.toNat).drop gM.toNat)) (vs:=[(.str ((s_0.take iL.toNat).drop gM.toNat))]) aC ax5 (by omega) (by repeat (first|exact GX|apply aB.new|refine aB.put ?_ (fun hm=>by have:=aB.lt GX _ hm;omega))) e57 aC rfl rfl (by first|decide|(simp only [I0,j0];omega)) rfl (fun H66 r67 ax6 aGd=> ?_);have le:=ax6.1;try simp only [AH.aN,AH.aO,AH.aS,AH.aT]at le
    refine dD ?_;obtain⟨o79,h80,h⟩:=aj h;refine aay k s_0 (IntKind.wrap .i64 (iL+1)) _ _ _ (Fr.refl _ _) aC _ h80 _ ?_
    ·rintro p81 σ' eo an2 s85;rw [eo]at h;have s86:σ' 0=(.str s_0):=(an2 0 (by decide)).trans aC;have s87:σ' 9=GV:=(an2 9 (by decide)).trans aC;have s88:σ' 10=(.int .i64 (IntKind.wrap .i64 (pO+1))):=(an2 10 (by decide)).trans aC;refine dD ?_;refine hK _ _ ?_;exact ih GV EI M s_0 (O1.set pO.toNat ((s_0.take iL.toNat).drop gM.toNat)) (IntKind.wrap .i64 (pO+1)) p81 p81 _ _ _ _ FJ (by repeat (first|exact hf0|refine HF.new ?_|refine HF.Ry ?_|refine HF.used ?_|refine HF.put (by first|(right;omega)|(left;simp only [M1,w8,q7])) ?_|refine HF.via ax6 Lf ?_)) aC (by repeat (first|exact r67|apply aB.new|refine aB.put ?_ (fun hm=>by have:=aB.lt r67 _ hm;omega))) Lf _ h _ q0
  ·cases h;refine dD ?_;exact q0 _ GV EI _ _ rfl bG yH aC (by repeat (first|exact GX|apply aB.new|refine aB.put ?_ (fun hm=>by have:=aB.lt GX _ hm;omega))) Lf
def ML (k:Nat) (s_0:Str):Option (List Str):=
 Option.bind (Bj k s_0 0 1 0 0) (fun mH=>cond (decide (mH.2>=128)) ((aci s_0).bind fun Bc=>some Bc) (if 0<=mH.1/\mH.1<=1099511627776/\16*mH.1<=1099511627776 then Option.bind (Bl k s_0 0) (fun p38=>Option.bind (yh k s_0 (List.replicate mH.1.toNat []) 0 p38 p38) (fun ou=>cond (decide (ou.2.2<(s_0.length:Int))) (if 0<=ou.2.2/\ou.2.2.toNat<=s_0.length then if 0<=ou.2.1 then (ou.1[ou.2.1.toNat]?).bind fun an3=>some (ou.1.set ou.2.1.toNat (s_0.drop ou.2.2.toNat))else none else none) (some ou.1)))else none))
theorem aiM {k:Nat} {s_0:Str} {r:List Str} (h:ML k s_0=some r):aG Tryz.prog 278 [(.str s_0)] (.ah (r.map aF) .unk):=by
 refine aG.bX (dJ.mem (.cons (.str _) .nil)) (aL aCo (by simp) (aI ?_)) (bK gu _);unfold ML at h;unfold aq8;refine dD ?_;obtain⟨o8,h9,h⟩:=aj h;refine aaw k s_0 0 1 0 0 _ _ _ (Fr.refl _ _) aC _ h9 _ ?_
 ·rintro mH σ' eo aGe ⟨QN,s15⟩;rw [eo]at h;have s16:σ' 0=(.str s_0):=(aGe 0 (by decide)).trans aC;obtain⟨e17,h⟩|⟨e17,h⟩:=aJ h
  ·obtain⟨Bc,e18,h⟩:=aj h;refine dD ?_;refine av (aib s_0 e18) ?_;cases h;refine dD ?_;exact(jV gu _ _)
  ·obtain⟨e20,h⟩:=aX h;refine dD ?_;refine ab4 (f:=aF) (k:= .i64) (n:=mH.1) (k':= .i64) (c:=mH.1) [] rfl aC aC (by omega) (by decide) (fun v21 arH H23 r24 aLB aGf anw=> ?_);have le:=aGf.1;try simp only [AH.aN,AH.aO,AH.aS,AH.aT]at le
   refine dD ?_;obtain⟨o36,h37,h⟩:=aj h;refine aax k s_0 0 _ _ _ (Fr.refl _ _) aC _ h37 _ ?_
   ·rintro p38 σ' eo an4 s42;rw [eo]at h;have s43:σ' 0=(.str s_0):=(an4 0 (by decide)).trans aC;have s44:σ' 9=v21:=(an4 9 (by decide)).trans aC;have s45:σ' 10=(.int .i64 0):=(an4 10 (by decide)).trans aC;refine dD ?_;obtain⟨o89,h90,h⟩:=aj h;refine aaz k v21 arH (arH++[]) s_0 (List.replicate mH.1.toNat []) 0 p38 p38 _ _ _ _ (Fr.refl _ _) (HF.refl _ _) aC (by repeat (first|exact r24|apply aB.new|refine aB.put ?_ (fun hm=>by have:=aB.lt r24 _ hm;omega))) (fun i hi=>Or.inl (by simp only [P2,M1,hi,w8,q7])) _ h90 _ ?_
    ·rintro ou v95 aKS σ' H94 eo an5 an6 ⟨s99,aya,aLC⟩ r97 aLD;rw [eo]at h;have aLE:σ' 0=(.str s_0):=(an5 0 (by decide)).trans aC;have le:=an6.1;try simp only [AH.aN,AH.aO,AH.aS,AH.aT]at le
     obtain⟨acR,h⟩|⟨acR,h⟩:=aJ h
     ·obtain⟨aiN,h⟩:=aX h;obtain⟨aiO,h⟩:=aX h;obtain⟨an3,O5,h⟩:=aj h;obtain⟨ayb,aGg,aub,hil,aLF,hC,hL,hD,hI⟩:=aB.content r97 O5;have aLG:=ne_next hil;have aLH:=bA hil;have aLI:jS 1 v95 (.int .i64 ou.2.1)=some (.ref ayb (ou.2.1.toNat)):=by simpa using hI .i64 ou.2.1 (by first|omega|decide) (by first|rfl|omega)
      have aIL:aGg[ou.2.1.toNat]? =some (.str an3):=by simpa using hC 0 _ rfl
      clear hC hL hD hI;refine dD ?_;refine qd (f:=aF) (id:=ayb) (o:=ou.2.1.toNat) (i:=ou.2.1.toNat) (j:=0) (a:=an3) (y:=(s_0.drop ou.2.2.toNat)) (vs:=[(.str (s_0.drop ou.2.2.toNat))]) aC aub (by omega) (by repeat (first|exact r97|apply aB.new|refine aB.put ?_ (fun hm=>by have:=aB.lt r97 _ hm;omega))) O5 aC rfl rfl (by first|decide|(simp only [I0,j0];omega)) rfl (fun aGh ayc aCJ aKT=> ?_);have le:=aCJ.1;try simp only [AH.aN,AH.aO,AH.aS,AH.aT]at le
      cases h;refine dD ?_;exact(aB.fz gu (by repeat (first|exact ayc|apply aB.new|refine aB.put ?_ (fun hm=>by have:=aB.lt ayc _ hm;omega))))
     ·cases h;refine dD ?_;exact(aB.fz gu (by repeat (first|exact r97|apply aB.new|refine aB.put ?_ (fun hm=>by have:=aB.lt r97 _ hm;omega))))
instance aCK (k:Nat) (s_0:Str):bY Tryz.prog 278 [(.str s_0)] (ML k s_0) (fun r=>(.ah (r.map aF) .unk)):=⟨fun _ h=>aiM h⟩
def xC (k:Nat):Option (List Str):=
 (ML k ([65,83,83,85,77,69,32,65,83,83,85,77,80,84,73,79,78,32,65,88,73,79,77,32,66,89,32,67,65,83,69,32,67,72,79,79,83,69,32,67,79,78,83,84,65,78,84,32,67,79,78,83,84,65,78,84,83,32,68,69,70,32,68,69,70,73,78,69,32,68,69,70,83,32,68,79,77,65,73,78,32,69,76,83,69,32,69,78,65,66,76,69,68,32,69,88,67,69,80,84,32,69,88,84,69,78,68,83,32,70,65,76,83,69,32,72,65,86,69,32,72,73,68,69,32,73,70,32,73,78,32,73,78,83,84,65,78,67,69,32,76,65,77,66,68,65,32,76,69,77,77,65,32,76,69,84,32,76,79,67,65,76,32,77,79,68,85,76,69,32,78,69,87,32,79,66,86,73,79,85,83,32,79,77,73,84,84,69,68,32,79,84,72,69,82,32,80,73,67,75,32,80,82,79,79,70,32,80,82,79,80,79,83,73,84,73,79,78,32,80,82,79,86,69,32,81,69,68,32,82,69,67,85,82,83,73,86,69,32,83,85,66,83,69,84,32,83,85,70,70,73,67,69,83,32,84,65,75,69,32,84,72,69,78,32,84,72,69,79,82,69,77,32,84,82,85,69,32,85,78,67,72,65,78,71,69,68,32,85,78,73,79,78,32,85,83,69,32,86,65,82,73,65,66,76,69,32,86,65,82,73,65,66,76,69,83,32,87,73,84,72,32,87,73,84,78,69,83,83,32,66,79,79,76,69,65,78,32,83,84,82,73,78,71]:Str)).bind fun p2=>some p2
instance acS (k:Nat):bY Tryz.prog 237 [] (xC k) (fun r=>(.ah (r.map aF) .unk)):=bM aBW (by unfold xC aqG;exact bE)
theorem acT {k:Nat} {r:List Str} (h:xC k=some r):aG Tryz.prog 237 [] (.ah (r.map aF) .unk):=(acS _).c _ h
end Go.VL
end
section
namespace Go.VL
open Go.Proofs Go.RowKit
def KD:List Str:=(xC 800).getD []
theorem akY:xC 800=some KD:=by
 have h:(xC 800).isSome=true:=by kernel_rfl
 rw [KD];cases h1:xC 800 with
 |none=>rw [h1]at h;cases h
 |some r=>rfl
theorem ayd:aG Tryz.prog 237 [] (.ah (KD.map aF) .unk):=acT akY
end Go.VL
end
section
set_option maxHeartbeats 4000000
namespace Go.VL
open Go.Proofs
def Fe (k:Nat) (s_0:Str) (Dz:Bool):Option Bool:=
 cond Dz (some (true)) ((lC s_0 ([87,70,95]:Str)).bind fun p5=>cond p5 (some (true)) ((lC s_0 ([83,70,95]:Str)).bind fun p8=>cond p8 (some (true)) ((bO k KD s_0).bind fun vO=>some (vO))))
def O6:List Nat:=List.range' 11 12
theorem aaA (k:Nat): ∀(s_0:Str) (Dz:Bool) (aH σ:Nat->PV) (H:AH) (f0:Fr O6 aH σ) (sl:σ 0=(.str s_0)/\σ 10=(.bool Dz)) (o:Bool) (h:Fe k s_0 Dz=some o) (Q:Post) (q0: ∀(p:Bool) (σ':Nat->PV),o=p->Fr O6 aH σ'->(σ' 22=(.bool p))->Q .normal σ' H),eZ Tryz.prog SG (Q .normal) σ H:=by
 intro s_0 Dz aH σ H f0 sl o h Q q0;obtain⟨s0,s10⟩:=sl;unfold Fe at h;refine oG ?_;unfold SG;obtain⟨e3,h⟩|⟨e3,h⟩:=aJ h
 ·cases h;refine ak ?_;exact q0 _ _ rfl bG aA
 ·obtain⟨p5,e4,h⟩:=aj h;refine ak ?_;refine av (Gw e4) ?_;obtain⟨e6,h⟩|⟨e6,h⟩:=aJ h
  ·cases h;refine ak ?_;exact q0 _ _ rfl bG aA
  ·obtain⟨p8,e7,h⟩:=aj h;refine ak ?_;refine av (Gw e7) ?_;obtain⟨e9,h⟩|⟨e9,h⟩:=aJ h
   ·cases h;refine ak ?_;exact q0 _ _ rfl bG aA
   ·refine ak ?_;refine av (ayd) ?_;obtain⟨vO,e10,h⟩:=aj h;refine ak ?_;refine av (jD e10) ?_;cases h;refine ak ?_;exact q0 _ _ rfl bG aA
def Bo (c_5:Int) (acU:Bool):Option Bool:=
 cond acU (some (true)) ((gX (IntKind.wrap .i64 c_5) 65 90).bind fun p29=>some (p29))
theorem aaB: ∀(c_5:Int) (acU:Bool) (aH σ:Nat->PV) (H:AH) (f0:Fr [35,36,37,38] aH σ) (sl:σ 5=(.int .u8 c_5)/\σ 34=(.bool acU)) (o:Bool) (h:Bo c_5 acU=some o) (Q:Post) (q0: ∀(p:Bool) (σ':Nat->PV),o=p->Fr [35,36,37,38] aH σ'->(σ' 38=(.bool p))->Q .normal σ' H),eZ Tryz.prog SH (Q .normal) σ H:=by
 intro c_5 acU aH σ H f0 sl o h Q q0;obtain⟨s5,s34⟩:=sl;unfold Bo at h;refine oG ?_;unfold SH;obtain⟨e27,h⟩|⟨e27,h⟩:=aJ h
 ·cases h;refine ak ?_;exact q0 _ _ rfl bG aA
 ·obtain⟨p29,e28,h⟩:=aj h;refine ak ?_;refine av (jq e28) ?_;cases h;refine ak ?_;exact q0 _ _ rfl bG aA
def lK:Nat->Int->(List Int)->Int->Int->Option (Int⊕Bool)
 |0,_,_,_,_=>none
 |k+1,mO,yC,jQ,kZ=>
  cond (decide (kZ<jQ)) (if 0<=kZ then (yC[kZ.toNat]?).bind fun x23=>(gX (IntKind.wrap .i64 x23) 97 122).bind fun p26=>Option.bind (Bo x23 p26) (fun p32=>cond p32 (lK k (IntKind.wrap .i64 (mO+1)) yC jQ (IntKind.wrap .i64 (kZ+1))) ((gX (IntKind.wrap .i64 x23) 48 57).bind fun p44=>cond p44 (lK k mO yC jQ (IntKind.wrap .i64 (kZ+1))) (cond (x23 !=95) (some (.inr (false))) (lK k mO yC jQ (IntKind.wrap .i64 (kZ+1))))))else none) (some (.inl mO))
def Ja:List Nat:=[2,3,5]++List.range' 26 25
theorem aaC: ∀(k:Nat) (mO:Int) (yC:List Int) (jQ:Int) (kZ:Int) (aH σ:Nat->PV) (H:AH) (f0:Fr Ja aH σ) (sl:σ 3=(.int .i64 mO)/\σ 24=(.ah (yC.map u8L) .unk)/\σ 25=(.int .i64 jQ)/\σ 26=(.int .i64 kZ)) (o:Int⊕Bool) (h:lK k mO yC jQ kZ=some o) (Q:Post) (q0: ∀(p:Int) (σ':Nat->PV),o= .inl p->Fr Ja aH σ'->(σ' 3=(.int .i64 p))->Q (.exit 0) σ' H) (q1: ∀(p:Bool) (σ':Nat->PV),o= .inr (p)->Fr Ja aH σ'->(σ' 2=(.bool p))->Q .ret σ' H),W Tryz.prog (.loop SI) Q σ H:=by
 intro k
 induction k with
 |zero=>intro mO yC jQ kZ aH σ H f0 sl o h Q q0 q1;simp only [lK,reduceCtorEq]at h
 |succ k ih=>
  intro mO yC jQ kZ aH σ H f0 sl o h Q q0 q1;obtain⟨s3,s24,s25,s26⟩:=sl;unfold lK at h;refine bB (fun K hK=>aI ?_);unfold SI;obtain⟨e21,h⟩|⟨e21,h⟩:=aJ h
  ·obtain⟨e22,h⟩:=aX h;obtain⟨x23,e24,h⟩:=aj h;obtain⟨p26,e25,h⟩:=aj h;refine ak ?_;refine av (jq e25) ?_;refine ak ?_;obtain⟨o30,h31,h⟩:=aj h;refine aaB x23 p26 _ _ _ (Fr.refl _ _) aA _ h31 _ ?_
   ·rintro p32 σ' eo Gn s36;rw [eo]at h;have s37:σ' 3=(.int .i64 mO):=(Gn 3 (by decide)).trans aA;have s38:σ' 5=(.int .u8 x23):=(Gn 5 (by decide)).trans aA;have s39:σ' 24=(.ah (yC.map u8L) .unk):=(Gn 24 (by decide)).trans aA;have s40:σ' 25=(.int .i64 jQ):=(Gn 25 (by decide)).trans aA;have s41:σ' 26=(.int .i64 kZ):=(Gn 26 (by decide)).trans aA;obtain⟨e42,h⟩|⟨e42,h⟩:=aJ h
    ·refine ak ?_;refine hK _ _ ?_;exact ih (IntKind.wrap .i64 (mO+1)) yC jQ (IntKind.wrap .i64 (kZ+1)) _ _ _ FJ aA _ h _ q0 q1
    ·obtain⟨p44,e43,h⟩:=aj h;refine ak ?_;refine av (jq e43) ?_;obtain⟨e45,h⟩|⟨e45,h⟩:=aJ h
     ·refine ak ?_;refine hK _ _ ?_;exact ih mO yC jQ (IntKind.wrap .i64 (kZ+1)) _ _ _ FJ aA _ h _ q0 q1
     ·obtain⟨e46,h⟩|⟨e46,h⟩:=aJ h
      ·cases h;refine ak ?_;exact q1 _ _ rfl FJ aA
      ·refine ak ?_;refine hK _ _ ?_;exact ih mO yC jQ (IntKind.wrap .i64 (kZ+1)) _ _ _ FJ aA _ h _ q0 q1
  ·cases h;refine ak ?_;exact q0 _ _ rfl bG aA
def uZ (k:Nat) (s_0:Str):Option Bool:=
 (gX (s_0.length:Int) 1 24).bind fun p2=>Option.bind (Fe k s_0 (!p2)) (fun nG=>cond nG (some false) (Option.bind (lK k 0 (vM s_0) ((vM s_0).length:Int) 0) (fun o=>Sum.elim (fun p49=>some (decide (p49>0))) (fun p54=>some p54) o)))
theorem GY {k:Nat} {s_0:Str} {r:Bool} (h:uZ k s_0=some r):aG Tryz.prog 187 [(.str s_0)] (.bool r):=by
 refine aG.bX (dJ.mem (.cons (.str _) .nil)) (aL aBy (by simp) (aI ?_)) (.bool _);unfold uZ at h;unfold aqh;obtain⟨p2,e1,h⟩:=aj h;refine ak ?_;refine av (jq e1) ?_;refine ak ?_;obtain⟨o12,h13,h⟩:=aj h;refine aaA k s_0 (!p2) _ _ _ (Fr.refl _ _) aA _ h13 _ ?_
 ·rintro nG σ' eo an7 ow;rw [eo]at h;have zm:σ' 0=(.str s_0):=(an7 0 (by decide)).trans aA;obtain⟨e20,h⟩|⟨e20,h⟩:=aJ h
  ·cases h;refine ak ?_;exact(.pure _ (.bool _))
  ·refine ak ?_;obtain⟨o47,h48,h⟩:=aj h;refine aaC k 0 (vM s_0) ((vM s_0).length:Int) 0 _ _ _ (Fr.refl _ _) aA _ h48 _ ?_ ?_
   ·rintro p49 σ' eo an8 s53;subst eo;rw [eH]at h;cases h;refine ak ?_;exact(.pure _ (.bool _))
   ·rintro p54 σ' eo aLJ s58;subst eo;rw [fP]at h;cases h;refine ak ?_;exact(.pure _ (.bool _))
instance aCL (k:Nat) (s_0:Str):bY Tryz.prog 187 [(.str s_0)] (uZ k s_0) (fun r=>(.bool r)):=⟨fun _ h=>GY h⟩
def xD (k:Nat) (s_0:Str):Option Bool:=
 cond (decide ((s_0.length:Int)>49)) (some false) ((anE s_0 ([33]:Str)).bind fun p5=>cond (decide (p5>=0)) (if 0<=p5/\p5.toNat<=s_0.length then if 0<=(IntKind.wrap .i64 (p5+1))/\(IntKind.wrap .i64 (p5+1)).toNat<=s_0.length then (uZ k (s_0.take p5.toNat)).bind fun mH=>cond mH ((uZ k (s_0.drop (IntKind.wrap .i64 (p5+1)).toNat)).bind fun tQ=>some tQ) (some false)else none else none) ((uZ k s_0).bind fun K7=>cond K7 (some true) (some false)))
theorem acV {k:Nat} {s_0:Str} {r:Bool} (h:xD k s_0=some r):aG Tryz.prog 272 [(.str s_0)] (.bool r):=by
 refine aG.bX (dJ.mem (.cons (.str _) .nil)) (aL aCk (by simp) (aI ?_)) (.bool _);unfold xD at h;unfold aq4;obtain⟨e1,h⟩|⟨e1,h⟩:=aJ h
 ·cases h;refine ak ?_;exact(.pure _ (.bool _))
 ·refine ak ?_;refine aL aCx (by simp) (aI ?_);unfold ark;refine ak ?_;refine aL aCz (by simp) (aI ?_);unfold arn;obtain⟨p5,e4,h⟩:=aj h;refine ak ?_;refine av (axB s_0 ([33]:Str) e4) ?_;obtain⟨e6,h⟩|⟨e6,h⟩:=aJ h
  ·refine ak ?_;refine oH ?_;obtain⟨e7,h⟩:=aX h;obtain⟨e8,h⟩:=aX h;obtain⟨mH,e9,h⟩:=aj h;refine ak ?_;refine av (GY e9) ?_;obtain⟨e11,h⟩|⟨e11,h⟩:=aJ h
   ·obtain⟨tQ,e12,h⟩:=aj h;refine ak ?_;refine av (GY e12) ?_;cases h;refine ak ?_;exact(.pure _ (.bool _))
   ·cases h;refine ak ?_;exact(.pure _ (.bool _))
  ·obtain⟨K7,e14,h⟩:=aj h;refine ak ?_;refine av (GY e14) ?_;obtain⟨e16,h⟩|⟨e16,h⟩:=aJ h
   ·cases h;refine ak ?_;exact(.pure _ (.bool _))
   ·cases h;refine ak ?_;exact(.pure _ (.bool _))
instance aye (k:Nat) (s_0:Str):bY Tryz.prog 272 [(.str s_0)] (xD k s_0) (fun r=>(.bool r)):=⟨fun _ h=>acV h⟩
end Go.VL
end
section
namespace Go.VL
open Go.Proofs Go.RowKit
theorem Vs.aCM {G:Gh} {n:Nat} {s:List UInt8} {g:FuncId} {vs:Array Value} (h:Vs G n [.str s,.fn (.func g) [] []] vs):vs=#[.string ⟨s.toArray⟩,.func (.func g) #[] #[]]:=by
 obtain⟨h1,h2⟩:=h
 match vs,h1,h2 with
 |⟨[v,u]⟩,_,h2=>
   have e1:=h2 0 (.str s) v rfl rfl;have e2:=h2 1 (.fn (.func g) [] []) u rfl rfl;cases e1;cases e2 with
   |fn g cs ds vs us h1 _ h3 _=>
    have a1:vs=#[]:=Array.size_eq_zero_iff.1 h1;have a2:us=#[]:=Array.size_eq_zero_iff.1 h3;rw [a1,a2]
theorem ak1 {g:FuncId} {p:Nat->Bool} (hp: ∀x:Nat,x<=1114111->aG Tryz.prog g [.int .i32 x] (.bool (p x))) {w:World} (hg: ∀a x,Glob.gc a=some x->w.cell? a=some x) (hw:WH (fun b=>w.heap.size<=b) w):PredGrows Tryz.prog g #[] p w:=by
 intro W x hx hb;have hM:aW Tryz.prog g [.int .i32 x] AH.empty fun v _=>v= .bool (p x):=aW.mono (hp x hx AH.empty) fun v H' q=>q.1;refine(aW.top hM (fun a y e=>(World.cell?_of_block (hb.block _ (World.block_lt_of_cell? w a (hg a y e)))).trans (hg a y e)) (hw.keep fun b _ hlt=>hb.block b hlt).old (vs:=#[encR x]++#[]) ?_);exact⟨rfl,fun j c y e e'=>by
  match j,e,e' with
  |0,e,e'=>cases e;cases e';exact .int _ _⟩
theorem Yc {g:FuncId} (p:Nat->Bool) (he: ∀args w,(callFunc g args).run Tryz.prog w= .ok (.enter g args) w) (hp: ∀x:Nat,x<=1114111->aG Tryz.prog g [.int .i32 x] (.bool (p x))) (s:Str):
 aG Tryz.prog 270 [.str s,.fn (.func g) [] []] (.bool (decide (0<=Lib.idxFunc p true ⟨s.toArray⟩))):=by
 refine Ou ⟨_,Tryz.func270,rfl,by kernel_rfl⟩ (fun w G vs hg hi hw hv=> ?_) (dJ.mem (.cons (.str _) (.cons (.fn _ _ _ (dJ.mem .nil) (dJ.mem .nil)) .nil)));rw [Vs.aCM hv];refine(Tryz.strings_ContainsFunc_grows g #[] he p ⟨s.toArray⟩ w (ak1 hp hg hw)).mono ?_;rintro e w' ⟨rfl,hb⟩;exact⟨_,rfl,hb,fun G n=> .bool _⟩
def VN (x y:Int):Int×Int:=(((x.toNat*y.toNat/18446744073709551616:Nat):Int),((x.toNat*y.toNat% 18446744073709551616:Nat):Int))
theorem Vs.aCN {G:Gh} {n:Nat} {x y:Int} {k k':IntKind} {vs:Array Value} (h:Vs G n [.int k x,.int k' y] vs):vs=#[.int k x,.int k' y]:=by
 obtain⟨h1,h2⟩:=h
 match vs,h1,h2 with
 |⟨[v,u]⟩,_,h2=>
   have e1:=h2 0 (.int k x) v rfl rfl;have e2:=h2 1 (.int k' y) u rfl rfl;cases e1;cases e2;rfl
theorem auc (x y:Int) (h:(0<=x/\x<18446744073709551616)/\(0<=y/\y<18446744073709551616)):aG Tryz.prog 295 [.int .u64 x,.int .u64 y] (.dn [.int .u64 (VN x y).1,.int .u64 (VN x y).2]):=by
 refine ab1 ⟨_,Tryz.func295,rfl,by kernel_rfl⟩ (fun w G vs hg hi hv=> ?_) (dJ.mem (.cons (.int _ _) (.cons (.int _ _) .nil)));rw [Vs.aCN hv];obtain⟨a,rfl⟩: ∃a:Nat,x=a:=⟨x.toNat,by omega⟩;obtain⟨b,rfl⟩: ∃b:Nat,y=b:=⟨y.toNat,by omega⟩;refine(Tryz.bits_Mul64 a b (by omega) (by omega) w).mono ?_;rintro e w' ⟨rfl,rfl⟩;refine⟨_,rfl,Below.refl _ _,fun G n=> ?_⟩;refine .dn _ _ rfl fun j c y e e'=> ?_
 match j,e,e' with
 |0,e,e'=>cases e;cases e';exact .int _ _
 |1,e,e'=>cases e;cases e';exact .int _ _
theorem QO (p:Nat->Bool) (hp: ∀x,128<=x->p x=true) (s:Str): ∀(f pos:Nat),s.length<=pos+f->
 decide (0<=Lib.idxFuncFrom p true ⟨s.toArray⟩ f pos)=(s.drop pos).any (fun c=>p c.toNat)
 |0,pos,h=>by rw [v7 (by omega)];rfl
 |f+1,pos,h=>by
  have hsz:(⟨s.toArray⟩:ByteArray).size=s.length:=rfl;by_cases hlt:pos<s.length
  · have hlt':pos<(⟨s.toArray⟩:ByteArray).size:=hlt;have hget:(⟨s.toArray⟩:ByteArray)[pos]'hlt'=s[pos]:=rfl;rw [N1 hlt,b8];simp only [Lib.idxFuncFrom,hsz,hlt,A0];by_cases ha:(s[pos]).toNat<128
    · rw [decode_ascii ⟨s.toArray⟩ pos hlt' (by rw [hget];exact ha),hget];by_cases hq:p (s[pos]).toNat=true
      · simp only [hq,A0,S8];exact g0 (by omega)
      · simp only [hq,Q4];exact QO p hp s f (pos+1) (by omega)
    · have hd:=decode_high ⟨s.toArray⟩ pos hlt' (by rw [hget];omega);rw [if_pos (hp _ hd.1),hp _ (by omega),S8];exact g0 (by omega)
  · rw [v7 (by omega),Lib.idxFuncFrom_end _ _ _ _ _ (by rw [hsz];exact hlt)];rfl
theorem aud (p:Nat->Bool) (hp: ∀x,128<=x->p x=true) (s:Str):decide (0<=Lib.idxFunc p true ⟨s.toArray⟩)=s.any (fun c=>p c.toNat):=by
 have h:=QO p hp s s.length 0 (by omega);rw [P1]at h;exact h
def Um (x:Nat):Bool:=bif decide (32<=x)&&decide (x<=126)then x==34||x==92 else true
theorem ak2 (x:Nat) (h:x<=1114111):Du (x:Int)=some (Um x):=by
 have hw:IntKind.wrap .i64 (x:Int)=x:=IntWalk.i64_in _ (by omega);unfold Du gX Um;rw [hw];by_cases h1:32<=x
 · have h1':(32:Int)<=x:=by omega
   by_cases h2:x<=126
   · have h2':(x:Int)<=126:=by omega
     have e1:((x:Int)==34)=(x==34):=by rw [Bool.eq_iff_iff];simp only [E3];omega
     have e2:((x:Int)==92)=(x==92):=by rw [Bool.eq_iff_iff];simp only [E3];omega
     simp only [h1,h1',h2,h2',D4,S1,Bool.and_true,W0,e1,e2];cases x==34<;>rfl
   · have h2': ¬(x:Int)<=126:=by omega
     simp [h1,h1',h2,h2']
 · have h1': ¬(32:Int)<=x:=by omega
   simp [h1,h1']
def aiP (s:Str):Bool:=s.any (fun c=>Um c.toNat)
theorem ayf (s:Str):aG Tryz.prog 270 [.str s,.fn (.func 269) [] []] (.bool (aiP s)):=by
 have h:=Yc (g:=269) Um (fun args w=>by kernel_rfl) (fun x hx=>acJ (ak2 x hx)) s;rw [aud Um (fun x hx=>by
  have h2: ¬x<=126:=by omega
  simp [Um,h2]) s]at h
 exact h
end Go.VL
end
section
set_option maxHeartbeats 4000000
namespace Go.VL
open Go.Proofs
def zn (s_0:Str):Option Bool:=
 cond (decide ((s_0.length:Int)<=40)) (some (!(aiP s_0))) (some false)
theorem GZ {s_0:Str} {r:Bool} (h:zn s_0=some r):aG Tryz.prog 228 [(.str s_0)] (.bool r):=by
 refine aG.bX (dJ.mem (.cons (.str _) .nil)) (aL aBR (by simp) (aI ?_)) (.bool _);unfold zn at h;unfold aqB;obtain⟨e1,h⟩|⟨e1,h⟩:=aJ h
 ·refine ak ?_;refine av (ayf s_0) ?_;cases h;refine ak ?_;exact(.pure _ (.bool _))
 ·cases h;refine ak ?_;exact(.pure _ (.bool _))
end Go.VL
end
section
namespace Go.VL
open Go.Proofs Go.RowKit
theorem aa6 {G:Gh} {m:Nat} {v:Value} (h:V G m (.ah [] .nil) v):v= .slice none 0 0:=by
 generalize hp:PV.ah [] .nil=p at h;cases h with
 |ah es c sz ad cap f h1 h2 h3 h4 h5=>
  cases hp;have q1:=h5.1;have q2:=h5.2.2;rw [q1,q2];rfl
 |_=>cases hp
theorem Vs.ayg {G:Gh} {m:Nat} {n:Int} {vs:Array Value} (h:Vs G m [.ah [] .nil,.int .i64 n] vs):vs=#[.slice none 0 0,.int .i64 n]:=by
 obtain⟨h1,h2⟩:=h
 match vs,h1,h2 with
 |⟨[v,u]⟩,_,h2=>
   have e1:=h2 0 (.ah [] .nil) v rfl rfl;have e2:=h2 1 (.int .i64 n) u rfl rfl;cases e2;have e3:=aa6 e1;rw [e3]
theorem arL (zs:Array Value) (k:Nat):(Builtin.zeroCells zs k).size=k*zs.size:=by simp [Builtin.zeroCells]
theorem ak3 (n:Int) (h:0<n/\n<=1000000):Mj Tryz.prog 321 [.ah [] .nil,.int .i64 n] Operator.cells 7 []:=by
 intro H;refine⟨⟨_,Tryz.func321,rfl,by kernel_rfl⟩,fun B G w vs hU hM hv=> ?_⟩;obtain⟨n,rfl⟩: ∃k:Nat,n=k:=⟨n.toNat,by omega⟩;rw [Vs.ayg hv];obtain⟨i0,hi0,hq⟩: ∃i0,Tryz.prog.info? (Tryz.growOp_ren.t 25)=some i0/\(i0.zero.map fun z=>z.cells.size)=some 7/\i0.size=7/\i0.bytes=64:=by
  have h:(Tryz.prog.info? (Tryz.growOp_ren.t 25)).map (fun i0=>((i0.zero.map fun z=>z.cells.size),i0.size,i0.bytes))=some (some 7,7,64):=by kernel_rfl
  cases hi:Tryz.prog.info? (Tryz.growOp_ren.t 25)with
  |none=>rw [hi]at h;cases h
  |some i0=>rw [hi]at h;simp only [X2,L1,k9]at h;exact⟨i0,rfl,h.1,h.2.1,h.2.2⟩
 obtain⟨hz,hs,hb⟩:=hq;obtain⟨z,hz0,hz1⟩:=Z1.1 hz;have key:=Any8.slices_Grow_grow Tryz.growOp i0 z hi0 hz0 (by omega) none 0 0 n [] w (R0 _) (by omega) (by rw [hb];omega) (by omega) (by simp) (fun _=>rfl) (fun a e=>by cases e);have hge:=grownCap_ge w (0+n) 0 (Tryz.growOp_ren.t 25);refine key.mono ?_;rintro e w' ⟨rfl,rfl⟩
 obtain⟨G',e1,e2,e3⟩:=HM.newObj (w:=w.drew) hU hM.drew (Tryz.growOp_ren.t 25) (Vs.Xl (G:=G) H.next (grownCap w (0+n) 0 (Tryz.growOp_ren.t 25)*7) _ (by
  show((#[]:Array Value)++Builtin.zeroCells z.cells (0+n -0)++Builtin.zeroCells z.cells (grownCap w (0+n) 0 (Tryz.growOp_ren.t 25) -(0+n))).size=_
  rw [Array.size_append,Array.size_append,arL,arL,hz1];simp only [Array.size_empty];omega))
 refine⟨_,_,_,G',rfl,Tr.FC w _,e1,W6 _,e2,.bP H.next 0 0 _ 7 _ (A2 _) e3,[H.next],.inr ⟨H.next,_,List.replicate (grownCap w (0+n) 0 (Tryz.growOp_ren.t 25)*7) .any,rfl,rfl,N3 _,A2 _,?_,?_⟩,?_,(HF.refl _ _).new,fun c3 hc=>hc.new⟩
 · show(if H.next=H.next then some _ else _)=_
   rw [if_pos rfl];rfl
 · rw [D2,j0,Nat.sub_zero]
 · intro i hi;rw [P0.1 hi];exact .inr (R0 _)
end Go.VL
end
section
set_option maxHeartbeats 4000000
namespace Go.VL
open Go.Proofs
def zo:Nat->Int->Int->(List Operator)->(List Str)->Int->Int->Option (List Operator)
 |0,_,_,_,_,_,_=>none
 |k+1,iT,fQ,Fg,Dz,dA,mE=>
  cond (decide (mE<dA)) (if 0<=mE then (Dz[mE.toNat]?).bind fun x3=>if(Fg.length+1)*64<=1099511627776 then zo k iT fQ (Fg++[(Operator.mk x3 0 iT fQ false 1 1)]) Dz dA (IntKind.wrap .i64 (mE+1))else none else none) (some (Fg))
def Nf:List Nat:=[7,9]++List.range' 12 12
theorem Yd: ∀(k:Nat) (iT:Int) (fQ:Int) (Fg:List Operator) (Dz:List Str) (dA:Int) (mE:Int) (Ai:Ck) (aH σ:Nat->PV) (H0 H:AH) (f0:Fr Nf aH σ) (hf0:HF [] H0 H) (sl:σ 0=(.int .i64 iT)/\σ 1=(.int .i64 fQ)/\σ 7=(.ah (Fg.map Operator.cells) Ai)/\σ 10=(.ah (Dz.map aF) .unk)/\σ 11=(.int .i64 dA)/\σ 12=(.int .i64 mE)) (acW:aR H Ai) (o:List Operator) (h:zo k iT fQ Fg Dz dA mE=some o) (Q:Post) (q0: ∀(p:List Operator) (c0:Ck) (σ':Nat->PV) (H':AH),o=p->Fr Nf aH σ'->HF [] H0 H'->(σ' 7=(.ah (p.map Operator.cells) c0))->Q (.exit 0) σ' H'),W Tryz.prog (.loop Ud) Q σ H:=by
 intro k
 induction k with
 |zero=>intro iT fQ Fg Dz dA mE Ai aH σ H0 H f0 hf0 sl acW o h Q q0;simp only [zo,reduceCtorEq]at h
 |succ k ih=>
  intro iT fQ Fg Dz dA mE Ai aH σ H0 H f0 hf0 sl acW o h Q q0;obtain⟨s0,s1,s7,s10,s11,s12⟩:=sl;have hle0:=hf0.1;unfold zo at h;refine bB (fun K hK=>aI ?_);unfold Ud;obtain⟨e1,h⟩|⟨e1,h⟩:=aJ h
  ·obtain⟨e2,h⟩:=aX h;obtain⟨x3,e4,h⟩:=aj h;obtain⟨e9,h⟩:=aX h;refine ak ?_;refine gI (f:=Operator.cells) Operator.row Fg ([(Operator.mk x3 0 iT fQ false 1 1)]:List Operator) Ai .exact aA aA eG (by first|exact e9|(simp only [I0,j0];exact e9)) (fun c5 H6 ok7 le an9 rl8=> ?_);have aGi:HF [] _ H6:=⟨le,fun i _ _=>an9 i⟩;try simp only [AH.aN,AH.aO,AH.aS,AH.aT]at le
   refine ak ?_;refine hK _ _ ?_;exact ih iT fQ (Fg++[(Operator.mk x3 0 iT fQ false 1 1)]) Dz dA (IntKind.wrap .i64 (mE+1)) c5 _ _ _ _ bG II aA eG _ h _ q0
  ·cases h;refine ak ?_;exact q0 _ Ai _ _ rfl bG yH aA
def zq (k:Nat) (iT:Int) (fQ:Int) (EJ:List Str):Option (List Operator):=
 Option.bind (zo k iT fQ ([]:List Operator) EJ (EJ.length:Int) 0) (fun nG=>some nG)
theorem Bp {k:Nat} {iT:Int} {fQ:Int} {EJ:List Str} {c2:Ck} {r:List Operator} (h:zq k iT fQ EJ=some r):aG Tryz.prog 289 [(.int .i64 iT),(.int .i64 fQ),(.ah (EJ.map aF) c2)] (.ah (r.map Operator.cells) .unk):=by
 refine aG.lw (.same (.same (.ah .nil))) (aG.bX (dJ.mem (.cons (.int _ _) (.cons (.int _ _) (.cons (bK gu _) .nil)))) (aL aCu (by simp) (aI ?_)) (bK Operator.pu _));unfold zq at h;unfold arh;refine ak ?_;obtain⟨o12,h13,h⟩:=aj h;refine Yd k iT fQ ([]:List Operator) EJ (EJ.length:Int) 0 .nil _ _ _ _ (Fr.refl _ _) (HF.refl _ _) aA eG _ h13 _ ?_
 ·rintro nG c18 σ' H17 eo an7 aiQ zm;rw [eo]at h;have le:=aiQ.1;try simp only [AH.aN,AH.aO,AH.aS,AH.aT]at le
  cases h;refine ak ?_;exact(jV Operator.pu _ _)
def zu:Nat->Int->Int->Bool->(List Operator)->(List Str)->Int->Int->Option (List Operator)
 |0,_,_,_,_,_,_,_=>none
 |k+1,iT,fQ,qZ,Fh,mE,fE,KE=>
  cond (decide (KE<fE)) (if 0<=KE then (mE[KE.toNat]?).bind fun x3=>if(Fh.length+1)*64<=1099511627776 then zu k iT fQ qZ (Fh++[(Operator.mk x3 1 iT fQ qZ 2 2)]) mE fE (IntKind.wrap .i64 (KE+1))else none else none) (some (Fh))
def Ng:List Nat:=[9,11]++List.range' 14 13
theorem Ye: ∀(k:Nat) (iT:Int) (fQ:Int) (qZ:Bool) (Fh:List Operator) (mE:List Str) (fE:Int) (KE:Int) (Aj:Ck) (aH σ:Nat->PV) (H0 H:AH) (f0:Fr Ng aH σ) (hf0:HF [] H0 H) (sl:σ 0=(.int .i64 iT)/\σ 1=(.int .i64 fQ)/\σ 2=(.bool qZ)/\σ 9=(.ah (Fh.map Operator.cells) Aj)/\σ 12=(.ah (mE.map aF) .unk)/\σ 13=(.int .i64 fE)/\σ 14=(.int .i64 KE)) (acX:aR H Aj) (o:List Operator) (h:zu k iT fQ qZ Fh mE fE KE=some o) (Q:Post) (q0: ∀(p:List Operator) (c0:Ck) (σ':Nat->PV) (H':AH),o=p->Fr Ng aH σ'->HF [] H0 H'->(σ' 9=(.ah (p.map Operator.cells) c0))->Q (.exit 0) σ' H'),W Tryz.prog (.loop Ue) Q σ H:=by
 intro k
 induction k with
 |zero=>intro iT fQ qZ Fh mE fE KE Aj aH σ H0 H f0 hf0 sl acX o h Q q0;simp only [zu,reduceCtorEq]at h
 |succ k ih=>
  intro iT fQ qZ Fh mE fE KE Aj aH σ H0 H f0 hf0 sl acX o h Q q0;obtain⟨s0,s1,s2,s9,s12,s13,QN⟩:=sl;have hle0:=hf0.1;unfold zu at h;refine bB (fun K hK=>aI ?_);unfold Ue;obtain⟨e1,h⟩|⟨e1,h⟩:=aJ h
  ·obtain⟨e2,h⟩:=aX h;obtain⟨x3,e4,h⟩:=aj h;obtain⟨e9,h⟩:=aX h;refine ak ?_;refine gI (f:=Operator.cells) Operator.row Fh ([(Operator.mk x3 1 iT fQ qZ 2 2)]:List Operator) Aj .exact aA aA eG (by first|exact e9|(simp only [I0,j0];exact e9)) (fun c5 H6 ok7 le an9 rl8=> ?_);have aGi:HF [] _ H6:=⟨le,fun i _ _=>an9 i⟩;try simp only [AH.aN,AH.aO,AH.aS,AH.aT]at le
   refine ak ?_;refine hK _ _ ?_;exact ih iT fQ qZ (Fh++[(Operator.mk x3 1 iT fQ qZ 2 2)]) mE fE (IntKind.wrap .i64 (KE+1)) c5 _ _ _ _ bG II aA eG _ h _ q0
  ·cases h;refine ak ?_;exact q0 _ Aj _ _ rfl bG yH aA
def gY (k:Nat) (iT:Int) (fQ:Int) (qZ:Bool) (EK:List Str):Option (List Operator):=
 Option.bind (zu k iT fQ qZ ([]:List Operator) EK (EK.length:Int) 0) (fun nG=>some nG)
theorem fK {k:Nat} {iT:Int} {fQ:Int} {qZ:Bool} {EK:List Str} {c3:Ck} {r:List Operator} (h:gY k iT fQ qZ EK=some r):aG Tryz.prog 290 [(.int .i64 iT),(.int .i64 fQ),(.bool qZ),(.ah (EK.map aF) c3)] (.ah (r.map Operator.cells) .unk):=by
 refine aG.lw (.same (.same (.same (.ah .nil)))) (aG.bX (dJ.mem (.cons (.int _ _) (.cons (.int _ _) (.cons (.bool _) (.cons (bK gu _) .nil))))) (aL aCv (by simp) (aI ?_)) (bK Operator.pu _));unfold gY at h;unfold ari;refine ak ?_;obtain⟨o12,h13,h⟩:=aj h;refine Ye k iT fQ qZ ([]:List Operator) EK (EK.length:Int) 0 .nil _ _ _ _ (Fr.refl _ _) (HF.refl _ _) aA eG _ h13 _ ?_
 ·rintro nG c18 σ' H17 eo an7 aiQ zm;rw [eo]at h;have le:=aiQ.1;try simp only [AH.aN,AH.aO,AH.aS,AH.aT]at le
  cases h;refine ak ?_;exact(jV Operator.pu _ _)
def q8:Nat->Int->(List (List Operator))->Int->Option Int
 |0,_,_,_=>none
 |k+1,DC,La,dA=>
  cond (decide (dA<24)) (if 0<=dA then (La[dA.toNat]?).bind fun O7=>cond (decide ((IntKind.wrap .i64 (DC+(O7.length:Int)))<0)) (none) (q8 k (IntKind.wrap .i64 (DC+(O7.length:Int))) La (IntKind.wrap .i64 (dA+1)))else none) (some (DC))
def FT:List Nat:=[3,5]++List.range' 11 12
theorem ND: ∀(k:Nat) (DC:Int) (La:List (List Operator)) (dA:Int) (MN:Ck) (aH σ:Nat->PV) (H:AH) (f0:Fr FT aH σ) (sl:σ 3=(.int .i64 DC)/\σ 9=(.ah (La.map (bR Operator.cells)) MN)/\σ 10=(.int .i64 24)/\σ 11=(.int .i64 dA)) (o:Int) (h:q8 k DC La dA=some o) (Q:Post) (q0: ∀(p:Int) (σ':Nat->PV),o=p->Fr FT aH σ'->(σ' 3=(.int .i64 p))->Q (.exit 0) σ' H),W Tryz.prog (.loop Uf) Q σ H:=by
 intro k
 induction k with
 |zero=>intro DC La dA MN aH σ H f0 sl o h Q q0;simp only [q8,reduceCtorEq]at h
 |succ k ih=>
  intro DC La dA MN aH σ H f0 sl o h Q q0;obtain⟨s3,s9,s10,s11⟩:=sl;unfold q8 at h;refine bB (fun K hK=>aI ?_);unfold Uf;obtain⟨e48,h⟩|⟨e48,h⟩:=aJ h
  ·obtain⟨e49,h⟩:=aX h;obtain⟨O7,e51,h⟩:=aj h;obtain⟨e52,h⟩|⟨e52,h⟩:=aJ h
   ·cases h
   ·refine dD ?_;refine hK _ _ ?_;exact ih (IntKind.wrap .i64 (DC+(O7.length:Int))) La (IntKind.wrap .i64 (dA+1)) MN _ _ _ bG aC _ h _ q0
  ·cases h;refine dD ?_;exact q0 _ _ rfl bG aC
def q9:Nat->(List Operator)->(List (List Operator))->Int->Option (List Operator)
 |0,_,_,_=>none
 |k+1,pQ,jQ,fD=>
  cond (decide (fD<24)) (if 0<=fD then (jQ[fD.toNat]?).bind fun Jb=>if 0<Jb.length/\(pQ.length+Jb.length)*64<=1099511627776 then q9 k (pQ++Jb) jQ (IntKind.wrap .i64 (fD+1))else none else none) (some (pQ))
def FU:List Nat:=[6,8]++List.range' 27 8
theorem NG: ∀(k:Nat) (vX:PV) (vY:List Nat) (M:List Nat) (pQ:List Operator) (jQ:List (List Operator)) (fD:Int) (JZ:Ck) (aH σ:Nat->PV) (H0 H:AH) (f0:Fr FU aH σ) (hf0:HF M H0 H) (sl:σ 6=vX/\σ 25=(.ah (jQ.map (bR Operator.cells)) JZ)/\σ 26=(.int .i64 24)/\σ 27=(.int .i64 fD)) (vZ:aB H Operator.cells 7 pQ vX vY) (xS:Nw H0 M vY) (o:List Operator) (h:q9 k pQ jQ fD=some o) (Q:Post) (q0: ∀(p:List Operator) (v0:PV) (xB:List Nat) (σ':Nat->PV) (H':AH),o=p->Fr FU aH σ'->HF M H0 H'->(σ' 6=v0)->aB H' Operator.cells 7 p v0 xB->Nw H0 M xB->Q (.exit 2) σ' H'),W Tryz.prog (.loop Ug) Q σ H:=by
 intro k
 induction k with
 |zero=>intro vX vY M pQ jQ fD JZ aH σ H0 H f0 hf0 sl vZ xS o h Q q0;simp only [q9,reduceCtorEq]at h
 |succ k ih=>
  intro vX vY M pQ jQ fD JZ aH σ H0 H f0 hf0 sl vZ xS o h Q q0;obtain⟨s6,s25,s26,s27⟩:=sl;have hle0:=hf0.1;unfold q9 at h;refine bB (fun K hK=>aI ?_);unfold Ug;obtain⟨e69,h⟩|⟨e69,h⟩:=aJ h
  ·obtain⟨e70,h⟩:=aX h;obtain⟨Jb,e72,h⟩:=aj h;obtain⟨e73,h⟩:=aX h;refine dD ?_;refine JU (f:=Operator.cells) (v:=vX) Operator.row pQ (Jb:List Operator) .unk aC (by repeat (first|exact vZ|apply aB.new|refine aB.put ?_ (fun hm=>by have:=aB.lt vZ _ hm;omega))) aC e73.1 e73.2 (fun v74 aCO H76 r77 aGj ayi anA=> ?_);have le:=ayi.1;try simp only [AH.aN,AH.aO,AH.aS,AH.aT]at le
   refine dD ?_;refine hK _ _ ?_;exact ih v74 aCO M (pQ++Jb) jQ (IntKind.wrap .i64 (fD+1)) JZ _ _ _ _ bG (by repeat (first|exact hf0|refine HF.new ?_|refine HF.Ry ?_|refine HF.used ?_|refine HF.put (by first|(right;omega)|(left;simp only [M1,w8,q7])) ?_|refine HF.via ayi xS ?_)) aC (by repeat (first|exact r77|apply aB.new|refine aB.put ?_ (fun hm=>by have:=aB.lt r77 _ hm;omega))) (Nw.trans xS aY aGj) _ h _ q0
  ·cases h;refine dD ?_;exact q0 _ vX vY _ _ rfl bG yH aC (by repeat (first|exact vZ|apply aB.new|refine aB.put ?_ (fun hm=>by have:=aB.lt vZ _ hm;omega))) xS
def Ak:Nat->(List Operator)->Int->Int->Option (List Operator)
 |0,_,_,_=>none
 |k+1,gL,KF,nX=>
  cond (decide (nX<KF)) (if 0<=nX then (gL[nX.toNat]?).bind fun x95=>cond (x95.text==([92,88]:Str)) (Ak k (gL.set nX.toNat (Operator.mk x95.text x95.fix x95.low x95.high x95.left x95.least 4)) KF (IntKind.wrap .i64 (nX+1))) (Ak k gL KF (IntKind.wrap .i64 (nX+1)))else none) (some (gL))
def QS:List Nat:=[4]++List.range' 80 14
theorem acZ: ∀(k:Nat) (Ct:PV) (zw:List Nat) (M:List Nat) (gL:List Operator) (KF:Int) (nX:Int) (aH σ:Nat->PV) (H0 H:AH) (f0:Fr QS aH σ) (hf0:HF M H0 H) (sl:σ 3=Ct/\σ 79=(.int .i64 KF)/\σ 80=(.int .i64 nX)) (Al:aB H Operator.cells 7 gL Ct zw) (EL:Nw H0 M zw) (o:List Operator) (h:Ak k gL KF nX=some o) (Q:Post) (q0: ∀(p:List Operator) (v0:PV) (xB:List Nat) (σ':Nat->PV) (H':AH),o=p->Fr QS aH σ'->HF M H0 H'->(σ' 3=v0)->aB H' Operator.cells 7 p v0 xB->Nw H0 M xB->Q (.exit 0) σ' H'),W Tryz.prog (.loop TT) Q σ H:=by
 intro k
 induction k with
 |zero=>intro Ct zw M gL KF nX aH σ H0 H f0 hf0 sl Al EL o h Q q0;simp only [Ak,reduceCtorEq]at h
 |succ k ih=>
  intro Ct zw M gL KF nX aH σ H0 H f0 hf0 sl Al EL o h Q q0;obtain⟨s3,s79,s80⟩:=sl;have hle0:=hf0.1;unfold Ak at h;refine bB (fun K hK=>aI ?_);unfold TT;obtain⟨e93,h⟩|⟨e93,h⟩:=aJ h
  ·obtain⟨e94,h⟩:=aX h;obtain⟨x95,e96,h⟩:=aj h;obtain⟨w97,VO,ayk,hil,w99,hC,hL,hD,hI⟩:=aB.content Al e96;have aLK:=ne_next hil;have aLL:=bA hil;have aLM:jS 7 Ct (.int .i64 nX)=some (.ref w97 (nX.toNat*7)):=by simpa using hI .i64 nX (by first|omega|decide) (by first|rfl|omega)
   have aKU:VO[nX.toNat*7]? =some (.str x95.text):=by simpa using hC 0 _ rfl
   have aKV:VO[nX.toNat*7+1]? =some (.int .i64 x95.fix):=by simpa using hC 1 _ rfl
   have aKW:VO[nX.toNat*7+2]? =some (.int .i64 x95.low):=by simpa using hC 2 _ rfl
   have aKX:VO[nX.toNat*7+3]? =some (.int .i64 x95.high):=by simpa using hC 3 _ rfl
   have aKY:VO[nX.toNat*7+4]? =some (.bool x95.left):=by simpa using hC 4 _ rfl
   have aKZ:VO[nX.toNat*7+5]? =some (.int .i64 x95.least):=by simpa using hC 5 _ rfl
   have aK0:VO[nX.toNat*7+6]? =some (.int .i64 x95.most):=by simpa using hC 6 _ rfl
   have aLN:nX.toNat*7+7<=VO.length:=by simpa using hL 7 (R0 _)
   have aLO:List.take 7 (List.drop (nX.toNat*7) VO)=Operator.cells x95:=hD;clear hC hL hD hI;obtain⟨acR,h⟩|⟨acR,h⟩:=aJ h
   ·refine dD ?_;refine qd (f:=Operator.cells) (id:=w97) (o:=nX.toNat*7+6) (i:=nX.toNat) (j:=6) (a:=x95) (y:=(Operator.mk x95.text x95.fix x95.low x95.high x95.left x95.least 4)) (vs:=[(.int .i64 4)]) aC ayk (by omega) (by repeat (first|exact Al|apply aB.new|refine aB.put ?_ (fun hm=>by have:=aB.lt Al _ hm;omega))) e96 aC rfl rfl (by first|decide|(simp only [I0,j0];omega)) rfl (fun aLP ayl arN aK1=> ?_);have le:=arN.1;try simp only [AH.aN,AH.aO,AH.aS,AH.aT]at le
    refine dD ?_;refine hK _ _ ?_;exact ih Ct zw M (gL.set nX.toNat (Operator.mk x95.text x95.fix x95.low x95.high x95.left x95.least 4)) KF (IntKind.wrap .i64 (nX+1)) _ _ _ _ bG (by repeat (first|exact hf0|refine HF.new ?_|refine HF.Ry ?_|refine HF.used ?_|refine HF.put (by first|(right;omega)|(left;simp only [M1,w8,q7])) ?_|refine HF.via arN EL ?_)) aC (by repeat (first|exact ayl|apply aB.new|refine aB.put ?_ (fun hm=>by have:=aB.lt ayl _ hm;omega))) EL _ h _ q0
   ·refine dD ?_;refine hK _ _ ?_;exact ih Ct zw M gL KF (IntKind.wrap .i64 (nX+1)) _ _ _ _ bG yH aC (by repeat (first|exact Al|apply aB.new|refine aB.put ?_ (fun hm=>by have:=aB.lt Al _ hm;omega))) EL _ h _ q0
  ·cases h;refine dD ?_;exact q0 _ Ct zw _ _ rfl bG yH aC (by repeat (first|exact Al|apply aB.new|refine aB.put ?_ (fun hm=>by have:=aB.lt Al _ hm;omega))) EL
def Ii (k:Nat):Option (List Operator):=
 (zq k 4 4 [([126]:Str)]).bind fun p2=>(zq k 4 15 [([69,78,65,66,76,69,68]:Str),([85,78,67,72,65,78,71,69,68]:Str),([91,93]:Str),([60,62]:Str)]).bind fun p4=>(zq k 8 8 [([83,85,66,83,69,84]:Str),([85,78,73,79,78]:Str)]).bind fun p6=>(zq k 9 9 [([68,79,77,65,73,78]:Str)]).bind fun p8=>(zq k 12 12 [([45,46]:Str)]).bind fun mH=>(gY k 1 1 false [([61,62]:Str)]).bind fun rT=>(gY k 2 2 false [([60,61,62]:Str),([126,62]:Str)]).bind fun nG=>(gY k 3 3 true [([47,92]:Str),([92,47]:Str)]).bind fun p16=>(gY k 5 5 false [([61]:Str),([35]:Str),([60]:Str),([60,61]:Str),([62]:Str),([62,61]:Str),([92,105,110]:Str),([92,110,111,116,105,110]:Str),([92,115,117,98,115,101,116,101,113]:Str),([92,115,113,115,117,98,115,101,116,101,113]:Str)]).bind fun AQ=>(gY k 6 6 true [([64,64]:Str)]).bind fun I6=>(gY k 7 7 false [([58,62]:Str)]).bind fun y5=>(gY k 5 14 true [([92,99,100,111,116]:Str)]).bind fun Gv=>(gY k 8 8 true [([92,99,117,112]:Str),([92,99,97,112]:Str)]).bind fun p26=>(gY k 8 8 false [([92]:Str)]).bind fun p28=>(gY k 9 9 false [([46,46]:Str)]).bind fun p30=>(gY k 10 10 true [([43]:Str),([40,43,41]:Str)]).bind fun p32=>(gY k 10 11 false [([37]:Str)]).bind fun p34=>(gY k 10 13 false [([92,88]:Str)]).bind fun p36=>(gY k 11 11 true [([45]:Str),([40,45,41]:Str)]).bind fun p38=>(gY k 13 13 true [([42]:Str)]).bind fun p40=>(gY k 13 13 false [([92,100,105,118]:Str)]).bind fun p42=>(gY k 13 13 true [([92,111]:Str)]).bind fun p44=>(gY k 14 14 false [([94]:Str)]).bind fun p46=>Option.bind (q8 k 0 [p2,p4,p6,p8,mH,rT,nG,p16,AQ,I6,y5,Gv,p26,p28,p30,p32,p34,p36,p38,p40,p42,p44,p46,[(Operator.mk ([39]:Str) 2 15 15 false 1 1)]] 0) (fun p55=>if 0<p55/\p55<=1000000 then Option.bind (q9 k ([]:List Operator) [p2,p4,p6,p8,mH,rT,nG,p16,AQ,I6,y5,Gv,p26,p28,p30,p32,p34,p36,p38,p40,p42,p44,p46,[(Operator.mk ([39]:Str) 2 15 15 false 1 1)]] 0) (fun p83=>Option.bind (Ak k p83 (p83.length:Int) 0) (fun aym=>some aym))else none)
theorem ak7 {k:Nat} {r:List Operator} (h:Ii k=some r):aG Tryz.prog 264 [] (.ah (r.map Operator.cells) .unk):=by
 refine aG.bX (dJ.mem .nil) (aL aCe (by simp) (aI ?_)) (bK Operator.pu _);unfold Ii at h;unfold aqY;obtain⟨p2,e1,h⟩:=aj h;refine dD ?_;refine av (Bp e1) ?_;obtain⟨p4,e3,h⟩:=aj h;refine dD ?_;refine av (Bp e3) ?_;obtain⟨p6,e5,h⟩:=aj h;refine dD ?_;refine av (Bp e5) ?_;obtain⟨p8,e7,h⟩:=aj h;refine dD ?_;refine av (Bp e7) ?_;obtain⟨mH,e9,h⟩:=aj h;refine dD ?_;refine av (Bp e9) ?_;obtain⟨rT,e11,h⟩:=aj h;refine dD ?_;refine av (fK e11) ?_;obtain⟨nG,e13,h⟩:=aj h;refine dD ?_;refine av (fK e13) ?_;obtain⟨p16,e15,h⟩:=aj h;refine dD ?_;refine av (fK e15) ?_;obtain⟨AQ,e17,h⟩:=aj h;refine dD ?_;refine av (fK e17) ?_;obtain⟨I6,e19,h⟩:=aj h;refine dD ?_;refine av (fK e19) ?_;obtain⟨y5,e21,h⟩:=aj h;refine dD ?_;refine av (fK e21) ?_;obtain⟨Gv,e23,h⟩:=aj h;refine dD ?_;refine av (fK e23) ?_;obtain⟨p26,e25,h⟩:=aj h;refine dD ?_;refine av (fK e25) ?_;obtain⟨p28,e27,h⟩:=aj h;refine dD ?_;refine av (fK e27) ?_;obtain⟨p30,e29,h⟩:=aj h;refine dD ?_;refine av (fK e29) ?_;obtain⟨p32,e31,h⟩:=aj h;refine dD ?_;refine av (fK e31) ?_;obtain⟨p34,e33,h⟩:=aj h;refine dD ?_;refine av (fK e33) ?_;obtain⟨p36,e35,h⟩:=aj h;refine dD ?_;refine av (fK e35) ?_;obtain⟨p38,e37,h⟩:=aj h;refine dD ?_;refine av (fK e37) ?_;obtain⟨p40,e39,h⟩:=aj h;refine dD ?_;refine av (fK e39) ?_;obtain⟨p42,e41,h⟩:=aj h;refine dD ?_;refine av (fK e41) ?_;obtain⟨p44,e43,h⟩:=aj h;refine dD ?_;refine av (fK e43) ?_;obtain⟨p46,e45,h⟩:=aj h;refine dD ?_;refine av (fK e45) ?_;refine dD ?_;refine aL aCw (by simp) (aI ?_);unfold arj;refine dD ?_;obtain⟨o53,h54,h⟩:=aj h;refine ND k 0 [p2,p4,p6,p8,mH,rT,nG,p16,AQ,I6,y5,Gv,p26,p28,p30,p32,p34,p36,p38,p40,p42,p44,p46,[(Operator.mk ([39]:Str) 2 15 15 false 1 1)]] 0 .exact _ _ _ (Fr.refl _ _) aC _ h54 _ ?_
 ·rintro p55 σ' eo axJ s59;rw [eo]at h;have s60:σ' 0=(.ah ([p2,p4,p6,p8,mH,rT,nG,p16,AQ,I6,y5,Gv,p26,p28,p30,p32,p34,p36,p38,p40,p42,p44,p46,[(Operator.mk ([39]:Str) 2 15 15 false 1 1)]].map (bR Operator.cells)) .exact):=(axJ 0 (by decide)).trans aC;obtain⟨e61,h⟩:=aX h;refine dD ?_;refine akz (f:=Operator.cells) (xs:=([]:List Operator)) (ak3 p55 e61) (fun v62 arP H64 r65 aLQ aGk anx=> ?_);have le:=aGk.1;try simp only [AH.aN,AH.aO,AH.aS,AH.aT]at le
  refine dD ?_;obtain⟨o81,h82,h⟩:=aj h;refine NG k v62 arP (arP++[]) ([]:List Operator) [p2,p4,p6,p8,mH,rT,nG,p16,AQ,I6,y5,Gv,p26,p28,p30,p32,p34,p36,p38,p40,p42,p44,p46,[(Operator.mk ([39]:Str) 2 15 15 false 1 1)]] 0 .exact _ _ _ _ (Fr.refl _ _) (HF.refl _ _) aC (by repeat (first|exact r65|apply aB.new|refine aB.put ?_ (fun hm=>by have:=aB.lt r65 _ hm;omega))) (fun i hi=>Or.inl (by simp only [P2,M1,hi,w8,q7])) _ h82 _ ?_
  ·rintro p83 v87 arQ σ' H86 eo aLR aGl s91 r89 aLS;rw [eo]at h;have le:=aGl.1;try simp only [AH.aN,AH.aO,AH.aS,AH.aT]at le
   have w92:=aB.Ow r89;refine dD ?_;obtain⟨o111,h112,h⟩:=aj h;refine acZ k v87 arQ (arQ++[]) p83 (p83.length:Int) 0 _ _ _ _ (Fr.refl _ _) (HF.refl _ _) aC (by repeat (first|exact r89|apply aB.new|refine aB.put ?_ (fun hm=>by have:=aB.lt r89 _ hm;omega))) (fun i hi=>Or.inl (by simp only [P2,M1,hi,w8,q7])) _ h112 _ ?_
   ·rintro aym v117 aIS σ' aGh eo aK2 aCP aGm XW aK3;rw [eo]at h;have le:=aCP.1;try simp only [AH.aN,AH.aO,AH.aS,AH.aT]at le
    cases h;refine dD ?_;exact(aB.fz Operator.pu (by repeat (first|exact XW|apply aB.new|refine aB.put ?_ (fun hm=>by have:=aB.lt XW _ hm;omega))))
end Go.VL
end
section
namespace Go.VL
open Go.Proofs Go.RowKit
def qU:List Operator:=(Ii 100).getD []
theorem ak8:Ii 100=some qU:=by
 have h:(Ii 100).isSome=true:=by kernel_rfl
 rw [qU];cases h1:Ii 100 with
 |none=>rw [h1]at h;cases h
 |some r=>rfl
theorem ayo:aG Tryz.prog 264 [] (.ah (qU.map Operator.cells) .unk):=ak7 ak8
end Go.VL
end
section
set_option maxHeartbeats 4000000
namespace Go.VL
open Go.Proofs
def nI (k:Nat) (oo:Str):Option (Operator×Bool):=
 (dL k qU oo).bind fun p2=>cond (decide (p2<0)) (some ((Operator.mk [] 0 0 0 false 0 0),false)) (if 0<=p2 then (qU[p2.toNat]?).bind fun x5=>some (x5,true)else none)
theorem Yf {k:Nat} {oo:Str} {r:Operator×Bool} (h:nI k oo=some r):aG Tryz.prog 223 [(.str oo)] (.dn [(.agg (Operator.cells r.1)),(.bool r.2)]):=by
 refine aG.bX (dJ.mem (.cons (.str _) .nil)) (aL aBN (by simp) (aI ?_)) (.dn _ (dJ.mem (.cons (.agg _ (Operator.pu _)) (.cons (.bool _) .nil))));unfold nI at h;unfold aqx;refine ak ?_;refine av (ayo) ?_;obtain⟨p2,e1,h⟩:=aj h;refine ak ?_;refine FI (tZ e1) (.cons (jV Operator.pu _ _) (.cons (apw (.cons (akl (by simp -implicitDefEqProofs only [go_sem,dB,C7]<;>rfl) (.cons (.pure _ (.str _)) .nil)) .nil)) .nil)) (.cons (bK Operator.pu _) (.cons (.fn _ _ _ (dJ.mem .nil) (dJ.mem (.cons (.cK _ _ (dJ.mem (.cons (.str _) .nil))) .nil))) .nil)) (.int _ _) ?_;obtain⟨e3,h⟩|⟨e3,h⟩:=aJ h
 ·cases h;refine ak ?_;exact(oh (.cons (jT (.cons (.pure _ (.str _)) (gB (gB (gB (.cons (.pure _ (.bool _)) (gB (gB .nil)))))))) (.cons (.pure _ (.bool _)) .nil)))
 ·obtain⟨e4,h⟩:=aX h;obtain⟨x5,e6,h⟩:=aj h;cases h;refine ak ?_;exact(oh (.cons (jT (.cons (.pure _ (.str _)) (gB (gB (gB (.cons (.pure _ (.bool _)) (gB (gB .nil)))))))) (.cons (.pure _ (.bool _)) .nil)))
instance aue (k:Nat) (oo:Str):bY Tryz.prog 223 [(.str oo)] (nI k oo) (fun r=>(.dn [(.agg (Operator.cells r.1)),(.bool r.2)])):=⟨fun _ h=>Yf h⟩
def aa7 (x_0:Int) (y_1:Int):Option (Int×Int):=
 if(0<=x_0/\x_0<18446744073709551616)/\(0<=y_1/\y_1<18446744073709551616)then some ((VN x_0 y_1).1,(VN x_0 y_1).2)else none
theorem auf {x_0:Int} {y_1:Int} {r:Int×Int} (h:aa7 x_0 y_1=some r):aG Tryz.prog 273 [(.int .u64 x_0),(.int .u64 y_1)] (.dn [(.int .u64 r.1),(.int .u64 r.2)]):=by
 refine aG.bX (dJ.mem (.cons (.int _ _) (.cons (.int _ _) .nil))) (aL aCl (by simp) (aI ?_)) (.dn _ (dJ.mem (.cons (.int _ _) (.cons (.int _ _) .nil))));unfold aa7 at h;unfold aq5;obtain⟨e1,h⟩:=aX h;refine ak ?_;refine av (auc x_0 y_1 (by assumption)) ?_;cases h;refine ak ?_;exact(oh (gB (gB .nil)))
end Go.VL
end
section
namespace Go.VL
open Go.Proofs Go.RowKit
theorem zx {P:Program} {K:(Nat->PV)->AH->Prop} {σ:Nat->PV} {H:AH} {d:Option Nat} {k:RK} {l:List (aD×Bool)} (p:PV) (h: ∀H',rop k σ H'=some p)
 (hn:jd P (fun _=>True) l K (upd σ d p) H):jd P (fun _=>True) ((⟨d,.r k,none⟩,false)::l) K σ H:=by
 unfold jd;refine .inr ⟨trivial,p,fun H' _=> ?_,hn⟩;show(match rop k σ H' with|some q=>(q=p/\H'=H')|none=>False);rw [h H'];exact⟨rfl,rfl⟩
theorem ac0: ∀l:List PV,(l.map fun c=>[c]).flatten=l
 |[]=>rfl
 |a::l=>by rw [M3,A4,ac0 l];rfl
theorem aiR (l rest:List PV):chunks 1 l.length (l++rest)=l.map fun c=>[c]:=by
 have h:=yV (sz:=1) (l.map fun c=>[c]) rest (by simp);rw [J1,ac0]at h;exact h
theorem J2 (x:PV): ∀m,(List.replicate m [x]).flatten=List.replicate m x
 |0=>rfl
 |m+1=>by rw [n8,A4,J2 x m];rfl
theorem ayp (x:Int) (id n:Nat) (H0:AH) (Q:Post) (hn:n<=1000000)
 (hx: ∀σ' H',σ' 7= .bP id 0 n n 1->H'.obj id=some (List.replicate n (.int .i64 x))->H'.next=H0.next->(∀i,i≠id->H'.obj i=H0.obj i)->(∀k,H'.live k=H0.live k)->Q (.exit 0) σ' H'):
 ∀(d m:Nat) (σ:Nat->PV) (H:AH) (rest:List PV),n -m<=d->m<=n->(m=0->n=0)->σ 7= .bP id 0 n n 1->σ 8= .int .i64 m->H.obj id=some (List.replicate m (.int .i64 x)++rest)->rest.length=n -m->
   H.next=H0.next->(∀i,i≠id->H.obj i=H0.obj i)->(∀k,H.live k=H0.live k)->W Tryz.prog (.loop Mr) Q σ H:=by
 intro d
 induction d with
 |zero=>
  intro m σ H rest hd hm h0 h7 h8 ho hr h1 h2 h3;have e:m=n:=by omega
  subst e;have c1:decide ((m:Int)<(m:Int))=false:=B0 (by omega);refine bB (fun K hK=>aI ?_);unfold Mr;simp -implicitDefEqProofs only [go_sem,h7,h8,c1];have hr0:rest=[]:=T4 (by omega);subst hr0;refine hx _ _ ?_ (by rw [ho,W3]) h1 h2 h3;simp only [BO,Nat.reduceEqDiff,↓reduceIte,h7]
 |succ d ih=>
  intro m σ H rest hd hm h0 h7 h8 ho hr h1 h2 h3;by_cases hmn:m=n
  · exact ih m σ H rest (by omega) hm h0 h7 h8 ho hr h1 h2 h3
  have c1:decide ((m:Int)<(n:Int))=true:=g0 (by omega);refine bB (fun K hK=>aI ?_);unfold Mr;simp -implicitDefEqProofs only [go_sem,h7,h8,c1];refine⟨fun _=>True,trivial,?_⟩;refine zx (.int .i64 m) (fun H'=>by simp [rop,AE.ev,upd,h7,h8]) ?_;refine zx (.bP id 0 n n 1) (fun H'=>by simp [rop,AE.ev,upd,h7,h8]) ?_;refine zx (.int .i64 m) (fun H'=>by simp [rop,AE.ev,upd,h7,h8]) ?_;refine zx (.bP id m (n -m) (n -m) 1) (fun H'=>by simp [rop,AE.ev,upd,qE,pI,h7,h8];omega) ?_;refine zx (.bP id 0 n n 1) (fun H'=>by simp [rop,AE.ev,upd,h7,h8]) ?_;refine zx (.int .i64 m) (fun H'=>by simp [rop,AE.ev,upd,h7,h8]) ?_;refine zx (.bP id 0 m n 1) (fun H'=>by simp [rop,AE.ev,upd,qE,pI,h7,h8];omega) ?_;have hch:chunks 1 m (List.replicate m (.int .i64 x)++rest)=List.replicate m [.int .i64 x]:=by
   have h:=aiR (List.replicate m (.int .i64 x)) rest;rw [D2,pC]at h;exact h
  unfold jd;refine .inr ⟨trivial,.int .i64 (min m (n -m):Nat),H.put id (List.replicate (m+min m (n -m)) (.int .i64 x)++rest.drop (min m (n -m))),?_,trivial,?_⟩
  · have hy:rowOf 1 H (PV.bP id 0 m n 1)=some (List.replicate m [.int .i64 x]):=by
     have hl:0+m*1<=(List.replicate m (PV.int .i64 x)++rest).length:=by rw [X1,D2];omega
     simp only [rowOf,ho];rw [if_pos ⟨trivial,hl⟩,P1,hch]
    have hsz:rC 1 (List.replicate m [PV.int .i64 x]):=fun cs hcs=>by
     rw [(sC.1 hcs).2];exact⟨rfl,fun c hc=>by rw [P0.1 hc];rfl⟩
    have hle:m+(n -m)*1<=(List.replicate m (PV.int .i64 x)++rest).length:=by rw [X1,D2];omega
    have hput:putCells (List.replicate m (PV.int .i64 x)++rest) m ((List.replicate m [PV.int .i64 x]).take (n -m)).flatten=List.replicate (m+min m (n -m)) (.int .i64 x)++rest.drop (min m (n -m)):=by
     rw [List.take_replicate,J2];unfold putCells;rw [D2];have e1:(List.replicate m (PV.int .i64 x)++rest).take m=List.replicate m (PV.int .i64 x):=by
      rw [List.take_append_of_le_length (by rw [D2];omega),I3 (by rw [D2];omega)]
     have e2:(List.replicate m (PV.int .i64 x)++rest).drop (m+min (n -m) m)=rest.drop (min m (n -m)):=by
      rw [List.drop_append,D2,v7 (by rw [D2];omega),R2];congr 1;omega
     rw [e1,e2,List.replicate_append_replicate,Nat.min_comm m]
    simp only [dQ,nop,AE.ev,BO,Nat.reduceEqDiff,↓reduceIte,hy];simp only [ho];rw [if_pos ⟨trivial,hsz,hle⟩];refine⟨?_,by rw [hput]⟩;rw [D2]
  · have hm2:(m:Int)+((min m (n -m):Nat):Int)=((m+min m (n -m):Nat):Int):=by omega
    have hw:IntKind.wrap .i64 ((m:Int)+((min m (n -m):Nat):Int))=((m+min m (n -m):Nat):Int):=by
     rw [hm2];exact IntWalk.i64_in _ (by omega)
    unfold jd;refine oG ?_;simp -implicitDefEqProofs only [go_sem,h7,h8,hw];refine hK _ _ (ih (m+min m (n -m)) _ _ (rest.drop (min m (n -m))) (by omega) (by omega) (by omega) ?_ ?_ ?_ (by rw [E4];omega) h1 ?_ h3)
    · simp only [BO,Nat.reduceEqDiff,↓reduceIte,h7]
    · simp only [BO,Nat.reduceEqDiff,↓reduceIte]
    · show(if id=id then some _ else _)=_
      rw [if_pos rfl]
    · intro i hi;show(if i=id then some _ else _)=_;rw [if_neg hi];exact h2 i hi
section
variable {P:Program} {Q:Post} {σ:Nat->PV} {s:List Fm} {H:AH}
theorem ayq {d:Option Nat} {x y:AE} {l:List aD} {k k':IntKind} {n:Nat} (hx:x.ev σ= .int k n) (hy:y.ev σ= .int k' n) (hb:n<=1000000)
 (h:WO P l s Q (upd σ d (.bP H.next 0 n n 1)) (H.new (List.replicate n (.int .i64 0)))):WO P (⟨d,.d (.yP 1 8 [.int .i64 0] x y),none⟩::l) s Q σ H:=by
 show WD P (jc (.yP 1 8 [.int .i64 0] x y) σ H) d l s Q σ
 simp only [jc,hx,hy];rw [if_pos ⟨by omega,by omega,by omega,by omega,rfl,by decide⟩];rw [V0,J2];exact h
theorem aug {d:Option Nat} {x y:AE} {l:List aD} {id off len cap sz:Nat} {fs:List (List PV)} {cs:List PV} (hx:x.ev σ= .bP id off len cap sz) (hy:rowOf sz H (y.ev σ)=some fs) (ho:H.obj id=some cs)
 (hsz:rC sz fs) (hle:off+len*sz<=cs.length)
 (h:WO P l s Q (upd σ d (.int .i64 (min fs.length len:Nat))) (H.put id (putCells cs off (fs.take len).flatten))):WO P (⟨d,.n (.copy sz x y),none⟩::l) s Q σ H:=by
 show eZ P _ _ σ H
 rw [IB];simp only [nop,hx,hy,ho];rw [if_pos ⟨trivial,hsz,hle⟩];exact h
end
theorem aCQ (x:Int) (n:Int) (hn:0<=n/\n<=1000000):Mj Tryz.prog 230 [.ah [[.int .i64 x]] .exact,.int .i64 n] aK 1 (List.replicate n.toNat x):=by
 intro H;obtain⟨n,rfl⟩: ∃k:Nat,n=k:=⟨n.toNat,by omega⟩;refine aL aBT (by simp) (aI ?_);unfold aqD;have c1:decide ((n:Int)<0)=false:=B0 (by omega);have c2:IntKind.wrap .u64 1=1:=by decide
 have c3:IntKind.wrap .u64 (n:Int)=n:=IntWalk.u64_in _ (by omega);have c4:IntKind.wrap .i64 (n:Int)=n:=IntWalk.i64_in _ (by omega);have hm:aa7 1 n=some ((0:Int),(n:Int)):=by
  unfold aa7 VN;rw [if_pos ⟨⟨by omega,by omega⟩,by omega,by omega⟩];have e1:((1:Int).toNat*((n:Nat):Int).toNat/18446744073709551616:Nat)=0:=by
   rw [V0];show(1*n)/_=0;omega
  have e2:((1:Int).toNat*((n:Nat):Int).toNat% 18446744073709551616:Nat)=n:=by
   rw [V0];show(1*n)% _=n;omega
  rw [e1,e2];rfl
 have hc:=auf hm;have d1:decide ((n:Int)>9223372036854775807)=false:=B0 (by omega);unfold acg ach;simp -implicitDefEqProofs only [go_sem,c1,c2,c3,c4,d1];refine aW.mono (hc H) fun v H' hv=> ?_;obtain⟨rfl,rfl⟩:=hv;have d0:decide ((0:Int)>0)=false:=by decide
 simp -implicitDefEqProofs only [go_sem,c1,c2,c3,c4,d0,d1];refine ayq (k:= .i64) (k':= .i64) (n:=n) (by simp only [go_sem]) (by simp only [go_sem]) (by omega) ?_;have Dx:(H'.new (List.replicate n (PV.int .i64 0))).obj H'.next=some (List.replicate n (PV.int .i64 0)):=by
  show(if H'.next=H'.next then some _ else _)=_
  rw [if_pos rfl]
 simp -implicitDefEqProofs only [go_sem]
 refine aug (id:=H'.next) (off:=0) (len:=n) (cap:=n) (fs:=[[.int .i64 x]]) (cs:=List.replicate n (.int .i64 0)) (by simp only [go_sem]) (by simp only [go_sem];rfl) Dx
  (by intro cs hcs;rw [P0.1 hcs];exact⟨rfl,fun c hc=>by rw [P0.1 hc];rfl⟩) (by rw [D2];omega) ?_
 have hput:putCells (List.replicate n (PV.int .i64 0)) 0 (([[PV.int .i64 x]]:List (List PV)).take n).flatten=List.replicate (min 1 n) (.int .i64 x)++List.replicate (n -min 1 n) (.int .i64 0):=by
  cases n with
  |zero=>rfl
  |succ n=>
   have e:min 1 (n+1)=1:=by omega
   rw [e,I3 (by simp)];simp [putCells,n8]
 rw [hput];have e1:(min ([[PV.int .i64 x]]:List (List PV)).length n:Nat)=min 1 n:=rfl;rw [e1];simp -implicitDefEqProofs only [go_sem];have aCR: ∀cs:List PV,(((H'.new (List.replicate n (PV.int .i64 0))).put H'.next cs).obj H'.next)=some cs:=fun cs=>by
  show(if H'.next=H'.next then some _ else _)=_
  rw [if_pos rfl]
 refine ayp x H'.next n ((H'.new (List.replicate n (PV.int .i64 0)))) _ (by omega) (fun σ' H2 k7 ko kn kob kl=> ?_) n (min 1 n) _ _ (List.replicate (n -min 1 n) (.int .i64 0)) (by omega) (by omega) (by omega) ?_ ?_ (aCR _) (by rw [D2]) rfl
  (fun i hi=> ?_) (fun k=>rfl)
 · show WE Tryz.prog (.exit 0) _ _ σ' H2
   simp -implicitDefEqProofs only [go_sem,k7];refine⟨[H'.next],.inr ⟨H'.next,n,[],rfl,by rw [D2],by rw [D2];omega,by rw [kn];exact A2 _,?_,?_⟩,fun i hi=> .inr (by rw [P0.1 hi];exact R0 _),⟨by rw [kn];exact W6 _,fun i hi _=> ?_⟩,fun c3 hc=> ?_⟩
   · rw [ko,W3,pC];exact congrArg some (J2 (PV.int .i64 x) n).symm
   · rw [D2];simp
   · rw [kob i (by omega)];show(if i=H'.next then some _ else _)=_;rw [if_neg (by omega)]
   · cases c3 with
     |unk=>exact hc
     |tok t=>exact⟨by rw [kl];exact hc.1,by rw [kn];exact T7 hc.2⟩
     |nil=>trivial
     |exact=>trivial
 · simp only [BO,Nat.reduceEqDiff,↓reduceIte]
 · simp only [BO,Nat.reduceEqDiff,↓reduceIte]
 · show(if i=H'.next then some _ else _)=_
   rw [if_neg hi]
def Lg (l:List Int) (n:Int):List Int:=List.replicate n.toNat (l.headD 0)
theorem ayr (l:List Int) (n:Int) (h:l.length=1/\0<=n/\n<=1000000):Mj Tryz.prog 230 [.ah (l.map aK) .exact,.int .i64 n] aK 1 (Lg l n):=by
 match l,h with
 |[x],h=>exact aCQ x n h.2
end Go.VL
end
section
set_option maxHeartbeats 4000000
namespace Go.VL
open Go.Proofs
def ql:Nat->(List Int)->(List Int)->Int->(List Int)->Int->Int->Option (((List Int)×(List Int)))
 |0,_,_,_,_,_,_=>none
 |k+1,yD,lH,mo,jQ,kZ,fD=>
  cond (decide (fD<kZ)) (if 0<=fD then (jQ[fD.toNat]?).bind fun x21=>if 0<=x21 then (yD[x21.toNat]?).bind fun x24=>(lH[x21.toNat]?).bind fun x41=>ql k (yD.set x21.toNat mo) (lH.set x21.toNat fD) mo jQ kZ (IntKind.wrap .i64 (fD+1))else none else none) (some ((yD,lH)))
def Nh:List Nat:=[8,9]++List.range' 27 14
theorem Yg: ∀(k:Nat) (uw:PV) (lg:List Nat) (lF:PV) (iy:List Nat) (M:List Nat) (yD:List Int) (lH:List Int) (mo:Int) (jQ:List Int) (kZ:Int) (fD:Int) (aH σ:Nat->PV) (H0 H:AH) (f0:Fr Nh aH σ) (hf0:HF M H0 H) (sl:σ 4=uw/\σ 5=lF/\σ 6=(.int .i64 mo)/\σ 25=(.ah (jQ.map aK) .unk)/\σ 26=(.int .i64 kZ)/\σ 27=(.int .i64 fD)) (uz:aB H aK 1 yD uw lg) (tL:Nw H0 M lg) (mP:aB H aK 1 lH lF iy) (lX:Nw H0 M iy) (iM:Dj lg iy) (o:((List Int)×(List Int))) (h:ql k yD lH mo jQ kZ fD=some o) (Q:Post) (q0: ∀(p:(List Int)×(List Int)) (v0:PV) (xB:List Nat) (v1:PV) (Un:List Nat) (σ':Nat->PV) (H':AH),o=p->Fr Nh aH σ'->HF M H0 H'->(σ' 4=v0/\σ' 5=v1)->aB H' aK 1 p.1 v0 xB->Nw H0 M xB->aB H' aK 1 p.2 v1 Un->Nw H0 M Un->Dj xB Un->Q (.exit 2) σ' H'),W Tryz.prog (.loop SC) Q σ H:=by
 intro k
 induction k with
 |zero=>intro uw lg lF iy M yD lH mo jQ kZ fD aH σ H0 H f0 hf0 sl uz tL mP lX iM o h Q q0;simp only [ql,reduceCtorEq]at h
 |succ k ih=>
  intro uw lg lF iy M yD lH mo jQ kZ fD aH σ H0 H f0 hf0 sl uz tL mP lX iM o h Q q0;obtain⟨s4,s5,s6,s25,s26,s27⟩:=sl;have hle0:=hf0.1;unfold ql at h;refine bB (fun K hK=>aI ?_);unfold SC;obtain⟨e19,h⟩|⟨e19,h⟩:=aJ h
  ·obtain⟨e20,h⟩:=aX h;obtain⟨x21,e22,h⟩:=aj h;obtain⟨e23,h⟩:=aX h;obtain⟨x24,e25,h⟩:=aj h;obtain⟨w26,w27,ays,hil,w28,hC,hL,hD,hI⟩:=aB.content uz e25;have w29:=ne_next hil;have w30:=bA hil;have w31:jS 1 uw (.int .i64 x21)=some (.ref w26 (x21.toNat)):=by simpa using hI .i64 x21 (by first|omega|decide) (by first|rfl|omega)
   have aK4:w27[x21.toNat]? =some (.int .i64 x24):=by simpa using hC 0 _ rfl
   clear hC hL hD hI;refine dD ?_;refine qd (f:=aK) (id:=w26) (o:=x21.toNat) (i:=x21.toNat) (j:=0) (a:=x24) (y:=mo) (vs:=[(.int .i64 mo)]) aC ays (by omega) (by repeat (first|exact uz|apply aB.new|refine aB.put ?_ (fun hm=>by have:=aB.lt uz _ hm;omega))) e25 aC rfl rfl (by first|decide|(simp only [I0,j0];omega)) rfl (fun H34 r35 Yh ayt=> ?_);have le:=Yh.1;try simp only [AH.aN,AH.aO,AH.aS,AH.aT]at le
   have r39:=aB.hf (by repeat (first|exact mP|apply aB.new|refine aB.put ?_ (fun hm=>by have:=aB.lt mP _ hm;omega))) Yh (Dj.symm iM);obtain⟨x41,e42,h⟩:=aj h;obtain⟨w43,w44,ayv,hil,w45,hC,hL,hD,hI⟩:=aB.content r39 e42;have w46:=ne_next hil;have w47:=bA hil;have w48:jS 1 lF (.int .i64 x21)=some (.ref w43 (x21.toNat)):=by simpa using hI .i64 x21 (by first|omega|decide) (by first|rfl|omega)
   have aK5:w44[x21.toNat]? =some (.int .i64 x41):=by simpa using hC 0 _ rfl
   clear hC hL hD hI;refine dD ?_;refine qd (f:=aK) (id:=w43) (o:=x21.toNat) (i:=x21.toNat) (j:=0) (a:=x41) (y:=fD) (vs:=[(.int .i64 fD)]) aC ayv (by omega) (by repeat (first|exact r39|apply aB.new|refine aB.put ?_ (fun hm=>by have:=aB.lt r39 _ hm;omega))) e42 aC rfl rfl (by first|decide|(simp only [I0,j0];omega)) rfl (fun H51 r52 aoa ayw=> ?_);have le:=aoa.1;try simp only [AH.aN,AH.aO,AH.aS,AH.aT]at le
   have r56:=aB.hf (by repeat (first|exact r35|apply aB.new|refine aB.put ?_ (fun hm=>by have:=aB.lt r35 _ hm;omega))) aoa iM;refine dD ?_;refine hK _ _ ?_;exact ih uw lg lF iy M (yD.set x21.toNat mo) (lH.set x21.toNat fD) mo jQ kZ (IntKind.wrap .i64 (fD+1)) _ _ _ _ bG (by repeat (first|exact hf0|refine HF.new ?_|refine HF.Ry ?_|refine HF.used ?_|refine HF.put (by first|(right;omega)|(left;simp only [M1,w8,q7])) ?_|refine HF.via Yh tL ?_|refine HF.via aoa lX ?_)) aC (by repeat (first|exact r56|apply aB.new|refine aB.put ?_ (fun hm=>by have:=aB.lt r56 _ hm;omega))) tL (by repeat (first|exact r52|apply aB.new|refine aB.put ?_ (fun hm=>by have:=aB.lt r52 _ hm;omega))) lX iM _ h _ q0
  ·cases h;refine dD ?_;exact q0 _ uw lg lF iy _ _ rfl bG yH aC (by repeat (first|exact uz|apply aB.new|refine aB.put ?_ (fun hm=>by have:=aB.lt uz _ hm;omega))) tL (by repeat (first|exact mP|apply aB.new|refine aB.put ?_ (fun hm=>by have:=aB.lt mP _ hm;omega))) lX iM
def qm:Nat->(List Int)->(List Int)->(List Nd)->Int->Int->Option (((List Int)×(List Int)))
 |0,_,_,_,_,_=>none
 |k+1,yD,lH,sW,vg,EM=>
  cond (decide (EM<vg)) (if 0<=EM then (sW[EM.toNat]?).bind fun JW=>Option.bind (ql k yD lH EM JW.args (JW.args.length:Int) 0) (fun p60=>qm k p60.1 p60.2 sW vg (IntKind.wrap .i64 (EM+1)))else none) (some ((yD,lH)))
def Ni:List Nat:=[6,7,8,9]++List.range' 19 23
theorem Yi: ∀(k:Nat) (uw:PV) (lg:List Nat) (lF:PV) (iy:List Nat) (M:List Nat) (yD:List Int) (lH:List Int) (sW:List Nd) (vg:Int) (EM:Int) (aH σ:Nat->PV) (H0 H:AH) (f0:Fr Ni aH σ) (hf0:HF M H0 H) (sl:σ 4=uw/\σ 5=lF/\σ 17=(.ah (sW.map Nd.cells) .unk)/\σ 18=(.int .i64 vg)/\σ 19=(.int .i64 EM)) (uz:aB H aK 1 yD uw lg) (tL:Nw H0 M lg) (mP:aB H aK 1 lH lF iy) (lX:Nw H0 M iy) (iM:Dj lg iy) (o:((List Int)×(List Int))) (h:qm k yD lH sW vg EM=some o) (Q:Post) (q0: ∀(p:(List Int)×(List Int)) (v0:PV) (xB:List Nat) (v1:PV) (Un:List Nat) (σ':Nat->PV) (H':AH),o=p->Fr Ni aH σ'->HF M H0 H'->(σ' 4=v0/\σ' 5=v1)->aB H' aK 1 p.1 v0 xB->Nw H0 M xB->aB H' aK 1 p.2 v1 Un->Nw H0 M Un->Dj xB Un->Q (.exit 0) σ' H'),W Tryz.prog (.loop SE) Q σ H:=by
 intro k
 induction k with
 |zero=>intro uw lg lF iy M yD lH sW vg EM aH σ H0 H f0 hf0 sl uz tL mP lX iM o h Q q0;simp only [qm,reduceCtorEq]at h
 |succ k ih=>
  intro uw lg lF iy M yD lH sW vg EM aH σ H0 H f0 hf0 sl uz tL mP lX iM o h Q q0;obtain⟨s4,s5,Cu,ow,zm⟩:=sl;have hle0:=hf0.1;unfold qm at h;refine bB (fun K hK=>aI ?_);unfold SE;obtain⟨e15,h⟩|⟨e15,h⟩:=aJ h
  ·obtain⟨e16,h⟩:=aX h;obtain⟨JW,e18,h⟩:=aj h;refine dD ?_;rw [dB];refine dD ?_;obtain⟨o58,h59,h⟩:=aj h;refine Yg k uw lg lF iy (lg++(iy++[])) yD lH EM JW.args (JW.args.length:Int) 0 _ _ _ _ (Fr.refl _ _) (HF.refl _ _) aC (by repeat (first|exact uz|apply aB.new|refine aB.put ?_ (fun hm=>by have:=aB.lt uz _ hm;omega))) (fun i hi=>Or.inl (by simp only [P2,M1,hi,w8,q7])) (by repeat (first|exact mP|apply aB.new|refine aB.put ?_ (fun hm=>by have:=aB.lt mP _ hm;omega))) (fun i hi=>Or.inl (by simp only [P2,M1,hi,w8,q7])) iM _ h59 _ ?_
   ·rintro p60 v64 aCS v69 aCT σ' H63 eo aob ayx ⟨s68,s73⟩ r66 aGn r71 aGo aGp;rw [eo]at h;have s75:σ' 17=(.ah (sW.map Nd.cells) .unk):=(aob 17 (by decide)).trans aC;have s76:σ' 18=(.int .i64 vg):=(aob 18 (by decide)).trans aC;have s77:σ' 19=(.int .i64 EM):=(aob 19 (by decide)).trans aC;have le:=ayx.1;try simp only [AH.aN,AH.aO,AH.aS,AH.aT]at le
    refine dD ?_;refine hK _ _ ?_;exact ih v64 aCS v69 aCT M p60.1 p60.2 sW vg (IntKind.wrap .i64 (EM+1)) _ _ _ _ FJ (by repeat (first|exact hf0|refine HF.new ?_|refine HF.Ry ?_|refine HF.used ?_|refine HF.put (by first|(right;omega)|(left;simp only [M1,w8,q7])) ?_|refine HF.via ayx (r7.2 ⟨tL,(r7.2 ⟨lX,(fun _ h=>absurd h D0)⟩)⟩) ?_)) aC (by repeat (first|exact r66|apply aB.new|refine aB.put ?_ (fun hm=>by have:=aB.lt r66 _ hm;omega))) (Nw.via (r7.2 ⟨tL,(r7.2 ⟨lX,(fun _ h=>absurd h D0)⟩)⟩) aY aGn) (by repeat (first|exact r71|apply aB.new|refine aB.put ?_ (fun hm=>by have:=aB.lt r71 _ hm;omega))) (Nw.via (r7.2 ⟨tL,(r7.2 ⟨lX,(fun _ h=>absurd h D0)⟩)⟩) aY aGo) aGp _ h _ q0
  ·cases h;refine dD ?_;exact q0 _ uw lg lF iy _ _ rfl bG yH aC (by repeat (first|exact uz|apply aB.new|refine aB.put ?_ (fun hm=>by have:=aB.lt uz _ hm;omega))) tL (by repeat (first|exact mP|apply aB.new|refine aB.put ?_ (fun hm=>by have:=aB.lt mP _ hm;omega))) lX iM
def zy (k:Nat) (au:List Nd):Option ((List Int)×(List Int)):=
 if [(-1)].length=1/\0<=(au.length:Int)/\(au.length:Int)<=1000000 then if 0<=(au.length:Int)/\(au.length:Int)<=1099511627776/\8*(au.length:Int)<=1099511627776 then Option.bind (qm k (Lg [(-1)] (au.length:Int):List Int) (List.replicate au.length 0) au (au.length:Int) 0) (fun yK=>some (yK.1,yK.2))else none else none
theorem afC {k:Nat} {au:List Nd} {c0:Ck} {r:(List Int)×(List Int)} (h:zy k au=some r):aG Tryz.prog 179 [(.ah (au.map Nd.cells) c0)] (.dn [(.ah (r.1.map aK) .unk),(.ah (r.2.map aK) .unk)]):=by
 refine aG.lw (.ah .nil) (aG.bX (dJ.mem (.cons (bK Nd.pu _) .nil)) (aL aBv (by simp) (aI ?_)) (.dn _ (dJ.mem (.cons (bK gV _) (.cons (bK gV _) .nil)))));unfold zy at h;unfold aqe;obtain⟨e13,h⟩:=aX h;obtain⟨e14,h⟩:=aX h;refine dD ?_
 refine Xu (akA (a:=3) (b:=6) (f:=aK) (sz:=1) (xs:=(Lg [(-1)] (au.length:Int):List Int)) (g:=aK) (sz2:=1) (ys:=(List.replicate au.length 0)) (fun x y i=>match i with|0=>(.ah ([(-1)].map aK) .exact)|1=>(.ah (au.map Nd.cells) .unk)|2=>(.int .i64 (au.length:Int))|3=>x|4=>(.ah (au.map Nd.cells) .unk)|5=>(.int .i64 (au.length:Int))|6=>y|7=>x|_=>ud) rfl (by decide) rfl rfl (fun _ _=>rfl) (fun _ _=>rfl) (by
  intro x x' y i h1 h2;rcases i with _|i
  · first|rfl|exact absurd rfl h1|exact absurd h2 (by decide)
  rcases i with _|i
  · first|rfl|exact absurd rfl h1|exact absurd h2 (by decide)
  rcases i with _|i
  · first|rfl|exact absurd rfl h1|exact absurd h2 (by decide)
  rcases i with _|i
  · first|rfl|exact absurd rfl h1|exact absurd h2 (by decide)
  rcases i with _|i
  · first|rfl|exact absurd rfl h1|exact absurd h2 (by decide)
  rcases i with _|i
  · first|rfl|exact absurd rfl h1|exact absurd h2 (by decide)
  rcases i with _|i
  · first|rfl|exact absurd rfl h1|exact absurd h2 (by decide)
  rcases i with _|i
  · first|rfl|exact absurd rfl h1|exact absurd h2 (by decide)
  rfl) (by
  intro x y y' i h1 h2;rcases i with _|i
  · first|rfl|exact absurd rfl h1|exact absurd h2 (by decide)
  rcases i with _|i
  · first|rfl|exact absurd rfl h1|exact absurd h2 (by decide)
  rcases i with _|i
  · first|rfl|exact absurd rfl h1|exact absurd h2 (by decide)
  rcases i with _|i
  · first|rfl|exact absurd rfl h1|exact absurd h2 (by decide)
  rcases i with _|i
  · first|rfl|exact absurd rfl h1|exact absurd h2 (by decide)
  rcases i with _|i
  · first|rfl|exact absurd rfl h1|exact absurd h2 (by decide)
  rcases i with _|i
  · first|rfl|exact absurd rfl h1|exact absurd h2 (by decide)
  rcases i with _|i
  · first|rfl|exact absurd rfl h1|exact absurd h2 (by decide)
  rfl) (by
  intro x y;refine⟨.inr ⟨rfl,fun H=>by(try simp -implicitDefEqProofs only [dQ,bV,evs,List.map,R2,W3,go_sem]);first|done|exact⟨rfl,rfl⟩⟩,?_⟩;refine⟨.inr ⟨rfl,fun H=>by(try simp -implicitDefEqProofs only [dQ,bV,evs,List.map,R2,W3,go_sem]);first|done|exact⟨rfl,rfl⟩⟩,?_⟩;refine⟨.inr ⟨rfl,fun H=>by(try simp -implicitDefEqProofs only [dQ,bV,evs,List.map,R2,W3,go_sem]);first|done|exact⟨rfl,rfl⟩⟩,?_⟩;refine⟨.inl rfl,?_⟩;refine⟨.inr ⟨rfl,fun H=>by(try simp -implicitDefEqProofs only [dQ,bV,evs,List.map,R2,W3,go_sem]);first|done|exact⟨rfl,rfl⟩⟩,?_⟩;refine⟨.inr ⟨rfl,fun H=>by(try simp -implicitDefEqProofs only [dQ,bV,evs,List.map,R2,W3,go_sem]);first|done|exact⟨rfl,rfl⟩⟩,?_⟩;refine⟨.inl rfl,?_⟩;refine⟨.inr ⟨rfl,fun H=>by(try simp -implicitDefEqProofs only [dQ,bV,evs,List.map,R2,W3,go_sem]);first|done|exact⟨rfl,rfl⟩⟩,?_⟩;exact trivial) (fun y H=>⟨trivial,atC (ayr [(-1)] (au.length:Int) e13) (by simp -implicitDefEqProofs only [bV,evs,List.map,R2,W3,go_sem])⟩) (fun x H=>⟨trivial,atB (f:=aK) (k:= .i64) (k':= .i64) (n:=(au.length:Int)) 0 rfl (by simp -implicitDefEqProofs only [bV,evs,List.map,R2,W3,go_sem]) (by simp -implicitDefEqProofs only [bV,evs,List.map,R2,W3,go_sem]) e14 (by decide)⟩) (fun v1 v8 ayA ayB H3 r4 r10 aGq nw5 aLT hf6 ok7=> ?_))
 simp only [bV,I0,j0,Nat.reduceAdd];have le:=hf6.1;try simp only [AH.aN,AH.aO,AH.aS,AH.aT]at le
 refine dD ?_;obtain⟨o78,h79,h⟩:=aj h;refine Yi k v1 ayA v8 ayB (ayA++(ayB++[])) (Lg [(-1)] (au.length:Int):List Int) (List.replicate au.length 0) au (au.length:Int) 0 _ _ _ _ (Fr.refl _ _) (HF.refl _ _) aC (by repeat (first|exact r4|apply aB.new|refine aB.put ?_ (fun hm=>by have:=aB.lt r4 _ hm;omega))) (fun i hi=>Or.inl (by simp only [P2,M1,hi,w8,q7])) (by repeat (first|exact r10|apply aB.new|refine aB.put ?_ (fun hm=>by have:=aB.lt r10 _ hm;omega))) (fun i hi=>Or.inl (by simp only [P2,M1,hi,w8,q7])) aGq _ h79 _ ?_
 ·rintro yK v84 aK6 v89 aK7 σ' H83 eo aGr aoc ⟨s88,s93⟩ r86 aLU r91 aLV aLW;rw [eo]at h;have le:=aoc.1;try simp only [AH.aN,AH.aO,AH.aS,AH.aT]at le
  cases h;refine dD ?_;exact(oh (.cons (aB.fz gV (by repeat (first|exact r86|apply aB.new|refine aB.put ?_ (fun hm=>by have:=aB.lt r86 _ hm;omega)))) (.cons (aB.fz gV (by repeat (first|exact r91|apply aB.new|refine aB.put ?_ (fun hm=>by have:=aB.lt r91 _ hm;omega)))) .nil)))
end Go.VL
end
section
namespace Go.VL
open Go.Proofs Go.RowKit
set_option maxRecDepth 100000
theorem ala:Enters Tryz.prog 268:=⟨_,Tryz.func268,rfl,by kernel_rfl⟩
theorem aod:Vg Tryz.prog 268 1 false:=by
 intro l m bx n J Jx W hn hc hY h0;refine callsIn_of_wp Tryz.func268 rfl trivial ?_ rfl;simp only [Tryz.ntmps268,B8,I0,j0,Nat.reduceAdd,Nat.reduceSub,Array.replicate_succ,Array.replicate_zero,List.push_toArray,List.append_toArray,R2,B4];obtain⟨ad0,cap0,hc0⟩:=hc
 gi_wp2
 gi_loopw [3] (fun v3 wr=> ∃k:Nat,v3= .int .i64 ((k:Int) -1)/\k<=n/\J k wr) (fun v3 wr=>(RowKit.intOf v3+1).toNat)
 case atStart=>exact⟨n,rfl,R0 _,h0⟩
 case round=>
  obtain⟨k,rfl,hk,hJ⟩:=hrel;cases k with
  |zero=>
   have c1: ¬(0:Int)<=((0:Nat):Int) -1:=by omega
   gi_wp2
   go_end0
   exact⟨⟨_,rfl⟩,.inl hJ⟩
  |succ k=>
   obtain⟨b,o,cap,vs,hb,hkn,hvs,hld,fn,tmps,assign,body,hy,hR⟩:=hY k wr hJ;have e1:((k+1:Nat):Int) -1=(k:Int):=by omega
   rw [e1];have c1:(0:Int)<=(k:Int):=by omega
   have c2:(k:Int)<(n:Int):=by omega
   have aLX:wr.cell? ⟨b,o+k,none⟩=some (elemV false vs):=by
    have:=hld 0 (elemV false vs) (by simp [elemV,hvs]);simpa using this
   clear hld;generalize elemV false vs=v at*
   gi_wp2
   refine⟨fun hd=>absurd hd (by simp [Fence.wide]),(QD hR).mono ?_⟩;rintro e W' (⟨rfl,hJ'⟩|⟨rfl,hJx⟩)
   · gi_wp2
     go_roundw
     case rel=>exact⟨k,rfl,by omega,hJ'⟩
     case measure=>simp [RowKit.intOf]
   · gi_wp2
     refine bodyPost_ret (results_none rfl _ _ _) rfl ?_;exact⟨⟨_,rfl⟩,.inr hJx⟩
end Go.VL
end
section
set_option maxHeartbeats 4000000
namespace Go.VL
open Go.Proofs
def zA (dA:Int):Option Bool:=
 cond (dA==1) (some ((dA==1))) (some ((dA==2)))
instance auh (dA:Int):Lp Tryz.prog (Tn) (zA dA) [(15,18)] [(11,(.int .i64 dA))] (fun p=>(.normal,[(15,(.bool p))])):=Gt Tn.eq_1 (by unfold zA;exact bZ)
def DF (dA:Int):Option Bool:=
 cond (dA==4) (some ((dA==4))) (some ((dA==5)))
instance aui (dA:Int):Lp Tryz.prog (Tp) (DF dA) [(38,41)] [(11,(.int .i64 dA))] (fun p=>(.normal,[(38,(.bool p))])):=Gt Tp.eq_1 (by unfold DF;exact bZ)
def DI (dA:Int):Option Bool:=
 cond (dA==6) (some ((dA==6))) (some ((dA==12)))
instance auj (dA:Int):Lp Tryz.prog (Tq) (DI dA) [(43,46)] [(11,(.int .i64 dA))] (fun p=>(.normal,[(43,(.bool p))])):=Gt Tq.eq_1 (by unfold DI;exact bZ)
def DJ (dA:Int):Option Bool:=
 cond (dA==7) (some ((dA==7))) (cond (dA==8) (some ((dA==8))) (cond (dA==9) (some ((dA==9))) (some ((dA==13)))))
instance auk (dA:Int):Lp Tryz.prog (Tt) (DJ dA) [(48,53)] [(11,(.int .i64 dA))] (fun p=>(.normal,[(48,(.bool p))])):=Gt Tt.eq_1 (by unfold DJ;exact bZ)
def DL (dA:Int):Option Bool:=
 cond (dA==10) (some ((dA==10))) (some ((dA==11)))
instance aul (dA:Int):Lp Tryz.prog (Tv) (DL dA) [(60,63)] [(11,(.int .i64 dA))] (fun p=>(.normal,[(60,(.bool p))])):=Gt Tv.eq_1 (by unfold DL;exact bZ)
def DN (dA:Int):Option Bool:=
 cond (dA==16) (some ((dA==16))) (some ((dA==17)))
instance aum (dA:Int):Lp Tryz.prog (Tw) (DN dA) [(70,73)] [(11,(.int .i64 dA))] (fun p=>(.normal,[(70,(.bool p))])):=Gt Tw.eq_1 (by unfold DN;exact bZ)
def DR (dA:Int):Option Bool:=
 cond (dA==19) (some ((dA==19))) (some ((dA==21)))
instance aun (dA:Int):Lp Tryz.prog (Tx) (DR dA) [(82,85)] [(11,(.int .i64 dA))] (fun p=>(.normal,[(82,(.bool p))])):=Gt Tx.eq_1 (by unfold DR;exact bZ)
def zB (k:Nat) (aU:Nd):Option Shape:=
 cond (aU.kind==0) (some (Shape.mk (0,0) (0,0) false true)) (Option.bind (zA aU.kind) (fun p5=>cond p5 (some (Shape.mk (0,0) (0,0) true false)) (cond (aU.kind==3) ((nI k aU.text).bind fun AQ=>cond AQ.2 (some (Shape.mk (0,0) ((aU.args.length:Int),(aU.args.length:Int)) true false)) (some (Shape.mk (0,0) (1,4) true false))) (Option.bind (DF aU.kind) (fun FN=>cond FN (some (Shape.mk (0,0) (0,30) false false)) (Option.bind (DI aU.kind) (fun p36=>cond p36 ((yg 1 2).bind fun p47=>some p47) (Option.bind (DJ aU.kind) (fun p53=>cond p53 (some (Shape.mk (1,4) ((IntKind.wrap .i64 ((aU.names.length:Int)+1)),(IntKind.wrap .i64 ((aU.names.length:Int)+1))) false false)) (Option.bind (DL aU.kind) (fun p66=>cond p66 (some (Shape.mk (1,4) (1,1) false false)) (cond (aU.kind==14) (some (Shape.mk (0,0) (2,5) false false)) (Option.bind (DN aU.kind) (fun yK=>cond yK (some (Shape.mk (1,30) ((aU.names.length:Int),(aU.names.length:Int)) false false)) (cond (aU.kind==18) (some (Shape.mk (0,0) (1,1) true false)) (Option.bind (DR aU.kind) (fun VD=>cond VD ((yg 0 3).bind fun anS=>some anS) (cond (aU.kind==20) (some (Shape.mk (0,0) (0,0) false false)) (cond (aU.kind==22) (some (Shape.mk (0,0) (2,30) false false)) (cond (aU.kind==23) (some (Shape.mk (1,5) (2,2) false true)) (cond (aU.kind==24) (some (Shape.mk (1,4) (1,1) false false)) ((yg 0 2).bind fun aiS=>some aiS))))))))))))))))))))))
instance afD (k:Nat) (aU:Nd):bY Tryz.prog 226 [(.agg (Nd.cells aU))] (zB k aU) (fun r=>(.agg (Shape.cells r))):=bM aBP (by unfold zB aqz;exact bE)
theorem afE {k:Nat} {aU:Nd} {r:Shape} (h:zB k aU=some r):aG Tryz.prog 226 [(.agg (Nd.cells aU))] (.agg (Shape.cells r)):=(afD _ _).c _ h
def vk:Nat->(List Nd)->(List Int)->(List Int)->Int->Option (Unit⊕Bool)
 |0,_,_,_,_=>none
 |k+1,au,BS,qG,Qp=>
  if 0<=Qp then (BS[Qp.toNat]?).bind fun x16=>cond (x16 !=(-1)) (if 0<=x16 then (au[x16.toNat]?).bind fun x20=>cond (x20.kind==19) ((qG[Qp.toNat]?).bind fun x23=>cond (x23==2) (some (.inr (false))) (vk k au BS qG x16)) (vk k au BS qG x16)else none) (some (.inl ()))else none
instance ave (k:Nat): ∀(au:List Nd) (BS:List Int) (qG:List Int) (Qp:Int),Lp Tryz.prog (.loop SF) (vk k au BS qG Qp) [(8,9),(11,12),(51,76)] [(0,(.ah (au.map Nd.cells) .unk)),(2,(.ah (BS.map aK) .unk)),(3,(.ah (qG.map aK) .unk)),(11,(.int .i64 Qp))] (Sum.elim (fun p=>(.exit 1,[])) (fun p=>(.ret,[(8,(.bool p))]))):=by
 induction k with
 |zero=>exact fun _ _ _ _=>rP rfl
 |succ k ih=>exact fun _ _ _ _=>rQ SF.eq_1 (by unfold vk;exact bZ)
def EN (k:Nat) (au:List Nd) (eB:Int) (BS:List Int) (qG:List Int):Option Bool:=
 if 0<=eB then (au[eB.toNat]?).bind fun x2=>cond (x2.kind==24) ((BS[eB.toNat]?).bind fun x5=>cond (x5==(-1)) (some true) (if 0<=x5 then (au[x5.toNat]?).bind fun x9=>cond (x9.kind !=3) (some true) ((nI k x9.text).bind fun tQ=>some tQ.2)else none)) (cond (x2.kind==20) (Option.bind (vk k au BS qG eB) (fun o=>Sum.elim (fun p28=>some true) (fun p32=>some p32) o)) (some false))else none
instance aiT (k:Nat) (au:List Nd) (eB:Int) (BS:List Int) (qG:List Int):bY Tryz.prog 180 [(.ah (au.map Nd.cells) .unk),(.int .i64 eB),(.ah (BS.map aK) .unk),(.ah (qG.map aK) .unk)] (EN k au eB BS qG) (fun r=>(.bool r)):=bM aBw (by unfold EN aqf;exact bE)
theorem aiU {k:Nat} {au:List Nd} {eB:Int} {BS:List Int} {qG:List Int} {c0 c2 c3:Ck} {r:Bool} (h:EN k au eB BS qG=some r):aG Tryz.prog 180 [(.ah (au.map Nd.cells) c0),(.int .i64 eB),(.ah (BS.map aK) c2),(.ah (qG.map aK) c3)] (.bool r):=((aiT _ _ _ _ _).c _ h).wk (.ah (.same (.ah (.ah .nil))))
def zC (k:Nat) (s_0:Str):Option Bool:=
 (uZ k s_0).bind fun p2=>some (!p2)
instance auo (k:Nat) (s_0:Str):bY Tryz.prog 271 [(.str s_0)] (zC k s_0) (fun r=>(.bool r)):=bM aCj (by unfold zC aq3;exact bE)
def bU:Nat->(List Str)->Int->Int->Option (Unit⊕Int)
 |0,_,_,_=>none
 |k+1,s_0,jY,iD=>
  cond (decide (iD<jY)) (if 0<=iD then (s_0[iD.toNat]?).bind fun x3=>(zC k x3).bind fun p6=>cond p6 (some (.inr (iD))) (bU k s_0 jY (IntKind.wrap .i64 (iD+1)))else none) (some (.inl ()))
instance O8 (k:Nat): ∀(s_0:List Str) (jY:Int) (iD:Int),Lp Tryz.prog (.loop TV) (bU k s_0 jY iD) [(4,6),(8,19)] [(0,(.ah (s_0.map aF) .unk)),(1,(.fn (.func 271) [] [])),(7,(.int .i64 jY)),(8,(.int .i64 iD))] (Sum.elim (fun p=>(.exit 0,[])) (fun p=>(.ret,[(4,(.int .i64 p))]))):=by
 induction k with
 |zero=>exact fun _ _ _=>rP rfl
 |succ k ih=>exact fun _ _ _=>rQ TV.eq_1 (by unfold bU;exact bZ)
def iF (k:Nat) (s_0:List Str):Option Int:=
 Option.bind (bU k s_0 (s_0.length:Int) 0) (fun o=>Sum.elim (fun mH=>some (-1)) (fun nG=>some nG) o)
instance QT (k:Nat) (s_0:List Str):bY Tryz.prog 274 [(.ah (s_0.map aF) .unk),(.fn (.func 271) [] [])] (iF k s_0) (fun r=>(.int .i64 r)):=bM aCm (by unfold iF aq6;exact bE)
def fT (k:Nat) (s_0:List Str):Option Bool:=
 (iF k s_0).bind fun p2=>some (decide (p2>=0))
instance O9 (k:Nat) (s_0:List Str):bY Tryz.prog 232 [(.ah (s_0.map aF) .unk),(.fn (.func 271) [] [])] (fT k s_0) (fun r=>(.bool r)):=bM aBU (by unfold fT aqE;exact bE)
def BF (k:Nat) (jk:Int) (jZ:Int) (iV:Str) (jA:List Str) (jG:List Int) (yC:Bool):Option Bool:=
 cond yC (some (true)) ((FQ iV).bind fun p8=>cond p8 (some (false)) ((xD k iV).bind fun vO=>some ((!vO))))
instance arV (k:Nat) (jk:Int) (jZ:Int) (iV:Str) (jA:List Str) (jG:List Int) (yC:Bool):Lo Tryz.prog (.ops TA) (BF k jk jZ iV jA jG yC) [(25,36)] [(24,(.bool yC))] [(1,Nd.cells ⟨jk,jZ,iV,jA,jG⟩)] (fun p=>(.normal,[(35,(.bool p))],none)):=IU TA.eq_1 (by unfold BF;exact iI)
def BG (k:Nat) (jk:Int) (jZ:Int) (iV:Str) (jA:List Str) (jG:List Int) (pR:Bool) (EO:Bool):Option Bool:=
 cond EO (some (true)) (cond pR (some (false)) ((xD k iV).bind fun p25=>some ((!p25))))
instance arW (k:Nat) (jk:Int) (jZ:Int) (iV:Str) (jA:List Str) (jG:List Int) (pR:Bool) (EO:Bool):Lo Tryz.prog (.ops TB) (BG k jk jZ iV jA jG pR EO) [(40,49)] [(5,(.bool pR)),(39,(.bool EO))] [(1,Nd.cells ⟨jk,jZ,iV,jA,jG⟩)] (fun p=>(.normal,[(48,(.bool p))],none)):=IU TB.eq_1 (by unfold BG;exact iI)
def BH (jk:Int) (jZ:Int) (iV:Str) (jA:List Str) (jG:List Int) (J3:Str) (J4:Int) (J5:Int) (J6:Int) (J7:Bool) (G5:Int) (G6:Int) (aiV:Bool):Option Bool:=
 cond aiV ((gX (jG.length:Int) G5 G6).bind fun p38=>some ((!p38))) (some (false))
instance arX (jk:Int) (jZ:Int) (iV:Str) (jA:List Str) (jG:List Int) (J3:Str) (J4:Int) (J5:Int) (J6:Int) (J7:Bool) (G5:Int) (G6:Int) (aiV:Bool):Lo Tryz.prog (.ops TD) (BH jk jZ iV jA jG J3 J4 J5 J6 J7 G5 G6 aiV) [(51,61)] [(50,(.bool aiV))] [(1,Nd.cells ⟨jk,jZ,iV,jA,jG⟩),(4,[(.str J3),(.int .i64 J4),(.int .i64 J5),(.int .i64 J6),(.bool J7),(.int .i64 G5),(.int .i64 G6)])] (fun p=>(.normal,[(60,(.bool p))],none)):=IU TD.eq_1 (by unfold BH;exact iI)
def BI (k:Nat) (jk:Int) (jZ:Int) (iV:Str) (jA:List Str) (jG:List Int) (aiW:Bool):Option Bool:=
 cond aiW (some (true)) ((uZ k iV).bind fun p51=>some ((!p51)))
instance arY (k:Nat) (jk:Int) (jZ:Int) (iV:Str) (jA:List Str) (jG:List Int) (aiW:Bool):Lo Tryz.prog (.ops TF) (BI k jk jZ iV jA jG aiW) [(65,70)] [(64,(.bool aiW))] [(1,Nd.cells ⟨jk,jZ,iV,jA,jG⟩)] (fun p=>(.normal,[(69,(.bool p))],none)):=IU TF.eq_1 (by unfold BI;exact iI)
def BJ (k:Nat) (jk:Int) (jZ:Int) (iV:Str) (jA:List Str) (jG:List Int) (MO:Bool) (J3:Str) (J4:Int) (J5:Int) (J6:Int) (J7:Bool) (G5:Int) (G6:Int) (pR:Bool):Option ((Bool×Bool)):=
 cond (jk==2) (Option.bind (BF k jk jZ iV jA jG MO) (fun nG=>some ((nG,false)))) (cond (jk==3) (Option.bind (BG k jk jZ iV jA jG pR MO) (fun p28=>Option.bind (BH jk jZ iV jA jG J3 J4 J5 J6 J7 G5 G6 pR) (fun p41=>some ((p28,p41))))) (cond (jk==18) (Option.bind (BI k jk jZ iV jA jG MO) (fun p54=>some ((p54,false)))) (some ((MO,false)))))
instance arZ (k:Nat) (jk:Int) (jZ:Int) (iV:Str) (jA:List Str) (jG:List Int) (MO:Bool) (J3:Str) (J4:Int) (J5:Int) (J6:Int) (J7:Bool) (G5:Int) (G6:Int) (pR:Bool):Lo Tryz.prog (TG) (BJ k jk jZ iV jA jG MO J3 J4 J5 J6 J7 G5 G6 pR) [(3,4),(6,7),(19,70)] [(3,(.bool MO)),(5,(.bool pR)),(6,(.bool false))] [(1,Nd.cells ⟨jk,jZ,iV,jA,jG⟩),(4,[(.str J3),(.int .i64 J4),(.int .i64 J5),(.int .i64 J6),(.bool J7),(.int .i64 G5),(.int .i64 G6)])] (fun p=>(.normal,[(3,(.bool p.1)),(6,(.bool p.2))],none)):=anO TG.eq_1 (by unfold BJ;exact iI)
def kP:Nat->Int->Int->Str->(List Str)->(List Int)->Bool->(List Str)->Int->Int->Option Bool
 |0,_,_,_,_,_,_,_,_,_=>none
 |k+1,jk,jZ,iV,jA,jG,Lh,Yj,Yk,zD=>
  cond (decide (zD<Yk)) (if 0<=zD then (Yj[zD.toNat]?).bind fun x72=>cond Lh (kP k jk jZ iV jA jG true Yj Yk (IntKind.wrap .i64 (zD+1))) (if 0<=zD/\zD.toNat<=jA.length then (bO k (jA.take zD.toNat) x72).bind fun Pb=>kP k jk jZ iV jA jG Pb Yj Yk (IntKind.wrap .i64 (zD+1))else none)else none) (some (Lh))
instance ar0 (k:Nat): ∀(jk:Int) (jZ:Int) (iV:Str) (jA:List Str) (jG:List Int) (Lh:Bool) (Yj:List Str) (Yk:Int) (zD:Int),Lo Tryz.prog (.loop TH) (kP k jk jZ iV jA jG Lh Yj Yk zD) [(7,10),(73,88)] [(7,(.bool Lh)),(71,(.ah (Yj.map aF) .unk)),(72,(.int .i64 Yk)),(73,(.int .i64 zD))] [(1,Nd.cells ⟨jk,jZ,iV,jA,jG⟩)] (fun p=>(.exit 1,[(7,(.bool p))],none)):=by
 induction k with
 |zero=>exact fun _ _ _ _ _ _ _ _ _=>lo0 rfl
 |succ k ih=>exact fun _ _ _ _ _ _ _ _ _=>loS TH.eq_1 (by unfold kP;exact iI)
def pU (k:Nat) (aU:Nd):Option Int:=
 (fT k aU.names).bind fun p2=>(nI k aU.text).bind fun p4=>Option.bind (BJ k aU.kind aU.n aU.text aU.names aU.args p2 p4.1.text p4.1.fix p4.1.low p4.1.high p4.1.left p4.1.least p4.1.most p4.2) (fun p63=>Option.bind (kP k aU.kind aU.n aU.text aU.names aU.args false aU.names (aU.names.length:Int) 0) (fun yK=>(oJ p63.1 7).bind fun p88=>(oJ p63.2 17).bind fun p90=>(oJ yK 12).bind fun QU=>(gJ k [p88,p90,QU]).bind fun VD=>some VD))
instance ac1 (k:Nat) (aU:Nd):bY Tryz.prog 229 [(.agg (Nd.cells aU))] (pU k aU) (fun r=>(.int .i64 r)):=bM aBS (by unfold pU aqC;exact FK)
theorem DT {k:Nat} {aU:Nd} {r:Int} (h:pU k aU=some r):aG Tryz.prog 229 [(.agg (Nd.cells aU))] (.int .i64 r):=(ac1 _ _).c _ h
def DU (iW:Int) (gN:Int) (jC:Str) (mZ:List Str) (jH:List Int) (G7:Int) (G8:Int) (Fj:Int) (Fp:Int) (G9:Bool) (DV:Bool) (Uo:Bool):Option Bool:=
 cond Uo (some (true)) ((gX (jH.length:Int) Fj Fp).bind fun tQ=>some ((!tQ)))
def Nj:List Nat:=List.range' 37 12
theorem Yl: ∀(kY:Nat) (DW:Nat) (iW:Int) (gN:Int) (jC:Str) (mZ:List Str) (jH:List Int) (G7:Int) (G8:Int) (Fj:Int) (Fp:Int) (G9:Bool) (DV:Bool) (Uo:Bool) (aH σ:Nat->PV) (H:AH) (f0:Fr Nj aH σ) (sl:σ 7=(.ref (kY) 0)/\σ 8=(.ref (DW) 0)/\σ 36=(.bool Uo)/\H.obj kY=some [(.int .i64 iW),(.int .i64 gN),(.str jC),(.ah (mZ.map aF) .unk),(.ah (jH.map aK) .unk)]/\H.obj DW=some [(.int .i64 G7),(.int .i64 G8),(.int .i64 Fj),(.int .i64 Fp),(.bool G9),(.bool DV)]) (wm:kY<H.next) (EP:DW<H.next) (qV:kY≠DW) (o:Bool) (h:DU iW gN jC mZ jH G7 G8 Fj Fp G9 DV Uo=some o) (Q:Post) (q0: ∀(p:Bool) (σ':Nat->PV),o=p->Fr Nj aH σ'->(σ' 48=(.bool p))->Q .normal σ' H),eZ Tryz.prog Sz (Q .normal) σ H:=by
 intro kY DW iW gN jC mZ jH G7 G8 Fj Fp G9 DV Uo aH σ H f0 sl wm EP qV o h Q q0;obtain⟨s7,s8,s36,agQ,aup⟩:=sl;have agR:=ne_next wm;have agS:=bA wm;have auq:=ne_next EP;have aur:=bA EP;have aaD:=S2 qV;have aaE:=S2 (B3 qV);unfold DU at h;refine oG ?_;unfold Sz;obtain⟨e11,h⟩|⟨e11,h⟩:=aJ h
 ·cases h;refine ak ?_;exact q0 _ _ rfl bG aA
 ·obtain⟨tQ,e12,h⟩:=aj h;refine ak ?_;refine av (jq e12) ?_;cases h;refine ak ?_;exact q0 _ _ rfl bG aA
def qo:Nat->(List Int)->Int->Bool->(List Int)->Option ((Int×Bool)⊕(Int×Bool))
 |0,iX,kF,eY,qW=>some (.inr ((kF,eY)))
 |m+1,iX,kF,eY,qW=>
  (qW[m]?).bind fun x27=>cond (x27 !=kF) (some (.inl (kF,false))) (cond (decide (kF<0)) (some (.inl (kF,false))) (if 0<=kF then (iX[kF.toNat]?).bind fun x31=>qo m iX (IntKind.wrap .i64 (x31 -1)) eY qW else none))
theorem Ym: ∀(m:Nat) (gT:Nat) (gZ:Nat) (bC:Nat) (vo:Nat) (iX:List Int) (kF:Int) (eY:Bool) (qW:List Int) (aH σ:Nat->PV) (H0 H:AH) (f0:Fr [] aH σ) (hf0:HF [gZ,bC] H0 H) (sl:σ 5=(.ref (gT) 0)/\σ 9=(.ref (gZ) 0)/\σ 10=(.ref (bC) 0)/\σ 53=(.fn (.func 268) [] [(.ref (vo) 0)])/\H.obj gT=some [(.ah (iX.map aK) .unk)]/\H.obj gZ=some [(.int .i64 kF)]/\H.obj bC=some [(.bool eY)]/\H.obj vo=some [(.ah (qW.map aK) .unk)]) (lM:gT<H.next) (rX:gZ<H.next) (jl:bC<H.next) (Am:vo<H.next) (fq:gT≠gZ) (dH:gT≠bC) (kG:gT≠vo) (dO:gZ≠bC) (mQ:gZ≠vo) (jg:bC≠vo) (o:(Int×Bool)⊕(Int×Bool)) (h:qo m iX kF eY qW=some o) (Q:Post) (q0: ∀(p:Int×Bool) (σ':Nat->PV) (H':AH),o= .inl p->Fr [] aH σ'->HF [gZ,bC] H0 H'->(H'.obj gZ=some [(.int .i64 p.1)]/\H'.obj bC=some [(.bool p.2)])->Q (.exit 0) σ' H') (q1: ∀(p:Int×Bool) (σ':Nat->PV) (H':AH),o= .inr (p)->Fr [] aH σ'->HF [gZ,bC] H0 H'->(H'.obj gZ=some [(.int .i64 p.1)]/\H'.obj bC=some [(.bool p.2)])->Q .normal σ' H'),GD (fun Q' σ' H'=>W Tryz.prog OA (JN (fun sF fu=>W Tryz.prog OB Q' sF fu)) σ' H') Q σ vo [(.ah (qW.map aK) .unk)] 54 55 ((qW.map aK).map (E9 false)) m H:=by
 intro m
 induction m with
 |zero=>
  intro gT gZ bC vo iX kF eY qW aH σ H0 H f0 hf0 sl lM rX jl Am fq dH kG dO mQ jg o h Q q0 q1;obtain⟨s5,s9,s10,s53,Pf,Zr,J8,VP⟩:=sl;have Pg:=ne_next lM;have Ph:=bA lM;have Zt:=ne_next rX;have Zu:=bA rX;have J9:=ne_next jl;have Ka:=bA jl;have aiX:=ne_next Am;have aiY:=bA Am;have DX:=S2 fq;have DY:=S2 (B3 fq);have xU:=S2 dH;have xV:=S2 (B3 dH);have Li:=S2 kG;have Lj:=S2 (B3 kG);have AV:=S2 dO;have AX:=S2 (B3 dO);have Pj:=S2 mQ;have Pk:=S2 (B3 mQ);have Jc:=S2 jg;have Jd:=S2 (B3 jg);have hle0:=hf0.1;rw [qo]at h;cases h;exact q1 _ _ _ rfl f0 hf0 aA
 |succ m ih=>
  intro gT gZ bC vo iX kF eY qW aH σ H0 H f0 hf0 sl lM rX jl Am fq dH kG dO mQ jg o h Q q0 q1;obtain⟨s5,s9,s10,s53,Pf,Zr,J8,VP⟩:=sl;have Pg:=ne_next lM;have Ph:=bA lM;have Zt:=ne_next rX;have Zu:=bA rX;have J9:=ne_next jl;have Ka:=bA jl;have aiX:=ne_next Am;have aiY:=bA Am;have DX:=S2 fq;have DY:=S2 (B3 fq);have xU:=S2 dH;have xV:=S2 (B3 dH);have Li:=S2 kG;have Lj:=S2 (B3 kG);have AV:=S2 dO;have AX:=S2 (B3 dO);have Pj:=S2 mQ;have Pk:=S2 (B3 mQ);have Jc:=S2 jg;have Jd:=S2 (B3 jg);have hle0:=hf0.1;rw [qo]at h;cases erf:qW[m]?
  case none=>rw [C9 erf]at h;cases h
  case some x27=>
   rw [Da erf]at h;refine⟨VP,E9 false (aK x27),by simp only [J0,erf,X2],aI ?_⟩;unfold OA;refine ak ?_;refine aI ?_;unfold OB;obtain⟨e28,h⟩|⟨e28,h⟩:=aJ h
   ·cases h;refine ak ?_;exact q0 _ _ _ rfl bG yH aA
   ·obtain⟨e29,h⟩|⟨e29,h⟩:=aJ h
    ·cases h;refine ak ?_;exact q0 _ _ _ rfl bG yH aA
    ·obtain⟨e30,h⟩:=aX h;obtain⟨x31,e32,h⟩:=aj h;refine ak ?_;exact ih gT gZ bC vo iX (IntKind.wrap .i64 (x31 -1)) eY qW _ _ _ _ f0 yH aA aY aY aY aY aY aY aY aY aY aY _ h _ q0 q1
def zF (iX:List Int) (iW:Int) (gN:Int) (jC:Str) (mZ:List Str) (jH:List Int) (kF:Int) (eY:Bool):Option ((Int×Bool)):=
 if jH.length<=1099511627776 then Option.bind (qo jH.length iX kF eY jH) (fun o=>Sum.elim (fun p35=>some ((p35.1,p35.2))) (fun p49=>some ((p49.1,p49.2))) o)else none
def Nk:List Nat:=[12]++List.range' 51 17
theorem Yn: ∀(gT:Nat) (kY:Nat) (gZ:Nat) (bC:Nat) (iX:List Int) (iW:Int) (gN:Int) (jC:Str) (mZ:List Str) (jH:List Int) (kF:Int) (eY:Bool) (aH σ:Nat->PV) (H0 H:AH) (f0:Fr Nk aH σ) (hf0:HF [gZ,bC] H0 H) (sl:σ 5=(.ref (gT) 0)/\σ 7=(.ref (kY) 0)/\σ 9=(.ref (gZ) 0)/\σ 10=(.ref (bC) 0)/\H.obj gT=some [(.ah (iX.map aK) .unk)]/\H.obj kY=some [(.int .i64 iW),(.int .i64 gN),(.str jC),(.ah (mZ.map aF) .unk),(.ah (jH.map aK) .unk)]/\H.obj gZ=some [(.int .i64 kF)]/\H.obj bC=some [(.bool eY)]) (lM:gT<H.next) (wm:kY<H.next) (rX:gZ<H.next) (jl:bC<H.next) (zG:gT≠kY) (fq:gT≠gZ) (dH:gT≠bC) (DZ:kY≠gZ) (wo:kY≠bC) (dO:gZ≠bC) (o:(Int×Bool)) (h:zF iX iW gN jC mZ jH kF eY=some o) (Q:Post) (q0: ∀(p:Int×Bool) (σ':Nat->PV) (H':AH),o=p->Fr Nk aH σ'->HF [gZ,bC] H0 H'->(H'.obj gZ=some [(.int .i64 p.1)]/\H'.obj bC=some [(.bool p.2)])->Q .normal σ' H'),W Tryz.prog SA Q σ H:=by
 intro gT kY gZ bC iX iW gN jC mZ jH kF eY aH σ H0 H f0 hf0 sl lM wm rX jl zG fq dH DZ wo dO o h Q q0;obtain⟨s5,s7,s9,s10,Pf,agQ,Zr,J8⟩:=sl;have Pg:=ne_next lM;have Ph:=bA lM;have agR:=ne_next wm;have agS:=bA wm;have Zt:=ne_next rX;have Zu:=bA rX;have J9:=ne_next jl;have Ka:=bA jl;have alc:=S2 zG;have ald:=S2 (B3 zG);have DX:=S2 fq;have DY:=S2 (B3 fq);have xU:=S2 dH;have xV:=S2 (B3 dH);have ar1:=S2 DZ;have ar2:=S2 (B3 DZ);have agT:=S2 wo;have agU:=S2 (B3 wo);have AV:=S2 dO;have AX:=S2 (B3 dO);have hle0:=hf0.1;unfold zF at h;refine aI ?_;unfold SA;refine ak ?_;refine aL aBQ (by simp) (aI ?_);unfold aqA;obtain⟨e63,h⟩:=aX h;refine ak ?_;obtain⟨o33,h34,h⟩:=aj h;refine apy (g:=268) (id:=H.next) (sz:=1) (agg:=false) (es:=jH.map aK) (c:= .unk) aA ala aod (by decide) aA (by rw [J1];exact e63) (FH (nk.len (f:=aK)) _) ?_;rw [J1];refine Ym _ (gT) (gZ) (bC) (H.next) iX kF eY jH _ _ _ _ (Fr.refl _ _) (HF.refl _ _) aA aY aY aY aY aY aY aY aY aY aY _ h34 _ ?_ ?_
 ·rintro p35 σ' H38 eo ayD Yh ⟨g39,g40⟩;subst eo;rw [eH]at h;have s41:σ' 7=(.ref (kY) 0):=(ayD 7 (by decide)).trans aA;have s42:σ' 10=(.ref (bC) 0):=(ayD 10 (by decide)).trans aA;have le:=Yh.1;try simp only [AH.aN,AH.aO,AH.aS,AH.aT]at le
  have g43:H38.obj (kY)=some [(.int .i64 iW),(.int .i64 gN),(.str jC),(.ah (mZ.map aF) .unk),(.ah (jH.map aK) .unk)]:=(Yh.2 _ aY (by first|exact D0|(simp only [M1,D0,B7,not_or];omega))).trans aA;have n44:=ne_next (show kY<H38.next from aY);have m45:=bA (show kY<H38.next from aY);have n47:=ne_next (show bC<H38.next from aY);have m48:=bA (show bC<H38.next from aY);cases h;refine ak ?_;exact q0 _ _ _ rfl FJ II aA
 ·rintro p49 σ' H52 eo an8 aiZ ⟨g53,g54⟩;subst eo;rw [fP]at h;have s55:σ' 7=(.ref (kY) 0):=(an8 7 (by decide)).trans aA;have s56:σ' 10=(.ref (bC) 0):=(an8 10 (by decide)).trans aA;have le:=aiZ.1;try simp only [AH.aN,AH.aO,AH.aS,AH.aT]at le
  have g57:H52.obj (kY)=some [(.int .i64 iW),(.int .i64 gN),(.str jC),(.ah (mZ.map aF) .unk),(.ah (jH.map aK) .unk)]:=(aiZ.2 _ aY (by first|exact D0|(simp only [M1,D0,B7,not_or];omega))).trans aA;have n58:=ne_next (show kY<H52.next from aY);have m59:=bA (show kY<H52.next from aY);have n61:=ne_next (show bC<H52.next from aY);have m62:=bA (show bC<H52.next from aY);cases h;refine ak ?_;exact q0 _ _ _ rfl FJ II aA
def D5 (iW:Int) (gN:Int) (jC:Str) (mZ:List Str) (jH:List Int) (G7:Int) (G8:Int) (Fj:Int) (Fp:Int) (G9:Bool) (DV:Bool) (xW:Bool) (zD:Bool):Option Bool:=
 cond zD (cond DV (cond (iW !=1) (cond xW ((gX gN 0 1).bind fun QJ=>some (QJ)) (some (true))) ((zn jC).bind fun ou=>cond ou (cond xW ((gX gN 0 1).bind fun Zm=>some (Zm)) (some (true))) (some (false)))) (cond (gN==0) (cond (iW !=1) (cond xW ((gX gN 0 1).bind fun ais=>some (ais)) (some (true))) ((zn jC).bind fun ayE=>cond ayE (cond xW ((gX gN 0 1).bind fun Uq=>some (Uq)) (some (true))) (some (false)))) (some (false)))) (cond (jC==[]) (cond DV (cond (iW !=1) (cond xW ((gX gN 0 1).bind fun Pm=>some (Pm)) (some (true))) ((zn jC).bind fun ait=>cond ait (cond xW ((gX gN 0 1).bind fun aiu=>some (aiu)) (some (true))) (some (false)))) (cond (gN==0) (cond (iW !=1) (cond xW ((gX gN 0 1).bind fun ayF=>some (ayF)) (some (true))) ((zn jC).bind fun ayG=>cond ayG (cond xW ((gX gN 0 1).bind fun ac2=>some (ac2)) (some (true))) (some (false)))) (some (false)))) (some (false)))
def Nl:List Nat:=List.range' 74 32
theorem Yo: ∀(kY:Nat) (DW:Nat) (iW:Int) (gN:Int) (jC:Str) (mZ:List Str) (jH:List Int) (G7:Int) (G8:Int) (Fj:Int) (Fp:Int) (G9:Bool) (DV:Bool) (xW:Bool) (zD:Bool) (aH σ:Nat->PV) (H:AH) (f0:Fr Nl aH σ) (sl:σ 7=(.ref (kY) 0)/\σ 8=(.ref (DW) 0)/\σ 13=(.bool xW)/\σ 73=(.bool zD)/\H.obj kY=some [(.int .i64 iW),(.int .i64 gN),(.str jC),(.ah (mZ.map aF) .unk),(.ah (jH.map aK) .unk)]/\H.obj DW=some [(.int .i64 G7),(.int .i64 G8),(.int .i64 Fj),(.int .i64 Fp),(.bool G9),(.bool DV)]) (wm:kY<H.next) (EP:DW<H.next) (qV:kY≠DW) (o:Bool) (h:D5 iW gN jC mZ jH G7 G8 Fj Fp G9 DV xW zD=some o) (Q:Post) (q0: ∀(p:Bool) (σ':Nat->PV),o=p->Fr Nl aH σ'->(σ' 105=(.bool p))->Q .normal σ' H),eZ Tryz.prog SB (Q .normal) σ H:=by
 intro kY DW iW gN jC mZ jH G7 G8 Fj Fp G9 DV xW zD aH σ H f0 sl wm EP qV o h Q q0;obtain⟨s7,s8,s13,s73,agQ,aup⟩:=sl;have agR:=ne_next wm;have agS:=bA wm;have auq:=ne_next EP;have aur:=bA EP;have aaD:=S2 qV;have aaE:=S2 (B3 qV);unfold D5 at h;refine oG ?_;unfold SB;obtain⟨e84,h⟩|⟨e84,h⟩:=aJ h
 ·obtain⟨e85,h⟩|⟨e85,h⟩:=aJ h
  ·obtain⟨e86,h⟩|⟨e86,h⟩:=aJ h
   ·obtain⟨e87,h⟩|⟨e87,h⟩:=aJ h
    ·obtain⟨QJ,e88,h⟩:=aj h;refine ak ?_;refine av (jq e88) ?_;cases h;refine ak ?_;exact q0 _ _ rfl bG aA
    ·cases h;refine ak ?_;exact q0 _ _ rfl bG aA
   ·obtain⟨ou,e90,h⟩:=aj h;refine ak ?_;refine av (GZ e90) ?_;obtain⟨e92,h⟩|⟨e92,h⟩:=aJ h
    ·obtain⟨e93,h⟩|⟨e93,h⟩:=aJ h
     ·obtain⟨Zm,e94,h⟩:=aj h;refine ak ?_;refine av (jq e94) ?_;cases h;refine ak ?_;exact q0 _ _ rfl bG aA
     ·cases h;refine ak ?_;exact q0 _ _ rfl bG aA
    ·cases h;refine ak ?_;exact q0 _ _ rfl bG aA
  ·obtain⟨e96,h⟩|⟨e96,h⟩:=aJ h
   ·obtain⟨e97,h⟩|⟨e97,h⟩:=aJ h
    ·obtain⟨e98,h⟩|⟨e98,h⟩:=aJ h
     ·obtain⟨ais,e99,h⟩:=aj h;refine ak ?_;refine av (jq e99) ?_;cases h;refine ak ?_;exact q0 _ _ rfl bG aA
     ·cases h;refine ak ?_;exact q0 _ _ rfl bG aA
    ·obtain⟨ayE,aoe,h⟩:=aj h;refine ak ?_;refine av (GZ aoe) ?_;obtain⟨acR,h⟩|⟨acR,h⟩:=aJ h
     ·obtain⟨aiN,h⟩|⟨aiN,h⟩:=aJ h
      ·obtain⟨Uq,aiO,h⟩:=aj h;refine ak ?_;refine av (jq aiO) ?_;cases h;refine ak ?_;exact q0 _ _ rfl bG aA
      ·cases h;refine ak ?_;exact q0 _ _ rfl bG aA
     ·cases h;refine ak ?_;exact q0 _ _ rfl bG aA
   ·cases h;refine ak ?_;exact q0 _ _ rfl bG aA
 ·obtain⟨O5,h⟩|⟨O5,h⟩:=aJ h
  ·obtain⟨e108,h⟩|⟨e108,h⟩:=aJ h
   ·obtain⟨e109,h⟩|⟨e109,h⟩:=aJ h
    ·obtain⟨aof,h⟩|⟨aof,h⟩:=aJ h
     ·obtain⟨Pm,aog,h⟩:=aj h;refine ak ?_;refine av (jq aog) ?_;cases h;refine ak ?_;exact q0 _ _ rfl bG aA
     ·cases h;refine ak ?_;exact q0 _ _ rfl bG aA
    ·obtain⟨ait,aoh,h⟩:=aj h;refine ak ?_;refine av (GZ aoh) ?_;obtain⟨e115,h⟩|⟨e115,h⟩:=aJ h
     ·obtain⟨e116,h⟩|⟨e116,h⟩:=aJ h
      ·obtain⟨aiu,e117,h⟩:=aj h;refine ak ?_;refine av (jq e117) ?_;cases h;refine ak ?_;exact q0 _ _ rfl bG aA
      ·cases h;refine ak ?_;exact q0 _ _ rfl bG aA
     ·cases h;refine ak ?_;exact q0 _ _ rfl bG aA
   ·obtain⟨e119,h⟩|⟨e119,h⟩:=aJ h
    ·obtain⟨e120,h⟩|⟨e120,h⟩:=aJ h
     ·obtain⟨aGs,h⟩|⟨aGs,h⟩:=aJ h
      ·obtain⟨ayF,aGt,h⟩:=aj h;refine ak ?_;refine av (jq aGt) ?_;cases h;refine ak ?_;exact q0 _ _ rfl bG aA
      ·cases h;refine ak ?_;exact q0 _ _ rfl bG aA
     ·obtain⟨ayG,aoi,h⟩:=aj h;refine ak ?_;refine av (GZ aoi) ?_;obtain⟨e126,h⟩|⟨e126,h⟩:=aJ h
      ·obtain⟨e127,h⟩|⟨e127,h⟩:=aJ h
       ·obtain⟨ac2,e128,h⟩:=aj h;refine ak ?_;refine av (jq e128) ?_;cases h;refine ak ?_;exact q0 _ _ rfl bG aA
       ·cases h;refine ak ?_;exact q0 _ _ rfl bG aA
      ·cases h;refine ak ?_;exact q0 _ _ rfl bG aA
    ·cases h;refine ak ?_;exact q0 _ _ rfl bG aA
  ·cases h;refine ak ?_;exact q0 _ _ rfl bG aA
def FV (k:Nat) (au:List Nd) (eB:Int) (oO:List Int):Option Int:=
 if 0<=eB then (au[eB.toNat]?).bind fun x2=>(gX x2.kind 0 28).bind fun p5=>cond p5 ((zB k x2).bind fun p8=>(gX (x2.names.length:Int) p8.names.1 p8.names.2).bind fun mH=>Option.bind (DU x2.kind x2.n x2.text x2.names x2.args p8.names.1 p8.names.2 p8.operands.1 p8.operands.2 p8.text p8.number (!mH)) (fun p16=>cond p16 (some 6) (Option.bind (zF oO x2.kind x2.n x2.text x2.names x2.args (IntKind.wrap .i64 (eB -1)) true) (fun p66=>Option.bind (D5 x2.kind x2.n x2.text x2.names x2.args p8.names.1 p8.names.2 p8.operands.1 p8.operands.2 p8.text p8.number (x2.kind==23) p8.text) (fun ayL=>cond p66.2 ((oJ (!ayL) 5).bind fun aoj=>cond (x2.kind==23) ((oJ false 3).bind fun ayM=>(pU k x2).bind fun ayN=>(gJ k [aoj,ayM,ayN]).bind fun ayO=>some ayO) ((gX x2.n 0 10000).bind fun ac3=>(oJ (!ac3) 3).bind fun aiw=>(pU k x2).bind fun ayP=>(gJ k [aoj,aiw,ayP]).bind fun ayQ=>some ayQ)) ((oJ true 5).bind fun aok=>cond (x2.kind==23) ((oJ false 3).bind fun ayR=>(pU k x2).bind fun ayS=>(gJ k [aok,ayR,ayS]).bind fun ayT=>some ayT) ((gX x2.n 0 10000).bind fun aix=>(oJ (!aix) 3).bind fun ayU=>(pU k x2).bind fun anT=>(gJ k [aok,ayU,anT]).bind fun ayV=>some ayV))))))) (some 4)else none
theorem afF {k:Nat} {au:List Nd} {eB:Int} {oO:List Int} {c0 c2:Ck} {r:Int} (h:FV k au eB oO=some r):aG Tryz.prog 177 [(.ah (au.map Nd.cells) c0),(.int .i64 eB),(.ah (oO.map aK) c2)] (.int .i64 r):=by
 refine aG.lw (.ah (.same (.ah .nil))) (aG.bX (dJ.mem (.cons (bK Nd.pu _) (.cons (.int _ _) (.cons (bK gV _) .nil)))) (aL aBt (by simp) (aI ?_)) (.int _ _));unfold FV at h;unfold aqc;obtain⟨e1,h⟩:=aX h;obtain⟨x2,e3,h⟩:=aj h;obtain⟨p5,e4,h⟩:=aj h;refine ak ?_;refine av (jq e4) ?_;obtain⟨e6,h⟩|⟨e6,h⟩:=aJ h
 ·obtain⟨p8,e7,h⟩:=aj h;refine ak ?_;refine av (afE e7) ?_;obtain⟨mH,e9,h⟩:=aj h;refine ak ?_;refine av (jq e9) ?_;refine ak ?_;obtain⟨o14,h15,h⟩:=aj h;refine Yl (AH.empty.next+1) (AH.empty.next+2) x2.kind x2.n x2.text x2.names x2.args p8.names.1 p8.names.2 p8.operands.1 p8.operands.2 p8.text p8.number (!mH) _ _ _ (Fr.refl _ _) aA aY aY aY _ h15 _ ?_
  ·rintro p16 σ' eo ai0 s20;rw [eo]at h;have s21:σ' 1=(.int .i64 eB):=(ai0 1 (by decide)).trans aA;have s22:σ' 5=(.ref (AH.empty.next) 0):=(ai0 5 (by decide)).trans aA;have s23:σ' 7=(.ref (AH.empty.next+1) 0):=(ai0 7 (by decide)).trans aA;have s24:σ' 8=(.ref (AH.empty.next+2) 0):=(ai0 8 (by decide)).trans aA;obtain⟨e25,h⟩|⟨e25,h⟩:=aJ h
   ·cases h;refine ak ?_;exact(.pure _ (.int _ _))
   ·refine ak ?_;obtain⟨o64,h65,h⟩:=aj h;refine Yn (AH.empty.next) (AH.empty.next+1) (AH.empty.next+3) (AH.empty.next+4) oO x2.kind x2.n x2.text x2.names x2.args (IntKind.wrap .i64 (eB -1)) true _ _ _ _ (Fr.refl _ _) (HF.refl _ _) aA aY aY aY aY aY aY aY aY aY aY _ h65 _ ?_
    ·rintro p66 σ' Zv eo aol aom ⟨g70,g71⟩;rw [eo]at h;have s72:σ' 7=(.ref (AH.empty.next+1) 0):=(aol 7 (by decide)).trans aA;have s73:σ' 8=(.ref (AH.empty.next+2) 0):=(aol 8 (by decide)).trans aA;have s74:σ' 10=(.ref (AH.empty.next+4) 0):=(aol 10 (by decide)).trans aA;have le:=aom.1;try simp only [AH.aN,AH.aO,AH.aS,AH.aT]at le
     have g75:Zv.obj (AH.empty.next+1)=some [(.int .i64 x2.kind),(.int .i64 x2.n),(.str x2.text),(.ah (x2.names.map aF) .unk),(.ah (x2.args.map aK) .unk)]:=(aom.2 _ aY (by first|exact D0|(simp only [M1,D0,B7,not_or];omega))).trans aA;have n76:=ne_next (show AH.empty.next+1<Zv.next from aY);have m77:=bA (show AH.empty.next+1<Zv.next from aY);have g78:Zv.obj (AH.empty.next+2)=some [(.int .i64 p8.names.1),(.int .i64 p8.names.2),(.int .i64 p8.operands.1),(.int .i64 p8.operands.2),(.bool p8.text),(.bool p8.number)]:=(aom.2 _ aY (by first|exact D0|(simp only [M1,D0,B7,not_or];omega))).trans aA;have n79:=ne_next (show AH.empty.next+2<Zv.next from aY);have m80:=bA (show AH.empty.next+2<Zv.next from aY);have n82:=ne_next (show AH.empty.next+4<Zv.next from aY);have m83:=bA (show AH.empty.next+4<Zv.next from aY);refine ak ?_;obtain⟨aLY,aGu,h⟩:=aj h;refine Yo (AH.empty.next+1) (AH.empty.next+2) x2.kind x2.n x2.text x2.names x2.args p8.names.1 p8.names.2 p8.operands.1 p8.operands.2 p8.text p8.number (x2.kind==23) p8.text _ _ _ (Fr.refl _ _) aA aY aY aY _ aGu _ ?_
     ·rintro ayL σ' eo ai1 aLZ;rw [eo]at h;have aGv:σ' 7=(.ref (AH.empty.next+1) 0):=(ai1 7 (by decide)).trans aA;have aGw:σ' 10=(.ref (AH.empty.next+4) 0):=(ai1 10 (by decide)).trans aA;have aL0:σ' 13=(.bool (x2.kind==23)):=(ai1 13 (by decide)).trans aA;refine ak ?_;refine oH ?_;obtain⟨aGx,h⟩|⟨aGx,h⟩:=aJ h
      ·obtain⟨aoj,aGy,h⟩:=aj h;refine ak ?_;refine PC.mk (wO aGy) ?_;obtain⟨e143,h⟩|⟨e143,h⟩:=aJ h
       ·obtain⟨ayM,aGz,h⟩:=aj h;refine ak ?_;refine PC.mk (wO aGz) ?_;obtain⟨ayN,aGA,h⟩:=aj h;refine ak ?_;refine av (DT aGA) ?_;obtain⟨ayO,aGB,h⟩:=aj h;refine ak ?_;refine av (oK aGB) ?_;cases h;refine ak ?_;exact(.pure _ (.int _ _))
       ·obtain⟨ac3,aGC,h⟩:=aj h;refine ak ?_;refine PC.mk (jq aGC) ?_;obtain⟨aiw,e152,h⟩:=aj h;refine ak ?_;refine PC.mk (wO e152) ?_;obtain⟨ayP,e154,h⟩:=aj h;refine ak ?_;refine av (DT e154) ?_;obtain⟨ayQ,aGD,h⟩:=aj h;refine ak ?_;refine av (oK aGD) ?_;cases h;refine ak ?_;exact(.pure _ (.int _ _))
      ·obtain⟨aok,aGE,h⟩:=aj h;refine ak ?_;refine PC.mk (wO aGE) ?_;obtain⟨aGF,h⟩|⟨aGF,h⟩:=aJ h
       ·obtain⟨ayR,aGG,h⟩:=aj h;refine ak ?_;refine PC.mk (wO aGG) ?_;obtain⟨ayS,aGH,h⟩:=aj h;refine ak ?_;refine av (DT aGH) ?_;obtain⟨ayT,e165,h⟩:=aj h;refine ak ?_;refine av (oK e165) ?_;cases h;refine ak ?_;exact(.pure _ (.int _ _))
       ·obtain⟨aix,e167,h⟩:=aj h;refine ak ?_;refine PC.mk (jq e167) ?_;obtain⟨ayU,e169,h⟩:=aj h;refine ak ?_;refine PC.mk (wO e169) ?_;obtain⟨anT,aGI,h⟩:=aj h;refine ak ?_;refine av (DT aGI) ?_;obtain⟨ayV,aGJ,h⟩:=aj h;refine ak ?_;refine av (oK aGJ) ?_;cases h;refine ak ?_;exact(.pure _ (.int _ _))
 ·cases h;refine ak ?_;exact(.pure _ (.int _ _))
def jJ:Nat->(List Nd)->(List Int)->Int->Int->Option (List Int⊕(Int×Int))
 |0,_,_,_,_=>none
 |k+1,au,oQ,kZ,fD=>
  cond (decide (fD<kZ)) ((FV k au fD oQ).bind fun mH=>cond (mH !=0) (some (.inr ((fD,mH)))) (if(oQ.length+1)*8<=1099511627776 then (Lb au fD (oQ++[0])).bind fun yY=>if 0<=fD then ((oQ++[0])[fD.toNat]?).bind fun x23=>jJ k au ((oQ++[0]).set fD.toNat yY) kZ (IntKind.wrap .i64 (fD+1))else none else none)) (some (.inl oQ))
def D6:List Nat:=[2,3,5,6,7]++List.range' 27 22
theorem Ur: ∀(k:Nat) (Ao:PV) (zH:List Nat) (M:List Nat) (au:List Nd) (oQ:List Int) (kZ:Int) (fD:Int) (aH σ:Nat->PV) (H0 H:AH) (f0:Fr D6 aH σ) (hf0:HF M H0 H) (sl:σ 0=(.ah (au.map Nd.cells) .unk)/\σ 5=Ao/\σ 26=(.int .i64 kZ)/\σ 27=(.int .i64 fD)) (uD:aB H aK 1 oQ Ao zH) (yj:Nw H0 M zH) (o:List Int⊕(Int×Int)) (h:jJ k au oQ kZ fD=some o) (Q:Post) (q0: ∀(p:List Int) (v0:PV) (xB:List Nat) (σ':Nat->PV) (H':AH),o= .inl p->Fr D6 aH σ'->HF M H0 H'->(σ' 5=v0)->aB H' aK 1 p v0 xB->Nw H0 M xB->Q (.exit 0) σ' H') (q1: ∀(p:Int×Int) (σ':Nat->PV) (H':AH),o= .inr (p)->Fr D6 aH σ'->HF M H0 H'->(σ' 2=(.int .i64 p.1)/\σ' 3=(.int .i64 p.2))->Q .ret σ' H'),W Tryz.prog (.loop RL) Q σ H:=by
 intro k
 induction k with
 |zero=>intro Ao zH M au oQ kZ fD aH σ H0 H f0 hf0 sl uD yj o h Q q0 q1;simp only [jJ,reduceCtorEq]at h
 |succ k ih=>
  intro Ao zH M au oQ kZ fD aH σ H0 H f0 hf0 sl uD yj o h Q q0 q1;obtain⟨s0,s5,s26,s27⟩:=sl;have hle0:=hf0.1;unfold jJ at h;refine bB (fun K hK=>aI ?_);unfold RL;obtain⟨e8,h⟩|⟨e8,h⟩:=aJ h
  ·obtain⟨mH,e9,h⟩:=aj h;refine dD ?_;refine FI (afF e9) (.cons (jV Nd.pu _ _) (gB (.cons (aB.fz gV (by repeat (first|exact uD|apply aB.new|refine aB.put ?_ (fun hm=>by have:=aB.lt uD _ hm;omega)))) .nil))) (.cons (bK Nd.pu _) (.cons (.int _ _) (.cons (bK gV _) .nil))) (.int _ _) ?_;obtain⟨e11,h⟩|⟨e11,h⟩:=aJ h
   ·cases h;refine dD ?_;exact q1 _ _ _ rfl bG yH aC
   ·obtain⟨e12,h⟩:=aX h;refine dD ?_;refine JU (f:=aK) (v:=Ao) tJ oQ ([0]:List Int) .exact aC (by repeat (first|exact uD|apply aB.new|refine aB.put ?_ (fun hm=>by have:=aB.lt uD _ hm;omega))) aC (by decide) (by simp only [I0,j0];exact e12) (fun v13 aCU H15 r16 ayW ayX ah2=> ?_);have le:=ayX.1;try simp only [AH.aN,AH.aO,AH.aS,AH.aT]at le
    obtain⟨yY,e20,h⟩:=aj h;refine dD ?_;refine FI (akO e20) (.cons (jV Nd.pu _ _) (gB (.cons (aB.fz gV (by repeat (first|exact r16|apply aB.new|refine aB.put ?_ (fun hm=>by have:=aB.lt r16 _ hm;omega)))) .nil))) (.cons (bK Nd.pu _) (.cons (.int _ _) (.cons (bK gV _) .nil))) (.int _ _) ?_;obtain⟨e22,h⟩:=aX h;obtain⟨x23,e24,h⟩:=aj h;obtain⟨w25,w26,ayY,hil,w27,hC,hL,hD,hI⟩:=aB.content r16 e24;have w28:=ne_next hil;have w29:=bA hil;have w30:jS 1 v13 (.int .i64 fD)=some (.ref w25 (fD.toNat)):=by simpa using hI .i64 fD (by first|omega|decide) (by first|rfl|omega)
    have aK8:w26[fD.toNat]? =some (.int .i64 x23):=by simpa using hC 0 _ rfl
    clear hC hL hD hI;refine dD ?_;refine qd (f:=aK) (id:=w25) (o:=fD.toNat) (i:=fD.toNat) (j:=0) (a:=x23) (y:=yY) (vs:=[(.int .i64 yY)]) aC ayY (by omega) (by repeat (first|exact r16|apply aB.new|refine aB.put ?_ (fun hm=>by have:=aB.lt r16 _ hm;omega))) e24 aC rfl rfl (by first|decide|(simp only [I0,j0];omega)) rfl (fun H33 r34 ayZ aL1=> ?_);have le:=ayZ.1;try simp only [AH.aN,AH.aO,AH.aS,AH.aT]at le
    refine dD ?_;refine hK _ _ ?_;exact ih v13 aCU M au ((oQ++[0]).set fD.toNat yY) kZ (IntKind.wrap .i64 (fD+1)) _ _ _ _ bG (by repeat (first|exact hf0|refine HF.new ?_|refine HF.Ry ?_|refine HF.used ?_|refine HF.put (by first|(right;omega)|(left;simp only [M1,w8,q7])) ?_|refine HF.via ayX yj ?_|refine HF.via ayZ (Nw.trans yj aY ayW) ?_)) aC (by repeat (first|exact r34|apply aB.new|refine aB.put ?_ (fun hm=>by have:=aB.lt r34 _ hm;omega))) (Nw.trans yj aY ayW) _ h _ q0 q1
  ·cases h;refine dD ?_;exact q0 _ Ao zH _ _ rfl bG yH aC (by repeat (first|exact uD|apply aB.new|refine aB.put ?_ (fun hm=>by have:=aB.lt uD _ hm;omega))) yj
def jK:Nat->(List Nd)->(List Int)->(List Int)->Int->Int->Option (Unit⊕(Int×Int))
 |0,_,_,_,_,_=>none
 |k+1,au,Pn,zI,Po,KG=>
  cond (decide (KG<Po)) ((EN k au KG Pn zI).bind fun p54=>cond p54 (some (.inr ((KG,30)))) (jK k au Pn zI Po (IntKind.wrap .i64 (KG+1)))) (some (.inl ()))
def D7:List Nat:=[2,3,11]++List.range' 59 10
theorem Us: ∀(k:Nat) (au:List Nd) (Pn:List Int) (zI:List Int) (Po:Int) (KG:Int) (aH σ:Nat->PV) (H:AH) (f0:Fr D7 aH σ) (sl:σ 0=(.ah (au.map Nd.cells) .unk)/\σ 9=(.ah (Pn.map aK) .unk)/\σ 10=(.ah (zI.map aK) .unk)/\σ 58=(.int .i64 Po)/\σ 59=(.int .i64 KG)) (o:Unit⊕(Int×Int)) (h:jK k au Pn zI Po KG=some o) (Q:Post) (q0: ∀(p:Unit) (σ':Nat->PV),o= .inl p->Fr D7 aH σ'->Q (.exit 2) σ' H) (q1: ∀(p:Int×Int) (σ':Nat->PV),o= .inr (p)->Fr D7 aH σ'->(σ' 2=(.int .i64 p.1)/\σ' 3=(.int .i64 p.2))->Q .ret σ' H),W Tryz.prog (.loop RN) Q σ H:=by
 intro k
 induction k with
 |zero=>intro au Pn zI Po KG aH σ H f0 sl o h Q q0 q1;simp only [jK,reduceCtorEq]at h
 |succ k ih=>
  intro au Pn zI Po KG aH σ H f0 sl o h Q q0 q1;obtain⟨s0,s9,s10,s58,s59⟩:=sl;unfold jK at h;refine bB (fun K hK=>aI ?_);unfold RN;obtain⟨e52,h⟩|⟨e52,h⟩:=aJ h
  ·obtain⟨p54,e53,h⟩:=aj h;refine dD ?_;refine av (aiU e53) ?_;obtain⟨e55,h⟩|⟨e55,h⟩:=aJ h
   ·cases h;refine dD ?_;exact q1 _ _ rfl bG aC
   ·refine dD ?_;refine hK _ _ ?_;exact ih au Pn zI Po (IntKind.wrap .i64 (KG+1)) _ _ _ bG aC _ h _ q0 q1
  ·cases h;refine dD ?_;exact q0 _ _ rfl bG
def iA (k:Nat) (au:List Nd):Option (Int×Int):=
 (oJ ((au.length:Int)==0) 1).bind fun p2=>(oJ (decide ((au.length:Int)>160)) 2).bind fun p4=>(gJ k [p2,p4]).bind fun p6=>cond (p6 !=0) (some (0,p6)) (Option.bind (jJ k au ([]:List Int) (au.length:Int) 0) (fun o=>Sum.elim (fun p40=>(zy k au).bind fun p51=>Option.bind (jK k au p51.1 p51.2 (au.length:Int) 0) (fun o=>Sum.elim (fun p58=>if 0<=(IntKind.wrap .i64 ((au.length:Int) -1))then (p40[(IntKind.wrap .i64 ((au.length:Int) -1)).toNat]?).bind fun x65=>cond (x65 !=0) (some ((IntKind.wrap .i64 ((au.length:Int) -1)),15)) (some (0,0))else none) (fun p74=>some (p74.1,p74.2)) o)) (fun yK=>some (yK.1,yK.2)) o))
theorem Nn {k:Nat} {au:List Nd} {c0:Ck} {r:Int×Int} (h:iA k au=some r):aG Tryz.prog 119 [(.ah (au.map Nd.cells) c0)] (.dn [(.int .i64 r.1),(.int .i64 r.2)]):=by
 refine aG.lw (.ah .nil) (aG.bX (dJ.mem (.cons (bK Nd.pu _) .nil)) (aL aA5 (by simp) (aI ?_)) (.dn _ (dJ.mem (.cons (.int _ _) (.cons (.int _ _) .nil)))));unfold iA at h;unfold apP;obtain⟨p2,e1,h⟩:=aj h;refine dD ?_;refine av (wO e1) ?_;obtain⟨p4,e3,h⟩:=aj h;refine dD ?_;refine av (wO e3) ?_;obtain⟨p6,e5,h⟩:=aj h;refine dD ?_;refine av (oK e5) ?_;obtain⟨e7,h⟩|⟨e7,h⟩:=aJ h
 ·cases h;refine dD ?_;exact(oh (gB (gB .nil)))
 ·refine dD ?_;obtain⟨o38,h39,h⟩:=aj h;refine Ur k (.ah [] .nil) [] ([]++[]) au ([]:List Int) (au.length:Int) 0 _ _ _ _ (Fr.refl _ _) (HF.refl _ _) aC (by repeat (first|exact aB.nil|apply aB.new|refine aB.put ?_ (fun hm=>by have:=aB.lt aB.nil _ hm;omega))) (fun i hi=>Or.inl (by simp only [P2,M1,hi,w8,q7])) _ h39 _ ?_ ?_
  ·rintro p40 v44 aK9 σ' H43 eo aGK ay0 s48 r46 aL2;subst eo;rw [eH]at h;have s49:σ' 0=(.ah (au.map Nd.cells) .unk):=(aGK 0 (by decide)).trans aC;have le:=ay0.1;try simp only [AH.aN,AH.aO,AH.aS,AH.aT]at le
   obtain⟨p51,e50,h⟩:=aj h;refine dD ?_;refine av (afC e50) ?_;refine dD ?_;obtain⟨o56,h57,h⟩:=aj h;refine Us k au p51.1 p51.2 (au.length:Int) 0 _ _ _ (Fr.refl _ _) aC _ h57 _ ?_ ?_
   ·rintro p58 σ' eo Ut;subst eo;rw [eH]at h;have s62:σ' 5=v44:=(Ut 5 (by decide)).trans aC;have s63:σ' 8=(.int .i64 (IntKind.wrap .i64 ((au.length:Int) -1))):=(Ut 8 (by decide)).trans aC;obtain⟨e64,h⟩:=aX h;obtain⟨x65,e66,h⟩:=aj h;obtain⟨w67,w68,aJo,hil,w69,hC,hL,hD,hI⟩:=aB.content r46 e66;have w70:=ne_next hil;have w71:=bA hil;have w72:jS 1 v44 (.int .i64 (IntKind.wrap .i64 ((au.length:Int) -1)))=some (.ref w67 ((IntKind.wrap .i64 ((au.length:Int) -1)).toNat)):=by simpa using hI .i64 (IntKind.wrap .i64 ((au.length:Int) -1)) (by first|omega|decide) (by first|rfl|omega)
    have aLa:w68[(IntKind.wrap .i64 ((au.length:Int) -1)).toNat]? =some (.int .i64 x65):=by simpa using hC 0 _ rfl
    clear hC hL hD hI;obtain⟨e73,h⟩|⟨e73,h⟩:=aJ h
    ·cases h;refine dD ?_;exact(oh (gB (gB .nil)))
    ·cases h;refine dD ?_;exact(oh (gB (gB .nil)))
   ·rintro p74 σ' eo aL3 ⟨s78,s79⟩;subst eo;rw [fP]at h;cases h;refine dD ?_;exact(oh (gB (gB .nil)))
  ·rintro yK σ' H83 eo aGr aoc ⟨s84,s85⟩;subst eo;rw [fP]at h;have le:=aoc.1;try simp only [AH.aN,AH.aO,AH.aS,AH.aT]at le
   cases h;refine dD ?_;exact(oh (gB (gB .nil)))
instance avf (k:Nat) (au:List Nd):bY Tryz.prog 119 [(.ah (au.map Nd.cells) .unk)] (iA k au) (fun r=>(.dn [(.int .i64 r.1),(.int .i64 r.2)])):=⟨fun _ h=>Nn h⟩
def qp (k:Nat) (au:List Nd):Option Int:=
 (iA k au).bind fun p2=>some p2.2
instance afG (k:Nat) (au:List Nd):bY Tryz.prog 186 [(.ah (au.map Nd.cells) .unk)] (qp k au) (fun r=>(.int .i64 r)):=bM aBx (by unfold qp aqg;exact bE)
theorem QV {k:Nat} {au:List Nd} {c0:Ck} {r:Int} (h:qp k au=some r):aG Tryz.prog 186 [(.ah (au.map Nd.cells) c0)] (.int .i64 r):=((afG _ _).c _ h).wk (.ah .nil)
end Go.VL
end
section
namespace Go.VL
theorem aus (s p:Str):lC s p=some (decide (p.length<=s.length)&&decide (s.take p.length=p)):=by
 unfold lC yM;by_cases h:p.length<=s.length
 · have h':(s.length:Int)>=(p.length:Int):=by omega
   simp only [h,h',D4,S1,A0,W0,C1,Le]
 · have h': ¬(s.length:Int)>=(p.length:Int):=by omega
   simp only [h,h',L4,O2,W0,O3]
theorem aCV (s:Str) (a b c:UInt8):lC s [a,b,c]=some (decide (s.take 3=[a,b,c])):=by
 rw [aus];congr 1;show(decide (3<=s.length)&&decide (s.take 3=[a,b,c]))=_
 by_cases h:s.take 3=[a,b,c]
 · have:=congrArg List.length h;rw [P3]at this;have h3:3<=s.length:=by simp at this;omega
   simp [h,h3]
 · simp [h]
theorem aon (s:Str):decide (s∈KD)=(decide (s∈QM)||vV s):=by
 have h1:KD=QM++[[66,79,79,76,69,65,78],[83,84,82,73,78,71]]:=by kernel_rfl
 have h2:([84,82,85,69]:Str)∈QM:=by decide+kernel
 have h3:([70,65,76,83,69]:Str)∈QM:=by decide+kernel
 rw [h1];unfold vV;by_cases a:s=[84,82,85,69]
 · subst a;simp [h2]
 by_cases b:s=[70,65,76,83,69]
 · subst b;simp [h3]
 by_cases c:s∈QM<;>simp [a,b,c]
theorem aoo:KD.length=52:=by kernel_rfl
theorem ai2 (s:Str):(vM s).length=s.length:=by simp [vM]
theorem ai3 (s:Str) {i:Nat} (h:i<s.length):(vM s)[i]? =some (s[i].toNat:Int):=by simp [vM,h]
theorem ar4 (c:UInt8):IntKind.wrap .i64 (c.toNat:Int)=(c.toNat:Int):=by have:=c.toNat_lt;exact wrap64 (by omega) (by omega)
def Pp (s:Str):Nat:=s.countP isLet
theorem aop (s:Str):decide ((Pp s:Int)>0)=s.any isLet:=by
 unfold Pp
 induction s with
 |nil=>rfl
 |cons c l ih=>
  rw [List.countP_cons,b8];by_cases h:isLet c=true
  · simp only [h,A0,S8,B2];omega
  · rw [if_neg h,S4,ih];simp [h]
theorem Yp (c:UInt8):((gX (c.toNat:Int) 97 122).bind fun p26=>Bo (c.toNat:Int) p26)=some (isLet c):=by
 unfold Bo;simp only [um,W0,ar4];unfold isLet;have e1:((97:Int)<=(c.toNat:Int)/\(c.toNat:Int)<=122)=(97<=c.toNat/\c.toNat<=122):=by rw [j9];omega
 have e2:((65:Int)<=(c.toNat:Int)/\(c.toNat:Int)<=90)=(65<=c.toNat/\c.toNat<=90):=by rw [j9];omega
 simp only [e1,e2];cases decide (97<=c.toNat/\c.toNat<=122)<;>rfl
theorem Bq (s:Str):Ev (fun k=>uZ k s) (rName s):=by
 unfold uZ Fe;simp only [um,W0,aCV];by_cases h1:1<=s.length/\s.length<=24
 · have e1:(decide ((1:Int)<=(s.length:Int)/\(s.length:Int)<=24))=true:=g0 (by omega);simp only [e1,y6,O2];refine Ev.bind (x:=Zp s||decide (s∈KD)) ?_ ?_
   · unfold Zp;cases decide (s.take 3=[87,70,95])
     · cases decide (s.take 3=[83,70,95])
       · exact Ev.bind (tK _ _ (by rw [aoo];omega)) (Ev.some' (by simp only [Q4]))
       · exact Ev.some
     · exact Ev.some
   · have hspec:rName s=(!(Zp s||decide (s∈KD))&&s.all sI&&s.any isLet):=by
      rw [aon];unfold rName bName;simp only [h1,C7,D4,C1];cases decide (s∈QM)<;>cases vV s<;>cases Zp s<;>cases s.all sI<;>cases s.any isLet<;>rfl
     rw [hspec];cases(Zp s||decide (s∈KD))
     · simp only [O2,C6,C1];have hb:s.length<=1099511627776:=by omega
       have key: ∀m:Nat,m<=0->Ev (fun k=>lK k (m:Int) (vM s) (s.length:Int) ((0:Nat):Int)) (if(s.drop 0).all sI=true then .inl ((m+Pp (s.drop 0):Nat):Int)else .inr false):=by
        refine eO (len:=s.length) (p:=fun i=> ∀m:Nat,m<=i->Ev (fun k=>lK k (m:Int) (vM s) (s.length:Int) (i:Int)) (if(s.drop i).all sI=true then .inl ((m+Pp (s.drop i):Nat):Int)else .inr false)) ?_ fun i hi ih m hm=> ?_
        · intro m hm;refine Ev.succ ?_;simp only [lK];exact Ev.cF (eD _) (Ev.some' (by simp only [wA,List.all_nil,A0,Pp,List.countP_nil,S4]))
        · refine Ev.succ ?_;have hp1:=Yp s[i];simp only [um,W0]at hp1;simp only [lK,V0,ai3 s hi,W0,nn,A0,fC hi,S1,bW hi hb,um,ar4];refine Ev.iG hp1 ?_;have hcount:Pp (s.drop i)=(if isLet s[i]=true then 1 else 0)+Pp (s.drop (i+1)):=by
           unfold Pp;rw [drop_cons hi,List.countP_cons,d7]
          rw [hcount];have hall:(s.drop i).all sI=(sI s[i]&&(s.drop (i+1)).all sI):=by rw [drop_cons hi,N5]
          rw [hall];by_cases h2:isLet s[i]=true
          · have hc:sI s[i]=true:=by unfold sI;rw [h2];rfl
            refine Ev.cT h2 ?_;rw [bW (i:=m) (n:=i+1) (by omega) (by omega)];refine(ih (m+1) (by omega)).to ?_;simp only [hc,h2,A0,C1,G4]
          · have h2':isLet s[i]=false:=by simpa using h2
            refine Ev.cF h2' ?_;simp only [h2',I2,L2,V1];have e3:((48:Int)<=(s[i].toNat:Int)/\(s[i].toNat:Int)<=57)=(48<=s[i].toNat/\s[i].toNat<=57):=by rw [j9];omega
            by_cases h3:48<=s[i].toNat/\s[i].toNat<=57
            · have hc:sI s[i]=true:=by unfold sI GU;simp [h3]
              refine Ev.cT (g0 (e3▸h3)) ((ih m (by omega)).to ?_);simp only [hc,C1]
            · refine Ev.cF (B0 (e3▸h3)) ?_;by_cases h4:s[i].toNat=95
              · have hc:sI s[i]=true:=by unfold sI;simp [h4]
                refine Ev.cF (by rw [h4];rfl) ((ih m (by omega)).to ?_);simp only [hc,C1]
              · have hc:sI s[i]=false:=by unfold sI GU;rw [h2'];simp [h4];omega
                refine Ev.cT (by rw [S5];omega) (Ev.some' ?_);simp only [hc,O3,I2,L2]
       have ay2:=key 0 (R0 _);rw [P1,V1]at ay2;simp only [ai2];refine Ev.bind ay2 ?_;by_cases h3:s.all sI=true
       · simp only [h3,A0,eH,C1];exact Ev.some' (aop s)
       · simp only [h3,L2,fP];exact Ev.some' (by simp [h3])
     · exact Ev.some
 · have e1:(decide ((1:Int)<=(s.length:Int)/\(s.length:Int)<=24))=false:=B0 (by omega);simp only [e1,C6,S1,W0];exact Ev.some' (by simp [rName,bName,h1])
theorem VQ (s:Str):(Lib.indexByte s 33= -1/\bang s=none)\/ ∃i:Nat,Lib.indexByte s 33=(i:Int)/\i<s.length/\bang s=some (s.take i,s.drop (i+1)):=by
 induction s with
 |nil=>exact .inl ⟨rfl,rfl⟩
 |cons c l ih=>
  by_cases h:c=33
  · subst h;exact .inr ⟨0,rfl,by simp,by simp [bang]⟩
  · have hc:(c==33)=false:=O0.2 h;rcases ih with⟨h1,h2⟩|⟨i,h1,h2,h3⟩
    · exact .inl ⟨by simp [Lib.indexByte,hc,h1],by simp [bang,h,h2]⟩
    · refine .inr ⟨i+1,?_,by simp;omega,by simp [bang,h,h3]⟩;have:((i:Int)== -1)=false:=by rw [O0];omega
      simp [Lib.indexByte,hc,h1,this]
theorem Pq {s:Str} (h:rName s=true):s.length<=24:=by
 unfold rName bName at h;simp only [z1,B2]at h;exact h.1.1.1.1.1.2
theorem Np (s:Str) (hb:s.length<=1000000):Ev (fun k=>xD k s) (kH s):=by
 unfold xD anE;by_cases hl:s.length<=49
 · refine Ev.cF (B0 (by omega)) ?_;unfold kH;rcases VQ s with⟨h1,h2⟩|⟨i,h1,h2,h3⟩
   · simp only [h1,h2,W0];refine Ev.cF (by decide) (Ev.bind (Bq s) ?_);cases rName s<;>exact Ev.some
   · simp only [h1,h3,W0];refine Ev.cT (g0 (by omega)) (Ev.jv ⟨by omega,by omega⟩ ?_);rw [bW h2 (by omega)];refine Ev.jv ⟨by omega,by omega⟩ (Ev.bind (Bq _) ?_);simp only [V0];cases rName (s.take i)
     · exact Ev.some
     · simp only [S1,C1];exact Ev.bind (Bq _) Ev.some
 · refine Ev.cT (g0 (by omega)) (Ev.some' ?_);unfold kH;rcases VQ s with⟨h1,h2⟩|⟨i,h1,h2,h3⟩
   · simp only [h2];cases h:rName s
     · rfl
     · exact absurd (Pq h) (by omega)
   · simp only [h3];cases h:rName (s.take i)
     · rfl
     · cases h':rName (s.drop (i+1))
       · rfl
       · have a:=Pq h;have b:=Pq h';rw [P3]at a;rw [E4]at b;omega
theorem afH (s:Str):zn s=some (zl s):=by
 unfold zn zl;have h:(!aiP s)=s.all OW:=by
  unfold aiP
  induction s with
  |nil=>rfl
  |cons c l ih=>
   rw [b8,N5,Bool.not_or,ih];congr 1;unfold Um OW;generalize c.toNat=n;by_cases h1:32<=n<;>by_cases h2:n<=126<;>by_cases h3:n=34<;>by_cases h4:n=92<;>simp [h1,h2,h3,h4]
 rw [h];by_cases hl:s.length<=40
 · have:(s.length:Int)<=40:=by omega
   simp [hl,this]
 · have: ¬(s.length:Int)<=40:=by omega
   simp [hl,this]
theorem Pt {l:List Operator} {t:Str} (h: ¬t∈l.map (·.text)):dF l t=(Ld,false):=by
 induction l with
 |nil=>rfl
 |cons o l ih=>
  simp only [M3,M1,not_or]at h;rw [dF,if_neg (fun e=>h.1 e.symm),ih h.2]
theorem aGL (t:Str):dF qU t=dF dW t:=by
 have h1:((qU.map (·.text)).all fun t=>decide (dF qU t=dF dW t))=true:=by kernel_rfl
 have h2:((dW.map (·.text)).all fun t=>decide (t∈qU.map (·.text)))=true:=by kernel_rfl
 by_cases h:t∈qU.map (·.text)
 · exact W5 (S3.1 h1 t h)
 · rw [Pt h,Pt (fun h'=>h (W5 (S3.1 h2 t h')))]
theorem aoq:qU.length=42:=by kernel_rfl
theorem yN (t:Str):Ev (fun k=>nI k t) (dF dW t):=by
 rw [<-aGL];have hl:qU.length<=1099511627776:=by rw [aoq];omega
 have key: ∃o:Unit⊕Int,Ev (fun k=>bf k qU t (qU.length:Int) ((0:Nat):Int)) o/\((o= .inl ()/\dF (qU.drop 0) t=(Ld,false))\/ ∃(j:Nat) (x:Operator),o= .inr (j:Int)/\qU[j]? =some x/\dF (qU.drop 0) t=(x,true)):=by
  refine eO (len:=qU.length) (p:=fun i=> ∃o:Unit⊕Int,Ev (fun k=>bf k qU t (qU.length:Int) (i:Int)) o/\((o= .inl ()/\dF (qU.drop i) t=(Ld,false))\/ ∃(j:Nat) (x:Operator),o= .inr (j:Int)/\qU[j]? =some x/\dF (qU.drop i) t=(x,true))) ?_ fun i hi ⟨o,ih,ho⟩=> ?_
  · refine⟨.inl (),Ev.succ ?_,.inl ⟨rfl,by simp [dF]⟩⟩;simp only [bf];exact Ev.cF (eD _) Ev.some
  · by_cases h:qU[i].text=t
    · refine⟨.inr (i:Int),Ev.succ ?_,.inr ⟨i,qU[i],rfl,aP hi,by rw [drop_cons hi,dF,if_pos h]⟩⟩;simp only [bf,vS,V0,aP hi,W0,nn,A0,fC hi,S1,bW hi hl];exact Ev.cT (by rw [E3];exact h) Ev.some
    · refine⟨o,Ev.succ ?_,by rw [drop_cons hi,dF,if_neg h];exact ho⟩;simp only [bf,vS,V0,aP hi,W0,nn,A0,fC hi,S1,bW hi hl];exact Ev.cF (by rw [O0];exact h) ih
 obtain⟨o,h1,h2⟩:=key;rw [P1]at h2;unfold nI dL;rcases h2 with⟨rfl,h2⟩|⟨j,x,rfl,h3,h2⟩
 · refine Ev.bind (x:= -1) (Ev.bind h1 Ev.some) ?_;rw [h2];exact Ev.cT (by decide) Ev.some
 · refine Ev.bind (x:=(j:Int)) (Ev.bind h1 Ev.some) ?_;rw [h2];simp only [V0,h3,W0,nn,A0];exact Ev.cF (B0 (by omega)) Ev.some
def Ll:List Int->Int
 |[]=>0
 |a::l=>if a=0 then Ll l else a
theorem Ap (l:List Int) (hl:l.length<=1099511627776):Ev (fun k=>gJ k l) (Ll l):=by
 have key:Ev (fun k=>jN k l (l.length:Int) ((0:Nat):Int)) (if Ll (l.drop 0)=0 then .inl ()else .inr (Ll (l.drop 0))):=by
  refine eO (len:=l.length) (p:=fun i=>Ev (fun k=>jN k l (l.length:Int) (i:Int)) (if Ll (l.drop i)=0 then .inl ()else .inr (Ll (l.drop i)))) ?_ fun i hi ih=> ?_
  · refine Ev.succ ?_;simp only [jN];exact Ev.cF (eD _) (Ev.some' (by simp [Ll]))
  · refine Ev.succ ?_;simp only [jN,V0,aP hi,W0,nn,A0,fC hi,S1,bW hi hl];rw [drop_cons hi,Ll];by_cases h:l[i]=0
    · refine Ev.cF (by rw [h];rfl) (ih.to ?_);simp only [h,A0]
    · refine Ev.cT (by rw [S5];exact h) (Ev.some' ?_);simp only [h,L2]
 unfold gJ;refine Ev.bind key ?_;rw [P1];by_cases h:Ll l=0
 · simp only [h,A0,eH];exact Ev.some
 · simp only [h,L2,fP];exact Ev.some
theorem afI (l:List Str) (hl:l.length<=1099511627776):Ev (fun k=>fT k l) (!l.all rName):=by
 have key: ∃o:Unit⊕Int,Ev (fun k=>bU k l (l.length:Int) ((0:Nat):Int)) o/\((o= .inl ()/\(l.drop 0).all rName=true)\/(∃j:Nat,o= .inr (j:Int))/\(l.drop 0).all rName=false):=by
  refine eO (len:=l.length) (p:=fun i=> ∃o:Unit⊕Int,Ev (fun k=>bU k l (l.length:Int) (i:Int)) o/\((o= .inl ()/\(l.drop i).all rName=true)\/(∃j:Nat,o= .inr (j:Int))/\(l.drop i).all rName=false)) ?_ fun i hi ⟨o,ih,ho⟩=> ?_
  · refine⟨.inl (),Ev.succ ?_,.inl ⟨rfl,by simp⟩⟩;simp only [bU];exact Ev.cF (eD _) Ev.some
  · have hn:Ev (fun k=>zC k l[i]) (!rName l[i]):=by unfold zC;exact Ev.bind (Bq _) Ev.some
    by_cases h:rName l[i]=true
    · refine⟨o,Ev.succ ?_,by rw [drop_cons hi,N5,h,C1];exact ho⟩;simp only [bU,V0,aP hi,W0,nn,A0,fC hi,S1,bW hi hl];exact Ev.bind hn (Ev.cF (by rw [h];rfl) ih)
    · have h:rName l[i]=false:=by simpa using h
      refine⟨.inr (i:Int),Ev.succ ?_,.inr ⟨⟨i,rfl⟩,by rw [drop_cons hi,N5,h,O3]⟩⟩;simp only [bU,V0,aP hi,W0,nn,A0,fC hi,S1,bW hi hl];exact Ev.bind hn (Ev.cT (by rw [h];rfl) Ev.some)
 obtain⟨o,h1,h2⟩:=key;rw [P1]at h2;unfold fT;rcases h2 with⟨rfl,h2⟩|⟨⟨j,rfl⟩,h2⟩
 · refine Ev.bind (x:= -1) (by unfold iF;exact Ev.bind h1 Ev.some) (Ev.some' ?_);rw [h2];rfl
 · refine Ev.bind (x:=(j:Int)) (by unfold iF;exact Ev.bind h1 Ev.some) (Ev.some' ?_);rw [h2];simp
theorem aor (a b:Int) (c:Str) (l:List Str) (d:List Int) (hl:l.length<=1099511627776):Ev (fun k=>kP k a b c l d false l (l.length:Int) 0) (vW [] l):=by
 have key: ∀x:Bool,Ev (fun k=>kP k a b c l d x l (l.length:Int) ((0:Nat):Int)) (x||vW (l.take 0) (l.drop 0)):=by
  refine eO (len:=l.length) (p:=fun i=> ∀x:Bool,Ev (fun k=>kP k a b c l d x l (l.length:Int) (i:Int)) (x||vW (l.take i) (l.drop i))) (fun x=> ?_) fun i hi ih x=> ?_
  · refine Ev.succ ?_;simp only [kP];exact Ev.cF (eD _) (Ev.some' (by simp [vW]))
  · refine Ev.succ ?_;have h2:i<=l.length:=by omega
    simp only [kP,V0,aP hi,W0,nn,A0,fC hi,S1,bW hi hl,T8,h2];rw [drop_cons hi,vW,<-M2 hi];cases x
    · refine Ev.cF rfl (Ev.bind (tK _ _ (by rw [P3];omega)) ?_);simp only [Q4];exact ih _
    · exact Ev.cT rfl ((ih true).to (by simp))
 exact key false
def ac5 (n:Nd):Bool:= !(n.names.all rName)||(decide (n.kind=2)&& !vV n.text&& !kH n.text)||(decide (n.kind=3)&& !(dF dW n.text).2&& !kH n.text)||(decide (n.kind=18)&& !rName n.text)
def arT (n:Nd):Bool:=decide (n.kind=3)&&(dF dW n.text).2&& !gy (n.args.length:Int) (dF dW n.text).1.least (dF dW n.text).1.most
def Lm (n:Nd):Int:=if ac5 n=true then 7 else if arT n=true then 17 else if vW [] n.names=true then 12 else 0
theorem aaF (n:Nd) (h1:n.text.length<=1000000) (h2:n.names.length<=1000000):Ev (fun k=>pU k n) (Lm n):=by
 unfold pU;refine Ev.bind (afI _ (by omega)) (Ev.bind (yN _) (Ev.bind (x:=(ac5 n,arT n)) ?_ ?_))
 · unfold BJ ac5 arT gy;by_cases a:n.kind=2
   · simp only [a];refine Ev.cT rfl (Ev.bind (x:= !(n.names.all rName)||(!vV n.text&& !kH n.text)) ?_ (Ev.some' (by simp)));unfold BF;cases n.names.all rName
     · exact Ev.some
     · refine Ev.cF rfl ?_;simp only [OV,W0];cases vV n.text
       · exact Ev.bind (Np _ h1) (Ev.some' (by simp))
       · exact Ev.some
   by_cases b:n.kind=3
   · simp only [b];refine Ev.cF rfl (Ev.cT rfl (Ev.bind (x:= !(n.names.all rName)||(!(dF dW n.text).2&& !kH n.text)) ?_ ?_))
     · unfold BG;cases n.names.all rName
       · exact Ev.some
       · refine Ev.cF rfl ?_;cases(dF dW n.text).2
         · exact Ev.bind (Np _ h1) (Ev.some' (by simp))
         · exact Ev.some
     · unfold BH;simp only [um,W0];cases(dF dW n.text).2
       · exact Ev.some' (by simp)
       · exact Ev.some' (by simp)
   by_cases c:n.kind=18
   · simp only [c];refine Ev.cF rfl (Ev.cF rfl (Ev.cT rfl (Ev.bind (x:= !(n.names.all rName)|| !rName n.text) ?_ (Ev.some' (by simp)))));unfold BI;cases n.names.all rName
     · exact Ev.some
     · exact Ev.cF rfl (Ev.bind (Bq _) (Ev.some' (by simp)))
   · refine Ev.cF (O0.2 a) (Ev.cF (O0.2 b) (Ev.cF (O0.2 c) (Ev.some' ?_)));simp [a,b,c]
 · refine Ev.bind (aor _ _ _ n.names _ (by omega)) ?_;simp only [uo,W0];refine Ev.bind (Ap _ (by simp)) (Ev.some' ?_);unfold Lm;cases ac5 n<;>cases arT n<;>cases vW [] n.names<;>rfl
def FW (n:Nd):Shape:=
 if n.kind=0 then Shape.mk (0,0) (0,0) false true else
 if n.kind=1\/n.kind=2 then Shape.mk (0,0) (0,0) true false else
 if n.kind=3 then(if(dF dW n.text).2=true then Shape.mk (0,0) ((n.args.length:Int),(n.args.length:Int)) true false else Shape.mk (0,0) (1,4) true false)else
 if n.kind=4\/n.kind=5 then Shape.mk (0,0) (0,30) false false else
 if n.kind=6\/n.kind=12 then Shape.mk (1,1) (2,2) false false else
 if n.kind=7\/n.kind=8\/n.kind=9\/n.kind=13 then Shape.mk (1,4) ((n.names.length:Int)+1,(n.names.length:Int)+1) false false else
 if n.kind=10\/n.kind=11 then Shape.mk (1,4) (1,1) false false else
 if n.kind=14 then Shape.mk (0,0) (2,5) false false else
 if n.kind=16\/n.kind=17 then Shape.mk (1,30) ((n.names.length:Int),(n.names.length:Int)) false false else
 if n.kind=18 then Shape.mk (0,0) (1,1) true false else
 if n.kind=19\/n.kind=21 then Shape.mk (0,0) (3,3) false false else
 if n.kind=20 then Shape.mk (0,0) (0,0) false false else
 if n.kind=22 then Shape.mk (0,0) (2,30) false false else
 if n.kind=23 then Shape.mk (1,5) (2,2) false true else
 if n.kind=24 then Shape.mk (1,4) (1,1) false false else Shape.mk (0,0) (2,2) false false
theorem kinds {k:Int} (h:gy k 0 28=true):k=0\/k=1\/k=2\/k=3\/k=4\/k=5\/k=6\/k=7\/k=8\/k=9\/k=10\/k=11\/k=12\/k=13\/k=14\/k=15\/k=16\/k=17\/k=18\/k=19\/k=20\/k=21\/k=22\/k=23\/k=24\/k=25\/k=26\/k=27\/k=28:=by
 unfold gy at h;rw [B2]at h;omega
theorem ac7 (n:Nd) (hk:gy n.kind 0 28=true) (h2:n.names.length<=1000000):Ev (fun k=>zB k n) (FW n):=by
 have hw:IntKind.wrap .i64 ((n.names.length:Int)+1)=(n.names.length:Int)+1:=wrap64 (by omega) (by omega);rcases kinds hk with h|h|h|h|h|h|h|h|h|h|h|h|h|h|h|h|h|h|h|h|h|h|h|h|h|h|h|h|h
 case' inr.inr.inr.inl=>
  unfold zB zA FW;simp only [h];refine Ev.cF rfl ?_;refine Ev.cg (Ev.bind (yN n.text) (g:=fun k (AQ:Operator×Bool)=>cond AQ.2 (some (Shape.mk (0,0) ((n.args.length:Int),(n.args.length:Int)) true false)) (some (Shape.mk (0,0) (1,4) true false))) ?_) (fun k=>rfl);cases(dF dW n.text).2<;>exact Ev.some
 all_goals
  unfold zB zA DF DI DJ DL DN DR yg FW;simp only [h,hw];exact Ev.some
theorem ay3 (n:Nd) (hk:gy n.kind 0 28=true):(gy (n.names.length:Int) (FW n).names.1 (FW n).names.2&&gy (n.args.length:Int) (FW n).operands.1 (FW n).operands.2)=nM n:=by
 have d {a b:Int} (P:Prop) [Decidable P] (h:a=b) (x y:Int):gy a x y=gy b x y:=by rw [h]
 rcases kinds hk with h|h|h|h|h|h|h|h|h|h|h|h|h|h|h|h|h|h|h|h|h|h|h|h|h|h|h|h|h
 case' inr.inr.inr.inl=>
  unfold FW nM;simp only [h];cases(dF dW n.text).2
  · show(gy _ 0 0&&gy _ 1 4)=(gy _ 0 0&&gy _ 1 4)
    simp [iE,vP,xu]
  · show(gy _ 0 0&&gy _ _ _)=(gy _ 0 0&&gy _ 0 _)
    unfold gy;simp [iE,vP,xu]
 all_goals
  unfold FW nM;simp only [h];unfold gy;rw [Bool.eq_iff_iff];simp [iE,vP,xu,Dh,Di,Dk,Dl,Dm,Dn];try omega
def clT (n:Nd):Bool:=((FW n).text||decide (n.text=[]))&&((FW n).number||decide (n.n=0))&&(!decide (n.kind=1)||zl n.text)&&(!decide (n.kind=23)||gy n.n 0 1)
theorem ay4 (n:Nd) (hk:gy n.kind 0 28=true):clT n=qj n:=by
 rcases kinds hk with h|h|h|h|h|h|h|h|h|h|h|h|h|h|h|h|h|h|h|h|h|h|h|h|h|h|h|h|h
 case' inr.inr.inr.inl=>
  unfold clT qj FW;simp only [h];cases(dF dW n.text).2<;>simp
 all_goals
  unfold clT qj FW;simp only [h];simp [and_comm]
theorem alj (n:Nd):Lm n=if qF n≠0 then qF n else if vW [] n.names=true then 12 else 0:=by
 unfold Lm ac5 arT qF;cases n.names.all rName
 · simp
 by_cases a:n.kind=2
 · simp only [a];cases vV n.text<;>cases kH n.text<;>simp
 by_cases b:n.kind=3
 · simp only [b];cases(dF dW n.text).2<;>cases kH n.text<;>cases gy (n.args.length:Int) (dF dW n.text).1.least (dF dW n.text).1.most<;>simp
 by_cases c:n.kind=18
 · simp only [c];cases rName n.text<;>simp
 · simp [a,b,c]
theorem aGM {e:List Nd} {i:Nat} {acc:List Int} (h:sJ e i acc) (hi:i<=1000000) (l:List Int): ∀(m:Nat),m<=l.length-> ∀nx:Nat,nx<=i-> ∀tg:Bool,
 ∃z,qo m acc ((nx:Int) -1) tg l=some (if uq acc nx (l.take m).reverse=true then .inr (z,tg)else .inl (z,false)):=by
 intro m
 induction m with
 |zero=>intro _ nx _ tg;exact⟨(nx:Int) -1,by simp [qo,uq]⟩
 |succ m ih=>
  intro hm nx hnx tg;have hm':m<l.length:=by omega
  rw [qo,aP hm',W0,acQ hm',uq];by_cases h1:l[m]=(nx:Int) -1
  · rw [qc (by rw [h1];simp)];by_cases h2:nx<1
    · refine⟨(nx:Int) -1,?_⟩;rw [xR (g0 (by omega))];have: ¬(1:Int)<=nx:=by omega
      simp [this]
    · obtain⟨j,rfl⟩: ∃j,nx=j+1:=⟨nx -1,by omega⟩;have e2:(((j+1:Nat):Int) -1)=(j:Int):=by omega
      rw [e2]at h1⊢;obtain⟨n',b,h3,h4,h5,h6,_⟩:=h.at_ j (by omega);obtain⟨b,rfl⟩: ∃b':Nat,b=b':=⟨b.toNat,by omega⟩;obtain⟨z,hz⟩:=ih (by omega) b (by omega) tg;refine⟨z,?_⟩;rw [qc (B0 (by omega)),if_pos (by omega),V0,h4,W0,wrap64 (by omega) (by omega),hz];have e3:(1:Int)<=((j+1:Nat):Int):=by omega
      simp only [h1,e3,D4,C1,E2]
  · refine⟨(nx:Int) -1,?_⟩;rw [xR (by rw [S5];exact h1)];simp [h1]
theorem ac8 {e:List Nd} {i:Nat} {acc:List Int} (h:sJ e i acc) (hi:i<=1000000) {n:Nd} (hn:e[i]? =some n) (h1:n.text.length<=1000000) (h2:n.names.length<=1000000) (h3:n.args.length<=1000000):
 Ev (fun k=>FV k e (i:Int) acc) (bI (uq acc i n.args.reverse) n):=by
 unfold FV;simp only [V0,hn,W0,nn,A0,um,uo];unfold bI;by_cases hk:gy n.kind 0 28=true
 case neg=>exact Ev.to (Ev.cF (by simpa [gy]using hk) Ev.some) (if_pos (by simpa using hk)).symm
 refine Ev.to ?_ (if_neg (by simp [hk])).symm;refine Ev.cT hk (Ev.bind (ac7 n hk h2) (Ev.iG (x:= !nM n) ?_ ?_))
 · rw [<-ay3 n hk];unfold DU gy;simp only [um,W0];cases decide ((FW n).names.1<=(n.names.length:Int)/\(n.names.length:Int)<=(FW n).names.2)
   · rfl
   · rfl
 cases hs:nM n
 · exact Ev.some
 simp only [y6,O2,A7,L2];obtain⟨z,hz⟩:=aGM h hi n.args n.args.length (R0 _) i (R0 _) true;rw [z6]at hz;generalize uq acc (i:Int) n.args.reverse=pl at hz⊢;have hj:zF acc n.kind n.n n.text n.names n.args (IntKind.wrap .i64 ((i:Int) -1)) true=some (z,pl):=by
  unfold zF;rw [if_pos (by omega),wrap64 (by omega) (by omega),hz];cases pl<;>rfl
 refine Ev.iG hj (Ev.iG (x:=qj n) ?_ ?_)
 · rw [<-ay4 n hk];unfold D5 clT gy;simp only [afH,um,W0,Le,bne];have e1:((n.n==0):Bool)=decide (n.n=0):=by by_cases h:n.n=0<;>simp [h]
   have e2:((n.kind==1):Bool)=decide (n.kind=1):=by by_cases h:n.kind=1<;>simp [h]
   have e3:((n.kind==23):Bool)=decide (n.kind=23):=by by_cases h:n.kind=23<;>simp [h]
   simp only [e1,e2,e3];cases(FW n).text<;>cases(FW n).number<;>cases decide (n.text=[])<;>cases decide (n.n=0)<;>cases decide (n.kind=1)<;>cases zl n.text<;>cases decide (n.kind=23)<;>rfl
 have fin:Ev (fun k=>(pU k n).bind fun p=>(gJ k [if(!(pl&&qj n))=true then 5 else 0,if(!decide (n.kind=23)&& !gy n.n 0 10000)=true then 3 else 0,p]).bind fun q=>some q) (Ll [if(!(pl&&qj n))=true then 5 else 0,if(!decide (n.kind=23)&& !gy n.n 0 10000)=true then 3 else 0,Lm n]):=
  Ev.bind (aaF n h1 h2) (Ev.bind (Ap _ (by simp)) Ev.some)
 have hval:Ll [if(!(pl&&qj n))=true then 5 else 0,if(!decide (n.kind=23)&& !gy n.n 0 10000)=true then 3 else 0,Lm n]=
  if(pl&&qj n)=false then 5 else if(decide (n.kind=0)&& !gy n.n 0 10000)=true then 3 else if qF n≠0 then qF n else if vW [] n.names=true then 12 else 0:=by
  rw [<-alj];cases hpc:(pl&&qj n)
  · rfl
  · have hcl:qj n=true:=by revert hpc;cases pl<;>simp
    have hrg:(!decide (n.kind=23)&& !gy n.n 0 10000)=(decide (n.kind=0)&& !gy n.n 0 10000):=by
     unfold qj at hcl;simp only [z1]at hcl;have hx:=hcl.1.1.2;by_cases a:n.kind=0
     · simp [a]
     by_cases b:n.kind=23
     · simp [b]
     have hx:n.n=0:=by simpa [a,b]using hx
     simp [a,b,hx,gy]
    simp only [y6,I2,L2,A7,Ll,A0,hrg];cases(decide (n.kind=0)&& !gy n.n 0 10000)
    · simp only [I2,L2,A0];split
      · rename_i h;exact h.symm
      · rfl
    · rfl
 rw [<-hval];refine Ev.cg fin fun k=> ?_;cases pl
 · simp only [O2];by_cases hl:n.kind=23
   · simp only [hl];rfl
   · rw [qc (O0.2 hl)];simp only [hl,L4,C6,C1,O3];rfl
 · simp only [S1];by_cases hl:n.kind=23
   · simp only [hl];rfl
   · rw [qc (O0.2 hl)];simp only [hl,L4,C6,C1];rfl
theorem Gx {e:List Nd} (hL:oP e): ∀i,i<=e.length-> ∀acc,sJ e i acc->Ev (fun k=>jJ k e acc (e.length:Int) (i:Int)) (jy acc (e.drop i)):=by
 have hlen:=hL.len;refine down (fun acc h=> ?_) (fun i hi ih acc h=> ?_)
 · refine Ev.succ ?_;simp only [jJ];exact Ev.cF (eD _) (Ev.some' (by simp [jy]))
 · refine Ev.succ ?_;obtain⟨h1,h2,h3⟩:=hL.nd i _ (aP hi);simp only [jJ];refine Ev.cT (fC hi) (Ev.bind (ac8 h (by omega) (aP hi) h1 h2 h3) ?_);rw [drop_cons hi,jy,h.len];by_cases hc:bI (uq acc i e[i].args.reverse) e[i]=0
   · refine Ev.cF (by rw [hc];rfl) ?_;have ai4:=h.len;have hp:=Bh hc;have hok:=h.succ (aP hi) hp;refine Ev.jv (by omega) (Ev.iG (x:=yB acc e[i]) ?_ (Ev.jv (nn i) (Ev.iG (x:=0) ?_ ?_)))
     · unfold Lb yB;simp only [V0,aP hi,W0,nn,A0];cases hargs:e[i].args with
       |nil=>simp [ai4]
       |cons a l=>
        have ha:=Yb h _ i (R0 _) hp a (by rw [hargs];simp);obtain⟨n',b,h4,h5,_⟩:=h.at_ a.toNat (by omega);rw [qc (by rw [O0,I0];omega),N2,W0,if_pos ha.1,C0 (by omega),h5];simp only [h5,E2,W0]
     · rw [V0,N0 (by omega),ai4,L5];rfl
     · have e1:(acc++[0]).set ((i:Int).toNat) (yB acc e[i])=acc++[yB acc e[i]]:=by
        rw [V0,j7 _ _ (by omega),ai4,L5];rfl
       rw [e1,bW hi (by omega)];refine(ih _ hok).to ?_;simp only [hc,ne_eq,not_true_eq_false,L2]
   · refine Ev.cT (by rw [S5];exact hc) (Ev.some' ?_);simp only [ne_eq,hc,W7,A0]
inductive Tm where
 |mk (x:Nd) (cs:List Tm)
namespace Tm
mutual
def size:Tm->Nat
 | .mk _ cs=>sizes cs+1
def sizes:List Tm->Nat
 |[]=>0
 |c::cs=>size c+sizes cs
end
def roots:Nat->List Tm->List Int
 |_,[]=>[]
 |b,c::cs=>((b+c.size -1:Nat):Int)::roots (b+c.size) cs
def nd (x:Nd) (b:Nat) (cs:List Tm):Nd:={x with args:=roots b cs}
mutual
def flat (b:Nat):Tm->List Nd
 | .mk x cs=>aV b cs++[nd x b cs]
def aV (b:Nat):List Tm->List Nd
 |[]=>[]
 |c::cs=>flat b c++aV (b+c.size) cs
end
theorem ig {b:Nat} {x:Nd} {cs:List Tm}:flat b (.mk x cs)=aV b cs++[nd x b cs]:=by rw [flat]
theorem fH {b:Nat} {c:Tm} {cs:List Tm}:aV b (c::cs)=flat b c++aV (b+c.size) cs:=by rw [aV]
def root:Tm->Nd| .mk x _=>x
theorem size_pos: ∀t:Tm,0<t.size
 | .mk x cs=>by unfold size;omega
mutual
theorem bn (b:Nat): ∀t:Tm,(flat b t).length=t.size
 | .mk x cs=>by unfold flat size;rw [X1,dz b cs];rfl
theorem dz (b:Nat): ∀cs:List Tm,(aV b cs).length=sizes cs
 |[]=>rfl
 |c::cs=>by unfold aV sizes;rw [X1,bn b c,dz (b+c.size) cs]
end
theorem iq: ∀(b:Nat) (cs:List Tm),(roots b cs).length=cs.length
 |_,[]=>rfl
 |b,c::cs=>by unfold roots;rw [I0,I0,iq (b+c.size) cs]
theorem dG: ∀a b:List Tm,sizes (a++b)=sizes a+sizes b
 |[],b=>by simp [sizes]
 |c::a,b=>by simp only [B4,sizes,dG a b];omega
theorem sK: ∀(b:Nat) (l m:List Tm),aV b (l++m)=aV b l++aV (b+sizes l) m
 |b,[],m=>by simp [aV,sizes]
 |b,c::l,m=>by simp only [B4,aV,sizes,sK (b+c.size) l m,T1,G4]
theorem zJ: ∀(b:Nat) (l m:List Tm),roots b (l++m)=roots b l++roots (b+sizes l) m
 |b,[],m=>by simp [roots,sizes]
 |b,c::l,m=>by simp only [B4,roots,sizes,zJ (b+c.size) l m,G4]
def Seg (e:List Nd) (b:Nat) (s:Tm):Prop:= ∃pre post,e=pre++(flat b s++post)/\pre.length=b
theorem Seg.whole (t:Tm):Seg (flat 0 t) 0 t:=⟨[],[],by simp,rfl⟩
theorem Seg.lt {e:List Nd} {b:Nat} {s:Tm} (h:Seg e b s):b+s.size<=e.length:=by
 obtain⟨pre,post,rfl,rfl⟩:=h;simp only [X1,bn];omega
theorem Seg.node {e:List Nd} {b:Nat} {x:Nd} {cs:List Tm} (h:Seg e b (.mk x cs)):e[b+sizes cs]? =some (nd x b cs):=by
 obtain⟨pre,post,rfl,rfl⟩:=h;rw [N0 (by omega),show pre.length+sizes cs -pre.length=sizes cs by omega];rw [ig,T1,N0 (by rw [dz];exact R0 _),dz,L5];rfl
theorem Seg.kid {e:List Nd} {b:Nat} {x:Nd} {l m:List Tm} {c:Tm} (h:Seg e b (.mk x (l++c::m))):Seg e (b+sizes l) c:=by
 obtain⟨pre,post,rfl,rfl⟩:=h;refine⟨pre++aV pre.length l,aV (pre.length+sizes l+c.size) m++([nd x pre.length (l++c::m)]++post),?_,by rw [X1,dz]⟩;rw [ig,sK,fH];simp only [T1]
theorem FX {b:Nat} {l m:List Tm} {c:Tm}:(roots b (l++c::m))[l.length]? =some (((b+sizes l+c.size -1:Nat):Int)):=by
 rw [zJ,N0 (by rw [iq];exact R0 _),iq,L5];rfl
end Tm
end Go.VL
end
