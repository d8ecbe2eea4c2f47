/- Part 7. -/
import Derived.Test.YthebklihgmhgoaaGreatDoorKi6
import Derived.Lib.IndexLaws
import Derived.KernelRfl
import Derived.Lib.ItoaNum
set_option maxRecDepth 8000
set_option linter.unusedVariables false
set_option linter.unusedSectionVars false
set_option linter.unusedSimpArgs false
section
namespace Go.VL
open Tm
theorem asG {t:Tm} (h:VT t): ∀c∈t.kids,Has (fm t false) c:=by
  have hF:=h.bX;clear h;cases hF with
  |num n h=>intro c hc;cases hc
  |str s h=>intro c hc;cases hc
  |nam s h=>intro c hc;cases hc
  |old=>intro c hc;cases hc
  |app s c cs h h2=>
    intro y hy;rw [tx (x:=⟨3,0,s,[],[]⟩) _ h2];exact bV s (bQ 40 (gG [41] (Pt (cs:=c::cs) hy)))
  |pre o c ho hf hop=>
    intro y hy;obtain rfl:=List.mem_singleton.1 hy;rw [Fp (x:=⟨3,0,o.text,[],[]⟩) (o:=o) _ _ hop];simp only [Ca,List.map_cons,hf,show ¬(0:Int)=2 by decide,if_false,if_true];exact bV _ (Dp y _ _)
  |pos o c ho hf hop=>
    intro y hy;obtain rfl:=List.mem_singleton.1 hy;rw [Fp (x:=⟨3,0,o.text,[],[]⟩) (o:=o) _ _ hop];simp only [Ca,List.map_cons,hf,if_true];exact gG _ (Dp y _ _)
  |inf o c d cs ho hf hop hl=>
    intro y hy;rw [Fp (x:=⟨3,0,o.text,[],[]⟩) (o:=o) _ _ hop];simp only [Ca,List.map_cons,hf,show ¬(1:Int)=2 by decide,show ¬(1:Int)=0 by decide,if_false];obtain⟨s,h1,h2⟩:=acz (o:=o) (cs:=c::d::cs) (i:=0) (f:=false) hy;exact Hf _ h1 h2
  |bM k cs hk=>
    intro y hy;rcases hk with rfl|rfl
    · rw [tx _ rfl];exact bQ 60 (bQ 60 (gG [62,62] (Pt (cs:=cs) hy)))
    · rw [tx _ rfl];exact bQ 123 (gG [125] (Pt (cs:=cs) hy))
  |MB k names cs b hk hn h0 hl h6=>
    intro y hy;have hy:y∈cs++[b]:=hy;have hB:y=b\/(y∈cs/\Has (dH [32,92,105,110,32] names ((cs++[b]).map kd)) y):=by
      rcases List.mem_append.1 hy with h|h
      · refine .inr ⟨h,?_⟩;rw [jO];exact acy h hl
      · exact .inl (List.mem_singleton.1 h)
    have hL:Has (gY ((cs++[b]).map kd)) b:=by rw [iJ];exact fA b false
    rcases hk with rfl|rfl|rfl|rfl|rfl|rfl
    · rw [tx _ rfl];show Has (123::(dH [32,92,105,110,32] names ((cs++[b]).map kd)++(32::58::32::(j5 ((cs++[b]).map kd) 1++[125])))) y
      rcases hB with rfl|⟨_,hB⟩
      · obtain⟨a,rfl⟩:=Lv (show cs.length=1 by rw [hl];exact h6 rfl);exact bQ _ (bV _ (bQ _ (bQ _ (bQ _ (gG _ (fA y false))))))
      · exact bQ _ (gG _ hB)
    · rw [tx _ rfl];show Has (123::(wU (gY ((cs++[b]).map kd))++(32::58::32::(dH [32,92,105,110,32] names ((cs++[b]).map kd)++[125])))) y
      rcases hB with rfl|⟨_,hB⟩
      · rw [iJ];exact bQ _ (gG _ anX)
      · exact bQ _ (bV _ (bQ _ (bQ _ (bQ _ (gG _ hB)))))
    · rw [tx _ rfl];show Has (92::65::32::(dH [32,92,105,110,32] names ((cs++[b]).map kd)++(32::58::32::gY ((cs++[b]).map kd)))) y
      rcases hB with rfl|⟨_,hB⟩
      · exact bQ _ (bQ _ (bQ _ (bV _ (bQ _ (bQ _ (bQ _ hL))))))
      · exact bQ _ (bQ _ (bQ _ (gG _ hB)))
    · rw [tx _ rfl];show Has (92::69::32::(dH [32,92,105,110,32] names ((cs++[b]).map kd)++(32::58::32::gY ((cs++[b]).map kd)))) y
      rcases hB with rfl|⟨_,hB⟩
      · exact bQ _ (bQ _ (bQ _ (bV _ (bQ _ (bQ _ (bQ _ hL))))))
      · exact bQ _ (bQ _ (bQ _ (gG _ hB)))
    · rw [tx _ rfl];show Has ([67,72,79,79,83,69,32]++(dH [32,92,105,110,32] names ((cs++[b]).map kd)++(32::58::32::gY ((cs++[b]).map kd)))) y
      rcases hB with rfl|⟨_,hB⟩
      · exact bV _ (bV _ (bQ _ (bQ _ (bQ _ hL))))
      · exact bV _ (gG _ hB)
    · rw [tx _ rfl];show Has (91::(dH [32,92,105,110,32] names ((cs++[b]).map kd)++(32::124::45::62::32::(gY ((cs++[b]).map kd)++[93])))) y
      rcases hB with rfl|⟨_,hB⟩
      · exact bQ _ (bV _ (bQ _ (bQ _ (bQ _ (bQ _ (bQ _ (gG _ hL)))))))
      · exact bQ _ (gG _ hB)
  |any k names b hk hn h0=>
    intro y hy;obtain rfl:=List.mem_singleton.1 hy;have hL:Has (gY [kd y]) y:=fA y false;rcases hk with rfl|rfl|rfl
    · rw [tx _ rfl];exact bV [92,65,32] (bV _ (bV [32,58,32] hL))
    · rw [tx _ rfl];exact bV [92,69,32] (bV _ (bV [32,58,32] hL))
    · rw [tx _ rfl];exact bV [76,65,77,66,68,65,32] (bV _ (bV [32,58,32] hL))
  |call c d cs=>
    intro y hy;rw [tx _ rfl];show Has (fV (kd c) (yx c) true++(91::(iT ((d::cs).map kd)++[93]))) y
    rcases List.mem_cons.1 hy with rfl|hy
    · exact gG _ (Dp y _ _)
    · exact bV _ (bQ _ (gG _ (Pt hy)))
  |bin k a b hk=>
    intro y hy;have hz:y=a\/y=b:=by simpa [kids]using hy
    have hS:Has (XM [kd a,kd b]) b:=Dp b _ _;rcases hk with rfl|rfl|rfl|rfl|rfl
    · rw [tx _ rfl];rcases hz with rfl|rfl
      · exact bQ 91 (gG _ (fA y false))
      · exact bQ 91 (bV _ (bV [32,45,62,32] (gG [93] (fA y false))))
    · rw [tx _ rfl];rcases hz with rfl|rfl
      · exact bQ 91 (gG _ (fA y false))
      · exact bQ 91 (bV _ (bV [93,95] hS))
    · rw [tx _ rfl];rcases hz with rfl|rfl
      · exact bV [60,60] (gG _ (fA y false))
      · exact bV [60,60] (bV _ (bV [62,62,95] hS))
    · rw [tx _ rfl];rcases hz with rfl|rfl
      · exact bV [87,70,95] (bV _ (bQ 40 (gG [41] (fA y false))))
      · exact bV [87,70,95] (gG _ hS)
    · rw [tx _ rfl];rcases hz with rfl|rfl
      · exact bV [83,70,95] (bV _ (bQ 40 (gG [41] (fA y false))))
      · exact bV [83,70,95] (gG _ hS)
  |YM k names cs hk hn h0 hl=>
    intro y hy;have hB: ∀sign:Str,Has (dH sign names (cs.map kd)) y:=fun sign=>by
      have:=acy (sign:=sign) (names:=names) (ks:=[]) (c:=y) (cs:=cs) hy hl
      rwa [List.append_nil]at this
    rcases hk with rfl|rfl
    · rw [tx _ rfl];exact bQ 91 (gG [93] (hB _))
    · rw [tx _ rfl];exact bQ 91 (gG [93] (hB _))
  |je s c h=>
    intro y hy;obtain rfl:=List.mem_singleton.1 hy;rw [tx _ rfl];exact gG (46::s) (Dp y (yx y) true)
  |ME k a b c hk=>
    intro y hy;have hz:y=a\/y=b\/y=c:=by simpa [kids]using hy
    rcases hk with rfl|rfl
    · rw [tx _ rfl];rcases hz with rfl|rfl|rfl
      · exact bQ 91 (gG _ (fA y false))
      · exact bQ 91 (bV _ (bV [32,69,88,67,69,80,84,32,33,91] (gG _ (fA y false))))
      · exact bQ 91 (bV _ (bV [32,69,88,67,69,80,84,32,33,91] (bV _ (bV [93,32,61,32] (gG [93] (fA y false))))))
    · rw [tx _ rfl];rcases hz with rfl|rfl|rfl
      · exact bV [73,70,32] (gG _ (fA y false))
      · exact bV [73,70,32] (bV _ (bV [32,84,72,69,78,32] (gG _ (fA y false))))
      · exact bV [73,70,32] (bV _ (bV [32,84,72,69,78,32] (bV _ (bV [32,69,76,83,69,32] (fA y false)))))
  |cas c d cs=>
    intro y hy;rw [tx _ rfl];obtain⟨s,h1,h2⟩:=aeO (cs:=c::d::cs) hy;exact bV [67,65,83,69,32] (Hf _ h1 h2)
  |lt n x p a b h hn=>
    intro y hy;have hy:y=a\/y=b:=by simpa [kids]using hy
    rw [tx _ rfl];show Has (Lr n (x::p) (fm a false) (fm b false)) y
    unfold Lr;rcases hy with rfl|rfl
    · exact bV [76,69,84,32] (bV _ (bV [32,61,61,32] (gG _ (fA y false))))
    · exact bV [76,69,84,32] (bV _ (bV [32,61,61,32] (bV _ (bV [32,73,78,32] (fA y false)))))
theorem ah5 {t c:Tm} (h:VT t) (hc:c∈t.kids):(fm c false).length<=(fm t false).length/\(EJ c=false-> ∃a b,fm t false=a++(fm c false++b)):=by
  have hk:VT c:=by
    obtain⟨x,cs⟩:=t;exact h.kids.get c hc
  have hF:=flg c hk;obtain⟨a,f,b,e⟩:=asG h c hc;refine⟨?_,fun ho=>⟨a,b,?_⟩⟩
  · rw [e,List.length_append,List.length_append];have:=hF.le;cases f<;>omega
  · rw [e];cases f with
    |true=>rw [hF.eq ho]
    |false=>rfl
end Go.VL
end
section
namespace Go.VL
open Go.Proofs Go.RowKit
theorem anY (x:Str) (id n:Nat) (H0:AH) (Q:Post) (hn:n<=1000000)
    (hx: ∀σ' H',σ' 7= .dQ id 0 n n 1->H'.obj id=some (List.replicate n (.str x))->H'.next=H0.next->(∀i,i≠id->H'.obj i=H0.obj i)->(∀k,H'.live k=H0.live k)->Q (.exit 0) σ' H'):
    ∀(d m:Nat) (σ:Nat->PV) (H:AH) (rest:List PV),n -m<=d->m<=n->(m=0->n=0)->σ 7= .dQ id 0 n n 1->σ 8= .int .i64 m->H.obj id=some (List.replicate m (.str x)++rest)->rest.length=n -m->
      H.next=H0.next->(∀i,i≠id->H.obj i=H0.obj i)->(∀k,H.live k=H0.live k)->W Tryz.prog (.loop K3) Q σ H:=by
  intro d
  induction d with
  |zero=>
    intro m σ H rest hd hm h0 h7 h8 ho hr h1 h2 h3;have e:m=n:=by omega
    subst e;have c1:decide ((m:Int)<(m:Int))=false:=decide_eq_false (by omega);refine bf (fun K hK=>aD ?_);unfold K3;simp -implicitDefEqProofs only [go_sem,h7,h8,c1];have hr0:rest=[]:=List.eq_nil_of_length_eq_zero (by omega);subst hr0;refine hx _ _ ?_ (by rw [ho,List.append_nil]) h1 h2 h3;simp only [mV,Nat.reduceEqDiff,↓reduceIte,h7]
  |succ d ih=>
    intro m σ H rest hd hm h0 h7 h8 ho hr h1 h2 h3;by_cases hmn:m=n
    · exact ih m σ H rest (by omega) hm h0 h7 h8 ho hr h1 h2 h3
    have c1:decide ((m:Int)<(n:Int))=true:=decide_eq_true (by omega);refine bf (fun K hK=>aD ?_);unfold K3;simp -implicitDefEqProofs only [go_sem,h7,h8,c1];refine⟨fun _=>True,trivial,?_⟩;refine kF (.int .i64 m) (fun H'=>by simp [rop,AE.ev,upd,h7,h8]) ?_;refine kF (.dQ id 0 n n 1) (fun H'=>by simp [rop,AE.ev,upd,h7,h8]) ?_;refine kF (.int .i64 m) (fun H'=>by simp [rop,AE.ev,upd,h7,h8]) ?_;refine kF (.dQ id m (n -m) (n -m) 1) (fun H'=>by simp [rop,AE.ev,upd,tX,om,h7,h8];omega) ?_;refine kF (.dQ id 0 n n 1) (fun H'=>by simp [rop,AE.ev,upd,h7,h8]) ?_;refine kF (.int .i64 m) (fun H'=>by simp [rop,AE.ev,upd,h7,h8]) ?_;refine kF (.dQ id 0 m n 1) (fun H'=>by simp [rop,AE.ev,upd,tX,om,h7,h8];omega) ?_;have hch:chunks 1 m (List.replicate m (.str x)++rest)=List.replicate m [.str x]:=by
      have h:=TI (List.replicate m (.str x)) rest;rw [List.length_replicate,List.map_replicate]at h;exact h
    unfold iZ;refine .inr ⟨trivial,.int .i64 (min m (n -m):Nat),H.put id (List.replicate (m+min m (n -m)) (.str x)++rest.drop (min m (n -m))),?_,trivial,?_⟩
    · have hy:rowOf 1 H (PV.dQ id 0 m n 1)=some (List.replicate m [.str x]):=by
        have hl:0+m*1<=(List.replicate m (PV.str x)++rest).length:=by rw [List.length_append,List.length_replicate];omega
        simp only [rowOf,ho];rw [if_pos ⟨trivial,hl⟩,List.drop_zero,hch]
      have hsz:qN 1 (List.replicate m [PV.str x]):=fun cs hcs=>by
        rw [(List.mem_replicate.1 hcs).2];exact⟨rfl,fun c hc=>by rw [List.mem_singleton.1 hc];rfl⟩
      have hle:m+(n -m)*1<=(List.replicate m (PV.str x)++rest).length:=by rw [List.length_append,List.length_replicate];omega
      have hput:putCells (List.replicate m (PV.str x)++rest) m ((List.replicate m [PV.str x]).take (n -m)).flatten=List.replicate (m+min m (n -m)) (.str x)++rest.drop (min m (n -m)):=by
        rw [List.take_replicate,wG];unfold putCells;rw [List.length_replicate];have e1:(List.replicate m (PV.str x)++rest).take m=List.replicate m (PV.str x):=by
          rw [List.take_append_of_le_length (by rw [List.length_replicate];omega),List.take_of_length_le (by rw [List.length_replicate];omega)]
        have e2:(List.replicate m (PV.str x)++rest).drop (m+min (n -m) m)=rest.drop (min m (n -m)):=by
          rw [List.drop_append,List.length_replicate,List.drop_eq_nil_of_le (by rw [List.length_replicate];omega),List.nil_append];congr 1
          omega
        rw [e1,e2,List.replicate_append_replicate,Nat.min_comm m]
      simp only [jN,nop,AE.ev,mV,Nat.reduceEqDiff,↓reduceIte,hy];simp only [ho];rw [if_pos ⟨trivial,hsz,hle⟩];refine⟨?_,by rw [hput]⟩;rw [List.length_replicate]
    · have hm2:(m:Int)+((min m (n -m):Nat):Int)=((m+min m (n -m):Nat):Int):=by omega
      have hw:IntKind.wrap .i64 ((m:Int)+((min m (n -m):Nat):Int))=((m+min m (n -m):Nat):Int):=by
        rw [hm2];exact IntWalk.i64_in _ (by omega)
      unfold iZ;refine dB ?_;simp -implicitDefEqProofs only [go_sem,h7,h8,hw];refine hK _ _ (ih (m+min m (n -m)) _ _ (rest.drop (min m (n -m))) (by omega) (by omega) (by omega) ?_ ?_ ?_ (by rw [List.length_drop];omega) h1 ?_ h3)
      · simp only [mV,Nat.reduceEqDiff,↓reduceIte,h7]
      · simp only [mV,Nat.reduceEqDiff,↓reduceIte]
      · show(if id=id then some _ else _)=_
        rw [if_pos rfl]
      · intro i hi;show(if i=id then some _ else _)=_
        rw [if_neg hi];exact h2 i hi
section
variable {P:Program} {Q:Post} {σ:Nat->PV} {s:List Fm} {H:AH}
theorem asH {d:Option Nat} {x y:AE} {l:List aQ} {k k':IntKind} {n:Nat} (hx:x.ev σ= .int k n) (hy:y.ev σ= .int k' n) (hb:n<=1000000)
    (h:WO P l s Q (upd σ d (.dQ H.next 0 n n 1)) (H.new (List.replicate n (.str [])))):WO P (⟨d,.d (.tV 1 16 [.str []] x y),none⟩::l) s Q σ H:=by
  show WD P (ni (.tV 1 16 [.str []] x y) σ H) d l s Q σ
  simp only [ni,hx,hy];rw [if_pos ⟨by omega,by omega,by omega,by omega,rfl,by decide⟩];rw [Int.toNat_natCast,wG];exact h
end
theorem asI (x:Str) (n:Int) (hn:0<=n/\n<=1000000):Le Tryz.prog 211 [.aB [[.str x]] .exact,.int .i64 n] aU 1 (List.replicate n.toNat x):=by
  intro H;obtain⟨n,rfl⟩: ∃k:Nat,n=k:=⟨n.toNat,by omega⟩;refine aK auh (by simp) (aD ?_);unfold alL;have c1:decide ((n:Int)<0)=false:=decide_eq_false (by omega);have c2:IntKind.wrap .u64 1=1:=by decide
  have c3:IntKind.wrap .u64 (n:Int)=n:=IntWalk.u64_in _ (by omega);have c4:IntKind.wrap .i64 (n:Int)=n:=IntWalk.i64_in _ (by omega);have hm:Ph 1 n=some ((0:Int),(n:Int)):=by
    unfold Ph Pg;rw [if_pos ⟨⟨by omega,by omega⟩,by omega,by omega⟩];have e1:((1:Int).toNat*((n:Nat):Int).toNat/18446744073709551616:Nat)=0:=by
      rw [Int.toNat_natCast];show(1*n)/_=0;omega
    have e2:((1:Int).toNat*((n:Nat):Int).toNat% 18446744073709551616:Nat)=n:=by
      rw [Int.toNat_natCast];show(1*n)% _=n;omega
    rw [e1,e2];rfl
  have hc:=aek hm;have d1:decide ((n:Int)>9223372036854775807)=false:=decide_eq_false (by omega);unfold aaB aaC;simp -implicitDefEqProofs only [go_sem,c1,c2,c3,c4,d1];refine dU.mono (hc H) fun v H' hv=> ?_;obtain⟨rfl,rfl⟩:=hv;have d0:decide ((0:Int)>0)=false:=by decide
  simp -implicitDefEqProofs only [go_sem,c1,c2,c3,c4,d0,d1];refine asH (k:= .i64) (k':= .i64) (n:=n) (by simp only [go_sem]) (by simp only [go_sem]) (by omega) ?_;have hob:(H'.new (List.replicate n (PV.str []))).obj H'.next=some (List.replicate n (PV.str [])):=by
    show(if H'.next=H'.next then some _ else _)=_
    rw [if_pos rfl]
  simp -implicitDefEqProofs only [go_sem]
  refine ael (id:=H'.next) (off:=0) (len:=n) (cap:=n) (fs:=[[.str x]]) (cs:=List.replicate n (.str [])) (by simp only [go_sem]) (by simp only [go_sem];rfl) hob
    (by intro cs hcs;rw [List.mem_singleton.1 hcs];exact⟨rfl,fun c hc=>by rw [List.mem_singleton.1 hc];rfl⟩) (by rw [List.length_replicate];omega) ?_
  have hput:putCells (List.replicate n (PV.str [])) 0 (([[PV.str x]]:List (List PV)).take n).flatten=List.replicate (min 1 n) (.str x)++List.replicate (n -min 1 n) (.str []):=by
    cases n with
    |zero=>rfl
    |succ n=>
      have e:min 1 (n+1)=1:=by omega
      rw [e,List.take_of_length_le (by simp)];simp [putCells,List.replicate_succ]
  rw [hput];have e1:(min ([[PV.str x]]:List (List PV)).length n:Nat)=min 1 n:=rfl;rw [e1];simp -implicitDefEqProofs only [go_sem];have afR: ∀cs:List PV,(((H'.new (List.replicate n (PV.str []))).put H'.next cs).obj H'.next)=some cs:=fun cs=>by
    show(if H'.next=H'.next then some _ else _)=_
    rw [if_pos rfl]
  refine anY x H'.next n ((H'.new (List.replicate n (PV.str [])))) _ (by omega) (fun σ' H2 k7 ko kn kob kl=> ?_) n (min 1 n) _ _ (List.replicate (n -min 1 n) (.str [])) (by omega) (by omega) (by omega) ?_ ?_ (afR _) (by rw [List.length_replicate]) rfl
    (fun i hi=> ?_) (fun k=>rfl)
  · show WE Tryz.prog (.exit 0) _ _ σ' H2
    simp -implicitDefEqProofs only [go_sem,k7];refine⟨[H'.next],.inr ⟨H'.next,n,[],rfl,by rw [List.length_replicate],by rw [List.length_replicate];omega,by rw [kn];exact Nat.lt_succ_self _,?_,?_⟩,fun i hi=> .inr (by rw [List.mem_singleton.1 hi];exact Nat.le_refl _),⟨by rw [kn];exact Nat.le_succ _,fun i hi _=> ?_⟩,fun c3 hc=> ?_⟩
    · rw [ko,List.append_nil,List.map_replicate];exact congrArg some (wG (PV.str x) n).symm
    · rw [List.length_replicate];simp
    · rw [kob i (by omega)];show(if i=H'.next then some _ else _)=_
      rw [if_neg (by omega)]
    · cases c3 with
      |unk=>exact hc
      |tok t=>exact⟨by rw [kl];exact hc.1,by rw [kn];exact Nat.lt_succ_of_lt hc.2⟩
      |nil=>trivial
      |exact=>trivial
  · simp only [mV,Nat.reduceEqDiff,↓reduceIte]
  · simp only [mV,Nat.reduceEqDiff,↓reduceIte]
  · show(if i=H'.next then some _ else _)=_
    rw [if_neg hi]
def ah6 (l:List Str) (n:Int):List Str:=List.replicate n.toNat (l.headD [])
theorem anZ (l:List Str) (n:Int) (h:l.length=1/\0<=n/\n<=1000000):Le Tryz.prog 211 [.aB (l.map aU) .exact,.int .i64 n] aU 1 (ah6 l n):=by
  match l,h with
  |[x],h=>exact asI x n h.2
def acA (l:List Str) (n:Int):Option (List Str):=if l.length=1/\0<=n/\n<=1000000 then some (ah6 l n)else none
theorem asJ (l:List Str) (n:Int) {r:List Str} (h:acA l n=some r):aC Tryz.prog 211 [.aB (l.map aU) .exact,.int .i64 n] (.aB (r.map aU) .unk):=by
  unfold acA at h;obtain⟨h1,h⟩:=aL h;cases h;refine aC.aP (bn.mem (.cons (.aB _ _ (fun cs h c hc=>by obtain⟨x,_,rfl⟩:=List.mem_map.1 h;exact dw x c hc) (by simp)) (.cons (.int _ _) .nil))) (dU.mono (anZ l n h1 AH.empty) fun v H' hm=> ?_) (bC dw _);obtain⟨ids,g1,_⟩:=hm;exact g1.fz dw
end Go.VL
end
section
namespace Go.VL
open Go.Proofs Go.RowKit Go.Sort
theorem an0 {w:World} (hw:WH (fun b=>w.heap.size<=b) w):Lib.TabIs Tryz.prog w "internal/strconv.uint64pow10" .u64 Lib.pow10Tab:=by
  obtain⟨_,t,fr,h⟩:=hw 3 _ (by kernel_rfl:Glob.wb 3=some (QZ.map (Value.int .u64)).toArray);unfold Lib.TabIs World.var?;rw [show Tryz.prog.globalNamed "internal/strconv.uint64pow10" =some 3 by kernel_rfl,Option.bind_some,h];exact congrArg some (by kernel_rfl)
theorem below_grow (w:World) (os:Array Obj):Below w.heap.size w (grow w os):=⟨rfl,rfl,rfl,by simp [grow],fun k hk=>by
  show(w.heap++os)[k]? =_
  rw [Array.getElem?_append_left hk]⟩
theorem asK (n:Int) (h: -9223372036854775808<=n/\n<=9223372036854775807):aC Tryz.prog 152 [.int .i64 n] (.str (Lib.itoa n)):=by
  refine NG ⟨_,Tryz.func152,rfl,by kernel_rfl⟩ (fun w G vs hg hi hw hv=> ?_) (bn.mem (.cons (.int _ _) .nil));rw [Vs.axD hv];refine(Tryz.strconv_Itoa n h.1 h.2 w (an0 hw)).mono ?_;rintro e w' ⟨rfl,k,os,rfl⟩;exact⟨_,rfl,(below_drewN w k).trans ((below_grow (w.drewN k) os).mono (below_drewN w k).size),fun G n=> .str _⟩
end Go.VL
end
section
set_option maxHeartbeats 4000000
namespace Go.VL
open Go.Proofs
def nJ (k:Nat) (p_0:Printer) (bB:Int):Option (Operator×Bool):=
  if 0<=bB then Option.bind (p_0.e[bB.toNat]?) fun x2=>cond (x2.kind !=3) (some ((Operator.mk [] 0 0 0 false 0 0),false)) (Option.bind (kS k x2.text) fun p6=>some (p6.1,p6.2))else none
theorem wV {k:Nat} {p_0:Printer} {bB:Int} {r:Operator×Bool} (h:nJ k p_0 bB=some r):aC Tryz.prog 100 [(.agg (Printer.cells p_0)),(.int .i64 bB)] (.dR [(.agg (Operator.cells r.1)),(.bool r.2)]):=by
  refine aC.aP (bn.mem (.cons (.agg _ (Printer.pu _)) (.cons (.int _ _) .nil))) (aK atz (by simp) (aD ?_)) (.dR _ (bn.mem (.cons (.agg _ (Operator.pu _)) (.cons (.bool _) .nil))));unfold nJ at h;unfold akY;obtain⟨e1,h⟩:=aL h;obtain⟨x2,e3,h⟩:=aj h;rcases au h with⟨e4,h⟩|⟨e4,h⟩
  ·cases h;refine ah ?_
   exact(dJ (.cons (dN (.cons (.pure _ (.str _)) (aN (aN (aN (.cons (.pure _ (.bool _)) (aN (aN .nil)))))))) (.cons (.pure _ (.bool _)) .nil)))
  ·obtain⟨p6,e5,h⟩:=aj h;refine ah ?_
   refine av (qm e5) ?_;cases h;refine ah ?_
   exact(dJ (.cons (dN (.cons (.pure _ (.str _)) (aN (aN (aN (.cons (.pure _ (.bool _)) (aN (aN .nil)))))))) (.cons (.pure _ (.bool _)) .nil)))
def Hg (k:Nat) (jE:Str):Option (Operator×Int):=
  Option.bind (kS k jE) fun p2=>Option.bind (mW (!p2.2) 10) fun p4=>some (p2.1,p4)
theorem XY {k:Nat} {jE:Str} {r:Operator×Int} (h:Hg k jE=some r):aC Tryz.prog 26 [(.str jE)] (.dR [(.agg (Operator.cells r.1)),(.int .i64 r.2)]):=by
  refine aC.aP (bn.mem (.cons (.str _) .nil)) (aK awr (by simp) (aD ?_)) (.dR _ (bn.mem (.cons (.agg _ (Operator.pu _)) (.cons (.int _ _) .nil))));unfold Hg at h;unfold apo;obtain⟨p2,e1,h⟩:=aj h;refine ah ?_
  refine av (qm e1) ?_;refine ah ?_
  refine dI ?_;obtain⟨p4,e3,h⟩:=aj h;refine ah ?_
  refine PC.mk (mI e3) ?_;cases h;refine ah ?_
  exact(dJ (.cons (dN (.cons (.pure _ (.str _)) (aN (aN (aN (.cons (.pure _ (.bool _)) (aN (aN .nil)))))))) (aN .nil)))
def Ej (k:Nat) (bB:Int) (uD:List Nd) (iX:Bool):Option Bool:=
  cond iX (if 0<=bB then Option.bind (uD[bB.toNat]?) fun x3=>Option.bind (Gz k x3.kind) fun p6=>some (p6)else none) (some (false))
def Ue:List Nat:=List.range' 11 8
theorem adF (k:Nat): ∀(vL:Nat) (bB:Int) (uD:List Nd) (iX:Bool) (aA σ:Nat->PV) (H:AH) (f0:Fr Ue aA σ) (sl:σ 1=(.int .i64 bB)/\σ 3=(.ref (vL) 0)/\σ 10=(.bool iX)/\H.obj vL=some [(.aB (uD.map Nd.cells) .unk)]) (Ad:vL<H.next) (o:Bool) (h:Ej k bB uD iX=some o) (Q:Post) (q0: ∀(p:Bool) (σ':Nat->PV),o=p->Fr Ue aA σ'->(σ' 18=(.bool p))->Q .normal σ' H),dD Tryz.prog VR (Q .normal) σ H:=by
  intro vL bB uD iX aA σ H f0 sl Ad o h Q q0;obtain⟨s1,s3,s10,an1⟩:=sl;have an2:=ne_next Ad;have an3:=aR Ad;unfold Ej at h;refine dB ?_;unfold VR;rcases au h with⟨e1,h⟩|⟨e1,h⟩
  ·obtain⟨e2,h⟩:=aL h;obtain⟨x3,e4,h⟩:=aj h;obtain⟨p6,e5,h⟩:=aj h;refine ah ?_
   refine av (afH e5) ?_;cases h;refine ah ?_
   exact q0 _ _ rfl aM ak
  ·cases h;refine ah ?_
   exact q0 _ _ rfl aM ak
def wW (fF:Str) (iK:Int) (iB:Int) (gQ:Int) (iC:Bool) (iL:Int) (iM:Int) (El:Str) (Hl:Int) (Ho:Int) (Uf:Int) (Ug:Bool) (Uh:Int) (Ui:Int) (acB:Bool):Option Bool:=
  cond acB (cond (Hl==0) (cond (decide (Ho<iB)) (some (true)) (cond (Hl !=0) (cond (decide (Ho<=gQ)) (some (true)) (cond (El==([45,46]:Str)) (some ((fF==([45,46]:Str)))) (some (false)))) (cond (El==([45,46]:Str)) (some ((fF==([45,46]:Str)))) (some (false))))) (cond (Hl !=0) (cond (decide (Ho<=gQ)) (some (true)) (cond (El==([45,46]:Str)) (some ((fF==([45,46]:Str)))) (some (false)))) (cond (El==([45,46]:Str)) (some ((fF==([45,46]:Str)))) (some (false))))) (some (false))
def MF:List Nat:=List.range' 71 33
theorem XZ: ∀(gH:Nat) (Ow:Nat) (fF:Str) (iK:Int) (iB:Int) (gQ:Int) (iC:Bool) (iL:Int) (iM:Int) (El:Str) (Hl:Int) (Ho:Int) (Uf:Int) (Ug:Bool) (Uh:Int) (Ui:Int) (acB:Bool) (aA σ:Nat->PV) (H:AH) (f0:Fr MF aA σ) (sl:σ 6=(.ref (gH) 0)/\σ 12=(.ref (Ow) 0)/\σ 70=(.bool acB)/\H.obj gH=some [(.str fF),(.int .i64 iK),(.int .i64 iB),(.int .i64 gQ),(.bool iC),(.int .i64 iL),(.int .i64 iM)]/\H.obj Ow=some [(.str El),(.int .i64 Hl),(.int .i64 Ho),(.int .i64 Uf),(.bool Ug),(.int .i64 Uh),(.int .i64 Ui)]) (jM:gH<H.next) (Sb:Ow<H.next) (Dq:gH≠Ow) (o:Bool) (h:wW fF iK iB gQ iC iL iM El Hl Ho Uf Ug Uh Ui acB=some o) (Q:Post) (q0: ∀(p:Bool) (σ':Nat->PV),o=p->Fr MF aA σ'->(σ' 103=(.bool p))->Q .normal σ' H),dD Tryz.prog Q6 (Q .normal) σ H:=by
  intro gH Ow fF iK iB gQ iC iL iM El Hl Ho Uf Ug Uh Ui acB aA σ H f0 sl jM Sb Dq o h Q q0;obtain⟨s6,s12,s70,Pv,ax0⟩:=sl;have Pw:=ne_next jM;have Px:=aR jM;have ax1:=ne_next Sb;have ax2:=aR Sb;have an4:=eq_false Dq;have an5:=eq_false (Ne.symm Dq);unfold wW at h;refine dB ?_;unfold Q6;rcases au h with⟨e21,h⟩|⟨e21,h⟩
  ·rcases au h with⟨e22,h⟩|⟨e22,h⟩
   ·rcases au h with⟨e23,h⟩|⟨e23,h⟩
    ·cases h;refine ah ?_
     exact q0 _ _ rfl aM ak
    ·rcases au h with⟨e24,h⟩|⟨e24,h⟩
     ·rcases au h with⟨e25,h⟩|⟨e25,h⟩
      ·cases h;refine ah ?_
       exact q0 _ _ rfl aM ak
      ·rcases au h with⟨e26,h⟩|⟨e26,h⟩
       ·cases h;refine ah ?_
        exact q0 _ _ rfl aM ak
       ·cases h;refine ah ?_
        exact q0 _ _ rfl aM ak
     ·rcases au h with⟨e27,h⟩|⟨e27,h⟩
      ·cases h;refine ah ?_
       exact q0 _ _ rfl aM ak
      ·cases h;refine ah ?_
       exact q0 _ _ rfl aM ak
   ·rcases au h with⟨e28,h⟩|⟨e28,h⟩
    ·rcases au h with⟨e29,h⟩|⟨e29,h⟩
     ·cases h;refine ah ?_
      exact q0 _ _ rfl aM ak
     ·rcases au h with⟨e30,h⟩|⟨e30,h⟩
      ·cases h;refine ah ?_
       exact q0 _ _ rfl aM ak
      ·cases h;refine ah ?_
       exact q0 _ _ rfl aM ak
    ·rcases au h with⟨e31,h⟩|⟨e31,h⟩
     ·cases h;refine ah ?_
      exact q0 _ _ rfl aM ak
     ·cases h;refine ah ?_
      exact q0 _ _ rfl aM ak
  ·cases h;refine ah ?_
   exact q0 _ _ rfl aM ak
def Ce (fF:Str) (iK:Int) (iB:Int) (gQ:Int) (iC:Bool) (iL:Int) (iM:Int) (Uj:Bool):Option Bool:=
  cond Uj (Option.bind (fF[0]?) fun x47=>some ((decide ((x47.toNat:Int)<=90)))) (some (false))
def MG:List Nat:=[116,117,118,119,120]
theorem X0: ∀(gH:Nat) (fF:Str) (iK:Int) (iB:Int) (gQ:Int) (iC:Bool) (iL:Int) (iM:Int) (Uj:Bool) (aA σ:Nat->PV) (H:AH) (f0:Fr MG aA σ) (sl:σ 6=(.ref (gH) 0)/\σ 115=(.bool Uj)/\H.obj gH=some [(.str fF),(.int .i64 iK),(.int .i64 iB),(.int .i64 gQ),(.bool iC),(.int .i64 iL),(.int .i64 iM)]) (jM:gH<H.next) (o:Bool) (h:Ce fF iK iB gQ iC iL iM Uj=some o) (Q:Post) (q0: ∀(p:Bool) (σ':Nat->PV),o=p->Fr MG aA σ'->(σ' 120=(.bool p))->Q .normal σ' H),dD Tryz.prog Q7 (Q .normal) σ H:=by
  intro gH fF iK iB gQ iC iL iM Uj aA σ H f0 sl jM o h Q q0;obtain⟨s6,aB6,Pv⟩:=sl;have Pw:=ne_next jM;have Px:=aR jM;unfold Ce at h;refine dB ?_;unfold Q7;rcases au h with⟨e46,h⟩|⟨e46,h⟩
  ·obtain⟨x47,e48,h⟩:=aj h;cases h;refine ah ?_
   exact q0 _ _ rfl aM ak
  ·cases h;refine ah ?_
   exact q0 _ _ rfl aM ak
def wX (fF:Str) (iK:Int) (iB:Int) (gQ:Int) (iC:Bool) (iL:Int) (iM:Int) (Ae:Str):Option Str:=
  cond (fF==([45,46]:Str)) (some (([45]:Str))) (Option.bind (fF[0]?) fun x44=>Option.bind (Ce fF iK iB gQ iC iL iM (decide ((x44.toNat:Int)>=65))) (fun p51=>cond p51 (if Ae.length+([32]:Str).length<=4611686018427387904 then some ((Ae++([32]:Str)))else none) (some (Ae))))
def MH:List Nat:=[15]++List.range' 106 17
theorem X3: ∀(gH:Nat) (fF:Str) (iK:Int) (iB:Int) (gQ:Int) (iC:Bool) (iL:Int) (iM:Int) (Ae:Str) (aA σ:Nat->PV) (H:AH) (f0:Fr MH aA σ) (sl:σ 6=(.ref (gH) 0)/\σ 15=(.str Ae)/\H.obj gH=some [(.str fF),(.int .i64 iK),(.int .i64 iB),(.int .i64 gQ),(.bool iC),(.int .i64 iL),(.int .i64 iM)]) (jM:gH<H.next) (o:Str) (h:wX fF iK iB gQ iC iL iM Ae=some o) (Q:Post) (q0: ∀(p:Str) (σ':Nat->PV),o=p->Fr MH aA σ'->(σ' 15=(.str p))->Q .normal σ' H),W Tryz.prog Q8 Q σ H:=by
  intro gH fF iK iB gQ iC iL iM Ae aA σ H f0 sl jM o h Q q0;obtain⟨s6,s15,Pv⟩:=sl;have Pw:=ne_next jM;have Px:=aR jM;unfold wX at h;refine aD ?_;unfold Q8;rcases au h with⟨e43,h⟩|⟨e43,h⟩
  ·cases h;refine ah ?_
   exact q0 _ _ rfl aM ak
  ·obtain⟨x44,e45,h⟩:=aj h;refine ah ?_
   obtain⟨o49,h50,h⟩:=aj h;refine X0 (gH) fF iK iB gQ iC iL iM (decide ((x44.toNat:Int)>=65)) _ _ _ (Fr.refl _ _) ak bJ _ h50 _ ?_
   ·rintro p51 σ' eo ake s55;rw [eo]at h;have s56:σ' 15=(.str Ae):=(ake 15 (by decide)).trans ak;rcases au h with⟨e57,h⟩|⟨e57,h⟩
    ·obtain⟨e58,h⟩:=aL h;refine ah ?_
     refine aY (aW e58) ?_;cases h;refine ah ?_
     exact q0 _ _ rfl (by repeat (first|exact f0|refine Fr.upd (by decide) ?_|refine Fr.via ake (by decide) ?_)) ak
    ·cases h;refine ah ?_
     exact q0 _ _ rfl (by repeat (first|exact f0|refine Fr.upd (by decide) ?_|refine Fr.via ake (by decide) ?_)) ak
def wY (fF:Str) (iK:Int) (iB:Int) (gQ:Int) (iC:Bool) (iL:Int) (iM:Int) (acC:Int) (Ox:Str) (Uk:Int) (Oy:Int) (Ul:Int) (Um:Bool) (Un:Int) (Uo:Int) (Uq:Bool):Option Bool:=
  cond Uq (cond (decide (Oy<=gQ)) (cond (acC==0) (cond (Ox==fF) (some ((!iC))) (some (true))) (some (true))) (some (false))) (some (false))
def MI:List Nat:=List.range' 153 22
theorem X4: ∀(gH:Nat) (Oz:Nat) (fF:Str) (iK:Int) (iB:Int) (gQ:Int) (iC:Bool) (iL:Int) (iM:Int) (acC:Int) (Ox:Str) (Uk:Int) (Oy:Int) (Ul:Int) (Um:Bool) (Un:Int) (Uo:Int) (Uq:Bool) (aA σ:Nat->PV) (H:AH) (f0:Fr MI aA σ) (sl:σ 6=(.ref (gH) 0)/\σ 18=(.int .i64 acC)/\σ 20=(.ref (Oz) 0)/\σ 152=(.bool Uq)/\H.obj gH=some [(.str fF),(.int .i64 iK),(.int .i64 iB),(.int .i64 gQ),(.bool iC),(.int .i64 iL),(.int .i64 iM)]/\H.obj Oz=some [(.str Ox),(.int .i64 Uk),(.int .i64 Oy),(.int .i64 Ul),(.bool Um),(.int .i64 Un),(.int .i64 Uo)]) (jM:gH<H.next) (Sd:Oz<H.next) (Dr:gH≠Oz) (o:Bool) (h:wY fF iK iB gQ iC iL iM acC Ox Uk Oy Ul Um Un Uo Uq=some o) (Q:Post) (q0: ∀(p:Bool) (σ':Nat->PV),o=p->Fr MI aA σ'->(σ' 174=(.bool p))->Q .normal σ' H),dD Tryz.prog Q9 (Q .normal) σ H:=by
  intro gH Oz fF iK iB gQ iC iL iM acC Ox Uk Oy Ul Um Un Uo Uq aA σ H f0 sl jM Sd Dr o h Q q0;obtain⟨s6,qB,s20,aB7,Pv,ax3⟩:=sl;have Pw:=ne_next jM;have Px:=aR jM;have ax4:=ne_next Sd;have ax5:=aR Sd;have an6:=eq_false Dr;have an7:=eq_false (Ne.symm Dr);unfold wY at h;refine dB ?_;unfold Q9;rcases au h with⟨e79,h⟩|⟨e79,h⟩
  ·rcases au h with⟨e80,h⟩|⟨e80,h⟩
   ·rcases au h with⟨e81,h⟩|⟨e81,h⟩
    ·rcases au h with⟨e82,h⟩|⟨e82,h⟩
     ·cases h;refine ah ?_
      exact q0 _ _ rfl aM ak
     ·cases h;refine ah ?_
      exact q0 _ _ rfl aM ak
    ·cases h;refine ah ?_
     exact q0 _ _ rfl aM ak
   ·cases h;refine ah ?_
    exact q0 _ _ rfl aM ak
  ·cases h;refine ah ?_
   exact q0 _ _ rfl aM ak
def MJ:List Nat:=[16,18,19,20,21,22]++List.range' 140 49
def Ur:List Nat:=[5,7]++List.range' 10 11
def OA:List Nat:=[5,6,7]++List.range' 11 19
def Fx (sW:Str) (Hq:Str) (wZ:Bool):Option Bool:=
  cond wZ (Option.bind (dZ Hq ([92,105,110,32]:Str)) fun jq=>some (jq)) (cond (sW==([66,79,79,76,69,65,78]:Str)) (Option.bind (dZ Hq ([92,105,110,32]:Str)) fun Qm=>some (Qm)) (cond (sW==([83,84,82,73,78,71]:Str)) (Option.bind (dZ Hq ([92,105,110,32]:Str)) fun mR=>some (mR)) (some (false))))
def QD:List Nat:=List.range' 21 11
theorem acD: ∀(sW:Str) (Hq:Str) (wZ:Bool) (aA σ:Nat->PV) (H:AH) (f0:Fr QD aA σ) (sl:σ 6=(.str sW)/\σ 7=(.str Hq)/\σ 20=(.bool wZ)) (o:Bool) (h:Fx sW Hq wZ=some o) (Q:Post) (q0: ∀(p:Bool) (σ':Nat->PV),o=p->Fr QD aA σ'->(σ' 31=(.bool p))->Q .normal σ' H),dD Tryz.prog Gg (Q .normal) σ H:=by
  intro sW Hq wZ aA σ H f0 sl o h Q q0;obtain⟨s6,s7,s20⟩:=sl;unfold Fx at h;refine dB ?_;unfold Gg;rcases au h with⟨e12,h⟩|⟨e12,h⟩
  ·obtain⟨jq,e13,h⟩:=aj h;refine ah ?_
   refine av (jr e13) ?_;cases h;refine ah ?_
   exact q0 _ _ rfl aM ak
  ·rcases au h with⟨e15,h⟩|⟨e15,h⟩
   ·obtain⟨Qm,e16,h⟩:=aj h;refine ah ?_
    refine av (jr e16) ?_;cases h;refine ah ?_
    exact q0 _ _ rfl aM ak
   ·rcases au h with⟨e18,h⟩|⟨e18,h⟩
    ·obtain⟨mR,e19,h⟩:=aj h;refine ah ?_
     refine av (jr e19) ?_;cases h;refine ah ?_
     exact q0 _ _ rfl aM ak
    ·cases h;refine ah ?_
     exact q0 _ _ rfl aM ak
def Cg (sW:Str) (wZ:Bool):Option Bool:=
  cond wZ (Option.bind (dZ [] ([92,105,110,32]:Str)) fun p36=>some (p36)) (cond (sW==([66,79,79,76,69,65,78]:Str)) (Option.bind (dZ [] ([92,105,110,32]:Str)) fun p39=>some (p39)) (cond (sW==([83,84,82,73,78,71]:Str)) (Option.bind (dZ [] ([92,105,110,32]:Str)) fun p42=>some (p42)) (some (false))))
def MK:List Nat:=List.range' 21 11
theorem X5: ∀(sW:Str) (wZ:Bool) (aA σ:Nat->PV) (H:AH) (f0:Fr MK aA σ) (sl:σ 6=(.str sW)/\σ 7=(.str [])/\σ 20=(.bool wZ)) (o:Bool) (h:Cg sW wZ=some o) (Q:Post) (q0: ∀(p:Bool) (σ':Nat->PV),o=p->Fr MK aA σ'->(σ' 31=(.bool p))->Q .normal σ' H),dD Tryz.prog Gg (Q .normal) σ H:=by
  intro sW wZ aA σ H f0 sl o h Q q0;obtain⟨s6,s7,s20⟩:=sl;unfold Cg at h;refine dB ?_;unfold Gg;rcases au h with⟨e34,h⟩|⟨e34,h⟩
  ·obtain⟨p36,e35,h⟩:=aj h;refine ah ?_
   refine av (jr e35) ?_;cases h;refine ah ?_
   exact q0 _ _ rfl aM ak
  ·rcases au h with⟨e37,h⟩|⟨e37,h⟩
   ·obtain⟨p39,e38,h⟩:=aj h;refine ah ?_
    refine av (jr e38) ?_;cases h;refine ah ?_
    exact q0 _ _ rfl aM ak
   ·rcases au h with⟨e40,h⟩|⟨e40,h⟩
    ·obtain⟨p42,e41,h⟩:=aj h;refine ah ?_
     refine av (jr e41) ?_;cases h;refine ah ?_
     exact q0 _ _ rfl aM ak
    ·cases h;refine ah ?_
     exact q0 _ _ rfl aM ak
def OB:List Nat:=[7,8,9]++List.range' 13 20
def QE:List Nat:=[5,7]++List.range' 12 43
def Hr (mq:List Str) (Ht:Str) (Dt:Str):Option ((Str×Str)):=
  cond (decide ((mq.length:Int)>0)) (if mq.length<=1099511627776 then if(Lib.join mq ([44,32]:Str)).length<=140737488355328 then if([40]:Str).length+(Lib.join mq ([44,32]:Str)).length<=4611686018427387904 then if(40::(Lib.join mq ([44,32]:Str))).length+([41]:Str).length<=4611686018427387904 then if Ht.length+(40::((Lib.join mq ([44,32]:Str))++([41]:Str))).length<=4611686018427387904 then Option.bind (acA [([95]:Str)] (mq.length:Int)) fun mQ=>if mQ.length<=1099511627776 then if(Lib.join mQ ([44,32]:Str)).length<=140737488355328 then if([40]:Str).length+(Lib.join mQ ([44,32]:Str)).length<=4611686018427387904 then if(40::(Lib.join mQ ([44,32]:Str))).length+([41]:Str).length<=4611686018427387904 then if Dt.length+(40::((Lib.join mQ ([44,32]:Str))++([41]:Str))).length<=4611686018427387904 then some (((Ht++(40::((Lib.join mq ([44,32]:Str))++([41]:Str)))),(Dt++(40::((Lib.join mQ ([44,32]:Str))++([41]:Str))))))else none else none else none else none else none else none else none else none else none else none) (some ((Ht,Dt)))
def YU:List Nat:=[6,7]++List.range' 19 18
theorem agc: ∀(mq:List Str) (Ht:Str) (Dt:Str) (aA σ:Nat->PV) (H:AH) (f0:Fr YU aA σ) (sl:σ 5=(.aB (mq.map aU) .unk)/\σ 6=(.str Ht)/\σ 7=(.str Dt)) (o:(Str×Str)) (h:Hr mq Ht Dt=some o) (Q:Post) (q0: ∀(p:Str×Str) (σ':Nat->PV),o=p->Fr YU aA σ'->(σ' 6=(.str p.1)/\σ' 7=(.str p.2))->Q .normal σ' H),W Tryz.prog RD Q σ H:=by
  intro mq Ht Dt aA σ H f0 sl o h Q q0;obtain⟨s5,s6,s7⟩:=sl;unfold Hr at h;refine aD ?_;unfold RD;rcases au h with⟨e4,h⟩|⟨e4,h⟩
  ·obtain⟨e5,h⟩:=aL h;obtain⟨e6,h⟩:=aL h;refine ah ?_
   refine av (yM mq ([44,32]:Str) (by assumption) (by assumption)) ?_;obtain⟨e7,h⟩:=aL h;refine ah ?_
   refine aY (aW e7) ?_;obtain⟨e8,h⟩:=aL h;refine ah ?_
   refine aY (aW e8) ?_;obtain⟨e9,h⟩:=aL h;refine ah ?_
   refine aY (aW e9) ?_;obtain⟨mQ,e10,h⟩:=aj h;refine ah ?_
   refine av (asJ [([95]:Str)] (mq.length:Int) e10) ?_;obtain⟨e12,h⟩:=aL h;obtain⟨e13,h⟩:=aL h;refine ah ?_
   refine av (yM mQ ([44,32]:Str) (by assumption) (by assumption)) ?_;obtain⟨e14,h⟩:=aL h;refine ah ?_
   refine aY (aW e14) ?_;obtain⟨e15,h⟩:=aL h;refine ah ?_
   refine aY (aW e15) ?_;obtain⟨e16,h⟩:=aL h;refine ah ?_
   refine aY (aW e16) ?_;cases h;refine ah ?_
   exact q0 _ _ rfl aM ak
  ·cases h;refine ah ?_
   exact q0 _ _ rfl aM ak
def xR (k:Nat) (aZ:Int) (bS:Int) (bG:Str) (bT:List Str) (bY:List Int) (acE:Bool):Option Bool:=
  cond acE (Option.bind (oK k bG) fun p6=>cond p6 (Option.bind (dY k [([84,82,85,69]:Str),([70,65,76,83,69]:Str),([66,79,79,76,69,65,78]:Str),([83,84,82,73,78,71]:Str)] bG) fun p9=>some ((!p9))) (some (false))) (some (false))
def I4:List Nat:=List.range' 16 11
theorem Sg (k:Nat): ∀(cK:Nat) (aZ:Int) (bS:Int) (bG:Str) (bT:List Str) (bY:List Int) (acE:Bool) (aA σ:Nat->PV) (H:AH) (f0:Fr I4 aA σ) (sl:σ 5=(.ref (cK) 0)/\σ 15=(.bool acE)/\H.obj cK=some [(.int .i64 aZ),(.int .i64 bS),(.str bG),(.aB (bT.map aU) .unk),(.aB (bY.map bD) .unk)]) (dh:cK<H.next) (o:Bool) (h:xR k aZ bS bG bT bY acE=some o) (Q:Post) (q0: ∀(p:Bool) (σ':Nat->PV),o=p->Fr I4 aA σ'->(σ' 26=(.bool p))->Q .normal σ' H),dD Tryz.prog Ru (Q .normal) σ H:=by
  intro cK aZ bS bG bT bY acE aA σ H f0 sl dh o h Q q0;obtain⟨s5,s15,xB⟩:=sl;have xC:=ne_next dh;have xD:=aR dh;unfold xR at h;refine dB ?_;unfold Ru;rcases au h with⟨e4,h⟩|⟨e4,h⟩
  ·obtain⟨p6,e5,h⟩:=aj h;refine ah ?_
   refine av (rA e5) ?_;rcases au h with⟨e7,h⟩|⟨e7,h⟩
   ·obtain⟨p9,e8,h⟩:=aj h;refine ah ?_
    refine av (kZ e8) ?_;cases h;refine ah ?_
    exact q0 _ _ rfl aM ak
   ·cases h;refine ah ?_
    exact q0 _ _ rfl aM ak
  ·cases h;refine ah ?_
   exact q0 _ _ rfl aM ak
mutual
def eu:Nat->Printer->Int->Bool->Option Str
  |0,_,_,_=>none
  |k+1,p_0,bB,kJ=>
    Option.bind (Ej k bB p_0.e kJ) (fun p9=>cond p9 (Option.bind (w9 k p_0 bB) fun kP=>some kP) (Option.bind (nJ k p_0 bB) fun tC=>cond tC.2 (Option.bind (Af k p_0 bB tC.1 kJ) fun mg=>some mg) (Option.bind (Hu k p_0 bB) fun p26=>some p26)))
def w9:Nat->Printer->Int->Option Str
  |0,_,_=>none
  |k+1,p_0,bB=>
    Option.bind (eu k p_0 bB false) fun p2=>if([40]:Str).length+p2.length<=4611686018427387904 then if(40::p2).length+([41]:Str).length<=4611686018427387904 then some (40::(p2++([41]:Str)))else none else none
def kK:Nat->Printer->Int->Bool->Bool->Option Str
  |0,_,_,_,_=>none
  |k+1,p_0,bB,KG,cO=>
    cond KG (Option.bind (w9 k p_0 bB) fun p3=>some p3) (Option.bind (eu k p_0 bB cO) fun p5=>some p5)
def jP:Nat->Bool->(List Nd)->Str->Int->Int->Int->Bool->Int->Int->(List Str)->Int->(List Int)->Int->Int->Option (List Str)
  |0,_,_,_,_,_,_,_,_,_,_,_,_,_,_=>none
  |k+1,cO,vM,fF,iK,iB,gQ,iC,iL,iM,qF,sZ,Ch,Ci,rO=>
    cond (decide (rO<Ci)) (if 0<=rO then Option.bind (Ch[rO.toNat]?) fun x75=>Option.bind (nJ k (Printer.mk vM) x75) fun Em=>Option.bind (wY fF iK iB gQ iC iL iM rO Em.1.text Em.1.fix Em.1.low Em.1.high Em.1.left Em.1.least Em.1.most Em.2) (fun p85=>cond (decide (rO<sZ)) (Option.bind (kK k (Printer.mk vM) x75 p85 true) fun RS=>if(qF.length+1)*16<=1099511627776 then jP k cO vM fF iK iB gQ iC iL iM (qF++[RS]) sZ Ch Ci (IntKind.wrap .i64 (rO+1))else none) (Option.bind (kK k (Printer.mk vM) x75 p85 cO) fun agd=>if(qF.length+1)*16<=1099511627776 then jP k cO vM fF iK iB gQ iC iL iM (qF++[agd]) sZ Ch Ci (IntKind.wrap .i64 (rO+1))else none))else none) (some (qF))
def Af:Nat->Printer->Int->Operator->Bool->Option Str
  |0,_,_,_,_=>none
  |k+1,p_0,bB,fG,cO=>
    if 0<=bB then Option.bind (p_0.e[bB.toNat]?) fun x2=>cond (fG.fix==2) (Option.bind (x2.args[0]?) fun x5=>Option.bind (nJ k p_0 x5) fun p8=>cond p8.2 (Option.bind (kK k p_0 x5 (!(p8.1.text==fG.text)) true) fun mQ=>if mQ.length+fG.text.length<=4611686018427387904 then some (mQ++fG.text)else none) (Option.bind (kK k p_0 x5 false true) fun jq=>if jq.length+fG.text.length<=4611686018427387904 then some (jq++fG.text)else none)) (cond (fG.fix==0) (Option.bind (x2.args[0]?) fun CB=>Option.bind (nJ k p_0 CB) fun mR=>Option.bind (wW fG.text fG.fix fG.low fG.high fG.left fG.least fG.most mR.1.text mR.1.fix mR.1.low mR.1.high mR.1.left mR.1.least mR.1.most mR.2) (fun p34=>Option.bind (wX fG.text fG.fix fG.low fG.high fG.left fG.least fG.most fG.text) (fun p61=>Option.bind (kK k p_0 CB p34 cO) fun p71=>if p61.length+p71.length<=4611686018427387904 then some (p61++p71)else none))) (Option.bind (jP k cO p_0.e fG.text fG.fix fG.low fG.high fG.left fG.least fG.most ([]:List Str) (IntKind.wrap .i64 ((x2.args.length:Int) -1)) x2.args (x2.args.length:Int) 0) (fun acG=>if([32]:Str).length+fG.text.length<=4611686018427387904 then if(32::fG.text).length+([32]:Str).length<=4611686018427387904 then if acG.length<=1099511627776 then if(Lib.join acG (32::(fG.text++([32]:Str)))).length<=140737488355328 then some (Lib.join acG (32::(fG.text++([32]:Str))))else none else none else none else none)))else none
def rP:Nat->(List Nd)->(List Str)->(List Int)->Int->Int->Option (List Str)
  |0,_,_,_,_,_=>none
  |k+1,iN,cZ,fQ,pX,iX=>
    cond (decide (iX<pX)) (if 0<=iX then Option.bind (fQ[iX.toNat]?) fun x3=>Option.bind (eu k (Printer.mk iN) x3 false) fun p6=>if(cZ.length+1)*16<=1099511627776 then rP k iN (cZ++[p6]) fQ pX (IntKind.wrap .i64 (iX+1))else none else none) (some (cZ))
def Cj:Nat->Printer->(List Int)->Option Str
  |0,_,_=>none
  |k+1,p_0,l_1=>
    Option.bind (rP k p_0.e ([]:List Str) l_1 (l_1.length:Int) 0) (fun sj=>if sj.length<=1099511627776 then if(Lib.join sj ([44,32]:Str)).length<=140737488355328 then some (Lib.join sj ([44,32]:Str))else none else none)
def nK:Nat->(List Nd)->Int->Int->Str->(List Str)->(List Int)->(List Str)->(List Str)->Int->Int->Option (List Str)
  |0,_,_,_,_,_,_,_,_,_,_=>none
  |k+1,iN,uE,uF,uG,uH,pK,cZ,pX,iX,bF=>
    cond (decide (bF<iX)) (if 0<=bF then Option.bind (pX[bF.toNat]?) fun x3=>if x3.length+([32,92,105,110,32]:Str).length<=4611686018427387904 then Option.bind (pK[bF.toNat]?) fun x6=>Option.bind (eu k (Printer.mk iN) x6 false) fun p9=>if(x3++([32,92,105,110,32]:Str)).length+p9.length<=4611686018427387904 then if(cZ.length+1)*16<=1099511627776 then nK k iN uE uF uG uH pK (cZ++[(x3++(32::92::105::110::32::p9))]) pX iX (IntKind.wrap .i64 (bF+1))else none else none else none else none) (some (cZ))
def qG:Nat->Printer->Nd->Option Str
  |0,_,_=>none
  |k+1,p_0,bP=>
    Option.bind (nK k p_0.e bP.kind bP.n bP.text bP.names bP.args ([]:List Str) bP.names (bP.names.length:Int) 0) (fun mg=>if mg.length<=1099511627776 then if(Lib.join mg ([44,32]:Str)).length<=140737488355328 then some (Lib.join mg ([44,32]:Str))else none else none)
def FZ:Nat->Printer->Int->Option Str
  |0,_,_=>none
  |k+1,p_0,bB=>
    Option.bind (eu k p_0 bB false) fun p2=>Option.bind (abz p2 ([32]:Str)) fun p6=>cond (decide (p6>=0)) (if 0<=p6/\p6.toNat<=p2.length then if 0<=(IntKind.wrap .i64 (p6+1))/\(IntKind.wrap .i64 (p6+1)).toNat<=p2.length then Option.bind (oK k (p2.take p6.toNat)) fun mQ=>Option.bind (Fx (p2.take p6.toNat) (p2.drop (IntKind.wrap .i64 (p6+1)).toNat) mQ) (fun EO=>cond EO (if([40]:Str).length+p2.length<=4611686018427387904 then if(40::p2).length+([41]:Str).length<=4611686018427387904 then some (40::(p2++([41]:Str)))else none else none) (some p2))else none else none) (Option.bind (oK k p2) fun p33=>Option.bind (Cg p2 p33) (fun p45=>cond p45 (if([40]:Str).length+p2.length<=4611686018427387904 then if(40::p2).length+([41]:Str).length<=4611686018427387904 then some (40::(p2++([41]:Str)))else none else none) (some p2)))
def nL:Nat->Str->(List Nd)->Int->Int->Str->(List Str)->(List Int)->(List Str)->(List Str)->Int->Int->Option (List Str)
  |0,_,_,_,_,_,_,_,_,_,_,_=>none
  |k+1,lT,uD,LD,LG,LH,LJ,I5,nE,bF,mJ,iD=>
    cond (decide (iD<mJ)) (if 0<=iD then Option.bind (bF[iD.toNat]?) fun x3=>if x3.length+lT.length<=4611686018427387904 then Option.bind (I5[iD.toNat]?) fun x6=>Option.bind (eu k (Printer.mk uD) x6 false) fun p9=>if(x3++lT).length+p9.length<=4611686018427387904 then if(nE.length+1)*16<=1099511627776 then nL k lT uD LD LG LH LJ I5 (nE++[(x3++(lT++p9))]) bF mJ (IntKind.wrap .i64 (iD+1))else none else none else none else none) (some (nE))
def zP:Nat->Printer->Nd->Str->Option Str
  |0,_,_,_=>none
  |k+1,p_0,bP,lT=>
    Option.bind (nL k lT p_0.e bP.kind bP.n bP.text bP.names bP.args ([]:List Str) bP.names (bP.names.length:Int) 0) (fun mg=>if mg.length<=1099511627776 then if(Lib.join mg ([44,32]:Str)).length<=140737488355328 then some (Lib.join mg ([44,32]:Str))else none else none)
def nM:Nat->(List Nd)->Int->Int->Str->(List Str)->(List Int)->(List Str)->Int->Int->Option (List Str)
  |0,_,_,_,_,_,_,_,_,_=>none
  |k+1,iN,uE,uF,uG,uH,pK,cZ,xg,gy=>
    cond (decide (gy<=xg)) (cond (gy==xg) (if 0<=gy then Option.bind (pK[gy.toNat]?) fun x4=>Option.bind (eu k (Printer.mk iN) x4 false) fun p7=>if([79,84,72,69,82,32,45,62,32]:Str).length+p7.length<=4611686018427387904 then if(cZ.length+1)*16<=1099511627776 then some ((cZ++[(79::84::72::69::82::32::45::62::32::p7)]))else none else none else none) (if 0<=gy then Option.bind (pK[gy.toNat]?) fun CB=>Option.bind (eu k (Printer.mk iN) CB false) fun mR=>if mR.length+([32,45,62,32]:Str).length<=4611686018427387904 then if 0<=(IntKind.wrap .i64 (gy+1))then Option.bind (pK[(IntKind.wrap .i64 (gy+1)).toNat]?) fun x23=>Option.bind (eu k (Printer.mk iN) x23 (decide ((IntKind.wrap .i64 (gy+1))<xg))) fun p26=>if(mR++([32,45,62,32]:Str)).length+p26.length<=4611686018427387904 then if(cZ.length+1)*16<=1099511627776 then nM k iN uE uF uG uH pK (cZ++[(mR++(32::45::62::32::p26))]) xg (IntKind.wrap .i64 (gy+2))else none else none else none else none else none)) (some (cZ))
def KH:Nat->Printer->Nd->Option Str
  |0,_,_=>none
  |k+1,p_0,bP=>
    Option.bind (nM k p_0.e bP.kind bP.n bP.text bP.names bP.args ([]:List Str) (IntKind.wrap .i64 ((bP.args.length:Int) -1)) 0) (fun p45=>if p45.length<=1099511627776 then if(Lib.join p45 ([32,91,93,32]:Str)).length<=140737488355328 then if([67,65,83,69,32]:Str).length+(Lib.join p45 ([32,91,93,32]:Str)).length<=4611686018427387904 then some (67::65::83::69::32::(Lib.join p45 ([32,91,93,32]:Str)))else none else none else none)
def Py:Nat->Printer->Nd->Option Str
  |0,_,_=>none
  |k+1,p_0,bP=>
    if 1<=bP.names.length then Option.bind (bP.names[0]?) fun x2=>Option.bind (Hr (bP.names.drop 1) x2 x2) (fun kP=>cond (bP.n==1) (if([82,69,67,85,82,83,73,86,69,32]:Str).length+kP.2.length<=4611686018427387904 then if(82::69::67::85::82::83::73::86::69::32::kP.2).length+([32]:Str).length<=4611686018427387904 then if(82::69::67::85::82::83::73::86::69::32::(kP.2++([32]:Str))).length+kP.1.length<=4611686018427387904 then if([76,69,84,32]:Str).length+(82::69::67::85::82::83::73::86::69::32::(kP.2++(32::kP.1))).length<=4611686018427387904 then if(76::69::84::32::82::69::67::85::82::83::73::86::69::32::(kP.2++(32::kP.1))).length+([32,61,61,32]:Str).length<=4611686018427387904 then Option.bind (bP.args[0]?) fun x33=>Option.bind (eu k p_0 x33 false) fun p36=>if(76::69::84::32::82::69::67::85::82::83::73::86::69::32::(kP.2++(32::(kP.1++([32,61,61,32]:Str))))).length+p36.length<=4611686018427387904 then if(76::69::84::32::82::69::67::85::82::83::73::86::69::32::(kP.2++(32::(kP.1++(32::61::61::32::p36))))).length+([32,73,78,32]:Str).length<=4611686018427387904 then Option.bind (bP.args[1]?) fun x39=>Option.bind (eu k p_0 x39 false) fun p42=>if(76::69::84::32::82::69::67::85::82::83::73::86::69::32::(kP.2++(32::(kP.1++(32::61::61::32::(p36++([32,73,78,32]:Str))))))).length+p42.length<=4611686018427387904 then some (76::69::84::32::82::69::67::85::82::83::73::86::69::32::(kP.2++(32::(kP.1++(32::61::61::32::(p36++(32::73::78::32::p42)))))))else none else none else none else none else none else none else none else none) (if([76,69,84,32]:Str).length+kP.1.length<=4611686018427387904 then if(76::69::84::32::kP.1).length+([32,61,61,32]:Str).length<=4611686018427387904 then Option.bind (bP.args[0]?) fun x46=>Option.bind (eu k p_0 x46 false) fun p49=>if(76::69::84::32::(kP.1++([32,61,61,32]:Str))).length+p49.length<=4611686018427387904 then if(76::69::84::32::(kP.1++(32::61::61::32::p49))).length+([32,73,78,32]:Str).length<=4611686018427387904 then Option.bind (bP.args[1]?) fun x52=>Option.bind (eu k p_0 x52 false) fun p55=>if(76::69::84::32::(kP.1++(32::61::61::32::(p49++([32,73,78,32]:Str))))).length+p55.length<=4611686018427387904 then some (76::69::84::32::(kP.1++(32::61::61::32::(p49++(32::73::78::32::p55)))))else none else none else none else none else none))else none
def KJ:Nat->Printer->Nd->Option Str
  |0,_,_=>none
  |k+1,p_0,bP=>
    if 0<=(IntKind.wrap .i64 ((bP.args.length:Int) -1))then Option.bind (bP.args[(IntKind.wrap .i64 ((bP.args.length:Int) -1)).toNat]?) fun x2=>Option.bind (eu k p_0 x2 false) fun p5=>cond (bP.kind==8) (Option.bind (qG k p_0 bP) fun p8=>if([92,65,32]:Str).length+p8.length<=4611686018427387904 then if(92::65::32::p8).length+([32,58,32]:Str).length<=4611686018427387904 then if(92::65::32::(p8++([32,58,32]:Str))).length+p5.length<=4611686018427387904 then some (92::65::32::(p8++(32::58::32::p5)))else none else none else none) (cond (bP.kind==9) (Option.bind (qG k p_0 bP) fun jq=>if([92,69,32]:Str).length+jq.length<=4611686018427387904 then if(92::69::32::jq).length+([32,58,32]:Str).length<=4611686018427387904 then if(92::69::32::(jq++([32,58,32]:Str))).length+p5.length<=4611686018427387904 then some (92::69::32::(jq++(32::58::32::p5)))else none else none else none) (cond (bP.kind==10) (if bP.names.length<=1099511627776 then if(Lib.join bP.names ([44,32]:Str)).length<=140737488355328 then if([92,65,32]:Str).length+(Lib.join bP.names ([44,32]:Str)).length<=4611686018427387904 then if(92::65::32::(Lib.join bP.names ([44,32]:Str))).length+([32,58,32]:Str).length<=4611686018427387904 then if(92::65::32::((Lib.join bP.names ([44,32]:Str))++([32,58,32]:Str))).length+p5.length<=4611686018427387904 then some (92::65::32::((Lib.join bP.names ([44,32]:Str))++(32::58::32::p5)))else none else none else none else none else none) (cond (bP.kind==11) (if bP.names.length<=1099511627776 then if(Lib.join bP.names ([44,32]:Str)).length<=140737488355328 then if([92,69,32]:Str).length+(Lib.join bP.names ([44,32]:Str)).length<=4611686018427387904 then if(92::69::32::(Lib.join bP.names ([44,32]:Str))).length+([32,58,32]:Str).length<=4611686018427387904 then if(92::69::32::((Lib.join bP.names ([44,32]:Str))++([32,58,32]:Str))).length+p5.length<=4611686018427387904 then some (92::69::32::((Lib.join bP.names ([44,32]:Str))++(32::58::32::p5)))else none else none else none else none else none) (cond (bP.kind==12) (Option.bind (qG k p_0 bP) fun p32=>if([67,72,79,79,83,69,32]:Str).length+p32.length<=4611686018427387904 then if(67::72::79::79::83::69::32::p32).length+([32,58,32]:Str).length<=4611686018427387904 then if(67::72::79::79::83::69::32::(p32++([32,58,32]:Str))).length+p5.length<=4611686018427387904 then some (67::72::79::79::83::69::32::(p32++(32::58::32::p5)))else none else none else none) (cond (bP.kind==21) (Option.bind (bP.args[0]?) fun x37=>Option.bind (eu k p_0 x37 false) fun p40=>if([73,70,32]:Str).length+p40.length<=4611686018427387904 then if(73::70::32::p40).length+([32,84,72,69,78,32]:Str).length<=4611686018427387904 then Option.bind (bP.args[1]?) fun x43=>Option.bind (eu k p_0 x43 false) fun p46=>if(73::70::32::(p40++([32,84,72,69,78,32]:Str))).length+p46.length<=4611686018427387904 then if(73::70::32::(p40++(32::84::72::69::78::32::p46))).length+([32,69,76,83,69,32]:Str).length<=4611686018427387904 then if(73::70::32::(p40++(32::84::72::69::78::32::(p46++([32,69,76,83,69,32]:Str))))).length+p5.length<=4611686018427387904 then some (73::70::32::(p40++(32::84::72::69::78::32::(p46++(32::69::76::83::69::32::p5)))))else none else none else none else none else none) (cond (bP.kind==22) (Option.bind (KH k p_0 bP) fun p52=>some p52) (cond (bP.kind==23) (Option.bind (Py k p_0 bP) fun p55=>some p55) (if bP.names.length<=1099511627776 then if(Lib.join bP.names ([44,32]:Str)).length<=140737488355328 then if([76,65,77,66,68,65,32]:Str).length+(Lib.join bP.names ([44,32]:Str)).length<=4611686018427387904 then if(76::65::77::66::68::65::32::(Lib.join bP.names ([44,32]:Str))).length+([32,58,32]:Str).length<=4611686018427387904 then if(76::65::77::66::68::65::32::((Lib.join bP.names ([44,32]:Str))++([32,58,32]:Str))).length+p5.length<=4611686018427387904 then some (76::65::77::66::68::65::32::((Lib.join bP.names ([44,32]:Str))++(32::58::32::p5)))else none else none else none else none else none))))))))else none
def Hu:Nat->Printer->Int->Option Str
  |0,_,_=>none
  |k+1,p_0,bB=>
    if 0<=bB then Option.bind (p_0.e[bB.toNat]?) fun x2=>cond (x2.kind==0) (if -9223372036854775808<=x2.n/\x2.n<=9223372036854775807 then some (Lib.itoa x2.n)else none) (cond (x2.kind==1) (if([34]:Str).length+x2.text.length<=4611686018427387904 then if(34::x2.text).length+([34]:Str).length<=4611686018427387904 then some (34::(x2.text++([34]:Str)))else none else none) (cond (x2.kind==2) (some x2.text) (cond (x2.kind==3) (if x2.text.length+([40]:Str).length<=4611686018427387904 then Option.bind (Cj k p_0 x2.args) fun yG=>if(x2.text++([40]:Str)).length+yG.length<=4611686018427387904 then if(x2.text++(40::yG)).length+([41]:Str).length<=4611686018427387904 then some (x2.text++(40::(yG++([41]:Str))))else none else none else none) (cond (x2.kind==4) (Option.bind (Cj k p_0 x2.args) fun sj=>if([60,60]:Str).length+sj.length<=4611686018427387904 then if(60::60::sj).length+([62,62]:Str).length<=4611686018427387904 then some (60::60::(sj++([62,62]:Str)))else none else none) (cond (x2.kind==5) (Option.bind (Cj k p_0 x2.args) fun EO=>if([123]:Str).length+EO.length<=4611686018427387904 then if(123::EO).length+([125]:Str).length<=4611686018427387904 then some (123::(EO++([125]:Str)))else none else none) (cond (x2.kind==6) (Option.bind (qG k p_0 x2) fun p28=>if([123]:Str).length+p28.length<=4611686018427387904 then if(123::p28).length+([32,58,32]:Str).length<=4611686018427387904 then Option.bind (x2.args[1]?) fun x31=>Option.bind (eu k p_0 x31 false) fun p34=>if(123::(p28++([32,58,32]:Str))).length+p34.length<=4611686018427387904 then if(123::(p28++(32::58::32::p34))).length+([125]:Str).length<=4611686018427387904 then some (123::(p28++(32::58::32::(p34++([125]:Str)))))else none else none else none else none) (cond (x2.kind==7) (if 0<=(IntKind.wrap .i64 ((x2.args.length:Int) -1))then Option.bind (x2.args[(IntKind.wrap .i64 ((x2.args.length:Int) -1)).toNat]?) fun x39=>Option.bind (FZ k p_0 x39) fun p42=>if([123]:Str).length+p42.length<=4611686018427387904 then if(123::p42).length+([32,58,32]:Str).length<=4611686018427387904 then Option.bind (qG k p_0 x2) fun p46=>if(123::(p42++([32,58,32]:Str))).length+p46.length<=4611686018427387904 then if(123::(p42++(32::58::32::p46))).length+([125]:Str).length<=4611686018427387904 then some (123::(p42++(32::58::32::(p46++([125]:Str)))))else none else none else none else none else none) (cond (x2.kind==13) (Option.bind (qG k p_0 x2) fun p51=>if([91]:Str).length+p51.length<=4611686018427387904 then if(91::p51).length+([32,124,45,62,32]:Str).length<=4611686018427387904 then if 0<=(IntKind.wrap .i64 ((x2.args.length:Int) -1))then Option.bind (x2.args[(IntKind.wrap .i64 ((x2.args.length:Int) -1)).toNat]?) fun x55=>Option.bind (eu k p_0 x55 false) fun p58=>if(91::(p51++([32,124,45,62,32]:Str))).length+p58.length<=4611686018427387904 then if(91::(p51++(32::124::45::62::32::p58))).length+([93]:Str).length<=4611686018427387904 then some (91::(p51++(32::124::45::62::32::(p58++([93]:Str)))))else none else none else none else none else none) (cond (x2.kind==14) (Option.bind (x2.args[0]?) fun x62=>Option.bind (Du k p_0 x62) fun p65=>if p65.length+([91]:Str).length<=4611686018427387904 then if 1<=x2.args.length then Option.bind (Cj k p_0 (x2.args.drop 1)) fun p69=>if(p65++([91]:Str)).length+p69.length<=4611686018427387904 then if(p65++(91::p69)).length+([93]:Str).length<=4611686018427387904 then some (p65++(91::(p69++([93]:Str))))else none else none else none else none) (cond (x2.kind==15) (Option.bind (x2.args[0]?) fun Yz=>Option.bind (eu k p_0 Yz false) fun Us=>if([91]:Str).length+Us.length<=4611686018427387904 then if(91::Us).length+([32,45,62,32]:Str).length<=4611686018427387904 then Option.bind (x2.args[1]?) fun x79=>Option.bind (eu k p_0 x79 false) fun p82=>if(91::(Us++([32,45,62,32]:Str))).length+p82.length<=4611686018427387904 then if(91::(Us++(32::45::62::32::p82))).length+([93]:Str).length<=4611686018427387904 then some (91::(Us++(32::45::62::32::(p82++([93]:Str)))))else none else none else none else none) (cond (x2.kind==16) (Option.bind (zP k p_0 x2 ([32,124,45,62,32]:Str)) fun Mc=>if([91]:Str).length+Mc.length<=4611686018427387904 then if(91::Mc).length+([93]:Str).length<=4611686018427387904 then some (91::(Mc++([93]:Str)))else none else none) (cond (x2.kind==17) (Option.bind (zP k p_0 x2 ([32,58,32]:Str)) fun p92=>if([91]:Str).length+p92.length<=4611686018427387904 then if(91::p92).length+([93]:Str).length<=4611686018427387904 then some (91::(p92++([93]:Str)))else none else none) (cond (x2.kind==18) (Option.bind (x2.args[0]?) fun x96=>Option.bind (Du k p_0 x96) fun p99=>if p99.length+([46]:Str).length<=4611686018427387904 then if(p99++([46]:Str)).length+x2.text.length<=4611686018427387904 then some (p99++(46::x2.text))else none else none) (cond (x2.kind==19) (Option.bind (x2.args[0]?) fun x103=>Option.bind (eu k p_0 x103 false) fun GV=>if([91]:Str).length+GV.length<=4611686018427387904 then if(91::GV).length+([32,69,88,67,69,80,84,32,33,91]:Str).length<=4611686018427387904 then Option.bind (x2.args[1]?) fun akf=>Option.bind (eu k p_0 akf false) fun Lj=>if(91::(GV++([32,69,88,67,69,80,84,32,33,91]:Str))).length+Lj.length<=4611686018427387904 then if(91::(GV++(32::69::88::67::69::80::84::32::33::91::Lj))).length+([93,32,61,32]:Str).length<=4611686018427387904 then Option.bind (x2.args[2]?) fun x115=>Option.bind (eu k p_0 x115 false) fun Jp=>if(91::(GV++(32::69::88::67::69::80::84::32::33::91::(Lj++([93,32,61,32]:Str))))).length+Jp.length<=4611686018427387904 then if(91::(GV++(32::69::88::67::69::80::84::32::33::91::(Lj++(93::32::61::32::Jp))))).length+([93]:Str).length<=4611686018427387904 then some (91::(GV++(32::69::88::67::69::80::84::32::33::91::(Lj++(93::32::61::32::(Jp++([93]:Str)))))))else none else none else none else none else none else none) (cond (x2.kind==20) (some ([64]:Str)) (cond (x2.kind==25) (Option.bind (x2.args[0]?) fun akg=>Option.bind (eu k p_0 akg false) fun acH=>if([91]:Str).length+acH.length<=4611686018427387904 then if(91::acH).length+([93,95]:Str).length<=4611686018427387904 then Option.bind (x2.args[1]?) fun akh=>Option.bind (nN k p_0 akh) fun XG=>if(91::(acH++([93,95]:Str))).length+XG.length<=4611686018427387904 then some (91::(acH++(93::95::XG)))else none else none else none) (cond (x2.kind==26) (Option.bind (x2.args[0]?) fun aki=>Option.bind (eu k p_0 aki false) fun Np=>if([60,60]:Str).length+Np.length<=4611686018427387904 then if(60::60::Np).length+([62,62,95]:Str).length<=4611686018427387904 then Option.bind (x2.args[1]?) fun akj=>Option.bind (nN k p_0 akj) fun Xg=>if(60::60::(Np++([62,62,95]:Str))).length+Xg.length<=4611686018427387904 then some (60::60::(Np++(62::62::95::Xg)))else none else none else none) (cond (x2.kind==27) (Option.bind (x2.args[1]?) fun akk=>Option.bind (nN k p_0 akk) fun X6=>if([87,70,95]:Str).length+X6.length<=4611686018427387904 then if(87::70::95::X6).length+([40]:Str).length<=4611686018427387904 then Option.bind (x2.args[0]?) fun x153=>Option.bind (eu k p_0 x153 false) fun RH=>if(87::70::95::(X6++([40]:Str))).length+RH.length<=4611686018427387904 then if(87::70::95::(X6++(40::RH))).length+([41]:Str).length<=4611686018427387904 then some (87::70::95::(X6++(40::(RH++([41]:Str)))))else none else none else none else none) (cond (x2.kind==28) (Option.bind (x2.args[1]?) fun x160=>Option.bind (nN k p_0 x160) fun X7=>if([83,70,95]:Str).length+X7.length<=4611686018427387904 then if(83::70::95::X7).length+([40]:Str).length<=4611686018427387904 then Option.bind (x2.args[0]?) fun akl=>Option.bind (eu k p_0 akl false) fun agf=>if(83::70::95::(X7++([40]:Str))).length+agf.length<=4611686018427387904 then if(83::70::95::(X7++(40::agf))).length+([41]:Str).length<=4611686018427387904 then some (83::70::95::(X7++(40::(agf++([41]:Str)))))else none else none else none else none) (Option.bind (KJ k p_0 x2) fun asR=>some asR))))))))))))))))))))else none
def Du:Nat->Printer->Int->Option Str
  |0,_,_=>none
  |k+1,p_0,bB=>
    Option.bind (nJ k p_0 bB) fun p2=>cond p2.2 (Option.bind (kK k p_0 bB true true) fun p5=>some p5) (if 0<=bB then Option.bind (p_0.e[bB.toNat]?) fun x7=>Option.bind (kK k p_0 bB (x7.kind==0) true) fun jo=>some jo else none)
def nN:Nat->Printer->Int->Option Str
  |0,_,_=>none
  |k+1,p_0,bB=>
    if 0<=bB then Option.bind (p_0.e[bB.toNat]?) fun x2=>Option.bind (xR k x2.kind x2.n x2.text x2.names x2.args (x2.kind==2)) (fun lW=>cond lW (Option.bind (kK k p_0 bB false false) fun Gn=>some Gn) (Option.bind (kK k p_0 bB (x2.kind !=4) false) fun mg=>some mg))else none
end
mutual
theorem eB (k:Nat): ∀(p_0:Printer) (bB:Int) (kJ:Bool) (r:Str) (h:eu k p_0 bB kJ=some r),aC Tryz.prog 59 [(.agg (Printer.cells p_0)),(.int .i64 bB),(.bool kJ)] (.str r):=by
  match k with
  |0=>intro p_0 bB kJ r h;rw [eu]at h;cases h
  |k+1=>
    intro p_0 bB kJ r h;refine aC.aP (bn.mem (.cons (.agg _ (Printer.pu _)) (.cons (.int _ _) (.cons (.bool _) .nil)))) (aK awI (by simp) (aD ?_)) (.str _);rw [eu]at h;unfold apP;refine ah ?_
    obtain⟨o7,h8,h⟩:=aj h;refine adF k (AH.empty.next) bB p_0.e kJ _ _ _ (Fr.refl _ _) ak bJ _ h8 _ ?_
    ·rintro p9 σ' eo abj s13;rw [eo]at h;have s14:σ' 1=(.int .i64 bB):=(abj 1 (by decide)).trans ak;have s15:σ' 2=(.bool kJ):=(abj 2 (by decide)).trans ak;have s16:σ' 3=(.ref (AH.empty.next) 0):=(abj 3 (by decide)).trans ak;rcases au h with⟨e17,h⟩|⟨e17,h⟩
     ·obtain⟨kP,e18,h⟩:=aj h;refine ah ?_
      refine av ((Ut k p_0 bB _ e18).wk (.same (.same .nil))) ?_;cases h;refine ah ?_
      exact(.pure _ (.str _))
     ·obtain⟨tC,e20,h⟩:=aj h;refine ah ?_
      refine av (wV e20) ?_;rcases au h with⟨e22,h⟩|⟨e22,h⟩
      ·obtain⟨mg,e23,h⟩:=aj h;refine ah ?_
       refine av ((adG k p_0 bB tC.1 kJ _ e23).wk (.same (.same (.same (.same .nil))))) ?_;cases h;refine ah ?_
       exact(.pure _ (.str _))
      ·obtain⟨p26,e25,h⟩:=aj h;refine ah ?_
       refine av ((akm k p_0 bB _ e25).wk (.same (.same .nil))) ?_;cases h;refine ah ?_
       exact(.pure _ (.str _))
theorem Ut (k:Nat): ∀(p_0:Printer) (bB:Int) (r:Str) (h:w9 k p_0 bB=some r),aC Tryz.prog 99 [(.agg (Printer.cells p_0)),(.int .i64 bB)] (.str r):=by
  match k with
  |0=>intro p_0 bB r h;rw [w9]at h;cases h
  |k+1=>
    intro p_0 bB r h;refine aC.aP (bn.mem (.cons (.agg _ (Printer.pu _)) (.cons (.int _ _) .nil))) (aK aw4 (by simp) (aD ?_)) (.str _);rw [w9]at h;unfold aqg;obtain⟨p2,e1,h⟩:=aj h;refine ah ?_
    refine av ((eB k p_0 bB false _ e1).wk (.same (.same (.same .nil)))) ?_;obtain⟨e3,h⟩:=aL h;refine ah ?_
    refine aY (aW e3) ?_;obtain⟨e4,h⟩:=aL h;refine ah ?_
    refine aY (aW e4) ?_;cases h;refine ah ?_
    exact(.pure _ (.str _))
theorem nO (k:Nat): ∀(p_0:Printer) (bB:Int) (KG:Bool) (cO:Bool) (r:Str) (h:kK k p_0 bB KG cO=some r),aC Tryz.prog 150 [(.agg (Printer.cells p_0)),(.int .i64 bB),(.bool KG),(.bool cO)] (.str r):=by
  match k with
  |0=>intro p_0 bB KG cO r h;rw [kK]at h;cases h
  |k+1=>
    intro p_0 bB KG cO r h;refine aC.aP (bn.mem (.cons (.agg _ (Printer.pu _)) (.cons (.int _ _) (.cons (.bool _) (.cons (.bool _) .nil))))) (aK atY (by simp) (aD ?_)) (.str _);rw [kK]at h;unfold alu;rcases au h with⟨e1,h⟩|⟨e1,h⟩
    ·obtain⟨p3,e2,h⟩:=aj h;refine ah ?_
     refine av ((Ut k p_0 bB _ e2).wk (.same (.same .nil))) ?_;cases h;refine ah ?_
     exact(.pure _ (.str _))
    ·obtain⟨p5,e4,h⟩:=aj h;refine ah ?_
     refine av ((eB k p_0 bB cO _ e4).wk (.same (.same (.same .nil)))) ?_;cases h;refine ah ?_
     exact(.pure _ (.str _))
theorem KM (k:Nat): ∀(xS:Nat) (gH:Nat) (cO:Bool) (vM:List Nd) (fF:Str) (iK:Int) (iB:Int) (gQ:Int) (iC:Bool) (iL:Int) (iM:Int) (qF:List Str) (sZ:Int) (Ch:List Int) (Ci:Int) (rO:Int) (qg:Ck) (aA σ:Nat->PV) (H0 H:AH) (f0:Fr MJ aA σ) (hf0:HF [] H0 H) (sl:σ 3=(.bool cO)/\σ 4=(.ref (xS) 0)/\σ 6=(.ref (gH) 0)/\σ 16=(.aB (qF.map aU) qg)/\σ 17=(.int .i64 sZ)/\σ 138=(.aB (Ch.map bD) .unk)/\σ 139=(.int .i64 Ci)/\σ 140=(.int .i64 rO)/\H.obj xS=some [(.aB (vM.map Nd.cells) .unk)]/\H.obj gH=some [(.str fF),(.int .i64 iK),(.int .i64 iB),(.int .i64 gQ),(.bool iC),(.int .i64 iL),(.int .i64 iM)]) (Pz:xS<H.next) (jM:gH<H.next) (zl:xS≠gH) (YV:eD H qg) (o:List Str) (h:jP k cO vM fF iK iB gQ iC iL iM qF sZ Ch Ci rO=some o) (Q:Post) (q0: ∀(p:List Str) (c0:Ck) (σ':Nat->PV) (H':AH),o=p->Fr MJ aA σ'->HF [] H0 H'->(σ' 16=(.aB (p.map aU) c0))->Q (.exit 2) σ' H'),W Tryz.prog (.loop Ra) Q σ H:=by
  match k with
  |0=>intro xS gH cO vM fF iK iB gQ iC iL iM qF sZ Ch Ci rO qg aA σ H0 H f0 hf0 sl Pz jM zl YV o h Q q0;rw [jP]at h;cases h
  |k+1=>
    have ih:=KM k;intro xS gH cO vM fF iK iB gQ iC iL iM qF sZ Ch Ci rO qg aA σ H0 H f0 hf0 sl Pz jM zl YV o h Q q0;obtain⟨s3,s4,s6,s16,s17,ar1,ar2,aB8,ayQ,Pv⟩:=sl;have ayR:=ne_next Pz;have ayS:=aR Pz;have Pw:=ne_next jM;have Px:=aR jM;have aol:=eq_false zl;have aom:=eq_false (Ne.symm zl);have hle0:=hf0.1;rw [jP]at h;refine bf (fun K hK=>aD ?_);unfold Ra;rcases au h with⟨Qn,h⟩|⟨Qn,h⟩
    ·obtain⟨e74,h⟩:=aL h;obtain⟨x75,Yp,h⟩:=aj h;obtain⟨Em,Qo,h⟩:=aj h;refine ah ?_
     refine av (wV Qo) ?_;refine ah ?_
     obtain⟨o83,h84,h⟩:=aj h;refine X4 (gH) (H.next) fF iK iB gQ iC iL iM rO Em.1.text Em.1.fix Em.1.low Em.1.high Em.1.left Em.1.least Em.1.most Em.2 _ _ _ (Fr.refl _ _) ak bJ bJ bJ _ h84 _ ?_
     ·rintro p85 σ' eo EL s89;rw [eo]at h;have s90:σ' 3=(.bool cO):=(EL 3 (by decide)).trans ak;have s91:σ' 4=(.ref (xS) 0):=(EL 4 (by decide)).trans ak;have s92:σ' 6=(.ref (gH) 0):=(EL 6 (by decide)).trans ak;have s93:σ' 16=(.aB (qF.map aU) qg):=(EL 16 (by decide)).trans ak;have s94:σ' 17=(.int .i64 sZ):=(EL 17 (by decide)).trans ak;have s95:σ' 18=(.int .i64 rO):=(EL 18 (by decide)).trans ak;have s96:σ' 19=(.int .i64 x75):=(EL 19 (by decide)).trans ak;have s97:σ' 138=(.aB (Ch.map bD) .unk):=(EL 138 (by decide)).trans ak;have s98:σ' 139=(.int .i64 Ci):=(EL 139 (by decide)).trans ak;have s99:σ' 140=(.int .i64 rO):=(EL 140 (by decide)).trans ak;rcases au h with⟨e100,h⟩|⟨e100,h⟩
      ·obtain⟨RS,RG,h⟩:=aj h;refine ah ?_
       refine av ((nO k (Printer.mk vM) x75 p85 true _ RG).wk (.same (.same (.same (.same .nil))))) ?_;obtain⟨GH,h⟩:=aL h;refine ah ?_
       refine kN (f:=aU) uV qF ([RS]:List Str) qg .exact ak ak eZ (by first|exact GH|(simp only [List.length_cons,List.length_nil];exact GH)) (fun ax6 Si aAY le auA aAZ=> ?_);have ZM:HF [] _ Si:=⟨le,fun i _ _=>auA i⟩;try simp only [AH.aF,AH.aG,AH.aH,AH.aI]at le
       have n119:=ne_next (show xS<Si.next by first|omega|(simp only [AH.aF,AH.aG,AH.aH,AH.aI];omega));have aB9:=aR (show xS<Si.next by first|omega|(simp only [AH.aF,AH.aG,AH.aH,AH.aI];omega));have n121:=ne_next (show gH<Si.next by first|omega|(simp only [AH.aF,AH.aG,AH.aH,AH.aI];omega));have aCa:=aR (show gH<Si.next by first|omega|(simp only [AH.aF,AH.aG,AH.aH,AH.aI];omega));have n123:=ne_next (show H.next<Si.next by first|omega|(simp only [AH.aF,AH.aG,AH.aH,AH.aI];omega));have aCb:=aR (show H.next<Si.next by first|omega|(simp only [AH.aF,AH.aG,AH.aH,AH.aI];omega));refine ah ?_
       refine hK _ _ ?_;exact ih xS gH cO vM fF iK iB gQ iC iL iM (qF++[RS]) sZ Ch Ci (IntKind.wrap .i64 (rO+1)) ax6 _ _ _ _ (by repeat (first|exact f0|refine Fr.upd (by decide) ?_|refine Fr.via EL (by decide) ?_)) (by repeat (first|exact hf0|refine HF.new ?_|refine HF.oG ?_|refine HF.used ?_|refine HF.put (by first|(right;omega)|(left;simp only [List.mem_cons,true_or,or_true])) ?_|refine HF.via ZM (by first|exact fun i hi=>absurd hi List.not_mem_nil|(intro i hi;simp only [List.mem_cons,List.not_mem_nil,or_false]at hi⊢;first|exact .inl hi|omega)) ?_)) ak bJ bJ bJ eZ _ h _ q0
      ·obtain⟨agd,Xa,h⟩:=aj h;refine ah ?_
       refine av ((nO k (Printer.mk vM) x75 p85 cO _ Xa).wk (.same (.same (.same (.same .nil))))) ?_;obtain⟨e116,h⟩:=aL h;refine ah ?_
       refine kN (f:=aU) uV qF ([agd]:List Str) qg .exact ak ak eZ (by first|exact e116|(simp only [List.length_cons,List.length_nil];exact e116)) (fun ax7 Sj ak7 le auB aA0=> ?_);have auC:HF [] _ Sj:=⟨le,fun i _ _=>auB i⟩;try simp only [AH.aF,AH.aG,AH.aH,AH.aI]at le
       have n125:=ne_next (show xS<Sj.next by first|omega|(simp only [AH.aF,AH.aG,AH.aH,AH.aI];omega));have aCc:=aR (show xS<Sj.next by first|omega|(simp only [AH.aF,AH.aG,AH.aH,AH.aI];omega));have n127:=ne_next (show gH<Sj.next by first|omega|(simp only [AH.aF,AH.aG,AH.aH,AH.aI];omega));have aCd:=aR (show gH<Sj.next by first|omega|(simp only [AH.aF,AH.aG,AH.aH,AH.aI];omega));have n129:=ne_next (show H.next<Sj.next by first|omega|(simp only [AH.aF,AH.aG,AH.aH,AH.aI];omega));have aCe:=aR (show H.next<Sj.next by first|omega|(simp only [AH.aF,AH.aG,AH.aH,AH.aI];omega));refine ah ?_
       refine hK _ _ ?_;exact ih xS gH cO vM fF iK iB gQ iC iL iM (qF++[agd]) sZ Ch Ci (IntKind.wrap .i64 (rO+1)) ax7 _ _ _ _ (by repeat (first|exact f0|refine Fr.upd (by decide) ?_|refine Fr.via EL (by decide) ?_)) (by repeat (first|exact hf0|refine HF.new ?_|refine HF.oG ?_|refine HF.used ?_|refine HF.put (by first|(right;omega)|(left;simp only [List.mem_cons,true_or,or_true])) ?_|refine HF.via auC (by first|exact fun i hi=>absurd hi List.not_mem_nil|(intro i hi;simp only [List.mem_cons,List.not_mem_nil,or_false]at hi⊢;first|exact .inl hi|omega)) ?_)) ak bJ bJ bJ eZ _ h _ q0
    ·cases h;refine ah ?_
     exact q0 _ qg _ _ rfl aM oo ak
theorem adG (k:Nat): ∀(p_0:Printer) (bB:Int) (fG:Operator) (cO:Bool) (r:Str) (h:Af k p_0 bB fG cO=some r),aC Tryz.prog 101 [(.agg (Printer.cells p_0)),(.int .i64 bB),(.agg (Operator.cells fG)),(.bool cO)] (.str r):=by
  match k with
  |0=>intro p_0 bB fG cO r h;rw [Af]at h;cases h
  |k+1=>
    intro p_0 bB fG cO r h;refine aC.aP (bn.mem (.cons (.agg _ (Printer.pu _)) (.cons (.int _ _) (.cons (.agg _ (Operator.pu _)) (.cons (.bool _) .nil))))) (aK atA (by simp) (aD ?_)) (.str _);rw [Af]at h;unfold akZ;obtain⟨e1,h⟩:=aL h;obtain⟨x2,e3,h⟩:=aj h;rcases au h with⟨e4,h⟩|⟨e4,h⟩
    ·refine ah ?_
     refine U4 (AH.empty.next+3) ?_;obtain⟨x5,e6,h⟩:=aj h;obtain⟨p8,e7,h⟩:=aj h;refine ah ?_
     refine PC.mk (wV e7) ?_;refine ah ?_
     refine dI ?_;rcases au h with⟨e9,h⟩|⟨e9,h⟩
     ·obtain⟨mQ,e10,h⟩:=aj h;refine ah ?_
      refine PC.mk ((nO k p_0 x5 (!(p8.1.text==fG.text)) true _ e10).wk (.same (.same (.same (.same .nil))))) ?_;obtain⟨e12,h⟩:=aL h;refine ah ?_
      refine aY (aW e12) ?_;cases h;refine ah ?_
      exact(.pure _ (.str _))
     ·obtain⟨jq,e13,h⟩:=aj h;refine ah ?_
      refine PC.mk ((nO k p_0 x5 false true _ e13).wk (.same (.same (.same (.same .nil))))) ?_;obtain⟨e15,h⟩:=aL h;refine ah ?_
      refine aY (aW e15) ?_;cases h;refine ah ?_
      exact(.pure _ (.str _))
    ·rcases au h with⟨e16,h⟩|⟨e16,h⟩
     ·refine ah ?_
      refine U4 (AH.empty.next+3) ?_;obtain⟨CB,e18,h⟩:=aj h;obtain⟨mR,e19,h⟩:=aj h;refine ah ?_
      refine PC.mk (wV e19) ?_;refine ah ?_
      obtain⟨o32,h33,h⟩:=aj h;refine XZ (AH.empty.next+1) (AH.empty.next+3) fG.text fG.fix fG.low fG.high fG.left fG.least fG.most mR.1.text mR.1.fix mR.1.low mR.1.high mR.1.left mR.1.least mR.1.most mR.2 _ _ _ (Fr.refl _ _) ak bJ bJ bJ _ h33 _ ?_
      ·rintro p34 σ' eo agh s38;rw [eo]at h;have s39:σ' 3=(.bool cO):=(agh 3 (by decide)).trans ak;have s40:σ' 4=(.ref (AH.empty.next) 0):=(agh 4 (by decide)).trans ak;have s41:σ' 6=(.ref (AH.empty.next+1) 0):=(agh 6 (by decide)).trans ak;have s42:σ' 9=(.ref (AH.empty.next+2) 0):=(agh 9 (by decide)).trans ak;refine ah ?_
       obtain⟨o59,h60,h⟩:=aj h;refine X3 (AH.empty.next+1) fG.text fG.fix fG.low fG.high fG.left fG.least fG.most fG.text _ _ _ (Fr.refl _ _) ak bJ _ h60 _ ?_
       ·rintro p61 σ' eo agi s65;rw [eo]at h;have s66:σ' 3=(.bool cO):=(agi 3 (by decide)).trans ak;have s67:σ' 4=(.ref (AH.empty.next) 0):=(agi 4 (by decide)).trans ak;have s68:σ' 9=(.ref (AH.empty.next+2) 0):=(agi 9 (by decide)).trans ak;have s69:σ' 14=(.bool p34):=(agi 14 (by decide)).trans ak;refine ah ?_
        refine dI ?_;obtain⟨p71,YB,h⟩:=aj h;refine ah ?_
        refine PC.mk ((nO k p_0 CB p34 cO _ YB).wk (.same (.same (.same (.same .nil))))) ?_;obtain⟨e72,h⟩:=aL h;refine ah ?_
        refine aY (aW e72) ?_;cases h;refine ah ?_
        exact(.pure _ (.str _))
     ·refine ah ?_
      obtain⟨aCf,ax8,h⟩:=aj h;refine KM k (AH.empty.next) (AH.empty.next+1) cO p_0.e fG.text fG.fix fG.low fG.high fG.left fG.least fG.most ([]:List Str) (IntKind.wrap .i64 ((x2.args.length:Int) -1)) x2.args (x2.args.length:Int) 0 .nil _ _ _ _ (Fr.refl _ _) (HF.refl _ _) ak bJ bJ bJ eZ _ ax8 _ ?_
      ·rintro acG aCg σ' akn eo auD amo ar1;rw [eo]at h;have ar2:σ' 6=(.ref (AH.empty.next+1) 0):=(auD 6 (by decide)).trans ak;have le:=amo.1;try simp only [AH.aF,AH.aG,AH.aH,AH.aI]at le
       have aCh:akn.obj (AH.empty.next+1)=some [(.str fG.text),(.int .i64 fG.fix),(.int .i64 fG.low),(.int .i64 fG.high),(.bool fG.left),(.int .i64 fG.least),(.int .i64 fG.most)]:=(amo.2 _ bJ (by first|exact List.not_mem_nil|(simp only [List.mem_cons,List.not_mem_nil,or_false,not_or];omega))).trans ak;have n141:=ne_next (show AH.empty.next+1<akn.next by first|omega|(simp only [AH.aF,AH.aG,AH.aH,AH.aI];omega));have aCi:=aR (show AH.empty.next+1<akn.next by first|omega|(simp only [AH.aF,AH.aG,AH.aH,AH.aI];omega));obtain⟨e143,h⟩:=aL h;refine ah ?_
       refine aY (aW e143) ?_;obtain⟨ajP,h⟩:=aL h;refine ah ?_
       refine aY (aW ajP) ?_;obtain⟨asS,h⟩:=aL h;obtain⟨afY,h⟩:=aL h;refine ah ?_
       refine av (yM acG (32::(fG.text++([32]:Str))) (by assumption) (by assumption)) ?_;cases h;refine ah ?_
       exact(.pure _ (.str _))
theorem QF (k:Nat): ∀(jk:Nat) (iN:List Nd) (cZ:List Str) (fQ:List Int) (pX:Int) (iX:Int) (eY:Ck) (aA σ:Nat->PV) (H0 H:AH) (f0:Fr Ur aA σ) (hf0:HF [] H0 H) (sl:σ 2=(.ref (jk) 0)/\σ 5=(.aB (cZ.map aU) eY)/\σ 8=(.aB (fQ.map bD) .unk)/\σ 9=(.int .i64 pX)/\σ 10=(.int .i64 iX)/\H.obj jk=some [(.aB (iN.map Nd.cells) .unk)]) (oz:jk<H.next) (mD:eD H eY) (o:List Str) (h:rP k iN cZ fQ pX iX=some o) (Q:Post) (q0: ∀(p:List Str) (c0:Ck) (σ':Nat->PV) (H':AH),o=p->Fr Ur aA σ'->HF [] H0 H'->(σ' 5=(.aB (p.map aU) c0))->Q (.exit 0) σ' H'),W Tryz.prog (.loop Rp) Q σ H:=by
  match k with
  |0=>intro jk iN cZ fQ pX iX eY aA σ H0 H f0 hf0 sl oz mD o h Q q0;rw [rP]at h;cases h
  |k+1=>
    have ih:=QF k;intro jk iN cZ fQ pX iX eY aA σ H0 H f0 hf0 sl oz mD o h Q q0;obtain⟨s2,s5,s8,s9,s10,aeP⟩:=sl;have aeQ:=ne_next oz;have aeR:=aR oz;have hle0:=hf0.1;rw [rP]at h;refine bf (fun K hK=>aD ?_);unfold Rp;rcases au h with⟨e1,h⟩|⟨e1,h⟩
    ·obtain⟨e2,h⟩:=aL h;obtain⟨x3,e4,h⟩:=aj h;obtain⟨p6,e5,h⟩:=aj h;refine ah ?_
     refine av ((eB k (Printer.mk iN) x3 false _ e5).wk (.same (.same (.same .nil)))) ?_;obtain⟨e11,h⟩:=aL h;refine ah ?_
     refine kN (f:=aU) uV cZ ([p6]:List Str) eY .exact ak ak eZ (by first|exact e11|(simp only [List.length_cons,List.length_nil];exact e11)) (fun c7 H8 ok9 le ax9 aCj=> ?_);have aya:HF [] _ H8:=⟨le,fun i _ _=>ax9 i⟩;try simp only [AH.aF,AH.aG,AH.aH,AH.aI]at le
     have n14:=ne_next (show jk<H8.next by first|omega|(simp only [AH.aF,AH.aG,AH.aH,AH.aI];omega));have m15:=aR (show jk<H8.next by first|omega|(simp only [AH.aF,AH.aG,AH.aH,AH.aI];omega));refine ah ?_
     refine hK _ _ ?_;exact ih jk iN (cZ++[p6]) fQ pX (IntKind.wrap .i64 (iX+1)) c7 _ _ _ _ aM (by repeat (first|exact hf0|refine HF.new ?_|refine HF.oG ?_|refine HF.used ?_|refine HF.put (by first|(right;omega)|(left;simp only [List.mem_cons,true_or,or_true])) ?_|refine HF.via aya (by first|exact fun i hi=>absurd hi List.not_mem_nil|(intro i hi;simp only [List.mem_cons,List.not_mem_nil,or_false]at hi⊢;first|exact .inl hi|omega)) ?_)) ak bJ eZ _ h _ q0
    ·cases h;refine ah ?_
     exact q0 _ eY _ _ rfl aM oo ak
theorem LK (k:Nat): ∀(p_0:Printer) (l_1:List Int) (r:Str) (h:Cj k p_0 l_1=some r),aC Tryz.prog 153 [(.agg (Printer.cells p_0)),(.aB (l_1.map bD) .unk)] (.str r):=by
  match k with
  |0=>intro p_0 l_1 r h;rw [Cj]at h;cases h
  |k+1=>
    intro p_0 l_1 r h;refine aC.aP (bn.mem (.cons (.agg _ (Printer.pu _)) (.cons (bC iO _) .nil))) (aK atZ (by simp) (aD ?_)) (.str _);rw [Cj]at h;unfold alv;refine ah ?_
    obtain⟨o16,h17,h⟩:=aj h;refine QF k (AH.empty.next) p_0.e ([]:List Str) l_1 (l_1.length:Int) 0 .nil _ _ _ _ (Fr.refl _ _) (HF.refl _ _) ak bJ eZ _ h17 _ ?_
    ·rintro sj c22 σ' H21 eo afz ayb s23;rw [eo]at h;have le:=ayb.1;try simp only [AH.aF,AH.aG,AH.aH,AH.aI]at le
     obtain⟨e24,h⟩:=aL h;obtain⟨e25,h⟩:=aL h;refine ah ?_
     refine av (yM sj ([44,32]:Str) (by assumption) (by assumption)) ?_;cases h;refine ah ?_
     exact(.pure _ (.str _))
theorem ML (k:Nat): ∀(jk:Nat) (nP:Nat) (iN:List Nd) (uE:Int) (uF:Int) (uG:Str) (uH:List Str) (pK:List Int) (cZ:List Str) (pX:List Str) (iX:Int) (bF:Int) (eY:Ck) (aA σ:Nat->PV) (H0 H:AH) (f0:Fr OA aA σ) (hf0:HF [] H0 H) (sl:σ 2=(.ref (jk) 0)/\σ 3=(.ref (nP) 0)/\σ 5=(.aB (cZ.map aU) eY)/\σ 9=(.aB (pX.map aU) .unk)/\σ 10=(.int .i64 iX)/\σ 11=(.int .i64 bF)/\H.obj jk=some [(.aB (iN.map Nd.cells) .unk)]/\H.obj nP=some [(.int .i64 uE),(.int .i64 uF),(.str uG),(.aB (uH.map aU) .unk),(.aB (pK.map bD) .unk)]) (oz:jk<H.next) (xU:nP<H.next) (lD:jk≠nP) (mD:eD H eY) (o:List Str) (h:nK k iN uE uF uG uH pK cZ pX iX bF=some o) (Q:Post) (q0: ∀(p:List Str) (c0:Ck) (σ':Nat->PV) (H':AH),o=p->Fr OA aA σ'->HF [] H0 H'->(σ' 5=(.aB (p.map aU) c0))->Q (.exit 0) σ' H'),W Tryz.prog (.loop Rq) Q σ H:=by
  match k with
  |0=>intro jk nP iN uE uF uG uH pK cZ pX iX bF eY aA σ H0 H f0 hf0 sl oz xU lD mD o h Q q0;rw [nK]at h;cases h
  |k+1=>
    have ih:=ML k;intro jk nP iN uE uF uG uH pK cZ pX iX bF eY aA σ H0 H f0 hf0 sl oz xU lD mD o h Q q0;obtain⟨s2,s3,s5,s9,s10,s11,aeP,an8⟩:=sl;have aeQ:=ne_next oz;have aeR:=aR oz;have an9:=ne_next xU;have aoa:=aR xU;have Zy:=eq_false lD;have Zz:=eq_false (Ne.symm lD);have hle0:=hf0.1;rw [nK]at h;refine bf (fun K hK=>aD ?_);unfold Rq;rcases au h with⟨e1,h⟩|⟨e1,h⟩
    ·obtain⟨e2,h⟩:=aL h;obtain⟨x3,e4,h⟩:=aj h;refine ah ?_
     refine dI ?_;obtain⟨e5,h⟩:=aL h;refine ah ?_
     refine cu (aW e5) ?_;obtain⟨x6,e7,h⟩:=aj h;obtain⟨p9,e8,h⟩:=aj h;refine ah ?_
     refine PC.mk ((eB k (Printer.mk iN) x6 false _ e8).wk (.same (.same (.same .nil)))) ?_;obtain⟨e10,h⟩:=aL h;refine ah ?_
     refine cu (aW e10) ?_;obtain⟨e15,h⟩:=aL h;refine ah ?_
     refine kN (f:=aU) uV cZ ([(x3++(32::92::105::110::32::p9))]:List Str) eY .exact ak ak eZ (by first|exact e15|(simp only [List.length_cons,List.length_nil];exact e15)) (fun c11 OC ajd le ako ayc=> ?_);have akp:HF [] _ OC:=⟨le,fun i _ _=>ako i⟩;try simp only [AH.aF,AH.aG,AH.aH,AH.aI]at le
     have n18:=ne_next (show jk<OC.next by first|omega|(simp only [AH.aF,AH.aG,AH.aH,AH.aI];omega));have m19:=aR (show jk<OC.next by first|omega|(simp only [AH.aF,AH.aG,AH.aH,AH.aI];omega));have n20:=ne_next (show nP<OC.next by first|omega|(simp only [AH.aF,AH.aG,AH.aH,AH.aI];omega));have m21:=aR (show nP<OC.next by first|omega|(simp only [AH.aF,AH.aG,AH.aH,AH.aI];omega));refine ah ?_
     refine hK _ _ ?_;exact ih jk nP iN uE uF uG uH pK (cZ++[(x3++(32::92::105::110::32::p9))]) pX iX (IntKind.wrap .i64 (bF+1)) c11 _ _ _ _ aM (by repeat (first|exact hf0|refine HF.new ?_|refine HF.oG ?_|refine HF.used ?_|refine HF.put (by first|(right;omega)|(left;simp only [List.mem_cons,true_or,or_true])) ?_|refine HF.via akp (by first|exact fun i hi=>absurd hi List.not_mem_nil|(intro i hi;simp only [List.mem_cons,List.not_mem_nil,or_false]at hi⊢;first|exact .inl hi|omega)) ?_)) ak bJ bJ bJ eZ _ h _ q0
    ·cases h;refine ah ?_
     exact q0 _ eY _ _ rfl aM oo ak
theorem xV (k:Nat): ∀(p_0:Printer) (bP:Nd) (r:Str) (h:qG k p_0 bP=some r),aC Tryz.prog 154 [(.agg (Printer.cells p_0)),(.agg (Nd.cells bP))] (.str r):=by
  match k with
  |0=>intro p_0 bP r h;rw [qG]at h;cases h
  |k+1=>
    intro p_0 bP r h;refine aC.aP (bn.mem (.cons (.agg _ (Printer.pu _)) (.cons (.agg _ (Nd.pu _)) .nil))) (aK at0 (by simp) (aD ?_)) (.str _);rw [qG]at h;unfold alx;refine ah ?_
    obtain⟨o22,h23,h⟩:=aj h;refine ML k (AH.empty.next) (AH.empty.next+1) p_0.e bP.kind bP.n bP.text bP.names bP.args ([]:List Str) bP.names (bP.names.length:Int) 0 .nil _ _ _ _ (Fr.refl _ _) (HF.refl _ _) ak bJ bJ bJ eZ _ h23 _ ?_
    ·rintro mg c28 σ' Tp eo Ns Jr s29;rw [eo]at h;have le:=Jr.1;try simp only [AH.aF,AH.aG,AH.aH,AH.aI]at le
     obtain⟨e30,h⟩:=aL h;obtain⟨e31,h⟩:=aL h;refine ah ?_
     refine av (yM mg ([44,32]:Str) (by assumption) (by assumption)) ?_;cases h;refine ah ?_
     exact(.pure _ (.str _))
theorem ah8 (k:Nat): ∀(p_0:Printer) (bB:Int) (r:Str) (h:FZ k p_0 bB=some r),aC Tryz.prog 155 [(.agg (Printer.cells p_0)),(.int .i64 bB)] (.str r):=by
  match k with
  |0=>intro p_0 bB r h;rw [FZ]at h;cases h
  |k+1=>
    intro p_0 bB r h;refine aC.aP (bn.mem (.cons (.agg _ (Printer.pu _)) (.cons (.int _ _) .nil))) (aK at1 (by simp) (aD ?_)) (.str _);rw [FZ]at h;unfold aly;obtain⟨p2,e1,h⟩:=aj h;refine ah ?_
    refine av ((eB k p_0 bB false _ e1).wk (.same (.same (.same .nil)))) ?_;refine ah ?_
    refine aK alG (by simp) (aD ?_);unfold afw;refine ah ?_
    refine aK alK (by simp) (aD ?_);unfold afx;obtain⟨p6,e5,h⟩:=aj h;refine ah ?_
    refine av (ahu p2 ([32]:Str) e5) ?_;rcases au h with⟨e7,h⟩|⟨e7,h⟩
    ·refine ah ?_
     refine dI ?_;obtain⟨e8,h⟩:=aL h;obtain⟨e9,h⟩:=aL h;obtain⟨mQ,e10,h⟩:=aj h;refine ah ?_
     refine av (rA e10) ?_;refine ah ?_
     obtain⟨o21,h22,h⟩:=aj h;refine acD (p2.take p6.toNat) (p2.drop (IntKind.wrap .i64 (p6+1)).toNat) mQ _ _ _ (Fr.refl _ _) ak _ h22 _ ?_
     ·rintro EO σ' eo XA s27;rw [eo]at h;have s28:σ' 5=(.str p2):=(XA 5 (by decide)).trans ak;rcases au h with⟨e29,h⟩|⟨e29,h⟩
      ·obtain⟨e30,h⟩:=aL h;refine ah ?_
       refine aY (aW e30) ?_;obtain⟨e31,h⟩:=aL h;refine ah ?_
       refine aY (aW e31) ?_;cases h;refine ah ?_
       exact(.pure _ (.str _))
      ·cases h;refine ah ?_
       exact(.pure _ (.str _))
    ·obtain⟨p33,e32,h⟩:=aj h;refine ah ?_
     refine av (rA e32) ?_;refine ah ?_
     obtain⟨o43,Qg,h⟩:=aj h;refine X5 p2 p33 _ _ _ (Fr.refl _ _) ak _ Qg _ ?_
     ·rintro p45 σ' eo ajj s49;rw [eo]at h;have s50:σ' 5=(.str p2):=(ajj 5 (by decide)).trans ak;rcases au h with⟨e51,h⟩|⟨e51,h⟩
      ·obtain⟨e52,h⟩:=aL h;refine ah ?_
       refine aY (aW e52) ?_;obtain⟨e53,h⟩:=aL h;refine ah ?_
       refine aY (aW e53) ?_;cases h;refine ah ?_
       exact(.pure _ (.str _))
      ·cases h;refine ah ?_
       exact(.pure _ (.str _))
theorem MN (k:Nat): ∀(vL:Nat) (Fy:Nat) (lT:Str) (uD:List Nd) (LD:Int) (LG:Int) (LH:Str) (LJ:List Str) (I5:List Int) (nE:List Str) (bF:List Str) (mJ:Int) (iD:Int) (jV:Ck) (aA σ:Nat->PV) (H0 H:AH) (f0:Fr OB aA σ) (hf0:HF [] H0 H) (sl:σ 2=(.str lT)/\σ 3=(.ref (vL) 0)/\σ 4=(.ref (Fy) 0)/\σ 7=(.aB (nE.map aU) jV)/\σ 11=(.aB (bF.map aU) .unk)/\σ 12=(.int .i64 mJ)/\σ 13=(.int .i64 iD)/\H.obj vL=some [(.aB (uD.map Nd.cells) .unk)]/\H.obj Fy=some [(.int .i64 LD),(.int .i64 LG),(.str LH),(.aB (LJ.map aU) .unk),(.aB (I5.map bD) .unk)]) (Ad:vL<H.next) (PD:Fy<H.next) (zm:vL≠Fy) (GJ:eD H jV) (o:List Str) (h:nL k lT uD LD LG LH LJ I5 nE bF mJ iD=some o) (Q:Post) (q0: ∀(p:List Str) (c0:Ck) (σ':Nat->PV) (H':AH),o=p->Fr OB aA σ'->HF [] H0 H'->(σ' 7=(.aB (p.map aU) c0))->Q (.exit 0) σ' H'),W Tryz.prog (.loop Rt) Q σ H:=by
  match k with
  |0=>intro vL Fy lT uD LD LG LH LJ I5 nE bF mJ iD jV aA σ H0 H f0 hf0 sl Ad PD zm GJ o h Q q0;rw [nL]at h;cases h
  |k+1=>
    have ih:=MN k;intro vL Fy lT uD LD LG LH LJ I5 nE bF mJ iD jV aA σ H0 H f0 hf0 sl Ad PD zm GJ o h Q q0;obtain⟨s2,s3,s4,s7,s11,s12,s13,an1,ayT⟩:=sl;have an2:=ne_next Ad;have an3:=aR Ad;have ayU:=ne_next PD;have ayV:=aR PD;have aon:=eq_false zm;have aoo:=eq_false (Ne.symm zm);have hle0:=hf0.1;rw [nL]at h;refine bf (fun K hK=>aD ?_);unfold Rt;rcases au h with⟨e1,h⟩|⟨e1,h⟩
    ·obtain⟨e2,h⟩:=aL h;obtain⟨x3,e4,h⟩:=aj h;refine ah ?_
     refine dI ?_;obtain⟨e5,h⟩:=aL h;refine ah ?_
     refine cu (aW e5) ?_;obtain⟨x6,e7,h⟩:=aj h;obtain⟨p9,e8,h⟩:=aj h;refine ah ?_
     refine PC.mk ((eB k (Printer.mk uD) x6 false _ e8).wk (.same (.same (.same .nil)))) ?_;obtain⟨e10,h⟩:=aL h;refine ah ?_
     refine cu (aW e10) ?_;obtain⟨e15,h⟩:=aL h;refine ah ?_
     refine kN (f:=aU) uV nE ([(x3++(lT++p9))]:List Str) jV .exact ak ak eZ (by first|exact e15|(simp only [List.length_cons,List.length_nil];exact e15)) (fun c11 OC ajd le ako ayc=> ?_);have akp:HF [] _ OC:=⟨le,fun i _ _=>ako i⟩;try simp only [AH.aF,AH.aG,AH.aH,AH.aI]at le
     have n18:=ne_next (show vL<OC.next by first|omega|(simp only [AH.aF,AH.aG,AH.aH,AH.aI];omega));have m19:=aR (show vL<OC.next by first|omega|(simp only [AH.aF,AH.aG,AH.aH,AH.aI];omega));have n20:=ne_next (show Fy<OC.next by first|omega|(simp only [AH.aF,AH.aG,AH.aH,AH.aI];omega));have m21:=aR (show Fy<OC.next by first|omega|(simp only [AH.aF,AH.aG,AH.aH,AH.aI];omega));refine ah ?_
     refine hK _ _ ?_;exact ih vL Fy lT uD LD LG LH LJ I5 (nE++[(x3++(lT++p9))]) bF mJ (IntKind.wrap .i64 (iD+1)) c11 _ _ _ _ aM (by repeat (first|exact hf0|refine HF.new ?_|refine HF.oG ?_|refine HF.used ?_|refine HF.put (by first|(right;omega)|(left;simp only [List.mem_cons,true_or,or_true])) ?_|refine HF.via akp (by first|exact fun i hi=>absurd hi List.not_mem_nil|(intro i hi;simp only [List.mem_cons,List.not_mem_nil,or_false]at hi⊢;first|exact .inl hi|omega)) ?_)) ak bJ bJ bJ eZ _ h _ q0
    ·cases h;refine ah ?_
     exact q0 _ jV _ _ rfl aM oo ak
theorem Uu (k:Nat): ∀(p_0:Printer) (bP:Nd) (lT:Str) (r:Str) (h:zP k p_0 bP lT=some r),aC Tryz.prog 157 [(.agg (Printer.cells p_0)),(.agg (Nd.cells bP)),(.str lT)] (.str r):=by
  match k with
  |0=>intro p_0 bP lT r h;rw [zP]at h;cases h
  |k+1=>
    intro p_0 bP lT r h;refine aC.aP (bn.mem (.cons (.agg _ (Printer.pu _)) (.cons (.agg _ (Nd.pu _)) (.cons (.str _) .nil)))) (aK at6 (by simp) (aD ?_)) (.str _);rw [zP]at h;unfold alA;refine ah ?_
    obtain⟨o22,h23,h⟩:=aj h;refine MN k (AH.empty.next) (AH.empty.next+1) lT p_0.e bP.kind bP.n bP.text bP.names bP.args ([]:List Str) bP.names (bP.names.length:Int) 0 .nil _ _ _ _ (Fr.refl _ _) (HF.refl _ _) ak bJ bJ bJ eZ _ h23 _ ?_
    ·rintro mg c28 σ' Tp eo Ns Jr s29;rw [eo]at h;have le:=Jr.1;try simp only [AH.aF,AH.aG,AH.aH,AH.aI]at le
     obtain⟨e30,h⟩:=aL h;obtain⟨e31,h⟩:=aL h;refine ah ?_
     refine av (yM mg ([44,32]:Str) (by assumption) (by assumption)) ?_;cases h;refine ah ?_
     exact(.pure _ (.str _))
theorem OD (k:Nat): ∀(jk:Nat) (nP:Nat) (iN:List Nd) (uE:Int) (uF:Int) (uG:Str) (uH:List Str) (pK:List Int) (cZ:List Str) (xg:Int) (gy:Int) (eY:Ck) (aA σ:Nat->PV) (H0 H:AH) (f0:Fr QE aA σ) (hf0:HF [] H0 H) (sl:σ 2=(.ref (jk) 0)/\σ 3=(.ref (nP) 0)/\σ 5=(.aB (cZ.map aU) eY)/\σ 6=(.int .i64 xg)/\σ 7=(.int .i64 gy)/\H.obj jk=some [(.aB (iN.map Nd.cells) .unk)]/\H.obj nP=some [(.int .i64 uE),(.int .i64 uF),(.str uG),(.aB (uH.map aU) .unk),(.aB (pK.map bD) .unk)]) (oz:jk<H.next) (xU:nP<H.next) (lD:jk≠nP) (mD:eD H eY) (o:List Str) (h:nM k iN uE uF uG uH pK cZ xg gy=some o) (Q:Post) (q0: ∀(p:List Str) (c0:Ck) (σ':Nat->PV) (H':AH),o=p->Fr QE aA σ'->HF [] H0 H'->(σ' 5=(.aB (p.map aU) c0))->Q (.exit 0) σ' H'),W Tryz.prog (.loop RB) Q σ H:=by
  match k with
  |0=>intro jk nP iN uE uF uG uH pK cZ xg gy eY aA σ H0 H f0 hf0 sl oz xU lD mD o h Q q0;rw [nM]at h;cases h
  |k+1=>
    have ih:=OD k;intro jk nP iN uE uF uG uH pK cZ xg gy eY aA σ H0 H f0 hf0 sl oz xU lD mD o h Q q0;obtain⟨s2,s3,s5,s6,s7,aeP,an8⟩:=sl;have aeQ:=ne_next oz;have aeR:=aR oz;have an9:=ne_next xU;have aoa:=aR xU;have Zy:=eq_false lD;have Zz:=eq_false (Ne.symm lD);have hle0:=hf0.1;rw [nM]at h;refine bf (fun K hK=>aD ?_);unfold RB;rcases au h with⟨e1,h⟩|⟨e1,h⟩
    ·rcases au h with⟨e2,h⟩|⟨e2,h⟩
     ·refine ah ?_
      refine dI ?_;obtain⟨e3,h⟩:=aL h;obtain⟨x4,e5,h⟩:=aj h;obtain⟨p7,e6,h⟩:=aj h;refine ah ?_
      refine PC.mk ((eB k (Printer.mk iN) x4 false _ e6).wk (.same (.same (.same .nil)))) ?_;obtain⟨e8,h⟩:=aL h;refine ah ?_
      refine cu (aW e8) ?_;obtain⟨e13,h⟩:=aL h;refine ah ?_
      refine kN (f:=aU) uV cZ ([(79::84::72::69::82::32::45::62::32::p7)]:List Str) eY .exact ak ak eZ (by first|exact e13|(simp only [List.length_cons,List.length_nil];exact e13)) (fun c9 Tv axz le ajv axA=> ?_);have ajw:HF [] _ Tv:=⟨le,fun i _ _=>ajv i⟩;try simp only [AH.aF,AH.aG,AH.aH,AH.aI]at le
      have n35:=ne_next (show jk<Tv.next by first|omega|(simp only [AH.aF,AH.aG,AH.aH,AH.aI];omega));have m36:=aR (show jk<Tv.next by first|omega|(simp only [AH.aF,AH.aG,AH.aH,AH.aI];omega));have n37:=ne_next (show nP<Tv.next by first|omega|(simp only [AH.aF,AH.aG,AH.aH,AH.aI];omega));have m38:=aR (show nP<Tv.next by first|omega|(simp only [AH.aF,AH.aG,AH.aH,AH.aI];omega));cases h;refine ah ?_
      exact q0 _ c9 _ _ rfl aM (by repeat (first|exact hf0|refine HF.new ?_|refine HF.oG ?_|refine HF.used ?_|refine HF.put (by first|(right;omega)|(left;simp only [List.mem_cons,true_or,or_true])) ?_|refine HF.via ajw (by first|exact fun i hi=>absurd hi List.not_mem_nil|(intro i hi;simp only [List.mem_cons,List.not_mem_nil,or_false]at hi⊢;first|exact .inl hi|omega)) ?_)) ak
     ·refine ah ?_
      refine dI ?_;obtain⟨e16,h⟩:=aL h;obtain⟨CB,e18,h⟩:=aj h;obtain⟨mR,e19,h⟩:=aj h;refine ah ?_
      refine PC.mk ((eB k (Printer.mk iN) CB false _ e19).wk (.same (.same (.same .nil)))) ?_;obtain⟨e21,h⟩:=aL h;refine ah ?_
      refine cu (aW e21) ?_;obtain⟨e22,h⟩:=aL h;obtain⟨x23,e24,h⟩:=aj h;obtain⟨p26,e25,h⟩:=aj h;refine ah ?_
      refine PC.mk ((eB k (Printer.mk iN) x23 (decide ((IntKind.wrap .i64 (gy+1))<xg)) _ e25).wk (.same (.same (.same .nil)))) ?_;obtain⟨e27,h⟩:=aL h;refine ah ?_
      refine cu (aW e27) ?_;obtain⟨e32,h⟩:=aL h;refine ah ?_
      refine kN (f:=aU) uV cZ ([(mR++(32::45::62::32::p26))]:List Str) eY .exact ak ak eZ (by first|exact e32|(simp only [List.length_cons,List.length_nil];exact e32)) (fun c28 H29 aCk le ayd aCl=> ?_);have acI:HF [] _ H29:=⟨le,fun i _ _=>ayd i⟩;try simp only [AH.aF,AH.aG,AH.aH,AH.aI]at le
      have n39:=ne_next (show jk<H29.next by first|omega|(simp only [AH.aF,AH.aG,AH.aH,AH.aI];omega));have m40:=aR (show jk<H29.next by first|omega|(simp only [AH.aF,AH.aG,AH.aH,AH.aI];omega));have n41:=ne_next (show nP<H29.next by first|omega|(simp only [AH.aF,AH.aG,AH.aH,AH.aI];omega));have m42:=aR (show nP<H29.next by first|omega|(simp only [AH.aF,AH.aG,AH.aH,AH.aI];omega));refine ah ?_
      refine hK _ _ ?_;exact ih jk nP iN uE uF uG uH pK (cZ++[(mR++(32::45::62::32::p26))]) xg (IntKind.wrap .i64 (gy+2)) c28 _ _ _ _ aM (by repeat (first|exact hf0|refine HF.new ?_|refine HF.oG ?_|refine HF.used ?_|refine HF.put (by first|(right;omega)|(left;simp only [List.mem_cons,true_or,or_true])) ?_|refine HF.via acI (by first|exact fun i hi=>absurd hi List.not_mem_nil|(intro i hi;simp only [List.mem_cons,List.not_mem_nil,or_false]at hi⊢;first|exact .inl hi|omega)) ?_)) ak bJ bJ bJ eZ _ h _ q0
    ·cases h;refine ah ?_
     exact q0 _ eY _ _ rfl aM oo ak
theorem aia (k:Nat): ∀(p_0:Printer) (bP:Nd) (r:Str) (h:KH k p_0 bP=some r),aC Tryz.prog 195 [(.agg (Printer.cells p_0)),(.agg (Nd.cells bP))] (.str r):=by
  match k with
  |0=>intro p_0 bP r h;rw [KH]at h;cases h
  |k+1=>
    intro p_0 bP r h;refine aC.aP (bn.mem (.cons (.agg _ (Printer.pu _)) (.cons (.agg _ (Nd.pu _)) .nil))) (aK auf (by simp) (aD ?_)) (.str _);rw [KH]at h;unfold alI;refine ah ?_
    obtain⟨o43,Qg,h⟩:=aj h;refine OD k (AH.empty.next) (AH.empty.next+1) p_0.e bP.kind bP.n bP.text bP.names bP.args ([]:List Str) (IntKind.wrap .i64 ((bP.args.length:Int) -1)) 0 .nil _ _ _ _ (Fr.refl _ _) (HF.refl _ _) ak bJ bJ bJ eZ _ Qg _ ?_
    ·rintro p45 c49 σ' H48 eo ajj aye s50;rw [eo]at h;have le:=aye.1;try simp only [AH.aF,AH.aG,AH.aH,AH.aI]at le
     obtain⟨e51,h⟩:=aL h;obtain⟨e52,h⟩:=aL h;refine ah ?_
     refine av (yM p45 ([32,91,93,32]:Str) (by assumption) (by assumption)) ?_;obtain⟨e53,h⟩:=aL h;refine ah ?_
     refine aY (aW e53) ?_;cases h;refine ah ?_
     exact(.pure _ (.str _))
theorem aob (k:Nat): ∀(p_0:Printer) (bP:Nd) (r:Str) (h:Py k p_0 bP=some r),aC Tryz.prog 196 [(.agg (Printer.cells p_0)),(.agg (Nd.cells bP))] (.str r):=by
  match k with
  |0=>intro p_0 bP r h;rw [Py]at h;cases h
  |k+1=>
    intro p_0 bP r h;refine aC.aP (bn.mem (.cons (.agg _ (Printer.pu _)) (.cons (.agg _ (Nd.pu _)) .nil))) (aK aug (by simp) (aD ?_)) (.str _);rw [Py]at h;unfold alJ;obtain⟨e1,h⟩:=aL h;refine ah ?_
    refine dI ?_;obtain⟨x2,e3,h⟩:=aj h;refine ah ?_
    obtain⟨o17,h18,h⟩:=aj h;refine agc (bP.names.drop 1) x2 x2 _ _ _ (Fr.refl _ _) ak _ h18 _ ?_
    ·rintro kP σ' eo WT ⟨s23,s24⟩;rw [eo]at h;have s25:σ' 2=(.ref (AH.empty.next) 0):=(WT 2 (by decide)).trans ak;have s26:σ' 3=(.ref (AH.empty.next+1) 0):=(WT 3 (by decide)).trans ak;rcases au h with⟨e27,h⟩|⟨e27,h⟩
     ·obtain⟨e28,h⟩:=aL h;refine ah ?_
      refine aY (aW e28) ?_;obtain⟨e29,h⟩:=aL h;refine ah ?_
      refine aY (aW e29) ?_;obtain⟨e30,h⟩:=aL h;refine ah ?_
      refine aY (aW e30) ?_;refine ah ?_
      refine dI ?_;obtain⟨e31,h⟩:=aL h;refine ah ?_
      refine cu (aW e31) ?_;obtain⟨e32,h⟩:=aL h;refine ah ?_
      refine cu (aW e32) ?_;obtain⟨x33,e34,h⟩:=aj h;obtain⟨p36,e35,h⟩:=aj h;refine ah ?_
      refine PC.mk ((eB k p_0 x33 false _ e35).wk (.same (.same (.same .nil)))) ?_;obtain⟨e37,h⟩:=aL h;refine ah ?_
      refine cu (aW e37) ?_;obtain⟨e38,h⟩:=aL h;refine ah ?_
      refine cu (aW e38) ?_;obtain⟨x39,e40,h⟩:=aj h;obtain⟨p42,e41,h⟩:=aj h;refine ah ?_
      refine PC.mk ((eB k p_0 x39 false _ e41).wk (.same (.same (.same .nil)))) ?_;obtain⟨e43,h⟩:=aL h;refine ah ?_
      refine aY (aW e43) ?_;cases h;refine ah ?_
      exact(.pure _ (.str _))
     ·refine ah ?_
      refine dI ?_;obtain⟨e44,h⟩:=aL h;refine ah ?_
      refine cu (aW e44) ?_;obtain⟨e45,h⟩:=aL h;refine ah ?_
      refine cu (aW e45) ?_;obtain⟨x46,e47,h⟩:=aj h;obtain⟨p49,e48,h⟩:=aj h;refine ah ?_
      refine PC.mk ((eB k p_0 x46 false _ e48).wk (.same (.same (.same .nil)))) ?_;obtain⟨e50,h⟩:=aL h;refine ah ?_
      refine cu (aW e50) ?_;obtain⟨e51,h⟩:=aL h;refine ah ?_
      refine cu (aW e51) ?_;obtain⟨x52,e53,h⟩:=aj h;obtain⟨p55,e54,h⟩:=aj h;refine ah ?_
      refine PC.mk ((eB k p_0 x52 false _ e54).wk (.same (.same (.same .nil)))) ?_;obtain⟨e56,h⟩:=aL h;refine ah ?_
      refine aY (aW e56) ?_;cases h;refine ah ?_
      exact(.pure _ (.str _))
theorem akq (k:Nat): ∀(p_0:Printer) (bP:Nd) (r:Str) (h:KJ k p_0 bP=some r),aC Tryz.prog 159 [(.agg (Printer.cells p_0)),(.agg (Nd.cells bP))] (.str r):=by
  match k with
  |0=>intro p_0 bP r h;rw [KJ]at h;cases h
  |k+1=>
    intro p_0 bP r h;refine aC.aP (bn.mem (.cons (.agg _ (Printer.pu _)) (.cons (.agg _ (Nd.pu _)) .nil))) (aK aua (by simp) (aD ?_)) (.str _);rw [KJ]at h;unfold alC;refine ah ?_
    refine dI ?_;obtain⟨e1,h⟩:=aL h;obtain⟨x2,e3,h⟩:=aj h;obtain⟨p5,e4,h⟩:=aj h;refine ah ?_
    refine av ((eB k p_0 x2 false _ e4).wk (.same (.same (.same .nil)))) ?_;rcases au h with⟨e6,h⟩|⟨e6,h⟩
    ·obtain⟨p8,e7,h⟩:=aj h;refine ah ?_
     refine av ((xV k p_0 bP _ e7).wk (.same (.same .nil))) ?_;obtain⟨e9,h⟩:=aL h;refine ah ?_
     refine aY (aW e9) ?_;obtain⟨e10,h⟩:=aL h;refine ah ?_
     refine aY (aW e10) ?_;obtain⟨e11,h⟩:=aL h;refine ah ?_
     refine aY (aW e11) ?_;cases h;refine ah ?_
     exact(.pure _ (.str _))
    ·rcases au h with⟨e12,h⟩|⟨e12,h⟩
     ·obtain⟨jq,e13,h⟩:=aj h;refine ah ?_
      refine av ((xV k p_0 bP _ e13).wk (.same (.same .nil))) ?_;obtain⟨e15,h⟩:=aL h;refine ah ?_
      refine aY (aW e15) ?_;obtain⟨e16,h⟩:=aL h;refine ah ?_
      refine aY (aW e16) ?_;obtain⟨e17,h⟩:=aL h;refine ah ?_
      refine aY (aW e17) ?_;cases h;refine ah ?_
      exact(.pure _ (.str _))
     ·rcases au h with⟨e18,h⟩|⟨e18,h⟩
      ·obtain⟨e19,h⟩:=aL h;obtain⟨e20,h⟩:=aL h;refine ah ?_
       refine av (yM bP.names ([44,32]:Str) (by assumption) (by assumption)) ?_;obtain⟨e21,h⟩:=aL h;refine ah ?_
       refine aY (aW e21) ?_;obtain⟨e22,h⟩:=aL h;refine ah ?_
       refine aY (aW e22) ?_;obtain⟨e23,h⟩:=aL h;refine ah ?_
       refine aY (aW e23) ?_;cases h;refine ah ?_
       exact(.pure _ (.str _))
      ·rcases au h with⟨e24,h⟩|⟨e24,h⟩
       ·obtain⟨e25,h⟩:=aL h;obtain⟨e26,h⟩:=aL h;refine ah ?_
        refine av (yM bP.names ([44,32]:Str) (by assumption) (by assumption)) ?_;obtain⟨e27,h⟩:=aL h;refine ah ?_
        refine aY (aW e27) ?_;obtain⟨e28,h⟩:=aL h;refine ah ?_
        refine aY (aW e28) ?_;obtain⟨e29,h⟩:=aL h;refine ah ?_
        refine aY (aW e29) ?_;cases h;refine ah ?_
        exact(.pure _ (.str _))
       ·rcases au h with⟨e30,h⟩|⟨e30,h⟩
        ·obtain⟨p32,e31,h⟩:=aj h;refine ah ?_
         refine av ((xV k p_0 bP _ e31).wk (.same (.same .nil))) ?_;obtain⟨e33,h⟩:=aL h;refine ah ?_
         refine aY (aW e33) ?_;obtain⟨e34,h⟩:=aL h;refine ah ?_
         refine aY (aW e34) ?_;obtain⟨e35,h⟩:=aL h;refine ah ?_
         refine aY (aW e35) ?_;cases h;refine ah ?_
         exact(.pure _ (.str _))
        ·rcases au h with⟨e36,h⟩|⟨e36,h⟩
         ·refine ah ?_
          refine dI ?_;obtain⟨x37,e38,h⟩:=aj h;obtain⟨p40,e39,h⟩:=aj h;refine ah ?_
          refine PC.mk ((eB k p_0 x37 false _ e39).wk (.same (.same (.same .nil)))) ?_;obtain⟨e41,h⟩:=aL h;refine ah ?_
          refine cu (aW e41) ?_;obtain⟨e42,h⟩:=aL h;refine ah ?_
          refine cu (aW e42) ?_;obtain⟨x43,e44,h⟩:=aj h;obtain⟨p46,e45,h⟩:=aj h;refine ah ?_
          refine PC.mk ((eB k p_0 x43 false _ e45).wk (.same (.same (.same .nil)))) ?_;obtain⟨e47,h⟩:=aL h;refine ah ?_
          refine cu (aW e47) ?_;obtain⟨e48,h⟩:=aL h;refine ah ?_
          refine cu (aW e48) ?_;obtain⟨e49,h⟩:=aL h;refine ah ?_
          refine aY (aW e49) ?_;cases h;refine ah ?_
          exact(.pure _ (.str _))
         ·rcases au h with⟨e50,h⟩|⟨e50,h⟩
          ·obtain⟨p52,e51,h⟩:=aj h;refine ah ?_
           refine av ((aia k p_0 bP _ e51).wk (.same (.same .nil))) ?_;cases h;refine ah ?_
           exact(.pure _ (.str _))
          ·rcases au h with⟨e53,h⟩|⟨e53,h⟩
           ·obtain⟨p55,e54,h⟩:=aj h;refine ah ?_
            refine av ((aob k p_0 bP _ e54).wk (.same (.same .nil))) ?_;cases h;refine ah ?_
            exact(.pure _ (.str _))
           ·obtain⟨e56,h⟩:=aL h;obtain⟨e57,h⟩:=aL h;refine ah ?_
            refine av (yM bP.names ([44,32]:Str) (by assumption) (by assumption)) ?_;obtain⟨e58,h⟩:=aL h;refine ah ?_
            refine aY (aW e58) ?_;obtain⟨e59,h⟩:=aL h;refine ah ?_
            refine aY (aW e59) ?_;obtain⟨e60,h⟩:=aL h;refine ah ?_
            refine aY (aW e60) ?_;cases h;refine ah ?_
            exact(.pure _ (.str _))
theorem akm (k:Nat): ∀(p_0:Printer) (bB:Int) (r:Str) (h:Hu k p_0 bB=some r),aC Tryz.prog 102 [(.agg (Printer.cells p_0)),(.int .i64 bB)] (.str r):=by
  match k with
  |0=>intro p_0 bB r h;rw [Hu]at h;cases h
  |k+1=>
    intro p_0 bB r h;refine aC.aP (bn.mem (.cons (.agg _ (Printer.pu _)) (.cons (.int _ _) .nil))) (aK atB (by simp) (aD ?_)) (.str _);rw [Hu]at h;unfold ak0;obtain⟨e1,h⟩:=aL h;obtain⟨x2,e3,h⟩:=aj h;rcases au h with⟨e4,h⟩|⟨e4,h⟩
    ·obtain⟨e5,h⟩:=aL h;refine ah ?_
     refine av (asK x2.n (by assumption)) ?_;cases h;refine ah ?_
     exact(.pure _ (.str _))
    ·rcases au h with⟨e6,h⟩|⟨e6,h⟩
     ·obtain⟨e7,h⟩:=aL h;refine ah ?_
      refine aY (aW e7) ?_;obtain⟨e8,h⟩:=aL h;refine ah ?_
      refine aY (aW e8) ?_;cases h;refine ah ?_
      exact(.pure _ (.str _))
     ·rcases au h with⟨e9,h⟩|⟨e9,h⟩
      ·cases h;refine ah ?_
       exact(.pure _ (.str _))
      ·rcases au h with⟨e10,h⟩|⟨e10,h⟩
       ·refine ah ?_
        refine dI ?_;obtain⟨e11,h⟩:=aL h;refine ah ?_
        refine cu (aW e11) ?_;obtain⟨yG,e12,h⟩:=aj h;refine ah ?_
        refine PC.mk ((LK k p_0 x2.args _ e12).wk (.same (.aB .nil))) ?_;obtain⟨e14,h⟩:=aL h;refine ah ?_
        refine aY (aW e14) ?_;obtain⟨e15,h⟩:=aL h;refine ah ?_
        refine aY (aW e15) ?_;cases h;refine ah ?_
        exact(.pure _ (.str _))
       ·rcases au h with⟨e16,h⟩|⟨e16,h⟩
        ·obtain⟨sj,e17,h⟩:=aj h;refine ah ?_
         refine av ((LK k p_0 x2.args _ e17).wk (.same (.aB .nil))) ?_;obtain⟨e19,h⟩:=aL h;refine ah ?_
         refine aY (aW e19) ?_;obtain⟨e20,h⟩:=aL h;refine ah ?_
         refine aY (aW e20) ?_;cases h;refine ah ?_
         exact(.pure _ (.str _))
        ·rcases au h with⟨e21,h⟩|⟨e21,h⟩
         ·obtain⟨EO,e22,h⟩:=aj h;refine ah ?_
          refine av ((LK k p_0 x2.args _ e22).wk (.same (.aB .nil))) ?_;obtain⟨e24,h⟩:=aL h;refine ah ?_
          refine aY (aW e24) ?_;obtain⟨e25,h⟩:=aL h;refine ah ?_
          refine aY (aW e25) ?_;cases h;refine ah ?_
          exact(.pure _ (.str _))
         ·rcases au h with⟨e26,h⟩|⟨e26,h⟩
          ·refine ah ?_
           refine dI ?_;obtain⟨p28,e27,h⟩:=aj h;refine ah ?_
           refine PC.mk ((xV k p_0 x2 _ e27).wk (.same (.same .nil))) ?_;obtain⟨e29,h⟩:=aL h;refine ah ?_
           refine cu (aW e29) ?_;obtain⟨e30,h⟩:=aL h;refine ah ?_
           refine cu (aW e30) ?_;obtain⟨x31,e32,h⟩:=aj h;obtain⟨p34,e33,h⟩:=aj h;refine ah ?_
           refine PC.mk ((eB k p_0 x31 false _ e33).wk (.same (.same (.same .nil)))) ?_;obtain⟨e35,h⟩:=aL h;refine ah ?_
           refine aY (aW e35) ?_;obtain⟨e36,h⟩:=aL h;refine ah ?_
           refine aY (aW e36) ?_;cases h;refine ah ?_
           exact(.pure _ (.str _))
          ·rcases au h with⟨e37,h⟩|⟨e37,h⟩
           ·refine ah ?_
            refine dI ?_;obtain⟨e38,h⟩:=aL h;obtain⟨x39,e40,h⟩:=aj h;obtain⟨p42,e41,h⟩:=aj h;refine ah ?_
            refine PC.mk ((ah8 k p_0 x39 _ e41).wk (.same (.same .nil))) ?_;obtain⟨e43,h⟩:=aL h;refine ah ?_
            refine cu (aW e43) ?_;obtain⟨e44,h⟩:=aL h;refine ah ?_
            refine cu (aW e44) ?_;obtain⟨p46,e45,h⟩:=aj h;refine ah ?_
            refine PC.mk ((xV k p_0 x2 _ e45).wk (.same (.same .nil))) ?_;obtain⟨e47,h⟩:=aL h;refine ah ?_
            refine aY (aW e47) ?_;obtain⟨e48,h⟩:=aL h;refine ah ?_
            refine aY (aW e48) ?_;cases h;refine ah ?_
            exact(.pure _ (.str _))
           ·rcases au h with⟨e49,h⟩|⟨e49,h⟩
            ·refine ah ?_
             refine dI ?_;obtain⟨p51,e50,h⟩:=aj h;refine ah ?_
             refine PC.mk ((xV k p_0 x2 _ e50).wk (.same (.same .nil))) ?_;obtain⟨e52,h⟩:=aL h;refine ah ?_
             refine cu (aW e52) ?_;obtain⟨e53,h⟩:=aL h;refine ah ?_
             refine cu (aW e53) ?_;obtain⟨e54,h⟩:=aL h;obtain⟨x55,e56,h⟩:=aj h;obtain⟨p58,e57,h⟩:=aj h;refine ah ?_
             refine PC.mk ((eB k p_0 x55 false _ e57).wk (.same (.same (.same .nil)))) ?_;obtain⟨e59,h⟩:=aL h;refine ah ?_
             refine aY (aW e59) ?_;obtain⟨e60,h⟩:=aL h;refine ah ?_
             refine aY (aW e60) ?_;cases h;refine ah ?_
             exact(.pure _ (.str _))
            ·rcases au h with⟨e61,h⟩|⟨e61,h⟩
             ·refine ah ?_
              refine dI ?_;obtain⟨x62,e63,h⟩:=aj h;obtain⟨p65,e64,h⟩:=aj h;refine ah ?_
              refine PC.mk ((YW k p_0 x62 _ e64).wk (.same (.same .nil))) ?_;obtain⟨e66,h⟩:=aL h;refine ah ?_
              refine cu (aW e66) ?_;obtain⟨e67,h⟩:=aL h;obtain⟨p69,e68,h⟩:=aj h;refine ah ?_
              refine PC.mk ((LK k p_0 (x2.args.drop 1) _ e68).wk (.same (.aB .nil))) ?_;obtain⟨YB,h⟩:=aL h;refine ah ?_
              refine aY (aW YB) ?_;obtain⟨Yr,h⟩:=aL h;refine ah ?_
              refine aY (aW Yr) ?_;cases h;refine ah ?_
              exact(.pure _ (.str _))
             ·rcases au h with⟨e72,h⟩|⟨e72,h⟩
              ·refine ah ?_
               refine dI ?_;obtain⟨Yz,e74,h⟩:=aj h;obtain⟨Us,Tc,h⟩:=aj h;refine ah ?_
               refine PC.mk ((eB k p_0 Yz false _ Tc).wk (.same (.same (.same .nil)))) ?_;obtain⟨Qo,h⟩:=aL h;refine ah ?_
               refine cu (aW Qo) ?_;obtain⟨e78,h⟩:=aL h;refine ah ?_
               refine cu (aW e78) ?_;obtain⟨x79,e80,h⟩:=aj h;obtain⟨p82,e81,h⟩:=aj h;refine ah ?_
               refine PC.mk ((eB k p_0 x79 false _ e81).wk (.same (.same (.same .nil)))) ?_;obtain⟨e83,h⟩:=aL h;refine ah ?_
               refine aY (aW e83) ?_;obtain⟨e84,h⟩:=aL h;refine ah ?_
               refine aY (aW e84) ?_;cases h;refine ah ?_
               exact(.pure _ (.str _))
              ·rcases au h with⟨e85,h⟩|⟨e85,h⟩
               ·obtain⟨Mc,Td,h⟩:=aj h;refine ah ?_
                refine av ((Uu k p_0 x2 ([32,124,45,62,32]:Str) _ Td).wk (.same (.same (.same .nil)))) ?_;obtain⟨Nk,h⟩:=aL h;refine ah ?_
                refine aY (aW Nk) ?_;obtain⟨Te,h⟩:=aL h;refine ah ?_
                refine aY (aW Te) ?_;cases h;refine ah ?_
                exact(.pure _ (.str _))
               ·rcases au h with⟨Tf,h⟩|⟨Tf,h⟩
                ·obtain⟨p92,Tg,h⟩:=aj h;refine ah ?_
                 refine av ((Uu k p_0 x2 ([32,58,32]:Str) _ Tg).wk (.same (.same (.same .nil)))) ?_;obtain⟨Tj,h⟩:=aL h;refine ah ?_
                 refine aY (aW Tj) ?_;obtain⟨e94,h⟩:=aL h;refine ah ?_
                 refine aY (aW e94) ?_;cases h;refine ah ?_
                 exact(.pure _ (.str _))
                ·rcases au h with⟨e95,h⟩|⟨e95,h⟩
                 ·refine ah ?_
                  refine dI ?_;obtain⟨x96,e97,h⟩:=aj h;obtain⟨p99,e98,h⟩:=aj h;refine ah ?_
                  refine PC.mk ((YW k p_0 x96 _ e98).wk (.same (.same .nil))) ?_;obtain⟨e100,h⟩:=aL h;refine ah ?_
                  refine cu (aW e100) ?_;obtain⟨RG,h⟩:=aL h;refine ah ?_
                  refine aY (aW RG) ?_;cases h;refine ah ?_
                  exact(.pure _ (.str _))
                 ·rcases au h with⟨aaZ,h⟩|⟨aaZ,h⟩
                  ·refine ah ?_
                   refine dI ?_;obtain⟨x103,ajC,h⟩:=aj h;obtain⟨GV,Nq,h⟩:=aj h;refine ah ?_
                   refine PC.mk ((eB k p_0 x103 false _ Nq).wk (.same (.same (.same .nil)))) ?_;obtain⟨GH,h⟩:=aL h;refine ah ?_
                   refine cu (aW GH) ?_;obtain⟨e108,h⟩:=aL h;refine ah ?_
                   refine cu (aW e108) ?_;obtain⟨akf,Xa,h⟩:=aj h;obtain⟨Lj,aa0,h⟩:=aj h;refine ah ?_
                   refine PC.mk ((eB k p_0 akf false _ aa0).wk (.same (.same (.same .nil)))) ?_;obtain⟨aa1,h⟩:=aL h;refine ah ?_
                   refine cu (aW aa1) ?_;obtain⟨ayf,h⟩:=aL h;refine ah ?_
                   refine cu (aW ayf) ?_;obtain⟨x115,e116,h⟩:=aj h;obtain⟨Jp,e117,h⟩:=aj h;refine ah ?_
                   refine PC.mk ((eB k p_0 x115 false _ e117).wk (.same (.same (.same .nil)))) ?_;obtain⟨e119,h⟩:=aL h;refine ah ?_
                   refine aY (aW e119) ?_;obtain⟨e120,h⟩:=aL h;refine ah ?_
                   refine aY (aW e120) ?_;cases h;refine ah ?_
                   exact(.pure _ (.str _))
                  ·rcases au h with⟨ajL,h⟩|⟨ajL,h⟩
                   ·cases h;refine ah ?_
                    exact(.pure _ (.str _))
                   ·rcases au h with⟨aa2,h⟩|⟨aa2,h⟩
                    ·refine ah ?_
                     refine dI ?_;obtain⟨akg,arO,h⟩:=aj h;obtain⟨acH,e125,h⟩:=aj h;refine ah ?_
                     refine PC.mk ((eB k p_0 akg false _ e125).wk (.same (.same (.same .nil)))) ?_;obtain⟨e127,h⟩:=aL h;refine ah ?_
                     refine cu (aW e127) ?_;obtain⟨e128,h⟩:=aL h;refine ah ?_
                     refine cu (aW e128) ?_;obtain⟨akh,aqE,h⟩:=aj h;obtain⟨XG,ayg,h⟩:=aj h;refine ah ?_
                     refine PC.mk ((zn k p_0 akh _ ayg).wk (.same (.same .nil))) ?_;obtain⟨ajm,h⟩:=aL h;refine ah ?_
                     refine aY (aW ajm) ?_;cases h;refine ah ?_
                     exact(.pure _ (.str _))
                    ·rcases au h with⟨ayh,h⟩|⟨ayh,h⟩
                     ·refine ah ?_
                      refine dI ?_;obtain⟨aki,aqF,h⟩:=aj h;obtain⟨Np,e137,h⟩:=aj h;refine ah ?_
                      refine PC.mk ((eB k p_0 aki false _ e137).wk (.same (.same (.same .nil)))) ?_;obtain⟨ajn,h⟩:=aL h;refine ah ?_
                      refine cu (aW ajn) ?_;obtain⟨aa3,h⟩:=aL h;refine ah ?_
                      refine cu (aW aa3) ?_;obtain⟨akj,aCm,h⟩:=aj h;obtain⟨Xg,e143,h⟩:=aj h;refine ah ?_
                      refine PC.mk ((zn k p_0 akj _ e143).wk (.same (.same .nil))) ?_;obtain⟨asS,h⟩:=aL h;refine ah ?_
                      refine aY (aW asS) ?_;cases h;refine ah ?_
                      exact(.pure _ (.str _))
                     ·rcases au h with⟨afY,h⟩|⟨afY,h⟩
                      ·refine ah ?_
                       refine dI ?_;obtain⟨akk,ar3,h⟩:=aj h;obtain⟨X6,ayi,h⟩:=aj h;refine ah ?_
                       refine PC.mk ((zn k p_0 akk _ ayi).wk (.same (.same .nil))) ?_;obtain⟨ajo,h⟩:=aL h;refine ah ?_
                       refine cu (aW ajo) ?_;obtain⟨e152,h⟩:=aL h;refine ah ?_
                       refine cu (aW e152) ?_;obtain⟨x153,e154,h⟩:=aj h;obtain⟨RH,ayj,h⟩:=aj h;refine ah ?_
                       refine PC.mk ((eB k p_0 x153 false _ ayj).wk (.same (.same (.same .nil)))) ?_;obtain⟨ayk,h⟩:=aL h;refine ah ?_
                       refine aY (aW ayk) ?_;obtain⟨ajQ,h⟩:=aL h;refine ah ?_
                       refine aY (aW ajQ) ?_;cases h;refine ah ?_
                       exact(.pure _ (.str _))
                      ·rcases au h with⟨ayl,h⟩|⟨ayl,h⟩
                       ·refine ah ?_
                        refine dI ?_;obtain⟨x160,ar4,h⟩:=aj h;obtain⟨X7,ajr,h⟩:=aj h;refine ah ?_
                        refine PC.mk ((zn k p_0 x160 _ ajr).wk (.same (.same .nil))) ?_;obtain⟨aqH,h⟩:=aL h;refine ah ?_
                        refine cu (aW aqH) ?_;obtain⟨e165,h⟩:=aL h;refine ah ?_
                        refine cu (aW e165) ?_;obtain⟨akl,e167,h⟩:=aj h;obtain⟨agf,e168,h⟩:=aj h;refine ah ?_
                        refine PC.mk ((eB k p_0 akl false _ e168).wk (.same (.same (.same .nil)))) ?_;obtain⟨e170,h⟩:=aL h;refine ah ?_
                        refine aY (aW e170) ?_;obtain⟨ajR,h⟩:=aL h;refine ah ?_
                        refine aY (aW ajR) ?_;cases h;refine ah ?_
                        exact(.pure _ (.str _))
                       ·obtain⟨asR,aym,h⟩:=aj h;refine ah ?_
                        refine av ((akq k p_0 x2 _ aym).wk (.same (.same .nil))) ?_;cases h;refine ah ?_
                        exact(.pure _ (.str _))
theorem YW (k:Nat): ∀(p_0:Printer) (bB:Int) (r:Str) (h:Du k p_0 bB=some r),aC Tryz.prog 156 [(.agg (Printer.cells p_0)),(.int .i64 bB)] (.str r):=by
  match k with
  |0=>intro p_0 bB r h;rw [Du]at h;cases h
  |k+1=>
    intro p_0 bB r h;refine aC.aP (bn.mem (.cons (.agg _ (Printer.pu _)) (.cons (.int _ _) .nil))) (aK at5 (by simp) (aD ?_)) (.str _);rw [Du]at h;unfold alz;obtain⟨p2,e1,h⟩:=aj h;refine ah ?_
    refine av (wV e1) ?_;refine ah ?_
    refine dI ?_;rcases au h with⟨e3,h⟩|⟨e3,h⟩
    ·obtain⟨p5,e4,h⟩:=aj h;refine ah ?_
     refine av ((nO k p_0 bB true true _ e4).wk (.same (.same (.same (.same .nil))))) ?_;cases h;refine ah ?_
     exact(.pure _ (.str _))
    ·obtain⟨e6,h⟩:=aL h;obtain⟨x7,e8,h⟩:=aj h;obtain⟨jo,e9,h⟩:=aj h;refine ah ?_
     refine av ((nO k p_0 bB (x7.kind==0) true _ e9).wk (.same (.same (.same (.same .nil))))) ?_;cases h;refine ah ?_
     exact(.pure _ (.str _))
theorem zn (k:Nat): ∀(p_0:Printer) (bB:Int) (r:Str) (h:nN k p_0 bB=some r),aC Tryz.prog 158 [(.agg (Printer.cells p_0)),(.int .i64 bB)] (.str r):=by
  match k with
  |0=>intro p_0 bB r h;rw [nN]at h;cases h
  |k+1=>
    intro p_0 bB r h;refine aC.aP (bn.mem (.cons (.agg _ (Printer.pu _)) (.cons (.int _ _) .nil))) (aK at7 (by simp) (aD ?_)) (.str _);rw [nN]at h;unfold alB;obtain⟨e1,h⟩:=aL h;obtain⟨x2,e3,h⟩:=aj h;refine ah ?_
    obtain⟨o10,h11,h⟩:=aj h;refine Sg k (AH.empty.next+1) x2.kind x2.n x2.text x2.names x2.args (x2.kind==2) _ _ _ (Fr.refl _ _) ak bJ _ h11 _ ?_
    ·rintro lW σ' eo vS s16;rw [eo]at h;have s17:σ' 1=(.int .i64 bB):=(vS 1 (by decide)).trans ak;have qB:σ' 2=(.ref (AH.empty.next) 0):=(vS 2 (by decide)).trans ak;have qM:σ' 5=(.ref (AH.empty.next+1) 0):=(vS 5 (by decide)).trans ak;rcases au h with⟨e20,h⟩|⟨e20,h⟩
     ·obtain⟨Gn,e21,h⟩:=aj h;refine ah ?_
      refine av ((nO k p_0 bB false false _ e21).wk (.same (.same (.same (.same .nil))))) ?_;cases h;refine ah ?_
      exact(.pure _ (.str _))
     ·obtain⟨mg,e23,h⟩:=aj h;refine ah ?_
      refine av ((nO k p_0 bB (x2.kind !=4) false _ e23).wk (.same (.same (.same (.same .nil))))) ?_;cases h;refine ah ?_
      exact(.pure _ (.str _))
end
theorem akr {k:Nat} {p_0:Printer} {bB:Int} {kJ:Bool} {r:Str} (h:eu k p_0 bB kJ=some r):aC Tryz.prog 59 [(.agg (Printer.cells p_0)),(.int .i64 bB),(.bool kJ)] (.str r):=eB k p_0 bB kJ r h
def og (k:Nat) (aJ:List Nd):Option (Str×Int):=
  Option.bind (nZ k aJ) fun p2=>cond (p2 !=0) (some ([],p2)) (Option.bind (eu k (Printer.mk aJ) (IntKind.wrap .i64 ((aJ.length:Int) -1)) false) fun p5=>cond (decide ((p5.length:Int)>20000)) (some ([],2)) (some (p5,0)))
theorem xW {k:Nat} {aJ:List Nd} {c0:Ck} {r:Str×Int} (h:og k aJ=some r):aC Tryz.prog 17 [(.aB (aJ.map Nd.cells) c0)] (.dR [(.str r.1),(.int .i64 r.2)]):=by
  refine aC.lw (.aB .nil) (aC.aP (bn.mem (.cons (bC Nd.pu _) .nil)) (aK apb (by simp) (aD ?_)) (.dR _ (bn.mem (.cons (.str _) (.cons (.int _ _) .nil)))));unfold og at h;unfold apa;obtain⟨p2,e1,h⟩:=aj h;refine ah ?_
  refine av (Qy e1) ?_;rcases au h with⟨e3,h⟩|⟨e3,h⟩
  ·cases h;refine ah ?_
   exact(dJ (.cons (.pure _ (.str _)) (aN .nil)))
  ·obtain⟨p5,e4,h⟩:=aj h;refine ah ?_
   refine av (akr e4) ?_;rcases au h with⟨e6,h⟩|⟨e6,h⟩
   ·cases h;refine ah ?_
    exact(dJ (.cons (.pure _ (.str _)) (aN .nil)))
   ·cases h;refine ah ?_
    exact(dJ (.cons (.pure _ (.str _)) (aN .nil)))
end Go.VL
end
section
namespace Go.VL
open Tm
theorem X8 (l:List Int) (s:Int) (hl:l.length<=1099511627776):Ev (fun k=>nT k l s) (decide (s∈l)):=by
  have key: ∃o:Unit⊕Int,Ev (fun k=>fZ k l s (l.length:Int) ((0:Nat):Int)) o/\((o= .inl ()/\ ¬s∈l.drop 0)\/(∃j:Nat,o= .inr (j:Int))/\s∈l.drop 0):=by
    refine lq (len:=l.length) (p:=fun i=> ∃o:Unit⊕Int,Ev (fun k=>fZ k l s (l.length:Int) (i:Int)) o/\((o= .inl ()/\ ¬s∈l.drop i)\/(∃j:Nat,o= .inr (j:Int))/\s∈l.drop i)) ?_ fun i hi ⟨o,ih,ho⟩=> ?_
    · refine⟨.inl (),Ev.succ ?_,.inl ⟨rfl,by simp⟩⟩;simp only [fZ];exact Ev.cF (jU _) Ev.some
    · by_cases h:l[i]=s
      · refine⟨.inr (i:Int),Ev.succ ?_,.inr ⟨⟨i,rfl⟩,(CY hi).2 (.inl h)⟩⟩;simp only [fZ,Int.toNat_natCast,bE hi,Option.bind_some,nn,if_true,mh hi,cond_true];exact Ev.cT (by rw [beq_iff_eq];exact h.symm) Ev.some
      · refine⟨o,Ev.succ ?_,?_⟩
        · simp only [fZ,Int.toNat_natCast,bE hi,Option.bind_some,nn,if_true,mh hi,cond_true,eT hi hl];exact Ev.cF (by rw [beq_eq_false_iff_ne];exact fun e=>h e.symm) ih
        · simpa only [CY hi,h,false_or]using ho
  obtain⟨o,hk,ho⟩:=key;rw [List.drop_zero]at ho;unfold nT vK;rcases ho with⟨rfl,h⟩|⟨⟨j,rfl⟩,h⟩
  · exact Ev.bind (Ev.bind hk Ev.some) (Ev.some' (by simp [h]))
  · exact Ev.bind (Ev.bind hk Ev.some) (Ev.some' (by simp [h]))
theorem QG (n:Int):Ev (fun k=>Gz k n) (fE n):=by
  unfold Gz fE;exact Ev.bind (X8 _ _ (by simp)) Ev.some
structure KI (e:List Nd) (a:Int) (c:dA):Prop where
  nn:0<=a
  nd: ∃n,e[a.toNat]? =some n/\n.kind=c.kind/\n.text=c.text
  ev: ∀f,Ev (fun k=>eu k ⟨e⟩ a f) (c.out f)
  sm: ∀f,(c.out f).length<=1000000000
inductive KL (e:List Nd):List Int->List dA->Prop
  |nil:KL e [] []
  |cons {a c al ks} (h:KI e a c) (t:KL e al ks):KL e (a::al) (c::ks)
theorem KL.len {e:List Nd} {al:List Int} {ks:List dA} (h:KL e al ks):al.length=ks.length:=by
  induction h with
  |nil=>rfl
  |cons _ _ ih=>simp [ih]
theorem KL.get {e:List Nd} {al:List Int} {ks:List dA} (h:KL e al ks): ∀{i:Nat} {a c},al[i]? =some a->ks[i]? =some c->KI e a c:=by
  induction h with
  |nil=>intro i a c h;simp at h
  |cons h _ ih=>
    intro i a c h1 h2;cases i with
    |zero=>simp at h1 h2;subst h1;subst h2;exact h
    |succ i=>simp at h1 h2;exact ih h1 h2
theorem zo {e:List Nd} {a:Int} {c:dA} (h:KI e a c):Ev (fun k=>nJ k ⟨e⟩ a) c.op:=by
  obtain⟨n,hn,hk,ht⟩:=h.nd;unfold nJ dA.op fq;simp only [hn,Option.bind_some,h.nn,if_true,hk,ht];by_cases h3:c.kind=3
  · simp only [h3,bne_self_eq_false,cond_false,if_true];exact Ev.bind (rH _) Ev.some
  · refine Ev.cT (by rw [bne_iff_ne];exact h3) (Ev.some' ?_);rw [if_neg h3];rfl
theorem adH {e:List Nd} {a:Int} {c:dA} (h:KI e a c):Ev (fun k=>w9 k ⟨e⟩ a) (40::(c.out false++[41])):=by
  have:=h.sm false;refine Ev.succ ?_;simp only [w9];exact Ev.bind (h.ev false) (Ev.aX (by simp;omega) (Ev.aX (by simp;omega) Ev.some))
theorem mE {e:List Nd} {a:Int} {c:dA} (h:KI e a c) (m f:Bool):Ev (fun k=>kK k ⟨e⟩ a m f) (fV c m f):=by
  refine Ev.succ ?_;simp only [kK];cases m
  · exact Ev.bind (h.ev f) Ev.some
  · exact Ev.bind (adH h) Ev.some
theorem zQ {c:dA} (h: ∀f,(c.out f).length<=1000000000) (m f:Bool):(fV c m f).length<=1000000002:=by
  unfold fV;have a:=h false;have b:=h f;split<;>simp<;>omega
theorem Cm {l:List Str} {sep:Str} (h:l.length<=40) (h2: ∀s∈l,s.length<=2000000100) (h3:sep.length<=1000):(Lib.join l sep).length<=100000000000:=by
  have h4:=aj2 l sep 2000000100 h2;have h5:l.length*(2000000100+sep.length)<=40*(2000000100+1000):=Nat.mul_le_mul h (by omega);omega
section
variable {e:List Nd} {al:List Int} {ks:List dA} (h:KL e al ks) (EP:ks.length<=34)
include h
theorem KL.sm {c:dA} (hc:c∈ks) (f:Bool):(c.out f).length<=1000000000:=by
  obtain⟨i,hi⟩:=List.mem_iff_getElem?.1 hc;have:=(List.getElem?_eq_some_iff.1 hi).1;exact(h.get (bE (by rw [h.len];exact this)) hi).sm f
include EP
theorem I6:Ev (fun k=>Cj k ⟨e⟩ al) (iT ks):=by
  have hl:=h.len;have key:Ev (fun k=>rP k e ((ks.take 0).map fun c=>c.out false) al (al.length:Int) ((0:Nat):Int)) (ks.map fun c=>c.out false):=by
    refine lq (len:=al.length) (p:=fun i=>Ev (fun k=>rP k e ((ks.take i).map fun c=>c.out false) al (al.length:Int) (i:Int)) (ks.map fun c=>c.out false)) ?_ fun i hi ih=> ?_
    · refine Ev.succ ?_;simp only [rP];exact Ev.cF (jU _) (Ev.some' (by rw [hl,List.take_length]))
    · have hi':i<ks.length:=by omega
      refine Ev.succ ?_;simp only [rP,Int.toNat_natCast,bE hi,Option.bind_some,nn,if_true,mh hi,cond_true,eT hi (show al.length<=1099511627776 by omega)];refine Ev.bind ((h.get (bE hi) (bE hi')).ev false) (Ev.aX (by simp;omega) ?_);have e1:(ks.take (i+1)).map (fun c=>c.out false)=(ks.take i).map (fun c=>c.out false)++[ks[i].out false]:=by rw [List.take_succ_eq_append_getElem hi',List.map_append];rfl
      rw [<-e1];exact ih
  refine Ev.succ ?_;simp only [Cj];have hj:=Cm (l:=ks.map fun c=>c.out false) (sep:=[44,32]) (by simp;omega) (fun s hs=>by obtain⟨c,hc,rfl⟩:=List.mem_map.1 hs;have:=h.sm hc false;omega) (by simp);exact Ev.bind key (Ev.aX (by simp;omega) (Ev.aX (by omega) Ev.some))
theorem acJ {sign:Str} {names:List Str} {i:Nat} (h1:i<names.length) (h2:i<ks.length):(List.zipWith (fun s c=>s++(sign++dA.out c false)) names ks).take (i+1)=(List.zipWith (fun s c=>s++(sign++dA.out c false)) names ks).take i++[names[i]++(sign++ks[i].out false)]:=by
  rw [List.take_succ_eq_append_getElem (by rw [List.length_zipWith];omega),List.getElem_zipWith]
theorem Dv {sign:Str} {names:List Str} (hs:sign.length<=10) (hnm: ∀s∈names,s.length<=80):(dH sign names ks).length<=100000000000:=by
  refine Cm (by rw [List.length_zipWith];omega) (fun s hm=> ?_) (by simp);obtain⟨i,hi⟩:=List.mem_iff_getElem?.1 hm;rw [List.getElem?_zipWith]at hi;cases a:names[i]? with
  |none=>rw [a]at hi;simp at hi
  |some x=>
    rw [a]at hi;cases b:ks[i]? with
    |none=>rw [b]at hi;simp at hi
    |some c=>
      rw [b]at hi;simp only [Option.some.injEq]at hi;subst hi;have h1:=hnm x (List.mem_of_getElem? a);have h2:=h.sm (List.mem_of_getElem? b) false;simp;omega
theorem vg {n:Nd} (ha:n.args=al) (hle:n.names.length<=ks.length) (hnm: ∀s∈n.names,s.length<=80):Ev (fun k=>qG k ⟨e⟩ n) (dH [32,92,105,110,32] n.names ks):=by
  have hl:=h.len;have key:Ev (fun k=>nK k e n.kind n.n n.text n.names n.args ((List.zipWith (fun s c=>s++([32,92,105,110,32]++dA.out c false)) n.names ks).take 0) n.names (n.names.length:Int) ((0:Nat):Int)) (List.zipWith (fun s c=>s++([32,92,105,110,32]++dA.out c false)) n.names ks):=by
    refine lq (len:=n.names.length) (p:=fun i=>Ev (fun k=>nK k e n.kind n.n n.text n.names n.args ((List.zipWith (fun s c=>s++([32,92,105,110,32]++dA.out c false)) n.names ks).take i) n.names (n.names.length:Int) (i:Int)) (List.zipWith (fun s c=>s++([32,92,105,110,32]++dA.out c false)) n.names ks)) ?_ fun i hi ih=> ?_
    · refine Ev.succ ?_;simp only [nK];exact Ev.cF (jU _) (Ev.some' (by rw [List.take_of_length_le (by rw [List.length_zipWith];omega)]))
    · have hi':i<ks.length:=by omega
      have hi2:i<n.args.length:=by rw [ha];omega
      have hc:KI e n.args[i] ks[i]:=h.get (by rw [<-ha];exact bE hi2) (bE hi');have s1:=hnm _ (List.getElem_mem hi);have s2:=hc.sm false;refine Ev.succ ?_;simp only [nK,Int.toNat_natCast,bE hi,bE hi2,Option.bind_some,nn,if_true,mh hi,cond_true,eT hi (show n.names.length<=1099511627776 by omega)];refine Ev.aX (by simp;omega) (Ev.bind (hc.ev false) (Ev.aX (by simp;omega) (Ev.aX (by rw [List.length_take,List.length_zipWith];omega) ?_)));rw [acJ h EP hi hi']at ih;exact ih
  refine Ev.succ ?_;simp only [qG];have hj:=Dv h EP (sign:=[32,92,105,110,32]) (by simp) hnm;exact Ev.bind key (Ev.aX (by rw [List.length_zipWith];omega) (Ev.aX (Nat.le_trans hj (by omega)) Ev.some))
theorem QH {n:Nd} {sign:Str} (hs:sign.length<=10) (ha:n.args=al) (hle:n.names.length<=ks.length) (hnm: ∀s∈n.names,s.length<=80):Ev (fun k=>zP k ⟨e⟩ n sign) (dH sign n.names ks):=by
  have hl:=h.len;have key:Ev (fun k=>nL k sign e n.kind n.n n.text n.names n.args ((List.zipWith (fun s c=>s++(sign++dA.out c false)) n.names ks).take 0) n.names (n.names.length:Int) ((0:Nat):Int)) (List.zipWith (fun s c=>s++(sign++dA.out c false)) n.names ks):=by
    refine lq (len:=n.names.length) (p:=fun i=>Ev (fun k=>nL k sign e n.kind n.n n.text n.names n.args ((List.zipWith (fun s c=>s++(sign++dA.out c false)) n.names ks).take i) n.names (n.names.length:Int) (i:Int)) (List.zipWith (fun s c=>s++(sign++dA.out c false)) n.names ks)) ?_ fun i hi ih=> ?_
    · refine Ev.succ ?_;simp only [nL];exact Ev.cF (jU _) (Ev.some' (by rw [List.take_of_length_le (by rw [List.length_zipWith];omega)]))
    · have hi':i<ks.length:=by omega
      have hi2:i<n.args.length:=by rw [ha];omega
      have hc:KI e n.args[i] ks[i]:=h.get (by rw [<-ha];exact bE hi2) (bE hi');have s1:=hnm _ (List.getElem_mem hi);have s2:=hc.sm false;refine Ev.succ ?_;simp only [nL,Int.toNat_natCast,bE hi,bE hi2,Option.bind_some,nn,if_true,mh hi,cond_true,eT hi (show n.names.length<=1099511627776 by omega)];refine Ev.aX (by omega) (Ev.bind (hc.ev false) (Ev.aX (by simp;omega) (Ev.aX (by rw [List.length_take,List.length_zipWith];omega) ?_)));rw [acJ h EP hi hi']at ih;exact ih
  refine Ev.succ ?_;simp only [zP];have hj:=Dv h EP (sign:=sign) hs hnm;exact Ev.bind key (Ev.aX (by rw [List.length_zipWith];omega) (Ev.aX (Nat.le_trans hj (by omega)) Ev.some))
theorem Sk: ∀(l:List dA),(iq l).length<=l.length
  |[]=>by simp [iq]
  |[c]=>by simp [iq]
  |c::d::l=>by have:=Sk l;simp only [iq,List.length_cons];omega
theorem aeS (hm: ∀c∈ks,∀f,(c.out f).length<=1000000000): ∀(l:List dA),(∀c∈l,c∈ks)-> ∀s∈iq l,s.length<=2000000100
  |[],_,s,hs=>by simp [iq]at hs
  |[c],hl,s,hs=>by
    simp only [iq,List.mem_singleton]at hs;have:=hm c (hl c (by simp)) false;subst hs;simp;omega
  |c::d::l,hl,s,hs=>by
    simp only [iq,List.mem_cons]at hs;rcases hs with rfl|hs
    · have:=hm c (hl c (by simp)) false;have:=hm d (hl d (by simp)) (!l.isEmpty);simp;omega
    · exact aeS hm l (fun x hx=>hl x (by simp [hx])) s hs
theorem ZA {n:Nd} (ha:n.args=al): ∀(m i:Nat) (out:List Str),ks.length<=i+m->i<=ks.length->out.length<=i->Ev (fun k=>nM k e n.kind n.n n.text n.names n.args out ((ks.length:Int) -1) (i:Int)) (out++iq (ks.drop i)):=by
  have hl:=h.len;intro m
  induction m with
  |zero=>
    intro i out h1 h2 h3;refine Ev.succ ?_;simp only [nM];exact Ev.cF (decide_eq_false (by omega)) (Ev.some' (by rw [List.drop_of_length_le (by omega)];simp [iq]))
  |succ m ih=>
    intro i out h1 h2 h3;refine Ev.succ ?_;by_cases hi:i<ks.length
    · have hi2:i<n.args.length:=by rw [ha];omega
      have hc:KI e n.args[i] ks[i]:=h.get (by rw [<-ha];exact bE hi2) (bE hi);have s2:=hc.sm false;have hle:decide ((i:Int)<=(ks.length:Int) -1)=true:=decide_eq_true (by omega);by_cases hlast:i+1=ks.length
      · have hq:((i:Int)==(ks.length:Int) -1)=true:=by rw [beq_iff_eq];omega
        simp only [nM,Int.toNat_natCast,bE hi2,Option.bind_some,nn,if_true,hle,hq,cond_true];refine Ev.bind (hc.ev false) (Ev.aX (by simp;omega) (Ev.aX (by omega) (Ev.some' ?_)));rw [drop_cons hi,List.drop_of_length_le (by omega)];rfl
      · have hq:((i:Int)==(ks.length:Int) -1)=false:=by rw [beq_eq_false_iff_ne];omega
        have hj:i+1<ks.length:=by omega
        have hj2:i+1<n.args.length:=by rw [ha];omega
        have hd:KI e n.args[i+1] ks[i+1]:=h.get (by rw [<-ha];exact bE hj2) (bE hj);have w1:IntKind.wrap .i64 ((i:Int)+1)=((i+1:Nat):Int):=eT hi (by omega);have w2:IntKind.wrap .i64 ((i:Int)+2)=((i+2:Nat):Int):=by rw [wrap64 (by omega) (by omega)];omega
        have s3:=hd.sm (decide (((i+1:Nat):Int)<(ks.length:Int) -1));have hq2:(decide (((i+1:Nat):Int)<(ks.length:Int) -1))= !(ks.drop (i+2)).isEmpty:=by
          rw [Bool.eq_iff_iff];simp;omega
        rw [hq2]at s3;simp only [nM,w1,w2,hq2,Int.toNat_natCast,bE hi2,bE hj2,Option.bind_some,nn,if_true,hle,hq,cond_true,cond_false];refine Ev.bind (hc.ev false) (Ev.aX (by simp;omega) (Ev.bind (hd.ev _) (Ev.aX (by simp;omega) (Ev.aX (by omega) ?_))));refine(ih (i+2) _ (by omega) (by omega) (by simp;omega)).to ?_;rw [drop_cons hi,drop_cons hj,iq,List.append_assoc];rfl
    · simp only [nM];exact Ev.cF (decide_eq_false (by omega)) (Ev.some' (by rw [List.drop_of_length_le (by omega)];simp [iq]))
end
theorem aks {l:List Operator} {t:Str} (h:(bH l t).2=true):(bH l t).1∈l/\(bH l t).1.text=t:=by
  induction l with
  |nil=>simp [bH]at h
  |cons o l ih=>
    rw [bH]at h⊢;by_cases ho:o.text=t
    · rw [if_pos ho];exact⟨List.mem_cons_self,ho⟩
    · rw [if_neg ho]at h⊢;exact⟨List.mem_cons_of_mem _ (ih h).1,(ih h).2⟩
theorem aib:bU.all (fun o=>decide (o.text≠[])&&decide (o.text.length<=20)&&(decide (o.fix=0)||decide (o.fix=1)||decide (o.fix=2))&&(!decide (o.fix=2)||decide (o.text=[39]))&&(decide (o.least=1)||decide (o.least=2))&&decide (o.most<=4)&&(!decide (o.fix=0)||decide (o.least=1))&&(!decide (o.fix=1)||decide (o.least=2))&&decide (0<o.low)&&(!decide (o.text=[45,46])||decide (o.fix=0))&&(!decide (o.fix=0)||(match o.text with|c::_=>decide (isLet c=true↔(65<=c.toNat/\c.toNat<=90))&& !(decide (o.text++[32]=[45,46]))|[]=>false)))=true:=by kernel_rfl
structure OpF (o:Operator):Prop where
  ne:o.text≠[]
  len:o.text.length<=20
  fix:o.fix=0\/o.fix=1\/o.fix=2
  post:o.fix=2->o.text=[39]
  least:1<=o.least
  neg:o.text=[45,46]->o.fix=0
  word:o.fix=0-> ∃c l,o.text=c::l/\(isLet c=true↔(65<=c.toNat/\c.toNat<=90))/\o.text++[32]≠[45,46]
theorem opF {t:Str} (h:(bH bU t).2=true):OpF (bH bU t).1:=by
  have:=List.all_eq_true.1 aib _ (aks h).1;simp only [Bool.and_eq_true,Bool.or_eq_true,Bool.not_eq_true',decide_eq_true_eq,decide_eq_false_iff_not]at this;obtain⟨⟨⟨⟨⟨⟨⟨⟨⟨⟨h1,h2⟩,h3⟩,h4⟩,h5⟩,h6⟩,h7⟩,h8⟩,h9⟩,hn⟩,hw⟩:=this;refine⟨h1,h2,by rcases h3 with(h3|h3)|h3<;>simp [h3],fun h=>h4.resolve_left fun k=>k h,by rcases h5 with h5|h5<;>omega,fun h=>hn.resolve_left fun k=>k h,fun h=> ?_⟩;have hw:=hw.resolve_left fun k=>k h;cases ht:(bH bU t).1.text with
  |nil=>rw [ht]at hw;simp at hw
  |cons c l=>
    rw [ht]at hw;simp only [Bool.and_eq_true,Bool.not_eq_true',decide_eq_true_eq,decide_eq_false_iff_not]at hw;exact⟨c,l,rfl,hw.1,hw.2⟩
theorem Uv (o x:Operator) (i:Nat) (is:Bool):wY o.text o.fix o.low o.high o.left o.least o.most (i:Int) x.text x.fix x.low x.high x.left x.least x.most is=some (is&&decide (x.low<=o.high)&& !(decide (i=0)&&decide (x.text=o.text)&&o.left)):=by
  unfold wY;cases is
  · rfl
  cases decide (x.low<=o.high)
  · rfl
  by_cases h:i=0
  · subst h;by_cases h2:x.text=o.text
    · rw [h2];simp
    · have:(x.text==o.text)=false:=by rw [beq_eq_false_iff_ne];exact h2
      simp [this,h2]
  · have:((i:Int)==0)=false:=by rw [beq_eq_false_iff_ne];omega
    simp [this,h]
theorem Uw (o x:Operator) (is:Bool):wW o.text o.fix o.low o.high o.left o.least o.most x.text x.fix x.low x.high x.left x.least x.most is=some (is&&((decide (x.fix=0)&&decide (x.low<o.low))||(!decide (x.fix=0)&&decide (x.low<=o.high))||(decide (x.text=[45,46])&&decide (o.text=[45,46])))):=by
  unfold wW;have a1:(x.fix==0)=decide (x.fix=0):=rfl;have a2:(x.fix !=0)= !decide (x.fix=0):=rfl;have a3:(x.text==([45,46]:Str))=decide (x.text=[45,46]):=sM _ _;have a4:(o.text==([45,46]:Str))=decide (o.text=[45,46]):=sM _ _;rw [a1,a2,a3,a4];cases is<;>cases decide (x.fix=0)<;>cases decide (x.low<o.low)<;>cases decide (x.low<=o.high)<;>cases decide (x.text=[45,46])<;>rfl
theorem Ux {o:Operator} (h:OpF o):wX o.text o.fix o.low o.high o.left o.least o.most o.text=some (zi o):=by
  unfold wX zi Ce;rw [sM];by_cases h1:o.text=[45,46]
  · simp [h1]
  · simp only [h1,decide_false,cond_false,if_false];have h2:=h.ne;have h3:=h.len;cases ht:o.text with
    |nil=>exact absurd ht h2
    |cons c l=>
      rw [ht]at h3;simp only [List.getElem?_cons_zero,Option.bind_some];by_cases a:65<=c.toNat
      · by_cases b:c.toNat<=90
        · simp [a,b,show(c.toNat:Int)>=65 by omega,show(c.toNat:Int)<=90 by omega];simp at h3;omega
        · simp [a,b,show(c.toNat:Int)>=65 by omega,show ¬(c.toNat:Int)<=90 by omega]
      · simp [a,show ¬(c.toNat:Int)>=65 by omega]
theorem YX {o:Operator} (h:OpF o):(zi o).length<=30:=by
  have:=h.len;unfold zi;split
  · simp
  · cases ht:o.text with
    |nil=>simp
    |cons c l=>rw [ht]at this;simp only;split<;>simp at this⊢ <;>omega
theorem zR (o:Operator) (f:Bool): ∀(l:List dA) (i:Nat),(j4 o f i l).length=l.length
  |[],i=>rfl
  |c::l,i=>by rw [j4,List.length_cons,List.length_cons,zR o f l]
theorem Sm (o:Operator) (f:Bool): ∀(l:List dA) (j i:Nat) (c:dA),l[i]? =some c->(j4 o f j l)[i]? =some (fV c (j3 o (j+i) c) (f|| !decide (i+1=l.length)))
  |[],j,i,c,h=>by simp at h
  |d::l,j,0,c,h=>by
    simp at h;subst h;rw [j4,List.getElem?_cons_zero];congr 3
    cases l<;>simp
  |d::l,j,i+1,c,h=>by
    rw [j4,List.getElem?_cons_succ,Sm o f l (j+1) i c (by simpa using h)];simp [Nat.add_assoc,Nat.add_comm 1 i]
section
variable {e:List Nd} {al:List Int} {ks:List dA} (h:KL e al ks) (EP:ks.length<=34)
include h EP
theorem Uy (o:Operator) (f:Bool):Ev (fun k=>jP k f e o.text o.fix o.low o.high o.left o.least o.most [] (IntKind.wrap .i64 ((al.length:Int) -1)) al (al.length:Int) 0) (j4 o f 0 ks):=by
  have hl:=h.len;have hw:IntKind.wrap .i64 ((al.length:Int) -1)=(al.length:Int) -1:=wrap64 (by omega) (by omega);have key:Ev (fun k=>jP k f e o.text o.fix o.low o.high o.left o.least o.most ((j4 o f 0 ks).take 0) ((al.length:Int) -1) al (al.length:Int) ((0:Nat):Int)) (j4 o f 0 ks):=by
    refine lq (len:=al.length) (p:=fun i=>Ev (fun k=>jP k f e o.text o.fix o.low o.high o.left o.least o.most ((j4 o f 0 ks).take i) ((al.length:Int) -1) al (al.length:Int) (i:Int)) (j4 o f 0 ks)) ?_ fun i hi ih=> ?_
    · refine Ev.succ ?_;simp only [jP];exact Ev.cF (jU _) (Ev.some' (by rw [hl,<-zR o f ks 0,List.take_length]))
    · have hi':i<ks.length:=by omega
      have hc:=h.get (bE hi) (bE hi');have hg:=Sm o f ks 0 i _ (bE hi');rw [Nat.zero_add]at hg;have hli:i<(j4 o f 0 ks).length:=by rw [zR];omega
      rw [bE hli,Option.some.injEq]at hg;rw [List.take_succ_eq_append_getElem hli,hg]at ih;refine Ev.succ ?_;simp only [jP,Int.toNat_natCast,bE hi,Option.bind_some,nn,if_true,mh hi,cond_true,eT hi (show al.length<=1099511627776 by omega)];refine Ev.bind (zo hc) (Ev.lV (Uv o _ i _) ?_);have hm:(ks[i].op.2&&decide (ks[i].op.1.low<=o.high)&& !(decide (i=0)&&decide (ks[i].op.1.text=o.text)&&o.left))=j3 o i ks[i]:=rfl;rw [hm];by_cases hlast:i+1=ks.length
      · have e1:(f|| !decide (i+1=ks.length))=f:=by simp [hlast]
        rw [e1]at ih;exact Ev.cF (decide_eq_false (by omega)) (Ev.bind (mE hc _ _) (Ev.aX (by rw [List.length_take];omega) ih))
      · have e1:(f|| !decide (i+1=ks.length))=true:=by simp [hlast]
        rw [e1]at ih;exact Ev.cT (decide_eq_true (by omega)) (Ev.bind (mE hc _ _) (Ev.aX (by rw [List.length_take];omega) ih))
  rw [hw];exact key
theorem aic {o:Operator} (ho:OpF o) (f:Bool):(Lib.join (j4 o f 0 ks) (32::(o.text++[32]))).length<=100000000000:=by
  have:=ho.len;refine Cm (by rw [zR];omega) (fun s hs=> ?_) (by simp;omega);obtain⟨i,hi⟩:=List.mem_iff_getElem?.1 hs;have hlt:=(List.getElem?_eq_some_iff.1 hi).1;rw [zR]at hlt;rw [Sm o f ks 0 i _ (bE hlt),Option.some.injEq]at hi;subst hi;have:=zQ (c:=ks[i]) (fun f=>h.sm (List.getElem_mem hlt) f) (j3 o (0+i) ks[i]) (f|| !decide (i+1=ks.length));omega
theorem acM {a:Int} {n:Nd} (ha:0<=a) (hn:e[a.toNat]? =some n) (hal:n.args=al) {o:Operator} (ho:OpF o) (hne:ks≠[]) (f:Bool):Ev (fun k=>Af k ⟨e⟩ a o f) (Ca o ks f):=by
  have hlen:=ho.len;refine Ev.succ ?_;simp only [Af,ha,if_true,hn,Option.bind_some,hal];cases hks:ks with
  |nil=>exact absurd hks hne
  |cons c l=>
    subst hks;obtain⟨x,al',rfl⟩: ∃x al',al=x::al':=by cases h with|cons _ _=>exact⟨_,_,rfl⟩
    have hc:KI e x c:=h.get (i:=0) rfl rfl;unfold Ca;simp only [List.getElem?_cons_zero,Option.bind_some];by_cases f2:o.fix=2
    · rw [if_pos f2];have s1:=zQ hc.sm (zf o c) true;have s2:=zQ hc.sm false true;refine Ev.cT (by rw [f2];rfl) (Ev.bind (zo hc) ?_);unfold zf at s1⊢;cases hop:c.op.2
      · refine Ev.cF rfl (Ev.bind (mE hc _ _) (Ev.aX (by omega) (Ev.some' ?_)));rfl
      · rw [hop]at s1;refine Ev.cT rfl (Ev.bind (mE hc _ _) (Ev.aX (by simp only [Bool.true_and]at s1;omega) (Ev.some' ?_)));rfl
    · rw [if_neg f2];refine Ev.cF (by rw [beq_eq_false_iff_ne];exact f2) ?_;by_cases f0:o.fix=0
      · rw [if_pos f0];have s1:=zQ hc.sm (zh o c) f;have s2:=YX ho;refine Ev.cT (by rw [f0];rfl) (Ev.bind (zo hc) (Ev.lV (Uw o _ _) (Ev.lV (Ux ho) (Ev.bind (mE hc _ _) ?_))));exact Ev.aX (by unfold zh at s1;omega) Ev.some
      · rw [if_neg f0];have s1:=aic h EP ho f;refine Ev.cF (by rw [beq_eq_false_iff_ne];exact f0) (Ev.bind (Uy h EP o f) ?_);exact Ev.aX (by simp;omega) (Ev.aX (by simp;omega) (Ev.aX (by rw [zR];omega) (Ev.aX (by omega) Ev.some)))
end
theorem akt {s:Str} (h:GZ s=true):s.all jG=true:=by
  unfold GZ at h;rw [Bool.or_eq_true,Bool.or_eq_true,decide_eq_true_eq,decide_eq_true_eq]at h;rcases h with(h|h)|h
  · unfold rName bName at h;simp only [Bool.and_eq_true]at h;exact h.1.1.1.2
  · subst h;rfl
  · subst h;rfl
theorem acN {p:UInt8->Bool}: ∀{a:Str} {c:UInt8} {r:Str},a.all p=true->p c=false->(a++c::r).takeWhile p=a/\(a++c::r).dropWhile p=c::r
  |[],c,r,h,hc=>by simp [List.takeWhile,List.dropWhile,hc]
  |x::a,c,r,h,hc=>by
    simp only [List.all_cons,Bool.and_eq_true]at h;have:=acN (r:=r) h.2 hc;simp [List.takeWhile_cons,List.dropWhile_cons,h.1,this.1,this.2]
theorem YZ {p:UInt8->Bool}: ∀{a:Str} {r:Str},a.all p=false-> ∃c l,(a++r).dropWhile p=c::l/\c∈a
  |[],r,h=>by simp at h
  |x::a,r,h=>by
    by_cases hx:p x=true
    · simp only [List.all_cons,hx,Bool.true_and]at h;obtain⟨c,l,h1,h2⟩:=YZ (r:=r) h;exact⟨c,l,by simp [List.dropWhile_cons,hx,h1],by simp [h2]⟩
    · exact⟨x,a++r,by simp [List.dropWhile_cons,hx],by simp⟩
theorem aku {s:Str} {o:Nat} (h:Lib.indexByte s 32=(o:Int)):s=s.take o++32::s.drop (o+1)/\ ∀c∈s.take o,c≠32:=by
  obtain⟨h1,h2⟩:=Lib.indexByte_some h;have hlt:=(List.getElem?_eq_some_iff.1 h1).1;have e1:s[o]=32:=by rw [bE hlt]at h1;exact Option.some.inj h1
  refine⟨?_,fun c hc e=> ?_⟩
  · rw [<-e1,List.getElem_cons_drop,List.take_append_drop]
  · obtain⟨i,hi⟩:=List.mem_iff_getElem?.1 hc;rw [List.getElem?_take]at hi;split at hi
    · rename_i hio;subst e;exact h2 i hio hi
    · cases hi
theorem aie {s:Str} {o:Nat} (h:Lib.indexByte s 32=(o:Int)):zk s=(GZ (s.take o)&&decide ([92,105,110,32]<+:s.drop (o+1))):=by
  obtain⟨h1,h2⟩:=aku h;generalize s.take o=a at h1 h2;generalize s.drop (o+1)=r at h1;subst h1;unfold zk;by_cases ha:a.all jG=true
  · obtain⟨e1,e2⟩:=acN (c:=32) (r:=r) ha (by rfl);rw [e1,e2];congr 1
    rw [decide_eq_decide];simp
  · have ha:a.all jG=false:=by simpa using ha
    have h3:GZ a=false:=by
      cases hn:GZ a with
      |false=>rfl
      |true=>rw [akt hn]at ha;cases ha
    obtain⟨c,l,e1,e2⟩:=YZ (r:=32::r) ha;have h4:=h2 c e2;rw [h3,e1,Bool.false_and,Bool.and_eq_false_iff];right;rw [decide_eq_false_iff_not];rintro⟨t,ht⟩;simp only [List.cons_append,List.cons.injEq]at ht;exact h4 ht.1.symm
theorem agj {s:Str} (h:Lib.indexByte s 32= -1):zk s=false:=by
  unfold zk;rw [Bool.and_eq_false_iff];right;rw [decide_eq_false_iff_not];rintro⟨t,ht⟩;have hm:(32:UInt8)∈s:=by
    have:(32:UInt8)∈s.dropWhile jG:=by rw [<-ht];simp
    exact(List.dropWhile_sublist _).subset this
  obtain⟨i,hi⟩:=List.mem_iff_getElem?.1 hm;exact Lib.indexByte_none h i hi
theorem amq (r:Str):dZ r ([92,105,110,32]:Str)=some (decide ([92,105,110,32]<+:r)):=by
  unfold dZ ru;by_cases h:4<=r.length
  · have e1:decide ((r.length:Int)>=(([92,105,110,32]:Str).length:Int))=true:=decide_eq_true (by simp<;>omega);rw [e1,cond_true,if_pos (by simpa using h),Option.bind_some,Option.some.injEq,sM,decide_eq_decide,List.prefix_iff_eq_take];exact eq_comm
  · have e1:decide ((r.length:Int)>=(([92,105,110,32]:Str).length:Int))=false:=decide_eq_false (by simp<;>omega);rw [e1,cond_false,Option.bind_some,Option.some.injEq,eq_comm,decide_eq_false_iff_not];intro hp;have:=hp.length_le;simp at this;omega
theorem acO (s:Str):(wU s).length<=s.length+2:=by unfold wU;split<;>simp
theorem aeU (s:Str) (X:Option Bool):(cond (rName s) X (cond (s==([66,79,79,76,69,65,78]:Str)) X (cond (s==([83,84,82,73,78,71]:Str)) X (some false))))=cond (GZ s) X (some false):=by
  unfold GZ;rw [sM,sM];cases rName s<;>cases decide (s=[66,79,79,76,69,65,78])<;>cases decide (s=[83,84,82,73,78,71])<;>rfl
section
variable {e:List Nd} {al:List Int} {ks:List dA}
theorem agk {a:Int} {c:dA} (h:KI e a c):Ev (fun k=>FZ k ⟨e⟩ a) (wU (c.out false)):=by
  have hs:=h.sm false;refine Ev.succ ?_;simp only [FZ];refine Ev.bind (h.ev false) ?_;generalize c.out false=s at hs;simp only [abz,Option.bind_some];have hg:=Lib.indexByte_ge s 32;by_cases h0:Lib.indexByte s 32= -1
  · rw [h0];refine Ev.cF (by rfl) (Ev.bind (qc s) ?_);unfold Cg;simp only [amq,Option.bind_some];have e1:=aeU s (some (decide ([92,105,110,32]<+:([]:Str))));rw [show decide ([92,105,110,32]<+:([]:Str))=false by decide]at e1⊢;rw [e1];unfold wU;rw [agj h0];cases GZ s<;>exact Ev.some
  · obtain⟨o,ho⟩: ∃o:Nat,Lib.indexByte s 32=(o:Int):=⟨(Lib.indexByte s 32).toNat,by omega⟩;have hlt:=(List.getElem?_eq_some_iff.1 (Lib.indexByte_some ho).1).1;have hw:IntKind.wrap .i64 ((o:Int)+1)=((o+1:Nat):Int):=by rw [wrap64 (by omega) (by omega)];omega
    rw [ho];simp only [hw,Int.toNat_natCast];refine Ev.cT (by simp) (Ev.aX (by omega) (Ev.aX (by omega) (Ev.bind (qc _) ?_)));unfold Fx;simp only [amq,Option.bind_some];rw [aeU (s.take o) (some (decide ([92,105,110,32]<+:s.drop (o+1))))];unfold wU;rw [aie ho];cases GZ (s.take o)
    · exact Ev.some
    · simp only [cond_true,Bool.true_and,Option.bind_some];cases decide ([92,105,110,32]<+:s.drop (o+1))
      · exact Ev.some
      · exact Ev.aX (by simp<;>omega) (Ev.aX (by simp<;>omega) Ev.some)
theorem Uz {a:Int} {c:dA} (h:KI e a c):Ev (fun k=>Du k ⟨e⟩ a) (fV c (c.op.2||decide (c.kind=0)) true):=by
  obtain⟨n,hn,hk,ht⟩:=h.nd;refine Ev.succ ?_;simp only [Du,h.nn,if_true,hn,Option.bind_some];refine Ev.bind (zo h) ?_;cases c.op.2
  · refine Ev.cF rfl ?_;rw [hk];exact Ev.bind (mE h _ _) Ev.some
  · exact Ev.cT rfl (Ev.bind (mE h _ _) Ev.some)
theorem X9 {a:Int} {c:dA} (h:KI e a c):Ev (fun k=>nN k ⟨e⟩ a) (fV c (!(decide (c.kind=2)&&rName c.text)&& !decide (c.kind=4)) false):=by
  obtain⟨n,hn,hk,ht⟩:=h.nd;refine Ev.succ ?_;simp only [nN,h.nn,if_true,hn,Option.bind_some];refine Ev.bind (x:=decide (c.kind=2)&&rName c.text) ?_ ?_
  · unfold xR;rw [hk,ht];by_cases h2:c.kind=2
    · refine Ev.cT (by rw [h2];rfl) (Ev.bind (qc _) ?_);cases hr:rName c.text
      · exact Ev.cF rfl (Ev.some' (by simp))
      · refine Ev.cT rfl (Ev.bind (EH _ _ (by simp)) (Ev.some' ?_));have hf:oJ c.text=false:=by
          unfold rName at hr;simp only [Bool.and_eq_true,Bool.not_eq_true']at hr;exact hr.1.2
        unfold oJ at hf;simp only [Bool.or_eq_false_iff,decide_eq_false_iff_not]at hf;simp [h2,hf.1.1.1,hf.1.1.2,hf.1.2,hf.2]
    · refine Ev.cF (by rw [beq_eq_false_iff_ne];exact h2) (Ev.some' (by simp [h2]))
  · cases decide (c.kind=2)&&rName c.text
    · refine Ev.cF rfl (Ev.bind (mE h _ _) (Ev.some' ?_));rw [hk];rfl
    · exact Ev.cT rfl (Ev.bind (mE h _ _) Ev.some)
theorem akv {names:List Str} (jK:names.length<=34) (hnm: ∀s∈names,s.length<=80):(yw names).1.length<=10000000000000/\(yw names).2.length<=10000000000000:=by
  match names with
  |[]=>simp [yw]
  |[x]=>have:=hnm x (by simp);simp [yw];omega
  |x::y::p=>
    have h1:=hnm x (by simp);have h2:=Cm (l:=y::p) (sep:=[44,32]) (by simp at jK⊢;omega) (fun s hs=>by have:=hnm s (List.mem_cons_of_mem _ hs);omega) (by simp);have h3:=Cm (l:=List.replicate (p.length+1) ([95]:Str)) (sep:=[44,32]) (by simp at jK⊢;omega) (fun s hs=>by rw [List.eq_of_mem_replicate hs];simp) (by simp);simp only [yw,List.length_append,List.length_cons,List.length_nil]at h3⊢;constructor<;>omega
theorem adI {x:Str} {p:List Str} (jK:p.length<=33) (hnm: ∀s∈x::p,s.length<=80):Hr p x x=some (yw (x::p)):=by
  have h1:=hnm x (by simp);unfold Hr
  match p with
  |[]=>rfl
  |y::p=>
    have h2:=Cm (l:=y::p) (sep:=[44,32]) (by simp at jK⊢;omega) (fun s hs=>by have:=hnm s (List.mem_cons_of_mem _ hs);omega) (by simp);have h3:=Cm (l:=List.replicate (p.length+1) ([95]:Str)) (sep:=[44,32]) (by simp at jK⊢;omega) (fun s hs=>by rw [List.eq_of_mem_replicate hs];simp) (by simp);have e1:decide (((y::p).length:Int)>0)=true:=decide_eq_true (by simp<;>omega);have e2:acA [([95]:Str)] ((y::p).length:Int)=some (List.replicate (p.length+1) [95]):=by
      unfold acA;rw [if_pos (by simp at jK⊢;omega)];rfl
    rw [e1,cond_true,e2,Option.bind_some];rw [if_pos (by simp at jK⊢;omega),if_pos (by omega),if_pos (by simp<;>omega),if_pos (by simp<;>omega),if_pos (by simp<;>omega),if_pos (by simp at jK⊢;omega),if_pos (by omega),if_pos (by simp<;>omega),if_pos (by simp<;>omega),if_pos (by simp<;>omega)];rfl
theorem akw {n:Nd} {x y:Int} {c d:dA} (ha:n.args=[x,y]) (hc:KI e x c) (hd:KI e y d) (h1:1<=n.names.length) (jK:n.names.length<=34) (hnm: ∀s∈n.names,s.length<=80):Ev (fun k=>Py k ⟨e⟩ n) (Lr n.n n.names (c.out false) (d.out false)):=by
  obtain⟨z,p,hp⟩: ∃z p,n.names=z::p:=by cases hq:n.names with|nil=>rw [hq]at h1;simp at h1|cons z p=>exact⟨z,p,rfl⟩
  have hj:=adI (x:=z) (p:=p) (by rw [hp]at jK;simpa using jK) (hp▸hnm);obtain⟨l1,l2⟩:=akv jK hnm;have s1:=hc.sm false;have s2:=hd.sm false;rw [hp]at l1 l2;refine Ev.succ ?_;simp only [Py,hp,ha,List.getElem?_cons_zero,List.getElem?_cons_succ,List.drop_succ_cons,List.drop_zero,Option.bind_some,hj];unfold Lr;refine Ev.aX (by simp) ?_;by_cases hn:n.n=1
  · rw [if_pos hn];refine Ev.cT (by rw [hn];rfl) ?_;refine Ev.aX (by simp<;>omega) (Ev.aX (by simp<;>omega) (Ev.aX (by simp<;>omega) (Ev.aX (by simp<;>omega) (Ev.aX (by simp<;>omega) (Ev.bind (hc.ev false) (Ev.aX (by simp<;>omega) (Ev.aX (by simp<;>omega) (Ev.bind (hd.ev false) (Ev.aX (by simp<;>omega) (Ev.some' ?_))))))))));simp
  · rw [if_neg hn];refine Ev.cF (by rw [beq_eq_false_iff_ne];exact hn) ?_;exact Ev.aX (by simp<;>omega) (Ev.aX (by simp<;>omega) (Ev.bind (hc.ev false) (Ev.aX (by simp<;>omega) (Ev.aX (by simp<;>omega) (Ev.bind (hd.ev false) (Ev.aX (by simp<;>omega) Ev.some))))))
end
theorem lY {n:Nd} (h:bW true n=0) {a b c d:Int} {m:Bool} (hs:aS n.kind=((a,b,c,d),m)) (h3:n.kind≠3):(a<=n.names.length/\(n.names.length:Int)<=b)/\c<=(n.args.length:Int) -n.names.length*(if m=true then 1 else 0)/\(n.args.length:Int) -n.names.length*(if m=true then 1 else 0)<=d:=by
  unfold bW at h
  split at h;·cases h
  split at h;·cases h
  rename_i _ h1;have h1:ql n=true:=by simpa using h1
  unfold ql at h1;rw [hs]at h1;simp only [h3,decide_false,Bool.and_false,Bool.false_eq_true,if_false,fK,Bool.and_eq_true,decide_eq_true_eq]at h1;exact h1
theorem aeV {n:Nd} (h:bW true n=0):0<=n.kind/\n.kind<=28:=by
  unfold bW at h
  split at h;·cases h
  rename_i h1;simpa [fK]using h1
theorem akx {n:Nd} (h:bW true n=0) (hk:n.kind=3) (ho:(bH bU n.text).2=true):(bH bU n.text).1.least<=n.args.length/\(n.args.length:Int)<=(bH bU n.text).1.most:=by
  unfold bW at h
  split at h;·cases h
  split at h;·cases h
  split at h;·cases h
  split at h;·cases h
  split at h
  · rename_i hc;exact absurd h hc
  · rename_i hc;have hc:oq n=0:=by simpa using hc
    unfold oq at hc
    split at hc;·cases hc
    simp only [hk,Int.reduceEq,if_false,if_true,ho]at hc;simp only [Bool.true_or,if_true,Bool.true_and]at hc;split at hc
    · cases hc
    · rename_i h2;simpa [fK]using h2
theorem len2 {α:Type} {l:List α} (h:l.length=2): ∃a b,l=[a,b]:=by
  match l,h with
  |[a,b],_=>exact⟨a,b,rfl⟩
theorem aky {α:Type} {l:List α} (h:l.length=3): ∃a b c,l=[a,b,c]:=by
  match l,h with
  |[a,b,c],_=>exact⟨a,b,c,rfl⟩
theorem agl {α:Type} {l:List α} (h:1<=l.length): ∃a m,l=a::m:=by
  match l,h with
  |a::m,_=>exact⟨a,m,rfl⟩
structure Sml (n:Nd):Prop where
  text:n.text.length<=80
  names:n.names.length<=34
  each: ∀s∈n.names,s.length<=80
  args:n.args.length<=34
  num: -10000000<=n.n/\n.n<=10000000
section
variable {e:List Nd} {ks:List dA} {n:Nd} (h:KL e n.args ks) (hS:Sml n)
include h
theorem KL.two (hl:n.args.length=2): ∃x y c d,n.args=[x,y]/\ks=[c,d]/\KI e x c/\KI e y d:=by
  obtain⟨x,y,h1⟩:=len2 hl;obtain⟨c,d,h2⟩:=len2 (l:=ks) (by rw [<-h.len];exact hl);refine⟨x,y,c,d,h1,h2,h.get (i:=0) (by rw [h1];rfl) (by rw [h2];rfl),h.get (i:=1) (by rw [h1];rfl) (by rw [h2];rfl)⟩
theorem KL.three (hl:n.args.length=3): ∃x y z c d f,n.args=[x,y,z]/\ks=[c,d,f]/\KI e x c/\KI e y d/\KI e z f:=by
  obtain⟨x,y,z,h1⟩:=aky hl;obtain⟨c,d,f,h2⟩:=aky (l:=ks) (by rw [<-h.len];exact hl);refine⟨x,y,z,c,d,f,h1,h2,h.get (i:=0) (by rw [h1];rfl) (by rw [h2];rfl),h.get (i:=1) (by rw [h1];rfl) (by rw [h2];rfl),h.get (i:=2) (by rw [h1];rfl) (by rw [h2];rfl)⟩
theorem KL.one (hl:1<=n.args.length): ∃x al c l,n.args=x::al/\ks=c::l/\KI e x c/\KL e al l:=by
  obtain⟨x,al,h1⟩:=agl hl;obtain⟨c,l,h2⟩:=agl (l:=ks) (by rw [<-h.len];exact hl);rw [h1,h2]at h;cases h with|cons a b=>exact⟨x,al,c,l,h1,h2,a,b⟩
include hS
theorem KL.last (hl:1<=n.args.length): ∃x c,IntKind.wrap .i64 ((n.args.length:Int) -1)=((n.args.length -1:Nat):Int)/\n.args[n.args.length -1]? =some x/\KI e x c/\gY ks=c.out false:=by
  have hk:=h.len;have hs:=hS.args;refine⟨_,ks[n.args.length -1]'(by omega),?_,bE (by omega),h.get (bE (by omega)) (bE (by omega)),?_⟩
  · rw [wrap64 (by omega) (by omega)];omega
  · unfold gY j5;have e1:ks[n.args.length -1]? =some (ks[n.args.length -1]'(by omega)):=bE (by omega);have e2:ks[ks.length -1]? =ks[n.args.length -1]? :=by rw [hk]
    rw [e2,e1]
theorem aii (hV:bW true n=0) (hk:fE n.kind=true):Ev (fun k=>KJ k ⟨e⟩ n) (DT n.kind n.n n.text n.names ks):=by
  have hl:=h.len;obtain⟨hS1,hS2,yX,hS4,hS5⟩:=hS;have hS:Sml n:=⟨hS1,hS2,yX,hS4,hS5⟩;have jK:ks.length<=34:=by omega
  have JM:=Cm (l:=n.names) (sep:=[44,32]) (by omega) (fun s hs=>by have:=yX s hs;omega) (by simp);have hzj:=Dv h jK (sign:=[32,92,105,110,32]) (by simp) yX;have h1:1<=n.args.length:=by
    have h3:n.kind≠3:=by intro e;rw [e]at hk;revert hk;decide
    unfold fE at hk;simp only [List.mem_cons,List.not_mem_nil,or_false,decide_eq_true_eq]at hk;rcases hk with hk|hk|hk|hk|hk|hk|hk|hk|hk
    · have:=lY hV (show aS n.kind=((1,4,1,1),true) by rw [hk];kernel_rfl) h3;simp at this;omega
    · have:=lY hV (show aS n.kind=((1,4,1,1),true) by rw [hk];kernel_rfl) h3;simp at this;omega
    · have:=lY hV (show aS n.kind=((1,4,1,1),false) by rw [hk];kernel_rfl) h3;simp at this;omega
    · have:=lY hV (show aS n.kind=((1,4,1,1),false) by rw [hk];kernel_rfl) h3;simp at this;omega
    · have:=lY hV (show aS n.kind=((1,1,2,2),false) by rw [hk];kernel_rfl) h3;simp at this;omega
    · have:=lY hV (show aS n.kind=((0,0,3,3),false) by rw [hk];kernel_rfl) h3;simp at this;omega
    · have:=lY hV (show aS n.kind=((0,0,2,30),false) by rw [hk];kernel_rfl) h3;simp at this;omega
    · have:=lY hV (show aS n.kind=((1,5,2,2),false) by rw [hk];kernel_rfl) h3;simp at this;omega
    · have:=lY hV (show aS n.kind=((1,4,1,1),false) by rw [hk];kernel_rfl) h3;simp at this;omega
  obtain⟨x,c,w,hx,hc,hlast⟩:=h.last hS h1;have sc:=hc.sm false;have h3:n.kind≠3:=by intro e;rw [e]at hk;revert hk;decide
  refine Ev.succ ?_;simp only [KJ,w,nn,if_true,Int.toNat_natCast,hx,Option.bind_some];refine Ev.bind (hc.ev false) ?_;unfold DT;unfold fE at hk;simp only [List.mem_cons,List.not_mem_nil,or_false,decide_eq_true_eq]at hk;rcases hk with hk|hk|hk|hk|hk|hk|hk|hk|hk
  · have:=lY hV (show aS n.kind=((1,4,1,1),true) by rw [hk];kernel_rfl) h3;simp only [hk,Int.reduceBEq,Int.reduceEq,↓reduceIte,cond_true,cond_false,hlast]at this⊢;exact Ev.bind (vg h jK rfl (by omega) yX) (Ev.aX (by simp<;>omega) (Ev.aX (by simp<;>omega) (Ev.aX (by simp<;>omega) Ev.some)))
  · have:=lY hV (show aS n.kind=((1,4,1,1),true) by rw [hk];kernel_rfl) h3;simp only [hk,Int.reduceBEq,Int.reduceEq,↓reduceIte,cond_true,cond_false,hlast]at this⊢;exact Ev.bind (vg h jK rfl (by omega) yX) (Ev.aX (by simp<;>omega) (Ev.aX (by simp<;>omega) (Ev.aX (by simp<;>omega) Ev.some)))
  · simp only [hk,Int.reduceBEq,Int.reduceEq,↓reduceIte,cond_true,cond_false,hlast];exact Ev.aX (by omega) (Ev.aX (by omega) (Ev.aX (by simp<;>omega) (Ev.aX (by simp<;>omega) (Ev.aX (by simp<;>omega) Ev.some))))
  · simp only [hk,Int.reduceBEq,Int.reduceEq,↓reduceIte,cond_true,cond_false,hlast];exact Ev.aX (by omega) (Ev.aX (by omega) (Ev.aX (by simp<;>omega) (Ev.aX (by simp<;>omega) (Ev.aX (by simp<;>omega) Ev.some))))
  · have:=lY hV (show aS n.kind=((1,1,2,2),false) by rw [hk];kernel_rfl) h3;simp only [hk,Int.reduceBEq,Int.reduceEq,↓reduceIte,cond_true,cond_false,hlast]at this⊢;exact Ev.bind (vg h jK rfl (by omega) yX) (Ev.aX (by simp<;>omega) (Ev.aX (by simp<;>omega) (Ev.aX (by simp<;>omega) Ev.some)))
  · have:=lY hV (show aS n.kind=((0,0,3,3),false) by rw [hk];kernel_rfl) h3;simp only [Bool.false_eq_true,if_false]at this;obtain⟨x,y,z,c',d,f,q1,rfl,k1,k2,k3⟩:=h.three (by omega);have s1:=k1.sm false;have s2:=k2.sm false;simp only [hk,q1,Int.reduceBEq,Int.reduceEq,↓reduceIte,cond_true,cond_false,List.getElem?_cons_zero,List.getElem?_cons_succ,Option.bind_some,j5];have hl3:f.out false=c.out false:=hlast;rw [hl3];exact Ev.bind (k1.ev false) (Ev.aX (by simp<;>omega) (Ev.aX (by simp<;>omega) (Ev.bind (k2.ev false) (Ev.aX (by simp<;>omega) (Ev.aX (by simp<;>omega) (Ev.aX (by simp<;>omega) Ev.some))))))
  · simp only [hk,Int.reduceBEq,Int.reduceEq,↓reduceIte,cond_true,cond_false];refine Ev.bind (Ev.succ ?_) Ev.some;simp only [KH];have hj:=Cm (l:=iq ks) (sep:=[32,91,93,32]) (by have:=Sk h jK ks;omega) (aeS h jK (fun c hc f=>h.sm hc f) ks fun c hc=>hc) (by simp);have hcs:=ZA h jK (n:=n) rfl ks.length 0 [] (by omega) (by omega) (by simp);have w':IntKind.wrap .i64 ((n.args.length:Int) -1)=(ks.length:Int) -1:=by rw [w];omega
    rw [w'];refine Ev.bind (x:=iq ks) (hcs.to (by simp)) ?_;exact Ev.aX (by have:=Sk h jK ks;omega) (Ev.aX (by omega) (Ev.aX (by simp<;>omega) Ev.some))
  · have:=lY hV (show aS n.kind=((1,5,2,2),false) by rw [hk];kernel_rfl) h3;simp only [Bool.false_eq_true,if_false]at this;obtain⟨x,y,c',d,q1,rfl,k1,k2⟩:=h.two (by omega);simp only [hk,Int.reduceBEq,Int.reduceEq,↓reduceIte,cond_true,cond_false];exact Ev.bind (akw q1 k1 k2 (by omega) hS2 yX) Ev.some
  · simp only [hk,Int.reduceBEq,Int.reduceEq,↓reduceIte,cond_true,cond_false,hlast];exact Ev.aX (by omega) (Ev.aX (by omega) (Ev.aX (by simp<;>omega) (Ev.aX (by simp<;>omega) (Ev.aX (by simp<;>omega) Ev.some))))
end
theorem aeW {c d:dA}:XM [c,d]=fV d (!(decide (d.kind=2)&&rName d.text)&& !decide (d.kind=4)) false:=rfl
theorem FB {c:dA} {l:List dA}:ab2 (c::l)=fV c (c.op.2||decide (c.kind=0)) true:=rfl
section
variable {e:List Nd} {ks:List dA} {n:Nd} (h:KL e n.args ks) (hS:Sml n)
include h hS
theorem aij (hV:bW true n=0) (hk:fE n.kind=false) {a:Int} (ha:0<=a) (hn:e[a.toNat]? =some n):Ev (fun k=>Hu k ⟨e⟩ a) (DT n.kind n.n n.text n.names ks):=by
  have hl:=h.len;obtain⟨hS1,hS2,yX,hS4,hS5⟩:=hS;have hS:Sml n:=⟨hS1,hS2,yX,hS4,hS5⟩;have jK:ks.length<=34:=by omega
  have hzj:=Dv h jK (sign:=[32,92,105,110,32]) (by simp) yX;have hlj:(iT ks).length<=100000000000:=Cm (by simp;omega) (fun s hs=>by obtain⟨c,hc,rfl⟩:=List.mem_map.1 hs;have:=h.sm hc false;omega) (by simp);have hb:=aeV hV;have hno:n.kind≠8/\n.kind≠9/\n.kind≠10/\n.kind≠11/\n.kind≠12/\n.kind≠21/\n.kind≠22/\n.kind≠23/\n.kind≠24:=by
    unfold fE at hk;simpa using hk
  have hall:n.kind=0\/n.kind=1\/n.kind=2\/n.kind=3\/n.kind=4\/n.kind=5\/n.kind=6\/n.kind=7\/n.kind=13\/n.kind=14\/n.kind=15\/n.kind=16\/n.kind=17\/n.kind=18\/n.kind=19\/n.kind=20\/n.kind=25\/n.kind=26\/n.kind=27\/n.kind=28:=by omega
  refine Ev.succ ?_;simp only [Hu,ha,if_true,hn,Option.bind_some];unfold DT;rcases hall with hk|hk|hk|hk|hk|hk|hk|hk|hk|hk|hk|hk|hk|hk|hk|hk|hk|hk|hk|hk<;>simp only [hk,Int.reduceBEq,Int.reduceEq,↓reduceIte,cond_true,cond_false]
  · exact Ev.aX (by omega) Ev.some
  · exact Ev.aX (by simp<;>omega) (Ev.aX (by simp<;>omega) Ev.some)
  · exact Ev.some
  · exact Ev.aX (by simp<;>omega) (Ev.bind (I6 h jK) (Ev.aX (by simp<;>omega) (Ev.aX (by simp<;>omega) Ev.some)))
  · exact Ev.bind (I6 h jK) (Ev.aX (by simp<;>omega) (Ev.aX (by simp<;>omega) Ev.some))
  · exact Ev.bind (I6 h jK) (Ev.aX (by simp<;>omega) (Ev.aX (by simp<;>omega) Ev.some))
  · have:=lY hV (show aS n.kind=((1,1,2,2),false) by rw [hk];kernel_rfl) (by omega);simp only [Bool.false_eq_true,if_false]at this;have hbn:=vg h jK rfl (by omega) yX;obtain⟨x,y,c,d,q1,rfl,k1,k2⟩:=h.two (by omega);have s2:=k2.sm false;refine Ev.bind hbn (Ev.aX (by simp<;>omega) (Ev.aX (by simp<;>omega) ?_));simp only [q1,List.getElem?_cons_zero,List.getElem?_cons_succ,Option.bind_some,j5];exact Ev.bind (k2.ev false) (Ev.aX (by simp<;>omega) (Ev.aX (by simp<;>omega) Ev.some))
  · have:=lY hV (show aS n.kind=((1,4,1,1),true) by rw [hk];kernel_rfl) (by omega);simp only [if_true]at this;obtain⟨x,c,w,hx,hc,hlast⟩:=h.last hS (by omega);have sc:=hc.sm false;have si:=acO (c.out false);simp only [w,nn,if_true,Int.toNat_natCast,hx,Option.bind_some,hlast];exact Ev.bind (agk hc) (Ev.aX (by simp<;>omega) (Ev.aX (by simp<;>omega) (Ev.bind (vg h jK rfl (by omega) yX) (Ev.aX (by simp<;>omega) (Ev.aX (by simp<;>omega) Ev.some)))))
  · have:=lY hV (show aS n.kind=((1,4,1,1),true) by rw [hk];kernel_rfl) (by omega);simp only [if_true]at this;obtain⟨x,c,w,hx,hc,hlast⟩:=h.last hS (by omega);have sc:=hc.sm false;refine Ev.bind (vg h jK rfl (by omega) yX) (Ev.aX (by simp<;>omega) (Ev.aX (by simp<;>omega) ?_));simp only [w,nn,if_true,Int.toNat_natCast,hx,Option.bind_some,hlast];exact Ev.bind (hc.ev false) (Ev.aX (by simp<;>omega) (Ev.aX (by simp<;>omega) Ev.some))
  · have:=lY hV (show aS n.kind=((0,0,2,5),false) by rw [hk];kernel_rfl) (by omega);simp only [Bool.false_eq_true,if_false]at this;obtain⟨x,al,c,l,q1,rfl,k1,k2⟩:=h.one (by omega);have s1:=zQ k1.sm (c.op.2||decide (c.kind=0)) true;have l34:l.length<=34:=by simp at jK;omega
    have hlj:(iT l).length<=100000000000:=Cm (by simp;omega) (fun s hs=>by obtain⟨c,hc,rfl⟩:=List.mem_map.1 hs;have:=k2.sm hc false;omega) (by simp);simp only [q1,List.getElem?_cons_zero,Option.bind_some,List.drop_succ_cons,List.drop_zero,FB];exact Ev.bind (Uz k1) (Ev.aX (by simp<;>omega) (Ev.aX (by simp) (Ev.bind (I6 k2 l34) (Ev.aX (by simp<;>omega) (Ev.aX (by simp<;>omega) Ev.some)))))
  · have:=lY hV (show aS n.kind=((0,0,2,2),false) by rw [hk];kernel_rfl) (by omega);simp only [Bool.false_eq_true,if_false]at this;obtain⟨x,y,c,d,q1,rfl,k1,k2⟩:=h.two (by omega);have s1:=k1.sm false;have s2:=k2.sm false;simp only [q1,List.getElem?_cons_zero,List.getElem?_cons_succ,Option.bind_some,j5];exact Ev.bind (k1.ev false) (Ev.aX (by simp<;>omega) (Ev.aX (by simp<;>omega) (Ev.bind (k2.ev false) (Ev.aX (by simp<;>omega) (Ev.aX (by simp<;>omega) Ev.some)))))
  · have:=lY hV (show aS n.kind=((1,30,0,0),true) by rw [hk];kernel_rfl) (by omega);simp only [if_true]at this;have hz:=Dv h jK (sign:=[32,124,45,62,32]) (by simp) yX;exact Ev.bind (QH h jK (by simp) rfl (by omega) yX) (Ev.aX (by simp<;>omega) (Ev.aX (by simp<;>omega) Ev.some))
  · have:=lY hV (show aS n.kind=((1,30,0,0),true) by rw [hk];kernel_rfl) (by omega);simp only [if_true]at this;have hz:=Dv h jK (sign:=[32,58,32]) (by simp) yX;exact Ev.bind (QH h jK (by simp) rfl (by omega) yX) (Ev.aX (by simp<;>omega) (Ev.aX (by simp<;>omega) Ev.some))
  · have:=lY hV (show aS n.kind=((0,0,1,1),false) by rw [hk];kernel_rfl) (by omega);simp only [Bool.false_eq_true,if_false]at this;obtain⟨x,al,c,l,q1,rfl,k1,k2⟩:=h.one (by omega);have s1:=zQ k1.sm (c.op.2||decide (c.kind=0)) true;simp only [q1,List.getElem?_cons_zero,Option.bind_some,FB];exact Ev.bind (Uz k1) (Ev.aX (by simp<;>omega) (Ev.aX (by simp<;>omega) Ev.some))
  · have:=lY hV (show aS n.kind=((0,0,3,3),false) by rw [hk];kernel_rfl) (by omega);simp only [Bool.false_eq_true,if_false]at this;obtain⟨x,y,z,c,d,f,q1,rfl,k1,k2,k3⟩:=h.three (by omega);have s1:=k1.sm false;have s2:=k2.sm false;have s3:=k3.sm false;simp only [q1,List.getElem?_cons_zero,List.getElem?_cons_succ,Option.bind_some,j5];exact Ev.bind (k1.ev false) (Ev.aX (by simp<;>omega) (Ev.aX (by simp<;>omega) (Ev.bind (k2.ev false) (Ev.aX (by simp<;>omega) (Ev.aX (by simp<;>omega) (Ev.bind (k3.ev false) (Ev.aX (by simp<;>omega) (Ev.aX (by simp<;>omega) Ev.some))))))))
  · exact Ev.some
  all_goals
    have:=lY hV (show aS n.kind=((0,0,2,2),false) by rw [hk];kernel_rfl) (by omega);simp only [Bool.false_eq_true,if_false]at this;obtain⟨x,y,c,d,q1,rfl,k1,k2⟩:=h.two (by omega);have s1:=k1.sm false;have hsub:=X9 k2;simp only [q1,List.getElem?_cons_zero,List.getElem?_cons_succ,Option.bind_some,j5,aeW];generalize(!(decide (d.kind=2)&&rName d.text)&& !decide (d.kind=4))=m at hsub⊢;have s2:=zQ k2.sm m false
  · exact Ev.bind (k1.ev false) (Ev.aX (by simp<;>omega) (Ev.aX (by simp<;>omega) (Ev.bind hsub (Ev.aX (by simp<;>omega) Ev.some))))
  · exact Ev.bind (k1.ev false) (Ev.aX (by simp<;>omega) (Ev.aX (by simp<;>omega) (Ev.bind hsub (Ev.aX (by simp<;>omega) Ev.some))))
  · exact Ev.bind hsub (Ev.aX (by simp<;>omega) (Ev.aX (by simp<;>omega) (Ev.bind (k1.ev false) (Ev.aX (by simp<;>omega) (Ev.aX (by simp<;>omega) Ev.some)))))
  · exact Ev.bind hsub (Ev.aX (by simp<;>omega) (Ev.aX (by simp<;>omega) (Ev.bind (k1.ev false) (Ev.aX (by simp<;>omega) (Ev.aX (by simp<;>omega) Ev.some)))))
theorem aik (hV:bW true n=0) {a:Int} (ha:0<=a) (hn:e[a.toNat]? =some n) (hlen: ∀f,(Ko n ks f).length<=1000000000) (f:Bool):Ev (fun k=>eu k ⟨e⟩ a f) (Ko n ks f):=by
  have hl:=h.len;have jK:ks.length<=34:=by have:=hS.args;omega
  have key: ∀f:Bool,(f&&fE n.kind)=false->Ev (fun k=>eu k ⟨e⟩ a f) (Oe n.kind n.n n.text n.names ks f):=by
    intro f hf;refine Ev.succ ?_;simp only [eu];refine Ev.bind (x:=f&&fE n.kind) ?_ ?_
    · unfold Ej;cases f
      · exact Ev.some
      · simp only [cond_true,ha,if_true,hn,Option.bind_some,Bool.true_and];exact Ev.bind (QG _) Ev.some
    · rw [hf];refine Ev.cF rfl (Ev.bind (x:=fq n.kind n.text) ?_ ?_)
      · unfold nJ fq;simp only [hn,Option.bind_some,ha,if_true];by_cases h3:n.kind=3
        · simp only [h3,bne_self_eq_false,cond_false,if_true];refine Ev.bind (rH _) (Ev.some' ?_);generalize bH bU n.text=q;rfl
        · refine Ev.cT (by rw [bne_iff_ne];exact h3) (Ev.some' ?_);rw [if_neg h3];rfl
      · unfold Oe;cases hop:(fq n.kind n.text).2
        · rw [if_neg (by simp)];refine Ev.cF rfl (Ev.bind ?_ Ev.some);by_cases ho:fE n.kind=true
          ·
            have:=aii h hS hV ho;refine Ev.succ ?_;simp only [Hu,ha,if_true,hn,Option.bind_some];have hk:=ho;unfold fE at hk;simp only [List.mem_cons,List.not_mem_nil,or_false,decide_eq_true_eq]at hk;have h3: ∀m:Int,fE m=false->(n.kind==m)=false:=fun m hm=>by
              rw [beq_eq_false_iff_ne];intro e;rw [e,hm]at ho;cases ho
            simp only [h3 0 (by decide),h3 1 (by decide),h3 2 (by decide),h3 3 (by decide),h3 4 (by decide),h3 5 (by decide),h3 6 (by decide),h3 7 (by decide),h3 13 (by decide),h3 14 (by decide),h3 15 (by decide),h3 16 (by decide),h3 17 (by decide),h3 18 (by decide),h3 19 (by decide),h3 20 (by decide),h3 25 (by decide),h3 26 (by decide),h3 27 (by decide),h3 28 (by decide),cond_false];exact Ev.bind this Ev.some
          · exact aij h hS hV (by simpa using ho) ha hn
        · rw [if_pos rfl];refine Ev.cT rfl (Ev.bind ?_ Ev.some);have h3:n.kind=3:=by
            refine Decidable.byContradiction fun h3=> ?_;unfold fq at hop;rw [if_neg h3]at hop;simp [Bo]at hop
          have e1:fq n.kind n.text=bH bU n.text:=by unfold fq;rw [if_pos h3]
          rw [e1]at hop⊢;have hO:=opF hop;have har:=akx hV h3 hop;have hle:=hO.least;generalize hq:(bH bU n.text).1=o at hO har hle⊢;exact acM h jK ha hn rfl hO (by intro e;rw [e]at hl;simp at hl;rw [hl]at har;simp at har;omega) f
  unfold Ko;cases hf:(f&&fE n.kind)
  · rw [if_neg (by simp)];exact key f hf
  · rw [if_pos rfl];have hf':f=true/\fE n.kind=true:=by simpa using hf
    have hl1:=hlen false;unfold Ko at hl1;rw [if_neg (by simp)]at hl1;refine Ev.succ ?_;simp only [eu];refine Ev.bind (x:=true) ?_ ?_
    · unfold Ej;rw [hf'.1];simp only [cond_true,ha,if_true,hn,Option.bind_some];exact Ev.bind (QG _) (Ev.some' hf'.2)
    · refine Ev.cT rfl (Ev.bind (Ev.succ ?_) Ev.some);simp only [w9];exact Ev.bind (key false rfl) (Ev.aX (by simp<;>omega) (Ev.aX (by simp<;>omega) Ev.some))
end
def wK (c:dA):Nat:=max (c.out true).length (c.out false).length
def wL:List dA->Nat
  |[]=>0
  |c::l=>wK c+wL l
theorem j6 (c:dA) (f:Bool):(c.out f).length<=wK c:=by unfold wK;cases f<;>omega
theorem F3 (c:dA) (m f:Bool):(fV c m f).length<=wK c+2:=by
  unfold fV;have:=j6 c false;have:=j6 c f;split<;>simp<;>omega
theorem Y0: ∀l m:List dA,wL (l++m)=wL l+wL m
  |[],m=>by simp [wL]
  |c::l,m=>by simp only [List.cons_append,wL,Y0 l m];omega
def tot:List Str->Nat
  |[]=>0
  |s::l=>s.length+tot l
theorem akz: ∀(l:List Str) (sep:Str),(Lib.join l sep).length<=tot l+l.length*sep.length
  |[],sep=>by simp [Lib.join_nil]
  |a::l,sep=>by
    rw [dO,List.length_append,tot,List.length_cons,Nat.add_mul,Nat.one_mul];have: ∀l:List Str,(Lib.joinTail sep l).length<=tot l+l.length*sep.length:=by
      intro l
      induction l with
      |nil=>simp [Lib.joinTail,tot]
      |cons b l ih=>
        simp only [Lib.joinTail,List.map_cons,List.flatten_cons,List.length_append,List.length_cons,tot,Nat.add_mul,Nat.one_mul]at ih⊢;omega
    have:=this l;omega
theorem LM {l:List Str} {sep:Str} {w d:Nat} (h:tot l<=w+l.length*d) (hl:l.length<=34) (hd:d+sep.length<=200):(Lib.join l sep).length<=w+6800:=by
  have h1:=akz l sep;have h2:l.length*(d+sep.length)<=34*200:=Nat.mul_le_mul hl hd;rw [Nat.mul_add]at h2;omega
theorem aeX: ∀ks:List dA,tot (ks.map fun c=>c.out false)<=wL ks+(ks.map fun c=>c.out false).length*0
  |[]=>by simp [tot,wL]
  |c::l=>by have:=aeX l;have:=j6 c false;simp only [List.map_cons,tot,wL,Nat.mul_zero]at*;omega
theorem aeY (sign:Str) (hs:sign.length<=10): ∀(names:List Str) (ks:List dA),(∀s∈names,s.length<=80)->tot (List.zipWith (fun s c=>s++(sign++dA.out c false)) names ks)<=wL ks+(List.zipWith (fun s c=>s++(sign++dA.out c false)) names ks).length*90
  |[],ks,h=>by simp [tot]
  |s::names,[],h=>by simp [tot]
  |s::names,c::ks,h=>by
    have h1:=aeY sign hs names ks fun x hx=>h x (List.mem_cons_of_mem _ hx);have h2:=h s (by simp);have h3:=j6 c false;simp only [List.zipWith_cons_cons,tot,wL,List.length_append,List.length_cons,Nat.add_mul,Nat.one_mul]at*;omega
theorem aeZ (o:Operator) (f:Bool): ∀(i:Nat) (ks:List dA),tot (j4 o f i ks)<=wL ks+(j4 o f i ks).length*2
  |i,[]=>by simp [j4,tot]
  |i,c::ks=>by
    have h1:=aeZ o f (i+1) ks;have h2:=F3 c (j3 o i c) (f|| !ks.isEmpty);simp only [j4,tot,wL,List.length_cons,Nat.add_mul,Nat.one_mul]at*;omega
theorem ail: ∀(l:List dA),(iq l).length<=l.length
  |[]=>by simp [iq]
  |[c]=>by simp [iq]
  |c::d::l=>by have:=ail l;simp only [iq,List.length_cons];omega
theorem ae0: ∀ks:List dA,tot (iq ks)<=wL ks+(iq ks).length*20
  |[]=>by simp [iq,tot]
  |[c]=>by have:=j6 c false;simp [iq,tot,wL];omega
  |c::d::l=>by
    have h1:=ae0 l;have h2:=j6 c false;have h3:=j6 d (!l.isEmpty);simp only [iq,tot,wL,List.length_append,List.length_cons,Nat.add_mul,Nat.one_mul]at*;omega
theorem PE: ∀(names:List Str),(∀s∈names,s.length<=80)->tot names<=0+names.length*80
  |[],h=>by simp [tot]
  |s::l,h=>by
    have h1:=PE l fun x hx=>h x (List.mem_cons_of_mem _ hx);have h2:=h s (by simp);simp only [tot,List.length_cons,Nat.add_mul,Nat.one_mul]at*;omega
theorem ain {names:List Str} (jK:names.length<=34) (hnm: ∀s∈names,s.length<=80):(yw names).1.length<=6900/\(yw names).2.length<=6900:=by
  match names with
  |[]=>simp [yw]
  |[x]=>have:=hnm x (by simp);simp [yw];omega
  |x::y::p=>
    have h1:=hnm x (by simp);have h2:=LM (l:=y::p) (sep:=[44,32]) (PE _ fun s hs=>hnm s (List.mem_cons_of_mem _ hs)) (by simp at jK⊢;omega) (by simp);have h3:=LM (l:=List.replicate (p.length+1) ([95]:Str)) (sep:=[44,32]) (PE _ fun s hs=>by rw [List.eq_of_mem_replicate hs];simp) (by simp at jK⊢;omega) (by simp);simp only [yw,List.length_append,List.length_cons,List.length_nil]at h3⊢;constructor<;>omega
theorem ae1: ∀(m u:Nat),u<=m->(Lib.decDigits u).length<=u+1
  |0,u,h=>by rw [Lib.decDigits,dif_pos (by omega)];simp
  |m+1,u,h=>by
    rw [Lib.decDigits];split
    · simp
    · have:=ae1 m (u/10) (by omega);simp;omega
theorem akA {n:Int} (h:0<=n/\n<=10000):(Lib.itoa n).length<=10001:=by
  unfold Lib.itoa;rw [if_neg (by omega)];have:=ae1 n.toNat n.toNat (Nat.le_refl _);omega
theorem aio {n:Nd} (h:bW true n=0):0<=n.n/\n.n<=10000:=by
  unfold bW at h
  split at h;·cases h
  split at h;·cases h
  split at h;·cases h
  split at h;·cases h
  rename_i _ _ h1 h2;have h1:mo n=true:=by simpa using h1
  unfold mo at h1;simp only [Bool.and_eq_true,Bool.or_eq_true,Bool.not_eq_true',decide_eq_true_eq,decide_eq_false_iff_not,fK]at h1 h2;obtain⟨⟨⟨_,h3⟩,h4⟩,_⟩:=h1;rcases h3 with(h3|h3)|h3
  · by_cases hq:0<=n.n/\n.n<=10000
    · exact hq
    · exact absurd ⟨h3,hq⟩ h2
  · rcases h4 with h4|h4
    · exact absurd h3 h4
    · omega
  · omega
structure Small (n:Nd):Prop where
  text:n.text.length<=80
  names:n.names.length<=34
  each: ∀s∈n.names,s.length<=80
  args:n.args.length<=34
theorem Small.sml {n:Nd} (h:Small n) (hV:bW true n=0):Sml n:=by
  have:=aio hV;exact⟨h.text,h.names,h.each,h.args,by omega⟩
theorem I7 {ks:List dA} (h:1<=ks.length): ∃l c,ks=l++[c]/\gY ks=c.out false/\wL ks=wL l+wK c/\l.length+1=ks.length:=by
  obtain⟨l,c,rfl⟩: ∃l c,ks=l++[c]:=⟨ks.dropLast,ks.getLast (by intro e;rw [e]at h;simp at h),(List.dropLast_concat_getLast _).symm⟩;refine⟨l,c,rfl,?_,by rw [Y0];simp [wL],by simp⟩;unfold gY j5;simp
theorem Dw {sign:Str} {names:List Str} {l:List dA} {c:dA} (h:names.length<=l.length):dH sign names (l++[c])=dH sign names l:=by
  have: ∀(names:List Str) (l:List dA),names.length<=l.length->List.zipWith (fun s c=>s++(sign++dA.out c false)) names (l++[c])=List.zipWith (fun s c=>s++(sign++dA.out c false)) names l:=by
    intro names
    induction names with
    |nil=>intro l h;simp
    |cons s names ih=>
      intro l h;cases l with
      |nil=>simp at h
      |cons d l=>simp only [List.cons_append,List.zipWith_cons_cons];rw [ih l (by simpa using h)]
  unfold dH;rw [this _ _ h]
section
variable {ks:List dA} {n:Nd} (hl:ks.length=n.args.length) (hS:Small n) (hV:bW true n=0)
include hl hS hV
theorem akB:(DT n.kind n.n n.text n.names ks).length<=wL ks+19000:=by
  obtain⟨hS1,hS2,yX,hS4⟩:=hS;have jK:ks.length<=34:=by omega
  have hb:=aeV hV;have hn:=akA (aio hV);have agm: ∀l:List dA,l.length<=34->(iT l).length<=wL l+6800:=fun l h=>LM (aeX l) (by simp;omega) (by simp);have OE: ∀(sign:Str) (l:List dA),sign.length<=10->(dH sign n.names l).length<=wL l+6800:=fun sign l h=>LM (aeY sign h _ _ yX) (by rw [List.length_zipWith];omega) (by simp<;>omega);have aCn:=LM (l:=n.names) (sep:=[44,32]) (PE _ yX) hS2 (by simp);have hL:=ain hS2 yX;have hall:n.kind=0\/n.kind=1\/n.kind=2\/n.kind=3\/n.kind=4\/n.kind=5\/n.kind=6\/n.kind=7\/n.kind=8\/n.kind=9\/n.kind=10\/n.kind=11\/n.kind=12\/n.kind=13\/n.kind=14\/n.kind=15\/n.kind=16\/n.kind=17\/n.kind=18\/n.kind=19\/n.kind=20\/n.kind=21\/n.kind=22\/n.kind=23\/n.kind=24\/n.kind=25\/n.kind=26\/n.kind=27\/n.kind=28:=by omega
  unfold DT;have two:n.args.length=2-> ∃c d,ks=[c,d]:=fun h=>len2 (by rw [hl,h]);have three:n.args.length=3-> ∃c d f,ks=[c,d,f]:=fun h=>aky (by rw [hl,h]);rcases hall with hk|hk|hk|hk|hk|hk|hk|hk|hk|hk|hk|hk|hk|hk|hk|hk|hk|hk|hk|hk|hk|hk|hk|hk|hk|hk|hk|hk|hk<;>simp only [hk,Int.reduceEq,↓reduceIte]
  · omega
  · simp;omega
  · omega
  · have:=agm ks jK;simp;omega
  · have:=agm ks jK;simp;omega
  · have:=agm ks jK;simp;omega
  · have:=lY hV (show aS n.kind=((1,1,2,2),false) by rw [hk];kernel_rfl) (by omega);simp only [Bool.false_eq_true,if_false]at this;obtain⟨c,d,rfl⟩:=two (by omega);have e1:=Dw (sign:=[32,92,105,110,32]) (names:=n.names) (l:=[c]) (c:=d) (by simp;omega);have h1:=OE [32,92,105,110,32] [c] (by simp);have h2:=j6 d false;rw [show [c,d]=[c]++[d]from rfl,e1];simp [j5,wL]at*;omega
  · have:=lY hV (show aS n.kind=((1,4,1,1),true) by rw [hk];kernel_rfl) (by omega);simp only [if_true]at this;obtain⟨l,c,rfl,h1,h2,h3⟩:=I7 (ks:=ks) (by omega);have h4:=OE [32,92,105,110,32] l (by simp);have h5:=j6 c false;have h6:=acO (c.out false);rw [Dw (by omega),h1,h2];simp;omega
  · have:=lY hV (show aS n.kind=((1,4,1,1),true) by rw [hk];kernel_rfl) (by omega);simp only [if_true]at this;obtain⟨l,c,rfl,h1,h2,h3⟩:=I7 (ks:=ks) (by omega);have h4:=OE [32,92,105,110,32] l (by simp);have h5:=j6 c false;rw [Dw (by omega),h1,h2];simp;omega
  · have:=lY hV (show aS n.kind=((1,4,1,1),true) by rw [hk];kernel_rfl) (by omega);simp only [if_true]at this;obtain⟨l,c,rfl,h1,h2,h3⟩:=I7 (ks:=ks) (by omega);have h4:=OE [32,92,105,110,32] l (by simp);have h5:=j6 c false;rw [Dw (by omega),h1,h2];simp;omega
  · have:=lY hV (show aS n.kind=((1,4,1,1),false) by rw [hk];kernel_rfl) (by omega);simp only [Bool.false_eq_true,if_false]at this;obtain⟨l,c,rfl,h1,h2,h3⟩:=I7 (ks:=ks) (by omega);have h5:=j6 c false;rw [h1,h2];simp;omega
  · have:=lY hV (show aS n.kind=((1,4,1,1),false) by rw [hk];kernel_rfl) (by omega);simp only [Bool.false_eq_true,if_false]at this;obtain⟨l,c,rfl,h1,h2,h3⟩:=I7 (ks:=ks) (by omega);have h5:=j6 c false;rw [h1,h2];simp;omega
  · have:=lY hV (show aS n.kind=((1,1,2,2),false) by rw [hk];kernel_rfl) (by omega);simp only [Bool.false_eq_true,if_false]at this;obtain⟨l,c,rfl,h1,h2,h3⟩:=I7 (ks:=ks) (by omega);have h4:=OE [32,92,105,110,32] l (by simp);have h5:=j6 c false;rw [Dw (by omega),h1,h2];simp;omega
  · have:=lY hV (show aS n.kind=((1,4,1,1),true) by rw [hk];kernel_rfl) (by omega);simp only [if_true]at this;obtain⟨l,c,rfl,h1,h2,h3⟩:=I7 (ks:=ks) (by omega);have h4:=OE [32,92,105,110,32] l (by simp);have h5:=j6 c false;rw [Dw (by omega),h1,h2];simp;omega
  · have:=lY hV (show aS n.kind=((0,0,2,5),false) by rw [hk];kernel_rfl) (by omega);simp only [Bool.false_eq_true,if_false]at this;obtain⟨c,l,rfl⟩:=agl (l:=ks) (by omega);have h1:=agm l (by simp at jK;omega);have h2:=F3 c (c.op.2||decide (c.kind=0)) true;simp only [FB,List.drop_succ_cons,List.drop_zero,wL];simp;omega
  · have:=lY hV (show aS n.kind=((0,0,2,2),false) by rw [hk];kernel_rfl) (by omega);simp only [Bool.false_eq_true,if_false]at this;obtain⟨c,d,rfl⟩:=two (by omega);have h1:=j6 c false;have h2:=j6 d false;simp [j5,wL];omega
  · have:=OE [32,124,45,62,32] ks (by simp);simp;omega
  · have:=OE [32,58,32] ks (by simp);simp;omega
  · have:=lY hV (show aS n.kind=((0,0,1,1),false) by rw [hk];kernel_rfl) (by omega);simp only [Bool.false_eq_true,if_false]at this;obtain⟨c,l,rfl⟩:=agl (l:=ks) (by omega);have h2:=F3 c (c.op.2||decide (c.kind=0)) true;simp only [FB,wL];simp;omega
  · have:=lY hV (show aS n.kind=((0,0,3,3),false) by rw [hk];kernel_rfl) (by omega);simp only [Bool.false_eq_true,if_false]at this;obtain⟨c,d,f,rfl⟩:=three (by omega);have h1:=j6 c false;have h2:=j6 d false;have h3:=j6 f false;simp [j5,wL];omega
  · simp
  · have:=lY hV (show aS n.kind=((0,0,3,3),false) by rw [hk];kernel_rfl) (by omega);simp only [Bool.false_eq_true,if_false]at this;obtain⟨c,d,f,rfl⟩:=three (by omega);have h1:=j6 c false;have h2:=j6 d false;have h3:=j6 f false;simp [j5,wL];omega
  · have h1:=LM (sep:=[32,91,93,32]) (ae0 ks) (by have:=ail ks;omega) (by simp);simp;omega
  · have:=lY hV (show aS n.kind=((1,5,2,2),false) by rw [hk];kernel_rfl) (by omega);simp only [Bool.false_eq_true,if_false]at this;obtain⟨c,d,rfl⟩:=two (by omega);have h1:=j6 c false;have h2:=j6 d false;unfold Lr;simp only [j5,wL,List.getElem?_cons_zero,List.getElem?_cons_succ];split<;>simp<;>omega
  · have:=lY hV (show aS n.kind=((1,4,1,1),false) by rw [hk];kernel_rfl) (by omega);simp only [Bool.false_eq_true,if_false]at this;obtain⟨l,c,rfl,h1,h2,h3⟩:=I7 (ks:=ks) (by omega);have h5:=j6 c false;rw [h1,h2];simp;omega
  all_goals
    have:=lY hV (show aS n.kind=((0,0,2,2),false) by rw [hk];kernel_rfl) (by omega);simp only [Bool.false_eq_true,if_false]at this;obtain⟨c,d,rfl⟩:=two (by omega);have h1:=j6 c false;have h2:=F3 d (!(decide (d.kind=2)&&rName d.text)&& !decide (d.kind=4)) false;rw [aeW];generalize(fV d (!(decide (d.kind=2)&&rName d.text)&& !decide (d.kind=4)) false)=m at h2⊢;simp [j5,wL];omega
theorem akC (f:Bool):(Ko n ks f).length<=wL ks+20000:=by
  have key: ∀f,(Oe n.kind n.n n.text n.names ks f).length<=wL ks+19500:=by
    intro f;unfold Oe;by_cases ho:(fq n.kind n.text).2=true
    · rw [if_pos ho];have hO:OpF (fq n.kind n.text).1:=by
        unfold fq at ho⊢;split
        · rename_i h3;rw [if_pos h3]at ho;exact opF ho
        · rename_i h3;rw [if_neg h3]at ho;simp [Bo]at ho
      generalize(fq n.kind n.text).1=o at hO;have h1:=hO.len;unfold Ca;cases ks with
      |nil=>simp
      |cons c l=>
        simp only;split
        · have:=F3 c (zf o c) true;simp [wL];omega
        · split
          · have:=F3 c (zh o c) f;have:=YX hO;simp [wL];omega
          · have jK:(c::l).length<=34:=by have:=hS.args;omega
            have:=LM (sep:=32::(o.text++[32])) (aeZ o f 0 (c::l)) (by rw [zR];exact jK) (by simp;omega);omega
    · rw [if_neg ho];have:=akB hl hS hV;omega
  unfold Ko;split
  · have:=key false;simp;omega
  · have:=key f;omega
end
def Good (e:List Nd):Prop:=e.length<=160/\ ∀(i:Nat) n,e[i]? =some n->bW true n=0/\Small n
theorem asU (x:Nd) (b:Nat) (cs:List Tm) (ks:List dA) (f:Bool):Ko (nd x b cs) ks f=Ko x ks f:=rfl
section
variable {e:List Nd} (hG:Good e)
include hG
mutual
theorem aip: ∀(t:Tm) (b:Nat),Seg e b t-> ∀f,(fm t f).length<=20000*t.size
  | .mk x cs,b,Hw,f=>by
    have hn:=Hw.node;obtain⟨hV,hS⟩:=hG.2 _ _ hn;have h1:=akC (ks:=ER cs) (n:=nd x b cs) (by rw [aex];exact(qd b cs).symm) hS hV f;have h2:=aiq cs x [] b Hw;rw [ZN,<-asU x b cs];simp only [size];omega
theorem aiq: ∀(cs:List Tm) (x:Nd) (l:List Tm) (b:Nat),Seg e b (.mk x (l++cs))->wL (ER cs)<=20000*sizes cs
  |[],x,l,b,Hw=>by simp [ER,wL]
  |c::cs,x,l,b,Hw=>by
    have h1:=aip c _ Hw.kid;have h2:=aiq cs x (l++[c]) b (by simpa using Hw);have h3:=h1 true;have h4:=h1 false;rw [Ls,wL];unfold wK;simp only [sizes];omega
end
mutual
theorem air: ∀(t:Tm) (b:Nat),Seg e b t->KI e ((b+t.size -1:Nat):Int) ⟨t.root.kind,t.root.text,fm t⟩
  | .mk x cs,b,Hw=>by
    have hn:=Hw.node;obtain⟨hV,hS⟩:=hG.2 _ _ hn;have hsz:b+(Tm.mk x cs).size -1=b+sizes cs:=by simp only [size];omega
    have hlt:=Hw.lt;have hlen:=hG.1;have hsm: ∀f,(fm (.mk x cs) f).length<=1000000000:=fun f=>by
      have:=aip hG (.mk x cs) b Hw f;omega
    have hks:=ae2 cs x [] b Hw;rw [hsz];refine⟨by omega,⟨_,hn,rfl,rfl⟩,fun f=> ?_,hsm⟩;show Ev (fun k=>eu k ⟨e⟩ ((b+sizes cs:Nat):Int) f) (fm (.mk x cs) f)
    rw [ZN];exact aik (n:=nd x b cs) (ks:=ER cs) (a:=((b+sizes cs:Nat):Int)) hks (hS.sml hV) hV (by omega) hn (fun f=>by have:=hsm f;rw [ZN]at this;exact this) f
theorem ae2: ∀(cs:List Tm) (x:Nd) (l:List Tm) (b:Nat),Seg e b (.mk x (l++cs))->KL e (roots (b+sizes l) cs) (ER cs)
  |[],x,l,b,Hw=>by rw [roots,ER];exact .nil
  |c::cs,x,l,b,Hw=>by
    rw [roots,Ls];refine .cons (air c _ Hw.kid) ?_;have h2:=ae2 cs x (l++[c]) b (by simpa using Hw);have e1:b+sizes (l++[c])=b+sizes l+c.size:=by rw [kU];simp [sizes];omega
    rw [e1]at h2;exact h2
end
end
end Go.VL
end
section
set_option maxHeartbeats 4000000
namespace Go.VL
open Go.Proofs
def qh:Nat->(List Nd)->Int->Int->Int->Int->Str->(List Str)->(List Int)->Int->Option ((Int×Int×Str×(List Str)×(List Int)))
  |0,_,_,_,_,_,_,_,_,_=>none
  |k+1,aJ,kW,gy,I8,I9,Ja,Jb,DU,yu=>
    if 0<=gy then Option.bind (aJ[gy.toNat]?) fun x10=>cond (decide (yu<(x10.args.length:Int))) (if 0<=yu then Option.bind (x10.args[yu.toNat]?) fun x14=>if(DU.length+1)*8<=1099511627776 then qh k aJ kW gy I8 I9 Ja Jb (DU++[(IntKind.wrap .i64 (x14 -kW))]) (IntKind.wrap .i64 (yu+1))else none else none) (some ((I8,I9,Ja,Jb,DU)))else none
def UA:List Nat:=[9]++List.range' 28 25
theorem adJ: ∀(k:Nat) (Cn:Nat) (aJ:List Nd) (kW:Int) (gy:Int) (I8:Int) (I9:Int) (Ja:Str) (Jb:List Str) (DU:List Int) (yu:Int) (uI:Ck) (lU:Ck) (aA σ:Nat->PV) (H0 H:AH) (f0:Fr UA aA σ) (hf0:HF [Cn] H0 H) (sl:σ 0=(.aB (aJ.map Nd.cells) .unk)/\σ 5=(.int .i64 kW)/\σ 7=(.int .i64 gy)/\σ 8=(.ref (Cn) 0)/\σ 9=(.int .i64 yu)/\H.obj Cn=some [(.int .i64 I8),(.int .i64 I9),(.str Ja),(.aB (Jb.map aU) .unk),(.aB (DU.map bD) uI)]) (PG:Cn<H.next) (acP:eD H uI) (Jc:eD H lU) (tq:qz uI lU) (o:(Int×Int×Str×(List Str)×(List Int))) (h:qh k aJ kW gy I8 I9 Ja Jb DU yu=some o) (Q:Post) (q0: ∀(p:Int×Int×Str×(List Str)×(List Int)) (c4:Ck) (σ':Nat->PV) (H':AH),o=p->Fr UA aA σ'->HF [Cn] H0 H'->(H'.obj Cn=some [(.int .i64 p.1),(.int .i64 p.2.1),(.str p.2.2.1),(.aB (p.2.2.2.1.map aU) .unk),(.aB (p.2.2.2.2.map bD) c4)])->eD H' lU->Q (.exit 2) σ' H'),W Tryz.prog (.loop VU) Q σ H:=by
  intro k
  induction k with
  |zero=>intro Cn aJ kW gy I8 I9 Ja Jb DU yu uI lU aA σ H0 H f0 hf0 sl PG acP Jc tq o h Q q0;simp only [qh,reduceCtorEq]at h
  |succ k ih=>
    intro Cn aJ kW gy I8 I9 Ja Jb DU yu uI lU aA σ H0 H f0 hf0 sl PG acP Jc tq o h Q q0;obtain⟨s0,s5,s7,s8,s9,ayW⟩:=sl;have ayX:=ne_next PG;have ayY:=aR PG;have hle0:=hf0.1;unfold qh at h;refine bf (fun K hK=>aD ?_);unfold VU;obtain⟨e9,h⟩:=aL h;obtain⟨x10,e11,h⟩:=aj h;rcases au h with⟨e12,h⟩|⟨e12,h⟩
    ·refine ah ?_
     refine dI ?_;obtain⟨e13,h⟩:=aL h;obtain⟨x14,e15,h⟩:=aj h;obtain⟨e20,h⟩:=aL h;refine ah ?_
     refine kN (f:=bD) JN DU ([(IntKind.wrap .i64 (x14 -kW))]:List Int) uI .exact ak ak eZ (by first|exact e20|(simp only [List.length_cons,List.length_nil];exact e20)) (fun c16 H17 apd le ayn ayo=> ?_);have ayp:HF [] _ H17:=⟨le,fun i _ _=>ayn i⟩;try simp only [AH.aF,AH.aG,AH.aH,AH.aI]at le
     obtain⟨apg,ayq⟩:=ayo lU eZ tq;have n25:=ne_next (show Cn<H17.next by first|omega|(simp only [AH.aF,AH.aG,AH.aH,AH.aI];omega));have m26:=aR (show Cn<H17.next by first|omega|(simp only [AH.aF,AH.aG,AH.aH,AH.aI];omega));refine ah ?_
     refine hK _ _ ?_;exact ih Cn aJ kW gy I8 I9 Ja Jb (DU++[(IntKind.wrap .i64 (x14 -kW))]) (IntKind.wrap .i64 (yu+1)) c16 lU _ _ _ _ aM (by repeat (first|exact hf0|refine HF.new ?_|refine HF.oG ?_|refine HF.used ?_|refine HF.put (by first|(right;omega)|(left;simp only [List.mem_cons,true_or,or_true])) ?_|refine HF.via ayp (by first|exact fun i hi=>absurd hi List.not_mem_nil|(intro i hi;simp only [List.mem_cons,List.not_mem_nil,or_false]at hi⊢;first|exact .inl hi|omega)) ?_)) ak bJ eZ eZ ayq _ h _ q0
    ·cases h;refine ah ?_
     exact q0 _ uI _ _ rfl aM oo ak eZ
def rQ:Nat->(List Nd)->Int->Int->(List Nd)->Int->Option (List Nd)
  |0,_,_,_,_,_=>none
  |k+1,aJ,fP,kW,Co,gy=>
    cond (decide (gy<=fP)) (if 0<=gy then Option.bind (aJ[gy.toNat]?) fun x5=>Option.bind (nC x5.names) fun p8=>Option.bind (qh k aJ kW gy x5.kind x5.n x5.text p8 ([]:List Int) 0) (fun p29=>if(Co.length+1)*80<=1099511627776 then rQ k aJ fP kW (Co++[(Nd.mk p29.1 p29.2.1 p29.2.2.1 p29.2.2.2.1 p29.2.2.2.2)]) (IntKind.wrap .i64 (gy+1))else none)else none) (some (Co))
def UC:List Nat:=[6,7,8,9]++List.range' 14 43
theorem adK: ∀(k:Nat) (aJ:List Nd) (fP:Int) (kW:Int) (Co:List Nd) (gy:Int) (rR:Ck) (aA σ:Nat->PV) (H0 H:AH) (f0:Fr UC aA σ) (hf0:HF [] H0 H) (sl:σ 0=(.aB (aJ.map Nd.cells) .unk)/\σ 1=(.int .i64 fP)/\σ 5=(.int .i64 kW)/\σ 6=(.aB (Co.map Nd.cells) rR)/\σ 7=(.int .i64 gy)) (acQ:eD H rR) (o:List Nd) (h:rQ k aJ fP kW Co gy=some o) (Q:Post) (q0: ∀(p:List Nd) (c0:Ck) (σ':Nat->PV) (H':AH),o=p->Fr UC aA σ'->HF [] H0 H'->(σ' 6=(.aB (p.map Nd.cells) c0))->Q (.exit 0) σ' H'),W Tryz.prog (.loop VW) Q σ H:=by
  intro k
  induction k with
  |zero=>intro aJ fP kW Co gy rR aA σ H0 H f0 hf0 sl acQ o h Q q0;simp only [rQ,reduceCtorEq]at h
  |succ k ih=>
    intro aJ fP kW Co gy rR aA σ H0 H f0 hf0 sl acQ o h Q q0;obtain⟨s0,s1,s5,s6,s7⟩:=sl;have hle0:=hf0.1;unfold rQ at h;refine bf (fun K hK=>aD ?_);unfold VW;rcases au h with⟨e3,h⟩|⟨e3,h⟩
    ·obtain⟨e4,h⟩:=aL h;obtain⟨x5,e6,h⟩:=aj h;obtain⟨p8,e7,h⟩:=aj h;refine ah ?_
     refine av (Bh e7) ?_;refine ah ?_
     obtain⟨o27,h28,h⟩:=aj h;refine adJ k (H.next) aJ kW gy x5.kind x5.n x5.text p8 ([]:List Int) 0 .nil rR _ _ _ _ (Fr.refl _ _) (HF.refl _ _) ak bJ eZ eZ qz.nil _ h28 _ ?_
     ·rintro p29 c33 σ' H32 eo Jl asV g34 apw;rw [eo]at h;have s36:σ' 0=(.aB (aJ.map Nd.cells) .unk):=(Jl 0 (by decide)).trans ak;have s37:σ' 1=(.int .i64 fP):=(Jl 1 (by decide)).trans ak;have s38:σ' 5=(.int .i64 kW):=(Jl 5 (by decide)).trans ak;have s39:σ' 6=(.aB (Co.map Nd.cells) rR):=(Jl 6 (by decide)).trans ak;have s40:σ' 7=(.int .i64 gy):=(Jl 7 (by decide)).trans ak;have s41:σ' 8=(.ref (H.next) 0):=(Jl 8 (by decide)).trans ak;have le:=asV.1;try simp only [AH.aF,AH.aG,AH.aH,AH.aI]at le
      have n43:=ne_next (show H.next<H32.next by first|omega|(simp only [AH.aF,AH.aG,AH.aH,AH.aI];omega));have m44:=aR (show H.next<H32.next by first|omega|(simp only [AH.aF,AH.aG,AH.aH,AH.aI];omega));obtain⟨e49,h⟩:=aL h;refine ah ?_
      refine kN (f:=Nd.cells) Nd.row Co ([(Nd.mk p29.1 p29.2.1 p29.2.2.1 p29.2.2.2.1 p29.2.2.2.2)]:List Nd) rR .exact ak ak eZ (by first|exact e49|(simp only [List.length_cons,List.length_nil];exact e49)) (fun c45 H46 apC le ayr aCo=> ?_);have abM:HF [] _ H46:=⟨le,fun i _ _=>ayr i⟩;try simp only [AH.aF,AH.aG,AH.aH,AH.aI]at le
      have n52:=ne_next (show H.next<H46.next by first|omega|(simp only [AH.aF,AH.aG,AH.aH,AH.aI];omega));have m53:=aR (show H.next<H46.next by first|omega|(simp only [AH.aF,AH.aG,AH.aH,AH.aI];omega));refine ah ?_
      refine hK _ _ ?_;exact ih aJ fP kW (Co++[(Nd.mk p29.1 p29.2.1 p29.2.2.1 p29.2.2.2.1 p29.2.2.2.2)]) (IntKind.wrap .i64 (gy+1)) c45 _ _ _ _ (by repeat (first|exact f0|refine Fr.upd (by decide) ?_|refine Fr.via Jl (by decide) ?_)) (by repeat (first|exact hf0|refine HF.new ?_|refine HF.oG ?_|refine HF.used ?_|refine HF.put (by first|(right;omega)|(left;simp only [List.mem_cons,true_or,or_true])) ?_|refine HF.via asV (by first|exact fun i hi=>absurd hi List.not_mem_nil|(intro i hi;simp only [List.mem_cons,List.not_mem_nil,or_false]at hi⊢;first|exact .inl hi|omega)) ?_|refine HF.via abM (by first|exact fun i hi=>absurd hi List.not_mem_nil|(intro i hi;simp only [List.mem_cons,List.not_mem_nil,or_false]at hi⊢;first|exact .inl hi|omega)) ?_)) ak eZ _ h _ q0
    ·cases h;refine ah ?_
     exact q0 _ rR _ _ rfl aM oo ak
def OG (k:Nat) (aJ:List Nd) (fP:Int):Option (List Nd):=
  Option.bind (uW k aJ fP) fun p2=>Option.bind (rQ k aJ fP p2 ([]:List Nd) p2) (fun p56=>some p56)
theorem akD {k:Nat} {aJ:List Nd} {fP:Int} {c0:Ck} {r:List Nd} (h:OG k aJ fP=some r):aC Tryz.prog 62 [(.aB (aJ.map Nd.cells) c0),(.int .i64 fP)] (.aB (r.map Nd.cells) .unk):=by
  refine aC.lw (.aB (.same .nil)) (aC.aP (bn.mem (.cons (bC Nd.pu _) (.cons (.int _ _) .nil))) (aK awK (by simp) (aD ?_)) (bC Nd.pu _));unfold OG at h;unfold apR;obtain⟨p2,e1,h⟩:=aj h;refine ah ?_
  refine av (Nl e1) ?_;refine ah ?_
  obtain⟨o54,h55,h⟩:=aj h;refine adK k aJ fP p2 ([]:List Nd) p2 .nil _ _ _ _ (Fr.refl _ _) (HF.refl _ _) ak eZ _ h55 _ ?_
  ·rintro p56 c60 σ' H59 eo aCp akE s61;rw [eo]at h;have le:=akE.1;try simp only [AH.aF,AH.aG,AH.aH,AH.aI]at le
   cases h;refine ah ?_
   exact(jB Nd.pu _ _)
def Ag (k:Nat) (aJ:List Nd) (bB:Int):Option (List Nd):=
  Option.bind (yJ aJ) fun p2=>if 0<=bB then Option.bind (p2.args[bB.toNat]?) fun x4=>Option.bind (OG k aJ x4) fun p7=>some p7 else none
theorem QI {k:Nat} {aJ:List Nd} {bB:Int} {c0:Ck} {r:List Nd} (h:Ag k aJ bB=some r):aC Tryz.prog 22 [(.aB (aJ.map Nd.cells) c0),(.int .i64 bB)] (.aB (r.map Nd.cells) .unk):=by
  refine aC.lw (.aB (.same .nil)) (aC.aP (bn.mem (.cons (bC Nd.pu _) (.cons (.int _ _) .nil))) (aK apj (by simp) (aD ?_)) (bC Nd.pu _));unfold Ag at h;unfold aph;obtain⟨p2,e1,h⟩:=aj h;refine ah ?_
  refine av (Lc e1) ?_;obtain⟨e3,h⟩:=aL h;obtain⟨x4,e5,h⟩:=aj h;obtain⟨p7,e6,h⟩:=aj h;refine ah ?_
  refine av (akD e6) ?_;cases h;refine ah ?_
  exact(jB Nd.pu _ _)
end Go.VL
end
section
namespace Go.VL
open Tm
def Y1 (d:Int) (n:Nd):Nd:={n with args:=n.args.map (·-d)}
theorem acR (d:Nat): ∀(cs:List Tm) (b:Nat),(roots (b+d) cs).map (·-(d:Int))=roots b cs
  |[],b=>rfl
  |c::cs,b=>by
    have h:=acR d cs (b+c.size);have hp:=size_pos c;rw [roots,roots,List.map_cons,show b+d+c.size=b+c.size+d by omega,h];congr 1
    omega
theorem auE (d:Nat) (x:Nd) (b:Nat) (cs:List Tm):Y1 d (nd x (b+d) cs)=nd x b cs:=by
  unfold Y1 nd;simp only [acR]
mutual
theorem PI (d:Nat): ∀(t:Tm) (b:Nat),(flat (b+d) t).map (Y1 d)=flat b t
  | .mk x cs,b=>by rw [qX,qX,List.map_append,acS d cs b,List.map_cons,List.map_nil,auE]
theorem acS (d:Nat): ∀(cs:List Tm) (b:Nat),(dS (b+d) cs).map (Y1 d)=dS b cs
  |[],b=>by rw [dS,dS];rfl
  |c::cs,b=>by
    rw [lC,lC,List.map_append,PI d c b,show b+d+c.size=b+c.size+d by omega,acS d cs (b+c.size)]
end
section
variable {e:List Nd} (hlen:e.length<=1000000)
include hlen
theorem UD: ∀(t:Tm) (b:Nat),Seg e b t->Ev (fun k=>ny k e ((b+t.size -1:Nat):Int)) (.inl (b:Int))
  | .mk x [],b,h=>by
    have hn:=h.node;have e1:b+(Tm.mk x []).size -1=b:=by simp [size,sizes]
    simp only [sizes,Nat.add_zero]at hn;rw [e1];refine Ev.succ ?_;simp only [ny,nn,if_true,Int.toNat_natCast,hn,Option.bind_some];exact Ev.cF (by simp [nd,roots]) Ev.some
  | .mk x (c::cs),b,h=>by
    have hn:=h.node;have hlt:=h.lt;have hp:=size_pos c;have hk:Seg e (b+sizes []) c:=h.kid (l:=[]);simp only [sizes,Nat.add_zero]at hk;have ih:=UD c b hk;have e1:b+(Tm.mk x (c::cs)).size -1=b+sizes (c::cs):=by simp only [size];omega
    have hs:sizes (c::cs)=c.size+sizes cs:=by simp only [sizes]
    simp only [size]at hlt;have e2:(nd x b (c::cs)).args=((b+c.size -1:Nat):Int)::roots (b+c.size) cs:=by unfold nd;simp only [roots]
    rw [e1];refine Ev.succ ?_;simp only [ny,nn,if_true,Int.toNat_natCast,hn,Option.bind_some,e2,List.getElem?_cons_zero,nU];refine Ev.cT (by simp<;>omega) (Ev.cT ?_ ih);rw [wrap64 (by omega) (by omega)];exact decide_eq_true ⟨trivial,by omega⟩
theorem acT {t:Tm} {b:Nat} (h:Seg e b t):Ev (fun k=>uW k e ((b+t.size -1:Nat):Int)) (b:Int):=by
  unfold uW;refine Ev.cF (decide_eq_false (by omega)) (Ev.bind (UD hlen t b h) ?_);simp only [bZ];exact Ev.some
theorem acU {bX:Int} (hf:0<=bX/\bX<=1000000) {i:Nat} {n:Nd} (hn:e[i]? =some n) (ha:n.args.length<=1000) (hr: ∀a∈n.args,-1000000<=a/\a<=1000000) (nm:List Str):
    Ev (fun k=>qh k e bX (i:Int) n.kind n.n n.text nm [] 0) (n.kind,n.n,n.text,nm,n.args.map (·-bX)):=by
  have key:Ev (fun k=>qh k e bX (i:Int) n.kind n.n n.text nm ((n.args.take 0).map (·-bX)) ((0:Nat):Int)) (n.kind,n.n,n.text,nm,n.args.map (·-bX)):=by
    refine lq (len:=n.args.length) (p:=fun j=>Ev (fun k=>qh k e bX (i:Int) n.kind n.n n.text nm ((n.args.take j).map (·-bX)) (j:Int)) (n.kind,n.n,n.text,nm,n.args.map (·-bX))) ?_ fun j hj ih=> ?_
    · refine Ev.succ ?_;simp only [qh,nn,if_true,Int.toNat_natCast,hn,Option.bind_some];exact Ev.cF (jU _) (Ev.some' (by rw [List.take_length]))
    · have h1:=hr _ (List.getElem_mem hj);refine Ev.succ ?_;simp only [qh,nn,if_true,Int.toNat_natCast,hn,Option.bind_some,mh hj,cond_true,bE hj,eT hj (show n.args.length<=1099511627776 by omega)];rw [wrap64 (x:=n.args[j] -bX) (by omega) (by omega)];refine Ev.aX (by simp;omega) ?_
      have e1:(n.args.take (j+1)).map (·-bX)=(n.args.take j).map (·-bX)++[n.args[j] -bX]:=by rw [List.take_succ_eq_append_getElem hj,List.map_append];rfl
      rw [<-e1];exact ih
  exact key
theorem adL (hnd: ∀(i:Nat) n,e[i]? =some n->n.names.length<=1000/\n.args.length<=1000/\ ∀a∈n.args,-1000000<=a/\a<=1000000) {t:Tm} {b:Nat} (h:Seg e b t):Ev (fun k=>OG k e ((b+t.size -1:Nat):Int)) (flat 0 t):=by
  have hlt:=h.lt;have hp:=size_pos t;obtain⟨pre,post,he,hpre⟩:=h;have hget: ∀j,j<t.size->e[b+j]? =(flat b t)[j]? :=fun j hj=>by
    rw [he,List.getElem?_append_right (by omega),hpre,show b+j -b=j by omega,List.getElem?_append_left (by rw [ig];exact hj)]
  have hfl:=PI b t 0;rw [Nat.zero_add]at hfl;have key:Ev (fun k=>rQ k e ((b+t.size -1:Nat):Int) (b:Int) ((flat 0 t).take 0) ((b+0:Nat):Int)) (flat 0 t):=by
    refine lq (len:=t.size) (p:=fun j=>Ev (fun k=>rQ k e ((b+t.size -1:Nat):Int) (b:Int) ((flat 0 t).take j) ((b+j:Nat):Int)) (flat 0 t)) ?_ fun j hj ih=> ?_
    · refine Ev.succ ?_;simp only [rQ];exact Ev.cF (decide_eq_false (by omega)) (Ev.some' (by rw [List.take_of_length_le (by rw [ig];exact Nat.le_refl _)]))
    · have hj0:j<(flat 0 t).length:=by rw [ig];exact hj
      have hj1:j<(flat b t).length:=by rw [ig];exact hj
      have hn:e[b+j]? =some (flat b t)[j]:=by rw [hget j hj,bE hj1]
      have e0:(flat 0 t)[j]=Y1 b (flat b t)[j]:=by
        have:=congrArg (·[j]?) hfl
        simp only [List.getElem?_map,bE hj1,bE hj0,Option.map_some,Option.some.injEq]at this;exact this.symm
      obtain⟨g1,g2,g3⟩:=hnd _ _ hn;have e2:nC (flat b t)[j].names=some (flat b t)[j].names:=by
        unfold nC;rw [if_pos (by simp;omega)];rfl
      have hw:IntKind.wrap .i64 (((b+j:Nat):Int)+1)=((b+(j+1):Nat):Int):=by rw [wrap64 (by omega) (by omega)];omega
      refine Ev.succ ?_;simp only [rQ,hw];refine Ev.cT (decide_eq_true (by omega)) (Ev.aX (by omega) ?_);simp only [Int.toNat_natCast,hn,Option.bind_some,e2];refine Ev.bind (acU hlen ⟨by omega,by omega⟩ hn g2 g3 _) (Ev.aX (by rw [List.length_take];omega) ?_);rw [List.take_succ_eq_append_getElem hj0,e0]at ih;exact ih
  unfold OG;exact Ev.bind (acT hlen ⟨pre,post,he,hpre⟩) (Ev.bind key Ev.some)
end
theorem Jd (x:Nd) (cs:List Tm) (h:sizes cs<=1000000):yJ (flat 0 (.mk x cs))=some (nd x 0 cs):=by
  have hn:=(Seg.whole (.mk x cs)).node;rw [Nat.zero_add]at hn;have hl:(flat 0 (.mk x cs)).length=sizes cs+1:=by rw [ig];simp [size]
  unfold yJ;have hw:IntKind.wrap .i64 (((flat 0 (.mk x cs)).length:Int) -1)=(sizes cs:Int):=by rw [hl,wrap64 (by omega) (by omega)];omega
  simp only [hw,nn,if_true,Int.toNat_natCast,hn,Option.bind_some]
theorem acV: ∀(cs:List Tm) (b:Nat) (a:Int),a∈roots b cs->0<=a/\a<=b+sizes cs
  |[],b,a,h=>by rw [roots]at h;cases h
  |c::cs,b,a,h=>by
    rw [roots,List.mem_cons]at h;simp only [sizes];rcases h with rfl|h
    · omega
    · have:=acV cs _ a h;omega
mutual
theorem OH: ∀(t:Tm) (b:Nat) (n:Nd),n∈flat b t-> ∀a∈n.args,0<=a/\a<=b+t.size
  | .mk x cs,b,n,h,a,ha=>by
    rw [qX,List.mem_append,List.mem_singleton]at h;simp only [size];rcases h with h|rfl
    · have:=UE cs b n h a ha;omega
    · have:=acV cs b a ha;omega
theorem UE: ∀(cs:List Tm) (b:Nat) (n:Nd),n∈dS b cs-> ∀a∈n.args,0<=a/\a<=b+sizes cs
  |[],b,n,h,a,ha=>by rw [dS]at h;cases h
  |c::cs,b,n,h,a,ha=>by
    rw [lC,List.mem_append]at h;simp only [sizes];rcases h with h|h
    · have:=OH c b n h a ha;omega
    · have:=UE cs _ n h a ha;omega
end
theorem aoc {e:List Nd} {b:Nat} {t:Tm} (h:Seg e b t) (hnd: ∀(i:Nat) n,e[i]? =some n->n.names.length<=1000/\n.args.length<=1000) (hb:t.size<=1000):
    ∀(i:Nat) n,(flat 0 t)[i]? =some n->n.names.length<=1000/\n.args.length<=1000/\ ∀a∈n.args,-1000000<=a/\a<=1000000:=by
  intro i n hn;have hr:=OH t 0 n (List.mem_of_getElem? hn);have hfl:=PI b t 0;rw [Nat.zero_add]at hfl;rw [<-hfl,List.getElem?_map,Option.map_eq_some_iff]at hn;obtain⟨m,h1,rfl⟩:=hn;obtain⟨pre,post,he,hpre⟩:=h;have hi:=(List.getElem?_eq_some_iff.1 h1).1;obtain⟨g1,g2⟩:=hnd (b+i) m (by rw [he,List.getElem?_append_right (by omega),hpre,show b+i -b=i by omega,List.getElem?_append_left hi];exact h1);exact⟨g1,by simpa [Y1]using g2,fun a ha=>by have:=hr a ha;omega⟩
theorem KN {x:Nd} {cs l m:List Tm} {c:Tm} (hcs:cs=l++c::m) (hs:sizes cs<=1000) (hnd: ∀(i:Nat) n,(flat 0 (.mk x cs))[i]? =some n->n.names.length<=1000/\n.args.length<=1000/\ ∀a∈n.args,-1000000<=a/\a<=1000000):
    Ev (fun k=>Ag k (flat 0 (.mk x cs)) (l.length:Int)) (flat 0 c):=by
  subst hcs;have hk:Seg (flat 0 (.mk x (l++c::m))) (0+sizes l) c:=(Seg.whole _).kid;rw [Nat.zero_add]at hk;have ha:(nd x 0 (l++c::m)).args[l.length]? =some ((sizes l+c.size -1:Nat):Int):=by
    unfold nd;have:=Ob (b:=0) (l:=l) (m:=m) (c:=c);rw [Nat.zero_add]at this;exact this
  unfold Ag;simp only [Jd x _ (show sizes (l++c::m)<=1000000 by omega),Option.bind_some,nn,if_true,Int.toNat_natCast,ha];exact Ev.bind (adL (by rw [ig];simp only [size];omega) hnd hk) Ev.some
theorem QJ (n:Int):CX n=some (fE n):=by
  unfold CX DI fE
  by_cases a:n=8;·subst a;rfl
  by_cases b:n=9;·subst b;rfl
  by_cases c:n=10;·subst c;rfl
  by_cases d:n=11;·subst d;rfl
  by_cases f:n=12;·subst f;rfl
  by_cases g:n=21;·subst g;rfl
  by_cases h:n=22;·subst h;rfl
  by_cases i:n=23;·subst i;rfl
  by_cases j:n=24;·subst j;rfl
  simp [beq_eq_false_iff_ne.2 a,beq_eq_false_iff_ne.2 b,beq_eq_false_iff_ne.2 c,beq_eq_false_iff_ne.2 d,beq_eq_false_iff_ne.2 f,beq_eq_false_iff_ne.2 g,beq_eq_false_iff_ne.2 h,beq_eq_false_iff_ne.2 i,beq_eq_false_iff_ne.2 j,a,b,c,d,f,g,h,i,j]
end Go.VL
end
section
namespace Go.VL
def JG (n:Nd):Bool:=decide (n.args.length<=34)&&decide (n.names.length<=34)&&decide (n.text.length<=80)&&n.names.all fun s=>decide (s.length<=80)
def zS (e:List Nd):Bool:=(e.take 172).all JG&&decide (e.length<=170)
theorem adM {e:List Nd} {i:Nat} {n:Nd} (hn:e[i]? =some n) (hl:n.names.length<=34):Ev (fun k=>uh k e (i:Int) ((0:Nat):Int)) (if(n.names.drop 0).all (fun s=>decide (s.length<=80))=true then .inl ()else .inr false):=by
  refine lq (len:=n.names.length) (p:=fun j=>Ev (fun k=>uh k e (i:Int) (j:Int)) (if(n.names.drop j).all (fun s=>decide (s.length<=80))=true then .inl ()else .inr false)) ?_ fun j hj ih=> ?_
  · refine Ev.succ ?_;simp only [uh,Int.toNat_natCast,hn,Option.bind_some,nn,if_true];exact Ev.cF (jU _) (Ev.some' (by simp))
  · refine Ev.succ ?_;simp only [uh,Int.toNat_natCast,hn,bE hj,Option.bind_some,nn,if_true,mh hj,cond_true,eT hj (show n.names.length<=1099511627776 by omega)];rw [drop_cons hj];simp only [List.all_cons,Bool.and_eq_true,decide_eq_true_eq];by_cases h:n.names[j].length<=80
    · refine Ev.cF (decide_eq_false (by omega)) (ih.to ?_);simp only [h,true_and]
    · refine Ev.cT (decide_eq_true (by omega)) (Ev.some' ?_);simp only [h,false_and,if_false]
theorem QK (i:Nat) (m:Nat):Gv (i:Int) (decide ((i:Int)<(m:Int)))=some (decide (i<m)&&decide (i<172)):=by
  unfold Gv;by_cases h:i<m
  · rw [Ar (decide_eq_true (by omega)),decide_eq_true h,Bool.true_and];by_cases h2:i<172
    · rw [decide_eq_true h2,decide_eq_true (show(i:Int)<172 by omega)]
    · rw [decide_eq_false h2,decide_eq_false (show ¬(i:Int)<172 by omega)]
  · rw [uO (decide_eq_false (by omega)),decide_eq_false h,Bool.false_and]
theorem Hy (e:List Nd):Ev (fun k=>O9 k e) (zS e):=by
  have hlen:(e.take 172).length=min 172 e.length:=List.length_take;have key:Ev (fun k=>uj k e ((0:Nat):Int)) (if((e.take 172).drop 0).all JG=true then .inl ()else .inr false):=by
    refine lq (len:=(e.take 172).length) (p:=fun i=>Ev (fun k=>uj k e (i:Int)) (if((e.take 172).drop i).all JG=true then .inl ()else .inr false)) ?_ fun i hi ih=> ?_
    · refine Ev.succ ?_;simp only [uj,QK];refine Ev.lV rfl (Ev.cF ?_ (Ev.some' (by rw [List.drop_length];rfl)));rw [Bool.and_eq_false_iff,decide_eq_false_iff_not,decide_eq_false_iff_not];omega
    · have hie:i<e.length:=by omega
      have asX:i<172:=by omega
      have hget:(e.take 172)[i]'hi=e[i]:=by simp
      refine Ev.succ ?_;simp only [uj,QK,Int.toNat_natCast,bE hie,Option.bind_some,nn,if_true,decide_eq_true hie,decide_eq_true asX,Bool.and_self,cond_true];rw [drop_cons hi,hget,eT asX (by omega),List.all_cons];have hp:Gw e (i:Int) (decide ((e[i].args.length:Int)>34))=some (!(decide (e[i].args.length<=34)&&decide (e[i].names.length<=34)&&decide (e[i].text.length<=80))):=by
        unfold Gw;simp only [Int.toNat_natCast,bE hie,Option.bind_some,nn,if_true];by_cases a:e[i].args.length<=34
        · rw [uO (decide_eq_false (by omega))];by_cases b:e[i].names.length<=34
          · rw [uO (decide_eq_false (by omega))];by_cases c:e[i].text.length<=80
            · rw [decide_eq_false (by omega)];simp [a,b,c]
            · rw [decide_eq_true (by omega)];simp [a,b,c]
          · rw [Ar (decide_eq_true (by omega))];simp [a,b]
        · rw [Ar (decide_eq_true (by omega))];simp [a]
      refine Ev.lV hp ?_;unfold JG;by_cases h3:(decide (e[i].args.length<=34)&&decide (e[i].names.length<=34)&&decide (e[i].text.length<=80))=true
      · rw [h3];simp only [Bool.and_eq_true,decide_eq_true_eq]at h3;have h0:=adM (bE hie) h3.1.2;rw [List.drop_zero]at h0;refine Ev.cF rfl (Ev.bind h0 ?_);cases h4:e[i].names.all fun s=>decide (s.length<=80)
        · simp only [Bool.false_eq_true,if_false,dn];exact Ev.some' (by simp)
        · simp only [if_true,bZ,Bool.true_and];exact ih
      · have h3:(decide (e[i].args.length<=34)&&decide (e[i].names.length<=34)&&decide (e[i].text.length<=80))=false:=by simpa using h3
        rw [h3];exact Ev.cT rfl (Ev.some' (by simp))
  unfold O9;refine Ev.bind key ?_;rw [List.drop_zero];unfold zS;cases(e.take 172).all JG
  · simp only [Bool.false_eq_true,if_false,dn,Bool.false_and];exact Ev.some
  · simp only [if_true,bZ,Bool.true_and];refine Ev.some' ?_;by_cases h:e.length<=170
    · rw [decide_eq_true h,decide_eq_true (show(e.length:Int)<=170 by omega)]
    · rw [decide_eq_false h,decide_eq_false (show ¬(e.length:Int)<=170 by omega)]
theorem OI {e:List Nd} (h:zS e=true):e.length<=170/\ ∀(i:Nat) n,e[i]? =some n->n.args.length<=34/\n.names.length<=34/\n.text.length<=80/\ ∀s∈n.names,s.length<=80:=by
  unfold zS at h;rw [Bool.and_eq_true,decide_eq_true_eq]at h;refine⟨h.2,fun i n hn=> ?_⟩;rw [List.take_of_length_le (by omega)]at h;have:=List.all_eq_true.1 h.1 n (List.mem_of_getElem? hn);unfold JG at this;simp only [Bool.and_eq_true,decide_eq_true_eq,List.all_eq_true]at this;exact⟨this.1.1.1,this.1.1.2,this.1.2,this.2⟩
theorem Sn {e:List Nd} (h:zS e=true):Bq e:=by
  obtain⟨h1,h2⟩:=OI h;exact⟨by omega,fun i n hn=>by have:=h2 i n hn;omega⟩
theorem Hz {e:List Nd} (hL:Bq e):Ev (fun k=>wo k e) e:=by
  have hlen:=hL.len;have key: ∀i,i<=e.length->Ev (fun k=>nS k e (e.take i) (i:Int)) e:=by
    refine down ?_ fun i hi ih=> ?_
    · refine Ev.succ ?_;simp only [nS];exact Ev.cF (jU _) (Ev.some' (by simp))
    · refine Ev.succ ?_;obtain⟨h1,h2,h3⟩:=hL.nd i _ (bE hi);have e1:nC e[i].names=some e[i].names:=by
        unfold nC;rw [if_pos (by simp;omega)];rfl
      have e2:Ec e[i].args=some e[i].args:=by
        unfold Ec;rw [if_pos (by simp;omega)];rfl
      have e3:((e.take i).length+1)*80<=1099511627776:=by rw [List.length_take];omega
      simp only [nS,Int.toNat_natCast,bE hi,Option.bind_some,nn,if_true,mh hi,cond_true,eT hi (show e.length<=1099511627776 by omega),e1,e2,if_pos e3];rw [<-List.take_succ_eq_append_getElem hi];exact ih
  unfold wo;exact Ev.bind (key 0 (Nat.zero_le _)) Ev.some
inductive Lx:List PV->List PV->Prop where
  |nil:Lx [] []
  |same {p:PV} {l m:List PV} (h:Lx l m):Lx (p::l) (p::m)
  |aB {es:List (List PV)} {c:Ck} {l m:List PV} (h:Lx l m):Lx (.aB es c::l) (.aB es .unk::m)
  |agg {cs ds l m:List PV} (h0:Lx cs ds) (h:Lx l m):Lx (.agg cs::l) (.agg ds::m)
theorem Lx.get {l m:List PV} (h:Lx l m):l.length=m.length/\ ∀(j:Nat) (q:PV),m[j]? =some q-> ∃p,l[j]? =some p/\ ∀(G:Gh) (n:Nat) (v:Value),V G n p v->V G n q v:=by
  induction h with
  |nil=>exact⟨rfl,fun j q e=>by simp at e⟩
  |same _ ih=>
    refine⟨by simp [ih.1],fun j q e=> ?_⟩;cases j with
    |zero=>simp at e;subst e;exact⟨_,rfl,fun _ _ _ h=>h⟩
    |succ j=>simp at e;simpa using ih.2 j q e
  |aB _ ih=>
    refine⟨by simp [ih.1],fun j q e=> ?_⟩;cases j with
    |zero=>simp at e;subst e;exact⟨_,rfl,fun _ _ _ h=>h.wk⟩
    |succ j=>simp at e;simpa using ih.2 j q e
  | @agg cs ds _ _ _ _ ih0 ih=>
    refine⟨by simp [ih.1],fun j q e=> ?_⟩;cases j with
    |zero=>
      simp at e;subst e;refine⟨_,rfl,fun G n v h=> ?_⟩;generalize hp:PV.agg cs=p at h;cases h with
      |agg cs' vs h1 h2=>
        cases hp;refine .agg ds vs (h1.trans ih0.1) fun j c x hc hx=> ?_;obtain⟨p,e1,e2⟩:=ih0.2 j c hc;exact e2 _ _ _ (h2 j p x e1 hx)
      |_=>cases hp
    |succ j=>simp at e;simpa using ih.2 j q e
variable [Glob]
theorem dU.wx {P:Program} {H:AH} {f:FuncId} {args args':List PV} {k:PV->AH->Prop} (h:dU P f args H k) (hw:Lx args' args):dU P f args' H k:=by
  obtain⟨h1,h2⟩:=hw.get;refine⟨h.enters,fun B G w vs hU hM hv=>h.call B G w vs hU hM ⟨hv.1.trans h1,fun j c x hc hx=> ?_⟩⟩;obtain⟨p,e,hp⟩:=h2 j c hc;exact hp _ _ _ (hv.2 j p x e hx)
theorem aC.wx {P:Program} {f:FuncId} {args args':List PV} {r:PV} (h:aC P f args r) (hw:Lx args' args):aC P f args' r:=fun H=>(h H).wx hw
end Go.VL
end
