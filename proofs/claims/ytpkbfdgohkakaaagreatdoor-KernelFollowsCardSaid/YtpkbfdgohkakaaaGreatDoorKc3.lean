/- Part 3. -/
import Derived.Test.YtpkbfdgohkakaaaGreatDoorKc2
import Derived.Test.YtpkbfdgohkakaaaGreatDoorCards
import Derived.Test.YtpkbfdgohkakaaaGreatDoorTie
import Derived.WalkKit
import Derived.ProofKit
import Derived.OpenShut
import Derived.Deep.DeepHandedRow
import Derived.Deep.DeepWitnessRowRef
import Derived.Lib.LaidTab
import Derived.Carry
import Derived.RowKit
import Derived.ChangeArms
set_option linter.unusedVariables false
set_option linter.unusedSectionVars false
set_option linter.unusedSimpArgs false
section
namespace Go.Proofs.YtpkbfdgohkakaaaGreatDoor
open Go.ChangeShapes Go.WideShapes Go.ChangeAt Go.RowKit Go.VL
set_option maxRecDepth 100000
theorem own:ownKnob Tryz.prog.godebug=none:=by kernel_rfl
theorem laidOut:laidOutB Tryz.prog=true:=by kernel_rfl
abbrev EG:List (String×DataW Unit):=[("math/bits.deBruijn32tab",Rows.laid_math_bits_deBruijn32tab),("math/bits.deBruijn64tab",Rows.laid_math_bits_deBruijn64tab),("internal/strconv.uint64pow10",Rows.laid_internal_strconv_uint64pow10),("unicode.White_Space",Rows.laid_unicode_White_Space),("strings.asciiSpace",Rows.laid_strings_asciiSpace)]
theorem vM {P:Program} {x:String×DataW Unit} {l:List (String×DataW Unit)} {w:World} (h:laidMet P (x::l) w):laidMet P l w:=by
 obtain⟨ps,⟨g,t,cs,fuel,p,q,h1,h2,h3,h4,h5,rfl⟩,hn,hr⟩:=h;exact⟨q,h5,(List.nodup_append.1 hn).2.1,fun b off hp=>hr b off (List.mem_append_right _ hp)⟩
theorem JV {W:World} {name:String} {k:IntKind} {zs:List Int} {d0:DataW Unit} (hd:d0=Lib.tabData k zs) {rest:List (String×DataW Unit)} {g:Nat} {t e:TypeId} {n:Nat} (hg:Tryz.prog.globalNamed name=some g) (hty:(Tryz.prog.globals[g]?).map (·.type)=some t)
 (ht:Tryz.prog.underlying t=some (.array n e)) (he:Tryz.prog.underlying e=some (.int k)) (hce:Tryz.prog.cellsOf e=1) (hct:Tryz.prog.cellsOf t=n) (h:laidMet Tryz.prog ((name,d0)::rest) W) (i:Nat) (x:Int) (hx:zs[i]? =some x):
 W.cell? ⟨g,i,none⟩=some (.int k x):=by
 subst hd;have hi:=(List.getElem?_eq_some_iff.1 hx).1;have:=(Lib.tabIs_of_head hg hty ht he hce hct h).cell hg i hi;rw [this];simp [List.getD,hx]
theorem JW {W:World} {name:String} {k:IntKind} {zs:List Int} {d0:DataW Unit} (hd:d0=Lib.tabData k zs) {rest:List (String×DataW Unit)} {g:Nat} {t e:TypeId} {n:Nat} (hg:Tryz.prog.globalNamed name=some g) (hty:(Tryz.prog.globals[g]?).map (·.type)=some t)
 (ht:Tryz.prog.underlying t=some (.array n e)) (he:Tryz.prog.underlying e=some (.int k)) (hce:Tryz.prog.cellsOf e=1) (hct:Tryz.prog.cellsOf t=n) (h:laidMet Tryz.prog ((name,d0)::rest) W):
 ∃t fr,W.heap[g]? =some (.cells (zs.map (Value.int k)).toArray t fr):=by
 subst hd;have key:W.var? Tryz.prog name=some (zs.map fun z=>Value.int k z).toArray:=Lib.tabIs_of_head hg hty ht he hce hct h;unfold World.var? at key;rw [hg,Option.bind_some]at key;cases h:W.heap[g]? with
 |none=>rw [h]at key;cases key
 |some o=>
  rw [h]at key;cases o with
  |cells cs t fr=>cases key;exact⟨t,fr,rfl⟩
  |_=>cases key
theorem ab0 (b:Nat):tabs.get b=if b=0 then some (.u8,Cy)else if b=3 then some (.u64,R8)else if b=4 then some (.u8,XF)else if b=5 then some (.u8,XG)else none:=by
 simp only [tabs,EF.get,List.find?];by_cases h0:b=0
 · subst h0;rfl
 by_cases h3:b=3
 · subst h3;rfl
 by_cases h4:b=4
 · subst h4;rfl
 by_cases h5:b=5
 · subst h5;rfl
 simp [h0,h3,h4,h5,Ne.symm h0,Ne.symm h3,Ne.symm h4,Ne.symm h5,beq_eq_false_iff_ne.2 (Ne.symm h0),beq_eq_false_iff_ne.2 (Ne.symm h3),beq_eq_false_iff_ne.2 (Ne.symm h4),beq_eq_false_iff_ne.2 (Ne.symm h5)]
theorem ar1 {W:World} (h:laidMetH Tryz.prog EG W):WH (fun b=>W.heap.size<=b) W:=by
 have h:laidMet Tryz.prog EG W:=h;have h1:=vM h;have h2:=vM h1;have h4:=vM (vM h2);have e4:(Rows.laid_math_bits_deBruijn32tab:DataW Unit)=Lib.tabData .u8 XF:=by kernel_rfl
 have e5:(Rows.laid_math_bits_deBruijn64tab:DataW Unit)=Lib.tabData .u8 XG:=by kernel_rfl
 have e3:(Rows.laid_internal_strconv_uint64pow10:DataW Unit)=Lib.tabData .u64 R8:=by kernel_rfl
 have e0:(Rows.laid_strings_asciiSpace:DataW Unit)=Lib.tabData .u8 Cy:=by kernel_rfl
 have c4:=JW (g:=4) e4 (by kernel_rfl) (by kernel_rfl) Tryz.underlying353 Tryz.underlying5 (by kernel_rfl) (by kernel_rfl) h;have c5:=JW (g:=5) e5 (by kernel_rfl) (by kernel_rfl) Tryz.underlying354 Tryz.underlying5 (by kernel_rfl) (by kernel_rfl) h1;have c3:=JW (g:=3) e3 (by kernel_rfl) (by kernel_rfl) Tryz.underlying351 Tryz.underlying293 (by kernel_rfl) (by kernel_rfl) h2;have c0:=JW (g:=0) e0 (by kernel_rfl) (by kernel_rfl) Tryz.underlying300 Tryz.underlying5 (by kernel_rfl) (by kernel_rfl) h4;intro b arr e;have e:(tabs.get b).map (fun x=>(x.2.map (Value.int x.1)).toArray)=some arr:=e;have key: ∃t fr,W.heap[b]? =some (.cells arr t fr):=by
  rw [ab0]at e;by_cases a0:b=0
  · subst a0;cases e;exact c0
  by_cases a3:b=3
  · subst a3;cases e;exact c3
  by_cases a4:b=4
  · subst a4;cases e;exact c4
  by_cases a5:b=5
  · subst a5;cases e;exact c5
  simp only [a0,a3,a4,a5,↓reduceIte,Option.map_none]at e;cases e
 obtain⟨t,fr,hk⟩:=key;exact⟨Nat.not_le_of_lt (Array.getElem?_eq_some_iff.1 hk).1,t,fr,hk⟩
theorem ar2 {W:World} (h:laidMetH Tryz.prog EG W): ∀a x,ar0.gc a=some x->W.cell? a=some x:=by
 have h:laidMet Tryz.prog EG W:=h;have h1:=vM h;have h2:=vM h1;have h4:=vM (vM h2);have e4:(Rows.laid_math_bits_deBruijn32tab:DataW Unit)=Lib.tabData .u8 XF:=by kernel_rfl
 have e5:(Rows.laid_math_bits_deBruijn64tab:DataW Unit)=Lib.tabData .u8 XG:=by kernel_rfl
 have e3:(Rows.laid_internal_strconv_uint64pow10:DataW Unit)=Lib.tabData .u64 R8:=by kernel_rfl
 have e0:(Rows.laid_strings_asciiSpace:DataW Unit)=Lib.tabData .u8 Cy:=by kernel_rfl
 have c4: ∀i x,XF[i]? =some x->W.cell? ⟨4,i,none⟩=some (.int .u8 x):=fun i x hx=>JV e4 (by kernel_rfl) (by kernel_rfl) Tryz.underlying353 Tryz.underlying5 (by kernel_rfl) (by kernel_rfl) h i x hx;have c5: ∀i x,XG[i]? =some x->W.cell? ⟨5,i,none⟩=some (.int .u8 x):=fun i x hx=>JV e5 (by kernel_rfl) (by kernel_rfl) Tryz.underlying354 Tryz.underlying5 (by kernel_rfl) (by kernel_rfl) h1 i x hx;have c3: ∀i x,R8[i]? =some x->W.cell? ⟨3,i,none⟩=some (.int .u64 x):=fun i x hx=>JV e3 (by kernel_rfl) (by kernel_rfl) Tryz.underlying351 Tryz.underlying293 (by kernel_rfl) (by kernel_rfl) h2 i x hx;have c0: ∀i x,Cy[i]? =some x->W.cell? ⟨0,i,none⟩=some (.int .u8 x):=fun i x hx=>JV e0 (by kernel_rfl) (by kernel_rfl) Tryz.underlying300 Tryz.underlying5 (by kernel_rfl) (by kernel_rfl) h4 i x hx;intro a x e;obtain⟨b,o,sp⟩:=a;cases sp with
 |some s=>cases e
 |none=>
  have e:(match tabs.get b with|some (k,ns)=>ns[o]?.map (Value.int k)|none=>none)=some x:=e;have hb:=ab0 b;rw [hb]at e;by_cases h0:b=0
  · subst h0;simp only [↓reduceIte,Option.map_eq_some_iff]at e;obtain⟨y,hy,rfl⟩:=e;exact c0 o y hy
  by_cases h3:b=3
  · subst h3;simp only [↓reduceIte,Option.map_eq_some_iff,Nat.reduceEqDiff]at e;obtain⟨y,hy,rfl⟩:=e;exact c3 o y hy
  by_cases h4:b=4
  · subst h4;simp only [↓reduceIte,Option.map_eq_some_iff,Nat.reduceEqDiff]at e;obtain⟨y,hy,rfl⟩:=e;exact c4 o y hy
  by_cases h5:b=5
  · subst h5;simp only [↓reduceIte,Option.map_eq_some_iff,Nat.reduceEqDiff]at e;obtain⟨y,hy,rfl⟩:=e;exact c5 o y hy
  simp only [h0,h3,h4,h5,↓reduceIte]at e;cases e
noncomputable def OX (os:Os):World:=
 let N:=(World.settled Tryz.prog os).heap.size
 let w0:=World.holding Tryz.prog os ⟨#[.cells (([9,13,1,32,133,101,160,5760,5600,8192,8202,1,8232,8233,1,8239,8287,48,12288,12288,1]:List Nat).map fun(z:Nat)=>Value.int .u16 (z:Int)).toArray 335,.cells #[.slice (some ⟨N,0,none⟩) 7 7,.slice none 0 0,.int .i64 2] 332],#[],[]⟩
 let put (h:Array Obj) (g:Nat) (cs:Array Value):Array Obj:=h.modify g fun
  | .cells _ t frozen=> .cells cs t frozen
  |o=>o
 let h1:=put w0.heap 0 (Cy.map fun z=>Value.int .u8 z).toArray
 let h2:=put h1 3 (R8.map fun z=>Value.int .u64 z).toArray
 let h3:=put h2 4 (XF.map fun z=>Value.int .u8 z).toArray
 let h4:=put h3 5 (XG.map fun z=>Value.int .u8 z).toArray
 let h5:=put h4 1 #[.pointer (some ⟨N+1,0,none⟩)]
 {w0 with heap:=h5}
theorem amD (os:Os) (args:Array Value):laidMet Tryz.prog EG ((OX os).forCall (fun _ _=>0) ⟨#[],args,[]⟩).memory:=
 laidMet_of_run' 10 (by kernel_rfl) (by kernel_rfl)
theorem stays {H:Type} {enc:TypeId×Value->H} {t:TypeId} (hr:Tryz.prog.readableRec t=true) (hrow:t<Tryz.prog.types.size) {W W':World} {v:Value} {d:DataW H} {ps:List MemPlace}
 (h:DataW.Trod enc Tryz.prog W 0 (fun _=>true) true t v d ps) (hb:Below W.heap.size W W') (hlt: ∀x∈ps,x.block<W.heap.size):DataW.Trod enc Tryz.prog W' 0 (fun b=>decide (b<W.heap.size)) true t v d ps:=
 Below.trod laidOut hr hrow h hb hlt
end Go.Proofs.YtpkbfdgohkakaaaGreatDoor
end
section
namespace Go.VL
variable [Glob]
inductive Sc:PV->Prop where
 |bool (b:Bool):Sc (.bool b)
 |int (k:IntKind) (x:Int):Sc (.int k x)
 |str (s:List UInt8):Sc (.str s)
 |any:Sc .any
 |dn (cs:List PV) (h: ∀c∈cs,Sc c):Sc (.dn cs)
theorem V.sc {G G':Gh} {n n':Nat} {p:PV} {v:Value} (k:V G n p v) (hp:Sc p):V G' n' p v:=by
 induction k with
 |any v=>exact .any v
 |bool b=>exact .bool b
 |int k x=>exact .int k x
 |str s=>exact .str s
 |dn cs vs h1 _ ih=>
  cases hp with
  |dn _ h=>exact .dn cs vs h1 (fun j c x hc hx=>ih j c x hc hx (h c (List.mem_of_getElem? hc)))
 |_=>cases hp
theorem aD.frozen {P:Program} {f:FuncId} {args args':List PV} {r:PV} {H:AH} (hz:args'.length=args.length/\ ∀(j:Nat) (a a':PV),args[j]? =some a->args'[j]? =some a'->Fz H a a') (ha: ∀a∈args',Pu a)
 (h:aD P f args' r) (hr:Sc r):bg P f args H fun v H'=>v=r/\H'=H:=by
 refine⟨(h AH.empty).enters,fun B G w vs hU hM hv=> ?_⟩
 let F0:=(G.froze H w).F
 have hF0: ∀a x,G.F a=some x->F0 a=some x:=fun a x e=>Ie e;have aEt: ∀a x,F0 a=some x->w.cell? a=some x:=by
  intro a x e;simp only [F0,Gh.froze]at e;split at e
  · rename_i y hy;cases e;exact hM.rH a x hy
  · split at e
    · exact e
    · cases e
 have hv':Vs ⟨F0,fun _=>none,fun _=>none⟩ 0 args' vs:=⟨hv.1.trans hz.1.symm,fun j c x hc hx=>by
  have hj:j<args.length:=by
   rw [<-hz.1];exact(List.getElem?_eq_some_iff.1 hc).1
  have hf:=hz.2 j args[j] c (by simp) hc;have:=hf.reads hM x (hv.2 j args[j] x (by simp) hx);exact V.pure (fun _ _ e=>e) this (ha c (List.mem_of_getElem? hc))⟩
 refine(((h AH.empty).call (fun b=>w.heap.size<=b) _ w vs (fun b hb=>hb) (HM.empty (fun a x e=>hF0 a x (hM.glob a x e)) aEt hM.wh.old) hv')).mono ?_;rintro e w' ⟨q,v,H',G',h1,h2,h3,h4,h5,h6,rfl,rfl⟩;have hold: ∀b,b<w.heap.size->w'.heap[b]? =w.heap[b]? :=fun b hb=>h2.same b hb (by omega);have hlt: ∀b arr t fr,w.heap[b]? =some (.cells arr t fr)->b<w.heap.size:=fun b arr t fr e=>(Array.getElem?_eq_some_iff.1 e).1
 have hM2:HM B H G w':={
  glob:=hM.glob
  rH:=fun a x e=>by
   have hc:=hM.rH a x e;exact(World.cell?_of_block (hold _ (World.block_lt_of_cell? w a hc))).trans hc
  obj:=fun id cs e=>by
   obtain⟨k0,b,arr,t,k1,k2,k3,k4,k5⟩:=hM.obj id cs e;exact⟨k0,b,arr,t,k1,k2,(hold b (hlt _ _ _ _ k3)).trans k3,k4,k5⟩
  inj:=hM.inj
  tok:=fun k e=>by
   obtain⟨k0,b,o,arr,t,k1,k2,k3,k5⟩:=hM.tok k e;exact⟨k0,b,o,arr,t,k1,k2,(hold b (hlt _ _ _ _ k3)).trans k3,k5⟩
  r9:=hM.r9
  tobj:=hM.tobj
  wh:=hM.wh.keep fun b _ hb=>hold b hb}
 exact⟨_,v,H,G,h1,⟨h2.size,fun b hb _=>hold b hb,h2.os,h2.tape,h2.output,h2.JI⟩,Ext.refl B _ G,Nat.le_refl _,hM2,h6.sc hr,rfl,rfl⟩
end Go.VL
end
section
namespace Go.VL
variable [Glob]
section
variable {P:Program} {Q:Post} {σ:Nat->PV} {H:AH} {K:(Nat->PV)->AH->Prop}
def PC (P:Program) (g:FuncId) (args:List PV) (k:PV->Prop):Prop:= ∃p,aD P g args p/\k p
theorem PC.mk {g:FuncId} {args:List PV} {k:PV->Prop} {p:PV} (h:aD P g args p) (hk:k p):PC P g args k:=⟨p,h,hk⟩
theorem auq {pr:List (aI×Bool)} {post:List aI} (h:jq P (·=H) pr (dM P post (Q .normal)) σ H):W P (.par pr post) Q σ H:=⟨(·=H),rfl,h⟩
theorem agq {d:Option Nat} {k:RK} {l:List (aI×Bool)} (h:match rop k σ H with|some p=>jq P (·=H) l K (upd σ d p) H|none=>False):jq P (·=H) ((⟨d,.r k,none⟩,false)::l) K σ H:=by
 cases hr:rop k σ H with
 |none=>rw [hr]at h;exact h.elim
 |some p=>
  rw [hr]at h;exact eu p (fun H' e=>by subst e;exact hr) h
theorem XH {d:Option Nat} {k:AK} {s:Nat} {want b:Bool} {l:List (aI×Bool)}
 (h:match σ s with| .bool t=>if t=want then jq P (·=H) ((⟨d,k,none⟩,b)::l) K σ H else jq P (·=H) l K (upd σ d ud) H| .dn []=>jq P (·=H) l K (upd σ d ud) H|_=>False):jq P (·=H) ((⟨d,k,some (s,want)⟩,b)::l) K σ H:=by
 split at h
 · rename_i t ht;split at h
   · rename_i e;subst e;exact arZ ht h
   · rename_i e;refine abY (.inl ?_) h;rw [ht];cases t<;>cases want<;>first|rfl|exact absurd rfl e
 · rename_i ht;exact abY (.inr ht) h
 · exact h.elim
theorem GV {d:Option Nat} {g:FuncId} {fs cs:List PV} {az:List AE} {l:List (aI×Bool)} (h:PC P g (fs++evs σ az++cs) fun p=>jq P (·=H) l K (upd σ d p) H):
 jq P (·=H) ((⟨d,.call (.c (.fn (.func g) fs cs)) az,none⟩,false)::l) K σ H:=by
 obtain⟨p,h1,h2⟩:=h;exact BJ p h1 h2
theorem AH.agr (cs:List PV) (i:Nat):(H.new cs).obj i=if i=H.next then some cs else H.obj i:=rfl
theorem AH.ags (id:Nat) (cs:List PV) (i:Nat):(H.put id cs).obj i=if i=id then some cs else H.obj i:=rfl
theorem AH.aS (cs:List PV):(H.new cs).next=H.next+1:=rfl
theorem AH.aT (id:Nat) (cs:List PV):(H.put id cs).next=H.next:=rfl
theorem AH.aU:H.tok.next=H.next+1:=rfl
theorem AH.aV (k:Nat):(H.use k).next=H.next:=rfl
end
attribute [go_sem] AH.agr AH.ags AH.aS AH.aT AH.aU AH.aV
theorem ar3 (k:IntKind) (x:Int):(PV.int k x).one=true:=rfl
theorem amE (b:Bool):(PV.bool b).one=true:=rfl
theorem ar4 (s:List UInt8):(PV.str s).one=true:=rfl
theorem ar5 (es:List (List PV)) (c:Ck):(PV.ah es c).one=true:=rfl
theorem ar6 (a b c d e:Nat):(PV.bO a b c d e).one=true:=rfl
theorem ar7 (a b:Nat):(PV.ref a b).one=true:=rfl
theorem ae9 (l:List PV):cellsOf (.agg l)=some l:=rfl
theorem afa (k:IntKind) (x:Int):cellsOf (.int k x)=some [.int k x]:=rfl
theorem ab1 (b:Bool):cellsOf (.bool b)=some [.bool b]:=rfl
theorem afb (s:List UInt8):cellsOf (.str s)=some [.str s]:=rfl
theorem afc (es:List (List PV)) (c:Ck):cellsOf (.ah es c)=some [.ah es c]:=rfl
theorem afd (a b c d e:Nat):cellsOf (.bO a b c d e)=some [.bO a b c d e]:=rfl
theorem afe (a b:Nat):cellsOf (.ref a b)=some [.ref a b]:=rfl
attribute [go_sem] List.length_take
attribute [go_sem] ae9 afa ab1 afb afc afd afe ar3 amE ar4 ar5 ar6 ar7 Bool.true_and List.drop_zero List.drop_succ_cons List.take_succ_cons List.take_zero List.all_cons List.all_nil Bool.and_true Bool.and_self List.drop_nil Nat.zero_add Nat.add_zero Nat.le_refl and_self
end Go.VL
end
section
namespace Go.VL
section
variable {H:AH}
theorem FT {α:Type} {sz:Nat} {f:α->List PV} (hf: ∀x,(f x).length=sz) (l:List α):MB sz (l.map f):=by
 intro cs h;obtain⟨x,_,rfl⟩:=List.mem_map.1 h;exact hf x
class ni {α:Type} (f:α->List PV) (sz:outParam Nat):Prop where
 len: ∀x,(f x).length=sz
 wkf: ∀x,(f x).map wk=f x
theorem aur {α:Type} {sz:Nat} {f:α->List PV} {l:List α} {c:Ck} {k:IntKind} {n:Int} [hr:ni f sz]:
 ql sz (.ah (l.map f) c) (some (.int k n)) none none=if 0<=n/\n.toNat<=l.length then some (.ah ((l.drop n.toNat).map f) .unk)else none:=by
 simp only [ql,oJ];by_cases h1:0<=n
 · by_cases h2:n.toNat<=l.length
   · simp [h1,h2,FT hr.len,List.map_drop,List.take_of_length_le]
   · simp [h1,h2]
 · simp [h1]
theorem aus {α:Type} {sz:Nat} {f:α->List PV} {l:List α} {c:Ck} {k:IntKind} {n:Int} [hr:ni f sz]:
 ql sz (.ah (l.map f) c) none (some (.int k n)) none=if 0<=n/\n.toNat<=l.length then some (.ah ((l.take n.toNat).map f) .unk)else none:=by
 simp only [ql,oJ];by_cases h1:0<=n
 · by_cases h2:n.toNat<=l.length
   · simp [h1,h2,FT hr.len,List.map_take]
   · simp [h1,h2]
 · simp [h1]
theorem amF {α:Type} {sz:Nat} {f:α->List PV} {l:List α} {c:Ck} {k k':IntKind} {m n:Int} [hr:ni f sz]:
 ql sz (.ah (l.map f) c) (some (.int k m)) (some (.int k' n)) none=if 0<=m/\m<=n/\n.toNat<=l.length then some (.ah (((l.take n.toNat).drop m.toNat).map f) .unk)else none:=by
 simp only [ql,oJ];by_cases h0:0<=m
 · by_cases h1:0<=n
   · by_cases h4:m<=n
     · have h4':m.toNat<=n.toNat:=by omega
       by_cases h2:n.toNat<=l.length
       · simp [h0,h1,h4,h4',h2,FT hr.len,List.map_take,List.map_drop]
       · simp [h0,h1,h4,h2]
     · have h4': ¬m.toNat<=n.toNat:=by omega
       simp [h0,h1,h4,h4']
   · have h4: ¬m<=n:=by omega
     simp [h0,h1,h4]
 · simp [h0]
theorem ar8 {s:List UInt8} {k:IntKind} {n:Int}:Aq (.str s) (some (.int k n)) none=if 0<=n/\n.toNat<=s.length then some (.str (s.drop n.toNat))else none:=by
 simp only [Aq,oJ];by_cases h1:0<=n
 · by_cases h2:n.toNat<=s.length
   · simp [h1,h2]
   · simp [h1,h2]
 · simp [h1]
theorem ar9 {s:List UInt8} {k:IntKind} {n:Int}:Aq (.str s) none (some (.int k n))=if 0<=n/\n.toNat<=s.length then some (.str (s.take n.toNat))else none:=by
 simp only [Aq,oJ];by_cases h1:0<=n
 · by_cases h2:n.toNat<=s.length
   · simp [h1,h2]
   · simp [h1,h2]
 · simp [h1]
theorem ajZ {s:List UInt8} {k k':IntKind} {m n:Int}:Aq (.str s) (some (.int k m)) (some (.int k' n))=if 0<=m/\m<=n/\n.toNat<=s.length then some (.str ((s.take n.toNat).drop m.toNat))else none:=by
 simp only [Aq,oJ];by_cases h0:0<=m
 · by_cases h1:0<=n
   · by_cases h4:m<=n
     · have h4':m.toNat<=n.toNat:=by omega
       simp [h0,h1,h4,h4']
     · have h4': ¬m.toNat<=n.toNat:=by omega
       simp [h0,h1,h4,h4']
   · have h4: ¬m<=n:=by omega
     simp [h0,h1,h4]
 · simp [h0]
inductive Lw:List PV->List PV->Prop where
 |nil:Lw [] []
 |same {p:PV} {l m:List PV} (h:Lw l m):Lw (p::l) (p::m)
 |ah {es:List (List PV)} {c:Ck} {l m:List PV} (h:Lw l m):Lw (.ah es c::l) (.ah es .unk::m)
theorem Lw.get {l m:List PV} (h:Lw l m):l.length=m.length/\ ∀(j:Nat) (q:PV),m[j]? =some q-> ∃p,l[j]? =some p/\ ∀(G:Gh) (n:Nat) (v:Value),V G n p v->V G n q v:=by
 induction h with
 |nil=>exact⟨rfl,fun j q e=>by simp at e⟩
 |same _ ih=>
  refine⟨by simp [ih.1],fun j q e=> ?_⟩;cases j with
  |zero=>simp at e;subst e;exact⟨_,rfl,fun _ _ _ h=>h⟩
  |succ j=>simp at e;simpa using ih.2 j q e
 |ah _ ih=>
  refine⟨by simp [ih.1],fun j q e=> ?_⟩;cases j with
  |zero=>simp at e;subst e;exact⟨_,rfl,fun _ _ _ h=>h.wk⟩
  |succ j=>simp at e;simpa using ih.2 j q e
theorem bE {α:Type} {f:α->List PV} (hf: ∀x,∀c∈f x,Pu c) (l:List α):Pu (.ah (l.map f) .unk):=by
 refine .ah _ _ (fun cs h c hc=> ?_) (by simp);obtain⟨x,_,rfl⟩:=List.mem_map.1 h;exact hf x c hc
inductive dA:List PV->Prop where
 |nil:dA []
 |cons {p:PV} {l:List PV} (h:Pu p) (t:dA l):dA (p::l)
theorem dA.mem {l:List PV} (h:dA l): ∀c∈l,Pu c:=by
 induction h with
 |nil=>intro c h;cases h
 |cons h _ ih=>
  intro c hc;rcases List.mem_cons.1 hc with rfl|hc
  · exact h
  · exact ih c hc
inductive Ld (H:AH):List PV->List PV->Prop where
 |nil:Ld H [] []
 |cons {p q:PV} {l m:List PV} (h:Fz H p q) (t:Ld H l m):Ld H (p::l) (q::m)

theorem dz {H:AH} {k:IntKind} {n:Int} {l m:List PV} (t:Ld H l m):Ld H (.int k n::l) (.int k n::m):= .cons (.pure _ (.int _ _)) t
theorem Ld.get {l m:List PV} (h:Ld H l m):m.length=l.length/\ ∀(j:Nat) (c c':PV),l[j]? =some c->m[j]? =some c'->Fz H c c':=by
 induction h with
 |nil=>exact⟨rfl,fun j c c' e=>by simp at e⟩
 |cons h _ ih=>
  refine⟨by simp [ih.1],fun j c c' e e'=> ?_⟩;cases j with
  |zero=>simp at e e';subst e;subst e';exact h
  |succ j=>simp at e e';exact ih.2 j c c' e e'
theorem aj0 {id off:Nat} {cs cs':List PV} (ho:H.obj id=some cs) (h:Ld H cs cs'):Fz H (.ref id off) (.bY cs' off):= .ref id off cs cs' ho h.get.1 h.get.2
theorem aoF {g:Fn} {cs cs':List PV} (h:Ld H cs cs'):Fz H (.fn g [] cs) (.fn g [] cs'):= .fn g [] [] cs cs' rfl (fun j c c' e=>by simp at e) h.get.1 h.get.2
theorem dU {l m:List PV} (h:Ld H l m):Fz H (.agg l) (.agg m):= .agg l m h.get.1 h.get.2
theorem jr {l m:List PV} (h:Ld H l m):Fz H (.dn l) (.dn m):= .dn l m h.get.1 h.get.2
theorem cK {α:Type} {f:α->List PV} (hf: ∀x,∀c∈f x,Pu c) (l:List α) (c:Ck):Fz H (.ah (l.map f) c) (.ah (l.map f) .unk):=by
 refine .ah _ _ c .unk (.inl rfl) rfl (fun i cs cs' h1 h2=>by rw [h1]at h2;cases h2;rfl) (fun i cs cs' h1 h2 j c c' h3 h4=> ?_);rw [h1]at h2;cases h2;rw [h3]at h4;cases h4;obtain⟨x,_,rfl⟩:=List.mem_map.1 (List.mem_of_getElem? h1);exact .pure _ (hf x c (List.mem_of_getElem? h3))
theorem asa {α:Type} {sz:Nat} {f:α->List PV} [hr:ni f sz] (l:List α) (c:Ck):K6 (.ah (l.map f) c)= .ah (l.map f) c:=by
 simp only [K6,List.map_map];congr 1;exact List.map_congr_left fun x _=>hr.wkf x
end
def u8L (n:Int):List PV:=[.int .u8 n]
def uV (s:List UInt8):List Int:=s.map fun b=>(b.toNat:Int)
variable [Glob]
section
variable {P:Program} {Q:Post} {σ σ':Nat->PV} {H H':AH} {K:(Nat->PV)->AH->Prop}
inductive Fm where
 |seq (b:AC)
 |ops (l:List aI)
 |block (id:Nat)
def EH (P:Program):List Fm->Post->Post
 |[],Q=>Q
 | .seq b::s,Q=>Bb (fun σ H=>W P b (EH P s Q) σ H) (EH P s Q)
 | .ops l::s,Q=>Bb (fun σ H=>dM P l (EH P s Q .normal) σ H) (EH P s Q)
 | .block id::s,Q=>OV id (EH P s Q)
variable {s:List Fm}
def WS (P:Program) (a:AC) (s:List Fm) (Q:Post) (σ:Nat->PV) (H:AH):Prop:=W P a (EH P s Q) σ H
def WO (P:Program) (l:List aI) (s:List Fm) (Q:Post) (σ:Nat->PV) (H:AH):Prop:=dM P l (EH P s Q .normal) σ H
def WE (P:Program) (e:Ex) (s:List Fm) (Q:Post) (σ:Nat->PV) (H:AH):Prop:=EH P s Q e σ H
theorem aJ {a:AC} (h:WS P a [] Q σ H):W P a Q σ H:=h
theorem eO {l:List aI} (h:WO P l [] Q σ H):dM P l (Q .normal) σ H:=h
def WCd (P:Program):PV->AC->AC->List Fm->Post->(Nat->PV)->AH->Prop
 | .bool true,a,_,s,Q,σ,H=>WS P a s Q σ H
 | .bool false,_,b,s,Q,σ,H=>WS P b s Q σ H
 |_,_,_,_,_,_,_=>False
def WR (P:Program) (o:Option PV) (d:Option Nat) (l:List aI) (s:List Fm) (Q:Post) (σ:Nat->PV) (H:AH):Prop:=match o with
 |some p=>WO P l s Q (upd σ d p) H
 |none=>False
def WD (P:Program) (o:Option (PV×AH)) (d:Option Nat) (l:List aI) (s:List Fm) (Q:Post) (σ:Nat->PV):Prop:=match o with
 |some (p,H)=>WO P l s Q (upd σ d p) H
 |none=>False
def WG (P:Program) (v:PV) (want:Bool) (d:Option Nat) (k:AK) (l:List aI) (s:List Fm) (Q:Post) (σ:Nat->PV) (H:AH):Prop:=match v with
 | .bool b=>if b=want then WO P (⟨d,k,none⟩::l) s Q σ H else WO P l s Q (upd σ d ud) H
 | .dn []=>WO P l s Q (upd σ d ud) H
 |_=>False
def MC (P:Program) (g:FuncId) (az:List PV) (d:Option Nat) (l:List aI) (s:List Fm) (Q:Post) (σ:Nat->PV) (H:AH):Prop:=bg P g az H fun r H'=>WO P l s Q (upd σ d r) H'
def MV (P:Program) (v:PV) (az:List PV) (d:Option Nat) (l:List aI) (s:List Fm) (Q:Post) (σ:Nat->PV) (H:AH):Prop:=match v with
 | .fn (.func g) fs cs=>MC P g (fs++az++cs) d l s Q σ H
 |_=>False
theorem aut {a b:AC}:WS P (.seq a b) s Q σ H=WS P a (.seq b::s) Q σ H:=rfl
theorem amG {id:Nat} {a:AC}:WS P (.block id a) s Q σ H=WS P a (.block id::s) Q σ H:=rfl
theorem auu {l:List aI}:WS P (.ops l) s Q σ H=WO P l s Q σ H:=rfl
theorem asb {id:Nat}:WS P (.exit id) s Q σ H=WE P (.exit id) s Q σ H:=rfl
theorem auv:WS P .ret s Q σ H=WE P .ret s Q σ H:=rfl
theorem asc:WS P .skip s Q σ H=WE P .normal s Q σ H:=rfl
theorem ase {c:AE} {a b:AC}:WS P (.cond c a b) s Q σ H=WCd P (c.ev σ) a b s Q σ H:=by
 simp only [WS,W];cases c.ev σ with
 |bool t=>cases t<;>simp [WCd,WS]
 |_=>rfl
theorem aoH {f:AE} {p q:Nat} {a b:AC} {g id sz:Nat} {agg:Bool} {es:List (List PV)} {c:Ck} (hf:f.ev σ= .fn (.func g) [] [.ref id 0]) (he:Enters P g) (hb:VA P g sz agg) (h0:0<sz) (ho:H.obj id=some [.ah es c]) (hl:es.length<=1099511627776) (hs:MB sz es)
 (h:GU (fun Q' σ' H'=>W P a (JQ (fun rM gy=>W P b Q' rM gy)) σ' H') (EH P s Q) σ id [.ah es c] p q (es.map (Fp agg)) es.length H):WS P (.rf f p q a b) s Q σ H:=aEq hf he hb h0 ho hl hs h
theorem ab2 {K:(Nat->PV)->AH->Prop}:JQ K .normal σ H=K σ H:=rfl
theorem ab3 {X:AH->Prop}:ahB Q σ X .normal σ' H=X H:=rfl
theorem ahJ {X:AH->Prop} {i:Nat}:ahB Q σ X (.exit i) σ' H=Q (.exit i) σ H:=rfl
theorem aff {p:PV} {cs:List PV}:Fp false (p::cs)=p:=rfl
theorem amH {a b:AC}:WCd P (.bool true) a b s Q σ H=WS P a s Q σ H:=rfl
theorem aj2 {a b:AC}:WCd P (.bool false) a b s Q σ H=WS P b s Q σ H:=rfl
theorem auw {e:Ex}:WE P e [] Q σ H=Q e σ H:=rfl
theorem amI {b:AC}:WE P .normal (.seq b::s) Q σ H=WS P b s Q σ H:=rfl
theorem amJ {i:Nat} {b:AC}:WE P (.exit i) (.seq b::s) Q σ H=WE P (.exit i) s Q σ H:=rfl
theorem amK {b:AC}:WE P .ret (.seq b::s) Q σ H=WE P .ret s Q σ H:=rfl
theorem amL {l:List aI}:WE P .normal (.ops l::s) Q σ H=WO P l s Q σ H:=rfl
theorem ahK {i:Nat}:WE P .normal (.block i::s) Q σ H=WE P .normal s Q σ H:=rfl
theorem ahL {i:Nat}:WE P .ret (.block i::s) Q σ H=WE P .ret s Q σ H:=rfl
theorem ahM {i j:Nat}:WE P (.exit j) (.block i::s) Q σ H=if j=i then WE P .normal s Q σ H else WE P (.exit j) s Q σ H:=rfl
theorem asf {e:Ex} {f:Fm}:EH P (f::s) Q e σ H=WE P e (f::s) Q σ H:=rfl
theorem afg {l m:List aI}:dM P (l++m) K σ H=dM P l (fun σ' H'=>dM P m K σ' H') σ H:=by
 induction l generalizing σ H with
 |nil=>rfl
 |cons o l ih=>
  simp only [List.cons_append,dM];cases o.g with
  |none=>simp only [ih]
  |some sw=>
   obtain⟨s,want⟩:=sw;simp only [ih]
theorem auy:WO P [] s Q σ H=WE P .normal s Q σ H:=rfl
theorem aj3 {l m:List aI}:WO P (l++m) s Q σ H=WO P l (.ops m::s) Q σ H:=afg
theorem aEu {d:Option Nat} {k:RK} {l:List aI}:WO P (⟨d,.r k,none⟩::l) s Q σ H=WR P (rop k σ H) d l s Q σ H:=rfl
theorem asg {p:PV} {d:Option Nat} {l:List aI}:WR P (some p) d l s Q σ H=WO P l s Q (upd σ d p) H:=rfl
theorem ab4 {x y:List UInt8} {d:Option Nat} {l:List aI} (hb:x.length+y.length<=4611686018427387904) (h:WO P l s Q (upd σ d (.str (x++y))) H):WR P (Cj .add x y) d l s Q σ H:=by
 rw [Cj,if_pos hb];exact h
theorem ash {p:PV} {d:Option Nat} {l:List aI}:WD P (some (p,H)) d l s Q σ=WO P l s Q (upd σ d p) H:=rfl
theorem aEv {d:Option Nat} {k:AK} {t:Nat} {want:Bool} {l:List aI}:WO P (⟨d,k,some (t,want)⟩::l) s Q σ H=WG P (σ t) want d k l s Q σ H:=rfl
section
variable {d:Option Nat} {k:AK} {l:List aI} {want:Bool}
theorem aAa:WG P (.bool true) true d k l s Q σ H=WO P (⟨d,k,none⟩::l) s Q σ H:=rfl
theorem aAb:WG P (.bool false) false d k l s Q σ H=WO P (⟨d,k,none⟩::l) s Q σ H:=rfl
theorem aAc:WG P (.bool true) false d k l s Q σ H=WO P l s Q (upd σ d ud) H:=rfl
theorem aAd:WG P (.bool false) true d k l s Q σ H=WO P l s Q (upd σ d ud) H:=rfl
theorem aAe:WG P (.dn []) want d k l s Q σ H=WO P l s Q (upd σ d ud) H:=rfl
end
theorem amM {d:Option Nat} {z:List PV} {l:List aI}:WO P (⟨d,.d (.alloc z),none⟩::l) s Q σ H=WO P l s Q (upd σ d (.ref H.next 0)) (H.new z):=rfl
theorem auz {d:Option Nat} {n:Nat} {x:AE} {l:List aI}:WO P (⟨d,.d (.box n x),none⟩::l) s Q σ H=WD P (jo (.box n x) σ H) d l s Q σ:=rfl
theorem dO {d:Option Nat} {n:Nat} {x v:AE} {l:List aI}:WO P (⟨d,.d (.store n x v),none⟩::l) s Q σ H=WD P (jo (.store n x v) σ H) d l s Q σ:=rfl
theorem asi {d:Option Nat} {z:List PV} {ps:List (Nat×Nat×AE)} {l:List aI}:WO P (⟨d,.n (.OC z ps),none⟩::l) s Q σ H=WR P ((kJ σ z ps).map .agg) d l s Q σ H:=by
 show dM P _ _ σ H=_
 rw [II];simp only [nop];cases kJ σ z ps<;>rfl
def amN (P:Program):PV->Option Nat->List aI->List Fm->Post->(Nat->PV)->AH->Prop
 | .str x,d,l,s,Q,σ,H=>WO P l s Q (upd σ d (.ah ((uV x).map u8L) .unk)) H
 |_,_,_,_,_,_,_=>False
theorem auA {d:Option Nat} {x:AE} {l:List aI}:WO P (⟨d,.n (.Zq x),none⟩::l) s Q σ H=amN P (x.ev σ) d l s Q σ H:=by
 show dM P _ _ σ H=_
 rw [II,nop];cases x.ev σ with
 |str x=>
  simp only [amN,uV,List.map_map];rfl
 |_=>rfl
theorem amO {d:Option Nat} {x:List UInt8} {l:List aI}:amN P (.str x) d l s Q σ H=WO P l s Q (upd σ d (.ah ((uV x).map u8L) .unk)) H:=rfl
theorem asj {d:Option Nat} {g:FuncId} {fs cs:List PV} {az:List AE} {l:List aI}:WO P (⟨d,.call (.c (.fn (.func g) fs cs)) az,none⟩::l) s Q σ H=MC P g (fs++evs σ az++cs) d l s Q σ H:=rfl
theorem amP {d:Option Nat} {n:Nat} {az:List AE} {l:List aI}:WO P (⟨d,.call (.t n) az,none⟩::l) s Q σ H=MV P (σ n) (evs σ az) d l s Q σ H:=rfl
theorem aAf {g:FuncId} {fs cs az:List PV} {d:Option Nat} {l:List aI}:MV P (.fn (.func g) fs cs) az d l s Q σ H=MC P g (fs++az++cs) d l s Q σ H:=rfl
def jS (P:Program):List (aI×Bool)->((Nat->PV)->AH->Prop)->(Nat->PV)->AH->Prop
 |[],K,σ,H=>K σ H
 |(⟨d,.r k,none⟩,false)::l,K,σ,H=>match rop k σ H with
   |some p=>jS P l K (upd σ d p) H
   |none=>False
 |(⟨d,.call (.c (.fn (.func g) fs cs)) az,none⟩,false)::l,K,σ,H=>PC P g (fs++evs σ az++cs) fun p=>jS P l K (upd σ d p) H
 |(⟨d,.r k,some (s,want)⟩,false)::l,K,σ,H=>match σ s with
   | .bool t=>if t=want then(match rop k σ H with
    |some p=>jS P l K (upd σ d p) H
    |none=>False)else jS P l K (upd σ d ud) H
   | .dn []=>jS P l K (upd σ d ud) H
   |_=>False
 |(⟨d,.call (.c (.fn (.func g) fs cs)) az,some (s,want)⟩,false)::l,K,σ,H=>match σ s with
   | .bool t=>if t=want then PC P g (fs++evs σ az++cs) fun p=>jS P l K (upd σ d p) H else jS P l K (upd σ d ud) H
   | .dn []=>jS P l K (upd σ d ud) H
   |_=>False
 |_,_,_,_=>False
theorem asl {d:Option Nat} {k:RK} {l:List (aI×Bool)}:jS P ((⟨d,.r k,none⟩,false)::l) K σ H=(match rop k σ H with|some p=>jS P l K (upd σ d p) H|none=>False):=rfl
theorem VG {d:Option Nat} {g:FuncId} {fs cs:List PV} {az:List AE} {l:List (aI×Bool)}:
 jS P ((⟨d,.call (.c (.fn (.func g) fs cs)) az,none⟩,false)::l) K σ H=PC P g (fs++evs σ az++cs) fun p=>jS P l K (upd σ d p) H:=rfl
theorem amQ {d:Option Nat} {k:RK} {s:Nat} {want:Bool} {l:List (aI×Bool)}:jS P ((⟨d,.r k,some (s,want)⟩,false)::l) K σ H=
 (match σ s with| .bool t=>if t=want then(match rop k σ H with|some p=>jS P l K (upd σ d p) H|none=>False)else jS P l K (upd σ d ud) H| .dn []=>jS P l K (upd σ d ud) H|_=>False):=rfl
theorem Rb {d:Option Nat} {g:FuncId} {fs cs:List PV} {az:List AE} {s:Nat} {want:Bool} {l:List (aI×Bool)}:
 jS P ((⟨d,.call (.c (.fn (.func g) fs cs)) az,some (s,want)⟩,false)::l) K σ H=
 (match σ s with| .bool t=>if t=want then PC P g (fs++evs σ az++cs) fun p=>jS P l K (upd σ d p) H else jS P l K (upd σ d ud) H| .dn []=>jS P l K (upd σ d ud) H|_=>False):=rfl
theorem jH: ∀(l:List (aI×Bool)) (σ:Nat->PV),jS P l K σ H->jq P (·=H) l K σ H
 |[],σ,h=>h
 |(⟨d,.r k,none⟩,false)::l,σ,h=>by
   refine agq ?_;rw [asl]at h;cases hp:rop k σ H with
   |some p=>rw [hp]at h;exact jH l _ h
   |none=>rw [hp]at h;exact h.elim
 |(⟨d,.call (.c (.fn (.func g) fs cs)) az,none⟩,false)::l,σ,h=>by
   refine GV ?_;obtain⟨p,h1,h2⟩:=(VG (K:=K)▸h);exact⟨p,h1,jH l _ h2⟩
 |(⟨d,.r k,some (s,want)⟩,false)::l,σ,h=>by
   refine XH ?_;rw [amQ]at h;generalize σ s=v at h;cases v with
   |bool t=>
    simp only at h⊢;by_cases hw:t=want
    · rw [if_pos hw]at h⊢;refine agq ?_;cases hp:rop k σ H with
      |some p=>rw [hp]at h;exact jH l _ h
      |none=>rw [hp]at h;exact h.elim
    · rw [if_neg hw]at h⊢;exact jH l _ h
   |dn l'=>cases l' with
    |nil=>exact jH l _ h
    |cons=>exact h.elim
   |_=>exact h.elim
 |(⟨d,.call (.c (.fn (.func g) fs cs)) az,some (s,want)⟩,false)::l,σ,h=>by
   refine XH ?_;rw [Rb]at h;generalize σ s=v at h;cases v with
   |bool t=>
    simp only at h⊢;by_cases hw:t=want
    · rw [if_pos hw]at h⊢;refine GV ?_;obtain⟨p,h1,h2⟩:=h;exact⟨p,h1,jH l _ h2⟩
    · rw [if_neg hw]at h⊢;exact jH l _ h
   |dn l'=>cases l' with
    |nil=>exact jH l _ h
    |cons=>exact h.elim
   |_=>exact h.elim
 |(_,true)::_,_,h=>by simp [jS]at h
 |(⟨_,.d _,_⟩,false)::_,_,h=>by simp [jS]at h
 |(⟨_,.n _,_⟩,false)::_,_,h=>by simp [jS]at h
 |(⟨_,.bad,_⟩,false)::_,_,h=>by simp [jS]at h
 |(⟨_,.call (.t _) _,_⟩,false)::_,_,h=>by simp [jS]at h
 |(⟨_,.call (.c v) az,g⟩,false)::l,σ,h=>by
   cases v with
   |fn f fs cs=>
    cases f with
    |func n=>cases g with
     |none=>
      refine GV ?_;obtain⟨p,h1,h2⟩:=(VG (K:=K)▸h);exact⟨p,h1,jH l _ h2⟩
     |some sw=>
      obtain⟨s,want⟩:=sw;refine XH ?_;rw [Rb]at h;generalize σ s=v at h;cases v with
      |bool t=>
       simp only at h⊢;by_cases hw:t=want
       · rw [if_pos hw]at h⊢;refine GV ?_;obtain⟨p,h1,h2⟩:=h;exact⟨p,h1,jH l _ h2⟩
       · rw [if_neg hw]at h⊢;exact jH l _ h
      |dn l'=>cases l' with
       |nil=>exact jH l _ h
       |cons=>exact h.elim
      |_=>exact h.elim
    |_=>simp [jS]at h
   |_=>simp [jS]at h
def nY (P:Program) (m:Nat):List (aI×Bool)->((Nat->PV)->AH->Prop)->(Nat->PV)->AH->Prop
 |[],K,σ,H=>K σ H
 |(⟨d,.r (.load n a x),none⟩,false)::l,K,σ,H=>(match x.ev σ with| .ref id _=>id≠m|_=>True)/\match rop (.load n a x) σ H with
   |some p=>nY P m l K (upd σ d p) H
   |none=>False
 |(⟨d,.r k,none⟩,false)::l,K,σ,H=>match rop k σ H with
   |some p=>nY P m l K (upd σ d p) H
   |none=>False
 |(⟨d,.call (.c (.fn (.func g) fs cs)) az,none⟩,false)::l,K,σ,H=>PC P g (fs++evs σ az++cs) fun p=>nY P m l K (upd σ d p) H
 |(⟨d,.d (.store n x v),none⟩,true)::l,K,σ,H=>(match x.ev σ with| .ref id _=>id=m|_=>False)/\match jo (.store n x v) σ H with
   |some (p,H')=>nY P m l K (upd σ d p) H'
   |none=>False
 |(⟨d,.d (.alloc z),none⟩,true)::l,K,σ,H=>H.next=m/\nY P m l K (upd σ d (.ref H.next 0)) (H.new z)
 |_,_,_,_=>False
theorem asn {k:RK} (hk: ∀n a x,k≠ .load n a x) (H1 H2:AH):rop k σ H1=rop k σ H2:=by
 cases k<;>first|rfl|exact absurd rfl (hk _ _ _)
theorem uw {m:Nat} (H0:AH): ∀(l:List (aI×Bool)) (σ:Nat->PV) (H:AH),(∀i,i≠m->H.obj i=H0.obj i)->nY P m l K σ H->jq P (fun H'=> ∀i,i≠m->H'.obj i=H0.obj i) l K σ H
 |[],σ,H,hC,h=>h
 |(⟨d,.r k,none⟩,false)::l,σ,H,hC,h=>by
   by_cases hk: ∃n a x,k= .load n a x
   · obtain⟨n,a,x,rfl⟩:=hk;obtain⟨h1,h2⟩:=h;cases hp:rop (.load n a x) σ H with
     |none=>rw [hp]at h2;exact h2.elim
     |some p=>
      rw [hp]at h2;refine eu p (fun H' hC'=> ?_) (uw H0 l _ _ hC h2);rw [<-hp];simp only [rop];generalize x.ev σ=v at*;cases v<;>first|rfl|skip
      rename_i id o;simp only at h1;simp only [Cm];rw [hC' id h1,hC id h1]
   · have h':match rop k σ H with|some p=>nY P m l K (upd σ d p) H|none=>False:=by
      cases k<;>first|exact h|exact absurd ⟨_,_,_,rfl⟩ hk
     cases hp:rop k σ H with
     |none=>rw [hp]at h';exact h'.elim
     |some p=>
      rw [hp]at h';exact eu p (fun H' _=>by rw [<-hp];exact asn (fun n a x e=>hk ⟨n,a,x,e⟩) H' H) (uw H0 l _ _ hC h')
 |(⟨d,.call (.c (.fn (.func g) fs cs)) az,none⟩,false)::l,σ,H,hC,h=>by
   obtain⟨p,h1,h2⟩:=h;exact BJ p h1 (uw H0 l _ _ hC h2)
 |(⟨d,.d (.store n x v),none⟩,true)::l,σ,H,hC,h=>by
   obtain⟨h1,h2⟩:=h;cases hp:jo (.store n x v) σ H with
   |none=>rw [hp]at h2;exact h2.elim
   |some q=>
    obtain⟨p,H'⟩:=q;rw [hp]at h2;have hC': ∀i,i≠m->H'.obj i=H0.obj i:=by
     intro i hi;simp only [jo]at hp;generalize x.ev σ=u at*;cases u<;>try exact h1.elim
     rename_i id o;simp only at h1;subst h1;split at hp
     · rename_i id' o' vs e1 e2;cases e1;split at hp
       · split at hp
         · cases hp;show(if i=id then _ else H.obj i)=_;rw [if_neg hi];exact hC i hi
         · cases hp
       · cases hp
     · cases hp
    exact VE p H' hp hC' (uw H0 l _ _ hC' h2)
 |(⟨_,.r _,some _⟩,_)::_,_,_,_,h=>by simp [nY]at h
 |(⟨_,.r _,none⟩,true)::_,_,_,_,h=>by simp [nY]at h
 |(⟨_,.n _,_⟩,_)::_,_,_,_,h=>by simp [nY]at h
 |(⟨_,.bad,_⟩,_)::_,_,_,_,h=>by simp [nY]at h
 |(⟨_,.d _,_⟩,false)::_,_,_,_,h=>by simp [nY]at h
 |(⟨_,.d _,some _⟩,true)::_,_,_,_,h=>by simp [nY]at h
 |(⟨d,.d (.alloc z),none⟩,true)::l,σ,H,hC,h=>by
   obtain⟨h1,h2⟩:=h;have hC': ∀i,i≠m->(H.new z).obj i=H0.obj i:=by
    intro i hi;show(if i=H.next then _ else H.obj i)=_;rw [if_neg (by rw [h1];exact hi)];exact hC i hi
   exact VE (.ref H.next 0) (H.new z) rfl hC' (uw H0 l _ _ hC' h2)
 |(⟨_,.d (.box _ _),none⟩,true)::_,_,_,_,h=>by simp [nY]at h
 |(⟨_,.d (.app _ _ _ _),none⟩,true)::_,_,_,_,h=>by simp [nY]at h
 |(⟨_,.d (.yg _ _ _ _ _),none⟩,true)::_,_,_,_,h=>by simp [nY]at h
 |(⟨_,.call _ _,some _⟩,_)::_,_,_,_,h=>by simp [nY]at h
 |(⟨_,.call _ _,none⟩,true)::_,_,_,_,h=>by simp [nY]at h
 |(⟨_,.call (.t _) _,none⟩,false)::_,_,_,_,h=>by simp [nY]at h
 |(⟨d,.call (.c v) az,none⟩,false)::l,σ,H,hC,h=>by
   cases v with
   |fn f fs cs=>
    cases f with
    |func n=>
     obtain⟨p,h1,h2⟩:=h;exact BJ p h1 (uw H0 l _ _ hC h2)
    |_=>simp [nY]at h
   |_=>simp [nY]at h
def FU (P:Program) (pr:List (aI×Bool)) (post:List aI) (s:List Fm) (Q:Post) (σ:Nat->PV) (H:AH):Prop:=jS P pr (fun σ' H'=>WO P post s Q σ' H') σ H
def WPR (P:Program) (o:Option PV) (d:Option Nat) (l:List (aI×Bool)) (post:List aI) (s:List Fm) (Q:Post) (σ:Nat->PV) (H:AH):Prop:=match o with
 |some p=>FU P l post s Q (upd σ d p) H
 |none=>False
def WPG (P:Program) (v:PV) (want:Bool) (d:Option Nat) (k:AK) (l:List (aI×Bool)) (post:List aI) (s:List Fm) (Q:Post) (σ:Nat->PV) (H:AH):Prop:=match v with
 | .bool b=>if b=want then FU P ((⟨d,k,none⟩,false)::l) post s Q σ H else FU P l post s Q (upd σ d ud) H
 | .dn []=>FU P l post s Q (upd σ d ud) H
 |_=>False
def PCs (P:Program) (g:FuncId) (az:List PV) (d:Option Nat) (l:List (aI×Bool)) (post:List aI) (s:List Fm) (Q:Post) (σ:Nat->PV) (H:AH):Prop:=PC P g az fun p=>FU P l post s Q (upd σ d p) H
def GD (P:Program) (m:Nat) (pr:List (aI×Bool)) (post:List aI) (s:List Fm) (Q:Post) (σ:Nat->PV) (H:AH):Prop:=nY P m pr (fun σ' H'=>WO P post s Q σ' H') σ H
def WTR (P:Program) (m:Nat) (o:Option PV) (d:Option Nat) (l:List (aI×Bool)) (post:List aI) (s:List Fm) (Q:Post) (σ:Nat->PV) (H:AH):Prop:=match o with
 |some p=>GD P m l post s Q (upd σ d p) H
 |none=>False
def WTD (P:Program) (m:Nat) (o:Option (PV×AH)) (d:Option Nat) (l:List (aI×Bool)) (post:List aI) (s:List Fm) (Q:Post) (σ:Nat->PV):Prop:=match o with
 |some (p,H)=>GD P m l post s Q (upd σ d p) H
 |none=>False
def noM (m:Nat):PV->Prop
 | .ref id _=>(id=m)=False
 |_=>True
def isM (m:Nat):PV->Prop
 | .ref id _=>id=m
 |_=>False
def PCt (P:Program) (m:Nat) (g:FuncId) (az:List PV) (d:Option Nat) (l:List (aI×Bool)) (post:List aI) (s:List Fm) (Q:Post) (σ:Nat->PV) (H:AH):Prop:=PC P g az fun p=>GD P m l post s Q (upd σ d p) H
theorem agv {pr:List (aI×Bool)} {post:List aI} (m:Nat) (h:GD P m pr post s Q σ H):WS P (.par pr post) s Q σ H:=⟨_,fun _ _=>rfl,uw H _ _ _ (fun _ _=>rfl) h⟩
section
variable {m:Nat} {d:Option Nat} {l:List (aI×Bool)} {post:List aI}
theorem aso:GD P m [] post s Q σ H=WO P post s Q σ H:=rfl
theorem amR {p:PV}:WTR P m (some p) d l post s Q σ H=GD P m l post s Q (upd σ d p) H:=rfl
theorem amS {p:PV}:WTD P m (some (p,H)) d l post s Q σ=GD P m l post s Q (upd σ d p) H:=rfl
theorem amT {n:Nat} {a:Bool} {x:AE}:GD P m ((⟨d,.r (.load n a x),none⟩,false)::l) post s Q σ H=(noM m (x.ev σ)/\WTR P m (rop (.load n a x) σ H) d l post s Q σ H):=by
 show(_/\_)=_
 congr 1
 cases x.ev σ<;>simp [noM]
theorem asq {o:Nat} {x:AE}:GD P m ((⟨d,.r (.Vl o x),none⟩,false)::l) post s Q σ H=WTR P m (rop (.Vl o x) σ H) d l post s Q σ H:=rfl
theorem asr {x:AE}:GD P m ((⟨d,.r (.len x),none⟩,false)::l) post s Q σ H=WTR P m (rop (.len x) σ H) d l post s Q σ H:=rfl
theorem amU {n z:Nat} {x i:AE}:GD P m ((⟨d,.r (.Iq n z x i),none⟩,false)::l) post s Q σ H=WTR P m (rop (.Iq n z x i) σ H) d l post s Q σ H:=rfl
theorem aj4 {z:List PV}:GD P m ((⟨d,.d (.alloc z),none⟩,true)::l) post s Q σ H=(H.next=m/\GD P m l post s Q (upd σ d (.ref H.next 0)) (H.new z)):=rfl
theorem aj5 {n:Nat} {x v:AE}:GD P m ((⟨d,.d (.store n x v),none⟩,true)::l) post s Q σ H=(isM m (x.ev σ)/\WTD P m (jo (.store n x v) σ H) d l post s Q σ):=rfl
theorem amV {g:FuncId} {fs cs:List PV} {az:List AE}:GD P m ((⟨d,.call (.c (.fn (.func g) fs cs)) az,none⟩,false)::l) post s Q σ H=PCt P m g (fs++evs σ az++cs) d l post s Q σ H:=rfl
theorem asu {id o:Nat}:noM m (.ref id o)=((id=m)=False):=rfl
theorem asv {id o:Nat}:isM m (.ref id o)=(id=m):=rfl
end
theorem jI {pr:List (aI×Bool)} {post:List aI} (h:FU P pr post s Q σ H):WS P (.par pr post) s Q σ H:=auq (jH _ _ h)
section
variable {d:Option Nat} {l:List (aI×Bool)} {post:List aI} {want:Bool} {k:AK}
theorem asw:FU P [] post s Q σ H=WO P post s Q σ H:=rfl
theorem aAg {k:RK}:FU P ((⟨d,.r k,none⟩,false)::l) post s Q σ H=WPR P (rop k σ H) d l post s Q σ H:=rfl
theorem amW {p:PV}:WPR P (some p) d l post s Q σ H=FU P l post s Q (upd σ d p) H:=rfl
theorem amX {g:FuncId} {fs cs:List PV} {az:List AE}:FU P ((⟨d,.call (.c (.fn (.func g) fs cs)) az,none⟩,false)::l) post s Q σ H=PCs P g (fs++evs σ az++cs) d l post s Q σ H:=rfl
theorem auC {k:RK} {t:Nat}:FU P ((⟨d,.r k,some (t,want)⟩,false)::l) post s Q σ H=WPG P (σ t) want d (.r k) l post s Q σ H:=rfl
theorem aj6 {g:FuncId} {fs cs:List PV} {az:List AE} {t:Nat}:FU P ((⟨d,.call (.c (.fn (.func g) fs cs)) az,some (t,want)⟩,false)::l) post s Q σ H=WPG P (σ t) want d (.call (.c (.fn (.func g) fs cs)) az) l post s Q σ H:=rfl
theorem auD:WPG P (.bool true) true d k l post s Q σ H=FU P ((⟨d,k,none⟩,false)::l) post s Q σ H:=rfl
theorem auE:WPG P (.bool false) false d k l post s Q σ H=FU P ((⟨d,k,none⟩,false)::l) post s Q σ H:=rfl
theorem auF:WPG P (.bool true) false d k l post s Q σ H=FU P l post s Q (upd σ d ud) H:=rfl
theorem auG:WPG P (.bool false) true d k l post s Q σ H=FU P l post s Q (upd σ d ud) H:=rfl
end
def bf (H:AH):Ck->Prop
 | .unk=>False
 | .tok t=>H.live t=true/\t<H.next
 |_=>True
def lI (c d:Ck):Prop:= ∀t,c= .tok t->d≠ .tok t
theorem bf.nil:bf H .nil:=trivial
theorem bf.exact:bf H .exact:=trivial
theorem bf.new {c:Ck} {cs:List PV} (h:bf H c):bf (H.new cs) c:=by
 cases c with
 |tok t=>exact⟨h.1,Nat.lt_succ_of_lt h.2⟩
 |unk=>exact h
 |nil=>trivial
 |exact=>trivial
theorem bf.put {c:Ck} {id:Nat} {cs:List PV} (h:bf H c):bf (H.put id cs) c:=by
 cases c with
 |tok t=>exact h
 |unk=>exact h
 |nil=>trivial
 |exact=>trivial
theorem lI.nil {c:Ck}:lI .nil c:=fun _ h=>by cases h
theorem lI.exact {c:Ck}:lI .exact c:=fun _ h=>by cases h
theorem lI.symm {c d:Ck} (h:lI c d):lI d c:=fun t h1 h2=>h t h2 h1
def jY (sz:Nat) (cs:List PV):Prop:=cs.length=sz/\ ∀c∈cs,c.one=true
theorem qC {α:Type} {sz:Nat} {f:α->List PV} (hf: ∀x,jY sz (f x)) (l:List α):qR sz (l.map f):=by
 intro cs h;obtain⟨x,_,rfl⟩:=List.mem_map.1 h;exact hf x
theorem gW {α:Type} {d:Option Nat} {sz b:Nat} {x y:AE} {l:List aI} {f:α->List PV} (hf: ∀x,jY sz (f x)) (xs ys:List α) (c c2:Ck)
 (hx:x.ev σ= .ah (xs.map f) c) (hy:K6 (y.ev σ)= .ah (ys.map f) c2) (hok:bf H c) (hb:(xs.length+ys.length)*b<=1099511627776)
 (h: ∀(c':Ck) (H':AH),bf H' c'->H.next<=H'.next->(∀i,H'.obj i=H.obj i)->(∀c3,bf H c3->lI c c3->bf H' c3/\lI c' c3)->WO P l s Q (upd σ d (.ah ((xs++ys).map f) c')) H'):
 WO P (⟨d,.d (.app sz b x y),none⟩::l) s Q σ H:=by
 show dM P _ _ σ H
 simp only [ajX,jo,hx,hy,ME];by_cases h0:ys=[]
 · subst h0;simp only [List.map_nil,List.length_nil,↓reduceIte];have:=h c H hok (Nat.le_refl _) (fun _=>rfl) (fun c3 h1 h2=>⟨h1,h2⟩);show WO P l s Q _ H;simpa using this
 · have h1: ¬((ys.map f).length=0):=by simpa using h0
   rw [if_neg h1,if_pos ⟨qC hf xs,qC hf ys,by simpa using hb⟩,<-List.map_append];have fresh: ∀H1:AH,H1.next=H.next->(∀i,H1.obj i=H.obj i)->(∀t,c≠ .tok t->H.live t=true->H1.live t=true)->WO P l s Q (upd σ d (.ah ((xs++ys).map f) (.tok H.next))) H1.tok:=by
    intro H1 e1 e2 e3;refine h (.tok H.next) H1.tok ⟨?_,?_⟩ ?_ (fun i=>e2 i) (fun c3 k1 k2=> ?_)
    · show(if H.next=H1.next then true else H1.live H.next)=true
      rw [if_pos e1.symm]
    · show H.next<H1.next+1
      omega
    · show H.next<=H1.next+1
      omega
    · cases c3 with
      |tok t=>
       refine⟨⟨?_,?_⟩,fun t' h1' h2'=> ?_⟩
       · show(if t=H1.next then true else H1.live t)=true
         split
         · rfl
         · exact e3 t (fun e=>k2 t e rfl) k1.1
       · show t<H1.next+1
         have:=k1.2;omega
       · cases h1';cases h2';exact absurd k1.2 (Nat.lt_irrefl _)
      |unk=>exact k1.elim
      |nil=>exact⟨trivial,fun t h1' h2'=>by cases h2'⟩
      |exact=>exact⟨trivial,fun t h1' h2'=>by cases h2'⟩
   cases c with
   |unk=>exact hok.elim
   |nil=>exact fresh H rfl (fun _=>rfl) (fun _ _ h=>h)
   |exact=>exact fresh H rfl (fun _=>rfl) (fun _ _ h=>h)
   |tok t=>
    simp only [hok.1,↓reduceIte];refine fresh (H.use t) rfl (fun _=>rfl) (fun t' hne hl=> ?_);show(if t'=t then false else H.live t')=true;rw [if_neg (fun e=>hne (by rw [e])),hl]
theorem bg.wk {f:FuncId} {args args':List PV} {k:PV->AH->Prop} (h:bg P f args H k) (hw:Lw args' args):bg P f args' H k:=by
 obtain⟨h1,h2⟩:=hw.get;refine⟨h.enters,fun B G w vs hU hM hv=>h.call B G w vs hU hM ⟨hv.1.trans h1,fun j c x hc hx=> ?_⟩⟩;obtain⟨p,e,hp⟩:=h2 j c hc;exact hp _ _ _ (hv.2 j p x e hx)
theorem FV {f:FuncId} {args args':List PV} {r:PV} {k:PV->AH->Prop} (h:aD P f args' r) (hz:Ld H args args') (ha:dA args') (hr:Sc r) (hk:k r H):bg P f args H k:=
 (aD.frozen hz.get ha.mem h hr).mono fun _ _ ⟨h1,h2⟩=>by subst h1;subst h2;exact hk
theorem aD.wk {f:FuncId} {args args':List PV} {r:PV} (h:aD P f args r) (hw:Lw args' args):aD P f args' r:=fun H=>(h H).wk hw
end
theorem aj7 (es:List (List PV)) (c:Ck):zA (.ah es c)=some (.int .i64 es.length):=rfl
theorem aj8 (a b c d e:Nat):zA (.bO a b c d e)=some (.int .i64 c):=rfl
theorem aj9 (sz:Nat) (es:List (List PV)) (c:Ck) (k:IntKind) (n:Int):jR sz (.ah es c) (.int k n)=if 0<=n then(match es[n.toNat]? with
 |some cs=>if cs.length=sz then some (.bY cs 0)else none
 |none=>none)else none:=rfl
theorem ahN (a b:List UInt8):Cj .eql a b=some (.bool (a==b)):=rfl
theorem ahO (a b:List UInt8):Cj .neq a b=some (.bool (!(a==b))):=rfl
theorem ahP (a b:List UInt8):Cj .lss a b=some (.bool (strLt a b)):=rfl
theorem auH (k:IntKind) (x:Int):wk (.int k x)= .int k x:=rfl
theorem asx (b:Bool):wk (.bool b)= .bool b:=rfl
theorem auI (s:List UInt8):wk (.str s)= .str s:=rfl
theorem auJ (es:List (List PV)) (c:Ck):wk (.ah es c)= .ah es .unk:=rfl
theorem asy (c:Ck):K6 (.ah [] c)= .ah [] c:=rfl
theorem amY (cs:List PV) (es:List (List PV)) (c:Ck):K6 (.ah (cs::es) c)= .ah (cs.map wk::es.map fun cs=>cs.map wk) c:=rfl
attribute [go_sem] aut amG auu asb auv asc ase amH aj2 auw amI amJ amK amL ahK ahL ahM asf
attribute [go_sem] auy aj3 aEu asg ash aEv aAa aAb aAc aAd aAe amM auz asi auA amO asj amP aAf
attribute [go_sem] aso amR amS amT asq asr amU aj4 aj5 amV asu asv
attribute [go_sem] aj7 aj8 aj9 ahN ahO ahP
attribute [go_sem] ab2 ab3 ahJ aff
attribute [go_sem] asw aAg amW amX auC aj6 auD auE auF auG
attribute [go_sem] auH asx auI auJ asy amY asa aur aus amF ar8 ar9 ajZ List.map_cons List.map_nil
end Go.VL
end
section
namespace Go.VL
theorem wX {α:Type} {b:Bool} {x y:α} (h:b=true):cond b x y=x:=by rw [h];rfl
theorem pI {α:Type} {b:Bool} {x y:α} (h:b=false):cond b x y=y:=by rw [h];rfl
theorem Cz {α β:Type} {x:Option α} {f:α->Option β} (h:x=none):Option.bind x f=none:=by rw [h];rfl
theorem CB {α β:Type} {x:Option α} {f:α->Option β} {a:α} (h:x=some a):Option.bind x f=f a:=by rw [h];rfl
theorem dZ {α β γ:Type} {f:α->γ} {g:β->γ} {a:α}:Sum.elim f g (.inl a)=f a:=rfl
theorem eT {α β γ:Type} {f:α->γ} {g:β->γ} {a:β}:Sum.elim f g (.inr a)=g a:=rfl
def Fr (L:List Nat) (σ σ':Nat->PV):Prop:= ∀t,t∉L->σ' t=σ t
theorem Fr.refl (L:List Nat) (σ:Nat->PV):Fr L σ σ:=fun _ _=>rfl
theorem Fr.upd {L:List Nat} {σ σ':Nat->PV} {d:Nat} {v:PV} (hd:d∈L) (h:Fr L σ σ'):Fr L σ (upd σ' (some d) v):=fun t ht=>by
 have: ¬t=d:=fun e=>ht (e▸hd);show(if t=d then v else σ' t)=σ t;rw [if_neg this];exact h t ht
theorem Fr.via {L L':List Nat} {σ σ' rM:Nat->PV} (h':Fr L' σ' rM) (hL: ∀t∈L',t∈L) (h:Fr L σ σ'):Fr L σ rM:=fun t ht=>(h' t fun e=>ht (hL t e)).trans (h t ht)
def dx {α:Type} (f:α->List PV) (l:List α):List PV:=[.ah (l.map f) .unk]
theorem asz (s:Str):aF s=[.str s]:=rfl
theorem asA (n:Int):aK n=[.int .i64 n]:=rfl
theorem auK (n:Int):u8L n=[.int .u8 n]:=rfl
theorem auL {α:Type} (f:α->List PV) (l:List α):dx f l=[.ah (l.map f) .unk]:=rfl
theorem gJ (s:Str): ∀c∈aF s,Pu c:=dA.mem (.cons (.str _) .nil)
theorem cZ (n:Int): ∀c∈aK n,Pu c:=dA.mem (.cons (.int _ _) .nil)
theorem fA {α:Type} {f:α->List PV} (hf: ∀x,∀c∈f x,Pu c) (l:List α): ∀c∈dx f l,Pu c:=dA.mem (.cons (bE hf l) .nil)
theorem row_of {sz:Nat} {l:List PV} (h:l.length=sz) (h':l.all PV.one=true):jY sz l:=⟨h,fun c hc=>List.all_eq_true.1 h' c hc⟩
theorem lC (s:Str):jY 1 (aF s):=row_of rfl rfl
theorem sK (n:Int):jY 1 (aK n):=row_of rfl rfl
theorem Le {α:Type} {f:α->List PV} (l:List α):jY 1 (dx f l):=row_of rfl rfl
instance:ni aF 1:=⟨fun _=>rfl,fun _=>rfl⟩
instance:ni aK 1:=⟨fun _=>rfl,fun _=>rfl⟩
instance {α:Type} (f:α->List PV):ni (dx f) 1:=⟨fun _=>rfl,fun _=>rfl⟩
instance:ni Nd.cells 5:=⟨fun _=>rfl,fun _=>rfl⟩
theorem amZ (n k:Nat):(n=n+k)=(k=0):=propext ⟨fun h=>by omega,fun h=>by omega⟩
theorem add_add (n j k:Nat):(n+j=n+k)=(j=k):=propext ⟨fun h=>by omega,fun h=>by omega⟩
theorem Nd.pu (x:Nd): ∀c∈x.cells,Pu c:=dA.mem (.cons (.int _ _) (.cons (.int _ _) (.cons (.str _) (.cons (bE gJ _) (.cons (bE cZ _) .nil)))))
theorem Nd.row (x:Nd):jY 5 x.cells:=row_of rfl rfl
theorem Nd.jP (x:Nd):x.cells=[.int .i64 x.kind,.int .i64 x.n,.str x.text,.ah (x.names.map aF) .unk,.ah (x.args.map aK) .unk]:=rfl
attribute [go_sem] Int.natCast_nonneg Nat.mul_one Nat.zero_le amZ add_add Nat.add_assoc asz asA auK auL Nd.jP
attribute [go_sem] Bool.not_true Bool.not_false Bool.true_eq_false Bool.false_eq_true true_implies false_implies and_true true_and implies_true if_true if_false ne_eq not_true_eq_false not_false_eq_true Int.cast_ofNat_Int Int.toNat_natCast beq_self_eq_true decide_true decide_false List.append_assoc
end Go.VL
namespace Go.VL
def HF (M:List Nat) (H H':AH):Prop:=H.next<=H'.next/\ ∀i,i<H.next->i∉M->H'.obj i=H.obj i
section
variable {M M':List Nat} {H H' gy:AH}
theorem HF.refl (M:List Nat) (H:AH):HF M H H:=⟨Nat.le_refl _,fun _ _ _=>rfl⟩
theorem HF.new {cs:List PV} (h:HF M H H'):HF M H (H'.new cs):=⟨Nat.le_succ_of_le h.1,fun i hi hm=>by
 show(if i=H'.next then some cs else H'.obj i)=_
 have:i<H'.next:=Nat.lt_of_lt_of_le hi h.1;rw [if_neg (by omega)];exact h.2 i hi hm⟩
theorem HF.put {id:Nat} {cs:List PV} (hid:id∈M\/H.next<=id) (h:HF M H H'):HF M H (H'.put id cs):=⟨h.1,fun i hi hm=>by
 show(if i=id then some cs else H'.obj i)=_
 have: ¬i=id:=fun e=>by
  subst e;rcases hid with hid|hid
  · exact hm hid
  · omega
 rw [if_neg this];exact h.2 i hi hm⟩
theorem HF.via (h':HF M' H' gy) (hM: ∀i∈M',i∈M\/H.next<=i) (h:HF M H H'):HF M H gy:=⟨Nat.le_trans h.1 h'.1,fun i hi hm=>by
 rw [h'.2 i (Nat.lt_of_lt_of_le hi h.1) (fun e=>by
  rcases hM i e with q|q
  · exact hm q
  · omega)]
 exact h.2 i hi hm⟩
end
theorem ne_next {o n:Nat} (h:o<n):(o=n)=False:=eq_false (by omega)
theorem aO {o n:Nat} (h:o<n) (j:Nat):(o=n+j)=False:=eq_false (by omega)
end Go.VL
end
section
namespace Go.VL
structure Sq where
 hyps:List (List Nd)
 goal:List Nd
deriving DecidableEq
def Sq.cells (x:Sq):List PV:=[(.ah (x.hyps.map (dx Nd.cells)) .unk),(.ah (x.goal.map Nd.cells) .unk)]
theorem Sq.jP (x:Sq):x.cells=[(.ah (x.hyps.map (dx Nd.cells)) .unk),(.ah (x.goal.map Nd.cells) .unk)]:=rfl
theorem Sq.pu (x:Sq): ∀c∈x.cells,Pu c:=dA.mem (.cons (bE (fA Nd.pu) _) (.cons (bE Nd.pu _) .nil))
attribute [go_sem] Sq.jP
end Go.VL
end
section
namespace Go.VL
open Go.RowKit
theorem Dec.args {P:Program} {t:TypeId} {R:List PV->Prop} (h:Dec P t R) {H:Type} {enc:TypeId×Value->H} {w:World} {v:Value} {d:DataW H} {ps:List MemPlace} (ht:DataW.Trod enc P w 0 (fun _=>true) true t v d ps): ∃q,R q/\IJ w q v.cells.toList:=by
 obtain⟨fuel,hf⟩:=ht;obtain⟨ps,h1,h2,_⟩:=h H enc w fuel _ _ hf;exact⟨ps,h2,h1⟩
theorem Zx {α:Type} {f:α->List PV}: ∀(es:List (List PV)),(∀cs∈es,∃x,cs=f x)-> ∃xs:List α,es=xs.map f
 |[],_=>⟨[],rfl⟩
 |cs::es,h=>by
  obtain⟨x,hx⟩:=h cs (List.mem_cons_self ..);obtain⟨xs,hxs⟩:=Zx es fun c hc=>h c (List.mem_cons_of_mem _ hc);exact⟨x::xs,by rw [hx,hxs];rfl⟩
theorem Dec.list {P:Program} {t e:TypeId} {α:Type} {f:α->List PV} (ht:P.underlying t=some (.slice e)) (hc:decide (0<P.cellsOf e)=true) (he:Dec P e fun l=> ∃x:α,l=f x):Dec P t fun l=> ∃xs:List α,l=dx f xs:=
 (Dec.slice ht (of_decide_eq_true hc) he).mono fun l ⟨es,h1,_,h2⟩=>by
  obtain⟨xs,hxs⟩:=Zx es fun cs hcs=>(h2 cs hcs).2;exact⟨xs,by rw [h1,hxs];rfl⟩
end Go.VL
end
section
namespace Go.Proofs.YtpkbfdgohkakaaaGreatDoor.kernelFollows
open Go.ChangeShapes Go.WideShapes Go.ChangeAt Go.RowKit Go.VL
set_option maxRecDepth 100000
theorem am0:Dec Tryz.prog 3 fun l=> ∃x:Int,l=aK x:=
 (Dec.int Tryz.underlying3).mono fun l ⟨n,e,_⟩=>⟨n,e⟩
theorem auM:Dec Tryz.prog 9 fun l=> ∃x:Str,l=aF x:=
 (Dec.string Tryz.underlying9).mono fun l ⟨n,e,_⟩=>⟨n,e⟩
theorem aAh:Dec Tryz.prog 68 fun l=> ∃x:List Str,l=(dx aF) x:=
 Dec.list Tryz.underlying68 (by kernel_rfl) auM
theorem aoI:Dec Tryz.prog 44 fun l=> ∃x:List Int,l=(dx aK) x:=
 Dec.list Tryz.underlying44 (by kernel_rfl) am0
theorem aAi:Dec Tryz.prog 89 fun l=> ∃x:Nd,l=Nd.cells x:=by
 refine(Dec.struct (Rs:=[_,_,_,_,_]) Tryz.underlying89 (by kernel_rfl) ⟨rfl,am0,by kernel_rfl,am0,by kernel_rfl,auM,by kernel_rfl,aAh,by kernel_rfl,aoI,trivial⟩).mono ?_;rintro l ⟨l0,r0,rfl,-,⟨x0,rfl⟩,l1,r1,rfl,-,⟨x1,rfl⟩,l2,r2,rfl,-,⟨x2,rfl⟩,l3,r3,rfl,-,⟨x3,rfl⟩,l4,r4,rfl,-,⟨x4,rfl⟩,rfl⟩;exact⟨⟨x0,x1,x2,x3,x4⟩,by simp [Nd.jP,dx,aK,aF]⟩
theorem aoJ:Dec Tryz.prog 24 fun l=> ∃x:List Nd,l=(dx Nd.cells) x:=
 Dec.list Tryz.underlying24 (by kernel_rfl) aAi
theorem aAj:Dec Tryz.prog 22 fun l=> ∃x:List (List Nd),l=(dx (dx Nd.cells)) x:=
 Dec.list Tryz.underlying22 (by kernel_rfl) aoJ
theorem contract (MK: ∀(x0:List (List Nd)) (x1:List Int) (x2:List Nd),bg Tryz.prog 5 [(.ah (x0.map (dx Nd.cells)) .unk),(.ah (x1.map aK) .unk),(.ah (x2.map Nd.cells) .unk)] AH.empty fun v _=>v= .bool true) (H:Type) (enc:TypeId×Value->H) (W:World) (base:Nat) (args:Array Value) (ds gs:List (DataW H)) (before:List MemPlace)
 (hval: ∀(j:Nat) t v,Tryz.f5.params[j]? =some t->args[j]? =some v->Value.okWide Tryz.prog W .any base t v)
 (hW:DataW.Whole enc Tryz.prog Tryz.f5.params.toList Rows.kernelFollowsSpec.vars false W args.toList ds gs before) (hL:laidMetH Tryz.prog EG W):
 Calls Tryz.prog 5 args W fun e W'=> ∃v,e= .returned v/\Rows.kernelFollowsSpec.post enc Tryz.prog Tryz.f5 false true false false W args v W':=by
 have hW':=hW;obtain⟨p,q,hA0,hV,rfl,hfz,hnd⟩:=hW;have hA:DataW.TrodAll enc Tryz.prog W 0 (fun _=>true) true Tryz.f5.params.toList args.toList ds p:=hA0;rw [Tryz.params5]at hA hval;obtain⟨v0,vs0,d0,ds0,p0,q0,aHC,rfl,rfl,h0,r0⟩:=trodAll_cons hA;obtain⟨v1,vs1,d1,ds1,p1,q1,auN,rfl,rfl,h1,r1⟩:=trodAll_cons r0;obtain⟨v2,vs2,d2,ds2,p2,q2,auO,rfl,rfl,h2,r2⟩:=trodAll_cons r1;obtain⟨rfl,rfl,rfl⟩:=trodAll_nil r2;subst auN;subst auO;obtain rfl:args=#[v0,v1,v2]:=by cases args;simp_all
 obtain⟨rfl,rfl⟩:=trodVars_none hV;obtain⟨auP,auQ,auR,rfl⟩:=okWide_slice Tryz.underlying22 (hval 0 22 v0 rfl rfl);obtain⟨auS,auT,auU,rfl⟩:=okWide_slice Tryz.underlying44 (hval 1 44 v1 rfl rfl);obtain⟨auV,auW,auX,rfl⟩:=okWide_slice Tryz.underlying24 (hval 2 24 v2 rfl rfl);obtain⟨q0,⟨x0,rfl⟩,hq0⟩:=aAj.args h0;obtain⟨q1,⟨x1,rfl⟩,hq1⟩:=aoI.args h1;obtain⟨q2,⟨x2,rfl⟩,hq2⟩:=aoJ.args h2;clear hA0;simp only [List.append_nil]at hW';have aEw: ∀x∈p0,x.block<W.heap.size:=fun x hx=>hW'.lt x (by simp [hx]);have hlt1: ∀x∈p1,x.block<W.heap.size:=fun x hx=>hW'.lt x (by simp [hx]);have hlt2: ∀x∈p2,x.block<W.heap.size:=fun x hx=>hW'.lt x (by simp [hx]);have hvs:IJ W [(.ah (x0.map (dx Nd.cells)) .unk),(.ah (x1.map aK) .unk),(.ah (x2.map Nd.cells) .unk)] [.slice auP auQ auR,.slice auS auT auU,.slice auV auW auX]:=by
  refine⟨rfl,fun j c x hc hx=> ?_⟩
  match j,hc,hx with
  |0,hc,hx=>exact hq0.2 0 c x hc hx
  |1,hc,hx=>exact hq1.2 0 c x hc hx
  |2,hc,hx=>exact hq2.2 0 c x hc hx
 refine((MK x0 x1 x2).top (ar2 hL) (ar1 hL) hvs).mono fun e W' ⟨he,hb⟩=> ?_;subst he;refine⟨_,rfl,[d0,d1,d2],[],(p0++(p1++p2)),[],(p0++(p1++p2)),[],hW',trodAll_cons_mk (shut_bool Tryz.underlying4 _) trodAll_mk0,?_,rfl,hb.frame _,fun h=>by cases h⟩;have:=trodAll_cons_mk (stays (by kernel_rfl) (of_decide_eq_true (by kernel_rfl)) h0 hb aEw) (trodAll_cons_mk (stays (by kernel_rfl) (of_decide_eq_true (by kernel_rfl)) h1 hb hlt1) (trodAll_cons_mk (stays (by kernel_rfl) (of_decide_eq_true (by kernel_rfl)) h2 hb hlt2) (trodAll_mk0 (P:=Tryz.prog) (enc:=enc) (w:=W'))));have aAk:DataW.TrodAll enc Tryz.prog W' 0 (fun b=>decide (b<W.heap.size)) true [22,44,24] [.slice auP auQ auR,.slice auS auT auU,.slice auV auW auX] [d0,d1,d2] (p0++(p1++p2)):=by simpa using this
 exact aAk
theorem reads (os:Os) {H:Type} (enc:TypeId×Value->H): ∃places,DataW.whole enc Tryz.prog ((OX os).forCall (fun _ _=>0) ⟨#[],#[.slice none 0 0,.slice none 0 0,.slice none 0 0],[]⟩).memory Tryz.f5.params.toList Rows.kernelFollowsSpec.vars false (#[.slice none 0 0,.slice none 0 0,.slice none 0 0]:Array Value).toList 8=some ([.nil,.nil,.nil],[],places):=
 ⟨[],by kernel_rfl⟩
theorem lifted (MK: ∀(x0:List (List Nd)) (x1:List Int) (x2:List Nd),bg Tryz.prog 5 [(.ah (x0.map (dx Nd.cells)) .unk),(.ah (x1.map aK) .unk),(.ah (x2.map Nd.cells) .unk)] AH.empty fun v _=>v= .bool true) (os:Os) (started:os.Started) (H:Type) (enc:TypeId×Value->H) (F:Stop.Interp):
 ReturnsInHanded {} Tryz.checked os 5 .any ((OpenSpec.ofChange Rows.kernelFollowsSpec).preRow enc Tryz.prog Tryz.f5 Rows.kernelFollowsRow.domain false Rows.kernelFollowsRow.laid) (((OpenSpec.ofChange Rows.kernelFollowsSpec).at F).post enc Tryz.prog Tryz.f5 false true false false):=by
 obtain⟨places,hx⟩:=reads os enc
 refine returnsInHanded_of_row (C:=Tryz.checked) (s:=OpenSpec.ofChange Rows.kernelFollowsSpec) own started (by kernel_rfl) Tryz.func5
  (witness_row_atRef (enc:=enc) (C:=Tryz.checked) false (OX os) #[.slice none 0 0,.slice none 0 0,.slice none 0 0] rfl (by kernel_rfl) (by kernel_rfl) (by kernel_rfl)
   (OpenSpec.preRow_of_cond 8 hx (by kernel_rfl) (fun k hk=>by cases hk) (by kernel_rfl) (amD os _))) ?_
 intro W base args ds gs before hval hW _ _ _ hL _ _;exact contract MK H enc W base args ds gs before hval hW hL
end Go.Proofs.YtpkbfdgohkakaaaGreatDoor.kernelFollows
end
