/- Part 3. -/
import Derived.Test.YtpkbfdgohkakaaaGreatDoorKa2
import Derived.Test.YtpkbfdgohkakaaaGreatDoorCards
import Derived.Test.YtpkbfdgohkakaaaGreatDoorTie
import Derived.WalkKit
import Derived.ProofKit
import Derived.OpenShut
import Derived.Deep.DeepHandedRow
import Derived.Deep.DeepWitnessRowRef
import Derived.Lib.LaidTab
import Derived.Carry
import Derived.RowKit
import Derived.ChangeArms
set_option linter.unusedVariables false
set_option linter.unusedSectionVars false
set_option linter.unusedSimpArgs false
section
namespace Go.Proofs.YtpkbfdgohkakaaaGreatDoor
open Go.ChangeShapes Go.WideShapes Go.ChangeAt Go.RowKit Go.VL
set_option maxRecDepth 100000
theorem own:ownKnob Tryz.prog.godebug=none:=by kernel_rfl
theorem laidOut:laidOutB Tryz.prog=true:=by kernel_rfl
abbrev CK:List (String×DataW Unit):=[("math/bits.deBruijn32tab",Rows.laid_math_bits_deBruijn32tab),("math/bits.deBruijn64tab",Rows.laid_math_bits_deBruijn64tab),("internal/strconv.uint64pow10",Rows.laid_internal_strconv_uint64pow10),("unicode.White_Space",Rows.laid_unicode_White_Space),("strings.asciiSpace",Rows.laid_strings_asciiSpace)]
theorem tJ {P:Program} {x:String×DataW Unit} {l:List (String×DataW Unit)} {w:World} (h:laidMet P (x::l) w):laidMet P l w:=by
 obtain⟨ps,⟨g,t,cs,fuel,p,q,h1,h2,h3,h4,h5,rfl⟩,hn,hr⟩:=h;exact⟨q,h5,(List.nodup_append.1 hn).2.1,fun b off hp=>hr b off (List.mem_append_right _ hp)⟩
theorem Ii {W:World} {name:String} {k:IntKind} {zs:List Int} {d0:DataW Unit} (hd:d0=Lib.tabData k zs) {rest:List (String×DataW Unit)} {g:Nat} {t e:TypeId} {n:Nat} (hg:Tryz.prog.globalNamed name=some g) (hty:(Tryz.prog.globals[g]?).map (·.type)=some t)
 (ht:Tryz.prog.underlying t=some (.array n e)) (he:Tryz.prog.underlying e=some (.int k)) (hce:Tryz.prog.cellsOf e=1) (hct:Tryz.prog.cellsOf t=n) (h:laidMet Tryz.prog ((name,d0)::rest) W) (i:Nat) (x:Int) (hx:zs[i]? =some x):
 W.cell? ⟨g,i,none⟩=some (.int k x):=by
 subst hd;have hi:=(List.getElem?_eq_some_iff.1 hx).1;have:=(Lib.tabIs_of_head hg hty ht he hce hct h).cell hg i hi;rw [this];simp [List.getD,hx]
theorem Ij {W:World} {name:String} {k:IntKind} {zs:List Int} {d0:DataW Unit} (hd:d0=Lib.tabData k zs) {rest:List (String×DataW Unit)} {g:Nat} {t e:TypeId} {n:Nat} (hg:Tryz.prog.globalNamed name=some g) (hty:(Tryz.prog.globals[g]?).map (·.type)=some t)
 (ht:Tryz.prog.underlying t=some (.array n e)) (he:Tryz.prog.underlying e=some (.int k)) (hce:Tryz.prog.cellsOf e=1) (hct:Tryz.prog.cellsOf t=n) (h:laidMet Tryz.prog ((name,d0)::rest) W):
 ∃t fr,W.heap[g]? =some (.cells (zs.map (Value.int k)).toArray t fr):=by
 subst hd;have key:W.var? Tryz.prog name=some (zs.map fun z=>Value.int k z).toArray:=Lib.tabIs_of_head hg hty ht he hce hct h;unfold World.var? at key;rw [hg,Option.bind_some]at key;cases h:W.heap[g]? with
 |none=>rw [h]at key;cases key
 |some o=>
  rw [h]at key;cases o with
  |cells cs t fr=>cases key;exact⟨t,fr,rfl⟩
  |_=>cases key
theorem aaD (b:Nat):tabs.get b=if b=0 then some (.u8,Ai)else if b=3 then some (.u64,Qx)else if b=4 then some (.u8,VQ)else if b=5 then some (.u8,VR)else none:=by
 simp only [tabs,CJ.get,List.find?];by_cases h0:b=0
 · subst h0;rfl
 by_cases h3:b=3
 · subst h3;rfl
 by_cases h4:b=4
 · subst h4;rfl
 by_cases h5:b=5
 · subst h5;rfl
 simp [h0,h3,h4,h5,Ne.symm h0,Ne.symm h3,Ne.symm h4,Ne.symm h5,beq_eq_false_iff_ne.2 (Ne.symm h0),beq_eq_false_iff_ne.2 (Ne.symm h3),beq_eq_false_iff_ne.2 (Ne.symm h4),beq_eq_false_iff_ne.2 (Ne.symm h5)]
theorem ao7 {W:World} (h:laidMetH Tryz.prog CK W):WH (fun b=>W.heap.size<=b) W:=by
 have h:laidMet Tryz.prog CK W:=h;have h1:=tJ h;have h2:=tJ h1;have h4:=tJ (tJ h2);have e4:(Rows.laid_math_bits_deBruijn32tab:DataW Unit)=Lib.tabData .u8 VQ:=by kernel_rfl
 have e5:(Rows.laid_math_bits_deBruijn64tab:DataW Unit)=Lib.tabData .u8 VR:=by kernel_rfl
 have e3:(Rows.laid_internal_strconv_uint64pow10:DataW Unit)=Lib.tabData .u64 Qx:=by kernel_rfl
 have e0:(Rows.laid_strings_asciiSpace:DataW Unit)=Lib.tabData .u8 Ai:=by kernel_rfl
 have c4:=Ij (g:=4) e4 (by kernel_rfl) (by kernel_rfl) Tryz.underlying353 Tryz.underlying5 (by kernel_rfl) (by kernel_rfl) h;have c5:=Ij (g:=5) e5 (by kernel_rfl) (by kernel_rfl) Tryz.underlying354 Tryz.underlying5 (by kernel_rfl) (by kernel_rfl) h1;have c3:=Ij (g:=3) e3 (by kernel_rfl) (by kernel_rfl) Tryz.underlying351 Tryz.underlying293 (by kernel_rfl) (by kernel_rfl) h2;have c0:=Ij (g:=0) e0 (by kernel_rfl) (by kernel_rfl) Tryz.underlying300 Tryz.underlying5 (by kernel_rfl) (by kernel_rfl) h4;intro b arr e;have e:(tabs.get b).map (fun x=>(x.2.map (Value.int x.1)).toArray)=some arr:=e;have key: ∃t fr,W.heap[b]? =some (.cells arr t fr):=by
  rw [aaD]at e;by_cases a0:b=0
  · subst a0;cases e;exact c0
  by_cases a3:b=3
  · subst a3;cases e;exact c3
  by_cases a4:b=4
  · subst a4;cases e;exact c4
  by_cases a5:b=5
  · subst a5;cases e;exact c5
  simp only [a0,a3,a4,a5,↓reduceIte,Option.map_none]at e;cases e
 obtain⟨t,fr,hk⟩:=key;exact⟨Nat.not_le_of_lt (Array.getElem?_eq_some_iff.1 hk).1,t,fr,hk⟩
theorem ao8 {W:World} (h:laidMetH Tryz.prog CK W): ∀a x,ao6.gc a=some x->W.cell? a=some x:=by
 have h:laidMet Tryz.prog CK W:=h;have h1:=tJ h;have h2:=tJ h1;have h4:=tJ (tJ h2);have e4:(Rows.laid_math_bits_deBruijn32tab:DataW Unit)=Lib.tabData .u8 VQ:=by kernel_rfl
 have e5:(Rows.laid_math_bits_deBruijn64tab:DataW Unit)=Lib.tabData .u8 VR:=by kernel_rfl
 have e3:(Rows.laid_internal_strconv_uint64pow10:DataW Unit)=Lib.tabData .u64 Qx:=by kernel_rfl
 have e0:(Rows.laid_strings_asciiSpace:DataW Unit)=Lib.tabData .u8 Ai:=by kernel_rfl
 have c4: ∀i x,VQ[i]? =some x->W.cell? ⟨4,i,none⟩=some (.int .u8 x):=fun i x hx=>Ii e4 (by kernel_rfl) (by kernel_rfl) Tryz.underlying353 Tryz.underlying5 (by kernel_rfl) (by kernel_rfl) h i x hx;have c5: ∀i x,VR[i]? =some x->W.cell? ⟨5,i,none⟩=some (.int .u8 x):=fun i x hx=>Ii e5 (by kernel_rfl) (by kernel_rfl) Tryz.underlying354 Tryz.underlying5 (by kernel_rfl) (by kernel_rfl) h1 i x hx;have c3: ∀i x,Qx[i]? =some x->W.cell? ⟨3,i,none⟩=some (.int .u64 x):=fun i x hx=>Ii e3 (by kernel_rfl) (by kernel_rfl) Tryz.underlying351 Tryz.underlying293 (by kernel_rfl) (by kernel_rfl) h2 i x hx;have c0: ∀i x,Ai[i]? =some x->W.cell? ⟨0,i,none⟩=some (.int .u8 x):=fun i x hx=>Ii e0 (by kernel_rfl) (by kernel_rfl) Tryz.underlying300 Tryz.underlying5 (by kernel_rfl) (by kernel_rfl) h4 i x hx;intro a x e;obtain⟨b,o,sp⟩:=a;cases sp with
 |some s=>cases e
 |none=>
  have e:(match tabs.get b with|some (k,ns)=>ns[o]?.map (Value.int k)|none=>none)=some x:=e;have hb:=aaD b;rw [hb]at e;by_cases h0:b=0
  · subst h0;simp only [↓reduceIte,Option.map_eq_some_iff]at e;obtain⟨y,hy,rfl⟩:=e;exact c0 o y hy
  by_cases h3:b=3
  · subst h3;simp only [↓reduceIte,Option.map_eq_some_iff,Nat.reduceEqDiff]at e;obtain⟨y,hy,rfl⟩:=e;exact c3 o y hy
  by_cases h4:b=4
  · subst h4;simp only [↓reduceIte,Option.map_eq_some_iff,Nat.reduceEqDiff]at e;obtain⟨y,hy,rfl⟩:=e;exact c4 o y hy
  by_cases h5:b=5
  · subst h5;simp only [↓reduceIte,Option.map_eq_some_iff,Nat.reduceEqDiff]at e;obtain⟨y,hy,rfl⟩:=e;exact c5 o y hy
  simp only [h0,h3,h4,h5,↓reduceIte]at e;cases e
noncomputable def M8 (os:Os):World:=
 let N:=(World.settled Tryz.prog os).heap.size
 let w0:=World.holding Tryz.prog os ⟨#[.cells (([9,13,1,32,133,101,160,5760,5600,8192,8202,1,8232,8233,1,8239,8287,48,12288,12288,1]:List Nat).map fun(z:Nat)=>Value.int .u16 (z:Int)).toArray 335,.cells #[.slice (some ⟨N,0,none⟩) 7 7,.slice none 0 0,.int .i64 2] 332],#[],[]⟩
 let put (h:Array Obj) (g:Nat) (cs:Array Value):Array Obj:=h.modify g fun
  | .cells _ t frozen=> .cells cs t frozen
  |o=>o
 let h1:=put w0.heap 0 (Ai.map fun z=>Value.int .u8 z).toArray
 let h2:=put h1 3 (Qx.map fun z=>Value.int .u64 z).toArray
 let h3:=put h2 4 (VQ.map fun z=>Value.int .u8 z).toArray
 let h4:=put h3 5 (VR.map fun z=>Value.int .u8 z).toArray
 let h5:=put h4 1 #[.pointer (some ⟨N+1,0,none⟩)]
 {w0 with heap:=h5}
theorem akg (os:Os) (args:Array Value):laidMet Tryz.prog CK ((M8 os).forCall (fun _ _=>0) ⟨#[],args,[]⟩).memory:=
 laidMet_of_run' 10 (by kernel_rfl) (by kernel_rfl)
theorem stays {H:Type} {enc:TypeId×Value->H} {t:TypeId} (hr:Tryz.prog.readableRec t=true) (hrow:t<Tryz.prog.types.size) {W W':World} {v:Value} {d:DataW H} {ps:List MemPlace}
 (h:DataW.Trod enc Tryz.prog W 0 (fun _=>true) true t v d ps) (hb:Below W.heap.size W W') (hlt: ∀x∈ps,x.block<W.heap.size):DataW.Trod enc Tryz.prog W' 0 (fun b=>decide (b<W.heap.size)) true t v d ps:=
 Below.trod laidOut hr hrow h hb hlt
end Go.Proofs.YtpkbfdgohkakaaaGreatDoor
end
section
namespace Go.VL
variable [Glob]
inductive Sc:PV->Prop where
 |bool (b:Bool):Sc (.bool b)
 |int (k:IntKind) (x:Int):Sc (.int k x)
 |str (s:List UInt8):Sc (.str s)
 |any:Sc .any
 |cK (cs:List PV) (h: ∀c∈cs,Sc c):Sc (.cK cs)
theorem V.sc {G G':Gh} {n n':Nat} {p:PV} {v:Value} (k:V G n p v) (hp:Sc p):V G' n' p v:=by
 induction k with
 |any v=>exact .any v
 |bool b=>exact .bool b
 |int k x=>exact .int k x
 |str s=>exact .str s
 |cK cs vs h1 _ ih=>
  cases hp with
  |cK _ h=>exact .cK cs vs h1 (fun j c x hc hx=>ih j c x hc hx (h c (List.mem_of_getElem? hc)))
 |_=>cases hp
theorem aD.frozen {P:Program} {f:FuncId} {args args':List PV} {r:PV} {H:AH} (hz:args'.length=args.length/\ ∀(j:Nat) (a a':PV),args[j]? =some a->args'[j]? =some a'->Fz H a a') (ha: ∀a∈args',Pu a)
 (h:aD P f args' r) (hr:Sc r):bA P f args H fun v H'=>v=r/\H'=H:=by
 refine⟨(h AH.empty).enters,fun B G w vs hU hM hv=> ?_⟩
 let F0:=(G.froze H w).F
 have hF0: ∀a x,G.F a=some x->F0 a=some x:=fun a x e=>Fy e;have ay3: ∀a x,F0 a=some x->w.cell? a=some x:=by
  intro a x e;simp only [F0,Gh.froze]at e;split at e
  · rename_i y hy;cases e;exact hM.qz a x hy
  · split at e
    · exact e
    · cases e
 have hv':Vs ⟨F0,fun _=>none,fun _=>none⟩ 0 args' vs:=⟨hv.1.trans hz.1.symm,fun j c x hc hx=>by
  have hj:j<args.length:=by
   rw [<-hz.1];exact(List.getElem?_eq_some_iff.1 hc).1
  have hf:=hz.2 j args[j] c (by simp) hc;have:=hf.reads hM x (hv.2 j args[j] x (by simp) hx);exact V.pure (fun _ _ e=>e) this (ha c (List.mem_of_getElem? hc))⟩
 refine(((h AH.empty).call (fun b=>w.heap.size<=b) _ w vs (fun b hb=>hb) (HM.empty (fun a x e=>hF0 a x (hM.glob a x e)) ay3 hM.wh.old) hv')).mono ?_;rintro e w' ⟨q,v,H',G',h1,h2,h3,h4,h5,h6,rfl,rfl⟩;have hold: ∀b,b<w.heap.size->w'.heap[b]? =w.heap[b]? :=fun b hb=>h2.same b hb (by omega);have hlt: ∀b arr t fr,w.heap[b]? =some (.cells arr t fr)->b<w.heap.size:=fun b arr t fr e=>(Array.getElem?_eq_some_iff.1 e).1
 have hM2:HM B H G w':={
  glob:=hM.glob
  qz:=fun a x e=>by
   have hc:=hM.qz a x e;exact(World.cell?_of_block (hold _ (World.block_lt_of_cell? w a hc))).trans hc
  obj:=fun id cs e=>by
   obtain⟨k0,b,arr,t,k1,k2,k3,k4,k5⟩:=hM.obj id cs e;exact⟨k0,b,arr,t,k1,k2,(hold b (hlt _ _ _ _ k3)).trans k3,k4,k5⟩
  inj:=hM.inj
  tok:=fun k e=>by
   obtain⟨k0,b,o,arr,t,k1,k2,k3,k5⟩:=hM.tok k e;exact⟨k0,b,o,arr,t,k1,k2,(hold b (hlt _ _ _ _ k3)).trans k3,k5⟩
  qH:=hM.qH
  tobj:=hM.tobj
  wh:=hM.wh.keep fun b _ hb=>hold b hb}
 exact⟨_,v,H,G,h1,⟨h2.size,fun b hb _=>hold b hb,h2.os,h2.tape,h2.output,h2.HY⟩,Ext.refl B _ G,Nat.le_refl _,hM2,h6.sc hr,rfl,rfl⟩
end Go.VL
end
section
namespace Go.VL
variable [Glob]
section
variable {P:Program} {Q:Post} {σ:Nat->PV} {H:AH} {K:(Nat->PV)->AH->Prop}
def PC (P:Program) (g:FuncId) (args:List PV) (k:PV->Prop):Prop:= ∃p,aD P g args p/\k p
theorem PC.mk {g:FuncId} {args:List PV} {k:PV->Prop} {p:PV} (h:aD P g args p) (hk:k p):PC P g args k:=⟨p,h,hk⟩
theorem aqQ {pr:List (aR×Bool)} {post:List aR} (h:iI P (·=H) pr (dH P post (Q .normal)) σ H):W P (.par pr post) Q σ H:=⟨(·=H),rfl,h⟩
theorem aeK {d:Option Nat} {k:RK} {l:List (aR×Bool)} (h:match rop k σ H with|some p=>iI P (·=H) l K (upd σ d p) H|none=>False):iI P (·=H) ((⟨d,.r k,none⟩,false)::l) K σ H:=by
 cases hr:rop k σ H with
 |none=>rw [hr]at h;exact h.elim
 |some p=>
  rw [hr]at h;exact dY p (fun H' e=>by subst e;exact hr) h
theorem VT {d:Option Nat} {k:AK} {s:Nat} {want b:Bool} {l:List (aR×Bool)}
 (h:match σ s with| .bool t=>if t=want then iI P (·=H) ((⟨d,k,none⟩,b)::l) K σ H else iI P (·=H) l K (upd σ d ud) H| .cK []=>iI P (·=H) l K (upd σ d ud) H|_=>False):iI P (·=H) ((⟨d,k,some (s,want)⟩,b)::l) K σ H:=by
 split at h
 · rename_i t ht;split at h
   · rename_i e;subst e;exact ao5 ht h
   · rename_i e;refine aaC (.inl ?_) h;rw [ht];cases t<;>cases want<;>first|rfl|exact absurd rfl e
 · rename_i ht;exact aaC (.inr ht) h
 · exact h.elim
theorem EK {d:Option Nat} {g:FuncId} {fs cs:List PV} {az:List AE} {l:List (aR×Bool)} (h:PC P g (fs++evs σ az++cs) fun p=>iI P (·=H) l K (upd σ d p) H):
 iI P (·=H) ((⟨d,.call (.c (.fn (.func g) fs cs)) az,none⟩,false)::l) K σ H:=by
 obtain⟨p,h1,h2⟩:=h;exact zI p h1 h2
theorem AH.aeL (cs:List PV) (i:Nat):(H.new cs).obj i=if i=H.next then some cs else H.obj i:=rfl
theorem AH.aeM (id:Nat) (cs:List PV) (i:Nat):(H.put id cs).obj i=if i=id then some cs else H.obj i:=rfl
theorem AH.aK (cs:List PV):(H.new cs).next=H.next+1:=rfl
theorem AH.aL (id:Nat) (cs:List PV):(H.put id cs).next=H.next:=rfl
theorem AH.aM:H.tok.next=H.next+1:=rfl
theorem AH.aN (k:Nat):(H.use k).next=H.next:=rfl
end
attribute [go_sem] AH.aeL AH.aeM AH.aK AH.aL AH.aM AH.aN
theorem ao9 (k:IntKind) (x:Int):(PV.int k x).one=true:=rfl
theorem akh (b:Bool):(PV.bool b).one=true:=rfl
theorem apa (s:List UInt8):(PV.str s).one=true:=rfl
theorem apb (es:List (List PV)) (c:Ck):(PV.ak es c).one=true:=rfl
theorem apc (a b c d e:Nat):(PV.bR a b c d e).one=true:=rfl
theorem apd (a b:Nat):(PV.ref a b).one=true:=rfl
theorem adL (l:List PV):cellsOf (.agg l)=some l:=rfl
theorem adM (k:IntKind) (x:Int):cellsOf (.int k x)=some [.int k x]:=rfl
theorem aaE (b:Bool):cellsOf (.bool b)=some [.bool b]:=rfl
theorem adN (s:List UInt8):cellsOf (.str s)=some [.str s]:=rfl
theorem adO (es:List (List PV)) (c:Ck):cellsOf (.ak es c)=some [.ak es c]:=rfl
theorem adP (a b c d e:Nat):cellsOf (.bR a b c d e)=some [.bR a b c d e]:=rfl
theorem adQ (a b:Nat):cellsOf (.ref a b)=some [.ref a b]:=rfl
attribute [go_sem] List.length_take
attribute [go_sem] adL adM aaE adN adO adP adQ ao9 akh apa apb apc apd Bool.true_and List.drop_zero List.drop_succ_cons List.take_succ_cons List.take_zero List.all_cons List.all_nil Bool.and_true Bool.and_self List.drop_nil Nat.zero_add Nat.add_zero Nat.le_refl and_self
end Go.VL
end
section
namespace Go.VL
section
variable {H:AH}
theorem DL {α:Type} {sz:Nat} {f:α->List PV} (hf: ∀x,(f x).length=sz) (l:List α):KM sz (l.map f):=by
 intro cs h;obtain⟨x,_,rfl⟩:=List.mem_map.1 h;exact hf x
class mX {α:Type} (f:α->List PV) (sz:outParam Nat):Prop where
 len: ∀x,(f x).length=sz
 wkf: ∀x,(f x).map wk=f x
theorem aqR {α:Type} {sz:Nat} {f:α->List PV} {l:List α} {c:Ck} {k:IntKind} {n:Int} [hr:mX f sz]:
 nY sz (.ak (l.map f) c) (some (.int k n)) none none=if 0<=n/\n.toNat<=l.length then some (.ak ((l.drop n.toNat).map f) .unk)else none:=by
 simp only [nY,nk];by_cases h1:0<=n
 · by_cases h2:n.toNat<=l.length
   · simp [h1,h2,DL hr.len,List.map_drop,List.take_of_length_le]
   · simp [h1,h2]
 · simp [h1]
theorem aqS {α:Type} {sz:Nat} {f:α->List PV} {l:List α} {c:Ck} {k:IntKind} {n:Int} [hr:mX f sz]:
 nY sz (.ak (l.map f) c) none (some (.int k n)) none=if 0<=n/\n.toNat<=l.length then some (.ak ((l.take n.toNat).map f) .unk)else none:=by
 simp only [nY,nk];by_cases h1:0<=n
 · by_cases h2:n.toNat<=l.length
   · simp [h1,h2,DL hr.len,List.map_take]
   · simp [h1,h2]
 · simp [h1]
theorem aki {α:Type} {sz:Nat} {f:α->List PV} {l:List α} {c:Ck} {k k':IntKind} {m n:Int} [hr:mX f sz]:
 nY sz (.ak (l.map f) c) (some (.int k m)) (some (.int k' n)) none=if 0<=m/\m<=n/\n.toNat<=l.length then some (.ak (((l.take n.toNat).drop m.toNat).map f) .unk)else none:=by
 simp only [nY,nk];by_cases h0:0<=m
 · by_cases h1:0<=n
   · by_cases h4:m<=n
     · have h4':m.toNat<=n.toNat:=by omega
       by_cases h2:n.toNat<=l.length
       · simp [h0,h1,h4,h4',h2,DL hr.len,List.map_take,List.map_drop]
       · simp [h0,h1,h4,h2]
     · have h4': ¬m.toNat<=n.toNat:=by omega
       simp [h0,h1,h4,h4']
   · have h4: ¬m<=n:=by omega
     simp [h0,h1,h4]
 · simp [h0]
theorem ape {s:List UInt8} {k:IntKind} {n:Int}:yK (.str s) (some (.int k n)) none=if 0<=n/\n.toNat<=s.length then some (.str (s.drop n.toNat))else none:=by
 simp only [yK,nk];by_cases h1:0<=n
 · by_cases h2:n.toNat<=s.length
   · simp [h1,h2]
   · simp [h1,h2]
 · simp [h1]
theorem apf {s:List UInt8} {k:IntKind} {n:Int}:yK (.str s) none (some (.int k n))=if 0<=n/\n.toNat<=s.length then some (.str (s.take n.toNat))else none:=by
 simp only [yK,nk];by_cases h1:0<=n
 · by_cases h2:n.toNat<=s.length
   · simp [h1,h2]
   · simp [h1,h2]
 · simp [h1]
theorem ah6 {s:List UInt8} {k k':IntKind} {m n:Int}:yK (.str s) (some (.int k m)) (some (.int k' n))=if 0<=m/\m<=n/\n.toNat<=s.length then some (.str ((s.take n.toNat).drop m.toNat))else none:=by
 simp only [yK,nk];by_cases h0:0<=m
 · by_cases h1:0<=n
   · by_cases h4:m<=n
     · have h4':m.toNat<=n.toNat:=by omega
       simp [h0,h1,h4,h4']
     · have h4': ¬m.toNat<=n.toNat:=by omega
       simp [h0,h1,h4,h4']
   · have h4: ¬m<=n:=by omega
     simp [h0,h1,h4]
 · simp [h0]
inductive Lw:List PV->List PV->Prop where
 |nil:Lw [] []
 |same {p:PV} {l m:List PV} (h:Lw l m):Lw (p::l) (p::m)
 |ak {es:List (List PV)} {c:Ck} {l m:List PV} (h:Lw l m):Lw (.ak es c::l) (.ak es .unk::m)
theorem Lw.get {l m:List PV} (h:Lw l m):l.length=m.length/\ ∀(j:Nat) (q:PV),m[j]? =some q-> ∃p,l[j]? =some p/\ ∀(G:Gh) (n:Nat) (v:Value),V G n p v->V G n q v:=by
 induction h with
 |nil=>exact⟨rfl,fun j q e=>by simp at e⟩
 |same _ ih=>
  refine⟨by simp [ih.1],fun j q e=> ?_⟩;cases j with
  |zero=>simp at e;subst e;exact⟨_,rfl,fun _ _ _ h=>h⟩
  |succ j=>simp at e;simpa using ih.2 j q e
 |ak _ ih=>
  refine⟨by simp [ih.1],fun j q e=> ?_⟩;cases j with
  |zero=>simp at e;subst e;exact⟨_,rfl,fun _ _ _ h=>h.wk⟩
  |succ j=>simp at e;simpa using ih.2 j q e
theorem aT {α:Type} {f:α->List PV} (hf: ∀x,∀c∈f x,Pu c) (l:List α):Pu (.ak (l.map f) .unk):=by
 refine .ak _ _ (fun cs h c hc=> ?_) (by simp);obtain⟨x,_,rfl⟩:=List.mem_map.1 h;exact hf x c hc
inductive aX:List PV->Prop where
 |nil:aX []
 |cons {p:PV} {l:List PV} (h:Pu p) (t:aX l):aX (p::l)
theorem aX.mem {l:List PV} (h:aX l): ∀c∈l,Pu c:=by
 induction h with
 |nil=>intro c h;cases h
 |cons h _ ih=>
  intro c hc;rcases List.mem_cons.1 hc with rfl|hc
  · exact h
  · exact ih c hc
inductive J2 (H:AH):List PV->List PV->Prop where
 |nil:J2 H [] []
 |cons {p q:PV} {l m:List PV} (h:Fz H p q) (t:J2 H l m):J2 H (p::l) (q::m)

theorem aQ {H:AH} {k:IntKind} {n:Int} {l m:List PV} (t:J2 H l m):J2 H (.int k n::l) (.int k n::m):= .cons (.pure _ (.int _ _)) t
theorem J2.get {l m:List PV} (h:J2 H l m):m.length=l.length/\ ∀(j:Nat) (c c':PV),l[j]? =some c->m[j]? =some c'->Fz H c c':=by
 induction h with
 |nil=>exact⟨rfl,fun j c c' e=>by simp at e⟩
 |cons h _ ih=>
  refine⟨by simp [ih.1],fun j c c' e e'=> ?_⟩;cases j with
  |zero=>simp at e e';subst e;subst e';exact h
  |succ j=>simp at e e';exact ih.2 j c c' e e'
theorem aaF {id off:Nat} {cs cs':List PV} (ho:H.obj id=some cs) (h:J2 H cs cs'):Fz H (.ref id off) (.bS cs' off):= .ref id off cs cs' ho h.get.1 h.get.2
theorem af0 {g:Fn} {cs cs':List PV} (h:J2 H cs cs'):Fz H (.fn g [] cs) (.fn g [] cs'):= .fn g [] [] cs cs' rfl (fun j c c' e=>by simp at e) h.get.1 h.get.2
theorem bQ {l m:List PV} (h:J2 H l m):Fz H (.agg l) (.agg m):= .agg l m h.get.1 h.get.2
theorem bW {l m:List PV} (h:J2 H l m):Fz H (.cK l) (.cK m):= .cK l m h.get.1 h.get.2
theorem dS {α:Type} {f:α->List PV} (hf: ∀x,∀c∈f x,Pu c) (l:List α) (c:Ck):Fz H (.ak (l.map f) c) (.ak (l.map f) .unk):=by
 refine .ak _ _ c .unk (.inl rfl) rfl (fun i cs cs' h1 h2=>by rw [h1]at h2;cases h2;rfl) (fun i cs cs' h1 h2 j c c' h3 h4=> ?_);rw [h1]at h2;cases h2;rw [h3]at h4;cases h4;obtain⟨x,_,rfl⟩:=List.mem_map.1 (List.mem_of_getElem? h1);exact .pure _ (hf x c (List.mem_of_getElem? h3))
theorem apg {α:Type} {sz:Nat} {f:α->List PV} [hr:mX f sz] (l:List α) (c:Ck):JU (.ak (l.map f) c)= .ak (l.map f) c:=by
 simp only [JU,List.map_map];congr 1;exact List.map_congr_left fun x _=>hr.wkf x
end
def u8L (n:Int):List PV:=[.int .u8 n]
def sF (s:List UInt8):List Int:=s.map fun b=>(b.toNat:Int)
variable [Glob]
section
variable {P:Program} {Q:Post} {σ σ':Nat->PV} {H H':AH} {K:(Nat->PV)->AH->Prop}
inductive Fm where
 |seq (b:AC)
 |ops (l:List aR)
 |block (id:Nat)
def F4 (P:Program):List Fm->Post->Post
 |[],Q=>Q
 | .seq b::s,Q=>Ag (fun σ H=>W P b (F4 P s Q) σ H) (F4 P s Q)
 | .ops l::s,Q=>Ag (fun σ H=>dH P l (F4 P s Q .normal) σ H) (F4 P s Q)
 | .block id::s,Q=>M6 id (F4 P s Q)
variable {s:List Fm}
def WS (P:Program) (a:AC) (s:List Fm) (Q:Post) (σ:Nat->PV) (H:AH):Prop:=W P a (F4 P s Q) σ H
def WO (P:Program) (l:List aR) (s:List Fm) (Q:Post) (σ:Nat->PV) (H:AH):Prop:=dH P l (F4 P s Q .normal) σ H
def WE (P:Program) (e:Ex) (s:List Fm) (Q:Post) (σ:Nat->PV) (H:AH):Prop:=F4 P s Q e σ H
theorem aC {a:AC} (h:WS P a [] Q σ H):W P a Q σ H:=h
theorem fu {l:List aR} (h:WO P l [] Q σ H):dH P l (Q .normal) σ H:=h
def WCd (P:Program):PV->AC->AC->List Fm->Post->(Nat->PV)->AH->Prop
 | .bool true,a,_,s,Q,σ,H=>WS P a s Q σ H
 | .bool false,_,b,s,Q,σ,H=>WS P b s Q σ H
 |_,_,_,_,_,_,_=>False
def WR (P:Program) (o:Option PV) (d:Option Nat) (l:List aR) (s:List Fm) (Q:Post) (σ:Nat->PV) (H:AH):Prop:=match o with
 |some p=>WO P l s Q (upd σ d p) H
 |none=>False
def WD (P:Program) (o:Option (PV×AH)) (d:Option Nat) (l:List aR) (s:List Fm) (Q:Post) (σ:Nat->PV):Prop:=match o with
 |some (p,H)=>WO P l s Q (upd σ d p) H
 |none=>False
def WG (P:Program) (v:PV) (want:Bool) (d:Option Nat) (k:AK) (l:List aR) (s:List Fm) (Q:Post) (σ:Nat->PV) (H:AH):Prop:=match v with
 | .bool b=>if b=want then WO P (⟨d,k,none⟩::l) s Q σ H else WO P l s Q (upd σ d ud) H
 | .cK []=>WO P l s Q (upd σ d ud) H
 |_=>False
def MC (P:Program) (g:FuncId) (az:List PV) (d:Option Nat) (l:List aR) (s:List Fm) (Q:Post) (σ:Nat->PV) (H:AH):Prop:=bA P g az H fun r H'=>WO P l s Q (upd σ d r) H'
def MV (P:Program) (v:PV) (az:List PV) (d:Option Nat) (l:List aR) (s:List Fm) (Q:Post) (σ:Nat->PV) (H:AH):Prop:=match v with
 | .fn (.func g) fs cs=>MC P g (fs++az++cs) d l s Q σ H
 |_=>False
theorem aqT {a b:AC}:WS P (.seq a b) s Q σ H=WS P a (.seq b::s) Q σ H:=rfl
theorem akj {id:Nat} {a:AC}:WS P (.block id a) s Q σ H=WS P a (.block id::s) Q σ H:=rfl
theorem aqU {l:List aR}:WS P (.ops l) s Q σ H=WO P l s Q σ H:=rfl
theorem aph {id:Nat}:WS P (.exit id) s Q σ H=WE P (.exit id) s Q σ H:=rfl
theorem aqV:WS P .ret s Q σ H=WE P .ret s Q σ H:=rfl
theorem apj:WS P .skip s Q σ H=WE P .normal s Q σ H:=rfl
theorem apk {c:AE} {a b:AC}:WS P (.cond c a b) s Q σ H=WCd P (c.ev σ) a b s Q σ H:=by
 simp only [WS,W];cases c.ev σ with
 |bool t=>cases t<;>simp [WCd,WS]
 |_=>rfl
theorem al7 {f:AE} {p q:Nat} {a b:AC} {g id sz:Nat} {agg:Bool} {es:List (List PV)} {c:Ck} (hf:f.ev σ= .fn (.func g) [] [.ref id 0]) (he:Enters P g) (hb:TQ P g sz agg) (h0:0<sz) (ho:H.obj id=some [.ak es c]) (hl:es.length<=1099511627776) (hs:KM sz es)
 (h:EJ (fun Q' σ' H'=>W P a (Ig (fun vZ fQ=>W P b Q' vZ fQ)) σ' H') (F4 P s Q) σ id [.ak es c] p q (es.map (Dm agg)) es.length H):WS P (.rf f p q a b) s Q σ H:=ay0 hf he hb h0 ho hl hs h
theorem aaG {K:(Nat->PV)->AH->Prop}:Ig K .normal σ H=K σ H:=rfl
theorem aaH {X:AH->Prop}:afS Q σ X .normal σ' H=X H:=rfl
theorem af2 {X:AH->Prop} {i:Nat}:afS Q σ X (.exit i) σ' H=Q (.exit i) σ H:=rfl
theorem adR {p:PV} {cs:List PV}:Dm false (p::cs)=p:=rfl
theorem akk {a b:AC}:WCd P (.bool true) a b s Q σ H=WS P a s Q σ H:=rfl
theorem ah8 {a b:AC}:WCd P (.bool false) a b s Q σ H=WS P b s Q σ H:=rfl
theorem aqW {e:Ex}:WE P e [] Q σ H=Q e σ H:=rfl
theorem akl {b:AC}:WE P .normal (.seq b::s) Q σ H=WS P b s Q σ H:=rfl
theorem akm {i:Nat} {b:AC}:WE P (.exit i) (.seq b::s) Q σ H=WE P (.exit i) s Q σ H:=rfl
theorem akn {b:AC}:WE P .ret (.seq b::s) Q σ H=WE P .ret s Q σ H:=rfl
theorem ako {l:List aR}:WE P .normal (.ops l::s) Q σ H=WO P l s Q σ H:=rfl
theorem af3 {i:Nat}:WE P .normal (.block i::s) Q σ H=WE P .normal s Q σ H:=rfl
theorem af4 {i:Nat}:WE P .ret (.block i::s) Q σ H=WE P .ret s Q σ H:=rfl
theorem af5 {i j:Nat}:WE P (.exit j) (.block i::s) Q σ H=if j=i then WE P .normal s Q σ H else WE P (.exit j) s Q σ H:=rfl
theorem apl {e:Ex} {f:Fm}:F4 P (f::s) Q e σ H=WE P e (f::s) Q σ H:=rfl
theorem adS {l m:List aR}:dH P (l++m) K σ H=dH P l (fun σ' H'=>dH P m K σ' H') σ H:=by
 induction l generalizing σ H with
 |nil=>rfl
 |cons o l ih=>
  simp only [List.cons_append,dH];cases o.g with
  |none=>simp only [ih]
  |some sw=>
   obtain⟨s,want⟩:=sw;simp only [ih]
theorem aqX:WO P [] s Q σ H=WE P .normal s Q σ H:=rfl
theorem ah9 {l m:List aR}:WO P (l++m) s Q σ H=WO P l (.ops m::s) Q σ H:=adS
theorem ay4 {d:Option Nat} {k:RK} {l:List aR}:WO P (⟨d,.r k,none⟩::l) s Q σ H=WR P (rop k σ H) d l s Q σ H:=rfl
theorem apm {p:PV} {d:Option Nat} {l:List aR}:WR P (some p) d l s Q σ H=WO P l s Q (upd σ d p) H:=rfl
theorem TW {x y:List UInt8} {d:Option Nat} {l:List aR} (hb:x.length+y.length<=4611686018427387904) (h:WO P l s Q (upd σ d (.str (x++y))) H):WR P (Dz .add x y) d l s Q σ H:=by
 rw [Dz,if_pos hb];exact h
theorem apn {p:PV} {d:Option Nat} {l:List aR}:WD P (some (p,H)) d l s Q σ=WO P l s Q (upd σ d p) H:=rfl
theorem ay5 {d:Option Nat} {k:AK} {t:Nat} {want:Bool} {l:List aR}:WO P (⟨d,k,some (t,want)⟩::l) s Q σ H=WG P (σ t) want d k l s Q σ H:=rfl
section
variable {d:Option Nat} {k:AK} {l:List aR} {want:Bool}
theorem ava:WG P (.bool true) true d k l s Q σ H=WO P (⟨d,k,none⟩::l) s Q σ H:=rfl
theorem avb:WG P (.bool false) false d k l s Q σ H=WO P (⟨d,k,none⟩::l) s Q σ H:=rfl
theorem avc:WG P (.bool true) false d k l s Q σ H=WO P l s Q (upd σ d ud) H:=rfl
theorem avd:WG P (.bool false) true d k l s Q σ H=WO P l s Q (upd σ d ud) H:=rfl
theorem ave:WG P (.cK []) want d k l s Q σ H=WO P l s Q (upd σ d ud) H:=rfl
end
theorem akp {d:Option Nat} {z:List PV} {l:List aR}:WO P (⟨d,.d (.alloc z),none⟩::l) s Q σ H=WO P l s Q (upd σ d (.ref H.next 0)) (H.new z):=rfl
theorem aqY {d:Option Nat} {n:Nat} {x:AE} {l:List aR}:WO P (⟨d,.d (.box n x),none⟩::l) s Q σ H=WD P (iH (.box n x) σ H) d l s Q σ:=rfl
theorem dL {d:Option Nat} {n:Nat} {x v:AE} {l:List aR}:WO P (⟨d,.d (.store n x v),none⟩::l) s Q σ H=WD P (iH (.store n x v) σ H) d l s Q σ:=rfl
theorem apo {d:Option Nat} {z:List PV} {ps:List (Nat×Nat×AE)} {l:List aR}:WO P (⟨d,.n (.iR z ps),none⟩::l) s Q σ H=WR P ((jI σ z ps).map .agg) d l s Q σ H:=by
 show dH P _ _ σ H=_
 rw [FZ];simp only [nop];cases jI σ z ps<;>rfl
def akq (P:Program):PV->Option Nat->List aR->List Fm->Post->(Nat->PV)->AH->Prop
 | .str x,d,l,s,Q,σ,H=>WO P l s Q (upd σ d (.ak ((sF x).map u8L) .unk)) H
 |_,_,_,_,_,_,_=>False
theorem aqZ {d:Option Nat} {x:AE} {l:List aR}:WO P (⟨d,.n (.X4 x),none⟩::l) s Q σ H=akq P (x.ev σ) d l s Q σ H:=by
 show dH P _ _ σ H=_
 rw [FZ,nop];cases x.ev σ with
 |str x=>
  simp only [akq,sF,List.map_map];rfl
 |_=>rfl
theorem akr {d:Option Nat} {x:List UInt8} {l:List aR}:akq P (.str x) d l s Q σ H=WO P l s Q (upd σ d (.ak ((sF x).map u8L) .unk)) H:=rfl
theorem apq {d:Option Nat} {g:FuncId} {fs cs:List PV} {az:List AE} {l:List aR}:WO P (⟨d,.call (.c (.fn (.func g) fs cs)) az,none⟩::l) s Q σ H=MC P g (fs++evs σ az++cs) d l s Q σ H:=rfl
theorem aks {d:Option Nat} {n:Nat} {az:List AE} {l:List aR}:WO P (⟨d,.call (.t n) az,none⟩::l) s Q σ H=MV P (σ n) (evs σ az) d l s Q σ H:=rfl
theorem avf {g:FuncId} {fs cs az:List PV} {d:Option Nat} {l:List aR}:MV P (.fn (.func g) fs cs) az d l s Q σ H=MC P g (fs++az++cs) d l s Q σ H:=rfl
def jl (P:Program):List (aR×Bool)->((Nat->PV)->AH->Prop)->(Nat->PV)->AH->Prop
 |[],K,σ,H=>K σ H
 |(⟨d,.r k,none⟩,false)::l,K,σ,H=>match rop k σ H with
   |some p=>jl P l K (upd σ d p) H
   |none=>False
 |(⟨d,.call (.c (.fn (.func g) fs cs)) az,none⟩,false)::l,K,σ,H=>PC P g (fs++evs σ az++cs) fun p=>jl P l K (upd σ d p) H
 |(⟨d,.r k,some (s,want)⟩,false)::l,K,σ,H=>match σ s with
   | .bool t=>if t=want then(match rop k σ H with
    |some p=>jl P l K (upd σ d p) H
    |none=>False)else jl P l K (upd σ d ud) H
   | .cK []=>jl P l K (upd σ d ud) H
   |_=>False
 |(⟨d,.call (.c (.fn (.func g) fs cs)) az,some (s,want)⟩,false)::l,K,σ,H=>match σ s with
   | .bool t=>if t=want then PC P g (fs++evs σ az++cs) fun p=>jl P l K (upd σ d p) H else jl P l K (upd σ d ud) H
   | .cK []=>jl P l K (upd σ d ud) H
   |_=>False
 |_,_,_,_=>False
theorem apr {d:Option Nat} {k:RK} {l:List (aR×Bool)}:jl P ((⟨d,.r k,none⟩,false)::l) K σ H=(match rop k σ H with|some p=>jl P l K (upd σ d p) H|none=>False):=rfl
theorem TY {d:Option Nat} {g:FuncId} {fs cs:List PV} {az:List AE} {l:List (aR×Bool)}:
 jl P ((⟨d,.call (.c (.fn (.func g) fs cs)) az,none⟩,false)::l) K σ H=PC P g (fs++evs σ az++cs) fun p=>jl P l K (upd σ d p) H:=rfl
theorem akt {d:Option Nat} {k:RK} {s:Nat} {want:Bool} {l:List (aR×Bool)}:jl P ((⟨d,.r k,some (s,want)⟩,false)::l) K σ H=
 (match σ s with| .bool t=>if t=want then(match rop k σ H with|some p=>jl P l K (upd σ d p) H|none=>False)else jl P l K (upd σ d ud) H| .cK []=>jl P l K (upd σ d ud) H|_=>False):=rfl
theorem Px {d:Option Nat} {g:FuncId} {fs cs:List PV} {az:List AE} {s:Nat} {want:Bool} {l:List (aR×Bool)}:
 jl P ((⟨d,.call (.c (.fn (.func g) fs cs)) az,some (s,want)⟩,false)::l) K σ H=
 (match σ s with| .bool t=>if t=want then PC P g (fs++evs σ az++cs) fun p=>jl P l K (upd σ d p) H else jl P l K (upd σ d ud) H| .cK []=>jl P l K (upd σ d ud) H|_=>False):=rfl
theorem je: ∀(l:List (aR×Bool)) (σ:Nat->PV),jl P l K σ H->iI P (·=H) l K σ H
 |[],σ,h=>h
 |(⟨d,.r k,none⟩,false)::l,σ,h=>by
   refine aeK ?_;rw [apr]at h;cases hp:rop k σ H with
   |some p=>rw [hp]at h;exact je l _ h
   |none=>rw [hp]at h;exact h.elim
 |(⟨d,.call (.c (.fn (.func g) fs cs)) az,none⟩,false)::l,σ,h=>by
   refine EK ?_;obtain⟨p,h1,h2⟩:=(TY (K:=K)▸h);exact⟨p,h1,je l _ h2⟩
 |(⟨d,.r k,some (s,want)⟩,false)::l,σ,h=>by
   refine VT ?_;rw [akt]at h;generalize σ s=v at h;cases v with
   |bool t=>
    simp only at h⊢;by_cases hw:t=want
    · rw [if_pos hw]at h⊢;refine aeK ?_;cases hp:rop k σ H with
      |some p=>rw [hp]at h;exact je l _ h
      |none=>rw [hp]at h;exact h.elim
    · rw [if_neg hw]at h⊢;exact je l _ h
   |cK l'=>cases l' with
    |nil=>exact je l _ h
    |cons=>exact h.elim
   |_=>exact h.elim
 |(⟨d,.call (.c (.fn (.func g) fs cs)) az,some (s,want)⟩,false)::l,σ,h=>by
   refine VT ?_;rw [Px]at h;generalize σ s=v at h;cases v with
   |bool t=>
    simp only at h⊢;by_cases hw:t=want
    · rw [if_pos hw]at h⊢;refine EK ?_;obtain⟨p,h1,h2⟩:=h;exact⟨p,h1,je l _ h2⟩
    · rw [if_neg hw]at h⊢;exact je l _ h
   |cK l'=>cases l' with
    |nil=>exact je l _ h
    |cons=>exact h.elim
   |_=>exact h.elim
 |(_,true)::_,_,h=>by simp [jl]at h
 |(⟨_,.d _,_⟩,false)::_,_,h=>by simp [jl]at h
 |(⟨_,.n _,_⟩,false)::_,_,h=>by simp [jl]at h
 |(⟨_,.bad,_⟩,false)::_,_,h=>by simp [jl]at h
 |(⟨_,.call (.t _) _,_⟩,false)::_,_,h=>by simp [jl]at h
 |(⟨_,.call (.c v) az,g⟩,false)::l,σ,h=>by
   cases v with
   |fn f fs cs=>
    cases f with
    |func n=>cases g with
     |none=>
      refine EK ?_;obtain⟨p,h1,h2⟩:=(TY (K:=K)▸h);exact⟨p,h1,je l _ h2⟩
     |some sw=>
      obtain⟨s,want⟩:=sw;refine VT ?_;rw [Px]at h;generalize σ s=v at h;cases v with
      |bool t=>
       simp only at h⊢;by_cases hw:t=want
       · rw [if_pos hw]at h⊢;refine EK ?_;obtain⟨p,h1,h2⟩:=h;exact⟨p,h1,je l _ h2⟩
       · rw [if_neg hw]at h⊢;exact je l _ h
      |cK l'=>cases l' with
       |nil=>exact je l _ h
       |cons=>exact h.elim
      |_=>exact h.elim
    |_=>simp [jl]at h
   |_=>simp [jl]at h
def mP (P:Program) (m:Nat):List (aR×Bool)->((Nat->PV)->AH->Prop)->(Nat->PV)->AH->Prop
 |[],K,σ,H=>K σ H
 |(⟨d,.r (.load n a x),none⟩,false)::l,K,σ,H=>(match x.ev σ with| .ref id _=>id≠m|_=>True)/\match rop (.load n a x) σ H with
   |some p=>mP P m l K (upd σ d p) H
   |none=>False
 |(⟨d,.r k,none⟩,false)::l,K,σ,H=>match rop k σ H with
   |some p=>mP P m l K (upd σ d p) H
   |none=>False
 |(⟨d,.call (.c (.fn (.func g) fs cs)) az,none⟩,false)::l,K,σ,H=>PC P g (fs++evs σ az++cs) fun p=>mP P m l K (upd σ d p) H
 |(⟨d,.d (.store n x v),none⟩,true)::l,K,σ,H=>(match x.ev σ with| .ref id _=>id=m|_=>False)/\match iH (.store n x v) σ H with
   |some (p,H')=>mP P m l K (upd σ d p) H'
   |none=>False
 |(⟨d,.d (.alloc z),none⟩,true)::l,K,σ,H=>H.next=m/\mP P m l K (upd σ d (.ref H.next 0)) (H.new z)
 |_,_,_,_=>False
theorem aps {k:RK} (hk: ∀n a x,k≠ .load n a x) (H1 H2:AH):rop k σ H1=rop k σ H2:=by
 cases k<;>first|rfl|exact absurd rfl (hk _ _ _)
theorem rP {m:Nat} (H0:AH): ∀(l:List (aR×Bool)) (σ:Nat->PV) (H:AH),(∀i,i≠m->H.obj i=H0.obj i)->mP P m l K σ H->iI P (fun H'=> ∀i,i≠m->H'.obj i=H0.obj i) l K σ H
 |[],σ,H,hC,h=>h
 |(⟨d,.r k,none⟩,false)::l,σ,H,hC,h=>by
   by_cases hk: ∃n a x,k= .load n a x
   · obtain⟨n,a,x,rfl⟩:=hk;obtain⟨h1,h2⟩:=h;cases hp:rop (.load n a x) σ H with
     |none=>rw [hp]at h2;exact h2.elim
     |some p=>
      rw [hp]at h2;refine dY p (fun H' hC'=> ?_) (rP H0 l _ _ hC h2);rw [<-hp];simp only [rop];generalize x.ev σ=v at*;cases v<;>first|rfl|skip
      rename_i id o;simp only at h1;simp only [z8];rw [hC' id h1,hC id h1]
   · have h':match rop k σ H with|some p=>mP P m l K (upd σ d p) H|none=>False:=by
      cases k<;>first|exact h|exact absurd ⟨_,_,_,rfl⟩ hk
     cases hp:rop k σ H with
     |none=>rw [hp]at h';exact h'.elim
     |some p=>
      rw [hp]at h';exact dY p (fun H' _=>by rw [<-hp];exact aps (fun n a x e=>hk ⟨n,a,x,e⟩) H' H) (rP H0 l _ _ hC h')
 |(⟨d,.call (.c (.fn (.func g) fs cs)) az,none⟩,false)::l,σ,H,hC,h=>by
   obtain⟨p,h1,h2⟩:=h;exact zI p h1 (rP H0 l _ _ hC h2)
 |(⟨d,.d (.store n x v),none⟩,true)::l,σ,H,hC,h=>by
   obtain⟨h1,h2⟩:=h;cases hp:iH (.store n x v) σ H with
   |none=>rw [hp]at h2;exact h2.elim
   |some q=>
    obtain⟨p,H'⟩:=q;rw [hp]at h2;have hC': ∀i,i≠m->H'.obj i=H0.obj i:=by
     intro i hi;simp only [iH]at hp;generalize x.ev σ=u at*;cases u<;>try exact h1.elim
     rename_i id o;simp only at h1;subst h1;split at hp
     · rename_i id' o' vs e1 e2;cases e1;split at hp
       · split at hp
         · cases hp;show(if i=id then _ else H.obj i)=_;rw [if_neg hi];exact hC i hi
         · cases hp
       · cases hp
     · cases hp
    exact TV p H' hp hC' (rP H0 l _ _ hC' h2)
 |(⟨_,.r _,some _⟩,_)::_,_,_,_,h=>by simp [mP]at h
 |(⟨_,.r _,none⟩,true)::_,_,_,_,h=>by simp [mP]at h
 |(⟨_,.n _,_⟩,_)::_,_,_,_,h=>by simp [mP]at h
 |(⟨_,.bad,_⟩,_)::_,_,_,_,h=>by simp [mP]at h
 |(⟨_,.d _,_⟩,false)::_,_,_,_,h=>by simp [mP]at h
 |(⟨_,.d _,some _⟩,true)::_,_,_,_,h=>by simp [mP]at h
 |(⟨d,.d (.alloc z),none⟩,true)::l,σ,H,hC,h=>by
   obtain⟨h1,h2⟩:=h;have hC': ∀i,i≠m->(H.new z).obj i=H0.obj i:=by
    intro i hi;show(if i=H.next then _ else H.obj i)=_;rw [if_neg (by rw [h1];exact hi)];exact hC i hi
   exact TV (.ref H.next 0) (H.new z) rfl hC' (rP H0 l _ _ hC' h2)
 |(⟨_,.d (.box _ _),none⟩,true)::_,_,_,_,h=>by simp [mP]at h
 |(⟨_,.d (.app _ _ _ _),none⟩,true)::_,_,_,_,h=>by simp [mP]at h
 |(⟨_,.d (.vR _ _ _ _ _),none⟩,true)::_,_,_,_,h=>by simp [mP]at h
 |(⟨_,.call _ _,some _⟩,_)::_,_,_,_,h=>by simp [mP]at h
 |(⟨_,.call _ _,none⟩,true)::_,_,_,_,h=>by simp [mP]at h
 |(⟨_,.call (.t _) _,none⟩,false)::_,_,_,_,h=>by simp [mP]at h
 |(⟨d,.call (.c v) az,none⟩,false)::l,σ,H,hC,h=>by
   cases v with
   |fn f fs cs=>
    cases f with
    |func n=>
     obtain⟨p,h1,h2⟩:=h;exact zI p h1 (rP H0 l _ _ hC h2)
    |_=>simp [mP]at h
   |_=>simp [mP]at h
def EC (P:Program) (pr:List (aR×Bool)) (post:List aR) (s:List Fm) (Q:Post) (σ:Nat->PV) (H:AH):Prop:=jl P pr (fun σ' H'=>WO P post s Q σ' H') σ H
def WPR (P:Program) (o:Option PV) (d:Option Nat) (l:List (aR×Bool)) (post:List aR) (s:List Fm) (Q:Post) (σ:Nat->PV) (H:AH):Prop:=match o with
 |some p=>EC P l post s Q (upd σ d p) H
 |none=>False
def WPG (P:Program) (v:PV) (want:Bool) (d:Option Nat) (k:AK) (l:List (aR×Bool)) (post:List aR) (s:List Fm) (Q:Post) (σ:Nat->PV) (H:AH):Prop:=match v with
 | .bool b=>if b=want then EC P ((⟨d,k,none⟩,false)::l) post s Q σ H else EC P l post s Q (upd σ d ud) H
 | .cK []=>EC P l post s Q (upd σ d ud) H
 |_=>False
def PCs (P:Program) (g:FuncId) (az:List PV) (d:Option Nat) (l:List (aR×Bool)) (post:List aR) (s:List Fm) (Q:Post) (σ:Nat->PV) (H:AH):Prop:=PC P g az fun p=>EC P l post s Q (upd σ d p) H
def M9 (P:Program) (m:Nat) (pr:List (aR×Bool)) (post:List aR) (s:List Fm) (Q:Post) (σ:Nat->PV) (H:AH):Prop:=mP P m pr (fun σ' H'=>WO P post s Q σ' H') σ H
def WTR (P:Program) (m:Nat) (o:Option PV) (d:Option Nat) (l:List (aR×Bool)) (post:List aR) (s:List Fm) (Q:Post) (σ:Nat->PV) (H:AH):Prop:=match o with
 |some p=>M9 P m l post s Q (upd σ d p) H
 |none=>False
def WTD (P:Program) (m:Nat) (o:Option (PV×AH)) (d:Option Nat) (l:List (aR×Bool)) (post:List aR) (s:List Fm) (Q:Post) (σ:Nat->PV):Prop:=match o with
 |some (p,H)=>M9 P m l post s Q (upd σ d p) H
 |none=>False
def noM (m:Nat):PV->Prop
 | .ref id _=>(id=m)=False
 |_=>True
def isM (m:Nat):PV->Prop
 | .ref id _=>id=m
 |_=>False
theorem apt {pr:List (aR×Bool)} {post:List aR} (m:Nat) (h:M9 P m pr post s Q σ H):WS P (.par pr post) s Q σ H:=⟨_,fun _ _=>rfl,rP H _ _ _ (fun _ _=>rfl) h⟩
section
variable {m:Nat} {d:Option Nat} {l:List (aR×Bool)} {post:List aR}
theorem apu:M9 P m [] post s Q σ H=WO P post s Q σ H:=rfl
theorem aku {p:PV}:WTR P m (some p) d l post s Q σ H=M9 P m l post s Q (upd σ d p) H:=rfl
theorem akv {p:PV}:WTD P m (some (p,H)) d l post s Q σ=M9 P m l post s Q (upd σ d p) H:=rfl
theorem akw {n:Nat} {a:Bool} {x:AE}:M9 P m ((⟨d,.r (.load n a x),none⟩,false)::l) post s Q σ H=(noM m (x.ev σ)/\WTR P m (rop (.load n a x) σ H) d l post s Q σ H):=by
 show(_/\_)=_
 congr 1
 cases x.ev σ<;>simp [noM]
theorem apv {o:Nat} {x:AE}:M9 P m ((⟨d,.r (.X3 o x),none⟩,false)::l) post s Q σ H=WTR P m (rop (.X3 o x) σ H) d l post s Q σ H:=rfl
theorem apw {x:AE}:M9 P m ((⟨d,.r (.len x),none⟩,false)::l) post s Q σ H=WTR P m (rop (.len x) σ H) d l post s Q σ H:=rfl
theorem akx {n z:Nat} {x i:AE}:M9 P m ((⟨d,.r (.r9 n z x i),none⟩,false)::l) post s Q σ H=WTR P m (rop (.r9 n z x i) σ H) d l post s Q σ H:=rfl
theorem aib {n:Nat} {x v:AE}:M9 P m ((⟨d,.d (.store n x v),none⟩,true)::l) post s Q σ H=(isM m (x.ev σ)/\WTD P m (iH (.store n x v) σ H) d l post s Q σ):=rfl
theorem apx {id o:Nat}:noM m (.ref id o)=((id=m)=False):=rfl
theorem apy {id o:Nat}:isM m (.ref id o)=(id=m):=rfl
end
theorem iJ {pr:List (aR×Bool)} {post:List aR} (h:EC P pr post s Q σ H):WS P (.par pr post) s Q σ H:=aqQ (je _ _ h)
section
variable {d:Option Nat} {l:List (aR×Bool)} {post:List aR} {want:Bool} {k:AK}
theorem apz:EC P [] post s Q σ H=WO P post s Q σ H:=rfl
theorem avg {k:RK}:EC P ((⟨d,.r k,none⟩,false)::l) post s Q σ H=WPR P (rop k σ H) d l post s Q σ H:=rfl
theorem aky {p:PV}:WPR P (some p) d l post s Q σ H=EC P l post s Q (upd σ d p) H:=rfl
theorem akz {g:FuncId} {fs cs:List PV} {az:List AE}:EC P ((⟨d,.call (.c (.fn (.func g) fs cs)) az,none⟩,false)::l) post s Q σ H=PCs P g (fs++evs σ az++cs) d l post s Q σ H:=rfl
theorem aq1 {k:RK} {t:Nat}:EC P ((⟨d,.r k,some (t,want)⟩,false)::l) post s Q σ H=WPG P (σ t) want d (.r k) l post s Q σ H:=rfl
theorem aic {g:FuncId} {fs cs:List PV} {az:List AE} {t:Nat}:EC P ((⟨d,.call (.c (.fn (.func g) fs cs)) az,some (t,want)⟩,false)::l) post s Q σ H=WPG P (σ t) want d (.call (.c (.fn (.func g) fs cs)) az) l post s Q σ H:=rfl
theorem aq2:WPG P (.bool true) true d k l post s Q σ H=EC P ((⟨d,k,none⟩,false)::l) post s Q σ H:=rfl
theorem aq3:WPG P (.bool false) false d k l post s Q σ H=EC P ((⟨d,k,none⟩,false)::l) post s Q σ H:=rfl
theorem aq4:WPG P (.bool true) false d k l post s Q σ H=EC P l post s Q (upd σ d ud) H:=rfl
theorem aq5:WPG P (.bool false) true d k l post s Q σ H=EC P l post s Q (upd σ d ud) H:=rfl
end
def bq (H:AH):Ck->Prop
 | .unk=>False
 | .tok t=>H.live t=true/\t<H.next
 |_=>True
def kr (c d:Ck):Prop:= ∀t,c= .tok t->d≠ .tok t
theorem bq.nil:bq H .nil:=trivial
theorem bq.exact:bq H .exact:=trivial
theorem bq.new {c:Ck} {cs:List PV} (h:bq H c):bq (H.new cs) c:=by
 cases c with
 |tok t=>exact⟨h.1,Nat.lt_succ_of_lt h.2⟩
 |unk=>exact h
 |nil=>trivial
 |exact=>trivial
theorem bq.put {c:Ck} {id:Nat} {cs:List PV} (h:bq H c):bq (H.put id cs) c:=by
 cases c with
 |tok t=>exact h
 |unk=>exact h
 |nil=>trivial
 |exact=>trivial
theorem kr.nil {c:Ck}:kr .nil c:=fun _ h=>by cases h
theorem kr.exact {c:Ck}:kr .exact c:=fun _ h=>by cases h
theorem kr.symm {c d:Ck} (h:kr c d):kr d c:=fun t h1 h2=>h t h2 h1
def kT (sz:Nat) (cs:List PV):Prop:=cs.length=sz/\ ∀c∈cs,c.one=true
theorem oD {α:Type} {sz:Nat} {f:α->List PV} (hf: ∀x,kT sz (f x)) (l:List α):pE sz (l.map f):=by
 intro cs h;obtain⟨x,_,rfl⟩:=List.mem_map.1 h;exact hf x
theorem gq {α:Type} {d:Option Nat} {sz b:Nat} {x y:AE} {l:List aR} {f:α->List PV} (hf: ∀x,kT sz (f x)) (xs ys:List α) (c c2:Ck)
 (hx:x.ev σ= .ak (xs.map f) c) (hy:JU (y.ev σ)= .ak (ys.map f) c2) (hok:bq H c) (hb:(xs.length+ys.length)*b<=1099511627776)
 (h: ∀(c':Ck) (H':AH),bq H' c'->H.next<=H'.next->(∀i,H'.obj i=H.obj i)->(∀c3,bq H c3->kr c c3->bq H' c3/\kr c' c3)->WO P l s Q (upd σ d (.ak ((xs++ys).map f) c')) H'):
 WO P (⟨d,.d (.app sz b x y),none⟩::l) s Q σ H:=by
 show dH P _ _ σ H
 simp only [ah4,iH,hx,hy,KN];by_cases h0:ys=[]
 · subst h0;simp only [List.map_nil,List.length_nil,↓reduceIte];have:=h c H hok (Nat.le_refl _) (fun _=>rfl) (fun c3 h1 h2=>⟨h1,h2⟩);show WO P l s Q _ H;simpa using this
 · have h1: ¬((ys.map f).length=0):=by simpa using h0
   rw [if_neg h1,if_pos ⟨oD hf xs,oD hf ys,by simpa using hb⟩,<-List.map_append];have fresh: ∀H1:AH,H1.next=H.next->(∀i,H1.obj i=H.obj i)->(∀t,c≠ .tok t->H.live t=true->H1.live t=true)->WO P l s Q (upd σ d (.ak ((xs++ys).map f) (.tok H.next))) H1.tok:=by
    intro H1 e1 e2 e3;refine h (.tok H.next) H1.tok ⟨?_,?_⟩ ?_ (fun i=>e2 i) (fun c3 k1 k2=> ?_)
    · show(if H.next=H1.next then true else H1.live H.next)=true
      rw [if_pos e1.symm]
    · show H.next<H1.next+1
      omega
    · show H.next<=H1.next+1
      omega
    · cases c3 with
      |tok t=>
       refine⟨⟨?_,?_⟩,fun t' h1' h2'=> ?_⟩
       · show(if t=H1.next then true else H1.live t)=true
         split
         · rfl
         · exact e3 t (fun e=>k2 t e rfl) k1.1
       · show t<H1.next+1
         have:=k1.2;omega
       · cases h1';cases h2';exact absurd k1.2 (Nat.lt_irrefl _)
      |unk=>exact k1.elim
      |nil=>exact⟨trivial,fun t h1' h2'=>by cases h2'⟩
      |exact=>exact⟨trivial,fun t h1' h2'=>by cases h2'⟩
   cases c with
   |unk=>exact hok.elim
   |nil=>exact fresh H rfl (fun _=>rfl) (fun _ _ h=>h)
   |exact=>exact fresh H rfl (fun _=>rfl) (fun _ _ h=>h)
   |tok t=>
    simp only [hok.1,↓reduceIte];refine fresh (H.use t) rfl (fun _=>rfl) (fun t' hne hl=> ?_);show(if t'=t then false else H.live t')=true;rw [if_neg (fun e=>hne (by rw [e])),hl]
theorem bA.wk {f:FuncId} {args args':List PV} {k:PV->AH->Prop} (h:bA P f args H k) (hw:Lw args' args):bA P f args' H k:=by
 obtain⟨h1,h2⟩:=hw.get;refine⟨h.enters,fun B G w vs hU hM hv=>h.call B G w vs hU hM ⟨hv.1.trans h1,fun j c x hc hx=> ?_⟩⟩;obtain⟨p,e,hp⟩:=h2 j c hc;exact hp _ _ _ (hv.2 j p x e hx)
theorem zJ {f:FuncId} {args args':List PV} {r:PV} {k:PV->AH->Prop} (h:aD P f args' r) (hz:J2 H args args') (ha:aX args') (hr:Sc r) (hk:k r H):bA P f args H k:=
 (aD.frozen hz.get ha.mem h hr).mono fun _ _ ⟨h1,h2⟩=>by subst h1;subst h2;exact hk
theorem aD.wk {f:FuncId} {args args':List PV} {r:PV} (h:aD P f args r) (hw:Lw args' args):aD P f args' r:=fun H=>(h H).wk hw
end
theorem aie (es:List (List PV)) (c:Ck):xP (.ak es c)=some (.int .i64 es.length):=rfl
theorem aif (a b c d e:Nat):xP (.bR a b c d e)=some (.int .i64 c):=rfl
theorem aii (sz:Nat) (es:List (List PV)) (c:Ck) (k:IntKind) (n:Int):jV sz (.ak es c) (.int k n)=if 0<=n then(match es[n.toNat]? with
 |some cs=>if cs.length=sz then some (.bS cs 0)else none
 |none=>none)else none:=rfl
theorem af6 (a b:List UInt8):Dz .eql a b=some (.bool (a==b)):=rfl
theorem af7 (a b:List UInt8):Dz .neq a b=some (.bool (!(a==b))):=rfl
theorem af8 (a b:List UInt8):Dz .lss a b=some (.bool (strLt a b)):=rfl
theorem aq6 (k:IntKind) (x:Int):wk (.int k x)= .int k x:=rfl
theorem apA (b:Bool):wk (.bool b)= .bool b:=rfl
theorem aq7 (s:List UInt8):wk (.str s)= .str s:=rfl
theorem aq8 (es:List (List PV)) (c:Ck):wk (.ak es c)= .ak es .unk:=rfl
theorem apB (c:Ck):JU (.ak [] c)= .ak [] c:=rfl
theorem akA (cs:List PV) (es:List (List PV)) (c:Ck):JU (.ak (cs::es) c)= .ak (cs.map wk::es.map fun cs=>cs.map wk) c:=rfl
attribute [go_sem] aqT akj aqU aph aqV apj apk akk ah8 aqW akl akm akn ako af3 af4 af5 apl
attribute [go_sem] aqX ah9 ay4 apm apn ay5 ava avb avc avd ave akp aqY apo aqZ akr apq aks avf
attribute [go_sem] apu aku akv akw apv apw akx aib apx apy
attribute [go_sem] aie aif aii af6 af7 af8
attribute [go_sem] aaG aaH af2 adR
attribute [go_sem] apz avg aky akz aq1 aic aq2 aq3 aq4 aq5
attribute [go_sem] aq6 apA aq7 aq8 apB akA apg aqR aqS aki ape apf ah6 List.map_cons List.map_nil
end Go.VL
end
section
namespace Go.VL
theorem wo {α:Type} {b:Bool} {x y:α} (h:b=true):cond b x y=x:=by rw [h];rfl
theorem oQ {α:Type} {b:Bool} {x y:α} (h:b=false):cond b x y=y:=by rw [h];rfl
theorem Aj {α β:Type} {x:Option α} {f:α->Option β} (h:x=none):Option.bind x f=none:=by rw [h];rfl
theorem Ak {α β:Type} {x:Option α} {f:α->Option β} {a:α} (h:x=some a):Option.bind x f=f a:=by rw [h];rfl
theorem bI {α β γ:Type} {f:α->γ} {g:β->γ} {a:α}:Sum.elim f g (.inl a)=f a:=rfl
theorem bL {α β γ:Type} {f:α->γ} {g:β->γ} {a:β}:Sum.elim f g (.inr a)=g a:=rfl
def Fr (L:List Nat) (σ σ':Nat->PV):Prop:= ∀t,t∉L->σ' t=σ t
theorem Fr.refl (L:List Nat) (σ:Nat->PV):Fr L σ σ:=fun _ _=>rfl
theorem Fr.upd {L:List Nat} {σ σ':Nat->PV} {d:Nat} {v:PV} (hd:d∈L) (h:Fr L σ σ'):Fr L σ (upd σ' (some d) v):=fun t ht=>by
 have: ¬t=d:=fun e=>ht (e▸hd);show(if t=d then v else σ' t)=σ t;rw [if_neg this];exact h t ht
theorem Fr.via {L L':List Nat} {σ σ' vZ:Nat->PV} (h':Fr L' σ' vZ) (hL: ∀t∈L',t∈L) (h:Fr L σ σ'):Fr L σ vZ:=fun t ht=>(h' t fun e=>ht (hL t e)).trans (h t ht)
def eu {α:Type} (f:α->List PV) (l:List α):List PV:=[.ak (l.map f) .unk]
theorem apC (s:Str):aH s=[.str s]:=rfl
theorem apD (n:Int):aS n=[.int .i64 n]:=rfl
theorem aq9 (n:Int):u8L n=[.int .u8 n]:=rfl
theorem ara {α:Type} (f:α->List PV) (l:List α):eu f l=[.ak (l.map f) .unk]:=rfl
theorem bE (s:Str): ∀c∈aH s,Pu c:=aX.mem (.cons (.str _) .nil)
theorem dF (n:Int): ∀c∈aS n,Pu c:=aX.mem (.cons (.int _ _) .nil)
theorem jA {α:Type} {f:α->List PV} (hf: ∀x,∀c∈f x,Pu c) (l:List α): ∀c∈eu f l,Pu c:=aX.mem (.cons (aT hf l) .nil)
theorem row_of {sz:Nat} {l:List PV} (h:l.length=sz) (h':l.all PV.one=true):kT sz l:=⟨h,fun c hc=>List.all_eq_true.1 h' c hc⟩
theorem jZ (s:Str):kT 1 (aH s):=row_of rfl rfl
theorem uZ (n:Int):kT 1 (aS n):=row_of rfl rfl
theorem T9 {α:Type} {f:α->List PV} (l:List α):kT 1 (eu f l):=row_of rfl rfl
instance:mX aH 1:=⟨fun _=>rfl,fun _=>rfl⟩
instance:mX aS 1:=⟨fun _=>rfl,fun _=>rfl⟩
instance {α:Type} (f:α->List PV):mX (eu f) 1:=⟨fun _=>rfl,fun _=>rfl⟩
instance:mX Nd.cells 5:=⟨fun _=>rfl,fun _=>rfl⟩
theorem akB (n k:Nat):(n=n+k)=(k=0):=propext ⟨fun h=>by omega,fun h=>by omega⟩
theorem add_add (n j k:Nat):(n+j=n+k)=(j=k):=propext ⟨fun h=>by omega,fun h=>by omega⟩
theorem Nd.pu (x:Nd): ∀c∈x.cells,Pu c:=aX.mem (.cons (.int _ _) (.cons (.int _ _) (.cons (.str _) (.cons (aT bE _) (.cons (aT dF _) .nil)))))
theorem Nd.row (x:Nd):kT 5 x.cells:=row_of rfl rfl
theorem Nd.jC (x:Nd):x.cells=[.int .i64 x.kind,.int .i64 x.n,.str x.text,.ak (x.names.map aH) .unk,.ak (x.args.map aS) .unk]:=rfl
attribute [go_sem] Int.natCast_nonneg Nat.mul_one Nat.zero_le akB add_add Nat.add_assoc apC apD aq9 ara Nd.jC
attribute [go_sem] Bool.not_true Bool.not_false Bool.true_eq_false Bool.false_eq_true true_implies false_implies and_true true_and implies_true if_true if_false ne_eq not_true_eq_false not_false_eq_true Int.cast_ofNat_Int Int.toNat_natCast beq_self_eq_true decide_true decide_false List.append_assoc
end Go.VL
namespace Go.VL
def HF (M:List Nat) (H H':AH):Prop:=H.next<=H'.next/\ ∀i,i<H.next->i∉M->H'.obj i=H.obj i
section
variable {M M':List Nat} {H H' fQ:AH}
theorem HF.refl (M:List Nat) (H:AH):HF M H H:=⟨Nat.le_refl _,fun _ _ _=>rfl⟩
theorem HF.new {cs:List PV} (h:HF M H H'):HF M H (H'.new cs):=⟨Nat.le_succ_of_le h.1,fun i hi hm=>by
 show(if i=H'.next then some cs else H'.obj i)=_
 have:i<H'.next:=Nat.lt_of_lt_of_le hi h.1;rw [if_neg (by omega)];exact h.2 i hi hm⟩
theorem HF.put {id:Nat} {cs:List PV} (hid:id∈M\/H.next<=id) (h:HF M H H'):HF M H (H'.put id cs):=⟨h.1,fun i hi hm=>by
 show(if i=id then some cs else H'.obj i)=_
 have: ¬i=id:=fun e=>by
  subst e;rcases hid with hid|hid
  · exact hm hid
  · omega
 rw [if_neg this];exact h.2 i hi hm⟩
theorem HF.via (h':HF M' H' fQ) (hM: ∀i∈M',i∈M\/H.next<=i) (h:HF M H H'):HF M H fQ:=⟨Nat.le_trans h.1 h'.1,fun i hi hm=>by
 rw [h'.2 i (Nat.lt_of_lt_of_le hi h.1) (fun e=>by
  rcases hM i e with q|q
  · exact hm q
  · omega)]
 exact h.2 i hi hm⟩
end
theorem ne_next {o n:Nat} (h:o<n):(o=n)=False:=eq_false (by omega)
theorem aZ {o n:Nat} (h:o<n) (j:Nat):(o=n+j)=False:=eq_false (by omega)
end Go.VL
end
section
namespace Go.VL
structure Sq where
 hyps:List (List Nd)
 goal:List Nd
deriving DecidableEq
def Sq.cells (x:Sq):List PV:=[(.ak (x.hyps.map (eu Nd.cells)) .unk),(.ak (x.goal.map Nd.cells) .unk)]
theorem Sq.jC (x:Sq):x.cells=[(.ak (x.hyps.map (eu Nd.cells)) .unk),(.ak (x.goal.map Nd.cells) .unk)]:=rfl
theorem Sq.pu (x:Sq): ∀c∈x.cells,Pu c:=aX.mem (.cons (aT (jA Nd.pu) _) (.cons (aT Nd.pu _) .nil))
attribute [go_sem] Sq.jC
end Go.VL
end
section
namespace Go.VL
open Go.RowKit
theorem Dec.args {P:Program} {t:TypeId} {R:List PV->Prop} (h:Dec P t R) {H:Type} {enc:TypeId×Value->H} {w:World} {v:Value} {d:DataW H} {ps:List MemPlace} (ht:DataW.Trod enc P w 0 (fun _=>true) true t v d ps): ∃q,R q/\F3 w q v.cells.toList:=by
 obtain⟨fuel,hf⟩:=ht;obtain⟨ps,h1,h2⟩:=h H enc w fuel _ _ hf;exact⟨ps,h2,h1⟩
theorem Ya {α:Type} {f:α->List PV}: ∀(es:List (List PV)),(∀cs∈es,∃x,cs=f x)-> ∃xs:List α,es=xs.map f
 |[],_=>⟨[],rfl⟩
 |cs::es,h=>by
  obtain⟨x,hx⟩:=h cs (List.mem_cons_self ..);obtain⟨xs,hxs⟩:=Ya es fun c hc=>h c (List.mem_cons_of_mem _ hc);exact⟨x::xs,by rw [hx,hxs];rfl⟩
theorem Dec.list {P:Program} {t e:TypeId} {α:Type} {f:α->List PV} (ht:P.underlying t=some (.slice e)) (hc:decide (0<P.cellsOf e)=true) (he:Dec P e fun l=> ∃x:α,l=f x):Dec P t fun l=> ∃xs:List α,l=eu f xs:=
 (Dec.slice ht (of_decide_eq_true hc) he).mono fun l ⟨es,h1,_,h2⟩=>by
  obtain⟨xs,hxs⟩:=Ya es fun cs hcs=>(h2 cs hcs).2;exact⟨xs,by rw [h1,hxs];rfl⟩
end Go.VL
end
section
namespace Go.Proofs.YtpkbfdgohkakaaaGreatDoor.kernelSequents
open Go.ChangeShapes Go.WideShapes Go.ChangeAt Go.RowKit Go.VL
set_option maxRecDepth 100000
theorem akC:Dec Tryz.prog 3 fun l=> ∃x:Int,l=aS x:=
 (Dec.int Tryz.underlying3).mono fun l ⟨n,e,_⟩=>⟨n,e⟩
theorem arb:Dec Tryz.prog 9 fun l=> ∃x:Str,l=aH x:=
 (Dec.string Tryz.underlying9).mono fun l ⟨n,e,_⟩=>⟨n,e⟩
theorem avh:Dec Tryz.prog 68 fun l=> ∃x:List Str,l=(eu aH) x:=
 Dec.list Tryz.underlying68 (by kernel_rfl) arb
theorem avi:Dec Tryz.prog 44 fun l=> ∃x:List Int,l=(eu aS) x:=
 Dec.list Tryz.underlying44 (by kernel_rfl) akC
theorem avj:Dec Tryz.prog 89 fun l=> ∃x:Nd,l=Nd.cells x:=by
 refine(Dec.struct (Rs:=[_,_,_,_,_]) Tryz.underlying89 (by kernel_rfl) ⟨rfl,akC,by kernel_rfl,akC,by kernel_rfl,arb,by kernel_rfl,avh,by kernel_rfl,avi,trivial⟩).mono ?_;rintro l ⟨l0,r0,rfl,-,⟨x0,rfl⟩,l1,r1,rfl,-,⟨x1,rfl⟩,l2,r2,rfl,-,⟨x2,rfl⟩,l3,r3,rfl,-,⟨x3,rfl⟩,l4,r4,rfl,-,⟨x4,rfl⟩,rfl⟩;exact⟨⟨x0,x1,x2,x3,x4⟩,by simp [Nd.jC,eu,aS,aH]⟩
theorem al8:Dec Tryz.prog 24 fun l=> ∃x:List Nd,l=(eu Nd.cells) x:=
 Dec.list Tryz.underlying24 (by kernel_rfl) avj
theorem avl:Dec Tryz.prog 22 fun l=> ∃x:List (List Nd),l=(eu (eu Nd.cells)) x:=
 Dec.list Tryz.underlying22 (by kernel_rfl) al8
theorem avm:Dec Tryz.prog 26 fun l=> ∃x:Sq,l=Sq.cells x:=by
 refine(Dec.struct (Rs:=[_,_]) Tryz.underlying26 (by kernel_rfl) ⟨rfl,avl,by kernel_rfl,al8,trivial⟩).mono ?_;rintro l ⟨l0,r0,rfl,-,⟨x0,rfl⟩,l1,r1,rfl,-,⟨x1,rfl⟩,rfl⟩;exact⟨⟨x0,x1⟩,by simp [Sq.jC,eu,aS,aH]⟩
theorem contract (KS: ∀(x0:Sq),bA Tryz.prog 3 [(.agg (Sq.cells x0))] AH.empty fun v _=>v= .bool true) (H:Type) (enc:TypeId×Value->H) (W:World) (base:Nat) (args:Array Value) (ds gs:List (DataW H)) (before:List MemPlace)
 (hval: ∀(j:Nat) t v,Tryz.f3.params[j]? =some t->args[j]? =some v->Value.okWide Tryz.prog W .any base t v)
 (hW:DataW.Whole enc Tryz.prog Tryz.f3.params.toList Rows.kernelSequentsSpec.vars false W args.toList ds gs before) (hL:laidMetH Tryz.prog CK W):
 Calls Tryz.prog 3 args W fun e W'=> ∃v,e= .returned v/\Rows.kernelSequentsSpec.post enc Tryz.prog Tryz.f3 false true false false W args v W':=by
 have hW':=hW;obtain⟨p,q,hA0,hV,rfl,hfz,hnd⟩:=hW;have hA:DataW.TrodAll enc Tryz.prog W 0 (fun _=>true) true Tryz.f3.params.toList args.toList ds p:=hA0;rw [Tryz.params3]at hA hval;obtain⟨v0,vs0,d0,ds0,p0,q0,aB5,rfl,rfl,h0,r0⟩:=trodAll_cons hA;obtain⟨rfl,rfl,rfl⟩:=trodAll_nil r0;obtain rfl:args=#[v0]:=by cases args;simp_all
 obtain⟨rfl,rfl⟩:=trodVars_none hV;obtain⟨cs0,rfl,_⟩:=okWide_struct Tryz.underlying26 (hval 0 26 v0 rfl rfl);obtain⟨q0,⟨x0,rfl⟩,hq0⟩:=avm.args h0;clear hA0;simp only [List.append_nil]at hW';have ay6: ∀x∈p0,x.block<W.heap.size:=fun x hx=>hW'.lt x (by simp [hx]);have hvs:F3 W [(.agg (Sq.cells x0))] [.agg cs0]:=by
  refine⟨rfl,fun j c x hc hx=> ?_⟩
  match j,hc,hx with
  |0,hc,hx=>
   cases hc;cases hx;rw [show(Value.agg cs0).cells=cs0 from rfl]at hq0;exact .agg _ cs0 (by simpa using hq0.1.symm) fun j c x e e'=>hq0.2 j c x e (by simpa using e')
 refine((KS x0).top (ao8 hL) (ao7 hL) hvs).mono fun e W' ⟨he,hb⟩=> ?_;subst he;refine⟨_,rfl,[d0],[],p0,[],p0,[],hW',trodAll_cons_mk (shut_bool Tryz.underlying4 _) trodAll_mk0,?_,rfl,hb.frame _,fun h=>by cases h⟩;have:=trodAll_cons_mk (stays (by kernel_rfl) (of_decide_eq_true (by kernel_rfl)) h0 hb ay6) (trodAll_mk0 (P:=Tryz.prog) (enc:=enc) (w:=W'));have avn:DataW.TrodAll enc Tryz.prog W' 0 (fun b=>decide (b<W.heap.size)) true [26] [.agg cs0] [d0] p0:=by simpa using this
 exact avn
theorem reads (os:Os) {H:Type} (enc:TypeId×Value->H): ∃places,DataW.whole enc Tryz.prog ((M8 os).forCall (fun _ _=>0) ⟨#[],#[.agg #[.slice none 0 0,.slice none 0 0]],[]⟩).memory Tryz.f3.params.toList Rows.kernelSequentsSpec.vars false (#[.agg #[.slice none 0 0,.slice none 0 0]]:Array Value).toList 8=some ([.agg [.nil,.nil]],[],places):=
 ⟨[],by kernel_rfl⟩
theorem lifted (KS: ∀(x0:Sq),bA Tryz.prog 3 [(.agg (Sq.cells x0))] AH.empty fun v _=>v= .bool true) (os:Os) (started:os.Started) (H:Type) (enc:TypeId×Value->H) (F:Stop.Interp):
 ReturnsInHanded {} Tryz.checked os 3 .any ((OpenSpec.ofChange Rows.kernelSequentsSpec).preRow enc Tryz.prog Tryz.f3 Rows.kernelSequentsRow.domain false Rows.kernelSequentsRow.laid) (((OpenSpec.ofChange Rows.kernelSequentsSpec).at F).post enc Tryz.prog Tryz.f3 false true false false):=by
 obtain⟨places,hx⟩:=reads os enc
 refine returnsInHanded_of_row (C:=Tryz.checked) (s:=OpenSpec.ofChange Rows.kernelSequentsSpec) own started (by kernel_rfl) Tryz.func3
  (witness_row_atRef (enc:=enc) (C:=Tryz.checked) false (M8 os) #[.agg #[.slice none 0 0,.slice none 0 0]] rfl (by kernel_rfl) (by kernel_rfl) (by kernel_rfl)
   (OpenSpec.preRow_of_cond 8 hx (by kernel_rfl) (fun k hk=>by cases hk) (by kernel_rfl) (akg os _))) ?_
 intro W base args ds gs before hval hW _ _ _ hL _ _;exact contract KS H enc W base args ds gs before hval hW hL
end Go.Proofs.YtpkbfdgohkakaaaGreatDoor.kernelSequents
end
