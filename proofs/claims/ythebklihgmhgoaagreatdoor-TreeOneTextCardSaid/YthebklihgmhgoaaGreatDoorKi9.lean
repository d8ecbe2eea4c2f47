/- TreeOneText -/
import Derived.Test.YthebklihgmhgoaaGreatDoorKi8
import Derived.Test.YthebklihgmhgoaaGreatDoorCards
import Derived.Test.YthebklihgmhgoaaGreatDoorTie
import Derived.WalkKit
import Derived.ProofKit
import Derived.OpenShut
import Derived.Deep.DeepHandedRow
import Derived.Deep.DeepWitnessRowRef
import Derived.Lib.LaidTab
import Derived.Carry
set_option linter.unusedVariables false
set_option linter.unusedSectionVars false
set_option linter.unusedSimpArgs false
section
namespace Go.Proofs.YthebklihgmhgoaaGreatDoor
open Go.ChangeShapes Go.WideShapes Go.ChangeAt Go.RowKit Go.VL
set_option maxRecDepth 100000
theorem own:ownKnob Tryz.prog.godebug=none:=by kernel_rfl
theorem laidOut:laidOutB Tryz.prog=true:=by kernel_rfl
abbrev Dx:List (String×DataW Unit):=[("math/bits.deBruijn32tab",Rows.laid_math_bits_deBruijn32tab),("math/bits.deBruijn64tab",Rows.laid_math_bits_deBruijn64tab),("internal/strconv.uint64pow10",Rows.laid_internal_strconv_uint64pow10),("unicode.White_Space",Rows.laid_unicode_White_Space),("strings.asciiSpace",Rows.laid_strings_asciiSpace)]
theorem tO {P:Program} {x:String×DataW Unit} {l:List (String×DataW Unit)} {w:World} (h:laidMet P (x::l) w):laidMet P l w:=by
  obtain⟨ps,⟨g,t,cs,fuel,p,q,h1,h2,h3,h4,h5,rfl⟩,hn,hr⟩:=h;exact⟨q,h5,(List.nodup_append.1 hn).2.1,fun b off hp=>hr b off (List.mem_append_right _ hp)⟩
theorem Jh {W:World} {name:String} {k:IntKind} {zs:List Int} {d0:DataW Unit} (hd:d0=Lib.tabData k zs) {rest:List (String×DataW Unit)} {g:Nat} {t e:TypeId} {n:Nat} (hg:Tryz.prog.globalNamed name=some g) (hty:(Tryz.prog.globals[g]?).map (·.type)=some t)
    (ht:Tryz.prog.underlying t=some (.array n e)) (he:Tryz.prog.underlying e=some (.int k)) (hce:Tryz.prog.cellsOf e=1) (hct:Tryz.prog.cellsOf t=n) (h:laidMet Tryz.prog ((name,d0)::rest) W) (i:Nat) (x:Int) (hx:zs[i]? =some x):
    W.cell? ⟨g,i,none⟩=some (.int k x):=by
  subst hd;have hi:=(List.getElem?_eq_some_iff.1 hx).1;have:=(Lib.tabIs_of_head hg hty ht he hce hct h).cell hg i hi;rw [this];simp [List.getD,hx]
theorem Ji {W:World} {name:String} {k:IntKind} {zs:List Int} {d0:DataW Unit} (hd:d0=Lib.tabData k zs) {rest:List (String×DataW Unit)} {g:Nat} {t e:TypeId} {n:Nat} (hg:Tryz.prog.globalNamed name=some g) (hty:(Tryz.prog.globals[g]?).map (·.type)=some t)
    (ht:Tryz.prog.underlying t=some (.array n e)) (he:Tryz.prog.underlying e=some (.int k)) (hce:Tryz.prog.cellsOf e=1) (hct:Tryz.prog.cellsOf t=n) (h:laidMet Tryz.prog ((name,d0)::rest) W):
    ∃t fr,W.heap[g]? =some (.cells (zs.map (Value.int k)).toArray t fr):=by
  subst hd;have key:W.var? Tryz.prog name=some (zs.map fun z=>Value.int k z).toArray:=Lib.tabIs_of_head hg hty ht he hce hct h;unfold World.var? at key;rw [hg,Option.bind_some]at key;cases h:W.heap[g]? with
  |none=>rw [h]at key;cases key
  |some o=>
    rw [h]at key;cases o with
    |cells cs t fr=>cases key;exact⟨t,fr,rfl⟩
    |_=>cases key
theorem ac9 (b:Nat):tabs.get b=if b=0 then some (.u8,Aw)else if b=3 then some (.u64,QZ)else if b=4 then some (.u8,U5)else if b=5 then some (.u8,U6)else none:=by
  simp only [tabs,CJ.get,List.find?];by_cases h0:b=0
  · subst h0;rfl
  by_cases h3:b=3
  · subst h3;rfl
  by_cases h4:b=4
  · subst h4;rfl
  by_cases h5:b=5
  · subst h5;rfl
  simp [h0,h3,h4,h5,Ne.symm h0,Ne.symm h3,Ne.symm h4,Ne.symm h5,beq_eq_false_iff_ne.2 (Ne.symm h0),beq_eq_false_iff_ne.2 (Ne.symm h3),beq_eq_false_iff_ne.2 (Ne.symm h4),beq_eq_false_iff_ne.2 (Ne.symm h5)]
theorem aoh {W:World} (h:laidMetH Tryz.prog Dx W):WH (fun b=>W.heap.size<=b) W:=by
  have h:laidMet Tryz.prog Dx W:=h;have h1:=tO h;have h2:=tO h1;have h4:=tO (tO h2);have e4:(Rows.laid_math_bits_deBruijn32tab:DataW Unit)=Lib.tabData .u8 U5:=by kernel_rfl
  have e5:(Rows.laid_math_bits_deBruijn64tab:DataW Unit)=Lib.tabData .u8 U6:=by kernel_rfl
  have e3:(Rows.laid_internal_strconv_uint64pow10:DataW Unit)=Lib.tabData .u64 QZ:=by kernel_rfl
  have e0:(Rows.laid_strings_asciiSpace:DataW Unit)=Lib.tabData .u8 Aw:=by kernel_rfl
  have c4:=Ji (g:=4) e4 (by kernel_rfl) (by kernel_rfl) Tryz.underlying255 Tryz.underlying5 (by kernel_rfl) (by kernel_rfl) h;have c5:=Ji (g:=5) e5 (by kernel_rfl) (by kernel_rfl) Tryz.underlying256 Tryz.underlying5 (by kernel_rfl) (by kernel_rfl) h1;have c3:=Ji (g:=3) e3 (by kernel_rfl) (by kernel_rfl) Tryz.underlying250 Tryz.underlying183 (by kernel_rfl) (by kernel_rfl) h2;have c0:=Ji (g:=0) e0 (by kernel_rfl) (by kernel_rfl) Tryz.underlying216 Tryz.underlying5 (by kernel_rfl) (by kernel_rfl) h4;intro b arr e;have e:(tabs.get b).map (fun x=>(x.2.map (Value.int x.1)).toArray)=some arr:=e;have key: ∃t fr,W.heap[b]? =some (.cells arr t fr):=by
    rw [ac9]at e;by_cases a0:b=0
    · subst a0;cases e;exact c0
    by_cases a3:b=3
    · subst a3;cases e;exact c3
    by_cases a4:b=4
    · subst a4;cases e;exact c4
    by_cases a5:b=5
    · subst a5;cases e;exact c5
    simp only [a0,a3,a4,a5,↓reduceIte,Option.map_none]at e;cases e
  obtain⟨t,fr,hk⟩:=key;exact⟨Nat.not_le_of_lt (Array.getElem?_eq_some_iff.1 hk).1,t,fr,hk⟩
theorem aoi {W:World} (h:laidMetH Tryz.prog Dx W): ∀a x,ani.gc a=some x->W.cell? a=some x:=by
  have h:laidMet Tryz.prog Dx W:=h;have h1:=tO h;have h2:=tO h1;have h4:=tO (tO h2);have e4:(Rows.laid_math_bits_deBruijn32tab:DataW Unit)=Lib.tabData .u8 U5:=by kernel_rfl
  have e5:(Rows.laid_math_bits_deBruijn64tab:DataW Unit)=Lib.tabData .u8 U6:=by kernel_rfl
  have e3:(Rows.laid_internal_strconv_uint64pow10:DataW Unit)=Lib.tabData .u64 QZ:=by kernel_rfl
  have e0:(Rows.laid_strings_asciiSpace:DataW Unit)=Lib.tabData .u8 Aw:=by kernel_rfl
  have c4: ∀i x,U5[i]? =some x->W.cell? ⟨4,i,none⟩=some (.int .u8 x):=fun i x hx=>Jh e4 (by kernel_rfl) (by kernel_rfl) Tryz.underlying255 Tryz.underlying5 (by kernel_rfl) (by kernel_rfl) h i x hx;have c5: ∀i x,U6[i]? =some x->W.cell? ⟨5,i,none⟩=some (.int .u8 x):=fun i x hx=>Jh e5 (by kernel_rfl) (by kernel_rfl) Tryz.underlying256 Tryz.underlying5 (by kernel_rfl) (by kernel_rfl) h1 i x hx;have c3: ∀i x,QZ[i]? =some x->W.cell? ⟨3,i,none⟩=some (.int .u64 x):=fun i x hx=>Jh e3 (by kernel_rfl) (by kernel_rfl) Tryz.underlying250 Tryz.underlying183 (by kernel_rfl) (by kernel_rfl) h2 i x hx;have c0: ∀i x,Aw[i]? =some x->W.cell? ⟨0,i,none⟩=some (.int .u8 x):=fun i x hx=>Jh e0 (by kernel_rfl) (by kernel_rfl) Tryz.underlying216 Tryz.underlying5 (by kernel_rfl) (by kernel_rfl) h4 i x hx;intro a x e;obtain⟨b,o,sp⟩:=a;cases sp with
  |some s=>cases e
  |none=>
    have e:(match tabs.get b with|some (k,ns)=>ns[o]?.map (Value.int k)|none=>none)=some x:=e;have hb:=ac9 b;rw [hb]at e;by_cases h0:b=0
    · subst h0;simp only [↓reduceIte,Option.map_eq_some_iff]at e;obtain⟨y,hy,rfl⟩:=e;exact c0 o y hy
    by_cases h3:b=3
    · subst h3;simp only [↓reduceIte,Option.map_eq_some_iff,Nat.reduceEqDiff]at e;obtain⟨y,hy,rfl⟩:=e;exact c3 o y hy
    by_cases h4:b=4
    · subst h4;simp only [↓reduceIte,Option.map_eq_some_iff,Nat.reduceEqDiff]at e;obtain⟨y,hy,rfl⟩:=e;exact c4 o y hy
    by_cases h5:b=5
    · subst h5;simp only [↓reduceIte,Option.map_eq_some_iff,Nat.reduceEqDiff]at e;obtain⟨y,hy,rfl⟩:=e;exact c5 o y hy
    simp only [h0,h3,h4,h5,↓reduceIte]at e;cases e
noncomputable def OU (os:Os):World:=
  let N:=(World.settled Tryz.prog os).heap.size
  let w0:=World.holding Tryz.prog os ⟨#[.cells (([9,13,1,32,133,101,160,5760,5600,8192,8202,1,8232,8233,1,8239,8287,48,12288,12288,1]:List Nat).map fun(z:Nat)=>Value.int .u16 (z:Int)).toArray 244,.cells #[.slice (some ⟨N,0,none⟩) 7 7,.slice none 0 0,.int .i64 2] 241],#[],[]⟩
  let put (h:Array Obj) (g:Nat) (cs:Array Value):Array Obj:=h.modify g fun
    | .cells _ t frozen=> .cells cs t frozen
    |o=>o
  let h1:=put w0.heap 0 (Aw.map fun z=>Value.int .u8 z).toArray
  let h2:=put h1 3 (QZ.map fun z=>Value.int .u64 z).toArray
  let h3:=put h2 4 (U5.map fun z=>Value.int .u8 z).toArray
  let h4:=put h3 5 (U6.map fun z=>Value.int .u8 z).toArray
  let h5:=put h4 1 #[.pointer (some ⟨N+1,0,none⟩)]
  {w0 with heap:=h5}
theorem akM (os:Os) (args:Array Value):laidMet Tryz.prog Dx ((OU os).forCall (fun _ _=>0) ⟨#[],args,[]⟩).memory:=
  laidMet_of_run' 10 (by kernel_rfl) (by kernel_rfl)
theorem ae4:Dec Tryz.prog 23 fun l=> ∃e,l=[jg e]/\LZ e:=
  Dec.expr Tryz.underlying23 (by kernel_rfl) (Dec.node Tryz.underlying40 (by kernel_rfl) ⟨rfl,rfl⟩ ⟨rfl,rfl⟩ ⟨rfl,rfl⟩ ⟨rfl,rfl⟩ ⟨rfl,rfl⟩ Tryz.underlying9 Tryz.underlying3 Tryz.underlying37 Tryz.underlying38 (by kernel_rfl) (by kernel_rfl) (by kernel_rfl) (by kernel_rfl))
theorem stays {H:Type} {enc:TypeId×Value->H} {t:TypeId} (hr:Tryz.prog.readableRec t=true) (hrow:t<Tryz.prog.types.size) {W W':World} {v:Value} {d:DataW H} {ps:List MemPlace}
    (h:DataW.Trod enc Tryz.prog W 0 (fun _=>true) true t v d ps) (hb:Below W.heap.size W W') (hlt: ∀x∈ps,x.block<W.heap.size):DataW.Trod enc Tryz.prog W' 0 (fun b=>decide (b<W.heap.size)) true t v d ps:=
  Below.trod laidOut hr hrow h hb hlt
end Go.Proofs.YthebklihgmhgoaaGreatDoor
end
section
namespace Go.Proofs.YthebklihgmhgoaaGreatDoor.treeOneText
open Go.ChangeShapes Go.WideShapes Go.ChangeAt Go.RowKit Go.VL
set_option maxRecDepth 100000
theorem contract (LW: ∀(e0:List Nd) (e1:List Nd),LZ e0->LZ e1->dU Tryz.prog 5 [jg e0,jg e1] AH.empty fun v _=>v= .bool true) (H:Type) (enc:TypeId×Value->H) (W:World) (base:Nat) (args:Array Value) (ds gs:List (DataW H)) (before:List MemPlace)
    (hval: ∀(j:Nat) t v,Tryz.f5.params[j]? =some t->args[j]? =some v->Value.okWide Tryz.prog W .any base t v)
    (hW:DataW.Whole enc Tryz.prog Tryz.f5.params.toList Rows.treeOneTextSpec.vars false W args.toList ds gs before) (hL:laidMetH Tryz.prog Dx W):
    Calls Tryz.prog 5 args W fun e W'=> ∃v,e= .returned v/\Rows.treeOneTextSpec.post enc Tryz.prog Tryz.f5 false true false false W args v W':=by
  have hW':=hW;obtain⟨p,q,hA0,hV,rfl,hfz,hnd⟩:=hW;have hA:DataW.TrodAll enc Tryz.prog W 0 (fun _=>true) true Tryz.f5.params.toList args.toList ds p:=hA0;rw [Tryz.params5]at hA hval;obtain⟨v0,vs0,d0,ds0,p0,q0,aAA,rfl,rfl,h0,r0⟩:=trodAll_cons hA;obtain⟨v1,vs1,d1,ds1,p1,q1,as8,rfl,rfl,h1,r1⟩:=trodAll_cons r0;obtain⟨rfl,rfl,rfl⟩:=trodAll_nil r1;subst as8;obtain rfl:args=#[v0,v1]:=by cases args;simp_all
  obtain⟨rfl,rfl⟩:=trodVars_none hV;obtain⟨as9,ata,atb,rfl⟩:=okWide_slice Tryz.underlying23 (hval 0 23 v0 rfl rfl);obtain⟨atc,atd,ate,rfl⟩:=okWide_slice Tryz.underlying23 (hval 1 23 v1 rfl rfl);obtain⟨x0,⟨y0,rfl,w0⟩,hq0⟩:=ae4.arg h0 rfl;obtain⟨x1,⟨y1,rfl,w1⟩,hq1⟩:=ae4.arg h1 rfl;clear hA0;simp only [List.append_nil]at hW';have ayM: ∀x∈p0,x.block<W.heap.size:=fun x hx=>hW'.lt x (by simp [hx]);have hlt1: ∀x∈p1,x.block<W.heap.size:=fun x hx=>hW'.lt x (by simp [hx]);have hvs:Gc W [jg y0,jg y1] [.slice as9 ata atb,.slice atc atd ate]:=by
    refine⟨rfl,fun j c x hc hx=> ?_⟩
    match j,hc,hx with
    |0,hc,hx=>exact hq0.2 0 c x hc hx
    |1,hc,hx=>exact hq1.2 0 c x hc hx
  refine((LW y0 y1 w0 w1).top (aoi hL) (aoh hL) hvs).mono fun e W' ⟨he,hb⟩=> ?_;subst he;refine⟨_,rfl,[d0,d1],[],(p0++p1),[],(p0++p1),[],hW',trodAll_cons_mk (shut_bool Tryz.underlying4 _) trodAll_mk0,?_,rfl,hb.frame _,fun h=>by cases h⟩;have:=trodAll_cons_mk (stays (by kernel_rfl) (of_decide_eq_true (by kernel_rfl)) h0 hb ayM) (trodAll_cons_mk (stays (by kernel_rfl) (of_decide_eq_true (by kernel_rfl)) h1 hb hlt1) (trodAll_mk0 (P:=Tryz.prog) (enc:=enc) (w:=W')));have auH:DataW.TrodAll enc Tryz.prog W' 0 (fun b=>decide (b<W.heap.size)) true [23,23] [.slice as9 ata atb,.slice atc atd ate] [d0,d1] (p0++p1):=by simpa using this
  exact auH
theorem reads (os:Os) {H:Type} (enc:TypeId×Value->H): ∃places,DataW.whole enc Tryz.prog ((OU os).forCall (fun _ _=>0) ⟨#[],#[.slice none 0 0,.slice none 0 0],[]⟩).memory Tryz.f5.params.toList Rows.treeOneTextSpec.vars false (#[.slice none 0 0,.slice none 0 0]:Array Value).toList 8=some ([.nil,.nil],[],places):=
  ⟨[],by kernel_rfl⟩
theorem lifted (LW: ∀(e0:List Nd) (e1:List Nd),LZ e0->LZ e1->dU Tryz.prog 5 [jg e0,jg e1] AH.empty fun v _=>v= .bool true) (os:Os) (started:os.Started) (H:Type) (enc:TypeId×Value->H) (F:Stop.Interp):
    ReturnsInHanded {} Tryz.checked os 5 .any ((OpenSpec.ofChange Rows.treeOneTextSpec).preRow enc Tryz.prog Tryz.f5 Rows.treeOneTextRow.domain false Rows.treeOneTextRow.laid) (((OpenSpec.ofChange Rows.treeOneTextSpec).at F).post enc Tryz.prog Tryz.f5 false true false false):=by
  obtain⟨places,hx⟩:=reads os enc
  refine returnsInHanded_of_row (C:=Tryz.checked) (s:=OpenSpec.ofChange Rows.treeOneTextSpec) own started (by kernel_rfl) Tryz.func5
    (witness_row_atRef (enc:=enc) (C:=Tryz.checked) false (OU os) #[.slice none 0 0,.slice none 0 0] rfl (by kernel_rfl) (by kernel_rfl) (by kernel_rfl)
      (OpenSpec.preRow_of_cond 8 hx (by kernel_rfl) (fun k hk=>by cases hk) (by kernel_rfl) (akM os _))) ?_
  intro W base args ds gs before hval hW _ _ _ hL _ _;exact contract LW H enc W base args ds gs before hval hW hL
theorem said (LW: ∀(e0:List Nd) (e1:List Nd),LZ e0->LZ e1->dU Tryz.prog 5 [jg e0,jg e1] AH.empty fun v _=>v= .bool true):Rows.TreeOneTextSaid:=
  OpenClaim.holds_of_cond 5 Tryz.f5 rfl rfl rfl rfl rfl rfl rfl ⟨rfl,rfl,rfl,rfl,rfl⟩ rfl rfl rfl rfl rfl (by kernel_rfl) Tryz.func5 (by kernel_rfl)
    (of_decide_eq_true (by kernel_rfl)) (by unfold Func.isWrapper;first|(rw [if_pos (by decide+kernel)];kernel_rfl)|(rw [if_neg (by decide+kernel)];exact⟨rfl,rfl⟩))
    (fun os started H enc _ F=>by rw [OpenClaim.pre_eq_preRow];exact lifted LW os started H enc F)
theorem plain (f:FuncId) (fn:Func) (hf:Tryz.pinned.checked.prog.funcNamed "stutter/stutterlaw02.TreeOneText" =some f) (hfn:Tryz.pinned.checked.prog.funcs[f]? =some fn):
    false=Tryz.pinned.checked.prog.looks []/\ ∀(j:Nat) t,fn.params[j]? =some t->Tryz.pinned.checked.prog.wantsStandIn t=false:=by
  obtain rfl:f=5:=Option.some.inj ((show Tryz.prog.funcNamed "stutter/stutterlaw02.TreeOneText" =some 5 by kernel_rfl).symm.trans hf)|>.symm;obtain rfl:fn=Tryz.f5:=(Option.some.inj (Tryz.func5.symm.trans hfn)).symm;refine⟨by kernel_rfl,fun j t ht=> ?_⟩;rw [Tryz.params5]at ht;have hm:t=23\/t=23:=by simpa using Array.mem_of_getElem? ht
  rcases hm with rfl|rfl
  · exact(show Tryz.prog.wantsStandIn 23=false by kernel_rfl)
  · exact(show Tryz.prog.wantsStandIn 23=false by kernel_rfl)
theorem card (LW: ∀(e0:List Nd) (e1:List Nd),LZ e0->LZ e1->dU Tryz.prog 5 [jg e0,jg e1] AH.empty fun v _=>v= .bool true):Rows.TreeOneTextCardSaid:=
  Claim7.holds_tied_plain_at .later [] _ _ _ _ (said LW) (fun _ h=>by cases h) (by kernel_rfl) (fun _ h=>by cases h) treeOneText_row_tie rfl ⟨rfl,rfl⟩ (by kernel_rfl) rfl plain (by kernel_rfl)
end Go.Proofs.YthebklihgmhgoaaGreatDoor.treeOneText
end
section
namespace Go.Proofs.YthebklihgmhgoaaGreatDoor.treeOneText
open Go.VL
theorem LW (a b:List Nd) (_:LZ a) (_:LZ b):dU Tryz.prog 5 [jg a,jg b] AH.empty fun v _=>v= .bool true:=by
  obtain⟨k,hk⟩:=(Sy a b).get;exact dU.mono (UU hk AH.empty) fun _ _ h=>h.1
theorem proved:Rows.TreeOneTextCardSaid:=card LW
end Go.Proofs.YthebklihgmhgoaaGreatDoor.treeOneText
end
