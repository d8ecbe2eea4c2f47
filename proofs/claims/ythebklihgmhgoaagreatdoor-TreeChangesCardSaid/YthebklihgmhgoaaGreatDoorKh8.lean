/- TreeChanges -/
import Derived.Test.YthebklihgmhgoaaGreatDoorKh7
import Derived.Test.YthebklihgmhgoaaGreatDoorCards
import Derived.Test.YthebklihgmhgoaaGreatDoorTie
import Derived.WalkKit
import Derived.ProofKit
import Derived.OpenShut
import Derived.Deep.DeepHandedRow
import Derived.Deep.DeepWitnessRowRef
import Derived.Lib.LaidTab
import Derived.Carry
set_option linter.unusedVariables false
set_option linter.unusedSectionVars false
set_option linter.unusedSimpArgs false
section
namespace Go.Proofs.YthebklihgmhgoaaGreatDoor
open Go.ChangeShapes Go.WideShapes Go.ChangeAt Go.RowKit Go.VL
set_option maxRecDepth 100000
theorem own:ownKnob Tryz.prog.godebug=none:=by kernel_rfl
theorem laidOut:laidOutB Tryz.prog=true:=by kernel_rfl
abbrev Bp:List (String×DataW Unit):=[("math/bits.deBruijn32tab",Rows.laid_math_bits_deBruijn32tab),("math/bits.deBruijn64tab",Rows.laid_math_bits_deBruijn64tab),("internal/strconv.uint64pow10",Rows.laid_internal_strconv_uint64pow10),("unicode.White_Space",Rows.laid_unicode_White_Space),("strings.asciiSpace",Rows.laid_strings_asciiSpace)]
theorem rM {P:Program} {x:String×DataW Unit} {l:List (String×DataW Unit)} {w:World} (h:laidMet P (x::l) w):laidMet P l w:=by
  obtain⟨ps,⟨g,t,cs,fuel,p,q,h1,h2,h3,h4,h5,rfl⟩,hn,hr⟩:=h;exact⟨q,h5,(List.nodup_append.1 hn).2.1,fun b off hp=>hr b off (List.mem_append_right _ hp)⟩
theorem F8 {W:World} {name:String} {k:IntKind} {zs:List Int} {d0:DataW Unit} (hd:d0=Lib.tabData k zs) {rest:List (String×DataW Unit)} {g:Nat} {t e:TypeId} {n:Nat} (hg:Tryz.prog.globalNamed name=some g) (hty:(Tryz.prog.globals[g]?).map (·.type)=some t)
    (ht:Tryz.prog.underlying t=some (.array n e)) (he:Tryz.prog.underlying e=some (.int k)) (hce:Tryz.prog.cellsOf e=1) (hct:Tryz.prog.cellsOf t=n) (h:laidMet Tryz.prog ((name,d0)::rest) W) (i:Nat) (x:Int) (hx:zs[i]? =some x):
    W.cell? ⟨g,i,none⟩=some (.int k x):=by
  subst hd;have hi:=(List.getElem?_eq_some_iff.1 hx).1;have:=(Lib.tabIs_of_head hg hty ht he hce hct h).cell hg i hi;rw [this];simp [List.getD,hx]
theorem F9 {W:World} {name:String} {k:IntKind} {zs:List Int} {d0:DataW Unit} (hd:d0=Lib.tabData k zs) {rest:List (String×DataW Unit)} {g:Nat} {t e:TypeId} {n:Nat} (hg:Tryz.prog.globalNamed name=some g) (hty:(Tryz.prog.globals[g]?).map (·.type)=some t)
    (ht:Tryz.prog.underlying t=some (.array n e)) (he:Tryz.prog.underlying e=some (.int k)) (hce:Tryz.prog.cellsOf e=1) (hct:Tryz.prog.cellsOf t=n) (h:laidMet Tryz.prog ((name,d0)::rest) W):
    ∃t fr,W.heap[g]? =some (.cells (zs.map (Value.int k)).toArray t fr):=by
  subst hd;have key:W.var? Tryz.prog name=some (zs.map fun z=>Value.int k z).toArray:=Lib.tabIs_of_head hg hty ht he hce hct h;unfold World.var? at key;rw [hg,Option.bind_some]at key;cases h:W.heap[g]? with
  |none=>rw [h]at key;cases key
  |some o=>
    rw [h]at key;cases o with
    |cells cs t fr=>cases key;exact⟨t,fr,rfl⟩
    |_=>cases key
theorem ZI (b:Nat):tabs.get b=if b=0 then some (.u8,y7)else if b=3 then some (.u64,QT)else if b=4 then some (.u8,QU)else if b=5 then some (.u8,QV)else none:=by
  simp only [tabs,AQ.get,List.find?];by_cases h0:b=0
  · subst h0;rfl
  by_cases h3:b=3
  · subst h3;rfl
  by_cases h4:b=4
  · subst h4;rfl
  by_cases h5:b=5
  · subst h5;rfl
  simp [h0,h3,h4,h5,Ne.symm h0,Ne.symm h3,Ne.symm h4,Ne.symm h5,beq_eq_false_iff_ne.2 (Ne.symm h0),beq_eq_false_iff_ne.2 (Ne.symm h3),beq_eq_false_iff_ne.2 (Ne.symm h4),beq_eq_false_iff_ne.2 (Ne.symm h5)]
theorem ajP {W:World} (h:laidMetH Tryz.prog Bp W):WH (fun b=>W.heap.size<=b) W:=by
  have h:laidMet Tryz.prog Bp W:=h;have h1:=rM h;have h2:=rM h1;have h4:=rM (rM h2);have e4:(Rows.laid_math_bits_deBruijn32tab:DataW Unit)=Lib.tabData .u8 QU:=by kernel_rfl
  have e5:(Rows.laid_math_bits_deBruijn64tab:DataW Unit)=Lib.tabData .u8 QV:=by kernel_rfl
  have e3:(Rows.laid_internal_strconv_uint64pow10:DataW Unit)=Lib.tabData .u64 QT:=by kernel_rfl
  have e0:(Rows.laid_strings_asciiSpace:DataW Unit)=Lib.tabData .u8 y7:=by kernel_rfl
  have c4:=F9 (g:=4) e4 (by kernel_rfl) (by kernel_rfl) Tryz.underlying255 Tryz.underlying5 (by kernel_rfl) (by kernel_rfl) h;have c5:=F9 (g:=5) e5 (by kernel_rfl) (by kernel_rfl) Tryz.underlying256 Tryz.underlying5 (by kernel_rfl) (by kernel_rfl) h1;have c3:=F9 (g:=3) e3 (by kernel_rfl) (by kernel_rfl) Tryz.underlying250 Tryz.underlying183 (by kernel_rfl) (by kernel_rfl) h2;have c0:=F9 (g:=0) e0 (by kernel_rfl) (by kernel_rfl) Tryz.underlying216 Tryz.underlying5 (by kernel_rfl) (by kernel_rfl) h4;intro b arr e;have e:(tabs.get b).map (fun x=>(x.2.map (Value.int x.1)).toArray)=some arr:=e;have key: ∃t fr,W.heap[b]? =some (.cells arr t fr):=by
    rw [ZI]at e;by_cases a0:b=0
    · subst a0;cases e;exact c0
    by_cases a3:b=3
    · subst a3;cases e;exact c3
    by_cases a4:b=4
    · subst a4;cases e;exact c4
    by_cases a5:b=5
    · subst a5;cases e;exact c5
    simp only [a0,a3,a4,a5,↓reduceIte,Option.map_none]at e;cases e
  obtain⟨t,fr,hk⟩:=key;exact⟨Nat.not_le_of_lt (Array.getElem?_eq_some_iff.1 hk).1,t,fr,hk⟩
theorem ajQ {W:World} (h:laidMetH Tryz.prog Bp W): ∀a x,aje.gc a=some x->W.cell? a=some x:=by
  have h:laidMet Tryz.prog Bp W:=h;have h1:=rM h;have h2:=rM h1;have h4:=rM (rM h2);have e4:(Rows.laid_math_bits_deBruijn32tab:DataW Unit)=Lib.tabData .u8 QU:=by kernel_rfl
  have e5:(Rows.laid_math_bits_deBruijn64tab:DataW Unit)=Lib.tabData .u8 QV:=by kernel_rfl
  have e3:(Rows.laid_internal_strconv_uint64pow10:DataW Unit)=Lib.tabData .u64 QT:=by kernel_rfl
  have e0:(Rows.laid_strings_asciiSpace:DataW Unit)=Lib.tabData .u8 y7:=by kernel_rfl
  have c4: ∀i x,QU[i]? =some x->W.cell? ⟨4,i,none⟩=some (.int .u8 x):=fun i x hx=>F8 e4 (by kernel_rfl) (by kernel_rfl) Tryz.underlying255 Tryz.underlying5 (by kernel_rfl) (by kernel_rfl) h i x hx;have c5: ∀i x,QV[i]? =some x->W.cell? ⟨5,i,none⟩=some (.int .u8 x):=fun i x hx=>F8 e5 (by kernel_rfl) (by kernel_rfl) Tryz.underlying256 Tryz.underlying5 (by kernel_rfl) (by kernel_rfl) h1 i x hx;have c3: ∀i x,QT[i]? =some x->W.cell? ⟨3,i,none⟩=some (.int .u64 x):=fun i x hx=>F8 e3 (by kernel_rfl) (by kernel_rfl) Tryz.underlying250 Tryz.underlying183 (by kernel_rfl) (by kernel_rfl) h2 i x hx;have c0: ∀i x,y7[i]? =some x->W.cell? ⟨0,i,none⟩=some (.int .u8 x):=fun i x hx=>F8 e0 (by kernel_rfl) (by kernel_rfl) Tryz.underlying216 Tryz.underlying5 (by kernel_rfl) (by kernel_rfl) h4 i x hx;intro a x e;obtain⟨b,o,sp⟩:=a;cases sp with
  |some s=>cases e
  |none=>
    have e:(match tabs.get b with|some (k,ns)=>ns[o]?.map (Value.int k)|none=>none)=some x:=e;have hb:=ZI b;rw [hb]at e;by_cases h0:b=0
    · subst h0;simp only [↓reduceIte,Option.map_eq_some_iff]at e;obtain⟨y,hy,rfl⟩:=e;exact c0 o y hy
    by_cases h3:b=3
    · subst h3;simp only [↓reduceIte,Option.map_eq_some_iff,Nat.reduceEqDiff]at e;obtain⟨y,hy,rfl⟩:=e;exact c3 o y hy
    by_cases h4:b=4
    · subst h4;simp only [↓reduceIte,Option.map_eq_some_iff,Nat.reduceEqDiff]at e;obtain⟨y,hy,rfl⟩:=e;exact c4 o y hy
    by_cases h5:b=5
    · subst h5;simp only [↓reduceIte,Option.map_eq_some_iff,Nat.reduceEqDiff]at e;obtain⟨y,hy,rfl⟩:=e;exact c5 o y hy
    simp only [h0,h3,h4,h5,↓reduceIte]at e;cases e
noncomputable def LB (os:Os):World:=
  let N:=(World.settled Tryz.prog os).heap.size
  let w0:=World.holding Tryz.prog os ⟨#[.cells (([9,13,1,32,133,101,160,5760,5600,8192,8202,1,8232,8233,1,8239,8287,48,12288,12288,1]:List Nat).map fun(z:Nat)=>Value.int .u16 (z:Int)).toArray 244,.cells #[.slice (some ⟨N,0,none⟩) 7 7,.slice none 0 0,.int .i64 2] 241],#[],[]⟩
  let put (h:Array Obj) (g:Nat) (cs:Array Value):Array Obj:=h.modify g fun
    | .cells _ t frozen=> .cells cs t frozen
    |o=>o
  let h1:=put w0.heap 0 (y7.map fun z=>Value.int .u8 z).toArray
  let h2:=put h1 3 (QT.map fun z=>Value.int .u64 z).toArray
  let h3:=put h2 4 (QU.map fun z=>Value.int .u8 z).toArray
  let h4:=put h3 5 (QV.map fun z=>Value.int .u8 z).toArray
  let h5:=put h4 1 #[.pointer (some ⟨N+1,0,none⟩)]
  {w0 with heap:=h5}
theorem agZ (os:Os) (args:Array Value):laidMet Tryz.prog Bp ((LB os).forCall (fun _ _=>0) ⟨#[],args,[]⟩).memory:=
  laidMet_of_run' 10 (by kernel_rfl) (by kernel_rfl)
theorem abq:Dec Tryz.prog 23 fun l=> ∃e,l=[eU e]/\Xa e:=
  Dec.expr Tryz.underlying23 (by kernel_rfl) (Dec.node Tryz.underlying40 (by kernel_rfl) ⟨rfl,rfl⟩ ⟨rfl,rfl⟩ ⟨rfl,rfl⟩ ⟨rfl,rfl⟩ ⟨rfl,rfl⟩ Tryz.underlying9 Tryz.underlying3 Tryz.underlying37 Tryz.underlying38 (by kernel_rfl) (by kernel_rfl) (by kernel_rfl) (by kernel_rfl))
theorem stays {H:Type} {enc:TypeId×Value->H} {t:TypeId} (hr:Tryz.prog.readableRec t=true) (hrow:t<Tryz.prog.types.size) {W W':World} {v:Value} {d:DataW H} {ps:List MemPlace}
    (h:DataW.Trod enc Tryz.prog W 0 (fun _=>true) true t v d ps) (hb:Below W.heap.size W W') (hlt: ∀x∈ps,x.block<W.heap.size):DataW.Trod enc Tryz.prog W' 0 (fun b=>decide (b<W.heap.size)) true t v d ps:=
  Below.trod laidOut hr hrow h hb hlt
end Go.Proofs.YthebklihgmhgoaaGreatDoor
end
section
namespace Go.Proofs.YthebklihgmhgoaaGreatDoor.treeChanges
open Go.ChangeShapes Go.WideShapes Go.ChangeAt Go.RowKit Go.VL
set_option maxRecDepth 100000
theorem _root_.Go.VL.Dec.args {P:Program} {t:TypeId} {R:List PV->Prop} (h:Dec P t R) {H:Type} {enc:TypeId×Value->H} {w:World} {v:Value} {d:DataW H} {ps:List MemPlace} (ht:DataW.Trod enc P w 0 (fun _=>true) true t v d ps): ∃q,R q/\CQ w q v.cells.toList:=by
  obtain⟨fuel,hf⟩:=ht;obtain⟨ps,h1,h2⟩:=h H enc w fuel _ _ hf;exact⟨ps,h2,h1⟩
theorem aeN:Dec Tryz.prog 66 fun l=> ∃x:Change,l=x.cells:=by
  refine(Dec.struct (Rs:=[_,_,_,_]) Tryz.underlying66 (by kernel_rfl) ⟨rfl,Dec.string Tryz.underlying9,by kernel_rfl,Dec.string Tryz.underlying9,by kernel_rfl,Dec.int Tryz.underlying3,by kernel_rfl,abq,trivial⟩).mono ?_;rintro l ⟨l0,r0,rfl,-,⟨s,rfl,_⟩,l1,r1,rfl,-,⟨t,rfl,_⟩,l2,r2,rfl,-,⟨n,rfl,_⟩,l3,r3,rfl,-,⟨e,rfl,_⟩,rfl⟩;exact⟨⟨s,t,n,e⟩,rfl⟩
theorem contract (Ja: ∀(e0:List Nd) (x1:Change),Xa e0->cK Tryz.prog 9 [eU e0,.agg x1.cells] AH.empty fun v _=>v= .bool true) (H:Type) (enc:TypeId×Value->H) (W:World) (base:Nat) (args:Array Value) (ds gs:List (DataW H)) (before:List MemPlace)
    (hval: ∀(j:Nat) t v,Tryz.f9.params[j]? =some t->args[j]? =some v->Value.okWide Tryz.prog W .any base t v)
    (hW:DataW.Whole enc Tryz.prog Tryz.f9.params.toList Rows.treeChangesSpec.vars false W args.toList ds gs before) (hL:laidMetH Tryz.prog Bp W):
    Calls Tryz.prog 9 args W fun e W'=> ∃v,e= .returned v/\Rows.treeChangesSpec.post enc Tryz.prog Tryz.f9 false true false false W args v W':=by
  have hW':=hW;obtain⟨p,q,hA0,hV,rfl,hfz,hnd⟩:=hW;have hA:DataW.TrodAll enc Tryz.prog W 0 (fun _=>true) true Tryz.f9.params.toList args.toList ds p:=hA0;rw [Tryz.params9]at hA hval;obtain⟨v0,vs0,d0,ds0,p0,q0,av2,rfl,rfl,h0,r0⟩:=trodAll_cons hA;obtain⟨v1,vs1,d1,ds1,p1,q1,aol,rfl,rfl,h1,r1⟩:=trodAll_cons r0;obtain⟨rfl,rfl,rfl⟩:=trodAll_nil r1;subst aol;obtain rfl:args=#[v0,v1]:=by cases args;simp_all
  obtain⟨rfl,rfl⟩:=trodVars_none hV;obtain⟨aom,aon,aoo,rfl⟩:=okWide_slice Tryz.underlying23 (hval 0 23 v0 rfl rfl);obtain⟨cs1,rfl,_⟩:=okWide_struct Tryz.underlying66 (hval 1 66 v1 rfl rfl);obtain⟨x0,⟨y0,rfl,w0⟩,hq0⟩:=abq.arg h0 rfl;obtain⟨x1,⟨y1,rfl⟩,hq1⟩:=aeN.args h1;rw [show(Value.agg cs1).cells=cs1 from rfl]at hq1;clear hA0;simp only [List.append_nil]at hW';have atQ: ∀x∈p0,x.block<W.heap.size:=fun x hx=>hW'.lt x (by simp [hx]);have hlt1: ∀x∈p1,x.block<W.heap.size:=fun x hx=>hW'.lt x (by simp [hx]);have hvs:CQ W [eU y0,.agg y1.cells] [.slice aom aon aoo,.agg cs1]:=by
    refine⟨rfl,fun j c x hc hx=> ?_⟩
    match j,hc,hx with
    |0,hc,hx=>exact hq0.2 0 c x hc hx
    |1,hc,hx=>
      cases hc;cases hx;exact .agg _ cs1 (by simpa using hq1.1.symm) fun j c x e e'=>hq1.2 j c x e (by simpa using e')
  refine((Ja y0 y1 w0).top (ajQ hL) (ajP hL) hvs).mono fun e W' ⟨he,hb⟩=> ?_;subst he;refine⟨_,rfl,[d0,d1],[],(p0++p1),[],(p0++p1),[],hW',trodAll_cons_mk (shut_bool Tryz.underlying4 _) trodAll_mk0,?_,rfl,hb.frame _,fun h=>by cases h⟩;have:=trodAll_cons_mk (stays (by kernel_rfl) (of_decide_eq_true (by kernel_rfl)) h0 hb atQ) (trodAll_cons_mk (stays (by kernel_rfl) (of_decide_eq_true (by kernel_rfl)) h1 hb hlt1) (trodAll_mk0 (P:=Tryz.prog) (enc:=enc) (w:=W')));have apQ:DataW.TrodAll enc Tryz.prog W' 0 (fun b=>decide (b<W.heap.size)) true [23,66] [.slice aom aon aoo,.agg cs1] [d0,d1] (p0++p1):=by simpa using this
  exact apQ
theorem reads (os:Os) {H:Type} (enc:TypeId×Value->H): ∃places,DataW.whole enc Tryz.prog ((LB os).forCall (fun _ _=>0) ⟨#[],#[.slice none 0 0,.agg #[.string ⟨#[]⟩,.string ⟨#[]⟩,.int .i64 0,.slice none 0 0]],[]⟩).memory Tryz.f9.params.toList Rows.treeChangesSpec.vars false (#[.slice none 0 0,.agg #[.string ⟨#[]⟩,.string ⟨#[]⟩,.int .i64 0,.slice none 0 0]]:Array Value).toList 8=some ([.nil,.agg [.lit (.string []),.lit (.string []),.lit (.int .i64 0),.nil]],[],places):=
  ⟨[],by kernel_rfl⟩
theorem lifted (Ja: ∀(e0:List Nd) (x1:Change),Xa e0->cK Tryz.prog 9 [eU e0,.agg x1.cells] AH.empty fun v _=>v= .bool true) (os:Os) (started:os.Started) (H:Type) (enc:TypeId×Value->H) (F:Stop.Interp):
    ReturnsInHanded {} Tryz.checked os 9 .any ((OpenSpec.ofChange Rows.treeChangesSpec).preRow enc Tryz.prog Tryz.f9 Rows.treeChangesRow.domain false Rows.treeChangesRow.laid) (((OpenSpec.ofChange Rows.treeChangesSpec).at F).post enc Tryz.prog Tryz.f9 false true false false):=by
  obtain⟨places,hx⟩:=reads os enc
  refine returnsInHanded_of_row (C:=Tryz.checked) (s:=OpenSpec.ofChange Rows.treeChangesSpec) own started (by kernel_rfl) Tryz.func9
    (witness_row_atRef (enc:=enc) (C:=Tryz.checked) false (LB os) #[.slice none 0 0,.agg #[.string ⟨#[]⟩,.string ⟨#[]⟩,.int .i64 0,.slice none 0 0]] rfl (by kernel_rfl) (by kernel_rfl) (by kernel_rfl)
      (OpenSpec.preRow_of_cond 8 hx (by kernel_rfl) (fun k hk=>by cases hk) (by kernel_rfl) (agZ os _))) ?_
  intro W base args ds gs before hval hW _ _ _ hL _ _;exact contract Ja H enc W base args ds gs before hval hW hL
theorem said (Ja: ∀(e0:List Nd) (x1:Change),Xa e0->cK Tryz.prog 9 [eU e0,.agg x1.cells] AH.empty fun v _=>v= .bool true):Rows.TreeChangesSaid:=
  OpenClaim.holds_of_cond 9 Tryz.f9 rfl rfl rfl rfl rfl rfl rfl ⟨rfl,rfl,rfl,rfl,rfl⟩ rfl rfl rfl rfl rfl (by kernel_rfl) Tryz.func9 (by kernel_rfl)
    (of_decide_eq_true (by kernel_rfl)) (by unfold Func.isWrapper;first|(rw [if_pos (by decide+kernel)];kernel_rfl)|(rw [if_neg (by decide+kernel)];exact⟨rfl,rfl⟩))
    (fun os started H enc _ F=>by rw [OpenClaim.pre_eq_preRow];exact lifted Ja os started H enc F)
theorem plain (f:FuncId) (fn:Func) (hf:Tryz.pinned.checked.prog.funcNamed "stutter/stutterlaw02.TreeChanges" =some f) (hfn:Tryz.pinned.checked.prog.funcs[f]? =some fn):
    false=Tryz.pinned.checked.prog.looks []/\ ∀(j:Nat) t,fn.params[j]? =some t->Tryz.pinned.checked.prog.wantsStandIn t=false:=by
  obtain rfl:f=9:=Option.some.inj ((show Tryz.prog.funcNamed "stutter/stutterlaw02.TreeChanges" =some 9 by kernel_rfl).symm.trans hf)|>.symm;obtain rfl:fn=Tryz.f9:=(Option.some.inj (Tryz.func9.symm.trans hfn)).symm;refine⟨by kernel_rfl,fun j t ht=> ?_⟩;rw [Tryz.params9]at ht;have hm:t=23\/t=66:=by simpa using Array.mem_of_getElem? ht
  rcases hm with rfl|rfl
  · exact(show Tryz.prog.wantsStandIn 23=false by kernel_rfl)
  · exact(show Tryz.prog.wantsStandIn 66=false by kernel_rfl)
theorem card (Ja: ∀(e0:List Nd) (x1:Change),Xa e0->cK Tryz.prog 9 [eU e0,.agg x1.cells] AH.empty fun v _=>v= .bool true):Rows.TreeChangesCardSaid:=
  Claim7.holds_tied_plain_at .later [] _ _ _ _ (said Ja) (fun _ h=>by cases h) (by kernel_rfl) (fun _ h=>by cases h) treeChanges_row_tie rfl ⟨rfl,rfl⟩ (by kernel_rfl) rfl plain (by kernel_rfl)
end Go.Proofs.YthebklihgmhgoaaGreatDoor.treeChanges
end
section
namespace Go.Proofs.YthebklihgmhgoaaGreatDoor.treeChanges
open Go.VL
theorem Ja (e:List Nd) (x:Change) (_:Xa e):cK Tryz.prog 9 [eU e,.agg x.cells] AH.empty fun v _=>v= .bool true:=by
  obtain⟨k,hk⟩:=(OM e x).get;exact cK.mono (QI hk AH.empty) fun _ _ h=>h.1
theorem proved:Rows.TreeChangesCardSaid:=card Ja
end Go.Proofs.YthebklihgmhgoaaGreatDoor.treeChanges
end
