/- Part 4 of the proof: what the theorem rests on. -/
import Derived.Test.YthebklihgmhgoaaGreatDoorKb3
import Derived.IntWalk
import Derived.Test.YthebklihgmhgoaaGreatDoorRows
import Derived.RangeFuncOwn
import Derived.TacticsIn
import Derived.TacticsInMore
import Derived.LoopIn
import Derived.Walk
import Derived.WalkKit
import Derived.KernelRfl
import Derived.Lib.SlicesCompact
import Derived.Lib.RowBridge
set_option linter.unusedVariables false
set_option linter.unusedSectionVars false
set_option linter.unusedSimpArgs false
section
set_option maxRecDepth 8000
set_option maxHeartbeats 4000000
namespace Go.VL
open Go.Proofs
def t_table_1_b0 : Nat → Int → Int → (List Operator) → (List Str) → Int → Int → Option (List Operator)
  | 0, _, _, _, _, _, _ => none
  | k + 1, low_0, high_1, out_7, t_10, t_11, t_12 =>
    cond (decide (t_12 < t_11)) (if 0 ≤ t_12 then Option.bind (t_10[t_12.toNat]?) fun x3 => if (out_7.length + 1) * 64 ≤ 1099511627776 then t_table_1_b0 k low_0 high_1 (out_7 ++ [(Operator.mk x3 0 low_0 high_1 false 1 1)]) t_10 t_11 (IntKind.wrap .i64 (t_12 + 1)) else none else none) (some (out_7))
def t_table_1_b0l : List Nat := [7, 9] ++ List.range' 12 12
theorem t_table_1_b0_W : ∀ (k : Nat) (low_0 : Int) (high_1 : Int) (out_7 : List Operator) (t_10 : List Str) (t_11 : Int) (t_12 : Int) (c_out_7_b0 : Ck) (σ0 σ : Nat → PV) (H0 H : AH) (f0 : Fr t_table_1_b0l σ0 σ) (hf0 : HF [] H0 H) (sl : σ 0 = (.int .i64 low_0) ∧ σ 1 = (.int .i64 high_1) ∧ σ 7 = (.isl (out_7.map Operator.cells) c_out_7_b0) ∧ σ 10 = (.isl (t_10.map strL) .unk) ∧ σ 11 = (.int .i64 t_11) ∧ σ 12 = (.int .i64 t_12)) (ok_out_7 : okc H c_out_7_b0) (o : List Operator) (h : t_table_1_b0 k low_0 high_1 out_7 t_10 t_11 t_12 = some o) (Q : Post) (q0 : ∀ (p : List Operator) (c0 : Ck) (σ' : Nat → PV) (H' : AH), o = p → Fr t_table_1_b0l σ0 σ' → HF [] H0 H' → (σ' 7 = (.isl (p.map Operator.cells) c0)) → Q (.exit 0) σ' H') , W Tryz.prog (.loop ac113_b0) Q σ H := by
  intro k
  induction k with
  | zero => intro low_0 high_1 out_7 t_10 t_11 t_12 c_out_7_b0 σ0 σ H0 H f0 hf0 sl ok_out_7 o h Q q0; simp only [t_table_1_b0, reduceCtorEq] at h
  | succ k ih =>
    intro low_0 high_1 out_7 t_10 t_11 t_12 c_out_7_b0 σ0 σ H0 H f0 hf0 sl ok_out_7 o h Q q0
    obtain ⟨s0, s1, s7, s10, s11, s12⟩ := sl
    have hle0 := hf0.1
    unfold t_table_1_b0 at h
    refine W_loopK (fun K hK => W_start ?_)
    unfold ac113_b0
    rcases cond_E h with ⟨e1, h⟩ | ⟨e1, h⟩
    ·obtain ⟨e2, h⟩ := if_E h
     obtain ⟨x3, e4, h⟩ := bind_E h
     obtain ⟨e9, h⟩ := if_E h
     try refine gos_ ?_
     refine WO_app (f := Operator.cells) Operator.row out_7 ([(Operator.mk x3 0 low_0 high_1 false 1 1)] : List Operator) c_out_7_b0 .exact sls_ sls_ ok_ (by first | exact e9 | (simp only [List.length_cons, List.length_nil] ; exact e9)) (fun c5 H6 ok7 le ob10 rl8 => ?_)
     have hf11 : HF [] _ H6 := ⟨le, fun i _ _ => ob10 i⟩
     try simp only [AH.new_next, AH.put_next, AH.tok_next, AH.use_next] at le
     try refine gos_ ?_
     refine hK _ _ ?_
     exact ih low_0 high_1 (out_7 ++ [(Operator.mk x3 0 low_0 high_1 false 1 1)]) t_10 t_11 (IntKind.wrap .i64 (t_12 + 1)) c5 _ _ _ _ fr_ (by repeat (first | exact hf0 | refine HF.new ?_ | refine HF.tokd ?_ | refine HF.used ?_ | refine HF.put (by first | (right; omega) | (left; simp only [List.mem_cons, true_or, or_true])) ?_ | refine HF.via hf11 (by first | exact fun i hi => absurd hi List.not_mem_nil | (intro i hi; simp only [List.mem_cons, List.not_mem_nil, or_false] at hi ⊢; first | exact .inl hi | omega)) ?_)) sls_ ok_ _ h _ q0
    ·obtain rfl := som_E h
     try refine gos_ ?_
     exact q0 _ c_out_7_b0 _ _ rfl fr_ (by repeat (first | exact hf0 | refine HF.new ?_ | refine HF.tokd ?_ | refine HF.used ?_ | refine HF.put (by first | (right; omega) | (left; simp only [List.mem_cons, true_or, or_true])) ?_)) sls_
def t_table_1 (k : Nat) (low_0 : Int) (high_1 : Int) (texts_2 : List Str) : Option (List Operator) :=
  Option.bind (t_table_1_b0 k low_0 high_1 ([] : List Operator) texts_2 (texts_2.length : Int) 0) (fun p14 => some p14)
theorem t_table_1_c {k : Nat} {low_0 : Int} {high_1 : Int} {texts_2 : List Str} {c2 : Ck} {r : List Operator} (h : t_table_1 k low_0 high_1 texts_2 = some r) : PCall Tryz.prog 113 [(.int .i64 low_0), (.int .i64 high_1), (.isl (texts_2.map strL) c2)] (.isl (r.map Operator.cells) .unk) := by
  refine PCall.lw (.same (.same (.isl .nil))) (PCall.of_empty (PuL.mem (.cons (.int _ _) (.cons (.int _ _) (.cons (pu_sl pu_strL _) .nil)))) (MCall_of_W ok113 (by simp) (W_start ?_)) (pu_sl Operator.pu _))
  unfold t_table_1 at h
  unfold ac113
  try refine gos_ ?_
  obtain ⟨o12, h13, h⟩ := bind_E h
  refine t_table_1_b0_W k low_0 high_1 ([] : List Operator) texts_2 (texts_2.length : Int) 0 .nil _ _ _ _ (Fr.refl _ _) (HF.refl _ _) sls_ ok_ _ h13 _ ?_
  ·rintro p14 c18 σ' H17 eo fr15 hf16 s19
   rw [eo] at h
   have le := hf16.1
   try simp only [AH.new_next, AH.put_next, AH.tok_next, AH.use_next] at le
   obtain rfl := som_E h
   try refine gos_ ?_
   exact (fz_sl Operator.pu p14 _)
def t_table_2_b0 : Nat → Int → Int → Bool → (List Operator) → (List Str) → Int → Int → Option (List Operator)
  | 0, _, _, _, _, _, _, _ => none
  | k + 1, low_0, high_1, left_2, out_9, t_12, t_13, t_14 =>
    cond (decide (t_14 < t_13)) (if 0 ≤ t_14 then Option.bind (t_12[t_14.toNat]?) fun x3 => if (out_9.length + 1) * 64 ≤ 1099511627776 then t_table_2_b0 k low_0 high_1 left_2 (out_9 ++ [(Operator.mk x3 1 low_0 high_1 left_2 2 2)]) t_12 t_13 (IntKind.wrap .i64 (t_14 + 1)) else none else none) (some (out_9))
def t_table_2_b0l : List Nat := [9, 11] ++ List.range' 14 13
theorem t_table_2_b0_W : ∀ (k : Nat) (low_0 : Int) (high_1 : Int) (left_2 : Bool) (out_9 : List Operator) (t_12 : List Str) (t_13 : Int) (t_14 : Int) (c_out_9_b0 : Ck) (σ0 σ : Nat → PV) (H0 H : AH) (f0 : Fr t_table_2_b0l σ0 σ) (hf0 : HF [] H0 H) (sl : σ 0 = (.int .i64 low_0) ∧ σ 1 = (.int .i64 high_1) ∧ σ 2 = (.bool left_2) ∧ σ 9 = (.isl (out_9.map Operator.cells) c_out_9_b0) ∧ σ 12 = (.isl (t_12.map strL) .unk) ∧ σ 13 = (.int .i64 t_13) ∧ σ 14 = (.int .i64 t_14)) (ok_out_9 : okc H c_out_9_b0) (o : List Operator) (h : t_table_2_b0 k low_0 high_1 left_2 out_9 t_12 t_13 t_14 = some o) (Q : Post) (q0 : ∀ (p : List Operator) (c0 : Ck) (σ' : Nat → PV) (H' : AH), o = p → Fr t_table_2_b0l σ0 σ' → HF [] H0 H' → (σ' 9 = (.isl (p.map Operator.cells) c0)) → Q (.exit 0) σ' H') , W Tryz.prog (.loop ac114_b0) Q σ H := by
  intro k
  induction k with
  | zero => intro low_0 high_1 left_2 out_9 t_12 t_13 t_14 c_out_9_b0 σ0 σ H0 H f0 hf0 sl ok_out_9 o h Q q0; simp only [t_table_2_b0, reduceCtorEq] at h
  | succ k ih =>
    intro low_0 high_1 left_2 out_9 t_12 t_13 t_14 c_out_9_b0 σ0 σ H0 H f0 hf0 sl ok_out_9 o h Q q0
    obtain ⟨s0, s1, s2, s9, s12, s13, s14⟩ := sl
    have hle0 := hf0.1
    unfold t_table_2_b0 at h
    refine W_loopK (fun K hK => W_start ?_)
    unfold ac114_b0
    rcases cond_E h with ⟨e1, h⟩ | ⟨e1, h⟩
    ·obtain ⟨e2, h⟩ := if_E h
     obtain ⟨x3, e4, h⟩ := bind_E h
     obtain ⟨e9, h⟩ := if_E h
     try refine gos_ ?_
     refine WO_app (f := Operator.cells) Operator.row out_9 ([(Operator.mk x3 1 low_0 high_1 left_2 2 2)] : List Operator) c_out_9_b0 .exact sls_ sls_ ok_ (by first | exact e9 | (simp only [List.length_cons, List.length_nil] ; exact e9)) (fun c5 H6 ok7 le ob10 rl8 => ?_)
     have hf11 : HF [] _ H6 := ⟨le, fun i _ _ => ob10 i⟩
     try simp only [AH.new_next, AH.put_next, AH.tok_next, AH.use_next] at le
     try refine gos_ ?_
     refine hK _ _ ?_
     exact ih low_0 high_1 left_2 (out_9 ++ [(Operator.mk x3 1 low_0 high_1 left_2 2 2)]) t_12 t_13 (IntKind.wrap .i64 (t_14 + 1)) c5 _ _ _ _ fr_ (by repeat (first | exact hf0 | refine HF.new ?_ | refine HF.tokd ?_ | refine HF.used ?_ | refine HF.put (by first | (right; omega) | (left; simp only [List.mem_cons, true_or, or_true])) ?_ | refine HF.via hf11 (by first | exact fun i hi => absurd hi List.not_mem_nil | (intro i hi; simp only [List.mem_cons, List.not_mem_nil, or_false] at hi ⊢; first | exact .inl hi | omega)) ?_)) sls_ ok_ _ h _ q0
    ·obtain rfl := som_E h
     try refine gos_ ?_
     exact q0 _ c_out_9_b0 _ _ rfl fr_ (by repeat (first | exact hf0 | refine HF.new ?_ | refine HF.tokd ?_ | refine HF.used ?_ | refine HF.put (by first | (right; omega) | (left; simp only [List.mem_cons, true_or, or_true])) ?_)) sls_
def t_table_2 (k : Nat) (low_0 : Int) (high_1 : Int) (left_2 : Bool) (texts_3 : List Str) : Option (List Operator) :=
  Option.bind (t_table_2_b0 k low_0 high_1 left_2 ([] : List Operator) texts_3 (texts_3.length : Int) 0) (fun p14 => some p14)
theorem t_table_2_c {k : Nat} {low_0 : Int} {high_1 : Int} {left_2 : Bool} {texts_3 : List Str} {c3 : Ck} {r : List Operator} (h : t_table_2 k low_0 high_1 left_2 texts_3 = some r) : PCall Tryz.prog 114 [(.int .i64 low_0), (.int .i64 high_1), (.bool left_2), (.isl (texts_3.map strL) c3)] (.isl (r.map Operator.cells) .unk) := by
  refine PCall.lw (.same (.same (.same (.isl .nil)))) (PCall.of_empty (PuL.mem (.cons (.int _ _) (.cons (.int _ _) (.cons (.bool _) (.cons (pu_sl pu_strL _) .nil))))) (MCall_of_W ok114 (by simp) (W_start ?_)) (pu_sl Operator.pu _))
  unfold t_table_2 at h
  unfold ac114
  try refine gos_ ?_
  obtain ⟨o12, h13, h⟩ := bind_E h
  refine t_table_2_b0_W k low_0 high_1 left_2 ([] : List Operator) texts_3 (texts_3.length : Int) 0 .nil _ _ _ _ (Fr.refl _ _) (HF.refl _ _) sls_ ok_ _ h13 _ ?_
  ·rintro p14 c18 σ' H17 eo fr15 hf16 s19
   rw [eo] at h
   have le := hf16.1
   try simp only [AH.new_next, AH.put_next, AH.tok_next, AH.use_next] at le
   obtain rfl := som_E h
   try refine gos_ ?_
   exact (fz_sl Operator.pu p14 _)
def t_table_i115_b0 : Nat → Int → (List (List Operator)) → Int → Option Int
  | 0, _, _, _ => none
  | k + 1, size_3, t_9, t_11 =>
    cond (decide (t_11 < 24)) (if 0 ≤ t_11 then Option.bind (t_9[t_11.toNat]?) fun x50 => cond (decide ((IntKind.wrap .i64 (size_3 + (x50.length : Int))) < 0)) (none) (t_table_i115_b0 k (IntKind.wrap .i64 (size_3 + (x50.length : Int))) t_9 (IntKind.wrap .i64 (t_11 + 1))) else none) (some (size_3))
def t_table_i115_b0l : List Nat := [3, 5] ++ List.range' 11 12
theorem t_table_i115_b0_W : ∀ (k : Nat) (size_3 : Int) (t_9 : List (List Operator)) (t_11 : Int) (c_t_9_b0 : Ck) (σ0 σ : Nat → PV) (H : AH) (f0 : Fr t_table_i115_b0l σ0 σ) (sl : σ 3 = (.int .i64 size_3) ∧ σ 9 = (.isl (t_9.map (slL Operator.cells)) c_t_9_b0) ∧ σ 10 = (.int .i64 24) ∧ σ 11 = (.int .i64 t_11)) (o : Int) (h : t_table_i115_b0 k size_3 t_9 t_11 = some o) (Q : Post) (q0 : ∀ (p : Int) (σ' : Nat → PV), o = p → Fr t_table_i115_b0l σ0 σ' → (σ' 3 = (.int .i64 p)) → Q (.exit 0) σ' H) , W Tryz.prog (.loop ac115_b0) Q σ H := by
  intro k
  induction k with
  | zero => intro size_3 t_9 t_11 c_t_9_b0 σ0 σ H f0 sl o h Q q0; simp only [t_table_i115_b0, reduceCtorEq] at h
  | succ k ih =>
    intro size_3 t_9 t_11 c_t_9_b0 σ0 σ H f0 sl o h Q q0
    obtain ⟨s3, s9, s10, s11⟩ := sl
    unfold t_table_i115_b0 at h
    refine W_loopK (fun K hK => W_start ?_)
    unfold ac115_b0
    rcases cond_E h with ⟨e48, h⟩ | ⟨e48, h⟩
    ·obtain ⟨e49, h⟩ := if_E h
     obtain ⟨x50, e51, h⟩ := bind_E h
     rcases cond_E h with ⟨e52, h⟩ | ⟨e52, h⟩
     ·cases h
     ·try refine go_ ?_
      refine hK _ _ ?_
      exact ih (IntKind.wrap .i64 (size_3 + (x50.length : Int))) t_9 (IntKind.wrap .i64 (t_11 + 1)) c_t_9_b0 _ _ _ fr_ sl_ _ h _ q0
    ·obtain rfl := som_E h
     try refine go_ ?_
     exact q0 _ _ rfl fr_ sl_
def t_table_i115_b1 : Nat → (List Operator) → (List (List Operator)) → Int → Option (List Operator)
  | 0, _, _, _ => none
  | k + 1, newslice_6, t_25, t_27 =>
    cond (decide (t_27 < 24)) (if 0 ≤ t_27 then Option.bind (t_25[t_27.toNat]?) fun x71 => if 0 < x71.length ∧ (newslice_6.length + x71.length) * 64 ≤ 1099511627776 then t_table_i115_b1 k (newslice_6 ++ x71) t_25 (IntKind.wrap .i64 (t_27 + 1)) else none else none) (some (newslice_6))
def t_table_i115_b1l : List Nat := [6, 8] ++ List.range' 27 8
theorem t_table_i115_b1_W : ∀ (k : Nat) (v_newslice_6 : PV) (ids_newslice_6 : List Nat) (M : List Nat) (newslice_6 : List Operator) (t_25 : List (List Operator)) (t_27 : Int) (c_t_25_b1 : Ck) (σ0 σ : Nat → PV) (H0 H : AH) (f0 : Fr t_table_i115_b1l σ0 σ) (hf0 : HF M H0 H) (sl : σ 6 = v_newslice_6 ∧ σ 25 = (.isl (t_25.map (slL Operator.cells)) c_t_25_b1) ∧ σ 26 = (.int .i64 24) ∧ σ 27 = (.int .i64 t_27)) (r_newslice_6 : RowN H Operator.cells 7 newslice_6 v_newslice_6 ids_newslice_6) (nw_newslice_6 : Nw H0 M ids_newslice_6) (o : List Operator) (h : t_table_i115_b1 k newslice_6 t_25 t_27 = some o) (Q : Post) (q0 : ∀ (p : List Operator) (v0 : PV) (ids0 : List Nat) (σ' : Nat → PV) (H' : AH), o = p → Fr t_table_i115_b1l σ0 σ' → HF M H0 H' → (σ' 6 = v0) → RowN H' Operator.cells 7 p v0 ids0 → Nw H0 M ids0 → Q (.exit 2) σ' H') , W Tryz.prog (.loop ac115_b1) Q σ H := by
  intro k
  induction k with
  | zero => intro v_newslice_6 ids_newslice_6 M newslice_6 t_25 t_27 c_t_25_b1 σ0 σ H0 H f0 hf0 sl r_newslice_6 nw_newslice_6 o h Q q0; simp only [t_table_i115_b1, reduceCtorEq] at h
  | succ k ih =>
    intro v_newslice_6 ids_newslice_6 M newslice_6 t_25 t_27 c_t_25_b1 σ0 σ H0 H f0 hf0 sl r_newslice_6 nw_newslice_6 o h Q q0
    obtain ⟨s6, s25, s26, s27⟩ := sl
    have hle0 := hf0.1
    unfold t_table_i115_b1 at h
    refine W_loopK (fun K hK => W_start ?_)
    unfold ac115_b1
    rcases cond_E h with ⟨e69, h⟩ | ⟨e69, h⟩
    ·obtain ⟨e70, h⟩ := if_E h
     obtain ⟨x71, e72, h⟩ := bind_E h
     obtain ⟨e73, h⟩ := if_E h
     try refine go_ ?_
     refine WO_rowapp (f := Operator.cells) (v := v_newslice_6) Operator.row newslice_6 (x71 : List Operator) .unk sl_ (by repeat (first | exact r_newslice_6 | apply RowN.new | refine RowN.put ?_ (fun hm => by have := RowN.lt r_newslice_6 _ hm; omega))) sl_ e73.1 e73.2 (fun v74 ids75 H76 r77 nw78 hf79 ok80 => ?_)
     have le := hf79.1
     try simp only [AH.new_next, AH.put_next, AH.tok_next, AH.use_next] at le
     try refine go_ ?_
     refine hK _ _ ?_
     exact ih v74 ids75 M (newslice_6 ++ x71) t_25 (IntKind.wrap .i64 (t_27 + 1)) c_t_25_b1 _ _ _ _ fr_ (by repeat (first | exact hf0 | refine HF.new ?_ | refine HF.tokd ?_ | refine HF.used ?_ | refine HF.put (by first | (right; omega) | (left; simp only [List.mem_cons, true_or, or_true])) ?_ | refine HF.via hf79 nw_newslice_6 ?_)) sl_ (by repeat (first | exact r77 | apply RowN.new | refine RowN.put ?_ (fun hm => by have := RowN.lt r77 _ hm; omega))) (Nw.trans nw_newslice_6 om_ nw78) _ h _ q0
    ·obtain rfl := som_E h
     try refine go_ ?_
     exact q0 _ v_newslice_6 ids_newslice_6 _ _ rfl fr_ (by repeat (first | exact hf0 | refine HF.new ?_ | refine HF.tokd ?_ | refine HF.used ?_ | refine HF.put (by first | (right; omega) | (left; simp only [List.mem_cons, true_or, or_true])) ?_)) sl_ (by repeat (first | exact r_newslice_6 | apply RowN.new | refine RowN.put ?_ (fun hm => by have := RowN.lt r_newslice_6 _ hm; omega))) nw_newslice_6
def t_table_b0 : Nat → (List Operator) → Int → Int → Option (List Operator)
  | 0, _, _, _ => none
  | k + 1, out_3, t_79, t_80 =>
    cond (decide (t_80 < t_79)) (if 0 ≤ t_80 then Option.bind (out_3[t_80.toNat]?) fun x95 => cond (x95.text == ([92, 88] : Str)) (t_table_b0 k (out_3.set t_80.toNat (Operator.mk x95.text x95.fix x95.low x95.high x95.left x95.least 4)) t_79 (IntKind.wrap .i64 (t_80 + 1))) (t_table_b0 k out_3 t_79 (IntKind.wrap .i64 (t_80 + 1))) else none) (some (out_3))
def t_table_b0l : List Nat := [4] ++ List.range' 80 14
theorem t_table_b0_W : ∀ (k : Nat) (v_out_3 : PV) (ids_out_3 : List Nat) (M : List Nat) (out_3 : List Operator) (t_79 : Int) (t_80 : Int) (σ0 σ : Nat → PV) (H0 H : AH) (f0 : Fr t_table_b0l σ0 σ) (hf0 : HF M H0 H) (sl : σ 3 = v_out_3 ∧ σ 79 = (.int .i64 t_79) ∧ σ 80 = (.int .i64 t_80)) (r_out_3 : RowN H Operator.cells 7 out_3 v_out_3 ids_out_3) (nw_out_3 : Nw H0 M ids_out_3) (o : List Operator) (h : t_table_b0 k out_3 t_79 t_80 = some o) (Q : Post) (q0 : ∀ (p : List Operator) (v0 : PV) (ids0 : List Nat) (σ' : Nat → PV) (H' : AH), o = p → Fr t_table_b0l σ0 σ' → HF M H0 H' → (σ' 3 = v0) → RowN H' Operator.cells 7 p v0 ids0 → Nw H0 M ids0 → Q (.exit 0) σ' H') , W Tryz.prog (.loop ac65_b0) Q σ H := by
  intro k
  induction k with
  | zero => intro v_out_3 ids_out_3 M out_3 t_79 t_80 σ0 σ H0 H f0 hf0 sl r_out_3 nw_out_3 o h Q q0; simp only [t_table_b0, reduceCtorEq] at h
  | succ k ih =>
    intro v_out_3 ids_out_3 M out_3 t_79 t_80 σ0 σ H0 H f0 hf0 sl r_out_3 nw_out_3 o h Q q0
    obtain ⟨s3, s79, s80⟩ := sl
    have hle0 := hf0.1
    unfold t_table_b0 at h
    refine W_loopK (fun K hK => W_start ?_)
    unfold ac65_b0
    rcases cond_E h with ⟨e93, h⟩ | ⟨e93, h⟩
    ·obtain ⟨e94, h⟩ := if_E h
     obtain ⟨x95, e96, h⟩ := bind_E h
     obtain ⟨w97, w98, hidw97, hil, w99, hC, hL, hD, hI⟩ := RowN.content r_out_3 e96
     have w100 := ne_next hil
     have w101 := ne_add hil
     have w102 : idxPV 7 v_out_3 (.int .i64 t_80) = some (.ref w97 (t_80.toNat * 7)) := by simpa using hI .i64 t_80 (by first | omega | decide) (by first | rfl | omega)
     have w97c0 : w98[t_80.toNat * 7]? = some (.str x95.text) := by simpa using hC 0 _ rfl
     have w97c1 : w98[t_80.toNat * 7 + 1]? = some (.int .i64 x95.fix) := by simpa using hC 1 _ rfl
     have w97c2 : w98[t_80.toNat * 7 + 2]? = some (.int .i64 x95.low) := by simpa using hC 2 _ rfl
     have w97c3 : w98[t_80.toNat * 7 + 3]? = some (.int .i64 x95.high) := by simpa using hC 3 _ rfl
     have w97c4 : w98[t_80.toNat * 7 + 4]? = some (.bool x95.left) := by simpa using hC 4 _ rfl
     have w97c5 : w98[t_80.toNat * 7 + 5]? = some (.int .i64 x95.least) := by simpa using hC 5 _ rfl
     have w97c6 : w98[t_80.toNat * 7 + 6]? = some (.int .i64 x95.most) := by simpa using hC 6 _ rfl
     have w97l : t_80.toNat * 7 + 7 ≤ w98.length := by simpa using hL 7 (Nat.le_refl _)
     have w97d : List.take 7 (List.drop (t_80.toNat * 7) w98) = Operator.cells x95 := hD
     clear hC hL hD hI
     rcases cond_E h with ⟨e103, h⟩ | ⟨e103, h⟩
     ·try refine go_ ?_
      refine WO_rowset (f := Operator.cells) (id := w97) (o := t_80.toNat * 7 + 6) (i := t_80.toNat) (j := 6) (a := x95) (y := (Operator.mk x95.text x95.fix x95.low x95.high x95.left x95.least 4)) (vs := [(.int .i64 4)]) sl_ hidw97 (by omega) (by repeat (first | exact r_out_3 | apply RowN.new | refine RowN.put ?_ (fun hm => by have := RowN.lt r_out_3 _ hm; omega))) e96 sl_ rfl rfl (by first | decide | (simp only [List.length_cons, List.length_nil]; omega)) rfl (fun H106 r107 hf109 ok110 => ?_)
      have le := hf109.1
      try simp only [AH.new_next, AH.put_next, AH.tok_next, AH.use_next] at le
      try refine go_ ?_
      refine hK _ _ ?_
      exact ih v_out_3 ids_out_3 M (out_3.set t_80.toNat (Operator.mk x95.text x95.fix x95.low x95.high x95.left x95.least 4)) t_79 (IntKind.wrap .i64 (t_80 + 1)) _ _ _ _ fr_ (by repeat (first | exact hf0 | refine HF.new ?_ | refine HF.tokd ?_ | refine HF.used ?_ | refine HF.put (by first | (right; omega) | (left; simp only [List.mem_cons, true_or, or_true])) ?_ | refine HF.via hf109 nw_out_3 ?_)) sl_ (by repeat (first | exact r107 | apply RowN.new | refine RowN.put ?_ (fun hm => by have := RowN.lt r107 _ hm; omega))) nw_out_3 _ h _ q0
     ·try refine go_ ?_
      refine hK _ _ ?_
      exact ih v_out_3 ids_out_3 M out_3 t_79 (IntKind.wrap .i64 (t_80 + 1)) _ _ _ _ fr_ (by repeat (first | exact hf0 | refine HF.new ?_ | refine HF.tokd ?_ | refine HF.used ?_ | refine HF.put (by first | (right; omega) | (left; simp only [List.mem_cons, true_or, or_true])) ?_)) sl_ (by repeat (first | exact r_out_3 | apply RowN.new | refine RowN.put ?_ (fun hm => by have := RowN.lt r_out_3 _ hm; omega))) nw_out_3 _ h _ q0
    ·obtain rfl := som_E h
     try refine go_ ?_
     exact q0 _ v_out_3 ids_out_3 _ _ rfl fr_ (by repeat (first | exact hf0 | refine HF.new ?_ | refine HF.tokd ?_ | refine HF.used ?_ | refine HF.put (by first | (right; omega) | (left; simp only [List.mem_cons, true_or, or_true])) ?_)) sl_ (by repeat (first | exact r_out_3 | apply RowN.new | refine RowN.put ?_ (fun hm => by have := RowN.lt r_out_3 _ hm; omega))) nw_out_3
def t_table (k : Nat) : Option (List Operator) :=
  Option.bind (t_table_1 k 4 4 [([126] : Str)]) fun p2 => Option.bind (t_table_1 k 4 15 [([69, 78, 65, 66, 76, 69, 68] : Str), ([85, 78, 67, 72, 65, 78, 71, 69, 68] : Str), ([91, 93] : Str), ([60, 62] : Str)]) fun p4 => Option.bind (t_table_1 k 8 8 [([83, 85, 66, 83, 69, 84] : Str), ([85, 78, 73, 79, 78] : Str)]) fun p6 => Option.bind (t_table_1 k 9 9 [([68, 79, 77, 65, 73, 78] : Str)]) fun p8 => Option.bind (t_table_1 k 12 12 [([45, 46] : Str)]) fun p10 => Option.bind (t_table_2 k 1 1 false [([61, 62] : Str)]) fun p12 => Option.bind (t_table_2 k 2 2 false [([60, 61, 62] : Str), ([126, 62] : Str)]) fun p14 => Option.bind (t_table_2 k 3 3 true [([47, 92] : Str), ([92, 47] : Str)]) fun p16 => Option.bind (t_table_2 k 5 5 false [([61] : Str), ([35] : Str), ([60] : Str), ([60, 61] : Str), ([62] : Str), ([62, 61] : Str), ([92, 105, 110] : Str), ([92, 110, 111, 116, 105, 110] : Str), ([92, 115, 117, 98, 115, 101, 116, 101, 113] : Str), ([92, 115, 113, 115, 117, 98, 115, 101, 116, 101, 113] : Str)]) fun p18 => Option.bind (t_table_2 k 6 6 true [([64, 64] : Str)]) fun p20 => Option.bind (t_table_2 k 7 7 false [([58, 62] : Str)]) fun p22 => Option.bind (t_table_2 k 5 14 true [([92, 99, 100, 111, 116] : Str)]) fun p24 => Option.bind (t_table_2 k 8 8 true [([92, 99, 117, 112] : Str), ([92, 99, 97, 112] : Str)]) fun p26 => Option.bind (t_table_2 k 8 8 false [([92] : Str)]) fun p28 => Option.bind (t_table_2 k 9 9 false [([46, 46] : Str)]) fun p30 => Option.bind (t_table_2 k 10 10 true [([43] : Str), ([40, 43, 41] : Str)]) fun p32 => Option.bind (t_table_2 k 10 11 false [([37] : Str)]) fun p34 => Option.bind (t_table_2 k 10 13 false [([92, 88] : Str)]) fun p36 => Option.bind (t_table_2 k 11 11 true [([45] : Str), ([40, 45, 41] : Str)]) fun p38 => Option.bind (t_table_2 k 13 13 true [([42] : Str)]) fun p40 => Option.bind (t_table_2 k 13 13 false [([92, 100, 105, 118] : Str)]) fun p42 => Option.bind (t_table_2 k 13 13 true [([92, 111] : Str)]) fun p44 => Option.bind (t_table_2 k 14 14 false [([94] : Str)]) fun p46 => Option.bind (t_table_i115_b0 k 0 [p2, p4, p6, p8, p10, p12, p14, p16, p18, p20, p22, p24, p26, p28, p30, p32, p34, p36, p38, p40, p42, p44, p46, [(Operator.mk ([39] : Str) 2 15 15 false 1 1)]] 0) (fun p55 => if 0 < p55 ∧ p55 ≤ 1000000 then Option.bind (t_table_i115_b1 k ([] : List Operator) [p2, p4, p6, p8, p10, p12, p14, p16, p18, p20, p22, p24, p26, p28, p30, p32, p34, p36, p38, p40, p42, p44, p46, [(Operator.mk ([39] : Str) 2 15 15 false 1 1)]] 0) (fun p83 => Option.bind (t_table_b0 k p83 (p83.length : Int) 0) (fun p113 => some p113)) else none)
theorem t_table_c {k : Nat} {r : List Operator} (h : t_table k = some r) : PCall Tryz.prog 65 [] (.isl (r.map Operator.cells) .unk) := by
  refine PCall.of_empty (PuL.mem .nil) (MCall_of_W ok65 (by simp) (W_start ?_)) (pu_sl Operator.pu _)
  unfold t_table at h
  unfold ac65
  obtain ⟨p2, e1, h⟩ := bind_E h
  try refine go_ ?_
  refine mcall_pure (t_table_1_c e1) ?_
  obtain ⟨p4, e3, h⟩ := bind_E h
  try refine go_ ?_
  refine mcall_pure (t_table_1_c e3) ?_
  obtain ⟨p6, e5, h⟩ := bind_E h
  try refine go_ ?_
  refine mcall_pure (t_table_1_c e5) ?_
  obtain ⟨p8, e7, h⟩ := bind_E h
  try refine go_ ?_
  refine mcall_pure (t_table_1_c e7) ?_
  obtain ⟨p10, e9, h⟩ := bind_E h
  try refine go_ ?_
  refine mcall_pure (t_table_1_c e9) ?_
  obtain ⟨p12, e11, h⟩ := bind_E h
  try refine go_ ?_
  refine mcall_pure (t_table_2_c e11) ?_
  obtain ⟨p14, e13, h⟩ := bind_E h
  try refine go_ ?_
  refine mcall_pure (t_table_2_c e13) ?_
  obtain ⟨p16, e15, h⟩ := bind_E h
  try refine go_ ?_
  refine mcall_pure (t_table_2_c e15) ?_
  obtain ⟨p18, e17, h⟩ := bind_E h
  try refine go_ ?_
  refine mcall_pure (t_table_2_c e17) ?_
  obtain ⟨p20, e19, h⟩ := bind_E h
  try refine go_ ?_
  refine mcall_pure (t_table_2_c e19) ?_
  obtain ⟨p22, e21, h⟩ := bind_E h
  try refine go_ ?_
  refine mcall_pure (t_table_2_c e21) ?_
  obtain ⟨p24, e23, h⟩ := bind_E h
  try refine go_ ?_
  refine mcall_pure (t_table_2_c e23) ?_
  obtain ⟨p26, e25, h⟩ := bind_E h
  try refine go_ ?_
  refine mcall_pure (t_table_2_c e25) ?_
  obtain ⟨p28, e27, h⟩ := bind_E h
  try refine go_ ?_
  refine mcall_pure (t_table_2_c e27) ?_
  obtain ⟨p30, e29, h⟩ := bind_E h
  try refine go_ ?_
  refine mcall_pure (t_table_2_c e29) ?_
  obtain ⟨p32, e31, h⟩ := bind_E h
  try refine go_ ?_
  refine mcall_pure (t_table_2_c e31) ?_
  obtain ⟨p34, e33, h⟩ := bind_E h
  try refine go_ ?_
  refine mcall_pure (t_table_2_c e33) ?_
  obtain ⟨p36, e35, h⟩ := bind_E h
  try refine go_ ?_
  refine mcall_pure (t_table_2_c e35) ?_
  obtain ⟨p38, e37, h⟩ := bind_E h
  try refine go_ ?_
  refine mcall_pure (t_table_2_c e37) ?_
  obtain ⟨p40, e39, h⟩ := bind_E h
  try refine go_ ?_
  refine mcall_pure (t_table_2_c e39) ?_
  obtain ⟨p42, e41, h⟩ := bind_E h
  try refine go_ ?_
  refine mcall_pure (t_table_2_c e41) ?_
  obtain ⟨p44, e43, h⟩ := bind_E h
  try refine go_ ?_
  refine mcall_pure (t_table_2_c e43) ?_
  obtain ⟨p46, e45, h⟩ := bind_E h
  try refine go_ ?_
  refine mcall_pure (t_table_2_c e45) ?_
  try refine go_ ?_
  refine MCall_of_W ok115 (by simp) (W_start ?_)
  unfold ac115
  try refine go_ ?_
  obtain ⟨o53, h54, h⟩ := bind_E h
  refine t_table_i115_b0_W k 0 [p2, p4, p6, p8, p10, p12, p14, p16, p18, p20, p22, p24, p26, p28, p30, p32, p34, p36, p38, p40, p42, p44, p46, [(Operator.mk ([39] : Str) 2 15 15 false 1 1)]] 0 .exact _ _ _ (Fr.refl _ _) sl_ _ h54 _ ?_
  ·rintro p55 σ' eo fr56 s59
   rw [eo] at h
   have s60 : σ' 0 = (.isl ([p2, p4, p6, p8, p10, p12, p14, p16, p18, p20, p22, p24, p26, p28, p30, p32, p34, p36, p38, p40, p42, p44, p46, [(Operator.mk ([39] : Str) 2 15 15 false 1 1)]].map (slL Operator.cells)) .exact) := (fr56 0 (by decide)).trans sl_
   obtain ⟨e61, h⟩ := if_E h
   try refine go_ ?_
   refine MC_row (f := Operator.cells) (xs := ([] : List Operator)) (grow167_c p55 e61) (fun v62 ids63 H64 r65 nw66 hf67 ok68 => ?_)
   have le := hf67.1
   try simp only [AH.new_next, AH.put_next, AH.tok_next, AH.use_next] at le
   try refine go_ ?_
   obtain ⟨o81, h82, h⟩ := bind_E h
   refine t_table_i115_b1_W k v62 ids63 (ids63 ++ []) ([] : List Operator) [p2, p4, p6, p8, p10, p12, p14, p16, p18, p20, p22, p24, p26, p28, p30, p32, p34, p36, p38, p40, p42, p44, p46, [(Operator.mk ([39] : Str) 2 15 15 false 1 1)]] 0 .exact _ _ _ _ (Fr.refl _ _) (HF.refl _ _) sl_ (by repeat (first | exact r65 | apply RowN.new | refine RowN.put ?_ (fun hm => by have := RowN.lt r65 _ hm; omega))) (fun i hi => Or.inl (by simp only [List.mem_append, List.mem_cons, hi, true_or, or_true])) _ h82 _ ?_
   ·rintro p83 v87 ids88 σ' H86 eo fr84 hf85 s91 r89 nw90
    rw [eo] at h
    have le := hf85.1
    try simp only [AH.new_next, AH.put_next, AH.tok_next, AH.use_next] at le
    have w92 := RowN.lenv r89
    try refine go_ ?_
    obtain ⟨o111, h112, h⟩ := bind_E h
    refine t_table_b0_W k v87 ids88 (ids88 ++ []) p83 (p83.length : Int) 0 _ _ _ _ (Fr.refl _ _) (HF.refl _ _) sl_ (by repeat (first | exact r89 | apply RowN.new | refine RowN.put ?_ (fun hm => by have := RowN.lt r89 _ hm; omega))) (fun i hi => Or.inl (by simp only [List.mem_append, List.mem_cons, hi, true_or, or_true])) _ h112 _ ?_
    ·rintro p113 v117 ids118 σ' H116 eo fr114 hf115 s121 r119 nw120
     rw [eo] at h
     have le := hf115.1
     try simp only [AH.new_next, AH.put_next, AH.tok_next, AH.use_next] at le
     obtain rfl := som_E h
     try refine go_ ?_
     exact (RowN.fz Operator.pu (by repeat (first | exact r119 | apply RowN.new | refine RowN.put ?_ (fun hm => by have := RowN.lt r119 _ hm; omega))))
end Go.VL
end
section
namespace Go.VL
open Go.Proofs Go.RowKit
def tabL : List Operator := (t_table 100).getD []
theorem tabL_some : t_table 100 = some tabL := by
  have h : (t_table 100).isSome = true := by kernel_rfl
  rw [tabL]; cases h1 : t_table 100 with
  | none => rw [h1] at h; cases h
  | some r => rfl
theorem tabL_c : PCall Tryz.prog 65 [] (.isl (tabL.map Operator.cells) .unk) := t_table_c tabL_some
end Go.VL
end
section
set_option maxRecDepth 8000
set_option maxHeartbeats 4000000
namespace Go.VL
open Go.Proofs
def t_operatorOf (k : Nat) (text_0 : Str) : Option (Operator × Bool) :=
  Option.bind (g_IndexFunc_api_Operator_api_Operator_at112 k tabL text_0) fun p2 => cond (decide (p2 < 0)) (some ((Operator.mk [] 0 0 0 false 0 0), false)) (if 0 ≤ p2 then Option.bind (tabL[p2.toNat]?) fun x5 => some (x5, true) else none)
theorem t_operatorOf_c {k : Nat} {text_0 : Str} {r : Operator × Bool} (h : t_operatorOf k text_0 = some r) : PCall Tryz.prog 63 [(.str text_0)] (.tup [(.agg (Operator.cells r.1)), (.bool r.2)]) := by
  refine PCall.of_empty (PuL.mem (.cons (.str _) .nil)) (MCall_of_W ok63 (by simp) (W_start ?_)) (.tup _ (PuL.mem (.cons (.agg _ (Operator.pu _)) (.cons (.bool _) .nil))))
  unfold t_operatorOf at h
  unfold ac63
  try refine gos_ ?_
  refine mcall_pure (tabL_c ) ?_
  obtain ⟨p2, e1, h⟩ := bind_E h
  try refine gos_ ?_
  refine mcall_frz (g_IndexFunc_api_Operator_api_Operator_at112_c e1) (.cons (fz_sl Operator.pu _ _) (.cons (fz_fn (.cons (fz_ref sls_ (.cons (.pure _ (.str _)) .nil)) .nil)) .nil)) (.cons (pu_sl Operator.pu _) (.cons (.fn _ _ _ (PuL.mem .nil) (PuL.mem (.cons (.iptr _ _ (PuL.mem (.cons (.str _) .nil))) .nil))) .nil)) (.int _ _) ?_
  rcases cond_E h with ⟨e3, h⟩ | ⟨e3, h⟩
  ·obtain rfl := som_E h
   try refine gos_ ?_
   exact (fz_tup (.cons (fz_agg (.cons (.pure _ (.str _)) (.cons (.pure _ (.int _ _)) (.cons (.pure _ (.int _ _)) (.cons (.pure _ (.int _ _)) (.cons (.pure _ (.bool _)) (.cons (.pure _ (.int _ _)) (.cons (.pure _ (.int _ _)) .nil)))))))) (.cons (.pure _ (.bool _)) .nil)))
  ·obtain ⟨e4, h⟩ := if_E h
   obtain ⟨x5, e6, h⟩ := bind_E h
   obtain rfl := som_E h
   try refine gos_ ?_
   exact (fz_tup (.cons (fz_agg (.cons (.pure _ (.str _)) (.cons (.pure _ (.int _ _)) (.cons (.pure _ (.int _ _)) (.cons (.pure _ (.int _ _)) (.cons (.pure _ (.bool _)) (.cons (.pure _ (.int _ _)) (.cons (.pure _ (.int _ _)) .nil)))))))) (.cons (.pure _ (.bool _)) .nil)))
end Go.VL
end
section
set_option maxRecDepth 8000
set_option maxHeartbeats 4000000
namespace Go.VL
open Go.Proofs
def g_Mul (x_0 : Int) (y_1 : Int) : Option (Int × Int) :=
  if (0 ≤ x_0 ∧ x_0 < 18446744073709551616) ∧ (0 ≤ y_1 ∧ y_1 < 18446744073709551616) then some ((mul64 x_0 y_1).1, (mul64 x_0 y_1).2) else none
theorem g_Mul_c {x_0 : Int} {y_1 : Int} {r : Int × Int} (h : g_Mul x_0 y_1 = some r) : PCall Tryz.prog 147 [(.int .u64 x_0), (.int .u64 y_1)] (.tup [(.int .u64 r.1), (.int .u64 r.2)]) := by
  refine PCall.of_empty (PuL.mem (.cons (.int _ _) (.cons (.int _ _) .nil))) (MCall_of_W ok147 (by simp) (W_start ?_)) (.tup _ (PuL.mem (.cons (.int _ _) (.cons (.int _ _) .nil))))
  unfold g_Mul at h
  unfold ac147
  obtain ⟨e1, h⟩ := if_E h
  try refine gos_ ?_
  refine mcall_pure (mul64_c x_0 y_1 (by assumption)) ?_
  obtain rfl := som_E h
  try refine gos_ ?_
  exact (fz_tup (.cons (.pure _ (.int _ _)) (.cons (.pure _ (.int _ _)) .nil)))
end Go.VL
end
section
namespace Go.VL
open Go.Proofs Go.RowKit
theorem WPar_pure {P : Program} {K : (Nat → PV) → AH → Prop} {σ : Nat → PV} {H : AH} {d : Option Nat} {k : RK} {l : List (AOp × Bool)} (p : PV) (h : ∀ H', rop k σ H' = some p)
    (hn : WPar P (fun _ => True) l K (upd σ d p) H) : WPar P (fun _ => True) ((⟨d, .r k, none⟩, false) :: l) K σ H := by
  unfold WPar
  refine .inr ⟨trivial, p, fun H' _ => ?_, hn⟩
  show (match rop k σ H' with | some q => (q = p ∧ H' = H') | none => False)
  rw [h H']; exact ⟨rfl, rfl⟩
theorem flat_one : ∀ l : List PV, (l.map fun c => [c]).flatten = l
  | [] => rfl
  | a :: l => by rw [List.map_cons, List.flatten_cons, flat_one l]; rfl
theorem chunks_one (l rest : List PV) : chunks 1 l.length (l ++ rest) = l.map fun c => [c] := by
  have h := chunks_flat' (sz := 1) (l.map fun c => [c]) rest (by simp)
  rw [List.length_map, flat_one] at h
  exact h
theorem flat_rep1 (x : PV) : ∀ m, (List.replicate m [x]).flatten = List.replicate m x
  | 0 => rfl
  | m + 1 => by rw [List.replicate_succ, List.flatten_cons, flat_rep1 x m]; rfl
theorem loop94 (x : Int) (id n : Nat) (H0 : AH) (Q : Post) (hn : n ≤ 1000000)
    (hx : ∀ σ' H', σ' 7 = .msl id 0 n n 1 → H'.obj id = some (List.replicate n (.int .i64 x)) → H'.next = H0.next → (∀ i, i ≠ id → H'.obj i = H0.obj i) → (∀ k, H'.live k = H0.live k) → Q (.exit 0) σ' H') :
    ∀ (d m : Nat) (σ : Nat → PV) (H : AH) (rest : List PV), n - m ≤ d → m ≤ n → (m = 0 → n = 0) → σ 7 = .msl id 0 n n 1 → σ 8 = .int .i64 m → H.obj id = some (List.replicate m (.int .i64 x) ++ rest) → rest.length = n - m →
      H.next = H0.next → (∀ i, i ≠ id → H.obj i = H0.obj i) → (∀ k, H.live k = H0.live k) → W Tryz.prog (.loop ac94_b0) Q σ H := by
  intro d
  induction d with
  | zero =>
    intro m σ H rest hd hm h0 h7 h8 ho hr h1 h2 h3
    have e : m = n := by omega
    subst e
    have c1 : decide ((m : Int) < (m : Int)) = false := decide_eq_false (by omega)
    refine W_loopK (fun K hK => W_start ?_)
    unfold ac94_b0
    simp -implicitDefEqProofs only [go_sem, ↓reduceIte, Nat.reduceEqDiff, h7, h8, c1]
    have hr0 : rest = [] := List.eq_nil_of_length_eq_zero (by omega)
    subst hr0
    refine hx _ _ ?_ (by rw [ho, List.append_nil]) h1 h2 h3
    simp only [upd_some, Nat.reduceEqDiff, ↓reduceIte, h7]
  | succ d ih =>
    intro m σ H rest hd hm h0 h7 h8 ho hr h1 h2 h3
    by_cases hmn : m = n
    · exact ih m σ H rest (by omega) hm h0 h7 h8 ho hr h1 h2 h3
    have c1 : decide ((m : Int) < (n : Int)) = true := decide_eq_true (by omega)
    refine W_loopK (fun K hK => W_start ?_)
    unfold ac94_b0
    simp -implicitDefEqProofs only [go_sem, ↓reduceIte, Nat.reduceEqDiff, h7, h8, c1]
    refine ⟨fun _ => True, trivial, ?_⟩
    refine WPar_pure (.int .i64 m) (fun H' => by simp [rop, AE.ev, upd, h7, h8]) ?_
    refine WPar_pure (.msl id 0 n n 1) (fun H' => by simp [rop, AE.ev, upd, h7, h8]) ?_
    refine WPar_pure (.int .i64 m) (fun H' => by simp [rop, AE.ev, upd, h7, h8]) ?_
    refine WPar_pure (.msl id m (n - m) (n - m) 1) (fun H' => by simp [rop, AE.ev, upd, slcPV, natOf, h7, h8]; omega) ?_
    refine WPar_pure (.msl id 0 n n 1) (fun H' => by simp [rop, AE.ev, upd, h7, h8]) ?_
    refine WPar_pure (.int .i64 m) (fun H' => by simp [rop, AE.ev, upd, h7, h8]) ?_
    refine WPar_pure (.msl id 0 m n 1) (fun H' => by simp [rop, AE.ev, upd, slcPV, natOf, h7, h8]; omega) ?_
    have hch : chunks 1 m (List.replicate m (.int .i64 x) ++ rest) = List.replicate m [.int .i64 x] := by
      have h := chunks_one (List.replicate m (.int .i64 x)) rest
      rw [List.length_replicate, List.map_replicate] at h
      exact h
    unfold WPar
    refine .inr ⟨trivial, .int .i64 (min m (n - m) : Nat), H.put id (List.replicate (m + min m (n - m)) (.int .i64 x) ++ rest.drop (min m (n - m))), ?_, trivial, ?_⟩
    · have hy : rowOf 1 H (PV.msl id 0 m n 1) = some (List.replicate m [.int .i64 x]) := by
        have hl : 0 + m * 1 ≤ (List.replicate m (PV.int .i64 x) ++ rest).length := by rw [List.length_append, List.length_replicate]; omega
        simp only [rowOf, ho]
        rw [if_pos ⟨trivial, hl⟩, List.drop_zero, hch]
      have hsz : szOk 1 (List.replicate m [PV.int .i64 x]) := fun cs hcs => by
        rw [(List.mem_replicate.1 hcs).2]
        exact ⟨rfl, fun c hc => by rw [List.mem_singleton.1 hc]; rfl⟩
      have hle : m + (n - m) * 1 ≤ (List.replicate m (PV.int .i64 x) ++ rest).length := by rw [List.length_append, List.length_replicate]; omega
      have hput : putCells (List.replicate m (PV.int .i64 x) ++ rest) m ((List.replicate m [PV.int .i64 x]).take (n - m)).flatten = List.replicate (m + min m (n - m)) (.int .i64 x) ++ rest.drop (min m (n - m)) := by
        rw [List.take_replicate, flat_rep1]
        unfold putCells
        rw [List.length_replicate]
        have e1 : (List.replicate m (PV.int .i64 x) ++ rest).take m = List.replicate m (PV.int .i64 x) := by
          rw [List.take_append_of_le_length (by rw [List.length_replicate]; omega), List.take_of_length_le (by rw [List.length_replicate]; omega)]
        have e2 : (List.replicate m (PV.int .i64 x) ++ rest).drop (m + min (n - m) m) = rest.drop (min m (n - m)) := by
          rw [List.drop_append, List.length_replicate, List.drop_eq_nil_of_le (by rw [List.length_replicate]; omega), List.nil_append]
          congr 1
          omega
        rw [e1, e2, List.replicate_append_replicate, Nat.min_comm m]
      simp only [WOp, nop, AE.ev, upd_some, Nat.reduceEqDiff, ↓reduceIte, hy]
      simp only [ho]
      rw [if_pos ⟨trivial, hsz, hle⟩]
      refine ⟨?_, by rw [hput]⟩
      rw [List.length_replicate]
    · have hm2 : (m : Int) + ((min m (n - m) : Nat) : Int) = ((m + min m (n - m) : Nat) : Int) := by omega
      have hw : IntKind.wrap .i64 ((m : Int) + ((min m (n - m) : Nat) : Int)) = ((m + min m (n - m) : Nat) : Int) := by
        rw [hm2]; exact IntWalk.i64_in _ (by omega)
      unfold WPar
      refine WO_start ?_
      simp -implicitDefEqProofs only [go_sem, ↓reduceIte, Nat.reduceEqDiff, h7, h8, hw]
      refine hK _ _ (ih (m + min m (n - m)) _ _ (rest.drop (min m (n - m))) (by omega) (by omega) (by omega) ?_ ?_ ?_ (by rw [List.length_drop]; omega) h1 ?_ h3)
      · simp only [upd_some, Nat.reduceEqDiff, ↓reduceIte, h7]
      · simp only [upd_some, Nat.reduceEqDiff, ↓reduceIte]
      · show (if id = id then some _ else _) = _
        rw [if_pos rfl]
      · intro i hi
        show (if i = id then some _ else _) = _
        rw [if_neg hi]; exact h2 i hi
section
variable {P : Program} {Q : Post} {σ : Nat → PV} {s : List Fm} {H : AH}
theorem WO_mk1 {d : Option Nat} {x y : AE} {l : List AOp} {k k' : IntKind} {n : Nat} (hx : x.ev σ = .int k n) (hy : y.ev σ = .int k' n) (hb : n ≤ 1000000)
    (h : WO P l s Q (upd σ d (.msl H.next 0 n n 1)) (H.new (List.replicate n (.int .i64 0)))) : WO P (⟨d, .d (.mksl 1 8 [.int .i64 0] x y), none⟩ :: l) s Q σ H := by
  show WD P (dop (.mksl 1 8 [.int .i64 0] x y) σ H) d l s Q σ
  simp only [dop, hx, hy]
  rw [if_pos ⟨by omega, by omega, by omega, by omega, rfl, by decide⟩]
  rw [Int.toNat_natCast, flat_rep1]
  exact h
theorem WO_copy {d : Option Nat} {x y : AE} {l : List AOp} {id off len cap sz : Nat} {fs : List (List PV)} {cs : List PV} (hx : x.ev σ = .msl id off len cap sz) (hy : rowOf sz H (y.ev σ) = some fs) (ho : H.obj id = some cs)
    (hsz : szOk sz fs) (hle : off + len * sz ≤ cs.length)
    (h : WO P l s Q (upd σ d (.int .i64 (min fs.length len : Nat))) (H.put id (putCells cs off (fs.take len).flatten))) : WO P (⟨d, .n (.copy sz x y), none⟩ :: l) s Q σ H := by
  show WOps P _ _ σ H
  rw [WOps_n]
  simp only [nop, hx, hy, ho]
  rw [if_pos ⟨trivial, hsz, hle⟩]
  exact h
end
theorem rep94 (x : Int) (n : Int) (hn : 0 ≤ n ∧ n ≤ 1000000) : RowMk Tryz.prog 94 [.isl [[.int .i64 x]] .exact, .int .i64 n] intL 1 (List.replicate n.toNat x) := by
  intro H
  obtain ⟨n, rfl⟩ : ∃ k : Nat, n = k := ⟨n.toNat, by omega⟩
  refine MCall_of_W ok94 (by simp) (W_start ?_)
  unfold ac94
  have c1 : decide ((n : Int) < 0) = false := decide_eq_false (by omega)
  have c2 : IntKind.wrap .u64 1 = 1 := by decide
  have c3 : IntKind.wrap .u64 (n : Int) = n := IntWalk.u64_in _ (by omega)
  have c4 : IntKind.wrap .i64 (n : Int) = n := IntWalk.i64_in _ (by omega)
  have hm : g_Mul 1 n = some ((0 : Int), (n : Int)) := by
    unfold g_Mul mul64
    rw [if_pos ⟨⟨by omega, by omega⟩, by omega, by omega⟩]
    have e1 : ((1 : Int).toNat * ((n : Nat) : Int).toNat / 18446744073709551616 : Nat) = 0 := by
      rw [Int.toNat_natCast]; show (1 * n) / _ = 0; omega
    have e2 : ((1 : Int).toNat * ((n : Nat) : Int).toNat % 18446744073709551616 : Nat) = n := by
      rw [Int.toNat_natCast]; show (1 * n) % _ = n; omega
    rw [e1, e2]; rfl
  have hc := g_Mul_c hm
  have d1 : decide ((n : Int) > 9223372036854775807) = false := decide_eq_false (by omega)
  unfold ac94_j0 ac94_j1
  simp -implicitDefEqProofs only [go_sem, ↓reduceIte, Nat.reduceEqDiff, Nat.reduceAdd, List.length_cons, List.length_nil, c1, c2, c3, c4, d1]
  refine MCall.mono (hc H) fun v H' hv => ?_
  obtain ⟨rfl, rfl⟩ := hv
  have d0 : decide ((0 : Int) > 0) = false := by decide
  simp -implicitDefEqProofs only [go_sem, ↓reduceIte, Nat.reduceEqDiff, Nat.reduceAdd, List.length_cons, List.length_nil, c1, c2, c3, c4, d0, d1]
  refine WO_mk1 (k := .i64) (k' := .i64) (n := n) (by simp only [go_sem, ↓reduceIte, Nat.reduceEqDiff]) (by simp only [go_sem, ↓reduceIte, Nat.reduceEqDiff]) (by omega) ?_
  have hob : (H'.new (List.replicate n (PV.int .i64 0))).obj H'.next = some (List.replicate n (PV.int .i64 0)) := by
    show (if H'.next = H'.next then some _ else _) = _
    rw [if_pos rfl]
  simp -implicitDefEqProofs only [go_sem, ↓reduceIte, Nat.reduceEqDiff, Nat.reduceAdd]
  refine WO_copy (id := H'.next) (off := 0) (len := n) (cap := n) (fs := [[.int .i64 x]]) (cs := List.replicate n (.int .i64 0)) (by simp only [go_sem, ↓reduceIte, Nat.reduceEqDiff]) (by simp only [go_sem, ↓reduceIte, Nat.reduceEqDiff]; rfl) hob
    (by intro cs hcs; rw [List.mem_singleton.1 hcs]; exact ⟨rfl, fun c hc => by rw [List.mem_singleton.1 hc]; rfl⟩) (by rw [List.length_replicate]; omega) ?_
  have hput : putCells (List.replicate n (PV.int .i64 0)) 0 (([[PV.int .i64 x]] : List (List PV)).take n).flatten = List.replicate (min 1 n) (.int .i64 x) ++ List.replicate (n - min 1 n) (.int .i64 0) := by
    cases n with
    | zero => rfl
    | succ n =>
      have e : min 1 (n + 1) = 1 := by omega
      rw [e, List.take_of_length_le (by simp)]
      simp [putCells, List.replicate_succ]
  rw [hput]
  have e1 : (min ([[PV.int .i64 x]] : List (List PV)).length n : Nat) = min 1 n := rfl
  rw [e1]
  simp -implicitDefEqProofs only [go_sem, ↓reduceIte, Nat.reduceEqDiff, Nat.reduceAdd]
  have hput2 : ∀ cs : List PV, (((H'.new (List.replicate n (PV.int .i64 0))).put H'.next cs).obj H'.next) = some cs := fun cs => by
    show (if H'.next = H'.next then some _ else _) = _
    rw [if_pos rfl]
  refine loop94 x H'.next n ((H'.new (List.replicate n (PV.int .i64 0)))) _ (by omega) (fun σ' H2 k7 ko kn kob kl => ?_) n (min 1 n) _ _ (List.replicate (n - min 1 n) (.int .i64 0)) (by omega) (by omega) (by omega) ?_ ?_ (hput2 _) (by rw [List.length_replicate]) rfl
    (fun i hi => ?_) (fun k => rfl)
  · show WE Tryz.prog (.exit 0) _ _ σ' H2
    simp -implicitDefEqProofs only [go_sem, ↓reduceIte, Nat.reduceEqDiff, Nat.reduceAdd, k7]
    refine ⟨[H'.next], .inr ⟨H'.next, n, [], rfl, by rw [List.length_replicate], by rw [List.length_replicate]; omega, by rw [kn]; exact Nat.lt_succ_self _, ?_, ?_⟩, fun i hi => .inr (by rw [List.mem_singleton.1 hi]; exact Nat.le_refl _), ⟨by rw [kn]; exact Nat.le_succ _, fun i hi _ => ?_⟩, fun c3 hc => ?_⟩
    · rw [ko, List.append_nil, List.map_replicate]
      exact congrArg some (flat_rep1 (PV.int .i64 x) n).symm
    · rw [List.length_replicate]; simp
    · rw [kob i (by omega)]
      show (if i = H'.next then some _ else _) = _
      rw [if_neg (by omega)]
    · cases c3 with
      | unk => exact hc
      | tok t => exact ⟨by rw [kl]; exact hc.1, by rw [kn]; exact Nat.lt_succ_of_lt hc.2⟩
      | nil => trivial
      | exact => trivial
  · simp only [upd_some, Nat.reduceEqDiff, ↓reduceIte]
  · simp only [upd_some, Nat.reduceEqDiff, ↓reduceIte]
  · show (if i = H'.next then some _ else _) = _
    rw [if_neg hi]
def repOne (l : List Int) (n : Int) : List Int := List.replicate n.toNat (l.headD 0)
theorem rep94c (l : List Int) (n : Int) (h : l.length = 1 ∧ 0 ≤ n ∧ n ≤ 1000000) : RowMk Tryz.prog 94 [.isl (l.map intL) .exact, .int .i64 n] intL 1 (repOne l n) := by
  match l, h with
  | [x], h => exact rep94 x n h.2
end Go.VL
end
section
set_option maxRecDepth 8000
set_option maxHeartbeats 4000000
namespace Go.VL
open Go.Proofs
def t_parents_b0 : Nat → (List Int) → (List Int) → Int → (List Int) → Int → Int → Option (((List Int) × (List Int)))
  | 0, _, _, _, _, _, _ => none
  | k + 1, up_4, place_5, i_6, t_25, t_26, t_27 =>
    cond (decide (t_27 < t_26)) (if 0 ≤ t_27 then Option.bind (t_25[t_27.toNat]?) fun x21 => if 0 ≤ x21 then Option.bind (up_4[x21.toNat]?) fun x24 => Option.bind (place_5[x21.toNat]?) fun x41 => t_parents_b0 k (up_4.set x21.toNat i_6) (place_5.set x21.toNat t_27) i_6 t_25 t_26 (IntKind.wrap .i64 (t_27 + 1)) else none else none) (some ((up_4, place_5)))
def t_parents_b0l : List Nat := [8, 9] ++ List.range' 27 14
theorem t_parents_b0_W : ∀ (k : Nat) (v_up_4 : PV) (ids_up_4 : List Nat) (v_place_5 : PV) (ids_place_5 : List Nat) (M : List Nat) (up_4 : List Int) (place_5 : List Int) (i_6 : Int) (t_25 : List Int) (t_26 : Int) (t_27 : Int) (σ0 σ : Nat → PV) (H0 H : AH) (f0 : Fr t_parents_b0l σ0 σ) (hf0 : HF M H0 H) (sl : σ 4 = v_up_4 ∧ σ 5 = v_place_5 ∧ σ 6 = (.int .i64 i_6) ∧ σ 25 = (.isl (t_25.map intL) .unk) ∧ σ 26 = (.int .i64 t_26) ∧ σ 27 = (.int .i64 t_27)) (r_up_4 : RowN H intL 1 up_4 v_up_4 ids_up_4) (nw_up_4 : Nw H0 M ids_up_4) (r_place_5 : RowN H intL 1 place_5 v_place_5 ids_place_5) (nw_place_5 : Nw H0 M ids_place_5) (dj_up_4_place_5 : Dj ids_up_4 ids_place_5) (o : ((List Int) × (List Int))) (h : t_parents_b0 k up_4 place_5 i_6 t_25 t_26 t_27 = some o) (Q : Post) (q0 : ∀ (p : (List Int) × (List Int)) (v0 : PV) (ids0 : List Nat) (v1 : PV) (ids1 : List Nat) (σ' : Nat → PV) (H' : AH), o = p → Fr t_parents_b0l σ0 σ' → HF M H0 H' → (σ' 4 = v0 ∧ σ' 5 = v1) → RowN H' intL 1 p.1 v0 ids0 → Nw H0 M ids0 → RowN H' intL 1 p.2 v1 ids1 → Nw H0 M ids1 → Dj ids0 ids1 → Q (.exit 2) σ' H') , W Tryz.prog (.loop ac50_b0) Q σ H := by
  intro k
  induction k with
  | zero => intro v_up_4 ids_up_4 v_place_5 ids_place_5 M up_4 place_5 i_6 t_25 t_26 t_27 σ0 σ H0 H f0 hf0 sl r_up_4 nw_up_4 r_place_5 nw_place_5 dj_up_4_place_5 o h Q q0; simp only [t_parents_b0, reduceCtorEq] at h
  | succ k ih =>
    intro v_up_4 ids_up_4 v_place_5 ids_place_5 M up_4 place_5 i_6 t_25 t_26 t_27 σ0 σ H0 H f0 hf0 sl r_up_4 nw_up_4 r_place_5 nw_place_5 dj_up_4_place_5 o h Q q0
    obtain ⟨s4, s5, s6, s25, s26, s27⟩ := sl
    have hle0 := hf0.1
    unfold t_parents_b0 at h
    refine W_loopK (fun K hK => W_start ?_)
    unfold ac50_b0
    rcases cond_E h with ⟨e19, h⟩ | ⟨e19, h⟩
    ·obtain ⟨e20, h⟩ := if_E h
     obtain ⟨x21, e22, h⟩ := bind_E h
     obtain ⟨e23, h⟩ := if_E h
     obtain ⟨x24, e25, h⟩ := bind_E h
     obtain ⟨w26, w27, hidw26, hil, w28, hC, hL, hD, hI⟩ := RowN.content r_up_4 e25
     have w29 := ne_next hil
     have w30 := ne_add hil
     have w31 : idxPV 1 v_up_4 (.int .i64 x21) = some (.ref w26 (x21.toNat)) := by simpa using hI .i64 x21 (by first | omega | decide) (by first | rfl | omega)
     have w26c0 : w27[x21.toNat]? = some (.int .i64 x24) := by simpa using hC 0 _ rfl
     clear hC hL hD hI
     try refine go_ ?_
     refine WO_rowset (f := intL) (id := w26) (o := x21.toNat) (i := x21.toNat) (j := 0) (a := x24) (y := i_6) (vs := [(.int .i64 i_6)]) sl_ hidw26 (by omega) (by repeat (first | exact r_up_4 | apply RowN.new | refine RowN.put ?_ (fun hm => by have := RowN.lt r_up_4 _ hm; omega))) e25 sl_ rfl rfl (by first | decide | (simp only [List.length_cons, List.length_nil]; omega)) rfl (fun H34 r35 hf37 ok38 => ?_)
     have le := hf37.1
     try simp only [AH.new_next, AH.put_next, AH.tok_next, AH.use_next] at le
     have r39 := RowN.hf (by repeat (first | exact r_place_5 | apply RowN.new | refine RowN.put ?_ (fun hm => by have := RowN.lt r_place_5 _ hm; omega))) hf37 (Dj.symm dj_up_4_place_5)
     obtain ⟨x41, e42, h⟩ := bind_E h
     obtain ⟨w43, w44, hidw43, hil, w45, hC, hL, hD, hI⟩ := RowN.content r39 e42
     have w46 := ne_next hil
     have w47 := ne_add hil
     have w48 : idxPV 1 v_place_5 (.int .i64 x21) = some (.ref w43 (x21.toNat)) := by simpa using hI .i64 x21 (by first | omega | decide) (by first | rfl | omega)
     have w43c0 : w44[x21.toNat]? = some (.int .i64 x41) := by simpa using hC 0 _ rfl
     clear hC hL hD hI
     try refine go_ ?_
     refine WO_rowset (f := intL) (id := w43) (o := x21.toNat) (i := x21.toNat) (j := 0) (a := x41) (y := t_27) (vs := [(.int .i64 t_27)]) sl_ hidw43 (by omega) (by repeat (first | exact r39 | apply RowN.new | refine RowN.put ?_ (fun hm => by have := RowN.lt r39 _ hm; omega))) e42 sl_ rfl rfl (by first | decide | (simp only [List.length_cons, List.length_nil]; omega)) rfl (fun H51 r52 hf54 ok55 => ?_)
     have le := hf54.1
     try simp only [AH.new_next, AH.put_next, AH.tok_next, AH.use_next] at le
     have r56 := RowN.hf (by repeat (first | exact r35 | apply RowN.new | refine RowN.put ?_ (fun hm => by have := RowN.lt r35 _ hm; omega))) hf54 dj_up_4_place_5
     try refine go_ ?_
     refine hK _ _ ?_
     exact ih v_up_4 ids_up_4 v_place_5 ids_place_5 M (up_4.set x21.toNat i_6) (place_5.set x21.toNat t_27) i_6 t_25 t_26 (IntKind.wrap .i64 (t_27 + 1)) _ _ _ _ fr_ (by repeat (first | exact hf0 | refine HF.new ?_ | refine HF.tokd ?_ | refine HF.used ?_ | refine HF.put (by first | (right; omega) | (left; simp only [List.mem_cons, true_or, or_true])) ?_ | refine HF.via hf37 nw_up_4 ?_ | refine HF.via hf54 nw_place_5 ?_)) sl_ (by repeat (first | exact r56 | apply RowN.new | refine RowN.put ?_ (fun hm => by have := RowN.lt r56 _ hm; omega))) nw_up_4 (by repeat (first | exact r52 | apply RowN.new | refine RowN.put ?_ (fun hm => by have := RowN.lt r52 _ hm; omega))) nw_place_5 dj_up_4_place_5 _ h _ q0
    ·obtain rfl := som_E h
     try refine go_ ?_
     exact q0 _ v_up_4 ids_up_4 v_place_5 ids_place_5 _ _ rfl fr_ (by repeat (first | exact hf0 | refine HF.new ?_ | refine HF.tokd ?_ | refine HF.used ?_ | refine HF.put (by first | (right; omega) | (left; simp only [List.mem_cons, true_or, or_true])) ?_)) sl_ (by repeat (first | exact r_up_4 | apply RowN.new | refine RowN.put ?_ (fun hm => by have := RowN.lt r_up_4 _ hm; omega))) nw_up_4 (by repeat (first | exact r_place_5 | apply RowN.new | refine RowN.put ?_ (fun hm => by have := RowN.lt r_place_5 _ hm; omega))) nw_place_5 dj_up_4_place_5
def t_parents_b1 : Nat → (List Int) → (List Int) → (List Nd) → Int → Int → Option (((List Int) × (List Int)))
  | 0, _, _, _, _, _ => none
  | k + 1, up_4, place_5, t_17, t_18, t_19 =>
    cond (decide (t_19 < t_18)) (if 0 ≤ t_19 then Option.bind (t_17[t_19.toNat]?) fun x17 => Option.bind (t_parents_b0 k up_4 place_5 t_19 x17.args (x17.args.length : Int) 0) (fun p60 => t_parents_b1 k p60.1 p60.2 t_17 t_18 (IntKind.wrap .i64 (t_19 + 1))) else none) (some ((up_4, place_5)))
def t_parents_b1l : List Nat := [6, 7, 8, 9] ++ List.range' 19 23
theorem t_parents_b1_W : ∀ (k : Nat) (v_up_4 : PV) (ids_up_4 : List Nat) (v_place_5 : PV) (ids_place_5 : List Nat) (M : List Nat) (up_4 : List Int) (place_5 : List Int) (t_17 : List Nd) (t_18 : Int) (t_19 : Int) (σ0 σ : Nat → PV) (H0 H : AH) (f0 : Fr t_parents_b1l σ0 σ) (hf0 : HF M H0 H) (sl : σ 4 = v_up_4 ∧ σ 5 = v_place_5 ∧ σ 17 = (.isl (t_17.map Nd.cells) .unk) ∧ σ 18 = (.int .i64 t_18) ∧ σ 19 = (.int .i64 t_19)) (r_up_4 : RowN H intL 1 up_4 v_up_4 ids_up_4) (nw_up_4 : Nw H0 M ids_up_4) (r_place_5 : RowN H intL 1 place_5 v_place_5 ids_place_5) (nw_place_5 : Nw H0 M ids_place_5) (dj_up_4_place_5 : Dj ids_up_4 ids_place_5) (o : ((List Int) × (List Int))) (h : t_parents_b1 k up_4 place_5 t_17 t_18 t_19 = some o) (Q : Post) (q0 : ∀ (p : (List Int) × (List Int)) (v0 : PV) (ids0 : List Nat) (v1 : PV) (ids1 : List Nat) (σ' : Nat → PV) (H' : AH), o = p → Fr t_parents_b1l σ0 σ' → HF M H0 H' → (σ' 4 = v0 ∧ σ' 5 = v1) → RowN H' intL 1 p.1 v0 ids0 → Nw H0 M ids0 → RowN H' intL 1 p.2 v1 ids1 → Nw H0 M ids1 → Dj ids0 ids1 → Q (.exit 0) σ' H') , W Tryz.prog (.loop ac50_b1) Q σ H := by
  intro k
  induction k with
  | zero => intro v_up_4 ids_up_4 v_place_5 ids_place_5 M up_4 place_5 t_17 t_18 t_19 σ0 σ H0 H f0 hf0 sl r_up_4 nw_up_4 r_place_5 nw_place_5 dj_up_4_place_5 o h Q q0; simp only [t_parents_b1, reduceCtorEq] at h
  | succ k ih =>
    intro v_up_4 ids_up_4 v_place_5 ids_place_5 M up_4 place_5 t_17 t_18 t_19 σ0 σ H0 H f0 hf0 sl r_up_4 nw_up_4 r_place_5 nw_place_5 dj_up_4_place_5 o h Q q0
    obtain ⟨s4, s5, s17, s18, s19⟩ := sl
    have hle0 := hf0.1
    unfold t_parents_b1 at h
    refine W_loopK (fun K hK => W_start ?_)
    unfold ac50_b1
    rcases cond_E h with ⟨e15, h⟩ | ⟨e15, h⟩
    ·obtain ⟨e16, h⟩ := if_E h
     obtain ⟨x17, e18, h⟩ := bind_E h
     try refine go_ ?_
     rw [WO_store]
     try refine go_ ?_
     obtain ⟨o58, h59, h⟩ := bind_E h
     refine t_parents_b0_W k v_up_4 ids_up_4 v_place_5 ids_place_5 (ids_up_4 ++ (ids_place_5 ++ [])) up_4 place_5 t_19 x17.args (x17.args.length : Int) 0 _ _ _ _ (Fr.refl _ _) (HF.refl _ _) sl_ (by repeat (first | exact r_up_4 | apply RowN.new | refine RowN.put ?_ (fun hm => by have := RowN.lt r_up_4 _ hm; omega))) (fun i hi => Or.inl (by simp only [List.mem_append, List.mem_cons, hi, true_or, or_true])) (by repeat (first | exact r_place_5 | apply RowN.new | refine RowN.put ?_ (fun hm => by have := RowN.lt r_place_5 _ hm; omega))) (fun i hi => Or.inl (by simp only [List.mem_append, List.mem_cons, hi, true_or, or_true])) dj_up_4_place_5 _ h59 _ ?_
     ·rintro p60 v64 ids65 v69 ids70 σ' H63 eo fr61 hf62 ⟨s68, s73⟩ r66 nw67 r71 nw72 dj74
      rw [eo] at h
      have s75 : σ' 17 = (.isl (t_17.map Nd.cells) .unk) := (fr61 17 (by decide)).trans sl_
      have s76 : σ' 18 = (.int .i64 t_18) := (fr61 18 (by decide)).trans sl_
      have s77 : σ' 19 = (.int .i64 t_19) := (fr61 19 (by decide)).trans sl_
      have le := hf62.1
      try simp only [AH.new_next, AH.put_next, AH.tok_next, AH.use_next] at le
      try refine go_ ?_
      refine hK _ _ ?_
      exact ih v64 ids65 v69 ids70 M p60.1 p60.2 t_17 t_18 (IntKind.wrap .i64 (t_19 + 1)) _ _ _ _ (by repeat (first | exact f0 | refine Fr.upd (by decide) ?_ | refine Fr.via fr61 (by decide) ?_)) (by repeat (first | exact hf0 | refine HF.new ?_ | refine HF.tokd ?_ | refine HF.used ?_ | refine HF.put (by first | (right; omega) | (left; simp only [List.mem_cons, true_or, or_true])) ?_ | refine HF.via hf62 (List.forall_mem_append.2 ⟨nw_up_4, (List.forall_mem_append.2 ⟨nw_place_5, (fun _ h => absurd h List.not_mem_nil)⟩)⟩) ?_)) sl_ (by repeat (first | exact r66 | apply RowN.new | refine RowN.put ?_ (fun hm => by have := RowN.lt r66 _ hm; omega))) (Nw.via (List.forall_mem_append.2 ⟨nw_up_4, (List.forall_mem_append.2 ⟨nw_place_5, (fun _ h => absurd h List.not_mem_nil)⟩)⟩) om_ nw67) (by repeat (first | exact r71 | apply RowN.new | refine RowN.put ?_ (fun hm => by have := RowN.lt r71 _ hm; omega))) (Nw.via (List.forall_mem_append.2 ⟨nw_up_4, (List.forall_mem_append.2 ⟨nw_place_5, (fun _ h => absurd h List.not_mem_nil)⟩)⟩) om_ nw72) dj74 _ h _ q0
    ·obtain rfl := som_E h
     try refine go_ ?_
     exact q0 _ v_up_4 ids_up_4 v_place_5 ids_place_5 _ _ rfl fr_ (by repeat (first | exact hf0 | refine HF.new ?_ | refine HF.tokd ?_ | refine HF.used ?_ | refine HF.put (by first | (right; omega) | (left; simp only [List.mem_cons, true_or, or_true])) ?_)) sl_ (by repeat (first | exact r_up_4 | apply RowN.new | refine RowN.put ?_ (fun hm => by have := RowN.lt r_up_4 _ hm; omega))) nw_up_4 (by repeat (first | exact r_place_5 | apply RowN.new | refine RowN.put ?_ (fun hm => by have := RowN.lt r_place_5 _ hm; omega))) nw_place_5 dj_up_4_place_5
def t_parents (k : Nat) (e_0 : List Nd) : Option ((List Int) × (List Int)) :=
  if [(-1)].length = 1 ∧ 0 ≤ (e_0.length : Int) ∧ (e_0.length : Int) ≤ 1000000 then if 0 ≤ (e_0.length : Int) ∧ (e_0.length : Int) ≤ 1099511627776 ∧ 8 * (e_0.length : Int) ≤ 1099511627776 then Option.bind (t_parents_b1 k (repOne [(-1)] (e_0.length : Int) : List Int) (List.replicate e_0.length 0) e_0 (e_0.length : Int) 0) (fun p80 => some (p80.1, p80.2)) else none else none
theorem t_parents_c {k : Nat} {e_0 : List Nd} {c0 : Ck} {r : (List Int) × (List Int)} (h : t_parents k e_0 = some r) : PCall Tryz.prog 50 [(.isl (e_0.map Nd.cells) c0)] (.tup [(.isl (r.1.map intL) .unk), (.isl (r.2.map intL) .unk)]) := by
  refine PCall.lw (.isl .nil) (PCall.of_empty (PuL.mem (.cons (pu_sl Nd.pu _) .nil)) (MCall_of_W ok50 (by simp) (W_start ?_)) (.tup _ (PuL.mem (.cons (pu_sl pu_intL _) (.cons (pu_sl pu_intL _) .nil)))))
  unfold t_parents at h
  unfold ac50
  obtain ⟨e13, h⟩ := if_E h
  obtain ⟨e14, h⟩ := if_E h
  try refine go_ ?_
  refine WS_par2 (par_rows2 (a := 3) (b := 6) (f := intL) (sz := 1) (xs := (repOne [(-1)] (e_0.length : Int) : List Int)) (g := intL) (sz2 := 1) (ys := (List.replicate e_0.length 0)) (fun x y i => match i with | 0 => (.isl ([(-1)].map intL) .exact) | 1 => (.isl (e_0.map Nd.cells) .unk) | 2 => (.int .i64 (e_0.length : Int)) | 3 => x | 4 => (.isl (e_0.map Nd.cells) .unk) | 5 => (.int .i64 (e_0.length : Int)) | 6 => y | 7 => x | _ => ud) rfl (by decide) rfl rfl (fun _ _ => rfl) (fun _ _ => rfl) (by
    intro x x' y i h1 h2
    rcases i with _ | i
    · first | rfl | exact absurd rfl h1 | exact absurd h2 (by decide)
    rcases i with _ | i
    · first | rfl | exact absurd rfl h1 | exact absurd h2 (by decide)
    rcases i with _ | i
    · first | rfl | exact absurd rfl h1 | exact absurd h2 (by decide)
    rcases i with _ | i
    · first | rfl | exact absurd rfl h1 | exact absurd h2 (by decide)
    rcases i with _ | i
    · first | rfl | exact absurd rfl h1 | exact absurd h2 (by decide)
    rcases i with _ | i
    · first | rfl | exact absurd rfl h1 | exact absurd h2 (by decide)
    rcases i with _ | i
    · first | rfl | exact absurd rfl h1 | exact absurd h2 (by decide)
    rcases i with _ | i
    · first | rfl | exact absurd rfl h1 | exact absurd h2 (by decide)
    rfl) (by
    intro x y y' i h1 h2
    rcases i with _ | i
    · first | rfl | exact absurd rfl h1 | exact absurd h2 (by decide)
    rcases i with _ | i
    · first | rfl | exact absurd rfl h1 | exact absurd h2 (by decide)
    rcases i with _ | i
    · first | rfl | exact absurd rfl h1 | exact absurd h2 (by decide)
    rcases i with _ | i
    · first | rfl | exact absurd rfl h1 | exact absurd h2 (by decide)
    rcases i with _ | i
    · first | rfl | exact absurd rfl h1 | exact absurd h2 (by decide)
    rcases i with _ | i
    · first | rfl | exact absurd rfl h1 | exact absurd h2 (by decide)
    rcases i with _ | i
    · first | rfl | exact absurd rfl h1 | exact absurd h2 (by decide)
    rcases i with _ | i
    · first | rfl | exact absurd rfl h1 | exact absurd h2 (by decide)
    rfl) (by
    intro x y
    refine ⟨.inr ⟨rfl, fun H => by (try simp -implicitDefEqProofs only [WOp, slF, evs, List.map, List.nil_append, List.append_nil, go_sem]); first | done | exact ⟨rfl, rfl⟩⟩, ?_⟩
    refine ⟨.inr ⟨rfl, fun H => by (try simp -implicitDefEqProofs only [WOp, slF, evs, List.map, List.nil_append, List.append_nil, go_sem]); first | done | exact ⟨rfl, rfl⟩⟩, ?_⟩
    refine ⟨.inr ⟨rfl, fun H => by (try simp -implicitDefEqProofs only [WOp, slF, evs, List.map, List.nil_append, List.append_nil, go_sem]); first | done | exact ⟨rfl, rfl⟩⟩, ?_⟩
    refine ⟨.inl rfl, ?_⟩
    refine ⟨.inr ⟨rfl, fun H => by (try simp -implicitDefEqProofs only [WOp, slF, evs, List.map, List.nil_append, List.append_nil, go_sem]); first | done | exact ⟨rfl, rfl⟩⟩, ?_⟩
    refine ⟨.inr ⟨rfl, fun H => by (try simp -implicitDefEqProofs only [WOp, slF, evs, List.map, List.nil_append, List.append_nil, go_sem]); first | done | exact ⟨rfl, rfl⟩⟩, ?_⟩
    refine ⟨.inl rfl, ?_⟩
    refine ⟨.inr ⟨rfl, fun H => by (try simp -implicitDefEqProofs only [WOp, slF, evs, List.map, List.nil_append, List.append_nil, go_sem]); first | done | exact ⟨rfl, rfl⟩⟩, ?_⟩
    exact trivial) (fun y H => ⟨trivial, mk_call (rep94c [(-1)] (e_0.length : Int) e13) (by simp -implicitDefEqProofs only [slF, evs, List.map, List.nil_append, List.append_nil, go_sem])⟩) (fun x H => ⟨trivial, mk_mksl (f := intL) (k := .i64) (k' := .i64) (n := (e_0.length : Int)) 0 rfl (by simp -implicitDefEqProofs only [slF, evs, List.map, List.nil_append, List.append_nil, go_sem]) (by simp -implicitDefEqProofs only [slF, evs, List.map, List.nil_append, List.append_nil, go_sem]) e14 (by decide)⟩) (fun v1 v8 ids2 ids9 H3 r4 r10 dj12 nw5 nw11 hf6 ok7 => ?_))
  simp only [slF, List.length_cons, List.length_nil, Nat.reduceAdd]
  have le := hf6.1
  try simp only [AH.new_next, AH.put_next, AH.tok_next, AH.use_next] at le
  try refine go_ ?_
  obtain ⟨o78, h79, h⟩ := bind_E h
  refine t_parents_b1_W k v1 ids2 v8 ids9 (ids2 ++ (ids9 ++ [])) (repOne [(-1)] (e_0.length : Int) : List Int) (List.replicate e_0.length 0) e_0 (e_0.length : Int) 0 _ _ _ _ (Fr.refl _ _) (HF.refl _ _) sl_ (by repeat (first | exact r4 | apply RowN.new | refine RowN.put ?_ (fun hm => by have := RowN.lt r4 _ hm; omega))) (fun i hi => Or.inl (by simp only [List.mem_append, List.mem_cons, hi, true_or, or_true])) (by repeat (first | exact r10 | apply RowN.new | refine RowN.put ?_ (fun hm => by have := RowN.lt r10 _ hm; omega))) (fun i hi => Or.inl (by simp only [List.mem_append, List.mem_cons, hi, true_or, or_true])) dj12 _ h79 _ ?_
  ·rintro p80 v84 ids85 v89 ids90 σ' H83 eo fr81 hf82 ⟨s88, s93⟩ r86 nw87 r91 nw92 dj94
   rw [eo] at h
   have le := hf82.1
   try simp only [AH.new_next, AH.put_next, AH.tok_next, AH.use_next] at le
   obtain rfl := som_E h
   try refine go_ ?_
   exact (fz_tup (.cons (RowN.fz pu_intL (by repeat (first | exact r86 | apply RowN.new | refine RowN.put ?_ (fun hm => by have := RowN.lt r86 _ hm; omega)))) (.cons (RowN.fz pu_intL (by repeat (first | exact r91 | apply RowN.new | refine RowN.put ?_ (fun hm => by have := RowN.lt r91 _ hm; omega)))) .nil)))
end Go.VL
end
section
namespace Go.VL
open Go.Proofs Go.RowKit
set_option maxRecDepth 100000
theorem enters141 : Enters Tryz.prog 141 := ⟨_, Tryz.func141, rfl, by kernel_rfl⟩
theorem backs141 : Backs Tryz.prog 141 1 false := by
  intro l m bx n J Jx W hn hc hY h0
  refine callsIn_of_wp Tryz.func141 rfl trivial ?_ rfl
  simp only [Tryz.ntmps141, List.size_toArray, List.length_cons, List.length_nil, Nat.reduceAdd, Nat.reduceSub, Array.replicate_succ, Array.replicate_zero, List.push_toArray, List.append_toArray, List.nil_append, List.cons_append]
  obtain ⟨ad0, cap0, hc0⟩ := hc
  gi_wp2
  gi_loopw [3] (fun v3 wr => ∃ k : Nat, v3 = .int .i64 ((k : Int) - 1) ∧ k ≤ n ∧ J k wr) (fun v3 wr => (RowKit.intOf v3 + 1).toNat)
  case atStart => exact ⟨n, rfl, Nat.le_refl _, h0⟩
  case round =>
    obtain ⟨k, rfl, hk, hJ⟩ := hrel
    cases k with
    | zero =>
      have c1 : ¬ (0 : Int) ≤ ((0 : Nat) : Int) - 1 := by omega
      gi_wp2
      go_end0
      exact ⟨⟨_, rfl⟩, .inl hJ⟩
    | succ k =>
      obtain ⟨b, o, cap, vs, hb, hkn, hvs, hld, fn, tmps, assign, body, hy, hR⟩ := hY k wr hJ
      have e1 : ((k + 1 : Nat) : Int) - 1 = (k : Int) := by omega
      rw [e1]
      have c1 : (0 : Int) ≤ (k : Int) := by omega
      have c2 : (k : Int) < (n : Int) := by omega
      have hld' : wr.cell? ⟨b, o + k, none⟩ = some (elemV false vs) := by
        have := hld 0 (elemV false vs) (by simp [elemV, hvs])
        simpa using this
      clear hld
      generalize elemV false vs = v at *
      gi_wp2
      refine ⟨fun hd => absurd hd (by simp [Fence.wide]), (roundIn_any hR).mono ?_⟩
      rintro e W' (⟨rfl, hJ'⟩ | ⟨rfl, hJx⟩)
      · gi_wp2
        go_roundw
        case rel => exact ⟨k, rfl, by omega, hJ'⟩
        case measure => simp [RowKit.intOf]
      · gi_wp2
        refine bodyPost_ret (results_none rfl _ _ _) rfl ?_
        exact ⟨⟨_, rfl⟩, .inr hJx⟩
end Go.VL
end
section
set_option maxRecDepth 8000
set_option maxHeartbeats 4000000
namespace Go.VL
open Go.Proofs
def t_shapeOf_j0 (t_11 : Int) : Option Bool :=
  cond (t_11 == 1) (some ((t_11 == 1))) (some ((t_11 == 2)))
theorem t_shapeOf_j0_W : ∀ (t_11 : Int) (σ0 σ : Nat → PV) (H : AH) (f0 : Fr [15, 16, 17] σ0 σ) (sl : σ 11 = (.int .i64 t_11)) (o : Bool) (h : t_shapeOf_j0 t_11 = some o) (Q : Post) (q0 : ∀ (p : Bool) (σ' : Nat → PV), o = p → Fr [15, 16, 17] σ0 σ' → (σ' 15 = (.bool p)) → Q .normal σ' H) , W Tryz.prog ac90_j0 Q σ H := by
  intro t_11 σ0 σ H f0 sl o h Q q0
  have s11 := sl
  unfold t_shapeOf_j0 at h
  refine W_start ?_
  unfold ac90_j0
  rcases cond_E h with ⟨e2, h⟩ | ⟨e2, h⟩
  ·obtain rfl := som_E h
   try refine gos_ ?_
   exact q0 _ _ rfl fr_ sls_
  ·obtain rfl := som_E h
   try refine gos_ ?_
   exact q0 _ _ rfl fr_ sls_
def t_shapeOf_j1 (t_11 : Int) : Option Bool :=
  cond (t_11 == 4) (some ((t_11 == 4))) (some ((t_11 == 5)))
theorem t_shapeOf_j1_W : ∀ (t_11 : Int) (σ0 σ : Nat → PV) (H : AH) (f0 : Fr [38, 39, 40] σ0 σ) (sl : σ 11 = (.int .i64 t_11)) (o : Bool) (h : t_shapeOf_j1 t_11 = some o) (Q : Post) (q0 : ∀ (p : Bool) (σ' : Nat → PV), o = p → Fr [38, 39, 40] σ0 σ' → (σ' 38 = (.bool p)) → Q .normal σ' H) , W Tryz.prog ac90_j1 Q σ H := by
  intro t_11 σ0 σ H f0 sl o h Q q0
  have s11 := sl
  unfold t_shapeOf_j1 at h
  refine W_start ?_
  unfold ac90_j1
  rcases cond_E h with ⟨e20, h⟩ | ⟨e20, h⟩
  ·obtain rfl := som_E h
   try refine gos_ ?_
   exact q0 _ _ rfl fr_ sls_
  ·obtain rfl := som_E h
   try refine gos_ ?_
   exact q0 _ _ rfl fr_ sls_
def t_shapeOf_j2 (t_11 : Int) : Option Bool :=
  cond (t_11 == 6) (some ((t_11 == 6))) (some ((t_11 == 12)))
theorem t_shapeOf_j2_W : ∀ (t_11 : Int) (σ0 σ : Nat → PV) (H : AH) (f0 : Fr [43, 44, 45] σ0 σ) (sl : σ 11 = (.int .i64 t_11)) (o : Bool) (h : t_shapeOf_j2 t_11 = some o) (Q : Post) (q0 : ∀ (p : Bool) (σ' : Nat → PV), o = p → Fr [43, 44, 45] σ0 σ' → (σ' 43 = (.bool p)) → Q .normal σ' H) , W Tryz.prog ac90_j2 Q σ H := by
  intro t_11 σ0 σ H f0 sl o h Q q0
  have s11 := sl
  unfold t_shapeOf_j2 at h
  refine W_start ?_
  unfold ac90_j2
  rcases cond_E h with ⟨e33, h⟩ | ⟨e33, h⟩
  ·obtain rfl := som_E h
   try refine gos_ ?_
   exact q0 _ _ rfl fr_ sls_
  ·obtain rfl := som_E h
   try refine gos_ ?_
   exact q0 _ _ rfl fr_ sls_
def t_shapeOf_j3 (t_11 : Int) : Option Bool :=
  cond (t_11 == 7) (some ((t_11 == 7))) (cond (t_11 == 8) (some ((t_11 == 8))) (cond (t_11 == 9) (some ((t_11 == 9))) (some ((t_11 == 13)))))
def t_shapeOf_j3l : List Nat := [48, 49, 50, 51, 52]
theorem t_shapeOf_j3_W : ∀ (t_11 : Int) (σ0 σ : Nat → PV) (H : AH) (f0 : Fr t_shapeOf_j3l σ0 σ) (sl : σ 11 = (.int .i64 t_11)) (o : Bool) (h : t_shapeOf_j3 t_11 = some o) (Q : Post) (q0 : ∀ (p : Bool) (σ' : Nat → PV), o = p → Fr t_shapeOf_j3l σ0 σ' → (σ' 48 = (.bool p)) → Q .normal σ' H) , W Tryz.prog ac90_j3 Q σ H := by
  intro t_11 σ0 σ H f0 sl o h Q q0
  have s11 := sl
  unfold t_shapeOf_j3 at h
  refine W_start ?_
  unfold ac90_j3
  rcases cond_E h with ⟨e48, h⟩ | ⟨e48, h⟩
  ·obtain rfl := som_E h
   try refine gos_ ?_
   exact q0 _ _ rfl fr_ sls_
  ·rcases cond_E h with ⟨e49, h⟩ | ⟨e49, h⟩
   ·obtain rfl := som_E h
    try refine gos_ ?_
    exact q0 _ _ rfl fr_ sls_
   ·rcases cond_E h with ⟨e50, h⟩ | ⟨e50, h⟩
    ·obtain rfl := som_E h
     try refine gos_ ?_
     exact q0 _ _ rfl fr_ sls_
    ·obtain rfl := som_E h
     try refine gos_ ?_
     exact q0 _ _ rfl fr_ sls_
def t_shapeOf_j4 (t_11 : Int) : Option Bool :=
  cond (t_11 == 10) (some ((t_11 == 10))) (some ((t_11 == 11)))
theorem t_shapeOf_j4_W : ∀ (t_11 : Int) (σ0 σ : Nat → PV) (H : AH) (f0 : Fr [60, 61, 62] σ0 σ) (sl : σ 11 = (.int .i64 t_11)) (o : Bool) (h : t_shapeOf_j4 t_11 = some o) (Q : Post) (q0 : ∀ (p : Bool) (σ' : Nat → PV), o = p → Fr [60, 61, 62] σ0 σ' → (σ' 60 = (.bool p)) → Q .normal σ' H) , W Tryz.prog ac90_j4 Q σ H := by
  intro t_11 σ0 σ H f0 sl o h Q q0
  have s11 := sl
  unfold t_shapeOf_j4 at h
  refine W_start ?_
  unfold ac90_j4
  rcases cond_E h with ⟨e63, h⟩ | ⟨e63, h⟩
  ·obtain rfl := som_E h
   try refine gos_ ?_
   exact q0 _ _ rfl fr_ sls_
  ·obtain rfl := som_E h
   try refine gos_ ?_
   exact q0 _ _ rfl fr_ sls_
def t_shapeOf_j5 (t_11 : Int) : Option Bool :=
  cond (t_11 == 16) (some ((t_11 == 16))) (some ((t_11 == 17)))
theorem t_shapeOf_j5_W : ∀ (t_11 : Int) (σ0 σ : Nat → PV) (H : AH) (f0 : Fr [70, 71, 72] σ0 σ) (sl : σ 11 = (.int .i64 t_11)) (o : Bool) (h : t_shapeOf_j5 t_11 = some o) (Q : Post) (q0 : ∀ (p : Bool) (σ' : Nat → PV), o = p → Fr [70, 71, 72] σ0 σ' → (σ' 70 = (.bool p)) → Q .normal σ' H) , W Tryz.prog ac90_j5 Q σ H := by
  intro t_11 σ0 σ H f0 sl o h Q q0
  have s11 := sl
  unfold t_shapeOf_j5 at h
  refine W_start ?_
  unfold ac90_j5
  rcases cond_E h with ⟨e77, h⟩ | ⟨e77, h⟩
  ·obtain rfl := som_E h
   try refine gos_ ?_
   exact q0 _ _ rfl fr_ sls_
  ·obtain rfl := som_E h
   try refine gos_ ?_
   exact q0 _ _ rfl fr_ sls_
def t_shapeOf_j6 (t_11 : Int) : Option Bool :=
  cond (t_11 == 19) (some ((t_11 == 19))) (some ((t_11 == 21)))
theorem t_shapeOf_j6_W : ∀ (t_11 : Int) (σ0 σ : Nat → PV) (H : AH) (f0 : Fr [82, 83, 84] σ0 σ) (sl : σ 11 = (.int .i64 t_11)) (o : Bool) (h : t_shapeOf_j6 t_11 = some o) (Q : Post) (q0 : ∀ (p : Bool) (σ' : Nat → PV), o = p → Fr [82, 83, 84] σ0 σ' → (σ' 82 = (.bool p)) → Q .normal σ' H) , W Tryz.prog ac90_j6 Q σ H := by
  intro t_11 σ0 σ H f0 sl o h Q q0
  have s11 := sl
  unfold t_shapeOf_j6 at h
  refine W_start ?_
  unfold ac90_j6
  rcases cond_E h with ⟨e91, h⟩ | ⟨e91, h⟩
  ·obtain rfl := som_E h
   try refine gos_ ?_
   exact q0 _ _ rfl fr_ sls_
  ·obtain rfl := som_E h
   try refine gos_ ?_
   exact q0 _ _ rfl fr_ sls_
def t_shapeOf (k : Nat) (n_0 : Nd) : Option Shape :=
  cond (n_0.kind == 0) (some (Shape.mk (0, 0) (0, 0) false true)) (Option.bind (t_shapeOf_j0 n_0.kind) (fun p5 => cond p5 (some (Shape.mk (0, 0) (0, 0) true false)) (cond (n_0.kind == 3) (Option.bind (t_operatorOf k n_0.text) fun p18 => cond p18.2 (some (Shape.mk (0, 0) ((n_0.args.length : Int), (n_0.args.length : Int)) true false)) (some (Shape.mk (0, 0) (1, 4) true false))) (Option.bind (t_shapeOf_j1 n_0.kind) (fun p23 => cond p23 (some (Shape.mk (0, 0) (0, 30) false false)) (Option.bind (t_shapeOf_j2 n_0.kind) (fun p36 => cond p36 (Option.bind (t_shapeOf_1 1 2) fun p47 => some p47) (Option.bind (t_shapeOf_j3 n_0.kind) (fun p53 => cond p53 (some (Shape.mk (1, 4) ((IntKind.wrap .i64 ((n_0.names.length : Int) + 1)), (IntKind.wrap .i64 ((n_0.names.length : Int) + 1))) false false)) (Option.bind (t_shapeOf_j4 n_0.kind) (fun p66 => cond p66 (some (Shape.mk (1, 4) (1, 1) false false)) (cond (n_0.kind == 14) (some (Shape.mk (0, 0) (2, 5) false false)) (Option.bind (t_shapeOf_j5 n_0.kind) (fun p80 => cond p80 (some (Shape.mk (1, 30) ((n_0.names.length : Int), (n_0.names.length : Int)) false false)) (cond (n_0.kind == 18) (some (Shape.mk (0, 0) (1, 1) true false)) (Option.bind (t_shapeOf_j6 n_0.kind) (fun p94 => cond p94 (Option.bind (t_shapeOf_1 0 3) fun p104 => some p104) (cond (n_0.kind == 20) (some (Shape.mk (0, 0) (0, 0) false false)) (cond (n_0.kind == 22) (some (Shape.mk (0, 0) (2, 30) false false)) (cond (n_0.kind == 23) (some (Shape.mk (1, 5) (2, 2) false true)) (cond (n_0.kind == 24) (some (Shape.mk (1, 4) (1, 1) false false)) (Option.bind (t_shapeOf_1 0 2) fun p110 => some p110))))))))))))))))))))))
theorem t_shapeOf_c {k : Nat} {n_0 : Nd} {r : Shape} (h : t_shapeOf k n_0 = some r) : PCall Tryz.prog 90 [(.agg (Nd.cells n_0))] (.agg (Shape.cells r)) := by
  refine PCall.of_empty (PuL.mem (.cons (.agg _ (Nd.pu _)) .nil)) (MCall_of_W ok90 (by simp) (W_start ?_)) (.agg _ (Shape.pu _))
  unfold t_shapeOf at h
  unfold ac90
  rcases cond_E h with ⟨e1, h⟩ | ⟨e1, h⟩
  ·obtain rfl := som_E h
   try refine gos_ ?_
   exact (fz_agg (.cons (.pure _ (.int _ _)) (.cons (.pure _ (.int _ _)) (.cons (.pure _ (.int _ _)) (.cons (.pure _ (.int _ _)) (.cons (.pure _ (.bool _)) (.cons (.pure _ (.bool _)) .nil)))))))
  ·try refine gos_ ?_
   obtain ⟨o3, h4, h⟩ := bind_E h
   refine t_shapeOf_j0_W n_0.kind _ _ _ (Fr.refl _ _) sls_ _ h4 _ ?_
   ·rintro p5 σ' eo fr6 s9
    rw [eo] at h
    have s10 : σ' 1 = (.ref (AH.empty.next) 0) := (fr6 1 (by decide)).trans sls_
    have s11 : σ' 2 = (.ref (AH.empty.next + 1) 0) := (fr6 2 (by decide)).trans sls_
    have s12 : σ' 3 = (.fn (.func 140) [] []) := (fr6 3 (by decide)).trans sls_
    have s13 : σ' 4 = (.int .i64 (n_0.names.length : Int)) := (fr6 4 (by decide)).trans sls_
    have s14 : σ' 11 = (.int .i64 n_0.kind) := (fr6 11 (by decide)).trans sls_
    rcases cond_E h with ⟨e15, h⟩ | ⟨e15, h⟩
    ·obtain rfl := som_E h
     try refine gos_ ?_
     exact (fz_agg (.cons (.pure _ (.int _ _)) (.cons (.pure _ (.int _ _)) (.cons (.pure _ (.int _ _)) (.cons (.pure _ (.int _ _)) (.cons (.pure _ (.bool _)) (.cons (.pure _ (.bool _)) .nil)))))))
    ·rcases cond_E h with ⟨e16, h⟩ | ⟨e16, h⟩
     ·obtain ⟨p18, e17, h⟩ := bind_E h
      try refine gos_ ?_
      refine mcall_pure (t_operatorOf_c e17) ?_
      rcases cond_E h with ⟨e19, h⟩ | ⟨e19, h⟩
      ·obtain rfl := som_E h
       try refine gos_ ?_
       exact (fz_agg (.cons (.pure _ (.int _ _)) (.cons (.pure _ (.int _ _)) (.cons (.pure _ (.int _ _)) (.cons (.pure _ (.int _ _)) (.cons (.pure _ (.bool _)) (.cons (.pure _ (.bool _)) .nil)))))))
      ·obtain rfl := som_E h
       try refine gos_ ?_
       exact (fz_agg (.cons (.pure _ (.int _ _)) (.cons (.pure _ (.int _ _)) (.cons (.pure _ (.int _ _)) (.cons (.pure _ (.int _ _)) (.cons (.pure _ (.bool _)) (.cons (.pure _ (.bool _)) .nil)))))))
     ·try refine gos_ ?_
      obtain ⟨o21, h22, h⟩ := bind_E h
      refine t_shapeOf_j1_W n_0.kind _ _ _ (Fr.refl _ _) sls_ _ h22 _ ?_
      ·rintro p23 σ' eo fr24 s27
       rw [eo] at h
       have s28 : σ' 2 = (.ref (AH.empty.next + 1) 0) := (fr24 2 (by decide)).trans sls_
       have s29 : σ' 3 = (.fn (.func 140) [] []) := (fr24 3 (by decide)).trans sls_
       have s30 : σ' 4 = (.int .i64 (n_0.names.length : Int)) := (fr24 4 (by decide)).trans sls_
       have s31 : σ' 11 = (.int .i64 n_0.kind) := (fr24 11 (by decide)).trans sls_
       rcases cond_E h with ⟨e32, h⟩ | ⟨e32, h⟩
       ·obtain rfl := som_E h
        try refine gos_ ?_
        exact (fz_agg (.cons (.pure _ (.int _ _)) (.cons (.pure _ (.int _ _)) (.cons (.pure _ (.int _ _)) (.cons (.pure _ (.int _ _)) (.cons (.pure _ (.bool _)) (.cons (.pure _ (.bool _)) .nil)))))))
       ·try refine gos_ ?_
        obtain ⟨o34, h35, h⟩ := bind_E h
        refine t_shapeOf_j2_W n_0.kind _ _ _ (Fr.refl _ _) sls_ _ h35 _ ?_
        ·rintro p36 σ' eo fr37 s40
         rw [eo] at h
         have s41 : σ' 2 = (.ref (AH.empty.next + 1) 0) := (fr37 2 (by decide)).trans sls_
         have s42 : σ' 3 = (.fn (.func 140) [] []) := (fr37 3 (by decide)).trans sls_
         have s43 : σ' 4 = (.int .i64 (n_0.names.length : Int)) := (fr37 4 (by decide)).trans sls_
         have s44 : σ' 11 = (.int .i64 n_0.kind) := (fr37 11 (by decide)).trans sls_
         rcases cond_E h with ⟨e45, h⟩ | ⟨e45, h⟩
         ·obtain ⟨p47, e46, h⟩ := bind_E h
          try refine gos_ ?_
          refine mcall_pure (t_shapeOf_1_c e46) ?_
          obtain rfl := som_E h
          try refine gos_ ?_
          exact (fz_agg (.cons (.pure _ (.int _ _)) (.cons (.pure _ (.int _ _)) (.cons (.pure _ (.int _ _)) (.cons (.pure _ (.int _ _)) (.cons (.pure _ (.bool _)) (.cons (.pure _ (.bool _)) .nil)))))))
         ·try refine gos_ ?_
          obtain ⟨o51, h52, h⟩ := bind_E h
          refine t_shapeOf_j3_W n_0.kind _ _ _ (Fr.refl _ _) sls_ _ h52 _ ?_
          ·rintro p53 σ' eo fr54 s57
           rw [eo] at h
           have s58 : σ' 2 = (.ref (AH.empty.next + 1) 0) := (fr54 2 (by decide)).trans sls_
           have s59 : σ' 3 = (.fn (.func 140) [] []) := (fr54 3 (by decide)).trans sls_
           have s60 : σ' 4 = (.int .i64 (n_0.names.length : Int)) := (fr54 4 (by decide)).trans sls_
           have s61 : σ' 11 = (.int .i64 n_0.kind) := (fr54 11 (by decide)).trans sls_
           rcases cond_E h with ⟨e62, h⟩ | ⟨e62, h⟩
           ·obtain rfl := som_E h
            try refine gos_ ?_
            exact (fz_agg (.cons (.pure _ (.int _ _)) (.cons (.pure _ (.int _ _)) (.cons (.pure _ (.int _ _)) (.cons (.pure _ (.int _ _)) (.cons (.pure _ (.bool _)) (.cons (.pure _ (.bool _)) .nil)))))))
           ·try refine gos_ ?_
            obtain ⟨o64, h65, h⟩ := bind_E h
            refine t_shapeOf_j4_W n_0.kind _ _ _ (Fr.refl _ _) sls_ _ h65 _ ?_
            ·rintro p66 σ' eo fr67 s70
             rw [eo] at h
             have s71 : σ' 2 = (.ref (AH.empty.next + 1) 0) := (fr67 2 (by decide)).trans sls_
             have s72 : σ' 3 = (.fn (.func 140) [] []) := (fr67 3 (by decide)).trans sls_
             have s73 : σ' 4 = (.int .i64 (n_0.names.length : Int)) := (fr67 4 (by decide)).trans sls_
             have s74 : σ' 11 = (.int .i64 n_0.kind) := (fr67 11 (by decide)).trans sls_
             rcases cond_E h with ⟨e75, h⟩ | ⟨e75, h⟩
             ·obtain rfl := som_E h
              try refine gos_ ?_
              exact (fz_agg (.cons (.pure _ (.int _ _)) (.cons (.pure _ (.int _ _)) (.cons (.pure _ (.int _ _)) (.cons (.pure _ (.int _ _)) (.cons (.pure _ (.bool _)) (.cons (.pure _ (.bool _)) .nil)))))))
             ·rcases cond_E h with ⟨e76, h⟩ | ⟨e76, h⟩
              ·obtain rfl := som_E h
               try refine gos_ ?_
               exact (fz_agg (.cons (.pure _ (.int _ _)) (.cons (.pure _ (.int _ _)) (.cons (.pure _ (.int _ _)) (.cons (.pure _ (.int _ _)) (.cons (.pure _ (.bool _)) (.cons (.pure _ (.bool _)) .nil)))))))
              ·try refine gos_ ?_
               obtain ⟨o78, h79, h⟩ := bind_E h
               refine t_shapeOf_j5_W n_0.kind _ _ _ (Fr.refl _ _) sls_ _ h79 _ ?_
               ·rintro p80 σ' eo fr81 s84
                rw [eo] at h
                have s85 : σ' 2 = (.ref (AH.empty.next + 1) 0) := (fr81 2 (by decide)).trans sls_
                have s86 : σ' 3 = (.fn (.func 140) [] []) := (fr81 3 (by decide)).trans sls_
                have s87 : σ' 4 = (.int .i64 (n_0.names.length : Int)) := (fr81 4 (by decide)).trans sls_
                have s88 : σ' 11 = (.int .i64 n_0.kind) := (fr81 11 (by decide)).trans sls_
                rcases cond_E h with ⟨e89, h⟩ | ⟨e89, h⟩
                ·obtain rfl := som_E h
                 try refine gos_ ?_
                 exact (fz_agg (.cons (.pure _ (.int _ _)) (.cons (.pure _ (.int _ _)) (.cons (.pure _ (.int _ _)) (.cons (.pure _ (.int _ _)) (.cons (.pure _ (.bool _)) (.cons (.pure _ (.bool _)) .nil)))))))
                ·rcases cond_E h with ⟨e90, h⟩ | ⟨e90, h⟩
                 ·obtain rfl := som_E h
                  try refine gos_ ?_
                  exact (fz_agg (.cons (.pure _ (.int _ _)) (.cons (.pure _ (.int _ _)) (.cons (.pure _ (.int _ _)) (.cons (.pure _ (.int _ _)) (.cons (.pure _ (.bool _)) (.cons (.pure _ (.bool _)) .nil)))))))
                 ·try refine gos_ ?_
                  obtain ⟨o92, h93, h⟩ := bind_E h
                  refine t_shapeOf_j6_W n_0.kind _ _ _ (Fr.refl _ _) sls_ _ h93 _ ?_
                  ·rintro p94 σ' eo fr95 s98
                   rw [eo] at h
                   have s99 : σ' 2 = (.ref (AH.empty.next + 1) 0) := (fr95 2 (by decide)).trans sls_
                   have s100 : σ' 3 = (.fn (.func 140) [] []) := (fr95 3 (by decide)).trans sls_
                   have s101 : σ' 11 = (.int .i64 n_0.kind) := (fr95 11 (by decide)).trans sls_
                   rcases cond_E h with ⟨e102, h⟩ | ⟨e102, h⟩
                   ·obtain ⟨p104, e103, h⟩ := bind_E h
                    try refine gos_ ?_
                    refine mcall_pure (t_shapeOf_1_c e103) ?_
                    obtain rfl := som_E h
                    try refine gos_ ?_
                    exact (fz_agg (.cons (.pure _ (.int _ _)) (.cons (.pure _ (.int _ _)) (.cons (.pure _ (.int _ _)) (.cons (.pure _ (.int _ _)) (.cons (.pure _ (.bool _)) (.cons (.pure _ (.bool _)) .nil)))))))
                   ·rcases cond_E h with ⟨e105, h⟩ | ⟨e105, h⟩
                    ·obtain rfl := som_E h
                     try refine gos_ ?_
                     exact (fz_agg (.cons (.pure _ (.int _ _)) (.cons (.pure _ (.int _ _)) (.cons (.pure _ (.int _ _)) (.cons (.pure _ (.int _ _)) (.cons (.pure _ (.bool _)) (.cons (.pure _ (.bool _)) .nil)))))))
                    ·rcases cond_E h with ⟨e106, h⟩ | ⟨e106, h⟩
                     ·obtain rfl := som_E h
                      try refine gos_ ?_
                      exact (fz_agg (.cons (.pure _ (.int _ _)) (.cons (.pure _ (.int _ _)) (.cons (.pure _ (.int _ _)) (.cons (.pure _ (.int _ _)) (.cons (.pure _ (.bool _)) (.cons (.pure _ (.bool _)) .nil)))))))
                     ·rcases cond_E h with ⟨e107, h⟩ | ⟨e107, h⟩
                      ·obtain rfl := som_E h
                       try refine gos_ ?_
                       exact (fz_agg (.cons (.pure _ (.int _ _)) (.cons (.pure _ (.int _ _)) (.cons (.pure _ (.int _ _)) (.cons (.pure _ (.int _ _)) (.cons (.pure _ (.bool _)) (.cons (.pure _ (.bool _)) .nil)))))))
                      ·rcases cond_E h with ⟨e108, h⟩ | ⟨e108, h⟩
                       ·obtain rfl := som_E h
                        try refine gos_ ?_
                        exact (fz_agg (.cons (.pure _ (.int _ _)) (.cons (.pure _ (.int _ _)) (.cons (.pure _ (.int _ _)) (.cons (.pure _ (.int _ _)) (.cons (.pure _ (.bool _)) (.cons (.pure _ (.bool _)) .nil)))))))
                       ·obtain ⟨p110, e109, h⟩ := bind_E h
                        try refine gos_ ?_
                        refine mcall_pure (t_shapeOf_1_c e109) ?_
                        obtain rfl := som_E h
                        try refine gos_ ?_
                        exact (fz_agg (.cons (.pure _ (.int _ _)) (.cons (.pure _ (.int _ _)) (.cons (.pure _ (.int _ _)) (.cons (.pure _ (.int _ _)) (.cons (.pure _ (.bool _)) (.cons (.pure _ (.bool _)) .nil)))))))
def t_isLost_b0 : Nat → (List Nd) → (List Int) → (List Int) → Int → Option (Unit ⊕ Bool)
  | 0, _, _, _, _ => none
  | k + 1, e_0, up_2, place_3, at_11 =>
    if 0 ≤ at_11 then Option.bind (up_2[at_11.toNat]?) fun x16 => cond (x16 != (-1)) (if 0 ≤ x16 then Option.bind (e_0[x16.toNat]?) fun x20 => cond (x20.kind == 19) (Option.bind (place_3[at_11.toNat]?) fun x23 => cond (x23 == 2) (some (.inr (false))) (t_isLost_b0 k e_0 up_2 place_3 x16)) (t_isLost_b0 k e_0 up_2 place_3 x16) else none) (some (.inl ())) else none
def t_isLost_b0l : List Nat := [8, 11] ++ List.range' 51 25
theorem t_isLost_b0_W : ∀ (k : Nat) (e_0 : List Nd) (up_2 : List Int) (place_3 : List Int) (at_11 : Int) (σ0 σ : Nat → PV) (H : AH) (f0 : Fr t_isLost_b0l σ0 σ) (sl : σ 0 = (.isl (e_0.map Nd.cells) .unk) ∧ σ 2 = (.isl (up_2.map intL) .unk) ∧ σ 3 = (.isl (place_3.map intL) .unk) ∧ σ 11 = (.int .i64 at_11)) (o : Unit ⊕ Bool) (h : t_isLost_b0 k e_0 up_2 place_3 at_11 = some o) (Q : Post) (q0 : ∀ (p : Unit) (σ' : Nat → PV), o = .inl p → Fr t_isLost_b0l σ0 σ' → Q (.exit 1) σ' H) (q1 : ∀ (p : Bool) (σ' : Nat → PV), o = .inr (p) → Fr t_isLost_b0l σ0 σ' → (σ' 8 = (.bool p)) → Q .ret σ' H) , W Tryz.prog (.loop ac51_b0) Q σ H := by
  intro k
  induction k with
  | zero => intro e_0 up_2 place_3 at_11 σ0 σ H f0 sl o h Q q0 q1; simp only [t_isLost_b0, reduceCtorEq] at h
  | succ k ih =>
    intro e_0 up_2 place_3 at_11 σ0 σ H f0 sl o h Q q0 q1
    obtain ⟨s0, s2, s3, s11⟩ := sl
    unfold t_isLost_b0 at h
    refine W_loopK (fun K hK => W_start ?_)
    unfold ac51_b0
    obtain ⟨e15, h⟩ := if_E h
    obtain ⟨x16, e17, h⟩ := bind_E h
    rcases cond_E h with ⟨e18, h⟩ | ⟨e18, h⟩
    ·obtain ⟨e19, h⟩ := if_E h
     obtain ⟨x20, e21, h⟩ := bind_E h
     rcases cond_E h with ⟨e22, h⟩ | ⟨e22, h⟩
     ·obtain ⟨x23, e24, h⟩ := bind_E h
      rcases cond_E h with ⟨e25, h⟩ | ⟨e25, h⟩
      ·obtain rfl := som_E h
       try refine gos_ ?_
       exact q1 _ _ rfl fr_ sls_
      ·try refine gos_ ?_
       refine hK _ _ ?_
       exact ih e_0 up_2 place_3 x16 _ _ _ fr_ sls_ _ h _ q0 q1
     ·try refine gos_ ?_
      refine hK _ _ ?_
      exact ih e_0 up_2 place_3 x16 _ _ _ fr_ sls_ _ h _ q0 q1
    ·obtain rfl := som_E h
     try refine gos_ ?_
     exact q0 _ _ rfl fr_
def t_isLost (k : Nat) (e_0 : List Nd) (i_1 : Int) (up_2 : List Int) (place_3 : List Int) : Option Bool :=
  if 0 ≤ i_1 then Option.bind (e_0[i_1.toNat]?) fun x2 => cond (x2.kind == 24) (Option.bind (up_2[i_1.toNat]?) fun x5 => cond (x5 == (-1)) (some true) (if 0 ≤ x5 then Option.bind (e_0[x5.toNat]?) fun x9 => cond (x9.kind != 3) (some true) (Option.bind (t_operatorOf k x9.text) fun p13 => some p13.2) else none)) (cond (x2.kind == 20) (Option.bind (t_isLost_b0 k e_0 up_2 place_3 i_1) (fun o => Sum.elim (fun p28 => some true) (fun p32 => some p32) o)) (some false)) else none
theorem t_isLost_c {k : Nat} {e_0 : List Nd} {i_1 : Int} {up_2 : List Int} {place_3 : List Int} {c0 c2 c3 : Ck} {r : Bool} (h : t_isLost k e_0 i_1 up_2 place_3 = some r) : PCall Tryz.prog 51 [(.isl (e_0.map Nd.cells) c0), (.int .i64 i_1), (.isl (up_2.map intL) c2), (.isl (place_3.map intL) c3)] (.bool r) := by
  refine PCall.lw (.isl (.same (.isl (.isl .nil)))) (PCall.of_empty (PuL.mem (.cons (pu_sl Nd.pu _) (.cons (.int _ _) (.cons (pu_sl pu_intL _) (.cons (pu_sl pu_intL _) .nil))))) (MCall_of_W ok51 (by simp) (W_start ?_)) (.bool _))
  unfold t_isLost at h
  unfold ac51
  obtain ⟨e1, h⟩ := if_E h
  obtain ⟨x2, e3, h⟩ := bind_E h
  rcases cond_E h with ⟨e4, h⟩ | ⟨e4, h⟩
  ·obtain ⟨x5, e6, h⟩ := bind_E h
   rcases cond_E h with ⟨e7, h⟩ | ⟨e7, h⟩
   ·obtain rfl := som_E h
    try refine gos_ ?_
    exact (.pure _ (.bool _))
   ·obtain ⟨e8, h⟩ := if_E h
    obtain ⟨x9, e10, h⟩ := bind_E h
    rcases cond_E h with ⟨e11, h⟩ | ⟨e11, h⟩
    ·obtain rfl := som_E h
     try refine gos_ ?_
     exact (.pure _ (.bool _))
    ·obtain ⟨p13, e12, h⟩ := bind_E h
     try refine gos_ ?_
     refine mcall_pure (t_operatorOf_c e12) ?_
     obtain rfl := som_E h
     try refine gos_ ?_
     exact (.pure _ (.bool _))
  ·rcases cond_E h with ⟨e14, h⟩ | ⟨e14, h⟩
   ·try refine gos_ ?_
    obtain ⟨o26, h27, h⟩ := bind_E h
    refine t_isLost_b0_W k e_0 up_2 place_3 i_1 _ _ _ (Fr.refl _ _) sls_ _ h27 _ ?_ ?_
    ·rintro p28 σ' eo fr29
     subst eo
     rw [sum_L] at h
     obtain rfl := som_E h
     try refine gos_ ?_
     exact (.pure _ (.bool _))
    ·rintro p32 σ' eo fr33 s36
     subst eo
     rw [sum_R] at h
     obtain rfl := som_E h
     try refine gos_ ?_
     exact (.pure _ (.bool _))
   ·obtain rfl := som_E h
    try refine gos_ ?_
    exact (.pure _ (.bool _))
def t_namesErr_1 (k : Nat) (s_0 : Str) : Option Bool :=
  Option.bind (t_isName k s_0) fun p2 => some (!p2)
theorem t_namesErr_1_c {k : Nat} {s_0 : Str} {r : Bool} (h : t_namesErr_1 k s_0 = some r) : PCall Tryz.prog 145 [(.str s_0)] (.bool r) := by
  refine PCall.of_empty (PuL.mem (.cons (.str _) .nil)) (MCall_of_W ok145 (by simp) (W_start ?_)) (.bool _)
  unfold t_namesErr_1 at h
  unfold ac145
  obtain ⟨p2, e1, h⟩ := bind_E h
  try refine gos_ ?_
  refine mcall_pure (t_isName_c e1) ?_
  obtain rfl := som_E h
  try refine gos_ ?_
  exact (.pure _ (.bool _))
def g_IndexFunc_string_string_at145_b0 : Nat → (List Str) → Int → Int → Option (Unit ⊕ Int)
  | 0, _, _, _ => none
  | k + 1, s_0, t_7, t_8 =>
    cond (decide (t_8 < t_7)) (if 0 ≤ t_8 then Option.bind (s_0[t_8.toNat]?) fun x3 => Option.bind (t_namesErr_1 k x3) fun p6 => cond p6 (some (.inr (t_8))) (g_IndexFunc_string_string_at145_b0 k s_0 t_7 (IntKind.wrap .i64 (t_8 + 1))) else none) (some (.inl ()))
def g_IndexFunc_string_string_at145_b0l : List Nat := [4, 5] ++ List.range' 8 11
theorem g_IndexFunc_string_string_at145_b0_W : ∀ (k : Nat) (s_0 : List Str) (t_7 : Int) (t_8 : Int) (σ0 σ : Nat → PV) (H : AH) (f0 : Fr g_IndexFunc_string_string_at145_b0l σ0 σ) (sl : σ 0 = (.isl (s_0.map strL) .unk) ∧ σ 1 = (.fn (.func 145) [] []) ∧ σ 7 = (.int .i64 t_7) ∧ σ 8 = (.int .i64 t_8)) (o : Unit ⊕ Int) (h : g_IndexFunc_string_string_at145_b0 k s_0 t_7 t_8 = some o) (Q : Post) (q0 : ∀ (p : Unit) (σ' : Nat → PV), o = .inl p → Fr g_IndexFunc_string_string_at145_b0l σ0 σ' → Q (.exit 0) σ' H) (q1 : ∀ (p : Int) (σ' : Nat → PV), o = .inr (p) → Fr g_IndexFunc_string_string_at145_b0l σ0 σ' → (σ' 4 = (.int .i64 p)) → Q .ret σ' H) , W Tryz.prog (.loop ac186_b0) Q σ H := by
  intro k
  induction k with
  | zero => intro s_0 t_7 t_8 σ0 σ H f0 sl o h Q q0 q1; simp only [g_IndexFunc_string_string_at145_b0, reduceCtorEq] at h
  | succ k ih =>
    intro s_0 t_7 t_8 σ0 σ H f0 sl o h Q q0 q1
    obtain ⟨s0, s1, s7, s8⟩ := sl
    unfold g_IndexFunc_string_string_at145_b0 at h
    refine W_loopK (fun K hK => W_start ?_)
    unfold ac186_b0
    rcases cond_E h with ⟨e1, h⟩ | ⟨e1, h⟩
    ·obtain ⟨e2, h⟩ := if_E h
     obtain ⟨x3, e4, h⟩ := bind_E h
     obtain ⟨p6, e5, h⟩ := bind_E h
     try refine gos_ ?_
     refine mcall_pure (t_namesErr_1_c e5) ?_
     rcases cond_E h with ⟨e7, h⟩ | ⟨e7, h⟩
     ·obtain rfl := som_E h
      try refine gos_ ?_
      exact q1 _ _ rfl fr_ sls_
     ·try refine gos_ ?_
      refine hK _ _ ?_
      exact ih s_0 t_7 (IntKind.wrap .i64 (t_8 + 1)) _ _ _ fr_ sls_ _ h _ q0 q1
    ·obtain rfl := som_E h
     try refine gos_ ?_
     exact q0 _ _ rfl fr_
def g_IndexFunc_string_string_at145 (k : Nat) (s_0 : List Str) : Option Int :=
  Option.bind (g_IndexFunc_string_string_at145_b0 k s_0 (s_0.length : Int) 0) (fun o => Sum.elim (fun p10 => some (-1)) (fun p14 => some p14) o)
theorem g_IndexFunc_string_string_at145_c {k : Nat} {s_0 : List Str} {c0 : Ck} {r : Int} (h : g_IndexFunc_string_string_at145 k s_0 = some r) : PCall Tryz.prog 186 [(.isl (s_0.map strL) c0), (.fn (.func 145) [] [])] (.int .i64 r) := by
  refine PCall.lw (.isl (.same .nil)) (PCall.of_empty (PuL.mem (.cons (pu_sl pu_strL _) (.cons (.fn _ _ _ (PuL.mem .nil) (PuL.mem .nil)) .nil))) (MCall_of_W ok186 (by simp) (W_start ?_)) (.int _ _))
  unfold g_IndexFunc_string_string_at145 at h
  unfold ac186
  try refine gos_ ?_
  obtain ⟨o8, h9, h⟩ := bind_E h
  refine g_IndexFunc_string_string_at145_b0_W k s_0 (s_0.length : Int) 0 _ _ _ (Fr.refl _ _) sls_ _ h9 _ ?_ ?_
  ·rintro p10 σ' eo fr11
   subst eo
   rw [sum_L] at h
   obtain rfl := som_E h
   try refine gos_ ?_
   exact (.pure _ (.int _ _))
  ·rintro p14 σ' eo fr15 s18
   subst eo
   rw [sum_R] at h
   obtain rfl := som_E h
   try refine gos_ ?_
   exact (.pure _ (.int _ _))
def g_ContainsFunc_string_string_at145 (k : Nat) (s_0 : List Str) : Option Bool :=
  Option.bind (g_IndexFunc_string_string_at145 k s_0) fun p2 => some (decide (p2 ≥ 0))
theorem g_ContainsFunc_string_string_at145_c {k : Nat} {s_0 : List Str} {c0 : Ck} {r : Bool} (h : g_ContainsFunc_string_string_at145 k s_0 = some r) : PCall Tryz.prog 144 [(.isl (s_0.map strL) c0), (.fn (.func 145) [] [])] (.bool r) := by
  refine PCall.lw (.isl (.same .nil)) (PCall.of_empty (PuL.mem (.cons (pu_sl pu_strL _) (.cons (.fn _ _ _ (PuL.mem .nil) (PuL.mem .nil)) .nil))) (MCall_of_W ok144 (by simp) (W_start ?_)) (.bool _))
  unfold g_ContainsFunc_string_string_at145 at h
  unfold ac144
  obtain ⟨p2, e1, h⟩ := bind_E h
  try refine gos_ ?_
  refine mcall_pure (g_IndexFunc_string_string_at145_c e1) ?_
  obtain rfl := som_E h
  try refine gos_ ?_
  exact (.pure _ (.bool _))
def t_namesErr_p0 (k : Nat) (n_1_0 : Int) (n_1_1 : Int) (n_1_2 : Str) (n_1_3 : List Str) (n_1_4 : List Int) (t_24 : Bool) : Option Bool :=
  cond t_24 (some (true)) (Option.bind (t_isFixed n_1_2) fun p8 => cond p8 (some (false)) (Option.bind (t_isCalled k n_1_2) fun p11 => some ((!p11))))
def t_namesErr_p0l : List Nat := List.range' 25 11
theorem t_namesErr_p0_W (k : Nat) : ∀ (o_n_1 : Nat) (n_1_0 : Int) (n_1_1 : Int) (n_1_2 : Str) (n_1_3 : List Str) (n_1_4 : List Int) (t_24 : Bool) (σ0 σ : Nat → PV) (H : AH) (f0 : Fr t_namesErr_p0l σ0 σ) (sl : σ 1 = (.ref (o_n_1) 0) ∧ σ 24 = (.bool t_24) ∧ H.obj o_n_1 = some [(.int .i64 n_1_0), (.int .i64 n_1_1), (.str n_1_2), (.isl (n_1_3.map strL) .unk), (.isl (n_1_4.map intL) .unk)]) (l_o_n_1 : o_n_1 < H.next) (o : Bool) (h : t_namesErr_p0 k n_1_0 n_1_1 n_1_2 n_1_3 n_1_4 t_24 = some o) (Q : Post) (q0 : ∀ (p : Bool) (σ' : Nat → PV), o = p → Fr t_namesErr_p0l σ0 σ' → (σ' 35 = (.bool p)) → Q .normal σ' H) , WOps Tryz.prog ac93_p0 (Q .normal) σ H := by
  intro o_n_1 n_1_0 n_1_1 n_1_2 n_1_3 n_1_4 t_24 σ0 σ H f0 sl l_o_n_1 o h Q q0
  obtain ⟨s1, s24, g_o_n_1⟩ := sl
  have n_o_n_1 := ne_next l_o_n_1
  have m_o_n_1 := ne_add l_o_n_1
  unfold t_namesErr_p0 at h
  refine WO_start ?_
  unfold ac93_p0
  rcases cond_E h with ⟨e6, h⟩ | ⟨e6, h⟩
  ·obtain rfl := som_E h
   try refine gos_ ?_
   exact q0 _ _ rfl fr_ sls_
  ·obtain ⟨p8, e7, h⟩ := bind_E h
   try refine gos_ ?_
   refine mcall_pure (t_isFixed_c e7) ?_
   rcases cond_E h with ⟨e9, h⟩ | ⟨e9, h⟩
   ·obtain rfl := som_E h
    try refine gos_ ?_
    exact q0 _ _ rfl fr_ sls_
   ·obtain ⟨p11, e10, h⟩ := bind_E h
    try refine gos_ ?_
    refine mcall_pure (t_isCalled_c e10) ?_
    obtain rfl := som_E h
    try refine gos_ ?_
    exact q0 _ _ rfl fr_ sls_
def t_namesErr_p1 (k : Nat) (n_1_0 : Int) (n_1_1 : Int) (n_1_2 : Str) (n_1_3 : List Str) (n_1_4 : List Int) (operator_5 : Bool) (t_39 : Bool) : Option Bool :=
  cond t_39 (some (true)) (cond operator_5 (some (false)) (Option.bind (t_isCalled k n_1_2) fun p25 => some ((!p25))))
def t_namesErr_p1l : List Nat := List.range' 40 9
theorem t_namesErr_p1_W (k : Nat) : ∀ (o_n_1 : Nat) (n_1_0 : Int) (n_1_1 : Int) (n_1_2 : Str) (n_1_3 : List Str) (n_1_4 : List Int) (operator_5 : Bool) (t_39 : Bool) (σ0 σ : Nat → PV) (H : AH) (f0 : Fr t_namesErr_p1l σ0 σ) (sl : σ 1 = (.ref (o_n_1) 0) ∧ σ 5 = (.bool operator_5) ∧ σ 39 = (.bool t_39) ∧ H.obj o_n_1 = some [(.int .i64 n_1_0), (.int .i64 n_1_1), (.str n_1_2), (.isl (n_1_3.map strL) .unk), (.isl (n_1_4.map intL) .unk)]) (l_o_n_1 : o_n_1 < H.next) (o : Bool) (h : t_namesErr_p1 k n_1_0 n_1_1 n_1_2 n_1_3 n_1_4 operator_5 t_39 = some o) (Q : Post) (q0 : ∀ (p : Bool) (σ' : Nat → PV), o = p → Fr t_namesErr_p1l σ0 σ' → (σ' 48 = (.bool p)) → Q .normal σ' H) , WOps Tryz.prog ac93_p1 (Q .normal) σ H := by
  intro o_n_1 n_1_0 n_1_1 n_1_2 n_1_3 n_1_4 operator_5 t_39 σ0 σ H f0 sl l_o_n_1 o h Q q0
  obtain ⟨s1, s5, s39, g_o_n_1⟩ := sl
  have n_o_n_1 := ne_next l_o_n_1
  have m_o_n_1 := ne_add l_o_n_1
  unfold t_namesErr_p1 at h
  refine WO_start ?_
  unfold ac93_p1
  rcases cond_E h with ⟨e22, h⟩ | ⟨e22, h⟩
  ·obtain rfl := som_E h
   try refine gos_ ?_
   exact q0 _ _ rfl fr_ sls_
  ·rcases cond_E h with ⟨e23, h⟩ | ⟨e23, h⟩
   ·obtain rfl := som_E h
    try refine gos_ ?_
    exact q0 _ _ rfl fr_ sls_
   ·obtain ⟨p25, e24, h⟩ := bind_E h
    try refine gos_ ?_
    refine mcall_pure (t_isCalled_c e24) ?_
    obtain rfl := som_E h
    try refine gos_ ?_
    exact q0 _ _ rfl fr_ sls_
def t_namesErr_p2 (n_1_0 : Int) (n_1_1 : Int) (n_1_2 : Str) (n_1_3 : List Str) (n_1_4 : List Int) (o_4_0 : Str) (o_4_1 : Int) (o_4_2 : Int) (o_4_3 : Int) (o_4_4 : Bool) (o_4_5 : Int) (o_4_6 : Int) (t_50 : Bool) : Option Bool :=
  cond t_50 (Option.bind (t_spans (n_1_4.length : Int) o_4_5 o_4_6) fun p38 => some ((!p38))) (some (false))
def t_namesErr_p2l : List Nat := List.range' 51 10
theorem t_namesErr_p2_W : ∀ (o_n_1 : Nat) (o_o_4 : Nat) (n_1_0 : Int) (n_1_1 : Int) (n_1_2 : Str) (n_1_3 : List Str) (n_1_4 : List Int) (o_4_0 : Str) (o_4_1 : Int) (o_4_2 : Int) (o_4_3 : Int) (o_4_4 : Bool) (o_4_5 : Int) (o_4_6 : Int) (t_50 : Bool) (σ0 σ : Nat → PV) (H : AH) (f0 : Fr t_namesErr_p2l σ0 σ) (sl : σ 1 = (.ref (o_n_1) 0) ∧ σ 4 = (.ref (o_o_4) 0) ∧ σ 50 = (.bool t_50) ∧ H.obj o_n_1 = some [(.int .i64 n_1_0), (.int .i64 n_1_1), (.str n_1_2), (.isl (n_1_3.map strL) .unk), (.isl (n_1_4.map intL) .unk)] ∧ H.obj o_o_4 = some [(.str o_4_0), (.int .i64 o_4_1), (.int .i64 o_4_2), (.int .i64 o_4_3), (.bool o_4_4), (.int .i64 o_4_5), (.int .i64 o_4_6)]) (l_o_n_1 : o_n_1 < H.next) (l_o_o_4 : o_o_4 < H.next) (d_o_n_1_o_o_4 : o_n_1 ≠ o_o_4) (o : Bool) (h : t_namesErr_p2 n_1_0 n_1_1 n_1_2 n_1_3 n_1_4 o_4_0 o_4_1 o_4_2 o_4_3 o_4_4 o_4_5 o_4_6 t_50 = some o) (Q : Post) (q0 : ∀ (p : Bool) (σ' : Nat → PV), o = p → Fr t_namesErr_p2l σ0 σ' → (σ' 60 = (.bool p)) → Q .normal σ' H) , WOps Tryz.prog ac93_p2 (Q .normal) σ H := by
  intro o_n_1 o_o_4 n_1_0 n_1_1 n_1_2 n_1_3 n_1_4 o_4_0 o_4_1 o_4_2 o_4_3 o_4_4 o_4_5 o_4_6 t_50 σ0 σ H f0 sl l_o_n_1 l_o_o_4 d_o_n_1_o_o_4 o h Q q0
  obtain ⟨s1, s4, s50, g_o_n_1, g_o_o_4⟩ := sl
  have n_o_n_1 := ne_next l_o_n_1
  have m_o_n_1 := ne_add l_o_n_1
  have n_o_o_4 := ne_next l_o_o_4
  have m_o_o_4 := ne_add l_o_o_4
  have e_o_n_1_o_o_4 := eq_false d_o_n_1_o_o_4
  have r_o_n_1_o_o_4 := eq_false (Ne.symm d_o_n_1_o_o_4)
  unfold t_namesErr_p2 at h
  refine WO_start ?_
  unfold ac93_p2
  rcases cond_E h with ⟨e36, h⟩ | ⟨e36, h⟩
  ·obtain ⟨p38, e37, h⟩ := bind_E h
   try refine gos_ ?_
   refine mcall_pure (t_spans_c e37) ?_
   obtain rfl := som_E h
   try refine gos_ ?_
   exact q0 _ _ rfl fr_ sls_
  ·obtain rfl := som_E h
   try refine gos_ ?_
   exact q0 _ _ rfl fr_ sls_
def t_namesErr_p3 (k : Nat) (n_1_0 : Int) (n_1_1 : Int) (n_1_2 : Str) (n_1_3 : List Str) (n_1_4 : List Int) (t_64 : Bool) : Option Bool :=
  cond t_64 (some (true)) (Option.bind (t_isName k n_1_2) fun p51 => some ((!p51)))
def t_namesErr_p3l : List Nat := [65, 66, 67, 68, 69]
theorem t_namesErr_p3_W (k : Nat) : ∀ (o_n_1 : Nat) (n_1_0 : Int) (n_1_1 : Int) (n_1_2 : Str) (n_1_3 : List Str) (n_1_4 : List Int) (t_64 : Bool) (σ0 σ : Nat → PV) (H : AH) (f0 : Fr t_namesErr_p3l σ0 σ) (sl : σ 1 = (.ref (o_n_1) 0) ∧ σ 64 = (.bool t_64) ∧ H.obj o_n_1 = some [(.int .i64 n_1_0), (.int .i64 n_1_1), (.str n_1_2), (.isl (n_1_3.map strL) .unk), (.isl (n_1_4.map intL) .unk)]) (l_o_n_1 : o_n_1 < H.next) (o : Bool) (h : t_namesErr_p3 k n_1_0 n_1_1 n_1_2 n_1_3 n_1_4 t_64 = some o) (Q : Post) (q0 : ∀ (p : Bool) (σ' : Nat → PV), o = p → Fr t_namesErr_p3l σ0 σ' → (σ' 69 = (.bool p)) → Q .normal σ' H) , WOps Tryz.prog ac93_p3 (Q .normal) σ H := by
  intro o_n_1 n_1_0 n_1_1 n_1_2 n_1_3 n_1_4 t_64 σ0 σ H f0 sl l_o_n_1 o h Q q0
  obtain ⟨s1, s64, g_o_n_1⟩ := sl
  have n_o_n_1 := ne_next l_o_n_1
  have m_o_n_1 := ne_add l_o_n_1
  unfold t_namesErr_p3 at h
  refine WO_start ?_
  unfold ac93_p3
  rcases cond_E h with ⟨e49, h⟩ | ⟨e49, h⟩
  ·obtain rfl := som_E h
   try refine gos_ ?_
   exact q0 _ _ rfl fr_ sls_
  ·obtain ⟨p51, e50, h⟩ := bind_E h
   try refine gos_ ?_
   refine mcall_pure (t_isName_c e50) ?_
   obtain rfl := som_E h
   try refine gos_ ?_
   exact q0 _ _ rfl fr_ sls_
def t_namesErr_j4 (k : Nat) (n_1_0 : Int) (n_1_1 : Int) (n_1_2 : Str) (n_1_3 : List Str) (n_1_4 : List Int) (bad_3 : Bool) (o_4_0 : Str) (o_4_1 : Int) (o_4_2 : Int) (o_4_3 : Int) (o_4_4 : Bool) (o_4_5 : Int) (o_4_6 : Int) (operator_5 : Bool) : Option ((Bool × Bool)) :=
  cond (n_1_0 == 2) (Option.bind (t_namesErr_p0 k n_1_0 n_1_1 n_1_2 n_1_3 n_1_4 bad_3) (fun p14 => some ((p14, false)))) (cond (n_1_0 == 3) (Option.bind (t_namesErr_p1 k n_1_0 n_1_1 n_1_2 n_1_3 n_1_4 operator_5 bad_3) (fun p28 => Option.bind (t_namesErr_p2 n_1_0 n_1_1 n_1_2 n_1_3 n_1_4 o_4_0 o_4_1 o_4_2 o_4_3 o_4_4 o_4_5 o_4_6 operator_5) (fun p41 => some ((p28, p41))))) (cond (n_1_0 == 18) (Option.bind (t_namesErr_p3 k n_1_0 n_1_1 n_1_2 n_1_3 n_1_4 bad_3) (fun p54 => some ((p54, false)))) (some ((bad_3, false)))))
def t_namesErr_j4l : List Nat := [3, 6] ++ List.range' 19 51
theorem t_namesErr_j4_W (k : Nat) : ∀ (o_n_1 : Nat) (o_o_4 : Nat) (n_1_0 : Int) (n_1_1 : Int) (n_1_2 : Str) (n_1_3 : List Str) (n_1_4 : List Int) (bad_3 : Bool) (o_4_0 : Str) (o_4_1 : Int) (o_4_2 : Int) (o_4_3 : Int) (o_4_4 : Bool) (o_4_5 : Int) (o_4_6 : Int) (operator_5 : Bool) (σ0 σ : Nat → PV) (H : AH) (f0 : Fr t_namesErr_j4l σ0 σ) (sl : σ 1 = (.ref (o_n_1) 0) ∧ σ 3 = (.bool bad_3) ∧ σ 4 = (.ref (o_o_4) 0) ∧ σ 5 = (.bool operator_5) ∧ σ 6 = (.bool false) ∧ H.obj o_n_1 = some [(.int .i64 n_1_0), (.int .i64 n_1_1), (.str n_1_2), (.isl (n_1_3.map strL) .unk), (.isl (n_1_4.map intL) .unk)] ∧ H.obj o_o_4 = some [(.str o_4_0), (.int .i64 o_4_1), (.int .i64 o_4_2), (.int .i64 o_4_3), (.bool o_4_4), (.int .i64 o_4_5), (.int .i64 o_4_6)]) (l_o_n_1 : o_n_1 < H.next) (l_o_o_4 : o_o_4 < H.next) (d_o_n_1_o_o_4 : o_n_1 ≠ o_o_4) (o : (Bool × Bool)) (h : t_namesErr_j4 k n_1_0 n_1_1 n_1_2 n_1_3 n_1_4 bad_3 o_4_0 o_4_1 o_4_2 o_4_3 o_4_4 o_4_5 o_4_6 operator_5 = some o) (Q : Post) (q0 : ∀ (p : Bool × Bool) (σ' : Nat → PV), o = p → Fr t_namesErr_j4l σ0 σ' → (σ' 3 = (.bool p.1) ∧ σ' 6 = (.bool p.2)) → Q .normal σ' H) , W Tryz.prog ac93_j4 Q σ H := by
  intro o_n_1 o_o_4 n_1_0 n_1_1 n_1_2 n_1_3 n_1_4 bad_3 o_4_0 o_4_1 o_4_2 o_4_3 o_4_4 o_4_5 o_4_6 operator_5 σ0 σ H f0 sl l_o_n_1 l_o_o_4 d_o_n_1_o_o_4 o h Q q0
  obtain ⟨s1, s3, s4, s5, s6, g_o_n_1, g_o_o_4⟩ := sl
  have n_o_n_1 := ne_next l_o_n_1
  have m_o_n_1 := ne_add l_o_n_1
  have n_o_o_4 := ne_next l_o_o_4
  have m_o_o_4 := ne_add l_o_o_4
  have e_o_n_1_o_o_4 := eq_false d_o_n_1_o_o_4
  have r_o_n_1_o_o_4 := eq_false (Ne.symm d_o_n_1_o_o_4)
  unfold t_namesErr_j4 at h
  refine W_start ?_
  unfold ac93_j4
  rcases cond_E h with ⟨e5, h⟩ | ⟨e5, h⟩
  ·try refine gos_ ?_
   obtain ⟨o12, h13, h⟩ := bind_E h
   refine t_namesErr_p0_W k (o_n_1) n_1_0 n_1_1 n_1_2 n_1_3 n_1_4 bad_3 _ _ _ (Fr.refl _ _) sls_ om_ _ h13 _ ?_
   ·rintro p14 σ' eo fr15 s18
    rw [eo] at h
    have s19 : σ' 1 = (.ref (o_n_1) 0) := (fr15 1 (by decide)).trans sls_
    have s20 : σ' 6 = (.bool false) := (fr15 6 (by decide)).trans sls_
    obtain rfl := som_E h
    try refine gos_ ?_
    exact q0 _ _ rfl (by repeat (first | exact f0 | refine Fr.upd (by decide) ?_ | refine Fr.via fr15 (by decide) ?_)) sls_
  ·rcases cond_E h with ⟨e21, h⟩ | ⟨e21, h⟩
   ·try refine gos_ ?_
    obtain ⟨o26, h27, h⟩ := bind_E h
    refine t_namesErr_p1_W k (o_n_1) n_1_0 n_1_1 n_1_2 n_1_3 n_1_4 operator_5 bad_3 _ _ _ (Fr.refl _ _) sls_ om_ _ h27 _ ?_
    ·rintro p28 σ' eo fr29 s32
     rw [eo] at h
     have s33 : σ' 1 = (.ref (o_n_1) 0) := (fr29 1 (by decide)).trans sls_
     have s34 : σ' 4 = (.ref (o_o_4) 0) := (fr29 4 (by decide)).trans sls_
     have s35 : σ' 5 = (.bool operator_5) := (fr29 5 (by decide)).trans sls_
     try refine gos_ ?_
     obtain ⟨o39, h40, h⟩ := bind_E h
     refine t_namesErr_p2_W (o_n_1) (o_o_4) n_1_0 n_1_1 n_1_2 n_1_3 n_1_4 o_4_0 o_4_1 o_4_2 o_4_3 o_4_4 o_4_5 o_4_6 operator_5 _ _ _ (Fr.refl _ _) sls_ om_ om_ om_ _ h40 _ ?_
     ·rintro p41 σ' eo fr42 s45
      rw [eo] at h
      have s46 : σ' 1 = (.ref (o_n_1) 0) := (fr42 1 (by decide)).trans sls_
      have s47 : σ' 3 = (.bool p28) := (fr42 3 (by decide)).trans sls_
      obtain rfl := som_E h
      try refine gos_ ?_
      exact q0 _ _ rfl (by repeat (first | exact f0 | refine Fr.upd (by decide) ?_ | refine Fr.via fr29 (by decide) ?_ | refine Fr.via fr42 (by decide) ?_)) sls_
   ·rcases cond_E h with ⟨e48, h⟩ | ⟨e48, h⟩
    ·try refine gos_ ?_
     obtain ⟨o52, h53, h⟩ := bind_E h
     refine t_namesErr_p3_W k (o_n_1) n_1_0 n_1_1 n_1_2 n_1_3 n_1_4 bad_3 _ _ _ (Fr.refl _ _) sls_ om_ _ h53 _ ?_
     ·rintro p54 σ' eo fr55 s58
      rw [eo] at h
      have s59 : σ' 1 = (.ref (o_n_1) 0) := (fr55 1 (by decide)).trans sls_
      have s60 : σ' 6 = (.bool false) := (fr55 6 (by decide)).trans sls_
      obtain rfl := som_E h
      try refine gos_ ?_
      exact q0 _ _ rfl (by repeat (first | exact f0 | refine Fr.upd (by decide) ?_ | refine Fr.via fr55 (by decide) ?_)) sls_
    ·obtain rfl := som_E h
     try refine gos_ ?_
     exact q0 _ _ rfl fr_ sls_
def t_namesErr_b0 : Nat → Int → Int → Str → (List Str) → (List Int) → Bool → (List Str) → Int → Int → Option Bool
  | 0, _, _, _, _, _, _, _, _, _ => none
  | k + 1, n_1_0, n_1_1, n_1_2, n_1_3, n_1_4, again_7, t_71, t_72, t_73 =>
    cond (decide (t_73 < t_72)) (if 0 ≤ t_73 then Option.bind (t_71[t_73.toNat]?) fun x72 => cond again_7 (t_namesErr_b0 k n_1_0 n_1_1 n_1_2 n_1_3 n_1_4 true t_71 t_72 (IntKind.wrap .i64 (t_73 + 1))) (if 0 ≤ t_73 ∧ t_73.toNat ≤ n_1_3.length then Option.bind (g_Contains_string_string k (n_1_3.take t_73.toNat) x72) fun p77 => t_namesErr_b0 k n_1_0 n_1_1 n_1_2 n_1_3 n_1_4 p77 t_71 t_72 (IntKind.wrap .i64 (t_73 + 1)) else none) else none) (some (again_7))
def t_namesErr_b0l : List Nat := [7, 8, 9] ++ List.range' 73 15
theorem t_namesErr_b0_W : ∀ (k : Nat) (o_n_1 : Nat) (n_1_0 : Int) (n_1_1 : Int) (n_1_2 : Str) (n_1_3 : List Str) (n_1_4 : List Int) (again_7 : Bool) (t_71 : List Str) (t_72 : Int) (t_73 : Int) (σ0 σ : Nat → PV) (H : AH) (f0 : Fr t_namesErr_b0l σ0 σ) (sl : σ 1 = (.ref (o_n_1) 0) ∧ σ 7 = (.bool again_7) ∧ σ 71 = (.isl (t_71.map strL) .unk) ∧ σ 72 = (.int .i64 t_72) ∧ σ 73 = (.int .i64 t_73) ∧ H.obj o_n_1 = some [(.int .i64 n_1_0), (.int .i64 n_1_1), (.str n_1_2), (.isl (n_1_3.map strL) .unk), (.isl (n_1_4.map intL) .unk)]) (l_o_n_1 : o_n_1 < H.next) (o : Bool) (h : t_namesErr_b0 k n_1_0 n_1_1 n_1_2 n_1_3 n_1_4 again_7 t_71 t_72 t_73 = some o) (Q : Post) (q0 : ∀ (p : Bool) (σ' : Nat → PV), o = p → Fr t_namesErr_b0l σ0 σ' → (σ' 7 = (.bool p)) → Q (.exit 1) σ' H) , W Tryz.prog (.loop ac93_b0) Q σ H := by
  intro k
  induction k with
  | zero => intro o_n_1 n_1_0 n_1_1 n_1_2 n_1_3 n_1_4 again_7 t_71 t_72 t_73 σ0 σ H f0 sl l_o_n_1 o h Q q0; simp only [t_namesErr_b0, reduceCtorEq] at h
  | succ k ih =>
    intro o_n_1 n_1_0 n_1_1 n_1_2 n_1_3 n_1_4 again_7 t_71 t_72 t_73 σ0 σ H f0 sl l_o_n_1 o h Q q0
    obtain ⟨s1, s7, s71, s72, s73, g_o_n_1⟩ := sl
    have n_o_n_1 := ne_next l_o_n_1
    have m_o_n_1 := ne_add l_o_n_1
    unfold t_namesErr_b0 at h
    refine W_loopK (fun K hK => W_start ?_)
    unfold ac93_b0
    rcases cond_E h with ⟨e70, h⟩ | ⟨e70, h⟩
    ·obtain ⟨e71, h⟩ := if_E h
     obtain ⟨x72, e73, h⟩ := bind_E h
     rcases cond_E h with ⟨e74, h⟩ | ⟨e74, h⟩
     ·try refine gos_ ?_
      refine hK _ _ ?_
      exact ih o_n_1 n_1_0 n_1_1 n_1_2 n_1_3 n_1_4 true t_71 t_72 (IntKind.wrap .i64 (t_73 + 1)) _ _ _ fr_ sls_ om_ _ h _ q0
     ·obtain ⟨e75, h⟩ := if_E h
      obtain ⟨p77, e76, h⟩ := bind_E h
      try refine gos_ ?_
      refine mcall_pure (g_Contains_string_string_c e76) ?_
      try refine gos_ ?_
      refine hK _ _ ?_
      exact ih o_n_1 n_1_0 n_1_1 n_1_2 n_1_3 n_1_4 p77 t_71 t_72 (IntKind.wrap .i64 (t_73 + 1)) _ _ _ fr_ sls_ om_ _ h _ q0
    ·obtain rfl := som_E h
     try refine gos_ ?_
     exact q0 _ _ rfl fr_ sls_
def t_namesErr (k : Nat) (n_0 : Nd) : Option Int :=
  Option.bind (g_ContainsFunc_string_string_at145 k n_0.names) fun p2 => Option.bind (t_operatorOf k n_0.text) fun p4 => Option.bind (t_namesErr_j4 k n_0.kind n_0.n n_0.text n_0.names n_0.args p2 p4.1.text p4.1.fix p4.1.low p4.1.high p4.1.left p4.1.least p4.1.most p4.2) (fun p63 => Option.bind (t_namesErr_b0 k n_0.kind n_0.n n_0.text n_0.names n_0.args false n_0.names (n_0.names.length : Int) 0) (fun p80 => Option.bind (t_wrong p63.1 7) fun p88 => Option.bind (t_wrong p63.2 17) fun p90 => Option.bind (t_wrong p80 12) fun p92 => Option.bind (g_Or_api_Errno k [p88, p90, p92]) fun p94 => some p94))
theorem t_namesErr_c {k : Nat} {n_0 : Nd} {r : Int} (h : t_namesErr k n_0 = some r) : PCall Tryz.prog 93 [(.agg (Nd.cells n_0))] (.int .i64 r) := by
  refine PCall.of_empty (PuL.mem (.cons (.agg _ (Nd.pu _)) .nil)) (MCall_of_W ok93 (by simp) (W_start ?_)) (.int _ _)
  unfold t_namesErr at h
  unfold ac93
  obtain ⟨p2, e1, h⟩ := bind_E h
  try refine gos_ ?_
  refine mcall_pure (g_ContainsFunc_string_string_at145_c e1) ?_
  obtain ⟨p4, e3, h⟩ := bind_E h
  try refine gos_ ?_
  refine mcall_pure (t_operatorOf_c e3) ?_
  try refine gos_ ?_
  obtain ⟨o61, h62, h⟩ := bind_E h
  refine t_namesErr_j4_W k (AH.empty.next) (AH.empty.next + 1) n_0.kind n_0.n n_0.text n_0.names n_0.args p2 p4.1.text p4.1.fix p4.1.low p4.1.high p4.1.left p4.1.least p4.1.most p4.2 _ _ _ (Fr.refl _ _) sls_ om_ om_ om_ _ h62 _ ?_
  ·rintro p63 σ' eo fr64 ⟨s67, s68⟩
   rw [eo] at h
   have s69 : σ' 1 = (.ref (AH.empty.next) 0) := (fr64 1 (by decide)).trans sls_
   try refine gos_ ?_
   obtain ⟨o78, h79, h⟩ := bind_E h
   refine t_namesErr_b0_W k (AH.empty.next) n_0.kind n_0.n n_0.text n_0.names n_0.args false n_0.names (n_0.names.length : Int) 0 _ _ _ (Fr.refl _ _) sls_ om_ _ h79 _ ?_
   ·rintro p80 σ' eo fr81 s84
    rw [eo] at h
    have s85 : σ' 3 = (.bool p63.1) := (fr81 3 (by decide)).trans sls_
    have s86 : σ' 6 = (.bool p63.2) := (fr81 6 (by decide)).trans sls_
    obtain ⟨p88, e87, h⟩ := bind_E h
    try refine gos_ ?_
    refine mcall_pure (t_wrong_c e87) ?_
    obtain ⟨p90, e89, h⟩ := bind_E h
    try refine gos_ ?_
    refine mcall_pure (t_wrong_c e89) ?_
    obtain ⟨p92, e91, h⟩ := bind_E h
    try refine gos_ ?_
    refine mcall_pure (t_wrong_c e91) ?_
    obtain ⟨p94, e93, h⟩ := bind_E h
    try refine gos_ ?_
    refine mcall_pure (g_Or_api_Errno_c e93) ?_
    obtain rfl := som_E h
    try refine gos_ ?_
    exact (.pure _ (.int _ _))
def t_nodeErr_p0 (n_7_0 : Int) (n_7_1 : Int) (n_7_2 : Str) (n_7_3 : List Str) (n_7_4 : List Int) (x_8_0 : Int) (x_8_1 : Int) (x_8_2 : Int) (x_8_3 : Int) (x_8_4 : Bool) (x_8_5 : Bool) (t_36 : Bool) : Option Bool :=
  cond t_36 (some (true)) (Option.bind (t_spans (n_7_4.length : Int) x_8_2 x_8_3) fun p13 => some ((!p13)))
def t_nodeErr_p0l : List Nat := List.range' 37 12
theorem t_nodeErr_p0_W : ∀ (o_n_7 : Nat) (o_x_8 : Nat) (n_7_0 : Int) (n_7_1 : Int) (n_7_2 : Str) (n_7_3 : List Str) (n_7_4 : List Int) (x_8_0 : Int) (x_8_1 : Int) (x_8_2 : Int) (x_8_3 : Int) (x_8_4 : Bool) (x_8_5 : Bool) (t_36 : Bool) (σ0 σ : Nat → PV) (H : AH) (f0 : Fr t_nodeErr_p0l σ0 σ) (sl : σ 7 = (.ref (o_n_7) 0) ∧ σ 8 = (.ref (o_x_8) 0) ∧ σ 36 = (.bool t_36) ∧ H.obj o_n_7 = some [(.int .i64 n_7_0), (.int .i64 n_7_1), (.str n_7_2), (.isl (n_7_3.map strL) .unk), (.isl (n_7_4.map intL) .unk)] ∧ H.obj o_x_8 = some [(.int .i64 x_8_0), (.int .i64 x_8_1), (.int .i64 x_8_2), (.int .i64 x_8_3), (.bool x_8_4), (.bool x_8_5)]) (l_o_n_7 : o_n_7 < H.next) (l_o_x_8 : o_x_8 < H.next) (d_o_n_7_o_x_8 : o_n_7 ≠ o_x_8) (o : Bool) (h : t_nodeErr_p0 n_7_0 n_7_1 n_7_2 n_7_3 n_7_4 x_8_0 x_8_1 x_8_2 x_8_3 x_8_4 x_8_5 t_36 = some o) (Q : Post) (q0 : ∀ (p : Bool) (σ' : Nat → PV), o = p → Fr t_nodeErr_p0l σ0 σ' → (σ' 48 = (.bool p)) → Q .normal σ' H) , WOps Tryz.prog ac48_p0 (Q .normal) σ H := by
  intro o_n_7 o_x_8 n_7_0 n_7_1 n_7_2 n_7_3 n_7_4 x_8_0 x_8_1 x_8_2 x_8_3 x_8_4 x_8_5 t_36 σ0 σ H f0 sl l_o_n_7 l_o_x_8 d_o_n_7_o_x_8 o h Q q0
  obtain ⟨s7, s8, s36, g_o_n_7, g_o_x_8⟩ := sl
  have n_o_n_7 := ne_next l_o_n_7
  have m_o_n_7 := ne_add l_o_n_7
  have n_o_x_8 := ne_next l_o_x_8
  have m_o_x_8 := ne_add l_o_x_8
  have e_o_n_7_o_x_8 := eq_false d_o_n_7_o_x_8
  have r_o_n_7_o_x_8 := eq_false (Ne.symm d_o_n_7_o_x_8)
  unfold t_nodeErr_p0 at h
  refine WO_start ?_
  unfold ac48_p0
  rcases cond_E h with ⟨e11, h⟩ | ⟨e11, h⟩
  ·obtain rfl := som_E h
   try refine gos_ ?_
   exact q0 _ _ rfl fr_ sls_
  ·obtain ⟨p13, e12, h⟩ := bind_E h
   try refine gos_ ?_
   refine mcall_pure (t_spans_c e12) ?_
   obtain rfl := som_E h
   try refine gos_ ?_
   exact q0 _ _ rfl fr_ sls_
def t_nodeErr_r1 : Nat → (List Int) → Int → Bool → (List Int) → Option ((Int × Bool) ⊕ (Int × Bool))
  | 0, begins_5_0, end_9_0, together_10_0, t_53_0_0 => some (.inr ((end_9_0, together_10_0)))
  | m + 1, begins_5_0, end_9_0, together_10_0, t_53_0_0 =>
    Option.bind (t_53_0_0[m]?) fun x27 => cond (x27 != end_9_0) (some (.inl (end_9_0, false))) (cond (decide (end_9_0 < 0)) (some (.inl (end_9_0, false))) (if 0 ≤ end_9_0 then Option.bind (begins_5_0[end_9_0.toNat]?) fun x31 => t_nodeErr_r1 m begins_5_0 (IntKind.wrap .i64 (x31 - 1)) together_10_0 t_53_0_0 else none))
theorem t_nodeErr_r1_W : ∀ (m : Nat) (o_begins_5 : Nat) (o_end_9 : Nat) (o_together_10 : Nat) (o_t_53_0 : Nat) (begins_5_0 : List Int) (end_9_0 : Int) (together_10_0 : Bool) (t_53_0_0 : List Int) (σ0 σ : Nat → PV) (H0 H : AH) (f0 : Fr [] σ0 σ) (hf0 : HF [o_end_9, o_together_10] H0 H) (sl : σ 5 = (.ref (o_begins_5) 0) ∧ σ 9 = (.ref (o_end_9) 0) ∧ σ 10 = (.ref (o_together_10) 0) ∧ σ 53 = (.fn (.func 141) [] [(.ref (o_t_53_0) 0)]) ∧ H.obj o_begins_5 = some [(.isl (begins_5_0.map intL) .unk)] ∧ H.obj o_end_9 = some [(.int .i64 end_9_0)] ∧ H.obj o_together_10 = some [(.bool together_10_0)] ∧ H.obj o_t_53_0 = some [(.isl (t_53_0_0.map intL) .unk)]) (l_o_begins_5 : o_begins_5 < H.next) (l_o_end_9 : o_end_9 < H.next) (l_o_together_10 : o_together_10 < H.next) (l_o_t_53_0 : o_t_53_0 < H.next) (d_o_begins_5_o_end_9 : o_begins_5 ≠ o_end_9) (d_o_begins_5_o_together_10 : o_begins_5 ≠ o_together_10) (d_o_begins_5_o_t_53_0 : o_begins_5 ≠ o_t_53_0) (d_o_end_9_o_together_10 : o_end_9 ≠ o_together_10) (d_o_end_9_o_t_53_0 : o_end_9 ≠ o_t_53_0) (d_o_together_10_o_t_53_0 : o_together_10 ≠ o_t_53_0) (o : (Int × Bool) ⊕ (Int × Bool)) (h : t_nodeErr_r1 m begins_5_0 end_9_0 together_10_0 t_53_0_0 = some o) (Q : Post) (q0 : ∀ (p : Int × Bool) (σ' : Nat → PV) (H' : AH), o = .inl p → Fr [] σ0 σ' → HF [o_end_9, o_together_10] H0 H' → (H'.obj o_end_9 = some [(.int .i64 p.1)] ∧ H'.obj o_together_10 = some [(.bool p.2)]) → Q (.exit 0) σ' H') (q1 : ∀ (p : Int × Bool) (σ' : Nat → PV) (H' : AH), o = .inr (p) → Fr [] σ0 σ' → HF [o_end_9, o_together_10] H0 H' → (H'.obj o_end_9 = some [(.int .i64 p.1)] ∧ H'.obj o_together_10 = some [(.bool p.2)]) → Q .normal σ' H') , BackW (fun Q' σ' H' => W Tryz.prog ac48_r1a (thenF (fun σ'' H'' => W Tryz.prog ac48_r1b Q' σ'' H'')) σ' H') Q σ o_t_53_0 [(.isl (t_53_0_0.map intL) .unk)] 54 55 ((t_53_0_0.map intL).map (elemP false)) m H := by
  intro m
  induction m with
  | zero =>
    intro o_begins_5 o_end_9 o_together_10 o_t_53_0 begins_5_0 end_9_0 together_10_0 t_53_0_0 σ0 σ H0 H f0 hf0 sl l_o_begins_5 l_o_end_9 l_o_together_10 l_o_t_53_0 d_o_begins_5_o_end_9 d_o_begins_5_o_together_10 d_o_begins_5_o_t_53_0 d_o_end_9_o_together_10 d_o_end_9_o_t_53_0 d_o_together_10_o_t_53_0 o h Q q0 q1
    obtain ⟨s5, s9, s10, s53, g_o_begins_5, g_o_end_9, g_o_together_10, g_o_t_53_0⟩ := sl
    have n_o_begins_5 := ne_next l_o_begins_5
    have m_o_begins_5 := ne_add l_o_begins_5
    have n_o_end_9 := ne_next l_o_end_9
    have m_o_end_9 := ne_add l_o_end_9
    have n_o_together_10 := ne_next l_o_together_10
    have m_o_together_10 := ne_add l_o_together_10
    have n_o_t_53_0 := ne_next l_o_t_53_0
    have m_o_t_53_0 := ne_add l_o_t_53_0
    have e_o_begins_5_o_end_9 := eq_false d_o_begins_5_o_end_9
    have r_o_begins_5_o_end_9 := eq_false (Ne.symm d_o_begins_5_o_end_9)
    have e_o_begins_5_o_together_10 := eq_false d_o_begins_5_o_together_10
    have r_o_begins_5_o_together_10 := eq_false (Ne.symm d_o_begins_5_o_together_10)
    have e_o_begins_5_o_t_53_0 := eq_false d_o_begins_5_o_t_53_0
    have r_o_begins_5_o_t_53_0 := eq_false (Ne.symm d_o_begins_5_o_t_53_0)
    have e_o_end_9_o_together_10 := eq_false d_o_end_9_o_together_10
    have r_o_end_9_o_together_10 := eq_false (Ne.symm d_o_end_9_o_together_10)
    have e_o_end_9_o_t_53_0 := eq_false d_o_end_9_o_t_53_0
    have r_o_end_9_o_t_53_0 := eq_false (Ne.symm d_o_end_9_o_t_53_0)
    have e_o_together_10_o_t_53_0 := eq_false d_o_together_10_o_t_53_0
    have r_o_together_10_o_t_53_0 := eq_false (Ne.symm d_o_together_10_o_t_53_0)
    have hle0 := hf0.1
    rw [t_nodeErr_r1] at h
    cases h
    exact q1 _ _ _ rfl f0 hf0 sls_
  | succ m ih =>
    intro o_begins_5 o_end_9 o_together_10 o_t_53_0 begins_5_0 end_9_0 together_10_0 t_53_0_0 σ0 σ H0 H f0 hf0 sl l_o_begins_5 l_o_end_9 l_o_together_10 l_o_t_53_0 d_o_begins_5_o_end_9 d_o_begins_5_o_together_10 d_o_begins_5_o_t_53_0 d_o_end_9_o_together_10 d_o_end_9_o_t_53_0 d_o_together_10_o_t_53_0 o h Q q0 q1
    obtain ⟨s5, s9, s10, s53, g_o_begins_5, g_o_end_9, g_o_together_10, g_o_t_53_0⟩ := sl
    have n_o_begins_5 := ne_next l_o_begins_5
    have m_o_begins_5 := ne_add l_o_begins_5
    have n_o_end_9 := ne_next l_o_end_9
    have m_o_end_9 := ne_add l_o_end_9
    have n_o_together_10 := ne_next l_o_together_10
    have m_o_together_10 := ne_add l_o_together_10
    have n_o_t_53_0 := ne_next l_o_t_53_0
    have m_o_t_53_0 := ne_add l_o_t_53_0
    have e_o_begins_5_o_end_9 := eq_false d_o_begins_5_o_end_9
    have r_o_begins_5_o_end_9 := eq_false (Ne.symm d_o_begins_5_o_end_9)
    have e_o_begins_5_o_together_10 := eq_false d_o_begins_5_o_together_10
    have r_o_begins_5_o_together_10 := eq_false (Ne.symm d_o_begins_5_o_together_10)
    have e_o_begins_5_o_t_53_0 := eq_false d_o_begins_5_o_t_53_0
    have r_o_begins_5_o_t_53_0 := eq_false (Ne.symm d_o_begins_5_o_t_53_0)
    have e_o_end_9_o_together_10 := eq_false d_o_end_9_o_together_10
    have r_o_end_9_o_together_10 := eq_false (Ne.symm d_o_end_9_o_together_10)
    have e_o_end_9_o_t_53_0 := eq_false d_o_end_9_o_t_53_0
    have r_o_end_9_o_t_53_0 := eq_false (Ne.symm d_o_end_9_o_t_53_0)
    have e_o_together_10_o_t_53_0 := eq_false d_o_together_10_o_t_53_0
    have r_o_together_10_o_t_53_0 := eq_false (Ne.symm d_o_together_10_o_t_53_0)
    have hle0 := hf0.1
    rw [t_nodeErr_r1] at h
    cases erf : t_53_0_0[m]?
    case none => rw [bind_N erf] at h; cases h
    case some x27 =>
      rw [bind_S erf] at h
      refine ⟨g_o_t_53_0, elemP false (intL x27), by simp only [List.getElem?_map, erf, Option.map_some], W_start ?_⟩
      unfold ac48_r1a
      try refine gos_ ?_
      refine W_start ?_
      unfold ac48_r1b
      rcases cond_E h with ⟨e28, h⟩ | ⟨e28, h⟩
      ·obtain rfl := som_E h
       try refine gos_ ?_
       exact q0 _ _ _ rfl fr_ (by repeat (first | exact hf0 | refine HF.new ?_ | refine HF.tokd ?_ | refine HF.used ?_ | refine HF.put (by first | (right; omega) | (left; simp only [List.mem_cons, true_or, or_true])) ?_)) sls_
      ·rcases cond_E h with ⟨e29, h⟩ | ⟨e29, h⟩
       ·obtain rfl := som_E h
        try refine gos_ ?_
        exact q0 _ _ _ rfl fr_ (by repeat (first | exact hf0 | refine HF.new ?_ | refine HF.tokd ?_ | refine HF.used ?_ | refine HF.put (by first | (right; omega) | (left; simp only [List.mem_cons, true_or, or_true])) ?_)) sls_
       ·obtain ⟨e30, h⟩ := if_E h
        obtain ⟨x31, e32, h⟩ := bind_E h
        try refine gos_ ?_
        exact ih o_begins_5 o_end_9 o_together_10 o_t_53_0 begins_5_0 (IntKind.wrap .i64 (x31 - 1)) together_10_0 t_53_0_0 _ _ _ _ f0 (by repeat (first | exact hf0 | refine HF.new ?_ | refine HF.tokd ?_ | refine HF.used ?_ | refine HF.put (by first | (right; omega) | (left; simp only [List.mem_cons, true_or, or_true])) ?_)) sls_ om_ om_ om_ om_ om_ om_ om_ om_ om_ om_ _ h _ q0 q1
def t_nodeErr_j2 (begins_5_0 : List Int) (n_7_0 : Int) (n_7_1 : Int) (n_7_2 : Str) (n_7_3 : List Str) (n_7_4 : List Int) (end_9_0 : Int) (together_10_0 : Bool) : Option ((Int × Bool)) :=
  if n_7_4.length ≤ 1099511627776 then Option.bind (t_nodeErr_r1 n_7_4.length begins_5_0 end_9_0 together_10_0 n_7_4) (fun o => Sum.elim (fun p35 => some ((p35.1, p35.2))) (fun p49 => some ((p49.1, p49.2))) o) else none
def t_nodeErr_j2l : List Nat := [12] ++ List.range' 51 17
theorem t_nodeErr_j2_W : ∀ (o_begins_5 : Nat) (o_n_7 : Nat) (o_end_9 : Nat) (o_together_10 : Nat) (begins_5_0 : List Int) (n_7_0 : Int) (n_7_1 : Int) (n_7_2 : Str) (n_7_3 : List Str) (n_7_4 : List Int) (end_9_0 : Int) (together_10_0 : Bool) (σ0 σ : Nat → PV) (H0 H : AH) (f0 : Fr t_nodeErr_j2l σ0 σ) (hf0 : HF [o_end_9, o_together_10] H0 H) (sl : σ 5 = (.ref (o_begins_5) 0) ∧ σ 7 = (.ref (o_n_7) 0) ∧ σ 9 = (.ref (o_end_9) 0) ∧ σ 10 = (.ref (o_together_10) 0) ∧ H.obj o_begins_5 = some [(.isl (begins_5_0.map intL) .unk)] ∧ H.obj o_n_7 = some [(.int .i64 n_7_0), (.int .i64 n_7_1), (.str n_7_2), (.isl (n_7_3.map strL) .unk), (.isl (n_7_4.map intL) .unk)] ∧ H.obj o_end_9 = some [(.int .i64 end_9_0)] ∧ H.obj o_together_10 = some [(.bool together_10_0)]) (l_o_begins_5 : o_begins_5 < H.next) (l_o_n_7 : o_n_7 < H.next) (l_o_end_9 : o_end_9 < H.next) (l_o_together_10 : o_together_10 < H.next) (d_o_begins_5_o_n_7 : o_begins_5 ≠ o_n_7) (d_o_begins_5_o_end_9 : o_begins_5 ≠ o_end_9) (d_o_begins_5_o_together_10 : o_begins_5 ≠ o_together_10) (d_o_n_7_o_end_9 : o_n_7 ≠ o_end_9) (d_o_n_7_o_together_10 : o_n_7 ≠ o_together_10) (d_o_end_9_o_together_10 : o_end_9 ≠ o_together_10) (o : (Int × Bool)) (h : t_nodeErr_j2 begins_5_0 n_7_0 n_7_1 n_7_2 n_7_3 n_7_4 end_9_0 together_10_0 = some o) (Q : Post) (q0 : ∀ (p : Int × Bool) (σ' : Nat → PV) (H' : AH), o = p → Fr t_nodeErr_j2l σ0 σ' → HF [o_end_9, o_together_10] H0 H' → (H'.obj o_end_9 = some [(.int .i64 p.1)] ∧ H'.obj o_together_10 = some [(.bool p.2)]) → Q .normal σ' H') , W Tryz.prog ac48_j2 Q σ H := by
  intro o_begins_5 o_n_7 o_end_9 o_together_10 begins_5_0 n_7_0 n_7_1 n_7_2 n_7_3 n_7_4 end_9_0 together_10_0 σ0 σ H0 H f0 hf0 sl l_o_begins_5 l_o_n_7 l_o_end_9 l_o_together_10 d_o_begins_5_o_n_7 d_o_begins_5_o_end_9 d_o_begins_5_o_together_10 d_o_n_7_o_end_9 d_o_n_7_o_together_10 d_o_end_9_o_together_10 o h Q q0
  obtain ⟨s5, s7, s9, s10, g_o_begins_5, g_o_n_7, g_o_end_9, g_o_together_10⟩ := sl
  have n_o_begins_5 := ne_next l_o_begins_5
  have m_o_begins_5 := ne_add l_o_begins_5
  have n_o_n_7 := ne_next l_o_n_7
  have m_o_n_7 := ne_add l_o_n_7
  have n_o_end_9 := ne_next l_o_end_9
  have m_o_end_9 := ne_add l_o_end_9
  have n_o_together_10 := ne_next l_o_together_10
  have m_o_together_10 := ne_add l_o_together_10
  have e_o_begins_5_o_n_7 := eq_false d_o_begins_5_o_n_7
  have r_o_begins_5_o_n_7 := eq_false (Ne.symm d_o_begins_5_o_n_7)
  have e_o_begins_5_o_end_9 := eq_false d_o_begins_5_o_end_9
  have r_o_begins_5_o_end_9 := eq_false (Ne.symm d_o_begins_5_o_end_9)
  have e_o_begins_5_o_together_10 := eq_false d_o_begins_5_o_together_10
  have r_o_begins_5_o_together_10 := eq_false (Ne.symm d_o_begins_5_o_together_10)
  have e_o_n_7_o_end_9 := eq_false d_o_n_7_o_end_9
  have r_o_n_7_o_end_9 := eq_false (Ne.symm d_o_n_7_o_end_9)
  have e_o_n_7_o_together_10 := eq_false d_o_n_7_o_together_10
  have r_o_n_7_o_together_10 := eq_false (Ne.symm d_o_n_7_o_together_10)
  have e_o_end_9_o_together_10 := eq_false d_o_end_9_o_together_10
  have r_o_end_9_o_together_10 := eq_false (Ne.symm d_o_end_9_o_together_10)
  have hle0 := hf0.1
  unfold t_nodeErr_j2 at h
  refine W_start ?_
  unfold ac48_j2
  try refine gos_ ?_
  refine MCall_of_W ok91 (by simp) (W_start ?_)
  unfold ac91
  obtain ⟨e63, h⟩ := if_E h
  try refine gos_ ?_
  obtain ⟨o33, h34, h⟩ := bind_E h
  refine WS_rf (g := 141) (id := H.next) (sz := 1) (agg := false) (es := n_7_4.map intL) (c := .unk) sls_ enters141 backs141 (by decide) sls_ (by rw [List.length_map]; exact e63) (lenOk_map (RowF.len (f := intL)) _) ?_
  rw [List.length_map]
  refine t_nodeErr_r1_W _ (o_begins_5) (o_end_9) (o_together_10) (H.next) begins_5_0 end_9_0 together_10_0 n_7_4 _ _ _ _ (Fr.refl _ _) (HF.refl _ _) sls_ om_ om_ om_ om_ om_ om_ om_ om_ om_ om_ _ h34 _ ?_ ?_
  ·rintro p35 σ' H38 eo fr36 hf37 ⟨g39, g40⟩
   subst eo
   rw [sum_L] at h
   have s41 : σ' 7 = (.ref (o_n_7) 0) := (fr36 7 (by decide)).trans sls_
   have s42 : σ' 10 = (.ref (o_together_10) 0) := (fr36 10 (by decide)).trans sls_
   have le := hf37.1
   try simp only [AH.new_next, AH.put_next, AH.tok_next, AH.use_next] at le
   have g43 : H38.obj (o_n_7) = some [(.int .i64 n_7_0), (.int .i64 n_7_1), (.str n_7_2), (.isl (n_7_3.map strL) .unk), (.isl (n_7_4.map intL) .unk)] := (hf37.2 _ om_ (by first | exact List.not_mem_nil | (simp only [List.mem_cons, List.not_mem_nil, or_false, not_or]; omega))).trans sls_
   have n44 := ne_next (show o_n_7 < H38.next by first | omega | (simp only [AH.new_next, AH.put_next, AH.tok_next, AH.use_next]; omega))
   have m45 := ne_add (show o_n_7 < H38.next by first | omega | (simp only [AH.new_next, AH.put_next, AH.tok_next, AH.use_next]; omega))
   have n47 := ne_next (show o_together_10 < H38.next by first | omega | (simp only [AH.new_next, AH.put_next, AH.tok_next, AH.use_next]; omega))
   have m48 := ne_add (show o_together_10 < H38.next by first | omega | (simp only [AH.new_next, AH.put_next, AH.tok_next, AH.use_next]; omega))
   obtain rfl := som_E h
   try refine gos_ ?_
   exact q0 _ _ _ rfl (by repeat (first | exact f0 | refine Fr.upd (by decide) ?_ | refine Fr.via fr36 (by decide) ?_)) (by repeat (first | exact hf0 | refine HF.new ?_ | refine HF.tokd ?_ | refine HF.used ?_ | refine HF.put (by first | (right; omega) | (left; simp only [List.mem_cons, true_or, or_true])) ?_ | refine HF.via hf37 (by first | exact fun i hi => absurd hi List.not_mem_nil | (intro i hi; simp only [List.mem_cons, List.not_mem_nil, or_false] at hi ⊢; first | exact .inl hi | omega)) ?_)) sls_
  ·rintro p49 σ' H52 eo fr50 hf51 ⟨g53, g54⟩
   subst eo
   rw [sum_R] at h
   have s55 : σ' 7 = (.ref (o_n_7) 0) := (fr50 7 (by decide)).trans sls_
   have s56 : σ' 10 = (.ref (o_together_10) 0) := (fr50 10 (by decide)).trans sls_
   have le := hf51.1
   try simp only [AH.new_next, AH.put_next, AH.tok_next, AH.use_next] at le
   have g57 : H52.obj (o_n_7) = some [(.int .i64 n_7_0), (.int .i64 n_7_1), (.str n_7_2), (.isl (n_7_3.map strL) .unk), (.isl (n_7_4.map intL) .unk)] := (hf51.2 _ om_ (by first | exact List.not_mem_nil | (simp only [List.mem_cons, List.not_mem_nil, or_false, not_or]; omega))).trans sls_
   have n58 := ne_next (show o_n_7 < H52.next by first | omega | (simp only [AH.new_next, AH.put_next, AH.tok_next, AH.use_next]; omega))
   have m59 := ne_add (show o_n_7 < H52.next by first | omega | (simp only [AH.new_next, AH.put_next, AH.tok_next, AH.use_next]; omega))
   have n61 := ne_next (show o_together_10 < H52.next by first | omega | (simp only [AH.new_next, AH.put_next, AH.tok_next, AH.use_next]; omega))
   have m62 := ne_add (show o_together_10 < H52.next by first | omega | (simp only [AH.new_next, AH.put_next, AH.tok_next, AH.use_next]; omega))
   obtain rfl := som_E h
   try refine gos_ ?_
   exact q0 _ _ _ rfl (by repeat (first | exact f0 | refine Fr.upd (by decide) ?_ | refine Fr.via fr50 (by decide) ?_)) (by repeat (first | exact hf0 | refine HF.new ?_ | refine HF.tokd ?_ | refine HF.used ?_ | refine HF.put (by first | (right; omega) | (left; simp only [List.mem_cons, true_or, or_true])) ?_ | refine HF.via hf51 (by first | exact fun i hi => absurd hi List.not_mem_nil | (intro i hi; simp only [List.mem_cons, List.not_mem_nil, or_false] at hi ⊢; first | exact .inl hi | omega)) ?_)) sls_
def t_nodeErr_p3 (n_7_0 : Int) (n_7_1 : Int) (n_7_2 : Str) (n_7_3 : List Str) (n_7_4 : List Int) (x_8_0 : Int) (x_8_1 : Int) (x_8_2 : Int) (x_8_3 : Int) (x_8_4 : Bool) (x_8_5 : Bool) (let_13 : Bool) (t_73 : Bool) : Option Bool :=
  cond t_73 (cond x_8_5 (cond (n_7_0 != 1) (cond let_13 (Option.bind (t_spans n_7_1 0 1) fun p89 => some (p89)) (some (true))) (Option.bind (t_isText n_7_2) fun p91 => cond p91 (cond let_13 (Option.bind (t_spans n_7_1 0 1) fun p95 => some (p95)) (some (true))) (some (false)))) (cond (n_7_1 == 0) (cond (n_7_0 != 1) (cond let_13 (Option.bind (t_spans n_7_1 0 1) fun p100 => some (p100)) (some (true))) (Option.bind (t_isText n_7_2) fun p102 => cond p102 (cond let_13 (Option.bind (t_spans n_7_1 0 1) fun p106 => some (p106)) (some (true))) (some (false)))) (some (false)))) (cond (n_7_2 == []) (cond x_8_5 (cond (n_7_0 != 1) (cond let_13 (Option.bind (t_spans n_7_1 0 1) fun p112 => some (p112)) (some (true))) (Option.bind (t_isText n_7_2) fun p114 => cond p114 (cond let_13 (Option.bind (t_spans n_7_1 0 1) fun p118 => some (p118)) (some (true))) (some (false)))) (cond (n_7_1 == 0) (cond (n_7_0 != 1) (cond let_13 (Option.bind (t_spans n_7_1 0 1) fun p123 => some (p123)) (some (true))) (Option.bind (t_isText n_7_2) fun p125 => cond p125 (cond let_13 (Option.bind (t_spans n_7_1 0 1) fun p129 => some (p129)) (some (true))) (some (false)))) (some (false)))) (some (false)))
def t_nodeErr_p3l : List Nat := List.range' 74 32
theorem t_nodeErr_p3_W : ∀ (o_n_7 : Nat) (o_x_8 : Nat) (n_7_0 : Int) (n_7_1 : Int) (n_7_2 : Str) (n_7_3 : List Str) (n_7_4 : List Int) (x_8_0 : Int) (x_8_1 : Int) (x_8_2 : Int) (x_8_3 : Int) (x_8_4 : Bool) (x_8_5 : Bool) (let_13 : Bool) (t_73 : Bool) (σ0 σ : Nat → PV) (H : AH) (f0 : Fr t_nodeErr_p3l σ0 σ) (sl : σ 7 = (.ref (o_n_7) 0) ∧ σ 8 = (.ref (o_x_8) 0) ∧ σ 13 = (.bool let_13) ∧ σ 73 = (.bool t_73) ∧ H.obj o_n_7 = some [(.int .i64 n_7_0), (.int .i64 n_7_1), (.str n_7_2), (.isl (n_7_3.map strL) .unk), (.isl (n_7_4.map intL) .unk)] ∧ H.obj o_x_8 = some [(.int .i64 x_8_0), (.int .i64 x_8_1), (.int .i64 x_8_2), (.int .i64 x_8_3), (.bool x_8_4), (.bool x_8_5)]) (l_o_n_7 : o_n_7 < H.next) (l_o_x_8 : o_x_8 < H.next) (d_o_n_7_o_x_8 : o_n_7 ≠ o_x_8) (o : Bool) (h : t_nodeErr_p3 n_7_0 n_7_1 n_7_2 n_7_3 n_7_4 x_8_0 x_8_1 x_8_2 x_8_3 x_8_4 x_8_5 let_13 t_73 = some o) (Q : Post) (q0 : ∀ (p : Bool) (σ' : Nat → PV), o = p → Fr t_nodeErr_p3l σ0 σ' → (σ' 105 = (.bool p)) → Q .normal σ' H) , WOps Tryz.prog ac48_p3 (Q .normal) σ H := by
  intro o_n_7 o_x_8 n_7_0 n_7_1 n_7_2 n_7_3 n_7_4 x_8_0 x_8_1 x_8_2 x_8_3 x_8_4 x_8_5 let_13 t_73 σ0 σ H f0 sl l_o_n_7 l_o_x_8 d_o_n_7_o_x_8 o h Q q0
  obtain ⟨s7, s8, s13, s73, g_o_n_7, g_o_x_8⟩ := sl
  have n_o_n_7 := ne_next l_o_n_7
  have m_o_n_7 := ne_add l_o_n_7
  have n_o_x_8 := ne_next l_o_x_8
  have m_o_x_8 := ne_add l_o_x_8
  have e_o_n_7_o_x_8 := eq_false d_o_n_7_o_x_8
  have r_o_n_7_o_x_8 := eq_false (Ne.symm d_o_n_7_o_x_8)
  unfold t_nodeErr_p3 at h
  refine WO_start ?_
  unfold ac48_p3
  rcases cond_E h with ⟨e84, h⟩ | ⟨e84, h⟩
  ·rcases cond_E h with ⟨e85, h⟩ | ⟨e85, h⟩
   ·rcases cond_E h with ⟨e86, h⟩ | ⟨e86, h⟩
    ·rcases cond_E h with ⟨e87, h⟩ | ⟨e87, h⟩
     ·obtain ⟨p89, e88, h⟩ := bind_E h
      try refine gos_ ?_
      refine mcall_pure (t_spans_c e88) ?_
      obtain rfl := som_E h
      try refine gos_ ?_
      exact q0 _ _ rfl fr_ sls_
     ·obtain rfl := som_E h
      try refine gos_ ?_
      exact q0 _ _ rfl fr_ sls_
    ·obtain ⟨p91, e90, h⟩ := bind_E h
     try refine gos_ ?_
     refine mcall_pure (t_isText_c e90) ?_
     rcases cond_E h with ⟨e92, h⟩ | ⟨e92, h⟩
     ·rcases cond_E h with ⟨e93, h⟩ | ⟨e93, h⟩
      ·obtain ⟨p95, e94, h⟩ := bind_E h
       try refine gos_ ?_
       refine mcall_pure (t_spans_c e94) ?_
       obtain rfl := som_E h
       try refine gos_ ?_
       exact q0 _ _ rfl fr_ sls_
      ·obtain rfl := som_E h
       try refine gos_ ?_
       exact q0 _ _ rfl fr_ sls_
     ·obtain rfl := som_E h
      try refine gos_ ?_
      exact q0 _ _ rfl fr_ sls_
   ·rcases cond_E h with ⟨e96, h⟩ | ⟨e96, h⟩
    ·rcases cond_E h with ⟨e97, h⟩ | ⟨e97, h⟩
     ·rcases cond_E h with ⟨e98, h⟩ | ⟨e98, h⟩
      ·obtain ⟨p100, e99, h⟩ := bind_E h
       try refine gos_ ?_
       refine mcall_pure (t_spans_c e99) ?_
       obtain rfl := som_E h
       try refine gos_ ?_
       exact q0 _ _ rfl fr_ sls_
      ·obtain rfl := som_E h
       try refine gos_ ?_
       exact q0 _ _ rfl fr_ sls_
     ·obtain ⟨p102, e101, h⟩ := bind_E h
      try refine gos_ ?_
      refine mcall_pure (t_isText_c e101) ?_
      rcases cond_E h with ⟨e103, h⟩ | ⟨e103, h⟩
      ·rcases cond_E h with ⟨e104, h⟩ | ⟨e104, h⟩
       ·obtain ⟨p106, e105, h⟩ := bind_E h
        try refine gos_ ?_
        refine mcall_pure (t_spans_c e105) ?_
        obtain rfl := som_E h
        try refine gos_ ?_
        exact q0 _ _ rfl fr_ sls_
       ·obtain rfl := som_E h
        try refine gos_ ?_
        exact q0 _ _ rfl fr_ sls_
      ·obtain rfl := som_E h
       try refine gos_ ?_
       exact q0 _ _ rfl fr_ sls_
    ·obtain rfl := som_E h
     try refine gos_ ?_
     exact q0 _ _ rfl fr_ sls_
  ·rcases cond_E h with ⟨e107, h⟩ | ⟨e107, h⟩
   ·rcases cond_E h with ⟨e108, h⟩ | ⟨e108, h⟩
    ·rcases cond_E h with ⟨e109, h⟩ | ⟨e109, h⟩
     ·rcases cond_E h with ⟨e110, h⟩ | ⟨e110, h⟩
      ·obtain ⟨p112, e111, h⟩ := bind_E h
       try refine gos_ ?_
       refine mcall_pure (t_spans_c e111) ?_
       obtain rfl := som_E h
       try refine gos_ ?_
       exact q0 _ _ rfl fr_ sls_
      ·obtain rfl := som_E h
       try refine gos_ ?_
       exact q0 _ _ rfl fr_ sls_
     ·obtain ⟨p114, e113, h⟩ := bind_E h
      try refine gos_ ?_
      refine mcall_pure (t_isText_c e113) ?_
      rcases cond_E h with ⟨e115, h⟩ | ⟨e115, h⟩
      ·rcases cond_E h with ⟨e116, h⟩ | ⟨e116, h⟩
       ·obtain ⟨p118, e117, h⟩ := bind_E h
        try refine gos_ ?_
        refine mcall_pure (t_spans_c e117) ?_
        obtain rfl := som_E h
        try refine gos_ ?_
        exact q0 _ _ rfl fr_ sls_
       ·obtain rfl := som_E h
        try refine gos_ ?_
        exact q0 _ _ rfl fr_ sls_
      ·obtain rfl := som_E h
       try refine gos_ ?_
       exact q0 _ _ rfl fr_ sls_
    ·rcases cond_E h with ⟨e119, h⟩ | ⟨e119, h⟩
     ·rcases cond_E h with ⟨e120, h⟩ | ⟨e120, h⟩
      ·rcases cond_E h with ⟨e121, h⟩ | ⟨e121, h⟩
       ·obtain ⟨p123, e122, h⟩ := bind_E h
        try refine gos_ ?_
        refine mcall_pure (t_spans_c e122) ?_
        obtain rfl := som_E h
        try refine gos_ ?_
        exact q0 _ _ rfl fr_ sls_
       ·obtain rfl := som_E h
        try refine gos_ ?_
        exact q0 _ _ rfl fr_ sls_
      ·obtain ⟨p125, e124, h⟩ := bind_E h
       try refine gos_ ?_
       refine mcall_pure (t_isText_c e124) ?_
       rcases cond_E h with ⟨e126, h⟩ | ⟨e126, h⟩
       ·rcases cond_E h with ⟨e127, h⟩ | ⟨e127, h⟩
        ·obtain ⟨p129, e128, h⟩ := bind_E h
         try refine gos_ ?_
         refine mcall_pure (t_spans_c e128) ?_
         obtain rfl := som_E h
         try refine gos_ ?_
         exact q0 _ _ rfl fr_ sls_
        ·obtain rfl := som_E h
         try refine gos_ ?_
         exact q0 _ _ rfl fr_ sls_
       ·obtain rfl := som_E h
        try refine gos_ ?_
        exact q0 _ _ rfl fr_ sls_
     ·obtain rfl := som_E h
      try refine gos_ ?_
      exact q0 _ _ rfl fr_ sls_
   ·obtain rfl := som_E h
    try refine gos_ ?_
    exact q0 _ _ rfl fr_ sls_
def t_nodeErr (k : Nat) (e_0 : List Nd) (i_1 : Int) (begins_2 : List Int) : Option Int :=
  if 0 ≤ i_1 then Option.bind (e_0[i_1.toNat]?) fun x2 => Option.bind (t_spans x2.kind 0 28) fun p5 => cond p5 (Option.bind (t_shapeOf k x2) fun p8 => Option.bind (t_spans (x2.names.length : Int) p8.names.1 p8.names.2) fun p10 => Option.bind (t_nodeErr_p0 x2.kind x2.n x2.text x2.names x2.args p8.names.1 p8.names.2 p8.operands.1 p8.operands.2 p8.text p8.number (!p10)) (fun p16 => cond p16 (some 6) (Option.bind (t_nodeErr_j2 begins_2 x2.kind x2.n x2.text x2.names x2.args (IntKind.wrap .i64 (i_1 - 1)) true) (fun p66 => Option.bind (t_nodeErr_p3 x2.kind x2.n x2.text x2.names x2.args p8.names.1 p8.names.2 p8.operands.1 p8.operands.2 p8.text p8.number (x2.kind == 23) p8.text) (fun p132 => cond p66.2 (Option.bind (t_wrong (!p132) 5) fun p142 => cond (x2.kind == 23) (Option.bind (t_wrong false 3) fun p145 => Option.bind (t_namesErr k x2) fun p147 => Option.bind (g_Or_api_Errno k [p142, p145, p147]) fun p149 => some p149) (Option.bind (t_spans x2.n 0 10000) fun p151 => Option.bind (t_wrong (!p151) 3) fun p153 => Option.bind (t_namesErr k x2) fun p155 => Option.bind (g_Or_api_Errno k [p142, p153, p155]) fun p157 => some p157)) (Option.bind (t_wrong true 5) fun p159 => cond (x2.kind == 23) (Option.bind (t_wrong false 3) fun p162 => Option.bind (t_namesErr k x2) fun p164 => Option.bind (g_Or_api_Errno k [p159, p162, p164]) fun p166 => some p166) (Option.bind (t_spans x2.n 0 10000) fun p168 => Option.bind (t_wrong (!p168) 3) fun p170 => Option.bind (t_namesErr k x2) fun p172 => Option.bind (g_Or_api_Errno k [p159, p170, p172]) fun p174 => some p174))))))) (some 4) else none
theorem t_nodeErr_c {k : Nat} {e_0 : List Nd} {i_1 : Int} {begins_2 : List Int} {c0 c2 : Ck} {r : Int} (h : t_nodeErr k e_0 i_1 begins_2 = some r) : PCall Tryz.prog 48 [(.isl (e_0.map Nd.cells) c0), (.int .i64 i_1), (.isl (begins_2.map intL) c2)] (.int .i64 r) := by
  refine PCall.lw (.isl (.same (.isl .nil))) (PCall.of_empty (PuL.mem (.cons (pu_sl Nd.pu _) (.cons (.int _ _) (.cons (pu_sl pu_intL _) .nil)))) (MCall_of_W ok48 (by simp) (W_start ?_)) (.int _ _))
  unfold t_nodeErr at h
  unfold ac48
  obtain ⟨e1, h⟩ := if_E h
  obtain ⟨x2, e3, h⟩ := bind_E h
  obtain ⟨p5, e4, h⟩ := bind_E h
  try refine gos_ ?_
  refine mcall_pure (t_spans_c e4) ?_
  rcases cond_E h with ⟨e6, h⟩ | ⟨e6, h⟩
  ·obtain ⟨p8, e7, h⟩ := bind_E h
   try refine gos_ ?_
   refine mcall_pure (t_shapeOf_c e7) ?_
   obtain ⟨p10, e9, h⟩ := bind_E h
   try refine gos_ ?_
   refine mcall_pure (t_spans_c e9) ?_
   try refine gos_ ?_
   obtain ⟨o14, h15, h⟩ := bind_E h
   refine t_nodeErr_p0_W (AH.empty.next + 1) (AH.empty.next + 2) x2.kind x2.n x2.text x2.names x2.args p8.names.1 p8.names.2 p8.operands.1 p8.operands.2 p8.text p8.number (!p10) _ _ _ (Fr.refl _ _) sls_ om_ om_ om_ _ h15 _ ?_
   ·rintro p16 σ' eo fr17 s20
    rw [eo] at h
    have s21 : σ' 1 = (.int .i64 i_1) := (fr17 1 (by decide)).trans sls_
    have s22 : σ' 5 = (.ref (AH.empty.next) 0) := (fr17 5 (by decide)).trans sls_
    have s23 : σ' 7 = (.ref (AH.empty.next + 1) 0) := (fr17 7 (by decide)).trans sls_
    have s24 : σ' 8 = (.ref (AH.empty.next + 2) 0) := (fr17 8 (by decide)).trans sls_
    rcases cond_E h with ⟨e25, h⟩ | ⟨e25, h⟩
    ·obtain rfl := som_E h
     try refine gos_ ?_
     exact (.pure _ (.int _ _))
    ·try refine gos_ ?_
     obtain ⟨o64, h65, h⟩ := bind_E h
     refine t_nodeErr_j2_W (AH.empty.next) (AH.empty.next + 1) (AH.empty.next + 3) (AH.empty.next + 4) begins_2 x2.kind x2.n x2.text x2.names x2.args (IntKind.wrap .i64 (i_1 - 1)) true _ _ _ _ (Fr.refl _ _) (HF.refl _ _) sls_ om_ om_ om_ om_ om_ om_ om_ om_ om_ om_ _ h65 _ ?_
     ·rintro p66 σ' H69 eo fr67 hf68 ⟨g70, g71⟩
      rw [eo] at h
      have s72 : σ' 7 = (.ref (AH.empty.next + 1) 0) := (fr67 7 (by decide)).trans sls_
      have s73 : σ' 8 = (.ref (AH.empty.next + 2) 0) := (fr67 8 (by decide)).trans sls_
      have s74 : σ' 10 = (.ref (AH.empty.next + 4) 0) := (fr67 10 (by decide)).trans sls_
      have le := hf68.1
      try simp only [AH.new_next, AH.put_next, AH.tok_next, AH.use_next] at le
      have g75 : H69.obj (AH.empty.next + 1) = some [(.int .i64 x2.kind), (.int .i64 x2.n), (.str x2.text), (.isl (x2.names.map strL) .unk), (.isl (x2.args.map intL) .unk)] := (hf68.2 _ om_ (by first | exact List.not_mem_nil | (simp only [List.mem_cons, List.not_mem_nil, or_false, not_or]; omega))).trans sls_
      have n76 := ne_next (show AH.empty.next + 1 < H69.next by first | omega | (simp only [AH.new_next, AH.put_next, AH.tok_next, AH.use_next]; omega))
      have m77 := ne_add (show AH.empty.next + 1 < H69.next by first | omega | (simp only [AH.new_next, AH.put_next, AH.tok_next, AH.use_next]; omega))
      have g78 : H69.obj (AH.empty.next + 2) = some [(.int .i64 p8.names.1), (.int .i64 p8.names.2), (.int .i64 p8.operands.1), (.int .i64 p8.operands.2), (.bool p8.text), (.bool p8.number)] := (hf68.2 _ om_ (by first | exact List.not_mem_nil | (simp only [List.mem_cons, List.not_mem_nil, or_false, not_or]; omega))).trans sls_
      have n79 := ne_next (show AH.empty.next + 2 < H69.next by first | omega | (simp only [AH.new_next, AH.put_next, AH.tok_next, AH.use_next]; omega))
      have m80 := ne_add (show AH.empty.next + 2 < H69.next by first | omega | (simp only [AH.new_next, AH.put_next, AH.tok_next, AH.use_next]; omega))
      have n82 := ne_next (show AH.empty.next + 4 < H69.next by first | omega | (simp only [AH.new_next, AH.put_next, AH.tok_next, AH.use_next]; omega))
      have m83 := ne_add (show AH.empty.next + 4 < H69.next by first | omega | (simp only [AH.new_next, AH.put_next, AH.tok_next, AH.use_next]; omega))
      try refine gos_ ?_
      obtain ⟨o130, h131, h⟩ := bind_E h
      refine t_nodeErr_p3_W (AH.empty.next + 1) (AH.empty.next + 2) x2.kind x2.n x2.text x2.names x2.args p8.names.1 p8.names.2 p8.operands.1 p8.operands.2 p8.text p8.number (x2.kind == 23) p8.text _ _ _ (Fr.refl _ _) sls_ om_ om_ om_ _ h131 _ ?_
      ·rintro p132 σ' eo fr133 s136
       rw [eo] at h
       have s137 : σ' 7 = (.ref (AH.empty.next + 1) 0) := (fr133 7 (by decide)).trans sls_
       have s138 : σ' 10 = (.ref (AH.empty.next + 4) 0) := (fr133 10 (by decide)).trans sls_
       have s139 : σ' 13 = (.bool (x2.kind == 23)) := (fr133 13 (by decide)).trans sls_
       try refine gos_ ?_
       refine WS_parS ?_
       rcases cond_E h with ⟨e140, h⟩ | ⟨e140, h⟩
       ·obtain ⟨p142, e141, h⟩ := bind_E h
        try refine gos_ ?_
        refine PC.mk (t_wrong_c e141) ?_
        rcases cond_E h with ⟨e143, h⟩ | ⟨e143, h⟩
        ·obtain ⟨p145, e144, h⟩ := bind_E h
         try refine gos_ ?_
         refine PC.mk (t_wrong_c e144) ?_
         obtain ⟨p147, e146, h⟩ := bind_E h
         try refine gos_ ?_
         refine mcall_pure (t_namesErr_c e146) ?_
         obtain ⟨p149, e148, h⟩ := bind_E h
         try refine gos_ ?_
         refine mcall_pure (g_Or_api_Errno_c e148) ?_
         obtain rfl := som_E h
         try refine gos_ ?_
         exact (.pure _ (.int _ _))
        ·obtain ⟨p151, e150, h⟩ := bind_E h
         try refine gos_ ?_
         refine PC.mk (t_spans_c e150) ?_
         obtain ⟨p153, e152, h⟩ := bind_E h
         try refine gos_ ?_
         refine PC.mk (t_wrong_c e152) ?_
         obtain ⟨p155, e154, h⟩ := bind_E h
         try refine gos_ ?_
         refine mcall_pure (t_namesErr_c e154) ?_
         obtain ⟨p157, e156, h⟩ := bind_E h
         try refine gos_ ?_
         refine mcall_pure (g_Or_api_Errno_c e156) ?_
         obtain rfl := som_E h
         try refine gos_ ?_
         exact (.pure _ (.int _ _))
       ·obtain ⟨p159, e158, h⟩ := bind_E h
        try refine gos_ ?_
        refine PC.mk (t_wrong_c e158) ?_
        rcases cond_E h with ⟨e160, h⟩ | ⟨e160, h⟩
        ·obtain ⟨p162, e161, h⟩ := bind_E h
         try refine gos_ ?_
         refine PC.mk (t_wrong_c e161) ?_
         obtain ⟨p164, e163, h⟩ := bind_E h
         try refine gos_ ?_
         refine mcall_pure (t_namesErr_c e163) ?_
         obtain ⟨p166, e165, h⟩ := bind_E h
         try refine gos_ ?_
         refine mcall_pure (g_Or_api_Errno_c e165) ?_
         obtain rfl := som_E h
         try refine gos_ ?_
         exact (.pure _ (.int _ _))
        ·obtain ⟨p168, e167, h⟩ := bind_E h
         try refine gos_ ?_
         refine PC.mk (t_spans_c e167) ?_
         obtain ⟨p170, e169, h⟩ := bind_E h
         try refine gos_ ?_
         refine PC.mk (t_wrong_c e169) ?_
         obtain ⟨p172, e171, h⟩ := bind_E h
         try refine gos_ ?_
         refine mcall_pure (t_namesErr_c e171) ?_
         obtain ⟨p174, e173, h⟩ := bind_E h
         try refine gos_ ?_
         refine mcall_pure (g_Or_api_Errno_c e173) ?_
         obtain rfl := som_E h
         try refine gos_ ?_
         exact (.pure _ (.int _ _))
  ·obtain rfl := som_E h
   try refine gos_ ?_
   exact (.pure _ (.int _ _))
end Go.VL
end
section
set_option maxRecDepth 8000
set_option maxHeartbeats 4000000
namespace Go.VL
open Go.Proofs
def t_CheckExpr_b0 : Nat → (List Nd) → (List Int) → Int → Int → Option (List Int ⊕ (Int × Int))
  | 0, _, _, _, _ => none
  | k + 1, e_0, begins_5, t_26, t_27 =>
    cond (decide (t_27 < t_26)) (Option.bind (t_nodeErr k e_0 t_27 begins_5) fun p10 => cond (p10 != 0) (some (.inr ((t_27, p10)))) (if (begins_5.length + 1) * 8 ≤ 1099511627776 then Option.bind (t_begin e_0 t_27 (begins_5 ++ [0])) fun p21 => if 0 ≤ t_27 then Option.bind ((begins_5 ++ [0])[t_27.toNat]?) fun x23 => t_CheckExpr_b0 k e_0 ((begins_5 ++ [0]).set t_27.toNat p21) t_26 (IntKind.wrap .i64 (t_27 + 1)) else none else none)) (some (.inl begins_5))
def t_CheckExpr_b0l : List Nat := [2, 3, 5, 6, 7] ++ List.range' 27 22
theorem t_CheckExpr_b0_W : ∀ (k : Nat) (v_begins_5 : PV) (ids_begins_5 : List Nat) (M : List Nat) (e_0 : List Nd) (begins_5 : List Int) (t_26 : Int) (t_27 : Int) (σ0 σ : Nat → PV) (H0 H : AH) (f0 : Fr t_CheckExpr_b0l σ0 σ) (hf0 : HF M H0 H) (sl : σ 0 = (.isl (e_0.map Nd.cells) .unk) ∧ σ 5 = v_begins_5 ∧ σ 26 = (.int .i64 t_26) ∧ σ 27 = (.int .i64 t_27)) (r_begins_5 : RowN H intL 1 begins_5 v_begins_5 ids_begins_5) (nw_begins_5 : Nw H0 M ids_begins_5) (o : List Int ⊕ (Int × Int)) (h : t_CheckExpr_b0 k e_0 begins_5 t_26 t_27 = some o) (Q : Post) (q0 : ∀ (p : List Int) (v0 : PV) (ids0 : List Nat) (σ' : Nat → PV) (H' : AH), o = .inl p → Fr t_CheckExpr_b0l σ0 σ' → HF M H0 H' → (σ' 5 = v0) → RowN H' intL 1 p v0 ids0 → Nw H0 M ids0 → Q (.exit 0) σ' H') (q1 : ∀ (p : Int × Int) (σ' : Nat → PV) (H' : AH), o = .inr (p) → Fr t_CheckExpr_b0l σ0 σ' → HF M H0 H' → (σ' 2 = (.int .i64 p.1) ∧ σ' 3 = (.int .i64 p.2)) → Q .ret σ' H') , W Tryz.prog (.loop ac14_b0) Q σ H := by
  intro k
  induction k with
  | zero => intro v_begins_5 ids_begins_5 M e_0 begins_5 t_26 t_27 σ0 σ H0 H f0 hf0 sl r_begins_5 nw_begins_5 o h Q q0 q1; simp only [t_CheckExpr_b0, reduceCtorEq] at h
  | succ k ih =>
    intro v_begins_5 ids_begins_5 M e_0 begins_5 t_26 t_27 σ0 σ H0 H f0 hf0 sl r_begins_5 nw_begins_5 o h Q q0 q1
    obtain ⟨s0, s5, s26, s27⟩ := sl
    have hle0 := hf0.1
    unfold t_CheckExpr_b0 at h
    refine W_loopK (fun K hK => W_start ?_)
    unfold ac14_b0
    rcases cond_E h with ⟨e8, h⟩ | ⟨e8, h⟩
    ·obtain ⟨p10, e9, h⟩ := bind_E h
     try refine go_ ?_
     refine mcall_frz (t_nodeErr_c e9) (.cons (fz_sl Nd.pu _ _) (.cons (.pure _ (.int _ _)) (.cons (RowN.fz pu_intL (by repeat (first | exact r_begins_5 | apply RowN.new | refine RowN.put ?_ (fun hm => by have := RowN.lt r_begins_5 _ hm; omega)))) .nil))) (.cons (pu_sl Nd.pu _) (.cons (.int _ _) (.cons (pu_sl pu_intL _) .nil))) (.int _ _) ?_
     rcases cond_E h with ⟨e11, h⟩ | ⟨e11, h⟩
     ·obtain rfl := som_E h
      try refine go_ ?_
      exact q1 _ _ _ rfl fr_ (by repeat (first | exact hf0 | refine HF.new ?_ | refine HF.tokd ?_ | refine HF.used ?_ | refine HF.put (by first | (right; omega) | (left; simp only [List.mem_cons, true_or, or_true])) ?_)) sl_
     ·obtain ⟨e12, h⟩ := if_E h
      try refine go_ ?_
      refine WO_rowapp (f := intL) (v := v_begins_5) row_int begins_5 ([0] : List Int) .exact sl_ (by repeat (first | exact r_begins_5 | apply RowN.new | refine RowN.put ?_ (fun hm => by have := RowN.lt r_begins_5 _ hm; omega))) sl_ (by decide) (by simp only [List.length_cons, List.length_nil]; exact e12) (fun v13 ids14 H15 r16 nw17 hf18 ok19 => ?_)
      have le := hf18.1
      try simp only [AH.new_next, AH.put_next, AH.tok_next, AH.use_next] at le
      obtain ⟨p21, e20, h⟩ := bind_E h
      try refine go_ ?_
      refine mcall_frz (t_begin_c e20) (.cons (fz_sl Nd.pu _ _) (.cons (.pure _ (.int _ _)) (.cons (RowN.fz pu_intL (by repeat (first | exact r16 | apply RowN.new | refine RowN.put ?_ (fun hm => by have := RowN.lt r16 _ hm; omega)))) .nil))) (.cons (pu_sl Nd.pu _) (.cons (.int _ _) (.cons (pu_sl pu_intL _) .nil))) (.int _ _) ?_
      obtain ⟨e22, h⟩ := if_E h
      obtain ⟨x23, e24, h⟩ := bind_E h
      obtain ⟨w25, w26, hidw25, hil, w27, hC, hL, hD, hI⟩ := RowN.content r16 e24
      have w28 := ne_next hil
      have w29 := ne_add hil
      have w30 : idxPV 1 v13 (.int .i64 t_27) = some (.ref w25 (t_27.toNat)) := by simpa using hI .i64 t_27 (by first | omega | decide) (by first | rfl | omega)
      have w25c0 : w26[t_27.toNat]? = some (.int .i64 x23) := by simpa using hC 0 _ rfl
      clear hC hL hD hI
      try refine go_ ?_
      refine WO_rowset (f := intL) (id := w25) (o := t_27.toNat) (i := t_27.toNat) (j := 0) (a := x23) (y := p21) (vs := [(.int .i64 p21)]) sl_ hidw25 (by omega) (by repeat (first | exact r16 | apply RowN.new | refine RowN.put ?_ (fun hm => by have := RowN.lt r16 _ hm; omega))) e24 sl_ rfl rfl (by first | decide | (simp only [List.length_cons, List.length_nil]; omega)) rfl (fun H33 r34 hf36 ok37 => ?_)
      have le := hf36.1
      try simp only [AH.new_next, AH.put_next, AH.tok_next, AH.use_next] at le
      try refine go_ ?_
      refine hK _ _ ?_
      exact ih v13 ids14 M e_0 ((begins_5 ++ [0]).set t_27.toNat p21) t_26 (IntKind.wrap .i64 (t_27 + 1)) _ _ _ _ fr_ (by repeat (first | exact hf0 | refine HF.new ?_ | refine HF.tokd ?_ | refine HF.used ?_ | refine HF.put (by first | (right; omega) | (left; simp only [List.mem_cons, true_or, or_true])) ?_ | refine HF.via hf18 nw_begins_5 ?_ | refine HF.via hf36 (Nw.trans nw_begins_5 om_ nw17) ?_)) sl_ (by repeat (first | exact r34 | apply RowN.new | refine RowN.put ?_ (fun hm => by have := RowN.lt r34 _ hm; omega))) (Nw.trans nw_begins_5 om_ nw17) _ h _ q0 q1
    ·obtain rfl := som_E h
     try refine go_ ?_
     exact q0 _ v_begins_5 ids_begins_5 _ _ rfl fr_ (by repeat (first | exact hf0 | refine HF.new ?_ | refine HF.tokd ?_ | refine HF.used ?_ | refine HF.put (by first | (right; omega) | (left; simp only [List.mem_cons, true_or, or_true])) ?_)) sl_ (by repeat (first | exact r_begins_5 | apply RowN.new | refine RowN.put ?_ (fun hm => by have := RowN.lt r_begins_5 _ hm; omega))) nw_begins_5
def t_CheckExpr_b1 : Nat → (List Nd) → (List Int) → (List Int) → Int → Int → Option (Unit ⊕ (Int × Int))
  | 0, _, _, _, _, _ => none
  | k + 1, e_0, up_9, place_10, t_58, t_59 =>
    cond (decide (t_59 < t_58)) (Option.bind (t_isLost k e_0 t_59 up_9 place_10) fun p54 => cond p54 (some (.inr ((t_59, 30)))) (t_CheckExpr_b1 k e_0 up_9 place_10 t_58 (IntKind.wrap .i64 (t_59 + 1)))) (some (.inl ()))
def t_CheckExpr_b1l : List Nat := [2, 3, 11] ++ List.range' 59 10
theorem t_CheckExpr_b1_W : ∀ (k : Nat) (e_0 : List Nd) (up_9 : List Int) (place_10 : List Int) (t_58 : Int) (t_59 : Int) (σ0 σ : Nat → PV) (H : AH) (f0 : Fr t_CheckExpr_b1l σ0 σ) (sl : σ 0 = (.isl (e_0.map Nd.cells) .unk) ∧ σ 9 = (.isl (up_9.map intL) .unk) ∧ σ 10 = (.isl (place_10.map intL) .unk) ∧ σ 58 = (.int .i64 t_58) ∧ σ 59 = (.int .i64 t_59)) (o : Unit ⊕ (Int × Int)) (h : t_CheckExpr_b1 k e_0 up_9 place_10 t_58 t_59 = some o) (Q : Post) (q0 : ∀ (p : Unit) (σ' : Nat → PV), o = .inl p → Fr t_CheckExpr_b1l σ0 σ' → Q (.exit 2) σ' H) (q1 : ∀ (p : Int × Int) (σ' : Nat → PV), o = .inr (p) → Fr t_CheckExpr_b1l σ0 σ' → (σ' 2 = (.int .i64 p.1) ∧ σ' 3 = (.int .i64 p.2)) → Q .ret σ' H) , W Tryz.prog (.loop ac14_b1) Q σ H := by
  intro k
  induction k with
  | zero => intro e_0 up_9 place_10 t_58 t_59 σ0 σ H f0 sl o h Q q0 q1; simp only [t_CheckExpr_b1, reduceCtorEq] at h
  | succ k ih =>
    intro e_0 up_9 place_10 t_58 t_59 σ0 σ H f0 sl o h Q q0 q1
    obtain ⟨s0, s9, s10, s58, s59⟩ := sl
    unfold t_CheckExpr_b1 at h
    refine W_loopK (fun K hK => W_start ?_)
    unfold ac14_b1
    rcases cond_E h with ⟨e52, h⟩ | ⟨e52, h⟩
    ·obtain ⟨p54, e53, h⟩ := bind_E h
     try refine go_ ?_
     refine mcall_pure (t_isLost_c e53) ?_
     rcases cond_E h with ⟨e55, h⟩ | ⟨e55, h⟩
     ·obtain rfl := som_E h
      try refine go_ ?_
      exact q1 _ _ rfl fr_ sl_
     ·try refine go_ ?_
      refine hK _ _ ?_
      exact ih e_0 up_9 place_10 t_58 (IntKind.wrap .i64 (t_59 + 1)) _ _ _ fr_ sl_ _ h _ q0 q1
    ·obtain rfl := som_E h
     try refine go_ ?_
     exact q0 _ _ rfl fr_
def t_CheckExpr (k : Nat) (e_0 : List Nd) : Option (Int × Int) :=
  Option.bind (t_wrong ((e_0.length : Int) == 0) 1) fun p2 => Option.bind (t_wrong (decide ((e_0.length : Int) > 160)) 2) fun p4 => Option.bind (g_Or_api_Errno k [p2, p4]) fun p6 => cond (p6 != 0) (some (0, p6)) (Option.bind (t_CheckExpr_b0 k e_0 ([] : List Int) (e_0.length : Int) 0) (fun o => Sum.elim (fun p40 => Option.bind (t_parents k e_0) fun p51 => Option.bind (t_CheckExpr_b1 k e_0 p51.1 p51.2 (e_0.length : Int) 0) (fun o => Sum.elim (fun p58 => if 0 ≤ (IntKind.wrap .i64 ((e_0.length : Int) - 1)) then Option.bind (p40[(IntKind.wrap .i64 ((e_0.length : Int) - 1)).toNat]?) fun x65 => cond (x65 != 0) (some ((IntKind.wrap .i64 ((e_0.length : Int) - 1)), 15)) (some (0, 0)) else none) (fun p74 => some (p74.1, p74.2)) o)) (fun p80 => some (p80.1, p80.2)) o))
theorem t_CheckExpr_c {k : Nat} {e_0 : List Nd} {c0 : Ck} {r : Int × Int} (h : t_CheckExpr k e_0 = some r) : PCall Tryz.prog 14 [(.isl (e_0.map Nd.cells) c0)] (.tup [(.int .i64 r.1), (.int .i64 r.2)]) := by
  refine PCall.lw (.isl .nil) (PCall.of_empty (PuL.mem (.cons (pu_sl Nd.pu _) .nil)) (MCall_of_W ok14 (by simp) (W_start ?_)) (.tup _ (PuL.mem (.cons (.int _ _) (.cons (.int _ _) .nil)))))
  unfold t_CheckExpr at h
  unfold ac14
  obtain ⟨p2, e1, h⟩ := bind_E h
  try refine go_ ?_
  refine mcall_pure (t_wrong_c e1) ?_
  obtain ⟨p4, e3, h⟩ := bind_E h
  try refine go_ ?_
  refine mcall_pure (t_wrong_c e3) ?_
  obtain ⟨p6, e5, h⟩ := bind_E h
  try refine go_ ?_
  refine mcall_pure (g_Or_api_Errno_c e5) ?_
  rcases cond_E h with ⟨e7, h⟩ | ⟨e7, h⟩
  ·obtain rfl := som_E h
   try refine go_ ?_
   exact (fz_tup (.cons (.pure _ (.int _ _)) (.cons (.pure _ (.int _ _)) .nil)))
  ·try refine go_ ?_
   obtain ⟨o38, h39, h⟩ := bind_E h
   refine t_CheckExpr_b0_W k (.isl [] .nil) [] ([] ++ []) e_0 ([] : List Int) (e_0.length : Int) 0 _ _ _ _ (Fr.refl _ _) (HF.refl _ _) sl_ (by repeat (first | exact RowN.nil | apply RowN.new | refine RowN.put ?_ (fun hm => by have := RowN.lt RowN.nil _ hm; omega))) (fun i hi => Or.inl (by simp only [List.mem_append, List.mem_cons, hi, true_or, or_true])) _ h39 _ ?_ ?_
   ·rintro p40 v44 ids45 σ' H43 eo fr41 hf42 s48 r46 nw47
    subst eo
    rw [sum_L] at h
    have s49 : σ' 0 = (.isl (e_0.map Nd.cells) .unk) := (fr41 0 (by decide)).trans sl_
    have le := hf42.1
    try simp only [AH.new_next, AH.put_next, AH.tok_next, AH.use_next] at le
    obtain ⟨p51, e50, h⟩ := bind_E h
    try refine go_ ?_
    refine mcall_pure (t_parents_c e50) ?_
    try refine go_ ?_
    obtain ⟨o56, h57, h⟩ := bind_E h
    refine t_CheckExpr_b1_W k e_0 p51.1 p51.2 (e_0.length : Int) 0 _ _ _ (Fr.refl _ _) sl_ _ h57 _ ?_ ?_
    ·rintro p58 σ' eo fr59
     subst eo
     rw [sum_L] at h
     have s62 : σ' 5 = v44 := (fr59 5 (by decide)).trans sl_
     have s63 : σ' 8 = (.int .i64 (IntKind.wrap .i64 ((e_0.length : Int) - 1))) := (fr59 8 (by decide)).trans sl_
     obtain ⟨e64, h⟩ := if_E h
     obtain ⟨x65, e66, h⟩ := bind_E h
     obtain ⟨w67, w68, hidw67, hil, w69, hC, hL, hD, hI⟩ := RowN.content r46 e66
     have w70 := ne_next hil
     have w71 := ne_add hil
     have w72 : idxPV 1 v44 (.int .i64 (IntKind.wrap .i64 ((e_0.length : Int) - 1))) = some (.ref w67 ((IntKind.wrap .i64 ((e_0.length : Int) - 1)).toNat)) := by simpa using hI .i64 (IntKind.wrap .i64 ((e_0.length : Int) - 1)) (by first | omega | decide) (by first | rfl | omega)
     have w67c0 : w68[(IntKind.wrap .i64 ((e_0.length : Int) - 1)).toNat]? = some (.int .i64 x65) := by simpa using hC 0 _ rfl
     clear hC hL hD hI
     rcases cond_E h with ⟨e73, h⟩ | ⟨e73, h⟩
     ·obtain rfl := som_E h
      try refine go_ ?_
      exact (fz_tup (.cons (.pure _ (.int _ _)) (.cons (.pure _ (.int _ _)) .nil)))
     ·obtain rfl := som_E h
      try refine go_ ?_
      exact (fz_tup (.cons (.pure _ (.int _ _)) (.cons (.pure _ (.int _ _)) .nil)))
    ·rintro p74 σ' eo fr75 ⟨s78, s79⟩
     subst eo
     rw [sum_R] at h
     obtain rfl := som_E h
     try refine go_ ?_
     exact (fz_tup (.cons (.pure _ (.int _ _)) (.cons (.pure _ (.int _ _)) .nil)))
   ·rintro p80 σ' H83 eo fr81 hf82 ⟨s84, s85⟩
    subst eo
    rw [sum_R] at h
    have le := hf82.1
    try simp only [AH.new_next, AH.put_next, AH.tok_next, AH.use_next] at le
    obtain rfl := som_E h
    try refine go_ ?_
    exact (fz_tup (.cons (.pure _ (.int _ _)) (.cons (.pure _ (.int _ _)) .nil)))
def t_exprErr (k : Nat) (e_0 : List Nd) : Option Int :=
  Option.bind (t_CheckExpr k e_0) fun p2 => some p2.2
theorem t_exprErr_c {k : Nat} {e_0 : List Nd} {c0 : Ck} {r : Int} (h : t_exprErr k e_0 = some r) : PCall Tryz.prog 58 [(.isl (e_0.map Nd.cells) c0)] (.int .i64 r) := by
  refine PCall.lw (.isl .nil) (PCall.of_empty (PuL.mem (.cons (pu_sl Nd.pu _) .nil)) (MCall_of_W ok58 (by simp) (W_start ?_)) (.int _ _))
  unfold t_exprErr at h
  unfold ac58
  obtain ⟨p2, e1, h⟩ := bind_E h
  try refine gos_ ?_
  refine mcall_pure (t_CheckExpr_c e1) ?_
  obtain rfl := som_E h
  try refine gos_ ?_
  exact (.pure _ (.int _ _))
end Go.VL
end
section
namespace Go.VL
theorem opIn_none {l : List Operator} {t : Str} (h : ¬ t ∈ l.map (·.text)) : opIn l t = (opNone, false) := by
  induction l with
  | nil => rfl
  | cons o l ih =>
    simp only [List.map_cons, List.mem_cons, not_or] at h
    rw [opIn, if_neg (fun e => h.1 e.symm), ih h.2]
theorem opLR (t : Str) : opIn tabL t = opIn tabR t := by
  have h1 : ((tabL.map (·.text)).all fun t => decide (opIn tabL t = opIn tabR t)) = true := by kernel_rfl
  have h2 : ((tabR.map (·.text)).all fun t => decide (t ∈ tabL.map (·.text))) = true := by kernel_rfl
  by_cases h : t ∈ tabL.map (·.text)
  · exact of_decide_eq_true (List.all_eq_true.1 h1 t h)
  · rw [opIn_none h, opIn_none (fun h' => h (of_decide_eq_true (List.all_eq_true.1 h2 t h')))]
theorem tabL_len : tabL.length = 42 := by kernel_rfl
theorem t_operatorOf_ev (t : Str) : Ev (fun k => t_operatorOf k t) (opIn tabR t) := by
  rw [← opLR]
  have hl : tabL.length ≤ 1099511627776 := by rw [tabL_len]; omega
  have key : ∃ o : Unit ⊕ Int, Ev (fun k => g_IndexFunc_api_Operator_api_Operator_at112_b0 k tabL t (tabL.length : Int) ((0 : Nat) : Int)) o ∧ ((o = .inl () ∧ opIn (tabL.drop 0) t = (opNone, false)) ∨ ∃ (j : Nat) (x : Operator), o = .inr (j : Int) ∧ tabL[j]? = some x ∧ opIn (tabL.drop 0) t = (x, true)) := by
    refine down0 (len := tabL.length) (p := fun i => ∃ o : Unit ⊕ Int, Ev (fun k => g_IndexFunc_api_Operator_api_Operator_at112_b0 k tabL t (tabL.length : Int) (i : Int)) o ∧ ((o = .inl () ∧ opIn (tabL.drop i) t = (opNone, false)) ∨ ∃ (j : Nat) (x : Operator), o = .inr (j : Int) ∧ tabL[j]? = some x ∧ opIn (tabL.drop i) t = (x, true))) ?_ fun i hi ⟨o, ih, ho⟩ => ?_
    · refine ⟨.inl (), Ev.succ ?_, .inl ⟨rfl, by simp [opIn]⟩⟩
      simp only [g_IndexFunc_api_Operator_api_Operator_at112_b0]
      exact Ev.cF (dnlt _) Ev.some
    · by_cases h : tabL[i].text = t
      · refine ⟨.inr (i : Int), Ev.succ ?_, .inr ⟨i, tabL[i], rfl, getE hi, by rw [drop_cons hi, opIn, if_pos h]⟩⟩
        simp only [g_IndexFunc_api_Operator_api_Operator_at112_b0, t_operatorOf_1, Int.toNat_natCast, getE hi, Option.bind_some, nn, if_true, dlt hi, cond_true, wsucc hi hl]
        exact Ev.cT (by rw [beq_iff_eq]; exact h) Ev.some
      · refine ⟨o, Ev.succ ?_, by rw [drop_cons hi, opIn, if_neg h]; exact ho⟩
        simp only [g_IndexFunc_api_Operator_api_Operator_at112_b0, t_operatorOf_1, Int.toNat_natCast, getE hi, Option.bind_some, nn, if_true, dlt hi, cond_true, wsucc hi hl]
        exact Ev.cF (by rw [beq_eq_false_iff_ne]; exact h) ih
  obtain ⟨o, h1, h2⟩ := key
  rw [List.drop_zero] at h2
  unfold t_operatorOf g_IndexFunc_api_Operator_api_Operator_at112
  rcases h2 with ⟨rfl, h2⟩ | ⟨j, x, rfl, h3, h2⟩
  · refine Ev.bind (x := -1) (Ev.bind h1 Ev.some) ?_
    rw [h2]
    exact Ev.cT (by decide) Ev.some
  · refine Ev.bind (x := (j : Int)) (Ev.bind h1 Ev.some) ?_
    rw [h2]
    simp only [Int.toNat_natCast, h3, Option.bind_some, nn, if_true]
    exact Ev.cF (decide_eq_false (by omega)) Ev.some
end Go.VL
end
section
namespace Go.VL
theorem strLt_iff : ∀ a b : Str, strLt a b = true ↔ a < b
  | [], [] => by simp [strLt]
  | a :: x, [] => by simp [strLt]
  | [], b :: y => by simp [strLt]
  | a :: x, b :: y => by
    rw [strLt, List.cons_lt_cons_iff, Bool.or_eq_true, Bool.and_eq_true, decide_eq_true_eq, beq_iff_eq, strLt_iff x y]
theorem tri (a b : Str) : a < b ∨ a = b ∨ b < a := by
  rcases List.le_total a b with h | h
  · by_cases e : a = b
    · exact .inr (.inl e)
    · by_cases h2 : a < b
      · exact .inl h2
      · exact absurd (List.le_antisymm h (List.not_lt.1 h2)) e
  · by_cases e : a = b
    · exact .inr (.inl e)
    · by_cases h2 : b < a
      · exact .inr (.inr h2)
      · exact absurd (List.le_antisymm (List.not_lt.1 h2) h) e
def putS (s : Str) : List Str → List Str
  | [] => [s]
  | x :: l => if strLt x s = true then x :: putS s l else if x = s then x :: l else s :: x :: l
def setS (l : List Str) : List Str := l.foldl (fun a s => putS s a) []
theorem mem_putS {s y : Str} : ∀ {l : List Str}, y ∈ putS s l ↔ y = s ∨ y ∈ l
  | [] => by simp [putS]
  | x :: l => by
    rw [putS]
    split
    · simp only [List.mem_cons, mem_putS (l := l)]
      constructor
      · rintro (h | h | h) <;> simp [h]
      · rintro (h | h | h) <;> simp [h]
    · split
      · rename_i h; subst h; simp
      · simp
theorem asc_putS {s : Str} : ∀ {l : List Str}, l.Pairwise (· < ·) → (putS s l).Pairwise (· < ·)
  | [], _ => by simp [putS]
  | x :: l, h => by
    rw [putS]
    obtain ⟨h1, h2⟩ := List.pairwise_cons.1 h
    split
    · rename_i hx
      refine List.pairwise_cons.2 ⟨fun y hy => ?_, asc_putS h2⟩
      rcases mem_putS.1 hy with rfl | hy
      · exact (strLt_iff _ _).1 hx
      · exact h1 y hy
    · rename_i hx
      split
      · exact h
      · rename_i hne
        have hlt : s < x := by
          rcases tri s x with h | h | h
          · exact h
          · exact absurd h.symm hne
          · exact absurd ((strLt_iff _ _).2 h) hx
        refine List.pairwise_cons.2 ⟨fun y hy => ?_, h⟩
        rcases List.mem_cons.1 hy with rfl | hy
        · exact hlt
        · exact List.lt_trans hlt (h1 y hy)
theorem setS_acc : ∀ (l a : List Str), a.Pairwise (· < ·) → (l.foldl (fun a s => putS s a) a).Pairwise (· < ·) ∧ ∀ y, y ∈ l.foldl (fun a s => putS s a) a ↔ y ∈ l ∨ y ∈ a
  | [], a, h => ⟨h, fun y => by simp⟩
  | s :: l, a, h => by
    obtain ⟨h1, h2⟩ := setS_acc l (putS s a) (asc_putS h)
    refine ⟨h1, fun y => ?_⟩
    rw [List.foldl_cons, h2 y, mem_putS, List.mem_cons]
    constructor
    · rintro (h | h | h) <;> simp [h]
    · rintro ((h | h) | h) <;> simp [h]
theorem setS_asc (l : List Str) : (setS l).Pairwise (· < ·) := (setS_acc l [] List.Pairwise.nil).1
theorem setS_mem {l : List Str} {y : Str} : y ∈ setS l ↔ y ∈ l := by rw [setS, (setS_acc l [] List.Pairwise.nil).2 y]; simp
theorem asc_uniq {l m : List Str} (hl : l.Pairwise (· < ·)) (hm : m.Pairwise (· < ·)) (h : ∀ y, y ∈ l ↔ y ∈ m) : l = m := by
  have nd : ∀ {l : List Str}, l.Pairwise (· < ·) → l.Nodup := fun h => h.imp (S := fun a b => a ≠ b) fun {a b} hab e => List.lt_irrefl a (by rw [← e] at hab; exact hab)
  have hp : l.Perm m := (List.perm_ext_iff_of_nodup (nd hl) (nd hm)).2 h
  exact List.Perm.eq_of_pairwise (le := (· < ·)) (fun a b _ _ h1 h2 => absurd (List.lt_trans h1 h2) (List.lt_irrefl a)) hl hm hp
theorem compactUpTo_spec (d : Array Str) (hd : ∀ i j, i < j → j < d.size → d[i]! ≤ d[j]!) : ∀ m, m ≤ d.size → (Lib.compactUpTo d m).Pairwise (· < ·) ∧ (∀ x ∈ Lib.compactUpTo d m, ∃ j, j < m ∧ x = d[j]!) ∧ (∀ j, j < m → d[j]! ∈ Lib.compactUpTo d m)
  | 0, _ => ⟨List.Pairwise.nil, fun x h => (by simp [Lib.compactUpTo] at h), fun j h => absurd h (Nat.not_lt_zero _)⟩
  | m + 1, hm => by
    obtain ⟨h1, h2, h3⟩ := compactUpTo_spec d hd m (by omega)
    rw [Lib.compactUpTo_succ]
    cases hk : Lib.keeps d m with
    | true =>
      rw [if_pos rfl]
      refine ⟨List.pairwise_append.2 ⟨h1, List.pairwise_singleton _ _, fun a ha b hb => ?_⟩, fun x hx => ?_, fun j hj => ?_⟩
      · rw [List.mem_singleton] at hb
        subst hb
        obtain ⟨j, hj, rfl⟩ := h2 a ha
        have hne : d[m]! ≠ d[m - 1]! := by
          unfold Lib.keeps at hk
          rw [decide_eq_true_eq] at hk
          rcases hk with h | h
          · omega
          · exact h
        have h4 : d[j]! ≤ d[m - 1]! := by
          by_cases e : j = m - 1
          · rw [e]; exact List.le_refl _
          · exact hd j (m - 1) (by omega) (by omega)
        have h5 : d[m - 1]! ≤ d[m]! := hd (m - 1) m (by omega) (by omega)
        have h6 : d[m - 1]! < d[m]! := by
          rcases tri d[m - 1]! d[m]! with h | h | h
          · exact h
          · exact absurd h.symm hne
          · exact absurd (List.le_antisymm h5 (List.le_of_lt h)).symm hne
        rcases tri d[j]! d[m]! with h | h | h
        · exact h
        · rw [h] at h4
          exact absurd (List.le_antisymm h4 h5) hne
        · have h7 := List.lt_trans h6 h
          exact absurd (List.le_antisymm h4 (List.le_of_lt h7)) (fun e => List.lt_irrefl _ (e ▸ h7))
      · rcases List.mem_append.1 hx with hx | hx
        · obtain ⟨j, hj, e⟩ := h2 x hx; exact ⟨j, by omega, e⟩
        · rw [List.mem_singleton] at hx; exact ⟨m, Nat.lt_succ_self _, hx⟩
      · by_cases e : j = m
        · subst e; exact List.mem_append_right _ (List.mem_singleton.2 rfl)
        · exact List.mem_append_left _ (h3 j (by omega))
    | false =>
      rw [if_neg (by simp), List.append_nil]
      refine ⟨h1, fun x hx => ?_, fun j hj => ?_⟩
      · obtain ⟨j, hj, e⟩ := h2 x hx; exact ⟨j, by omega, e⟩
      · by_cases e : j = m
        · subst e
          unfold Lib.keeps at hk
          rw [decide_eq_false_iff_not, not_or, Decidable.not_not] at hk
          rw [hk.2]
          exact h3 (j - 1) (by omega)
        · exact h3 j (by omega)
theorem compact_sort (l : List Str) : Lib.compact (l.mergeSort fun x y => decide (x ≤ y)) = setS l := by
  have tr : ∀ a b c : Str, decide (a ≤ b) = true → decide (b ≤ c) = true → decide (a ≤ c) = true := fun a b c h1 h2 => by simp only [decide_eq_true_eq] at *; exact List.le_trans h1 h2
  have tot : ∀ a b : Str, (decide (a ≤ b) || decide (b ≤ a)) = true := fun a b => by simp only [Bool.or_eq_true, decide_eq_true_eq]; exact List.le_total a b
  have hs := List.pairwise_mergeSort (le := fun x y : Str => decide (x ≤ y)) tr tot l
  have hp := List.mergeSort_perm l (fun x y : Str => decide (x ≤ y))
  generalize (l.mergeSort fun x y => decide (x ≤ y)) = m at hs hp
  have hd : ∀ i j, i < j → j < m.toArray.size → m.toArray[i]! ≤ m.toArray[j]! := fun i j hij hj => by
    have hj' : j < m.length := by simpa using hj
    have := List.pairwise_iff_getElem.1 hs i j (by omega) hj' hij
    rw [decide_eq_true_eq] at this
    simp [hj', show i < m.length by omega]
    exact this
  obtain ⟨h1, h2, h3⟩ := compactUpTo_spec m.toArray hd m.length (by simp)
  refine asc_uniq h1 (setS_asc l) fun y => ?_
  rw [setS_mem, ← hp.mem_iff]
  constructor
  · intro h
    obtain ⟨j, hj, rfl⟩ := h2 y h
    simp [hj]
  · intro h
    obtain ⟨j, hj, rfl⟩ := List.getElem_of_mem h
    have := h3 j hj
    unfold Lib.compact
    simpa [hj] using this
end Go.VL
end
section
set_option maxRecDepth 8000
set_option maxHeartbeats 4000000
namespace Go.VL
open Go.Proofs
def r_Put_b0 : Nat → (List Str) → Str → Int → Option Int
  | 0, _, _, _ => none
  | k + 1, l_0, s_1, at_5 =>
    cond (decide (at_5 < (l_0.length : Int))) (if 0 ≤ at_5 then Option.bind (l_0[at_5.toNat]?) fun x3 => cond (strLt x3 s_1) (r_Put_b0 k l_0 s_1 (IntKind.wrap .i64 (at_5 + 1))) (some (at_5)) else none) (some (at_5))
def r_Put_b0l : List Nat := [5] ++ List.range' 7 14
theorem r_Put_b0_W : ∀ (k : Nat) (l_0 : List Str) (s_1 : Str) (at_5 : Int) (σ0 σ : Nat → PV) (H : AH) (f0 : Fr r_Put_b0l σ0 σ) (sl : σ 0 = (.isl (l_0.map strL) .unk) ∧ σ 1 = (.str s_1) ∧ σ 5 = (.int .i64 at_5)) (o : Int) (h : r_Put_b0 k l_0 s_1 at_5 = some o) (Q : Post) (q0 : ∀ (p : Int) (σ' : Nat → PV), o = p → Fr r_Put_b0l σ0 σ' → (σ' 5 = (.int .i64 p)) → Q (.exit 0) σ' H) , W Tryz.prog (.loop ac67_b0) Q σ H := by
  intro k
  induction k with
  | zero => intro l_0 s_1 at_5 σ0 σ H f0 sl o h Q q0; simp only [r_Put_b0, reduceCtorEq] at h
  | succ k ih =>
    intro l_0 s_1 at_5 σ0 σ H f0 sl o h Q q0
    obtain ⟨s0, s1, s5⟩ := sl
    unfold r_Put_b0 at h
    refine W_loopK (fun K hK => W_start ?_)
    unfold ac67_b0
    rcases cond_E h with ⟨e1, h⟩ | ⟨e1, h⟩
    ·obtain ⟨e2, h⟩ := if_E h
     obtain ⟨x3, e4, h⟩ := bind_E h
     rcases cond_E h with ⟨e5, h⟩ | ⟨e5, h⟩
     ·try refine gos_ ?_
      refine hK _ _ ?_
      exact ih l_0 s_1 (IntKind.wrap .i64 (at_5 + 1)) _ _ _ fr_ sls_ _ h _ q0
     ·obtain rfl := som_E h
      try refine gos_ ?_
      exact q0 _ _ rfl fr_ sls_
    ·obtain rfl := som_E h
     try refine gos_ ?_
     exact q0 _ _ rfl fr_ sls_
def r_Put (k : Nat) (l_0 : List Str) (s_1 : Str) : Option (List Str) :=
  Option.bind (r_Put_b0 k l_0 s_1 0) (fun p8 => cond (decide (p8 < (l_0.length : Int))) (if 0 ≤ p8 then Option.bind (l_0[p8.toNat]?) fun x17 => cond (x17 == s_1) (some l_0) (if 0 ≤ p8 ∧ p8.toNat ≤ l_0.length then if (([] : List Str).length + (l_0.take p8.toNat).length) * 16 ≤ 1099511627776 then if ((([] : List Str) ++ (l_0.take p8.toNat)).length + 1) * 16 ≤ 1099511627776 then if (((([] : List Str) ++ (l_0.take p8.toNat)) ++ [s_1]).length + (l_0.drop p8.toNat).length) * 16 ≤ 1099511627776 then some (((([] : List Str) ++ (l_0.take p8.toNat)) ++ [s_1]) ++ (l_0.drop p8.toNat)) else none else none else none else none) else none) (if 0 ≤ p8 ∧ p8.toNat ≤ l_0.length then if (([] : List Str).length + (l_0.take p8.toNat).length) * 16 ≤ 1099511627776 then if ((([] : List Str) ++ (l_0.take p8.toNat)).length + 1) * 16 ≤ 1099511627776 then if (((([] : List Str) ++ (l_0.take p8.toNat)) ++ [s_1]).length + (l_0.drop p8.toNat).length) * 16 ≤ 1099511627776 then some (((([] : List Str) ++ (l_0.take p8.toNat)) ++ [s_1]) ++ (l_0.drop p8.toNat)) else none else none else none else none))
theorem r_Put_c {k : Nat} {l_0 : List Str} {s_1 : Str} {c0 : Ck} {r : List Str} (h : r_Put k l_0 s_1 = some r) : PCall Tryz.prog 67 [(.isl (l_0.map strL) c0), (.str s_1)] (.isl (r.map strL) .unk) := by
  refine PCall.lw (.isl (.same .nil)) (PCall.of_empty (PuL.mem (.cons (pu_sl pu_strL _) (.cons (.str _) .nil))) (MCall_of_W ok67 (by simp) (W_start ?_)) (pu_sl pu_strL _))
  unfold r_Put at h
  unfold ac67
  try refine gos_ ?_
  obtain ⟨o6, h7, h⟩ := bind_E h
  refine r_Put_b0_W k l_0 s_1 0 _ _ _ (Fr.refl _ _) sls_ _ h7 _ ?_
  ·rintro p8 σ' eo fr9 s12
   rw [eo] at h
   have s13 : σ' 0 = (.isl (l_0.map strL) .unk) := (fr9 0 (by decide)).trans sls_
   have s14 : σ' 1 = (.str s_1) := (fr9 1 (by decide)).trans sls_
   rcases cond_E h with ⟨e15, h⟩ | ⟨e15, h⟩
   ·obtain ⟨e16, h⟩ := if_E h
    obtain ⟨x17, e18, h⟩ := bind_E h
    rcases cond_E h with ⟨e19, h⟩ | ⟨e19, h⟩
    ·obtain rfl := som_E h
     try refine gos_ ?_
     exact (fz_sl pu_strL _ _)
    ·obtain ⟨e20, h⟩ := if_E h
     try refine gos_ ?_
     refine MCall_of_W ok52 (by simp) (W_start ?_)
     unfold ac52
     obtain ⟨e26, h⟩ := if_E h
     try refine gos_ ?_
     refine WO_app (f := strL) row_str ([] : List Str) ((l_0.take p8.toNat) : List Str) .exact .unk sls_ sls_ ok_ (by first | exact e26 | (simp only [List.length_cons, List.length_nil] ; exact e26)) (fun c22 H23 ok24 le ob27 rl25 => ?_)
     have hf28 : HF [] _ H23 := ⟨le, fun i _ _ => ob27 i⟩
     try simp only [AH.new_next, AH.put_next, AH.tok_next, AH.use_next] at le
     obtain ⟨e33, h⟩ := if_E h
     try refine gos_ ?_
     refine WO_app (f := strL) row_str (([] : List Str) ++ (l_0.take p8.toNat)) ([s_1] : List Str) c22 .exact sls_ sls_ ok_ (by first | exact e33 | (simp only [List.length_cons, List.length_nil] ; exact e33)) (fun c29 H30 ok31 le ob34 rl32 => ?_)
     have hf35 : HF [] _ H30 := ⟨le, fun i _ _ => ob34 i⟩
     try simp only [AH.new_next, AH.put_next, AH.tok_next, AH.use_next] at le
     obtain ⟨e40, h⟩ := if_E h
     try refine gos_ ?_
     refine WO_app (f := strL) row_str ((([] : List Str) ++ (l_0.take p8.toNat)) ++ [s_1]) ((l_0.drop p8.toNat) : List Str) c29 .unk sls_ sls_ ok_ (by first | exact e40 | (simp only [List.length_cons, List.length_nil] ; exact e40)) (fun c36 H37 ok38 le ob41 rl39 => ?_)
     have hf42 : HF [] _ H37 := ⟨le, fun i _ _ => ob41 i⟩
     try simp only [AH.new_next, AH.put_next, AH.tok_next, AH.use_next] at le
     obtain rfl := som_E h
     try refine gos_ ?_
     exact (fz_sl pu_strL _ _)
   ·obtain ⟨e43, h⟩ := if_E h
    try refine gos_ ?_
    refine MCall_of_W ok52 (by simp) (W_start ?_)
    unfold ac52
    obtain ⟨e49, h⟩ := if_E h
    try refine gos_ ?_
    refine WO_app (f := strL) row_str ([] : List Str) ((l_0.take p8.toNat) : List Str) .exact .unk sls_ sls_ ok_ (by first | exact e49 | (simp only [List.length_cons, List.length_nil] ; exact e49)) (fun c45 H46 ok47 le ob50 rl48 => ?_)
    have hf51 : HF [] _ H46 := ⟨le, fun i _ _ => ob50 i⟩
    try simp only [AH.new_next, AH.put_next, AH.tok_next, AH.use_next] at le
    obtain ⟨e56, h⟩ := if_E h
    try refine gos_ ?_
    refine WO_app (f := strL) row_str (([] : List Str) ++ (l_0.take p8.toNat)) ([s_1] : List Str) c45 .exact sls_ sls_ ok_ (by first | exact e56 | (simp only [List.length_cons, List.length_nil] ; exact e56)) (fun c52 H53 ok54 le ob57 rl55 => ?_)
    have hf58 : HF [] _ H53 := ⟨le, fun i _ _ => ob57 i⟩
    try simp only [AH.new_next, AH.put_next, AH.tok_next, AH.use_next] at le
    obtain ⟨e63, h⟩ := if_E h
    try refine gos_ ?_
    refine WO_app (f := strL) row_str ((([] : List Str) ++ (l_0.take p8.toNat)) ++ [s_1]) ((l_0.drop p8.toNat) : List Str) c52 .unk sls_ sls_ ok_ (by first | exact e63 | (simp only [List.length_cons, List.length_nil] ; exact e63)) (fun c59 H60 ok61 le ob64 rl62 => ?_)
    have hf65 : HF [] _ H60 := ⟨le, fun i _ _ => ob64 i⟩
    try simp only [AH.new_next, AH.put_next, AH.tok_next, AH.use_next] at le
    obtain rfl := som_E h
    try refine gos_ ?_
    exact (fz_sl pu_strL _ _)
end Go.VL
end
section
set_option maxRecDepth 8000
set_option maxHeartbeats 4000000
namespace Go.VL
open Go.Proofs
def r_Operators_b0 : Nat → (List Str) → (List Operator) → Int → Option (List Str)
  | 0, _, _, _ => none
  | k + 1, out_1, t_2, i_3 =>
    cond (decide (i_3 < (t_2.length : Int))) (if 0 ≤ i_3 then Option.bind (t_2[i_3.toNat]?) fun x5 => Option.bind (r_Put k out_1 x5.text) fun p8 => r_Operators_b0 k p8 t_2 (IntKind.wrap .i64 (i_3 + 1)) else none) (some (out_1))
def r_Operators_b0l : List Nat := [1, 3] ++ List.range' 5 13
theorem r_Operators_b0_W : ∀ (k : Nat) (out_1 : List Str) (t_2 : List Operator) (i_3 : Int) (c_out_1_b0 : Ck) (σ0 σ : Nat → PV) (H : AH) (f0 : Fr r_Operators_b0l σ0 σ) (sl : σ 1 = (.isl (out_1.map strL) c_out_1_b0) ∧ σ 2 = (.isl (t_2.map Operator.cells) .unk) ∧ σ 3 = (.int .i64 i_3)) (o : List Str) (h : r_Operators_b0 k out_1 t_2 i_3 = some o) (Q : Post) (q0 : ∀ (p : List Str) (c0 : Ck) (σ' : Nat → PV), o = p → Fr r_Operators_b0l σ0 σ' → (σ' 1 = (.isl (p.map strL) c0)) → Q (.exit 0) σ' H) , W Tryz.prog (.loop ac30_b0) Q σ H := by
  intro k
  induction k with
  | zero => intro out_1 t_2 i_3 c_out_1_b0 σ0 σ H f0 sl o h Q q0; simp only [r_Operators_b0, reduceCtorEq] at h
  | succ k ih =>
    intro out_1 t_2 i_3 c_out_1_b0 σ0 σ H f0 sl o h Q q0
    obtain ⟨s1, s2, s3⟩ := sl
    unfold r_Operators_b0 at h
    refine W_loopK (fun K hK => W_start ?_)
    unfold ac30_b0
    rcases cond_E h with ⟨e3, h⟩ | ⟨e3, h⟩
    ·obtain ⟨e4, h⟩ := if_E h
     obtain ⟨x5, e6, h⟩ := bind_E h
     obtain ⟨p8, e7, h⟩ := bind_E h
     try refine gos_ ?_
     refine mcall_pure (r_Put_c e7) ?_
     try refine gos_ ?_
     refine hK _ _ ?_
     exact ih p8 t_2 (IntKind.wrap .i64 (i_3 + 1)) .unk _ _ _ fr_ sls_ _ h _ q0
    ·obtain rfl := som_E h
     try refine gos_ ?_
     exact q0 _ c_out_1_b0 _ rfl fr_ sls_
def r_Operators (k : Nat) : Option (List Str) :=
  Option.bind (r_Table k ) fun p2 => Option.bind (r_Operators_b0 k ([] : List Str) p2 0) (fun p11 => some p11)
theorem r_Operators_c {k : Nat} {r : List Str} (h : r_Operators k = some r) : PCall Tryz.prog 30 [] (.isl (r.map strL) .unk) := by
  refine PCall.of_empty (PuL.mem .nil) (MCall_of_W ok30 (by simp) (W_start ?_)) (pu_sl pu_strL _)
  unfold r_Operators at h
  unfold ac30
  obtain ⟨p2, e1, h⟩ := bind_E h
  try refine gos_ ?_
  refine mcall_pure (r_Table_c e1) ?_
  try refine gos_ ?_
  obtain ⟨o9, h10, h⟩ := bind_E h
  refine r_Operators_b0_W k ([] : List Str) p2 0 .nil _ _ _ (Fr.refl _ _) sls_ _ h10 _ ?_
  ·rintro p11 c15 σ' eo fr12 s16
   rw [eo] at h
   obtain rfl := som_E h
   try refine gos_ ?_
   exact (fz_sl pu_strL _ _)
end Go.VL
end
section
namespace Go.VL
def nB (s : Str) : List Str → Nat
  | [] => 0
  | x :: l => if strLt x s = true then nB s l + 1 else 0
theorem nB_le (s : Str) : ∀ l, nB s l ≤ l.length
  | [] => Nat.le_refl _
  | x :: l => by
    rw [nB]
    split
    · have := nB_le s l; simp only [List.length_cons]; omega
    · omega
theorem putS_nB (s : Str) : ∀ l, putS s l = if l[nB s l]? = some s then l else l.take (nB s l) ++ s :: l.drop (nB s l)
  | [] => by simp [putS, nB]
  | x :: l => by
    rw [putS, nB]
    by_cases h : strLt x s = true
    · rw [if_pos h, if_pos h, putS_nB s l]
      simp only [List.getElem?_cons_succ, List.take_succ_cons, List.drop_succ_cons]
      split <;> rfl
    · rw [if_neg h, if_neg h]
      by_cases h2 : x = s
      · subst h2; simp
      · simp [h2]
theorem r_Put_b0_ev (l : List Str) (s : Str) (hl : l.length ≤ 1000000) : Ev (fun k => r_Put_b0 k l s ((0 : Nat) : Int)) (((0 + nB s (l.drop 0) : Nat) : Int)) := by
  refine down0 (len := l.length) (p := fun i => Ev (fun k => r_Put_b0 k l s (i : Int)) (((i + nB s (l.drop i) : Nat) : Int))) ?_ fun i hi ih => ?_
  · refine Ev.succ ?_
    simp only [r_Put_b0]
    exact Ev.cF (dnlt _) (Ev.some' (by simp [nB]))
  · refine Ev.succ ?_
    simp only [r_Put_b0, Int.toNat_natCast, getE hi, Option.bind_some, nn, if_true, dlt hi, cond_true, wsucc hi (show l.length ≤ 1099511627776 by omega)]
    rw [drop_cons hi, nB]
    by_cases h : strLt l[i] s = true
    · refine Ev.cT h (ih.to ?_)
      rw [if_pos h]
      omega
    · refine Ev.cF (by simpa using h) (Ev.some' ?_)
      rw [if_neg h]
      rfl
theorem r_Put_ev (l : List Str) (s : Str) (hl : l.length ≤ 1000000) : Ev (fun k => r_Put k l s) (putS s l) := by
  have h0 := r_Put_b0_ev l s hl
  rw [List.drop_zero, Nat.zero_add] at h0
  have hle := nB_le s l
  unfold r_Put
  refine Ev.bind h0 ?_
  rw [putS_nB]
  have e1 : (([] : List Str).length + (l.take (nB s l)).length) * 16 ≤ 1099511627776 := by simp; omega
  have e2 : ((([] : List Str) ++ (l.take (nB s l))).length + 1) * 16 ≤ 1099511627776 := by simp; omega
  have e3 : (((([] : List Str) ++ (l.take (nB s l))) ++ [s]).length + (l.drop (nB s l)).length) * 16 ≤ 1099511627776 := by simp; omega
  have e4 : (0 : Int) ≤ ((nB s l : Nat) : Int) ∧ nB s l ≤ l.length := ⟨by omega, hle⟩
  have tail : Ev (fun _ : Nat => if (0 : Int) ≤ ((nB s l : Nat) : Int) ∧ nB s l ≤ l.length then (if (([] : List Str).length + (l.take (nB s l)).length) * 16 ≤ 1099511627776 then (if ((([] : List Str) ++ (l.take (nB s l))).length + 1) * 16 ≤ 1099511627776 then (if (((([] : List Str) ++ (l.take (nB s l))) ++ [s]).length + (l.drop (nB s l)).length) * 16 ≤ 1099511627776 then some (((([] : List Str) ++ (l.take (nB s l))) ++ [s]) ++ (l.drop (nB s l))) else none) else none) else none) else none) (l.take (nB s l) ++ s :: l.drop (nB s l)) := by
    rw [if_pos e4, if_pos e1, if_pos e2, if_pos e3]
    exact Ev.some' (by simp)
  by_cases h : nB s l < l.length
  · simp only [Int.toNat_natCast, getE h, Option.bind_some, nn, if_true]
    refine Ev.cT (dlt h) ?_
    by_cases h2 : l[nB s l] = s
    · refine Ev.cT (by rw [beq_iff_eq]; exact h2) (Ev.some' ?_)
      rw [if_pos (by rw [h2])]
    · refine Ev.cF (by rw [beq_eq_false_iff_ne]; exact h2) ?_
      refine Ev.to ?_ (if_neg (fun e => h2 (Option.some.inj e))).symm
      simpa only [nn, true_and] using tail
  · have h2 : l[nB s l]? = none := List.getElem?_eq_none (by omega)
    simp only [Int.toNat_natCast]
    refine Ev.cF (decide_eq_false (by omega)) ?_
    exact Ev.to tail (if_neg (fun e => by rw [h2] at e; cases e)).symm
theorem putS_len (s : Str) (l : List Str) : (putS s l).length ≤ l.length + 1 := by
  rw [putS_nB]
  split
  · omega
  · have := nB_le s l; simp; omega
theorem r_Operators_ev : Ev (fun k => r_Operators k) (setS (tabR.map Operator.text)) := by
  have hlen : tabR.length = 42 := by kernel_rfl
  unfold r_Operators
  refine Ev.bind r_Table_ev ?_
  have key : ∀ i, i ≤ tabR.length → ∀ out : List Str, out.length ≤ i → Ev (fun k => r_Operators_b0 k out tabR (i : Int)) (((tabR.drop i).map Operator.text).foldl (fun a s => putS s a) out) := by
    refine down (fun out _ => ?_) fun i hi ih out ho => ?_
    · refine Ev.succ ?_
      simp only [r_Operators_b0]
      exact Ev.cF (dnlt _) (Ev.some' (by simp))
    · refine Ev.succ ?_
      simp only [r_Operators_b0, Int.toNat_natCast, getE hi, Option.bind_some, nn, if_true, dlt hi, cond_true, wsucc hi (show tabR.length ≤ 1099511627776 by omega)]
      refine Ev.bind (r_Put_ev _ _ (by omega)) ((ih _ (by have := putS_len tabR[i].text out; omega)).to ?_)
      rw [drop_cons hi, List.map_cons, List.foldl_cons]
  have := key 0 (Nat.zero_le _) [] (Nat.le_refl _)
  rw [List.drop_zero] at this
  exact Ev.bind this Ev.some
end Go.VL
end
section
namespace Go.VL
open Go.Proofs Go.RowKit
theorem slc_clip {α : Type} (f : α → List PV) (sz : Nat) [hr : RowF f sz] (l : List α) : slcPV sz (.isl (l.map f) .unk) none (some (.int .i64 (l.length : Int))) (some (.int .i64 (l.length : Int))) = some (.isl (l.map f) .exact) := by
  have hl : lenOk sz (l.map f) := fun cs h => by
    obtain ⟨x, _, rfl⟩ := List.mem_map.1 h
    exact hr.len x
  have h0 : (0 : Int) ≤ (l.length : Int) := by omega
  simp only [slcPV, natOf]
  rw [if_pos h0]
  simp only [Int.toNat_natCast, List.length_map, Option.isSome_some, and_true]
  rw [if_pos ⟨Nat.zero_le _, Nat.le_refl _, hl⟩]
  simp only [if_true]
  rw [List.take_of_length_le (by rw [List.length_map]; exact Nat.le_refl _), List.drop_zero]
theorem pu_exact (l : List Str) : Pu (.isl (l.map strL) .exact) := by
  have h := pu_sl pu_strL l
  cases h with
  | isl _ _ h1 h2 => exact .isl _ _ h1 (by simp)
theorem clip120_c (l : List Str) {c : Ck} : PCall Tryz.prog 120 [.isl (l.map strL) c] (.isl (l.map strL) .exact) := by
  refine PCall.wk (args := [.isl (l.map strL) .unk]) ?_ (.isl .nil)
  refine PCall.of_empty (PuL.mem (.cons (pu_sl pu_strL _) .nil)) (MCall_of_W ok120 (by simp) (W_start ?_)) (pu_exact l)
  unfold ac120
  simp -implicitDefEqProofs only [go_sem, ↓reduceIte, Nat.reduceEqDiff, List.length_map, slc_clip strL 1]
  first | done | exact .pure _ (pu_exact l)
end Go.VL
end
section
set_option maxRecDepth 8000
namespace Go.VL
open Go.Proofs
theorem dop_app {α : Type} {σ : Nat → PV} {H : AH} {sz b : Nat} {x y : AE} {f : α → List PV} (hf : ∀ x, rowLike sz (f x)) (xs ys : List α) (c c2 : Ck)
    (hx : x.ev σ = .isl (xs.map f) c) (hy : wk2 (y.ev σ) = .isl (ys.map f) c2) (hok : okc H c) (hb : (xs.length + ys.length) * b ≤ 1099511627776) :
    ∃ c' H', dop (.app sz b x y) σ H = some (.isl ((xs ++ ys).map f) c', H') ∧ okc H' c' ∧ H.next ≤ H'.next ∧ (∀ i, H'.obj i = H.obj i) ∧ (∀ c3, okc H c3 → Dis c c3 → okc H' c3 ∧ Dis c' c3) := by
  have h := WO_app (P := Tryz.prog) (s := []) (Q := fun e σ' H' => ∃ c', σ' = upd σ (some 0) (.isl ((xs ++ ys).map f) c') ∧ okc H' c' ∧ H.next ≤ H'.next ∧ (∀ i, H'.obj i = H.obj i) ∧ (∀ c3, okc H c3 → Dis c c3 → okc H' c3 ∧ Dis c' c3)) (d := some 0) (l := []) (H := H) hf xs ys c c2 hx hy hok hb
    (fun c' H' h1 h2 h3 h4 => ⟨c', rfl, h1, h2, h3, h4⟩)
  have h2 : WD Tryz.prog (dop (.app sz b x y) σ H) (some 0) [] [] (fun e σ' H' => ∃ c', σ' = upd σ (some 0) (.isl ((xs ++ ys).map f) c') ∧ okc H' c' ∧ H.next ≤ H'.next ∧ (∀ i, H'.obj i = H.obj i) ∧ (∀ c3, okc H c3 → Dis c c3 → okc H' c3 ∧ Dis c' c3)) σ := by
    have h3 : WO Tryz.prog (⟨some 0, .d (.app sz b x y), none⟩ :: []) [] _ σ H := h
    rw [WO, WOps_d] at h3
    revert h3
    cases dop (.app sz b x y) σ H with
    | none => intro h3; exact h3
    | some q => intro h3; exact h3
  revert h2
  cases dop (.app sz b x y) σ H with
  | none => intro h2; exact h2.elim
  | some q =>
    intro h2
    obtain ⟨c', e, h3⟩ := (h2 : ∃ c', upd σ (some 0) q.1 = upd σ (some 0) (.isl ((xs ++ ys).map f) c') ∧ okc q.2 c' ∧ H.next ≤ q.2.next ∧ (∀ i, q.2.obj i = H.obj i) ∧ (∀ c3, okc H c3 → Dis c c3 → okc q.2 c3 ∧ Dis c' c3))
    have e2 := congrFun e 0
    simp only [upd, if_true] at e2
    exact ⟨c', q.2, by rw [← e2], h3⟩
section
variable {α : Type}
def walkL (rec : Int → List Str → α → Option α) (n : Nd) (bound : List Str) : Nat → List Int → α → Option α
  | _, [], a => some a
  | i, op :: l, a => Option.bind (t_binds n (i : Int)) fun b => if (bound.length + b.length) * 16 ≤ 1099511627776 then Option.bind (rec op (bound ++ b) a) fun a' => walkL rec n bound (i + 1) l a' else none
def walkF (step : α → Int → List Str → Option α) (e : List Nd) : Nat → Int → List Str → α → Option α
  | 0, _, _, _ => none
  | k + 1, at_, bound, a => Option.bind (step a at_ bound) fun a' => if 0 ≤ at_ then Option.bind (e[at_.toNat]?) fun n => if n.args.length ≤ 1099511627776 then walkL (walkF step e k) n bound 0 n.args a' else none else none
structure Visit (g : FuncId) (caps : List PV) (S : α → AH → Prop) (step : α → Int → List Str → Option α) : Prop where
  stable : ∀ a H H', S a H → H.next ≤ H'.next → (∀ i, H'.obj i = H.obj i) → (∀ c, okc H c → okc H' c) → S a H'
  call : ∀ a at_ bound a' H, S a H → step a at_ bound = some a' → MCall Tryz.prog g (.int .i64 at_ :: .isl (bound.map strL) .unk :: caps) H fun _ H' => S a' H'
theorem walk_loop {g : FuncId} {caps : List PV} {S : α → AH → Prop} {step : α → Int → List Str → Option α} (hv : Visit g caps S step) (e : List Nd) (k : Nat)
    (ih : ∀ (at_ : Int) (bound : List Str) (a a' : α) (H : AH), S a H → walkF step e k at_ bound a = some a' → MCall Tryz.prog 70 [exprPV e, .int .i64 at_, strsPV bound, .fn (.func g) [] caps] H fun _ H' => S a' H')
    (at_ : Int) (bound : List Str) (n : Nd) (e2 : 0 ≤ at_) (e3 : e[at_.toNat]? = some n) (e4 : n.args.length ≤ 1099511627776) :
    ∀ (l : List Int) (i : Nat) (a a' : α) (σ : Nat → PV) (H : AH), l = n.args.drop i → i ≤ n.args.length → σ 0 = exprPV e → σ 1 = .int .i64 at_ → σ 2 = strsPV bound → σ 3 = .fn (.func g) [] caps → σ 18 = intsPV n.args → σ 19 = .int .i64 n.args.length → σ 20 = .int .i64 i →
      S a H → walkL (walkF step e k) n bound i l a = some a' → ∀ (Q : Post), (∀ σ' H', S a' H' → Q (.exit 0) σ' H') → W Tryz.prog (.loop ac70_b0) Q σ H := by
  intro l
  induction l with
  | nil =>
    intro i a a' σ H hl hi s0 s1 s2 s3 s18 s19 s20 hS h Q q0
    have hii : i = n.args.length := by
      have := congrArg List.length hl
      rw [List.length_drop, List.length_nil] at this; omega
    rw [walkL] at h
    cases h
    refine W_loopK (fun K hK => W_start ?_)
    unfold ac70_b0
    have hd : decide ((i : Int) < (n.args.length : Int)) = false := decide_eq_false (by omega)
    simp -implicitDefEqProofs only [go_sem, ↓reduceIte, Nat.reduceEqDiff, s19, s20, hd]
    exact q0 _ _ hS
  | cons op l ihl =>
    intro i a a' σ H hl hi s0 s1 s2 s3 s18 s19 s20 hS h Q q0
    have hlt : i < n.args.length := by
      have := congrArg List.length hl
      rw [List.length_drop, List.length_cons] at this; omega
    have hop : n.args[i]? = some op := by
      have := congrArg (·[0]?) hl
      simpa [List.getElem?_drop] using this.symm
    have hl' : l = n.args.drop (i + 1) := by
      have := congrArg List.tail hl
      simpa using this
    rw [walkL] at h
    cases e5 : t_binds n (i : Int) with
    | none => rw [bind_N e5] at h; cases h
    | some b =>
    rw [bind_S e5] at h
    by_cases e6 : (bound.length + b.length) * 16 ≤ 1099511627776
    case neg => rw [if_neg e6] at h; cases h
    rw [if_pos e6] at h
    cases e7 : walkF step e k op (bound ++ b) a with
    | none => rw [bind_N e7] at h; cases h
    | some a1 =>
    rw [bind_S e7] at h
    refine W_loopK (fun K hK => W_start ?_)
    unfold ac70_b0
    have hd : decide ((i : Int) < (n.args.length : Int)) = true := decide_eq_true (by omega)
    simp -implicitDefEqProofs only [go_sem, ↓reduceIte, Nat.reduceEqDiff, s0, s1, s2, s3, s18, s19, s20, hd, List.getElem?_map, hop, Option.map_some]
    have hb := t_binds_c e5
    have hw : IntKind.wrap .i64 ((i : Int) + 1) = ((i + 1 : Nat) : Int) := by rw [IntKind.wrap_i64]; omega
    refine ⟨fun _ => True, trivial, ?_⟩
    refine WPar_r (exprPV e) (fun H' _ => by simp -implicitDefEqProofs only [go_sem, ↓reduceIte, Nat.reduceEqDiff, s0, s1, s2, s3, s18, s19, s20, e2, e3, List.getElem?_map, Option.map_some, Nat.reduceAdd]) ?_
    refine WPar_r (.int .i64 op) (fun H' _ => by simp -implicitDefEqProofs only [go_sem, ↓reduceIte, Nat.reduceEqDiff, s0, s1, s2, s3, s18, s19, s20, e2, e3, List.getElem?_map, Option.map_some, Nat.reduceAdd]) ?_
    refine WPar_r (strsPV bound) (fun H' _ => by simp -implicitDefEqProofs only [go_sem, ↓reduceIte, Nat.reduceEqDiff, s0, s1, s2, s3, s18, s19, s20, e2, e3, List.getElem?_map, Option.map_some, Nat.reduceAdd]) ?_
    refine WPar_call (.isl (bound.map strL) .exact) (by simp -implicitDefEqProofs only [go_sem, ↓reduceIte, Nat.reduceEqDiff, s0, s1, s2, s3, s18, s19, s20, e2, e3, List.getElem?_map, Option.map_some, Nat.reduceAdd]; exact clip120_c bound) ?_
    refine WPar_r (exprPV e) (fun H' _ => by simp -implicitDefEqProofs only [go_sem, ↓reduceIte, Nat.reduceEqDiff, s0, s1, s2, s3, s18, s19, s20, e2, e3, List.getElem?_map, Option.map_some, Nat.reduceAdd]) ?_
    refine WPar_r (.int .i64 at_) (fun H' _ => by simp -implicitDefEqProofs only [go_sem, ↓reduceIte, Nat.reduceEqDiff, s0, s1, s2, s3, s18, s19, s20, e2, e3, List.getElem?_map, Option.map_some, Nat.reduceAdd]) ?_
    refine WPar_r (.iptr n.cells 0) (fun H' _ => by simp -implicitDefEqProofs only [go_sem, ↓reduceIte, Nat.reduceEqDiff, s0, s1, s2, s3, s18, s19, s20, e2, e3, List.getElem?_map, Option.map_some, Nat.reduceAdd]) ?_
    refine WPar_r (.agg n.cells) (fun H' _ => by simp -implicitDefEqProofs only [go_sem, ↓reduceIte, Nat.reduceEqDiff, s0, s1, s2, s3, s18, s19, s20, e2, e3, List.getElem?_map, Option.map_some, Nat.reduceAdd]) ?_
    refine WPar_r (.int .i64 i) (fun H' _ => by simp -implicitDefEqProofs only [go_sem, ↓reduceIte, Nat.reduceEqDiff, s0, s1, s2, s3, s18, s19, s20, e2, e3, List.getElem?_map, Option.map_some, Nat.reduceAdd]) ?_
    refine WPar_call (strsPV b) (by simp -implicitDefEqProofs only [go_sem, ↓reduceIte, Nat.reduceEqDiff, s0, s1, s2, s3, s18, s19, s20, e2, e3, List.getElem?_map, Option.map_some, Nat.reduceAdd]; exact hb) ?_
    obtain ⟨c', H', f1, f2, f3, f4, f5⟩ := dop_app (σ := (upd (upd (upd (upd (upd (upd (upd (upd (upd (upd (upd (upd (upd (upd (upd (upd σ (some 21) (PV.bool true)) (some 22) (PV.int IntKind.i64 ↑i)) (some 23) (PV.iptr [PV.int IntKind.i64 op] 0)) (some 24) (PV.int IntKind.i64 op)) (some 8) (PV.int IntKind.i64 ↑i)) (some 9) (PV.int IntKind.i64 op)) (some 25) (exprPV e)) (some 26) (.int .i64 op)) (some 27) (strsPV bound)) (some 28) (.isl (bound.map strL) .exact)) (some 29) (exprPV e)) (some 30) (.int .i64 at_)) (some 31) (.iptr n.cells 0)) (some 32) (.agg n.cells)) (some 33) (.int .i64 i)) (some 34) (strsPV b))) (H := H) (sz := 1) (b := 16) (x := AE.t 28) (y := AE.t 34) row_str bound b .exact .unk (by simp -implicitDefEqProofs only [go_sem, ↓reduceIte, Nat.reduceEqDiff, s0, s1, s2, s3, s18, s19, s20, e2, e3, List.getElem?_map, Option.map_some, Nat.reduceAdd]) (by simp -implicitDefEqProofs only [go_sem, ↓reduceIte, Nat.reduceEqDiff, s0, s1, s2, s3, s18, s19, s20, e2, e3, List.getElem?_map, Option.map_some, Nat.reduceAdd]) trivial e6
    refine WPar_d _ H' f1 trivial ?_
    refine WPar_r (.fn (.func g) [] caps) (fun H' _ => by simp -implicitDefEqProofs only [go_sem, ↓reduceIte, Nat.reduceEqDiff, s0, s1, s2, s3, s18, s19, s20, e2, e3, List.getElem?_map, Option.map_some, Nat.reduceAdd]) ?_
    have hS' : S a H' := hv.stable a H H' hS f3 f4 fun c hc => (f5 c hc .exact).1
    rw [WPar_nil]
    refine WO_start ?_
    simp -implicitDefEqProofs only [go_sem, ↓reduceIte, Nat.reduceEqDiff, s0, s1, s2, s3, s18, s19, s20, e2, e3, List.getElem?_map, Option.map_some, Nat.reduceAdd]
    refine MCall.mono (MCall.wk (ih op (bound ++ b) a a1 H' hS' e7) (.same (.same (.isl (.same .nil))))) fun r H2 hS2 => ?_
    simp -implicitDefEqProofs only [go_sem, ↓reduceIte, Nat.reduceEqDiff, s0, s1, s2, s3, s18, s19, s20, e2, e3, List.getElem?_map, Option.map_some, Nat.reduceAdd]
    refine hK _ _ ?_
    refine ihl (i + 1) a1 a' _ H2 hl' hlt ?_ ?_ ?_ ?_ ?_ ?_ ?_ hS2 h Q q0
    all_goals (simp -implicitDefEqProofs only [go_sem, ↓reduceIte, Nat.reduceEqDiff, s0, s1, s2, s3, s18, s19, s20, e2, e3, List.getElem?_map, Option.map_some, Nat.reduceAdd, hw]; try rfl)
theorem walk70 {g : FuncId} {caps : List PV} {S : α → AH → Prop} {step : α → Int → List Str → Option α} (hv : Visit g caps S step) (e : List Nd) :
    ∀ (k : Nat) (at_ : Int) (bound : List Str) (a a' : α) (H : AH), S a H → walkF step e k at_ bound a = some a' → MCall Tryz.prog 70 [exprPV e, .int .i64 at_, strsPV bound, .fn (.func g) [] caps] H fun _ H' => S a' H' := by
  intro k
  induction k with
  | zero => intro at_ bound a a' H hS h; simp only [walkF, reduceCtorEq] at h
  | succ k ih =>
    intro at_ bound a a' H hS h
    rw [walkF] at h
    cases e1 : step a at_ bound with
    | none => rw [bind_N e1] at h; cases h
    | some a1 =>
    rw [bind_S e1] at h
    by_cases e2 : 0 ≤ at_
    case neg => rw [if_neg e2] at h; cases h
    rw [if_pos e2] at h
    cases e3 : e[at_.toNat]? with
    | none => rw [bind_N e3] at h; cases h
    | some n =>
    rw [bind_S e3] at h
    by_cases e4 : n.args.length ≤ 1099511627776
    case neg => rw [if_neg e4] at h; cases h
    rw [if_pos e4] at h
    refine MCall_of_W ok70 (by simp) (W_start ?_)
    unfold ac70
    simp -implicitDefEqProofs only [go_sem, ↓reduceIte, Nat.reduceEqDiff]
    refine MCall.mono (hv.call a at_ bound a1 H hS e1) fun r H1 hS1 => ?_
    simp -implicitDefEqProofs only [go_sem, ↓reduceIte, Nat.reduceEqDiff, e2, e3]
    refine walk_loop hv e k ih at_ bound n e2 e3 e4 n.args 0 a1 a' _ H1 rfl (Nat.zero_le _) ?_ ?_ ?_ ?_ ?_ ?_ ?_ hS1 h _ ?_
    all_goals first
      | (simp -implicitDefEqProofs only [go_sem, ↓reduceIte, Nat.reduceEqDiff]; done)
      | skip
    intro σ' H' hS'
    exact hS'
end
end Go.VL
end
section
namespace Go.VL
inductive Lx : List PV → List PV → Prop where
  | nil : Lx [] []
  | same {p : PV} {l m : List PV} (h : Lx l m) : Lx (p :: l) (p :: m)
  | isl {es : List (List PV)} {c : Ck} {l m : List PV} (h : Lx l m) : Lx (.isl es c :: l) (.isl es .unk :: m)
  | agg {cs ds l m : List PV} (h0 : Lx cs ds) (h : Lx l m) : Lx (.agg cs :: l) (.agg ds :: m)
theorem Lx.get {l m : List PV} (h : Lx l m) : l.length = m.length ∧ ∀ (j : Nat) (q : PV), m[j]? = some q → ∃ p, l[j]? = some p ∧ ∀ (G : Gh) (n : Nat) (v : Value), V G n p v → V G n q v := by
  induction h with
  | nil => exact ⟨rfl, fun j q e => by simp at e⟩
  | same _ ih =>
    refine ⟨by simp [ih.1], fun j q e => ?_⟩
    cases j with
    | zero => simp at e; subst e; exact ⟨_, rfl, fun _ _ _ h => h⟩
    | succ j => simp at e; simpa using ih.2 j q e
  | isl _ ih =>
    refine ⟨by simp [ih.1], fun j q e => ?_⟩
    cases j with
    | zero => simp at e; subst e; exact ⟨_, rfl, fun _ _ _ h => h.wk⟩
    | succ j => simp at e; simpa using ih.2 j q e
  | @agg cs ds _ _ _ _ ih0 ih =>
    refine ⟨by simp [ih.1], fun j q e => ?_⟩
    cases j with
    | zero =>
      simp at e; subst e
      refine ⟨_, rfl, fun G n v h => ?_⟩
      generalize hp : PV.agg cs = p at h
      cases h with
      | agg cs' vs h1 h2 =>
        cases hp
        refine .agg ds vs (h1.trans ih0.1) fun j c x hc hx => ?_
        obtain ⟨p, e1, e2⟩ := ih0.2 j c hc
        exact e2 _ _ _ (h2 j p x e1 hx)
      | _ => cases hp
    | succ j => simp at e; simpa using ih.2 j q e
variable [Glob]
theorem MCall.wx {P : Program} {H : AH} {f : FuncId} {args args' : List PV} {k : PV → AH → Prop} (h : MCall P f args H k) (hw : Lx args' args) : MCall P f args' H k := by
  obtain ⟨h1, h2⟩ := hw.get
  refine ⟨h.enters, fun B G w vs hU hM hv => h.call B G w vs hU hM ⟨hv.1.trans h1, fun j c x hc hx => ?_⟩⟩
  obtain ⟨p, e, hp⟩ := h2 j c hc
  exact hp _ _ _ (hv.2 j p x e hx)
theorem PCall.wx {P : Program} {f : FuncId} {args args' : List PV} {r : PV} (h : PCall P f args r) (hw : Lx args' args) : PCall P f args' r := fun H => (h H).wx hw
end Go.VL
end
section
set_option maxRecDepth 8000
set_option maxHeartbeats 4000000
namespace Go.VL
open Go.Proofs
def t_isNamed (k : Nat) (n_0 : Nd) : Option Bool :=
  Option.bind (t_operatorOf k n_0.text) fun p2 => cond (n_0.kind == 2) (Option.bind (t_isFixed n_0.text) fun p5 => cond p5 (cond (n_0.kind == 3) (some (!p2.2)) (some false)) (some true)) (cond (n_0.kind == 3) (some (!p2.2)) (some false))
theorem t_isNamed_c {k : Nat} {n_0 : Nd} {r : Bool} (h : t_isNamed k n_0 = some r) : PCall Tryz.prog 80 [(.agg (Nd.cells n_0))] (.bool r) := by
  refine PCall.of_empty (PuL.mem (.cons (.agg _ (Nd.pu _)) .nil)) (MCall_of_W ok80 (by simp) (W_start ?_)) (.bool _)
  unfold t_isNamed at h
  unfold ac80
  obtain ⟨p2, e1, h⟩ := bind_E h
  try refine gos_ ?_
  refine mcall_pure (t_operatorOf_c e1) ?_
  rcases cond_E h with ⟨e3, h⟩ | ⟨e3, h⟩
  ·obtain ⟨p5, e4, h⟩ := bind_E h
   try refine gos_ ?_
   refine mcall_pure (t_isFixed_c e4) ?_
   rcases cond_E h with ⟨e6, h⟩ | ⟨e6, h⟩
   ·rcases cond_E h with ⟨e7, h⟩ | ⟨e7, h⟩
    ·obtain rfl := som_E h
     try refine gos_ ?_
     exact (.pure _ (.bool _))
    ·obtain rfl := som_E h
     try refine gos_ ?_
     exact (.pure _ (.bool _))
   ·obtain rfl := som_E h
    try refine gos_ ?_
    exact (.pure _ (.bool _))
  ·rcases cond_E h with ⟨e8, h⟩ | ⟨e8, h⟩
   ·obtain rfl := som_E h
    try refine gos_ ?_
    exact (.pure _ (.bool _))
   ·obtain rfl := som_E h
    try refine gos_ ?_
    exact (.pure _ (.bool _))
def b_NameOf (s_0 : Str) : Option (List Nd) :=
  some [(Nd.mk 2 0 s_0 [] [])]
theorem b_NameOf_c {s_0 : Str} {r : List Nd} (h : b_NameOf s_0 = some r) : PCall Tryz.prog 89 [(.str s_0)] (.isl (r.map Nd.cells) .unk) := by
  refine PCall.of_empty (PuL.mem (.cons (.str _) .nil)) (MCall_of_W ok89 (by simp) (W_start ?_)) (pu_sl Nd.pu _)
  unfold b_NameOf at h
  unfold ac89
  obtain rfl := som_E h
  try refine gos_ ?_
  exact (fz_sl Nd.pu [(Nd.mk 2 0 s_0 [] [])] _)
def b_Join_b0 : Nat → Int → Int → Int → Str → (List Str) → (List Int) → (List Int) → Int → Option (List Int)
  | 0, _, _, _, _, _, _, _, _ => none
  | k + 1, from_8, x_10_0, x_10_1, x_10_2, x_10_3, x_10_4, args_11, j_12 =>
    cond (decide (j_12 < (x_10_4.length : Int))) (if 0 ≤ j_12 then Option.bind (x_10_4[j_12.toNat]?) fun x15 => if (args_11.length + 1) * 8 ≤ 1099511627776 then b_Join_b0 k from_8 x_10_0 x_10_1 x_10_2 x_10_3 x_10_4 (args_11 ++ [(IntKind.wrap .i64 (x15 + from_8))]) (IntKind.wrap .i64 (j_12 + 1)) else none else none) (some (args_11))
def b_Join_b0l : List Nat := [11, 12] ++ List.range' 47 17
theorem b_Join_b0_W : ∀ (k : Nat) (o_x_10 : Nat) (from_8 : Int) (x_10_0 : Int) (x_10_1 : Int) (x_10_2 : Str) (x_10_3 : List Str) (x_10_4 : List Int) (args_11 : List Int) (j_12 : Int) (c_args_11_b0 : Ck) (c_p0_b0 : Ck) (c_p1_b0 : Ck) (σ0 σ : Nat → PV) (H0 H : AH) (f0 : Fr b_Join_b0l σ0 σ) (hf0 : HF [] H0 H) (sl : σ 8 = (.int .i64 from_8) ∧ σ 10 = (.ref (o_x_10) 0) ∧ σ 11 = (.isl (args_11.map intL) c_args_11_b0) ∧ σ 12 = (.int .i64 j_12) ∧ H.obj o_x_10 = some [(.int .i64 x_10_0), (.int .i64 x_10_1), (.str x_10_2), (.isl (x_10_3.map strL) .unk), (.isl (x_10_4.map intL) .unk)]) (l_o_x_10 : o_x_10 < H.next) (ok_args_11 : okc H c_args_11_b0) (ok_p0 : okc H c_p0_b0) (ok_p1 : okc H c_p1_b0) (ds_c_args_11_b0_c_p0_b0 : Dis c_args_11_b0 c_p0_b0) (ds_c_args_11_b0_c_p1_b0 : Dis c_args_11_b0 c_p1_b0) (ds_c_p0_b0_c_p1_b0 : Dis c_p0_b0 c_p1_b0) (o : List Int) (h : b_Join_b0 k from_8 x_10_0 x_10_1 x_10_2 x_10_3 x_10_4 args_11 j_12 = some o) (Q : Post) (q0 : ∀ (p : List Int) (c0 : Ck) (σ' : Nat → PV) (H' : AH), o = p → Fr b_Join_b0l σ0 σ' → HF [] H0 H' → (σ' 11 = (.isl (p.map intL) c0)) → okc H' c_p0_b0 → okc H' c_p1_b0 → Dis c_p0_b0 c_p1_b0 → Q (.exit 4) σ' H') , W Tryz.prog (.loop ac84_b0) Q σ H := by
  intro k
  induction k with
  | zero => intro o_x_10 from_8 x_10_0 x_10_1 x_10_2 x_10_3 x_10_4 args_11 j_12 c_args_11_b0 c_p0_b0 c_p1_b0 σ0 σ H0 H f0 hf0 sl l_o_x_10 ok_args_11 ok_p0 ok_p1 ds_c_args_11_b0_c_p0_b0 ds_c_args_11_b0_c_p1_b0 ds_c_p0_b0_c_p1_b0 o h Q q0; simp only [b_Join_b0, reduceCtorEq] at h
  | succ k ih =>
    intro o_x_10 from_8 x_10_0 x_10_1 x_10_2 x_10_3 x_10_4 args_11 j_12 c_args_11_b0 c_p0_b0 c_p1_b0 σ0 σ H0 H f0 hf0 sl l_o_x_10 ok_args_11 ok_p0 ok_p1 ds_c_args_11_b0_c_p0_b0 ds_c_args_11_b0_c_p1_b0 ds_c_p0_b0_c_p1_b0 o h Q q0
    obtain ⟨s8, s10, s11, s12, g_o_x_10⟩ := sl
    have n_o_x_10 := ne_next l_o_x_10
    have m_o_x_10 := ne_add l_o_x_10
    have hle0 := hf0.1
    unfold b_Join_b0 at h
    refine W_loopK (fun K hK => W_start ?_)
    unfold ac84_b0
    rcases cond_E h with ⟨e13, h⟩ | ⟨e13, h⟩
    ·obtain ⟨e14, h⟩ := if_E h
     obtain ⟨x15, e16, h⟩ := bind_E h
     obtain ⟨e21, h⟩ := if_E h
     try refine gos_ ?_
     refine WO_app (f := intL) row_int args_11 ([(IntKind.wrap .i64 (x15 + from_8))] : List Int) c_args_11_b0 .exact sls_ sls_ ok_ (by first | exact e21 | (simp only [List.length_cons, List.length_nil] ; exact e21)) (fun c17 H18 ok19 le ob26 rl20 => ?_)
     have hf27 : HF [] _ H18 := ⟨le, fun i _ _ => ob26 i⟩
     try simp only [AH.new_next, AH.put_next, AH.tok_next, AH.use_next] at le
     obtain ⟨ok22, ds23⟩ := rl20 c_p0_b0 ok_ ds_c_args_11_b0_c_p0_b0
     obtain ⟨ok24, ds25⟩ := rl20 c_p1_b0 ok_ ds_c_args_11_b0_c_p1_b0
     have n28 := ne_next (show o_x_10 < H18.next by first | omega | (simp only [AH.new_next, AH.put_next, AH.tok_next, AH.use_next]; omega))
     have m29 := ne_add (show o_x_10 < H18.next by first | omega | (simp only [AH.new_next, AH.put_next, AH.tok_next, AH.use_next]; omega))
     try refine gos_ ?_
     refine hK _ _ ?_
     exact ih o_x_10 from_8 x_10_0 x_10_1 x_10_2 x_10_3 x_10_4 (args_11 ++ [(IntKind.wrap .i64 (x15 + from_8))]) (IntKind.wrap .i64 (j_12 + 1)) c17 c_p0_b0 c_p1_b0 _ _ _ _ fr_ (by repeat (first | exact hf0 | refine HF.new ?_ | refine HF.tokd ?_ | refine HF.used ?_ | refine HF.put (by first | (right; omega) | (left; simp only [List.mem_cons, true_or, or_true])) ?_ | refine HF.via hf27 (by first | exact fun i hi => absurd hi List.not_mem_nil | (intro i hi; simp only [List.mem_cons, List.not_mem_nil, or_false] at hi ⊢; first | exact .inl hi | omega)) ?_)) sls_ om_ ok_ ok_ ok_ ds23 ds25 ds_c_p0_b0_c_p1_b0 _ h _ q0
    ·obtain rfl := som_E h
     try refine gos_ ?_
     exact q0 _ c_args_11_b0 _ _ rfl fr_ (by repeat (first | exact hf0 | refine HF.new ?_ | refine HF.tokd ?_ | refine HF.used ?_ | refine HF.put (by first | (right; omega) | (left; simp only [List.mem_cons, true_or, or_true])) ?_)) sls_ ok_ ok_ ds_c_p0_b0_c_p1_b0
def b_Join_b1 : Nat → (List (List Nd)) → (List Nd) → Int → Int → Int → Option (List Nd)
  | 0, _, _, _, _, _ => none
  | k + 1, operands_1, out_5, i_7, from_8, k_9 =>
    if 0 ≤ i_7 then Option.bind (operands_1[i_7.toNat]?) fun x5 => cond (decide (k_9 < (x5.length : Int))) (if 0 ≤ k_9 then Option.bind (x5[k_9.toNat]?) fun x9 => Option.bind (b_OwnTexts x9.names) fun p12 => Option.bind (b_Join_b0 k from_8 x9.kind x9.n x9.text p12 x9.args ([] : List Int) 0) (fun p32 => if (out_5.length + 1) * 80 ≤ 1099511627776 then b_Join_b1 k operands_1 (out_5 ++ [(Nd.mk x9.kind x9.n x9.text p12 p32)]) i_7 from_8 (IntKind.wrap .i64 (k_9 + 1)) else none) else none) (some (out_5)) else none
def b_Join_b1l : List Nat := [5, 9, 10, 11, 12] ++ List.range' 27 43
theorem b_Join_b1_W : ∀ (k : Nat) (operands_1 : List (List Nd)) (out_5 : List Nd) (i_7 : Int) (from_8 : Int) (k_9 : Int) (c_out_5_b1 : Ck) (c_p0_b1 : Ck) (σ0 σ : Nat → PV) (H0 H : AH) (f0 : Fr b_Join_b1l σ0 σ) (hf0 : HF [] H0 H) (sl : σ 1 = (.isl (operands_1.map (slL Nd.cells)) .unk) ∧ σ 5 = (.isl (out_5.map Nd.cells) c_out_5_b1) ∧ σ 7 = (.int .i64 i_7) ∧ σ 8 = (.int .i64 from_8) ∧ σ 9 = (.int .i64 k_9)) (ok_out_5 : okc H c_out_5_b1) (ok_p0 : okc H c_p0_b1) (ds_c_out_5_b1_c_p0_b1 : Dis c_out_5_b1 c_p0_b1) (o : List Nd) (h : b_Join_b1 k operands_1 out_5 i_7 from_8 k_9 = some o) (Q : Post) (q0 : ∀ (p : List Nd) (c0 : Ck) (σ' : Nat → PV) (H' : AH), o = p → Fr b_Join_b1l σ0 σ' → HF [] H0 H' → (σ' 5 = (.isl (p.map Nd.cells) c0)) → okc H' c0 → okc H' c_p0_b1 → Dis c0 c_p0_b1 → Q (.exit 2) σ' H') , W Tryz.prog (.loop ac84_b1) Q σ H := by
  intro k
  induction k with
  | zero => intro operands_1 out_5 i_7 from_8 k_9 c_out_5_b1 c_p0_b1 σ0 σ H0 H f0 hf0 sl ok_out_5 ok_p0 ds_c_out_5_b1_c_p0_b1 o h Q q0; simp only [b_Join_b1, reduceCtorEq] at h
  | succ k ih =>
    intro operands_1 out_5 i_7 from_8 k_9 c_out_5_b1 c_p0_b1 σ0 σ H0 H f0 hf0 sl ok_out_5 ok_p0 ds_c_out_5_b1_c_p0_b1 o h Q q0
    obtain ⟨s1, s5, s7, s8, s9⟩ := sl
    have hle0 := hf0.1
    unfold b_Join_b1 at h
    refine W_loopK (fun K hK => W_start ?_)
    unfold ac84_b1
    obtain ⟨e4, h⟩ := if_E h
    obtain ⟨x5, e6, h⟩ := bind_E h
    rcases cond_E h with ⟨e7, h⟩ | ⟨e7, h⟩
    ·obtain ⟨e8, h⟩ := if_E h
     obtain ⟨x9, e10, h⟩ := bind_E h
     obtain ⟨p12, e11, h⟩ := bind_E h
     try refine gos_ ?_
     refine mcall_pure (b_OwnTexts_c e11) ?_
     try refine gos_ ?_
     obtain ⟨o30, h31, h⟩ := bind_E h
     refine b_Join_b0_W k (H.next) from_8 x9.kind x9.n x9.text p12 x9.args ([] : List Int) 0 .nil c_out_5_b1 c_p0_b1 _ _ _ _ (Fr.refl _ _) (HF.refl _ _) sls_ om_ ok_ ok_ ok_ Dis.nil Dis.nil ds_c_out_5_b1_c_p0_b1 _ h31 _ ?_
     ·rintro p32 c36 σ' H35 eo fr33 hf34 s37 ok38 ok39 ds40
      rw [eo] at h
      have s41 : σ' 1 = (.isl (operands_1.map (slL Nd.cells)) .unk) := (fr33 1 (by decide)).trans sls_
      have s42 : σ' 5 = (.isl (out_5.map Nd.cells) c_out_5_b1) := (fr33 5 (by decide)).trans sls_
      have s43 : σ' 7 = (.int .i64 i_7) := (fr33 7 (by decide)).trans sls_
      have s44 : σ' 8 = (.int .i64 from_8) := (fr33 8 (by decide)).trans sls_
      have s45 : σ' 9 = (.int .i64 k_9) := (fr33 9 (by decide)).trans sls_
      have s46 : σ' 10 = (.ref (H.next) 0) := (fr33 10 (by decide)).trans sls_
      have le := hf34.1
      try simp only [AH.new_next, AH.put_next, AH.tok_next, AH.use_next] at le
      have g47 : H35.obj (H.next) = some [(.int .i64 x9.kind), (.int .i64 x9.n), (.str x9.text), (.isl (p12.map strL) .unk), (.isl (x9.args.map intL) .unk)] := (hf34.2 _ om_ (by first | exact List.not_mem_nil | (simp only [List.mem_cons, List.not_mem_nil, or_false, not_or]; omega))).trans sls_
      have n48 := ne_next (show H.next < H35.next by first | omega | (simp only [AH.new_next, AH.put_next, AH.tok_next, AH.use_next]; omega))
      have m49 := ne_add (show H.next < H35.next by first | omega | (simp only [AH.new_next, AH.put_next, AH.tok_next, AH.use_next]; omega))
      obtain ⟨e54, h⟩ := if_E h
      try refine gos_ ?_
      refine WO_app (f := Nd.cells) Nd.row out_5 ([(Nd.mk x9.kind x9.n x9.text p12 p32)] : List Nd) c_out_5_b1 .exact sls_ sls_ ok_ (by first | exact e54 | (simp only [List.length_cons, List.length_nil] ; exact e54)) (fun c50 H51 ok52 le ob57 rl53 => ?_)
      have hf58 : HF [] _ H51 := ⟨le, fun i _ _ => ob57 i⟩
      try simp only [AH.new_next, AH.put_next, AH.tok_next, AH.use_next] at le
      obtain ⟨ok55, ds56⟩ := rl53 c_p0_b1 ok_ ds40
      have n59 := ne_next (show H.next < H51.next by first | omega | (simp only [AH.new_next, AH.put_next, AH.tok_next, AH.use_next]; omega))
      have m60 := ne_add (show H.next < H51.next by first | omega | (simp only [AH.new_next, AH.put_next, AH.tok_next, AH.use_next]; omega))
      try refine gos_ ?_
      refine hK _ _ ?_
      exact ih operands_1 (out_5 ++ [(Nd.mk x9.kind x9.n x9.text p12 p32)]) i_7 from_8 (IntKind.wrap .i64 (k_9 + 1)) c50 c_p0_b1 _ _ _ _ (by repeat (first | exact f0 | refine Fr.upd (by decide) ?_ | refine Fr.via fr33 (by decide) ?_)) (by repeat (first | exact hf0 | refine HF.new ?_ | refine HF.tokd ?_ | refine HF.used ?_ | refine HF.put (by first | (right; omega) | (left; simp only [List.mem_cons, true_or, or_true])) ?_ | refine HF.via hf34 (by first | exact fun i hi => absurd hi List.not_mem_nil | (intro i hi; simp only [List.mem_cons, List.not_mem_nil, or_false] at hi ⊢; first | exact .inl hi | omega)) ?_ | refine HF.via hf58 (by first | exact fun i hi => absurd hi List.not_mem_nil | (intro i hi; simp only [List.mem_cons, List.not_mem_nil, or_false] at hi ⊢; first | exact .inl hi | omega)) ?_)) sls_ ok_ ok_ ds56 _ h _ q0
    ·obtain rfl := som_E h
     try refine gos_ ?_
     exact q0 _ c_out_5_b1 _ _ rfl fr_ (by repeat (first | exact hf0 | refine HF.new ?_ | refine HF.tokd ?_ | refine HF.used ?_ | refine HF.put (by first | (right; omega) | (left; simp only [List.mem_cons, true_or, or_true])) ?_)) sls_ ok_ ok_ ds_c_out_5_b1_c_p0_b1
def b_Join_b2 : Nat → (List (List Nd)) → (List Nd) → Int → Int → Str → (List Str) → (List Int) → Int → Option (((List Nd) × Int × Int × Str × (List Str) × (List Int)))
  | 0, _, _, _, _, _, _, _, _ => none
  | k + 1, operands_1, out_5, n_6_0, n_6_1, n_6_2, n_6_3, n_6_4, i_7 =>
    cond (decide (i_7 < (operands_1.length : Int))) (Option.bind (b_Join_b1 k operands_1 out_5 i_7 (out_5.length : Int) 0) (fun p63 => if (n_6_4.length + 1) * 8 ≤ 1099511627776 then b_Join_b2 k operands_1 p63 n_6_0 n_6_1 n_6_2 n_6_3 (n_6_4 ++ [(IntKind.wrap .i64 ((p63.length : Int) - 1))]) (IntKind.wrap .i64 (i_7 + 1)) else none)) (some ((out_5, n_6_0, n_6_1, n_6_2, n_6_3, n_6_4)))
def b_Join_b2l : List Nat := [5, 7, 8, 9, 10, 11, 12] ++ List.range' 19 59
theorem b_Join_b2_W : ∀ (k : Nat) (o_n_6 : Nat) (operands_1 : List (List Nd)) (out_5 : List Nd) (n_6_0 : Int) (n_6_1 : Int) (n_6_2 : Str) (n_6_3 : List Str) (n_6_4 : List Int) (i_7 : Int) (c_out_5_b2 : Ck) (c_n_6_4_b2 : Ck) (σ0 σ : Nat → PV) (H0 H : AH) (f0 : Fr b_Join_b2l σ0 σ) (hf0 : HF [o_n_6] H0 H) (sl : σ 1 = (.isl (operands_1.map (slL Nd.cells)) .unk) ∧ σ 5 = (.isl (out_5.map Nd.cells) c_out_5_b2) ∧ σ 6 = (.ref (o_n_6) 0) ∧ σ 7 = (.int .i64 i_7) ∧ H.obj o_n_6 = some [(.int .i64 n_6_0), (.int .i64 n_6_1), (.str n_6_2), (.isl (n_6_3.map strL) .unk), (.isl (n_6_4.map intL) c_n_6_4_b2)]) (l_o_n_6 : o_n_6 < H.next) (ok_out_5 : okc H c_out_5_b2) (ok_n_6_4 : okc H c_n_6_4_b2) (ds_c_out_5_b2_c_n_6_4_b2 : Dis c_out_5_b2 c_n_6_4_b2) (o : ((List Nd) × Int × Int × Str × (List Str) × (List Int))) (h : b_Join_b2 k operands_1 out_5 n_6_0 n_6_1 n_6_2 n_6_3 n_6_4 i_7 = some o) (Q : Post) (q0 : ∀ (p : (List Nd) × Int × Int × Str × (List Str) × (List Int)) (c0 : Ck) (c5 : Ck) (σ' : Nat → PV) (H' : AH), o = p → Fr b_Join_b2l σ0 σ' → HF [o_n_6] H0 H' → (σ' 5 = (.isl (p.1.map Nd.cells) c0) ∧ H'.obj o_n_6 = some [(.int .i64 p.2.1), (.int .i64 p.2.2.1), (.str p.2.2.2.1), (.isl (p.2.2.2.2.1.map strL) .unk), (.isl (p.2.2.2.2.2.map intL) c5)]) → okc H' c0 → Q (.exit 0) σ' H') , W Tryz.prog (.loop ac84_b2) Q σ H := by
  intro k
  induction k with
  | zero => intro o_n_6 operands_1 out_5 n_6_0 n_6_1 n_6_2 n_6_3 n_6_4 i_7 c_out_5_b2 c_n_6_4_b2 σ0 σ H0 H f0 hf0 sl l_o_n_6 ok_out_5 ok_n_6_4 ds_c_out_5_b2_c_n_6_4_b2 o h Q q0; simp only [b_Join_b2, reduceCtorEq] at h
  | succ k ih =>
    intro o_n_6 operands_1 out_5 n_6_0 n_6_1 n_6_2 n_6_3 n_6_4 i_7 c_out_5_b2 c_n_6_4_b2 σ0 σ H0 H f0 hf0 sl l_o_n_6 ok_out_5 ok_n_6_4 ds_c_out_5_b2_c_n_6_4_b2 o h Q q0
    obtain ⟨s1, s5, s6, s7, g_o_n_6⟩ := sl
    have n_o_n_6 := ne_next l_o_n_6
    have m_o_n_6 := ne_add l_o_n_6
    have hle0 := hf0.1
    unfold b_Join_b2 at h
    refine W_loopK (fun K hK => W_start ?_)
    unfold ac84_b2
    rcases cond_E h with ⟨e3, h⟩ | ⟨e3, h⟩
    ·try refine gos_ ?_
     obtain ⟨o61, h62, h⟩ := bind_E h
     refine b_Join_b1_W k operands_1 out_5 i_7 (out_5.length : Int) 0 c_out_5_b2 c_n_6_4_b2 _ _ _ _ (Fr.refl _ _) (HF.refl _ _) sls_ ok_ ok_ ds_c_out_5_b2_c_n_6_4_b2 _ h62 _ ?_
     ·rintro p63 c67 σ' H66 eo fr64 hf65 s69 ok68 ok70 ds71
      rw [eo] at h
      have s72 : σ' 1 = (.isl (operands_1.map (slL Nd.cells)) .unk) := (fr64 1 (by decide)).trans sls_
      have s73 : σ' 6 = (.ref (o_n_6) 0) := (fr64 6 (by decide)).trans sls_
      have s74 : σ' 7 = (.int .i64 i_7) := (fr64 7 (by decide)).trans sls_
      have le := hf65.1
      try simp only [AH.new_next, AH.put_next, AH.tok_next, AH.use_next] at le
      have g75 : H66.obj (o_n_6) = some [(.int .i64 n_6_0), (.int .i64 n_6_1), (.str n_6_2), (.isl (n_6_3.map strL) .unk), (.isl (n_6_4.map intL) c_n_6_4_b2)] := (hf65.2 _ om_ (by first | exact List.not_mem_nil | (simp only [List.mem_cons, List.not_mem_nil, or_false, not_or]; omega))).trans sls_
      have n76 := ne_next (show o_n_6 < H66.next by first | omega | (simp only [AH.new_next, AH.put_next, AH.tok_next, AH.use_next]; omega))
      have m77 := ne_add (show o_n_6 < H66.next by first | omega | (simp only [AH.new_next, AH.put_next, AH.tok_next, AH.use_next]; omega))
      obtain ⟨e82, h⟩ := if_E h
      try refine gos_ ?_
      refine WO_app (f := intL) row_int n_6_4 ([(IntKind.wrap .i64 ((p63.length : Int) - 1))] : List Int) c_n_6_4_b2 .exact sls_ sls_ ok_ (by first | exact e82 | (simp only [List.length_cons, List.length_nil] ; exact e82)) (fun c78 H79 ok80 le ob85 rl81 => ?_)
      have hf86 : HF [] _ H79 := ⟨le, fun i _ _ => ob85 i⟩
      try simp only [AH.new_next, AH.put_next, AH.tok_next, AH.use_next] at le
      obtain ⟨ok83, ds84⟩ := rl81 c67 ok_ (Dis.symm ds71)
      have n87 := ne_next (show o_n_6 < H79.next by first | omega | (simp only [AH.new_next, AH.put_next, AH.tok_next, AH.use_next]; omega))
      have m88 := ne_add (show o_n_6 < H79.next by first | omega | (simp only [AH.new_next, AH.put_next, AH.tok_next, AH.use_next]; omega))
      try refine gos_ ?_
      refine hK _ _ ?_
      exact ih o_n_6 operands_1 p63 n_6_0 n_6_1 n_6_2 n_6_3 (n_6_4 ++ [(IntKind.wrap .i64 ((p63.length : Int) - 1))]) (IntKind.wrap .i64 (i_7 + 1)) c67 c78 _ _ _ _ (by repeat (first | exact f0 | refine Fr.upd (by decide) ?_ | refine Fr.via fr64 (by decide) ?_)) (by repeat (first | exact hf0 | refine HF.new ?_ | refine HF.tokd ?_ | refine HF.used ?_ | refine HF.put (by first | (right; omega) | (left; simp only [List.mem_cons, true_or, or_true])) ?_ | refine HF.via hf65 (by first | exact fun i hi => absurd hi List.not_mem_nil | (intro i hi; simp only [List.mem_cons, List.not_mem_nil, or_false] at hi ⊢; first | exact .inl hi | omega)) ?_ | refine HF.via hf86 (by first | exact fun i hi => absurd hi List.not_mem_nil | (intro i hi; simp only [List.mem_cons, List.not_mem_nil, or_false] at hi ⊢; first | exact .inl hi | omega)) ?_)) sls_ om_ ok_ ok_ (Dis.symm ds84) _ h _ q0
    ·obtain rfl := som_E h
     try refine gos_ ?_
     exact q0 _ c_out_5_b2 c_n_6_4_b2 _ _ rfl fr_ (by repeat (first | exact hf0 | refine HF.new ?_ | refine HF.tokd ?_ | refine HF.used ?_ | refine HF.put (by first | (right; omega) | (left; simp only [List.mem_cons, true_or, or_true])) ?_)) sls_ ok_
def b_Join (k : Nat) (root_0 : Nd) (operands_1 : List (List Nd)) : Option (List Nd) :=
  Option.bind (b_OwnTexts root_0.names) fun p2 => Option.bind (b_Join_b2 k operands_1 ([] : List Nd) root_0.kind root_0.n root_0.text p2 ([] : List Int) 0) (fun p91 => if (p91.1.length + 1) * 80 ≤ 1099511627776 then some (p91.1 ++ [(Nd.mk p91.2.1 p91.2.2.1 p91.2.2.2.1 p91.2.2.2.2.1 p91.2.2.2.2.2)]) else none)
theorem b_Join_c {k : Nat} {root_0 : Nd} {operands_1 : List (List Nd)} {c1 : Ck} {r : List Nd} (h : b_Join k root_0 operands_1 = some r) : PCall Tryz.prog 84 [(.agg (Nd.cells root_0)), (.isl (operands_1.map (slL Nd.cells)) c1)] (.isl (r.map Nd.cells) .unk) := by
  refine PCall.lw (.same (.isl .nil)) (PCall.of_empty (PuL.mem (.cons (.agg _ (Nd.pu _)) (.cons (pu_sl (pu_slL Nd.pu) _) .nil))) (MCall_of_W ok84 (by simp) (W_start ?_)) (pu_sl Nd.pu _))
  unfold b_Join at h
  unfold ac84
  obtain ⟨p2, e1, h⟩ := bind_E h
  try refine gos_ ?_
  refine mcall_pure (b_OwnTexts_c e1) ?_
  try refine gos_ ?_
  obtain ⟨o89, h90, h⟩ := bind_E h
  refine b_Join_b2_W k (AH.empty.next + 1) operands_1 ([] : List Nd) root_0.kind root_0.n root_0.text p2 ([] : List Int) 0 .nil .nil _ _ _ _ (Fr.refl _ _) (HF.refl _ _) sls_ om_ ok_ ok_ Dis.nil _ h90 _ ?_
  ·rintro p91 c95 c98 σ' H94 eo fr92 hf93 ⟨s97, g99⟩ ok96
   rw [eo] at h
   have s100 : σ' 6 = (.ref (AH.empty.next + 1) 0) := (fr92 6 (by decide)).trans sls_
   have le := hf93.1
   try simp only [AH.new_next, AH.put_next, AH.tok_next, AH.use_next] at le
   have n102 := ne_next (show AH.empty.next + 1 < H94.next by first | omega | (simp only [AH.new_next, AH.put_next, AH.tok_next, AH.use_next]; omega))
   have m103 := ne_add (show AH.empty.next + 1 < H94.next by first | omega | (simp only [AH.new_next, AH.put_next, AH.tok_next, AH.use_next]; omega))
   obtain ⟨e108, h⟩ := if_E h
   try refine gos_ ?_
   refine WO_app (f := Nd.cells) Nd.row p91.1 ([(Nd.mk p91.2.1 p91.2.2.1 p91.2.2.2.1 p91.2.2.2.2.1 p91.2.2.2.2.2)] : List Nd) c95 .exact sls_ sls_ ok_ (by first | exact e108 | (simp only [List.length_cons, List.length_nil] ; exact e108)) (fun c104 H105 ok106 le ob109 rl107 => ?_)
   have hf110 : HF [] _ H105 := ⟨le, fun i _ _ => ob109 i⟩
   try simp only [AH.new_next, AH.put_next, AH.tok_next, AH.use_next] at le
   have n111 := ne_next (show AH.empty.next < H105.next by first | omega | (simp only [AH.new_next, AH.put_next, AH.tok_next, AH.use_next]; omega))
   have m112 := ne_add (show AH.empty.next < H105.next by first | omega | (simp only [AH.new_next, AH.put_next, AH.tok_next, AH.use_next]; omega))
   have n113 := ne_next (show AH.empty.next + 1 < H105.next by first | omega | (simp only [AH.new_next, AH.put_next, AH.tok_next, AH.use_next]; omega))
   have m114 := ne_add (show AH.empty.next + 1 < H105.next by first | omega | (simp only [AH.new_next, AH.put_next, AH.tok_next, AH.use_next]; omega))
   obtain rfl := som_E h
   try refine gos_ ?_
   exact (fz_sl Nd.pu (p91.1 ++ [(Nd.mk p91.2.1 p91.2.2.1 p91.2.2.2.1 p91.2.2.2.2.1 p91.2.2.2.2.2)]) _)
def b_Apply (k : Nat) (operator_0 : Str) (operands_1 : List (List Nd)) : Option (List Nd) :=
  Option.bind (b_Join k (Nd.mk 3 0 operator_0 [] []) operands_1) fun p2 => some p2
theorem b_Apply_c {k : Nat} {operator_0 : Str} {operands_1 : List (List Nd)} {c1 : Ck} {r : List Nd} (h : b_Apply k operator_0 operands_1 = some r) : PCall Tryz.prog 88 [(.str operator_0), (.isl (operands_1.map (slL Nd.cells)) c1)] (.isl (r.map Nd.cells) .unk) := by
  refine PCall.lw (.same (.isl .nil)) (PCall.of_empty (PuL.mem (.cons (.str _) (.cons (pu_sl (pu_slL Nd.pu) _) .nil))) (MCall_of_W ok88 (by simp) (W_start ?_)) (pu_sl Nd.pu _))
  unfold b_Apply at h
  unfold ac88
  obtain ⟨p2, e1, h⟩ := bind_E h
  try refine gos_ ?_
  refine mcall_pure (PCall.wx (b_Join_c e1) (.agg (.same (.same (.same (.isl (.isl .nil))))) (.same .nil))) ?_
  obtain rfl := som_E h
  try refine gos_ ?_
  exact (fz_sl Nd.pu p2 _)
def l_Sum (k : Nat) : Option (List Nd) :=
  Option.bind (b_NameOf ([97] : Str)) fun p2 => Option.bind (b_NameOf ([98] : Str)) fun p4 => Option.bind (b_NameOf ([99] : Str)) fun p6 => Option.bind (b_Apply k ([42] : Str) [p4, p6]) fun p8 => Option.bind (b_Apply k ([43] : Str) [p2, p8]) fun p10 => some p10
theorem l_Sum_c {k : Nat} {r : List Nd} (h : l_Sum k = some r) : PCall Tryz.prog 45 [] (.isl (r.map Nd.cells) .unk) := by
  refine PCall.of_empty (PuL.mem .nil) (MCall_of_W ok45 (by simp) (W_start ?_)) (pu_sl Nd.pu _)
  unfold l_Sum at h
  unfold ac45
  obtain ⟨p2, e1, h⟩ := bind_E h
  try refine gos_ ?_
  refine mcall_pure (b_NameOf_c e1) ?_
  obtain ⟨p4, e3, h⟩ := bind_E h
  try refine gos_ ?_
  refine mcall_pure (b_NameOf_c e3) ?_
  obtain ⟨p6, e5, h⟩ := bind_E h
  try refine gos_ ?_
  refine mcall_pure (b_NameOf_c e5) ?_
  obtain ⟨p8, e7, h⟩ := bind_E h
  try refine gos_ ?_
  refine mcall_pure (b_Apply_c e7) ?_
  obtain ⟨p10, e9, h⟩ := bind_E h
  try refine gos_ ?_
  refine mcall_pure (b_Apply_c e9) ?_
  obtain rfl := som_E h
  try refine gos_ ?_
  exact (fz_sl Nd.pu p10 _)
end Go.VL
end
section
set_option maxRecDepth 8000
namespace Go.VL
open Go.Proofs
def freeStep (k : Nat) (e : List Nd) (out : List Str) (at_ : Int) (bound : List Str) : Option (List Str) :=
  if 0 ≤ at_ then Option.bind (e[at_.toNat]?) fun n => Option.bind (t_isNamed k n) fun b => cond b (Option.bind (g_Contains_string_string k bound n.text) fun c => cond c (some out) (if (out.length + 1) * 16 ≤ 1099511627776 then some (out ++ [n.text]) else none)) (some out) else none
def FreeS (e : List Nd) (o0 o1 : Nat) (out : List Str) (H : AH) : Prop := o0 < H.next ∧ o1 < H.next ∧ o0 ≠ o1 ∧ H.obj o0 = some [exprPV e] ∧ ∃ v ids, H.obj o1 = some [v] ∧ RowN H strL 1 out v ids ∧ o0 ∉ ids ∧ o1 ∉ ids
theorem free_visit (k : Nat) (e : List Nd) (o0 o1 : Nat) : Visit 118 [.ref o0 0, .ref o1 0] (FreeS e o0 o1) (freeStep k e) where
  stable := by
    rintro a H H' ⟨h1, h2, h3, h4, v, ids, h5, h6, h7, h8⟩ hn ho hc
    exact ⟨by omega, by omega, h3, (ho _).trans h4, v, ids, (ho _).trans h5, h6.hf (M := []) ⟨hn, fun i _ _ => ho i⟩ (fun _ _ h => by cases h), h7, h8⟩
  call := by
    rintro a at_ bound a' H ⟨h1, h2, h3, h4, v, ids, h5, h6, h7, h8⟩ h
    unfold freeStep at h
    by_cases e1 : 0 ≤ at_
    case neg => rw [if_neg e1] at h; cases h
    rw [if_pos e1] at h
    cases e2 : e[at_.toNat]? with
    | none => rw [bind_N e2] at h; cases h
    | some n =>
    rw [bind_S e2] at h
    cases e3 : t_isNamed k n with
    | none => rw [bind_N e3] at h; cases h
    | some b =>
    rw [bind_S e3] at h
    refine MCall_of_W ok118 (by simp) (W_start ?_)
    unfold ac118
    simp -implicitDefEqProofs only [go_sem, ↓reduceIte, Nat.reduceEqDiff, h4, e1, e2, List.getElem?_map, Option.map_some, Nat.reduceAdd]
    refine mcall_pure (t_isNamed_c e3) ?_
    cases b with
    | false =>
      rw [cond_F rfl] at h; cases h
      simp -implicitDefEqProofs only [go_sem, ↓reduceIte, Nat.reduceEqDiff, h4, e1, e2, List.getElem?_map, Option.map_some, Nat.reduceAdd]
      exact ⟨h1, h2, h3, h4, v, ids, h5, h6, h7, h8⟩
    | true =>
      rw [cond_T rfl] at h
      cases e4 : g_Contains_string_string k bound n.text with
      | none => rw [bind_N e4] at h; cases h
      | some c =>
      rw [bind_S e4] at h
      simp -implicitDefEqProofs only [go_sem, ↓reduceIte, Nat.reduceEqDiff, h4, e1, e2, List.getElem?_map, Option.map_some, Nat.reduceAdd]
      refine mcall_pure (g_Contains_string_string_c e4) ?_
      cases c with
      | true =>
        rw [cond_T rfl] at h; cases h
        simp -implicitDefEqProofs only [go_sem, ↓reduceIte, Nat.reduceEqDiff, h4, e1, e2, List.getElem?_map, Option.map_some, Nat.reduceAdd]
        exact ⟨h1, h2, h3, h4, v, ids, h5, h6, h7, h8⟩
      | false =>
        rw [cond_F rfl] at h
        by_cases e5 : (a.length + 1) * 16 ≤ 1099511627776
        case neg => rw [if_neg e5] at h; cases h
        rw [if_pos e5] at h; cases h
        simp -implicitDefEqProofs only [go_sem, ↓reduceIte, Nat.reduceEqDiff, h4, e1, e2, List.getElem?_map, Option.map_some, Nat.reduceAdd]
        refine WS_parS ?_
        simp -implicitDefEqProofs only [go_sem, ↓reduceIte, Nat.reduceEqDiff, h4, h5, e1, e2, List.getElem?_map, Option.map_some, Nat.reduceAdd]
        refine WO_rowapp (f := strL) row_str a [n.text] .exact (by simp -implicitDefEqProofs only [go_sem, ↓reduceIte, Nat.reduceEqDiff]) h6 (by simp -implicitDefEqProofs only [go_sem, ↓reduceIte, Nat.reduceEqDiff]) (by simp) (by simpa using e5) (fun v' ids' H' g1 g2 g3 g4 => ?_)
        have k0 : H'.obj o0 = some [exprPV e] := (g3.2 o0 h1 h7).trans h4
        have k1 : H'.obj o1 = some [v] := (g3.2 o1 h2 h8).trans h5
        have n0 : ¬ o0 ∈ ids' := fun hm => by
          rcases g2 o0 hm with q | q
          · exact h7 q
          · omega
        have n1 : ¬ o1 ∈ ids' := fun hm => by
          rcases g2 o1 hm with q | q
          · exact h8 q
          · omega
        have g1' := g1
        rcases g1 with ⟨_, q, _⟩ | ⟨id, cap, junk, rfl, rfl, q1, q2, q3, q4⟩
        · simp at q
        · have hid : id ≠ o1 := fun e => n1 (by rw [e]; exact List.mem_singleton.2 rfl)
          simp -implicitDefEqProofs only [go_sem, WO_store, ↓reduceIte, Nat.reduceEqDiff, k1, List.length_cons, List.length_nil, Nat.reduceAdd, Nat.le_refl]
          refine ⟨Nat.lt_of_lt_of_le h1 g3.1, Nat.lt_of_lt_of_le h2 g3.1, h3, ?_, _, [id], ?_, g1'.put n1, n0, n1⟩
          · show (if o0 = o1 then _ else H'.obj o0) = _
            rw [if_neg h3]; exact k0
          · show (if o1 = o1 then _ else H'.obj o1) = _
            rw [if_pos rfl]
end Go.VL
end
section
namespace Go.VL
open Go.Proofs Go.RowKit
section
variable {B : Nat → Prop} {G : Gh} {H : AH} {w w' : World}
theorem HM.putRow (hM : HM B H G w) {id b : Nat} {cs cs' : List PV} {arr : Array Value} {t : TypeId} (d : Array (List UInt8)) (n : Nat) (os : Array Obj) (ho : H.obj id = some cs) (hm : G.m id = some b) (hb : w.heap[b]? = some (.cells arr t (0, 0)))
    (hV : Vs G H.next cs' (Sort.putCells encStr 0 d arr)) : HM B (H.put id cs') G (Sort.grow (Sort.putRow encStr (Sort.ahead w n) b 0 d) os) ∧ Tr B w (Sort.grow (Sort.putRow encStr (Sort.ahead w n) b 0 d) os) := by
  obtain ⟨h1, h2⟩ := hM.putObj ho hm hb hV
  have hh : (Sort.putRow encStr (Sort.ahead w n) b 0 d).heap = (w.setRow b (Sort.putCells encStr 0 d arr)).heap := by
    apply Array.ext_getElem?
    intro k
    by_cases hk : k = b
    · subst hk
      rw [setRow_heap w k arr _ t (0, 0) hb]
      show (w.heap.modify k _)[k]? = _
      rw [Array.getElem?_modify, if_pos rfl, hb]
      rfl
    · rw [setRow_other w b k _ hk]
      show (w.heap.modify b _)[k]? = _
      rw [Array.getElem?_modify, if_neg (Ne.symm hk)]
  have hB : Below (w.setRow b (Sort.putCells encStr 0 d arr)).heap.size (w.setRow b (Sort.putCells encStr 0 d arr)) (Sort.grow (Sort.putRow encStr (Sort.ahead w n) b 0 d) os) := by
    refine ⟨rfl, rfl, rfl, ?_, fun k hk => ?_⟩
    · rw [Sort.size_grow, hh]; exact Nat.le_add_right _ _
    · rw [← hh] at hk ⊢
      rw [Sort.heap_grow_old _ _ hk]
  exact ⟨h1.below hB, (Tr.setRow h2 _).trans (Tr.below hB)⟩
theorem str_V {n : Nat} {s : List UInt8} {v : Value} (h : V G n (.str s) v) : v = .string ⟨s.toArray⟩ := by cases h; rfl
theorem msl_V {n id off len cap sz : Nat} {v : Value} (h : V G n (.msl id off len cap sz) v) : ∃ b, id < n ∧ G.m id = some b ∧ v = .slice (some ⟨b, off, none⟩) len cap := by
  cases h with
  | msl _ _ _ _ _ b h1 h2 => exact ⟨b, h1, h2, rfl⟩
theorem flat_strL (l : List Str) : (l.map strL).flatten = l.map PV.str := by
  induction l with
  | nil => rfl
  | cons s l ih => rw [List.map_cons, List.flatten_cons, ih]; rfl
theorem holds_row {l : List Str} {junk : List PV} {arr : Array Value} {b : Nat} {t : TypeId} (hb : w.heap[b]? = some (.cells arr t (0, 0))) (hV : Vs G H.next ((l.map strL).flatten ++ junk) arr) : Sort.Holds encStr w b 0 l.toArray := by
  intro j hj
  have hj' : j < l.length := by simpa using hj
  have hlt : j < arr.size := by rw [hV.1, List.length_append, flat_strL, List.length_map]; omega
  have hv := str_V (hV.2 j (.str l[j]) arr[j] (by rw [flat_strL, List.getElem?_append_left (by simpa using hj')]; simp [hj']) (by simp [hlt]))
  refine ⟨?_, ?_⟩
  · have : arr[j]? = some arr[j] := by simp [hlt]
    simp only [World.cell?, hb, Nat.zero_add, this, hv]
    simp [encStr, hj']
  · simp [World.frozen?, hb]
theorem put_Vs {n : Nat} {l m : List Str} {junk : List PV} {arr : Array Value} (hl : m.length = l.length) (hV : Vs G n ((l.map strL).flatten ++ junk) arr) : Vs G n ((m.map strL).flatten ++ junk) (Sort.putCells encStr 0 m.toArray arr) := by
  rw [flat_strL] at hV ⊢
  have hs := hV.1
  rw [List.length_append, List.length_map] at hs
  refine ⟨by simp [Sort.putCells, hs, hl], fun j c x hc hx => ?_⟩
  simp only [Sort.putCells, Array.getElem?_mapIdx, Option.map_eq_some_iff] at hx
  obtain ⟨y, hy, rfl⟩ := hx
  by_cases hj : j < m.length
  · rw [List.getElem?_append_left (by simpa using hj)] at hc
    simp [hj] at hc
    subst hc
    have h2 : 0 ≤ j ∧ j < 0 + m.toArray.size := by simpa using hj
    rw [if_pos h2]
    simp [encStr, hj]
    exact .str _
  · have h2 : ¬ (0 ≤ j ∧ j < 0 + m.toArray.size) := by simp; omega
    rw [if_neg h2]
    rw [List.getElem?_append_right (by simp; omega), List.length_map, hl] at hc
    refine hV.2 j c y ?_ hy
    rw [List.getElem?_append_right (by simp; omega), List.length_map]
    exact hc
end
def sortS (l : List Str) : List Str := l.mergeSort fun x y => decide (x ≤ y)
theorem sort66 {H : AH} {l : List Str} {v : PV} {ids : List Nat} (h : RowN H strL 1 l v ids) (hl : l.length < 4611686018427387904) : MCall Tryz.prog 66 [v] H fun _ H' => RowN H' strL 1 (sortS l) v ids ∧ HF ids H H' ∧ ∀ c, okc H c → okc H' c := by
  refine ⟨⟨_, Tryz.func66, rfl, by kernel_rfl⟩, fun B G w vs hU hM hv => ?_⟩
  obtain ⟨u, rfl, hu⟩ : ∃ u, vs = #[u] ∧ V G H.next v u := by
    obtain ⟨h1, h2⟩ := hv
    match vs, h1, h2 with
    | ⟨[u]⟩, _, h2 => exact ⟨u, rfl, h2 0 v u rfl rfl⟩
  rcases h with ⟨rfl, rfl, rfl⟩ | ⟨id, cap, junk, rfl, rfl, h2, h3, h4, h5⟩
  · rw [nil_V hu]
    refine (Tryz.slices_Sort_string_none none 0 w).mono ?_
    rintro e w' ⟨rfl, rfl⟩
    exact ⟨.tup [], _, H, G, rfl, Tr.refl _ _, Ext.refl _ _ _, Nat.le_refl _, hM, .tup [] #[] rfl (fun j c x e => by simp at e), .inl ⟨rfl, by simp [sortS], rfl⟩, HF.refl _ _, fun _ h => h⟩
  · obtain ⟨b, _, hm, rfl⟩ := msl_V hu
    obtain ⟨_, b', arr, t, k1, k2, k3, k4, k5⟩ := hM.obj id _ h4
    obtain rfl : b' = b := by rw [hm] at k1; exact (Option.some.inj k1).symm
    have hlt := hM.lt k3
    refine (Tryz.slices_Sort_string b' 0 cap l w (holds_row k3 k4) hlt hl).mono ?_
    rintro e w' ⟨rfl, n, os, rfl⟩
    have hlen : (sortS l).length = l.length := List.length_mergeSort _
    obtain ⟨e1, e2⟩ := hM.putRow (cs' := ((sortS l).map strL).flatten ++ junk) (sortS l).toArray n os h4 hm k3 (put_Vs hlen k4)
    refine ⟨.tup [], _, H.put id (((sortS l).map strL).flatten ++ junk), G, rfl, e2, Ext.refl _ _ _, Nat.le_refl _, e1, .tup [] #[] rfl (fun j c x e => by simp at e), .inr ⟨id, cap, junk, rfl, by rw [hlen], by rw [hlen]; exact h2, h3, ?_, by rw [hlen]; exact h5⟩, HF.put (.inl (List.mem_singleton.2 rfl)) (HF.refl _ _), fun c hc => hc.put⟩
    show (if id = id then some _ else _) = _
    rw [if_pos rfl]
theorem compact_le (l : List Str) : (Lib.compact l).length ≤ l.length := Lib.compact_length_le l
theorem compact119 {H : AH} {l : List Str} {v : PV} {ids : List Nat} (h : RowN H strL 1 l v ids) (hl : l.length < 4611686018427387904) : MCall Tryz.prog 119 [v] H fun r H' => RowN H' strL 1 (Lib.compact l) r ids ∧ HF ids H H' ∧ ∀ c, okc H c → okc H' c := by
  refine ⟨⟨_, Tryz.func119, rfl, by kernel_rfl⟩, fun B G w vs hU hM hv => ?_⟩
  obtain ⟨u, rfl, hu⟩ : ∃ u, vs = #[u] ∧ V G H.next v u := by
    obtain ⟨h1, h2⟩ := hv
    match vs, h1, h2 with
    | ⟨[u]⟩, _, h2 => exact ⟨u, rfl, h2 0 v u rfl rfl⟩
  rcases h with ⟨rfl, rfl, rfl⟩ | ⟨id, cap, junk, rfl, rfl, h2, h3, h4, h5⟩
  · rw [nil_V hu]
    refine (Tryz.slices_Compact_string_empty none 0 w).mono ?_
    rintro e w' ⟨rfl, rfl⟩
    exact ⟨.isl [] .nil, _, H, G, rfl, Tr.refl _ _, Ext.refl _ _ _, Nat.le_refl _, hM, nil_V hu ▸ hu, .inl ⟨rfl, rfl, rfl⟩, HF.refl _ _, fun _ h => h⟩
  · obtain ⟨b, _, hm, rfl⟩ := msl_V hu
    obtain ⟨_, b', arr, t, k1, k2, k3, k4, k5⟩ := hM.obj id _ h4
    obtain rfl : b' = b := by rw [hm] at k1; exact (Option.some.inj k1).symm
    refine (Tryz.slices_Compact_string b' 0 cap l w (holds_row k3 k4) (by omega) h2).mono ?_
    rintro e w' ⟨rfl, q, rfl⟩
    have hc := compact_le l
    have hlen : (Lib.compact l ++ List.replicate (l.length - (Lib.compact l).length) []).length = l.length := by rw [List.length_append, List.length_replicate]; omega
    obtain ⟨e1, e2⟩ := hM.putRow (cs' := ((Lib.compact l ++ List.replicate (l.length - (Lib.compact l).length) []).map strL).flatten ++ junk) (Lib.compact l ++ List.replicate (l.length - (Lib.compact l).length) []).toArray q #[] h4 hm k3 (put_Vs hlen k4)
    rw [Sort.grow_empty] at e1 e2
    refine ⟨.msl id 0 (Lib.compact l).length cap 1, _, H.put id (((Lib.compact l ++ List.replicate (l.length - (Lib.compact l).length) []).map strL).flatten ++ junk), G, rfl, e2, Ext.refl _ _ _, Nat.le_refl _, e1, .msl _ _ _ _ _ b' h3 hm, .inr ⟨id, cap, (List.replicate (l.length - (Lib.compact l).length) ([] : Str)).map PV.str ++ junk, rfl, rfl, by omega, h3, ?_, ?_⟩, HF.put (.inl (List.mem_singleton.2 rfl)) (HF.refl _ _), fun c hc => hc.put⟩
    · show (if id = id then some _ else _) = _
      rw [if_pos rfl, flat_strL, List.map_append, flat_strL, List.append_assoc]
    · rw [List.length_append, List.length_map, List.length_replicate, h5]
      omega
end Go.VL
end
section
set_option maxRecDepth 8000
namespace Go.VL
open Go.Proofs
def t_free (k : Nat) (e : List Nd) : Option (List Str) :=
  Option.bind (walkF (freeStep k e) e k (IntKind.wrap .i64 ((e.length : Int) - 1)) [] []) fun out => if out.length < 4611686018427387904 then some (setS out) else none
theorem t_free_c (k : Nat) (e : List Nd) {c : Ck} {r : List Str} (h : t_free k e = some r) : PCall Tryz.prog 68 [.isl (e.map Nd.cells) c] (.isl (r.map strL) .unk) := by
  refine PCall.wk (args := [exprPV e]) ?_ (.isl .nil)
  refine PCall.of_empty (PuL.mem (.cons (pu_sl Nd.pu _) .nil)) (MCall_of_W ok68 (by simp) (W_start ?_)) (pu_sl pu_strL _)
  unfold t_free at h
  cases e1 : walkF (freeStep k e) e k (IntKind.wrap .i64 ((e.length : Int) - 1)) [] [] with
  | none => rw [bind_N e1] at h; cases h
  | some out =>
  rw [bind_S e1] at h
  by_cases e2 : out.length < 4611686018427387904
  case neg => rw [if_neg e2] at h; cases h
  rw [if_pos e2] at h
  have h := Option.some.inj h; subst h
  unfold ac68
  simp -implicitDefEqProofs only [go_sem, ↓reduceIte, Nat.reduceEqDiff, Nat.reduceAdd, List.length_map]
  have hS : FreeS e (AH.empty.next) (AH.empty.next + 1) [] ((AH.empty.new [exprPV e]).new [.isl [] .nil]) := by
    refine ⟨(show 0 < 2 by omega), (show 1 < 2 by omega), by decide, rfl, .isl [] .nil, [], rfl, RowN.nil, List.not_mem_nil, List.not_mem_nil⟩
  refine MCall.mono (MCall.wk (walk70 (free_visit k e _ _) e k _ [] [] out _ hS e1) (.same (.same (.isl (.same .nil))))) fun r H1 hS1 => ?_
  obtain ⟨h1, h2, h3, h4, v, ids, h5, h6, h7, h8⟩ := hS1
  simp -implicitDefEqProofs only [go_sem, ↓reduceIte, Nat.reduceEqDiff, h5]
  refine MCall.mono (sort66 h6 e2) fun r2 H2 ⟨g1, g2, g3⟩ => ?_
  have h5' : H2.obj (AH.empty.next + 1) = some [v] := (g2.2 _ h2 h8).trans h5
  simp -implicitDefEqProofs only [go_sem, ↓reduceIte, Nat.reduceEqDiff, h5']
  refine MCall.mono (compact119 g1 (by rw [show (sortS out).length = out.length from List.length_mergeSort _]; exact e2)) fun r3 H3 ⟨f1, f2, f3⟩ => ?_
  simp -implicitDefEqProofs only [go_sem, ↓reduceIte, Nat.reduceEqDiff]
  have hc : Lib.compact (sortS out) = setS out := compact_sort out
  rw [← hc]
  exact f1.fz pu_strL
end Go.VL
end
section
namespace Go.VL
open Go.Proofs
def noS2 {α β : Type} (a : α) (b : β) : Option Str := none
def noS3 {α β γ : Type} (a : α) (b : β) (c : γ) : Option Str := none
theorem no2_c {α β : Type} (a : α) (b : β) {f : FuncId} {r : Str} {args : List PV} (h : noS2 a b = some r) : PCall Tryz.prog f args (.str r) := by cases h
theorem no3_c {α β γ : Type} (a : α) (b : β) (c : γ) {f : FuncId} {r : Str} {args : List PV} (h : noS3 a b c = some r) : PCall Tryz.prog f args (.str r) := by cases h
end Go.VL
end
