/- Part 4 of the proof: what the theorem rests on. -/
import Derived.Test.YthebklihgmhgoaaGreatDoorKd3
import Derived.KernelRfl
import Derived.Below
set_option linter.unusedVariables false
set_option linter.unusedSectionVars false
set_option linter.unusedSimpArgs false
section
set_option maxRecDepth 8000
set_option maxHeartbeats 4000000
namespace Go.VL
open Go.Proofs
def b_One (is_0 : Bool) : Option Int :=
  cond is_0 (some 1) (some 0)
theorem b_One_c {is_0 : Bool} {r : Int} (h : b_One is_0 = some r) : PCall Tryz.prog 23 [(.bool is_0)] (.int .i64 r) := by
  refine PCall.of_empty (PuL.mem (.cons (.bool _) .nil)) (MCall_of_W ok23 (by simp) (W_start ?_)) (.int _ _); unfold b_One at h; unfold ac23; rcases cond_E h with ⟨e1, h⟩ | ⟨e1, h⟩
  ·obtain rfl := som_E h; try refine gos_ ?_
   exact (.pure _ (.int _ _))
  ·obtain rfl := som_E h; try refine gos_ ?_
   exact (.pure _ (.int _ _))
def b_Between (n_0 : Int) (low_1 : Int) (high_2 : Int) : Option Bool :=
  cond (decide (n_0 >= low_1)) (some (decide (n_0 <= high_2))) (some false)
theorem b_Between_c {n_0 : Int} {low_1 : Int} {high_2 : Int} {r : Bool} (h : b_Between n_0 low_1 high_2 = some r) : PCall Tryz.prog 35 [(.int .i64 n_0), (.int .i64 low_1), (.int .i64 high_2)] (.bool r) := by
  refine PCall.of_empty (PuL.mem (.cons (.int _ _) (.cons (.int _ _) (.cons (.int _ _) .nil)))) (MCall_of_W ok35 (by simp) (W_start ?_)) (.bool _); unfold b_Between at h; unfold ac35; rcases cond_E h with ⟨e1, h⟩ | ⟨e1, h⟩
  ·obtain rfl := som_E h; try refine gos_ ?_
   exact (.pure _ (.bool _))
  ·obtain rfl := som_E h; try refine gos_ ?_
   exact (.pure _ (.bool _))
def b_Contains_b0 : Nat -> (List Str) -> Str -> Int -> Option (Unit ⊕ Bool)
  | 0, _, _, _ => none
  | k + 1, l_0, s_1, i_5 =>
    cond (decide (i_5 < (l_0.length : Int))) (if 0 <= i_5 then Option.bind (l_0[i_5.toNat]?) fun x3 => cond (x3 == s_1) (some (.inr (true))) (b_Contains_b0 k l_0 s_1 (IntKind.wrap .i64 (i_5 + 1))) else none) (some (.inl ()))
def b_Contains_b0l : List Nat := [4, 5, 6, 7, 8, 9, 10, 11, 12, 13, 14, 15, 16, 17]
theorem b_Contains_b0_W : ∀ (k : Nat) (l_0 : List Str) (s_1 : Str) (i_5 : Int) (σ0 σ : Nat -> PV) (H : AH) (f0 : Fr b_Contains_b0l σ0 σ) (sl : σ 0 = (.isl (l_0.map strL) .unk) /\ σ 1 = (.str s_1) /\ σ 5 = (.int .i64 i_5)) (o : Unit ⊕ Bool) (h : b_Contains_b0 k l_0 s_1 i_5 = some o) (Q : Post) (q0 : ∀ (p : Unit) (σ' : Nat -> PV), o = .inl p -> Fr b_Contains_b0l σ0 σ' -> Q (.exit 0) σ' H) (q1 : ∀ (p : Bool) (σ' : Nat -> PV), o = .inr (p) -> Fr b_Contains_b0l σ0 σ' -> (σ' 4 = (.bool p)) -> Q .ret σ' H) , W Tryz.prog (.loop ac31_b0) Q σ H := by
  intro k
  induction k with
  | zero => intro l_0 s_1 i_5 σ0 σ H f0 sl o h Q q0 q1; simp only [b_Contains_b0, reduceCtorEq] at h
  | succ k ih =>
    intro l_0 s_1 i_5 σ0 σ H f0 sl o h Q q0 q1; obtain ⟨s0, s1, s5⟩ := sl; unfold b_Contains_b0 at h; refine W_loopK (fun K hK => W_start ?_); unfold ac31_b0; rcases cond_E h with ⟨e1, h⟩ | ⟨e1, h⟩
    ·obtain ⟨e2, h⟩ := if_E h; obtain ⟨x3, e4, h⟩ := bind_E h; rcases cond_E h with ⟨e5, h⟩ | ⟨e5, h⟩
     ·obtain rfl := som_E h; try refine gos_ ?_
      exact q1 _ _ rfl fr_ sls_
     ·try refine gos_ ?_
      refine hK _ _ ?_; exact ih l_0 s_1 (IntKind.wrap .i64 (i_5 + 1)) _ _ _ fr_ sls_ _ h _ q0 q1
    ·obtain rfl := som_E h; try refine gos_ ?_
     exact q0 _ _ rfl fr_
def b_Contains (k : Nat) (l_0 : List Str) (s_1 : Str) : Option Bool :=
  Option.bind (b_Contains_b0 k l_0 s_1 0) (fun o => Sum.elim (fun p8 => some false) (fun p12 => some p12) o)
theorem b_Contains_c {k : Nat} {l_0 : List Str} {s_1 : Str} {c0 : Ck} {r : Bool} (h : b_Contains k l_0 s_1 = some r) : PCall Tryz.prog 31 [(.isl (l_0.map strL) c0), (.str s_1)] (.bool r) := by
  refine PCall.lw (.isl (.same .nil)) (PCall.of_empty (PuL.mem (.cons (pu_sl pu_strL _) (.cons (.str _) .nil))) (MCall_of_W ok31 (by simp) (W_start ?_)) (.bool _)); unfold b_Contains at h; unfold ac31; try refine gos_ ?_
  obtain ⟨o6, h7, h⟩ := bind_E h; refine b_Contains_b0_W k l_0 s_1 0 _ _ _ (Fr.refl _ _) sls_ _ h7 _ ?_ ?_
  ·rintro p8 σ' eo fr9; subst eo; rw [sum_L] at h; obtain rfl := som_E h; try refine gos_ ?_
   exact (.pure _ (.bool _))
  ·rintro p12 σ' eo fr13 s16; subst eo; rw [sum_R] at h; obtain rfl := som_E h; try refine gos_ ?_
   exact (.pure _ (.bool _))
def r_Table_b0 : Nat -> (List Operator) -> (List Operator) -> Int -> Option (List Operator)
  | 0, _, _, _ => none
  | k + 1, out_1, add_2, i_3 =>
    cond (decide (i_3 < (add_2.length : Int))) (if 0 <= i_3 then Option.bind (add_2[i_3.toNat]?) fun x3 => Option.bind (b_One (x3.fix == 1)) fun p6 => cond (x3.text == ([92, 88] : Str)) (if (out_1.length + 1) * 64 <= 1099511627776 then r_Table_b0 k (out_1 ++ [(Operator.mk x3.text x3.fix x3.low x3.high x3.left (IntKind.wrap .i64 (1 + p6)) 4)]) add_2 (IntKind.wrap .i64 (i_3 + 1)) else none) (if (out_1.length + 1) * 64 <= 1099511627776 then r_Table_b0 k (out_1 ++ [(Operator.mk x3.text x3.fix x3.low x3.high x3.left (IntKind.wrap .i64 (1 + p6)) (IntKind.wrap .i64 (1 + p6)))]) add_2 (IntKind.wrap .i64 (i_3 + 1)) else none) else none) (some (out_1))
def r_Table_b0l : List Nat := [1, 3, 4, 48, 49, 50, 51, 52, 53, 54, 55, 56, 57, 58, 59, 60, 61, 62, 63, 64, 65, 66, 67, 68, 69, 70, 71, 72, 73, 74]
theorem r_Table_b0_W : ∀ (k : Nat) (out_1 : List Operator) (add_2 : List Operator) (i_3 : Int) (c_out_1_b0 : Ck) (c_add_2_b0 : Ck) (σ0 σ : Nat -> PV) (H0 H : AH) (f0 : Fr r_Table_b0l σ0 σ) (hf0 : HF [] H0 H) (sl : σ 1 = (.isl (out_1.map Operator.cells) c_out_1_b0) /\ σ 2 = (.isl (add_2.map Operator.cells) c_add_2_b0) /\ σ 3 = (.int .i64 i_3)) (ok_out_1 : okc H c_out_1_b0) (o : List Operator) (h : r_Table_b0 k out_1 add_2 i_3 = some o) (Q : Post) (q0 : ∀ (p : List Operator) (c0 : Ck) (σ' : Nat -> PV) (H' : AH), o = p -> Fr r_Table_b0l σ0 σ' -> HF [] H0 H' -> (σ' 1 = (.isl (p.map Operator.cells) c0)) -> Q (.exit 0) σ' H') , W Tryz.prog (.loop ac64_b0) Q σ H := by
  intro k
  induction k with
  | zero => intro out_1 add_2 i_3 c_out_1_b0 c_add_2_b0 σ0 σ H0 H f0 hf0 sl ok_out_1 o h Q q0; simp only [r_Table_b0, reduceCtorEq] at h
  | succ k ih =>
    intro out_1 add_2 i_3 c_out_1_b0 c_add_2_b0 σ0 σ H0 H f0 hf0 sl ok_out_1 o h Q q0; obtain ⟨s1, s2, s3⟩ := sl; have hle0 := hf0.1; unfold r_Table_b0 at h; refine W_loopK (fun K hK => W_start ?_); unfold ac64_b0; rcases cond_E h with ⟨e1, h⟩ | ⟨e1, h⟩
    ·obtain ⟨e2, h⟩ := if_E h; obtain ⟨x3, e4, h⟩ := bind_E h; obtain ⟨p6, e5, h⟩ := bind_E h; try refine gos_ ?_
     refine mcall_pure (b_One_c e5) ?_; rcases cond_E h with ⟨e7, h⟩ | ⟨e7, h⟩
     ·obtain ⟨e12, h⟩ := if_E h; try refine gos_ ?_
      refine WO_app (f := Operator.cells) Operator.row out_1 ([(Operator.mk x3.text x3.fix x3.low x3.high x3.left (IntKind.wrap .i64 (1 + p6)) 4)] : List Operator) c_out_1_b0 .exact sls_ sls_ ok_ (by first | exact e12 | (simp only [List.length_cons, List.length_nil] ; exact e12)) (fun c8 H9 ok10 le ob13 rl11 => ?_); have hf14 : HF [] _ H9 := ⟨le, fun i _ _ => ob13 i⟩; try simp only [AH.new_next, AH.put_next, AH.tok_next, AH.use_next] at le
      have n22 := ne_next (show H.next < H9.next by first | omega | (simp only [AH.new_next, AH.put_next, AH.tok_next, AH.use_next]; omega)); have m23 := ne_add (show H.next < H9.next by first | omega | (simp only [AH.new_next, AH.put_next, AH.tok_next, AH.use_next]; omega)); try refine gos_ ?_
      refine hK _ _ ?_; exact ih (out_1 ++ [(Operator.mk x3.text x3.fix x3.low x3.high x3.left (IntKind.wrap .i64 (1 + p6)) 4)]) add_2 (IntKind.wrap .i64 (i_3 + 1)) c8 c_add_2_b0 _ _ _ _ fr_ (by repeat (first | exact hf0 | refine HF.new ?_ | refine HF.tokd ?_ | refine HF.used ?_ | refine HF.put (by first | (right; omega) | (left; simp only [List.mem_cons, true_or, or_true])) ?_ | refine HF.via hf14 (by first | exact fun i hi => absurd hi List.not_mem_nil | (intro i hi; simp only [List.mem_cons, List.not_mem_nil, or_false] at hi ⊢; first | exact .inl hi | omega)) ?_)) sls_ ok_ _ h _ q0
     ·obtain ⟨e19, h⟩ := if_E h; try refine gos_ ?_
      refine WO_app (f := Operator.cells) Operator.row out_1 ([(Operator.mk x3.text x3.fix x3.low x3.high x3.left (IntKind.wrap .i64 (1 + p6)) (IntKind.wrap .i64 (1 + p6)))] : List Operator) c_out_1_b0 .exact sls_ sls_ ok_ (by first | exact e19 | (simp only [List.length_cons, List.length_nil] ; exact e19)) (fun c15 H16 ok17 le ob20 rl18 => ?_); have hf21 : HF [] _ H16 := ⟨le, fun i _ _ => ob20 i⟩; try simp only [AH.new_next, AH.put_next, AH.tok_next, AH.use_next] at le
      have n24 := ne_next (show H.next < H16.next by first | omega | (simp only [AH.new_next, AH.put_next, AH.tok_next, AH.use_next]; omega)); have m25 := ne_add (show H.next < H16.next by first | omega | (simp only [AH.new_next, AH.put_next, AH.tok_next, AH.use_next]; omega)); try refine gos_ ?_
      refine hK _ _ ?_; exact ih (out_1 ++ [(Operator.mk x3.text x3.fix x3.low x3.high x3.left (IntKind.wrap .i64 (1 + p6)) (IntKind.wrap .i64 (1 + p6)))]) add_2 (IntKind.wrap .i64 (i_3 + 1)) c15 c_add_2_b0 _ _ _ _ fr_ (by repeat (first | exact hf0 | refine HF.new ?_ | refine HF.tokd ?_ | refine HF.used ?_ | refine HF.put (by first | (right; omega) | (left; simp only [List.mem_cons, true_or, or_true])) ?_ | refine HF.via hf21 (by first | exact fun i hi => absurd hi List.not_mem_nil | (intro i hi; simp only [List.mem_cons, List.not_mem_nil, or_false] at hi ⊢; first | exact .inl hi | omega)) ?_)) sls_ ok_ _ h _ q0
    ·obtain rfl := som_E h; try refine gos_ ?_
     exact q0 _ c_out_1_b0 _ _ rfl fr_ (by repeat (first | exact hf0 | refine HF.new ?_ | refine HF.tokd ?_ | refine HF.used ?_ | refine HF.put (by first | (right; omega) | (left; simp only [List.mem_cons, true_or, or_true])) ?_)) sls_
def r_Table (k : Nat) : Option (List Operator) :=
  Option.bind (r_Table_b0 k ([] : List Operator) [(Operator.mk ([126] : Str) 0 4 4 false 0 0), (Operator.mk ([69, 78, 65, 66, 76, 69, 68] : Str) 0 4 15 false 0 0), (Operator.mk ([85, 78, 67, 72, 65, 78, 71, 69, 68] : Str) 0 4 15 false 0 0), (Operator.mk ([91, 93] : Str) 0 4 15 false 0 0), (Operator.mk ([60, 62] : Str) 0 4 15 false 0 0), (Operator.mk ([83, 85, 66, 83, 69, 84] : Str) 0 8 8 false 0 0), (Operator.mk ([85, 78, 73, 79, 78] : Str) 0 8 8 false 0 0), (Operator.mk ([68, 79, 77, 65, 73, 78] : Str) 0 9 9 false 0 0), (Operator.mk ([45, 46] : Str) 0 12 12 false 0 0), (Operator.mk ([61, 62] : Str) 1 1 1 false 0 0), (Operator.mk ([60, 61, 62] : Str) 1 2 2 false 0 0), (Operator.mk ([126, 62] : Str) 1 2 2 false 0 0), (Operator.mk ([47, 92] : Str) 1 3 3 true 0 0), (Operator.mk ([92, 47] : Str) 1 3 3 true 0 0), (Operator.mk ([61] : Str) 1 5 5 false 0 0), (Operator.mk ([35] : Str) 1 5 5 false 0 0), (Operator.mk ([60] : Str) 1 5 5 false 0 0), (Operator.mk ([60, 61] : Str) 1 5 5 false 0 0), (Operator.mk ([62] : Str) 1 5 5 false 0 0), (Operator.mk ([62, 61] : Str) 1 5 5 false 0 0), (Operator.mk ([92, 105, 110] : Str) 1 5 5 false 0 0), (Operator.mk ([92, 110, 111, 116, 105, 110] : Str) 1 5 5 false 0 0), (Operator.mk ([92, 115, 117, 98, 115, 101, 116, 101, 113] : Str) 1 5 5 false 0 0), (Operator.mk ([92, 115, 113, 115, 117, 98, 115, 101, 116, 101, 113] : Str) 1 5 5 false 0 0), (Operator.mk ([64, 64] : Str) 1 6 6 true 0 0), (Operator.mk ([58, 62] : Str) 1 7 7 false 0 0), (Operator.mk ([92, 99, 100, 111, 116] : Str) 1 5 14 true 0 0), (Operator.mk ([92, 99, 117, 112] : Str) 1 8 8 true 0 0), (Operator.mk ([92, 99, 97, 112] : Str) 1 8 8 true 0 0), (Operator.mk ([92] : Str) 1 8 8 false 0 0), (Operator.mk ([46, 46] : Str) 1 9 9 false 0 0), (Operator.mk ([43] : Str) 1 10 10 true 0 0), (Operator.mk ([40, 43, 41] : Str) 1 10 10 true 0 0), (Operator.mk ([37] : Str) 1 10 11 false 0 0), (Operator.mk ([92, 88] : Str) 1 10 13 false 0 0), (Operator.mk ([45] : Str) 1 11 11 true 0 0), (Operator.mk ([40, 45, 41] : Str) 1 11 11 true 0 0), (Operator.mk ([42] : Str) 1 13 13 true 0 0), (Operator.mk ([92, 100, 105, 118] : Str) 1 13 13 false 0 0), (Operator.mk ([92, 111] : Str) 1 13 13 true 0 0), (Operator.mk ([94] : Str) 1 14 14 false 0 0), (Operator.mk ([39] : Str) 2 15 15 false 0 0)] 0) (fun p28 => some p28)
theorem r_Table_c {k : Nat} {r : List Operator} (h : r_Table k = some r) : PCall Tryz.prog 64 [] (.isl (r.map Operator.cells) .unk) := by
  refine PCall.of_empty (PuL.mem .nil) (MCall_of_W ok64 (by simp) (W_start ?_)) (pu_sl Operator.pu _); unfold r_Table at h; unfold ac64; try refine gos_ ?_
  obtain ⟨o26, h27, h⟩ := bind_E h; refine r_Table_b0_W k ([] : List Operator) [(Operator.mk ([126] : Str) 0 4 4 false 0 0), (Operator.mk ([69, 78, 65, 66, 76, 69, 68] : Str) 0 4 15 false 0 0), (Operator.mk ([85, 78, 67, 72, 65, 78, 71, 69, 68] : Str) 0 4 15 false 0 0), (Operator.mk ([91, 93] : Str) 0 4 15 false 0 0), (Operator.mk ([60, 62] : Str) 0 4 15 false 0 0), (Operator.mk ([83, 85, 66, 83, 69, 84] : Str) 0 8 8 false 0 0), (Operator.mk ([85, 78, 73, 79, 78] : Str) 0 8 8 false 0 0), (Operator.mk ([68, 79, 77, 65, 73, 78] : Str) 0 9 9 false 0 0), (Operator.mk ([45, 46] : Str) 0 12 12 false 0 0), (Operator.mk ([61, 62] : Str) 1 1 1 false 0 0), (Operator.mk ([60, 61, 62] : Str) 1 2 2 false 0 0), (Operator.mk ([126, 62] : Str) 1 2 2 false 0 0), (Operator.mk ([47, 92] : Str) 1 3 3 true 0 0), (Operator.mk ([92, 47] : Str) 1 3 3 true 0 0), (Operator.mk ([61] : Str) 1 5 5 false 0 0), (Operator.mk ([35] : Str) 1 5 5 false 0 0), (Operator.mk ([60] : Str) 1 5 5 false 0 0), (Operator.mk ([60, 61] : Str) 1 5 5 false 0 0), (Operator.mk ([62] : Str) 1 5 5 false 0 0), (Operator.mk ([62, 61] : Str) 1 5 5 false 0 0), (Operator.mk ([92, 105, 110] : Str) 1 5 5 false 0 0), (Operator.mk ([92, 110, 111, 116, 105, 110] : Str) 1 5 5 false 0 0), (Operator.mk ([92, 115, 117, 98, 115, 101, 116, 101, 113] : Str) 1 5 5 false 0 0), (Operator.mk ([92, 115, 113, 115, 117, 98, 115, 101, 116, 101, 113] : Str) 1 5 5 false 0 0), (Operator.mk ([64, 64] : Str) 1 6 6 true 0 0), (Operator.mk ([58, 62] : Str) 1 7 7 false 0 0), (Operator.mk ([92, 99, 100, 111, 116] : Str) 1 5 14 true 0 0), (Operator.mk ([92, 99, 117, 112] : Str) 1 8 8 true 0 0), (Operator.mk ([92, 99, 97, 112] : Str) 1 8 8 true 0 0), (Operator.mk ([92] : Str) 1 8 8 false 0 0), (Operator.mk ([46, 46] : Str) 1 9 9 false 0 0), (Operator.mk ([43] : Str) 1 10 10 true 0 0), (Operator.mk ([40, 43, 41] : Str) 1 10 10 true 0 0), (Operator.mk ([37] : Str) 1 10 11 false 0 0), (Operator.mk ([92, 88] : Str) 1 10 13 false 0 0), (Operator.mk ([45] : Str) 1 11 11 true 0 0), (Operator.mk ([40, 45, 41] : Str) 1 11 11 true 0 0), (Operator.mk ([42] : Str) 1 13 13 true 0 0), (Operator.mk ([92, 100, 105, 118] : Str) 1 13 13 false 0 0), (Operator.mk ([92, 111] : Str) 1 13 13 true 0 0), (Operator.mk ([94] : Str) 1 14 14 false 0 0), (Operator.mk ([39] : Str) 2 15 15 false 0 0)] 0 .nil .exact _ _ _ _ (Fr.refl _ _) (HF.refl _ _) sls_ ok_ _ h27 _ ?_
  ·rintro p28 c32 σ' H31 eo fr29 hf30 s33; rw [eo] at h; have le := hf30.1; try simp only [AH.new_next, AH.put_next, AH.tok_next, AH.use_next] at le
   obtain rfl := som_E h; try refine gos_ ?_
   exact (fz_sl Operator.pu p28 _)
def r_OperatorOf_b0 : Nat -> Str -> Str -> Int -> Int -> Int -> Bool -> Int -> Int -> (List Operator) -> Int -> Option ((Str × Int × Int × Int × Bool × Int × Int) ⊕ (Bool × Str × Int × Int × Int × Bool × Int × Int))
  | 0, _, _, _, _, _, _, _, _, _, _ => none
  | k + 1, text_0, t_2_0, t_2_1, t_2_2, t_2_3, t_2_4, t_2_5, t_2_6, t_4, i_5 =>
    cond (decide (i_5 < (t_4.length : Int))) (if 0 <= i_5 then Option.bind (t_4[i_5.toNat]?) fun x5 => cond (x5.text == text_0) (some (.inr ((true, x5.text, x5.fix, x5.low, x5.high, x5.left, x5.least, x5.most)))) (r_OperatorOf_b0 k text_0 t_2_0 t_2_1 t_2_2 t_2_3 t_2_4 t_2_5 t_2_6 t_4 (IntKind.wrap .i64 (i_5 + 1))) else none) (some (.inl (t_2_0, t_2_1, t_2_2, t_2_3, t_2_4, t_2_5, t_2_6)))
def r_OperatorOf_b0l : List Nat := [3, 5, 7, 8, 9, 10, 11, 12, 13, 14, 15, 16, 17, 18, 19, 20, 21, 22, 23]
theorem r_OperatorOf_b0_W : ∀ (k : Nat) (o_t_2 : Nat) (text_0 : Str) (t_2_0 : Str) (t_2_1 : Int) (t_2_2 : Int) (t_2_3 : Int) (t_2_4 : Bool) (t_2_5 : Int) (t_2_6 : Int) (t_4 : List Operator) (i_5 : Int) (σ0 σ : Nat -> PV) (H0 H : AH) (f0 : Fr r_OperatorOf_b0l σ0 σ) (hf0 : HF [o_t_2] H0 H) (sl : σ 0 = (.str text_0) /\ σ 2 = (.ref (o_t_2) 0) /\ σ 4 = (.isl (t_4.map Operator.cells) .unk) /\ σ 5 = (.int .i64 i_5) /\ H.obj o_t_2 = some [(.str t_2_0), (.int .i64 t_2_1), (.int .i64 t_2_2), (.int .i64 t_2_3), (.bool t_2_4), (.int .i64 t_2_5), (.int .i64 t_2_6)]) (l_o_t_2 : o_t_2 < H.next) (o : (Str × Int × Int × Int × Bool × Int × Int) ⊕ (Bool × Str × Int × Int × Int × Bool × Int × Int)) (h : r_OperatorOf_b0 k text_0 t_2_0 t_2_1 t_2_2 t_2_3 t_2_4 t_2_5 t_2_6 t_4 i_5 = some o) (Q : Post) (q0 : ∀ (p : Str × Int × Int × Int × Bool × Int × Int) (σ' : Nat -> PV) (H' : AH), o = .inl p -> Fr r_OperatorOf_b0l σ0 σ' -> HF [o_t_2] H0 H' -> (H'.obj o_t_2 = some [(.str p.1), (.int .i64 p.2.1), (.int .i64 p.2.2.1), (.int .i64 p.2.2.2.1), (.bool p.2.2.2.2.1), (.int .i64 p.2.2.2.2.2.1), (.int .i64 p.2.2.2.2.2.2)]) -> Q (.exit 0) σ' H') (q1 : ∀ (p : Bool × Str × Int × Int × Int × Bool × Int × Int) (σ' : Nat -> PV) (H' : AH), o = .inr (p) -> Fr r_OperatorOf_b0l σ0 σ' -> HF [o_t_2] H0 H' -> (σ' 3 = (.bool p.1) /\ H'.obj o_t_2 = some [(.str p.2.1), (.int .i64 p.2.2.1), (.int .i64 p.2.2.2.1), (.int .i64 p.2.2.2.2.1), (.bool p.2.2.2.2.2.1), (.int .i64 p.2.2.2.2.2.2.1), (.int .i64 p.2.2.2.2.2.2.2)]) -> Q .ret σ' H') , W Tryz.prog (.loop ac27_b0) Q σ H := by
  intro k
  induction k with
  | zero => intro o_t_2 text_0 t_2_0 t_2_1 t_2_2 t_2_3 t_2_4 t_2_5 t_2_6 t_4 i_5 σ0 σ H0 H f0 hf0 sl l_o_t_2 o h Q q0 q1; simp only [r_OperatorOf_b0, reduceCtorEq] at h
  | succ k ih =>
    intro o_t_2 text_0 t_2_0 t_2_1 t_2_2 t_2_3 t_2_4 t_2_5 t_2_6 t_4 i_5 σ0 σ H0 H f0 hf0 sl l_o_t_2 o h Q q0 q1; obtain ⟨s0, s2, s4, s5, g_o_t_2⟩ := sl; have n_o_t_2 := ne_next l_o_t_2; have m_o_t_2 := ne_add l_o_t_2; have hle0 := hf0.1; unfold r_OperatorOf_b0 at h; refine W_loopK (fun K hK => W_start ?_); unfold ac27_b0; rcases cond_E h with ⟨e3, h⟩ | ⟨e3, h⟩
    ·obtain ⟨e4, h⟩ := if_E h; obtain ⟨x5, e6, h⟩ := bind_E h; rcases cond_E h with ⟨e7, h⟩ | ⟨e7, h⟩
     ·obtain rfl := som_E h; try refine gos_ ?_
      exact q1 _ _ _ rfl fr_ (by repeat (first | exact hf0 | refine HF.new ?_ | refine HF.tokd ?_ | refine HF.used ?_ | refine HF.put (by first | (right; omega) | (left; simp only [List.mem_cons, true_or, or_true])) ?_)) sls_
     ·try refine gos_ ?_
      refine hK _ _ ?_; exact ih o_t_2 text_0 t_2_0 t_2_1 t_2_2 t_2_3 t_2_4 t_2_5 t_2_6 t_4 (IntKind.wrap .i64 (i_5 + 1)) _ _ _ _ fr_ (by repeat (first | exact hf0 | refine HF.new ?_ | refine HF.tokd ?_ | refine HF.used ?_ | refine HF.put (by first | (right; omega) | (left; simp only [List.mem_cons, true_or, or_true])) ?_)) sls_ om_ _ h _ q0 q1
    ·obtain rfl := som_E h; try refine gos_ ?_
     exact q0 _ _ _ rfl fr_ (by repeat (first | exact hf0 | refine HF.new ?_ | refine HF.tokd ?_ | refine HF.used ?_ | refine HF.put (by first | (right; omega) | (left; simp only [List.mem_cons, true_or, or_true])) ?_)) sls_
def r_OperatorOf (k : Nat) (text_0 : Str) : Option (Operator × Bool) :=
  Option.bind (r_Table k ) fun p2 => Option.bind (r_OperatorOf_b0 k text_0 ([] : Str) 0 0 0 false 0 0 p2 0) (fun o => Sum.elim (fun p10 => some ((Operator.mk [] 0 0 0 false 0 0), false)) (fun p19 => some ((Operator.mk p19.2.1 p19.2.2.1 p19.2.2.2.1 p19.2.2.2.2.1 p19.2.2.2.2.2.1 p19.2.2.2.2.2.2.1 p19.2.2.2.2.2.2.2), p19.1)) o)
theorem r_OperatorOf_c {k : Nat} {text_0 : Str} {r : Operator × Bool} (h : r_OperatorOf k text_0 = some r) : PCall Tryz.prog 27 [(.str text_0)] (.tup [(.agg (Operator.cells r.1)), (.bool r.2)]) := by
  refine PCall.of_empty (PuL.mem (.cons (.str _) .nil)) (MCall_of_W ok27 (by simp) (W_start ?_)) (.tup _ (PuL.mem (.cons (.agg _ (Operator.pu _)) (.cons (.bool _) .nil)))); unfold r_OperatorOf at h; unfold ac27; obtain ⟨p2, e1, h⟩ := bind_E h; try refine gos_ ?_
  refine mcall_pure (r_Table_c e1) ?_; try refine gos_ ?_
  obtain ⟨o8, h9, h⟩ := bind_E h; refine r_OperatorOf_b0_W k (AH.empty.next) text_0 ([] : Str) 0 0 0 false 0 0 p2 0 _ _ _ _ (Fr.refl _ _) (HF.refl _ _) sls_ om_ _ h9 _ ?_ ?_
  ·rintro p10 σ' H13 eo fr11 hf12 g14; subst eo; rw [sum_L] at h; have s15 : σ' 2 = (.ref (AH.empty.next) 0) := (fr11 2 (by decide)).trans sls_; have le := hf12.1; try simp only [AH.new_next, AH.put_next, AH.tok_next, AH.use_next] at le
   have n17 := ne_next (show AH.empty.next < H13.next by first | omega | (simp only [AH.new_next, AH.put_next, AH.tok_next, AH.use_next]; omega)); have m18 := ne_add (show AH.empty.next < H13.next by first | omega | (simp only [AH.new_next, AH.put_next, AH.tok_next, AH.use_next]; omega)); obtain rfl := som_E h; try refine gos_ ?_
   exact (fz_tup (.cons (fz_agg (.cons (.pure _ (.str _)) (.cons (.pure _ (.int _ _)) (.cons (.pure _ (.int _ _)) (.cons (.pure _ (.int _ _)) (.cons (.pure _ (.bool _)) (.cons (.pure _ (.int _ _)) (.cons (.pure _ (.int _ _)) .nil)))))))) (.cons (.pure _ (.bool _)) .nil)))
  ·rintro p19 σ' H22 eo fr20 hf21 ⟨s23, g24⟩; subst eo; rw [sum_R] at h; have s25 : σ' 2 = (.ref (AH.empty.next) 0) := (fr20 2 (by decide)).trans sls_; have le := hf21.1; try simp only [AH.new_next, AH.put_next, AH.tok_next, AH.use_next] at le
   have n27 := ne_next (show AH.empty.next < H22.next by first | omega | (simp only [AH.new_next, AH.put_next, AH.tok_next, AH.use_next]; omega)); have m28 := ne_add (show AH.empty.next < H22.next by first | omega | (simp only [AH.new_next, AH.put_next, AH.tok_next, AH.use_next]; omega)); obtain rfl := som_E h; try refine gos_ ?_
   exact (fz_tup (.cons (fz_agg (.cons (.pure _ (.str _)) (.cons (.pure _ (.int _ _)) (.cons (.pure _ (.int _ _)) (.cons (.pure _ (.int _ _)) (.cons (.pure _ (.bool _)) (.cons (.pure _ (.int _ _)) (.cons (.pure _ (.int _ _)) .nil)))))))) (.cons (.pure _ (.bool _)) .nil)))
def b_Reserved : Option (List Str) :=
  some [([65, 83, 83, 85, 77, 69] : Str), ([65, 83, 83, 85, 77, 80, 84, 73, 79, 78] : Str), ([65, 88, 73, 79, 77] : Str), ([66, 89] : Str), ([67, 65, 83, 69] : Str), ([67, 72, 79, 79, 83, 69] : Str), ([67, 79, 78, 83, 84, 65, 78, 84] : Str), ([67, 79, 78, 83, 84, 65, 78, 84, 83] : Str), ([68, 69, 70] : Str), ([68, 69, 70, 73, 78, 69] : Str), ([68, 69, 70, 83] : Str), ([68, 79, 77, 65, 73, 78] : Str), ([69, 76, 83, 69] : Str), ([69, 78, 65, 66, 76, 69, 68] : Str), ([69, 88, 67, 69, 80, 84] : Str), ([69, 88, 84, 69, 78, 68, 83] : Str), ([70, 65, 76, 83, 69] : Str), ([72, 65, 86, 69] : Str), ([72, 73, 68, 69] : Str), ([73, 70] : Str), ([73, 78] : Str), ([73, 78, 83, 84, 65, 78, 67, 69] : Str), ([76, 65, 77, 66, 68, 65] : Str), ([76, 69, 77, 77, 65] : Str), ([76, 69, 84] : Str), ([76, 79, 67, 65, 76] : Str), ([77, 79, 68, 85, 76, 69] : Str), ([78, 69, 87] : Str), ([79, 66, 86, 73, 79, 85, 83] : Str), ([79, 77, 73, 84, 84, 69, 68] : Str), ([79, 84, 72, 69, 82] : Str), ([80, 73, 67, 75] : Str), ([80, 82, 79, 79, 70] : Str), ([80, 82, 79, 80, 79, 83, 73, 84, 73, 79, 78] : Str), ([80, 82, 79, 86, 69] : Str), ([81, 69, 68] : Str), ([82, 69, 67, 85, 82, 83, 73, 86, 69] : Str), ([83, 85, 66, 83, 69, 84] : Str), ([83, 85, 70, 70, 73, 67, 69, 83] : Str), ([84, 65, 75, 69] : Str), ([84, 72, 69, 78] : Str), ([84, 72, 69, 79, 82, 69, 77] : Str), ([84, 82, 85, 69] : Str), ([85, 78, 67, 72, 65, 78, 71, 69, 68] : Str), ([85, 78, 73, 79, 78] : Str), ([85, 83, 69] : Str), ([86, 65, 82, 73, 65, 66, 76, 69] : Str), ([86, 65, 82, 73, 65, 66, 76, 69, 83] : Str), ([87, 73, 84, 72] : Str), ([87, 73, 84, 78, 69, 83, 83] : Str)]
theorem b_Reserved_c {r : List Str} (h : b_Reserved = some r) : PCall Tryz.prog 122 [] (.isl (r.map strL) .unk) := by
  refine PCall.of_empty (PuL.mem .nil) (MCall_of_W ok122 (by simp) (W_start ?_)) (pu_sl pu_strL _); unfold b_Reserved at h; unfold ac122; obtain rfl := som_E h; try refine gos_ ?_
  exact (fz_sl pu_strL [([65, 83, 83, 85, 77, 69] : Str), ([65, 83, 83, 85, 77, 80, 84, 73, 79, 78] : Str), ([65, 88, 73, 79, 77] : Str), ([66, 89] : Str), ([67, 65, 83, 69] : Str), ([67, 72, 79, 79, 83, 69] : Str), ([67, 79, 78, 83, 84, 65, 78, 84] : Str), ([67, 79, 78, 83, 84, 65, 78, 84, 83] : Str), ([68, 69, 70] : Str), ([68, 69, 70, 73, 78, 69] : Str), ([68, 69, 70, 83] : Str), ([68, 79, 77, 65, 73, 78] : Str), ([69, 76, 83, 69] : Str), ([69, 78, 65, 66, 76, 69, 68] : Str), ([69, 88, 67, 69, 80, 84] : Str), ([69, 88, 84, 69, 78, 68, 83] : Str), ([70, 65, 76, 83, 69] : Str), ([72, 65, 86, 69] : Str), ([72, 73, 68, 69] : Str), ([73, 70] : Str), ([73, 78] : Str), ([73, 78, 83, 84, 65, 78, 67, 69] : Str), ([76, 65, 77, 66, 68, 65] : Str), ([76, 69, 77, 77, 65] : Str), ([76, 69, 84] : Str), ([76, 79, 67, 65, 76] : Str), ([77, 79, 68, 85, 76, 69] : Str), ([78, 69, 87] : Str), ([79, 66, 86, 73, 79, 85, 83] : Str), ([79, 77, 73, 84, 84, 69, 68] : Str), ([79, 84, 72, 69, 82] : Str), ([80, 73, 67, 75] : Str), ([80, 82, 79, 79, 70] : Str), ([80, 82, 79, 80, 79, 83, 73, 84, 73, 79, 78] : Str), ([80, 82, 79, 86, 69] : Str), ([81, 69, 68] : Str), ([82, 69, 67, 85, 82, 83, 73, 86, 69] : Str), ([83, 85, 66, 83, 69, 84] : Str), ([83, 85, 70, 70, 73, 67, 69, 83] : Str), ([84, 65, 75, 69] : Str), ([84, 72, 69, 78] : Str), ([84, 72, 69, 79, 82, 69, 77] : Str), ([84, 82, 85, 69] : Str), ([85, 78, 67, 72, 65, 78, 71, 69, 68] : Str), ([85, 78, 73, 79, 78] : Str), ([85, 83, 69] : Str), ([86, 65, 82, 73, 65, 66, 76, 69] : Str), ([86, 65, 82, 73, 65, 66, 76, 69, 83] : Str), ([87, 73, 84, 72] : Str), ([87, 73, 84, 78, 69, 83, 83] : Str)] _)
def b_IsLetter (c_0 : Int) : Option Bool :=
  cond (decide (c_0 >= 97)) (cond (decide (c_0 <= 122)) (some true) (cond (decide (c_0 >= 65)) (some (decide (c_0 <= 90))) (some false))) (cond (decide (c_0 >= 65)) (some (decide (c_0 <= 90))) (some false))
theorem b_IsLetter_c {c_0 : Int} {r : Bool} (h : b_IsLetter c_0 = some r) : PCall Tryz.prog 123 [(.int .u8 c_0)] (.bool r) := by
  refine PCall.of_empty (PuL.mem (.cons (.int _ _) .nil)) (MCall_of_W ok123 (by simp) (W_start ?_)) (.bool _); unfold b_IsLetter at h; unfold ac123; rcases cond_E h with ⟨e1, h⟩ | ⟨e1, h⟩
  ·rcases cond_E h with ⟨e2, h⟩ | ⟨e2, h⟩
   ·obtain rfl := som_E h; try refine gos_ ?_
    exact (.pure _ (.bool _))
   ·rcases cond_E h with ⟨e3, h⟩ | ⟨e3, h⟩
    ·obtain rfl := som_E h; try refine gos_ ?_
     exact (.pure _ (.bool _))
    ·obtain rfl := som_E h; try refine gos_ ?_
     exact (.pure _ (.bool _))
  ·rcases cond_E h with ⟨e4, h⟩ | ⟨e4, h⟩
   ·obtain rfl := som_E h; try refine gos_ ?_
    exact (.pure _ (.bool _))
   ·obtain rfl := som_E h; try refine gos_ ?_
    exact (.pure _ (.bool _))
def b_IsDigit (c_0 : Int) : Option Bool :=
  cond (decide (c_0 >= 48)) (some (decide (c_0 <= 57))) (some false)
theorem b_IsDigit_c {c_0 : Int} {r : Bool} (h : b_IsDigit c_0 = some r) : PCall Tryz.prog 124 [(.int .u8 c_0)] (.bool r) := by
  refine PCall.of_empty (PuL.mem (.cons (.int _ _) .nil)) (MCall_of_W ok124 (by simp) (W_start ?_)) (.bool _); unfold b_IsDigit at h; unfold ac124; rcases cond_E h with ⟨e1, h⟩ | ⟨e1, h⟩
  ·obtain rfl := som_E h; try refine gos_ ?_
   exact (.pure _ (.bool _))
  ·obtain rfl := som_E h; try refine gos_ ?_
   exact (.pure _ (.bool _))
def b_IsName_j0 (k : Nat) (s_0 : Str) : Option (Unit ⊕ Bool) :=
  Option.bind (b_Between (s_0.length : Int) 1 24) fun p2 => cond p2 (Option.bind (b_Reserved ) fun p5 => Option.bind (b_Contains k p5 s_0) fun p7 => cond p7 (some (.inr (false))) (some (.inl ()))) (some (.inr (false)))
def b_IsName_j0l : List Nat := [2, 5, 6, 7, 8, 9, 10, 11, 12, 13]
theorem b_IsName_j0_W (k : Nat) : ∀ (s_0 : Str) (σ0 σ : Nat -> PV) (H : AH) (f0 : Fr b_IsName_j0l σ0 σ) (sl : σ 0 = (.str s_0)) (o : Unit ⊕ Bool) (h : b_IsName_j0 k s_0 = some o) (Q : Post) (q0 : ∀ (p : Unit) (σ' : Nat -> PV), o = .inl p -> Fr b_IsName_j0l σ0 σ' -> Q .normal σ' H) (q1 : ∀ (p : Bool) (σ' : Nat -> PV), o = .inr (p) -> Fr b_IsName_j0l σ0 σ' -> (σ' 2 = (.bool p)) -> Q .ret σ' H) , W Tryz.prog ac75_j0 Q σ H := by
  intro s_0 σ0 σ H f0 sl o h Q q0 q1; have s0 := sl; unfold b_IsName_j0 at h; refine W_start ?_; unfold ac75_j0; obtain ⟨p2, e1, h⟩ := bind_E h; try refine gos_ ?_
  refine mcall_pure (b_Between_c e1) ?_; rcases cond_E h with ⟨e3, h⟩ | ⟨e3, h⟩
  ·obtain ⟨p5, e4, h⟩ := bind_E h; try refine gos_ ?_
   refine mcall_pure (b_Reserved_c e4) ?_; obtain ⟨p7, e6, h⟩ := bind_E h; try refine gos_ ?_
   refine mcall_pure (b_Contains_c e6) ?_; rcases cond_E h with ⟨e8, h⟩ | ⟨e8, h⟩
   ·obtain rfl := som_E h; try refine gos_ ?_
    exact q1 _ _ rfl fr_ sls_
   ·obtain rfl := som_E h; try refine gos_ ?_
    exact q0 _ _ rfl fr_
  ·obtain rfl := som_E h; try refine gos_ ?_
   exact q1 _ _ rfl fr_ sls_
def b_IsName_p1 (s_0 : Str) (i_4 : Int) (t_25 : Bool) : Option Bool :=
  cond t_25 (if 0 <= i_4 then Option.bind (s_0[i_4.toNat]?) fun x24 => Option.bind (b_IsDigit (x24.toNat : Int)) fun p27 => cond p27 (some (false)) (some (((x24.toNat : Int) != 95))) else none) (some (false))
def b_IsName_p1l : List Nat := [26, 27, 28, 29, 30, 31, 32, 33, 34, 35, 36, 37]
theorem b_IsName_p1_W : ∀ (s_0 : Str) (i_4 : Int) (t_25 : Bool) (σ0 σ : Nat -> PV) (H : AH) (f0 : Fr b_IsName_p1l σ0 σ) (sl : σ 0 = (.str s_0) /\ σ 4 = (.int .i64 i_4) /\ σ 25 = (.bool t_25)) (o : Bool) (h : b_IsName_p1 s_0 i_4 t_25 = some o) (Q : Post) (q0 : ∀ (p : Bool) (σ' : Nat -> PV), o = p -> Fr b_IsName_p1l σ0 σ' -> (σ' 37 = (.bool p)) -> Q .normal σ' H) , WOps Tryz.prog ac75_p1 (Q .normal) σ H := by
  intro s_0 i_4 t_25 σ0 σ H f0 sl o h Q q0; obtain ⟨s0, s4, s25⟩ := sl; unfold b_IsName_p1 at h; refine WO_start ?_; unfold ac75_p1; rcases cond_E h with ⟨e22, h⟩ | ⟨e22, h⟩
  ·obtain ⟨e23, h⟩ := if_E h; obtain ⟨x24, e25, h⟩ := bind_E h; obtain ⟨p27, e26, h⟩ := bind_E h; try refine gos_ ?_
   refine mcall_pure (b_IsDigit_c e26) ?_; rcases cond_E h with ⟨e28, h⟩ | ⟨e28, h⟩
   ·obtain rfl := som_E h; try refine gos_ ?_
    exact q0 _ _ rfl fr_ sls_
   ·obtain rfl := som_E h; try refine gos_ ?_
    exact q0 _ _ rfl fr_ sls_
  ·obtain rfl := som_E h; try refine gos_ ?_
   exact q0 _ _ rfl fr_ sls_
def b_IsName_b0 : Nat -> Str -> Bool -> Int -> Option (Bool ⊕ Bool)
  | 0, _, _, _ => none
  | k + 1, s_0, letter_3, i_4 =>
    cond (decide (i_4 < (s_0.length : Int))) (if 0 <= i_4 then Option.bind (s_0[i_4.toNat]?) fun x18 => Option.bind (b_IsLetter (x18.toNat : Int)) fun p21 => Option.bind (b_IsName_p1 s_0 i_4 (!p21)) (fun p31 => cond p31 (some (.inr (false))) (cond letter_3 (b_IsName_b0 k s_0 true (IntKind.wrap .i64 (i_4 + 1))) (b_IsName_b0 k s_0 p21 (IntKind.wrap .i64 (i_4 + 1))))) else none) (some (.inl letter_3))
def b_IsName_b0l : List Nat := [2, 3, 4, 14, 15, 16, 17, 18, 19, 20, 21, 22, 23, 24, 25, 26, 27, 28, 29, 30, 31, 32, 33, 34, 35, 36, 37, 38, 39, 40, 41, 42, 43, 44]
theorem b_IsName_b0_W : ∀ (k : Nat) (s_0 : Str) (letter_3 : Bool) (i_4 : Int) (σ0 σ : Nat -> PV) (H : AH) (f0 : Fr b_IsName_b0l σ0 σ) (sl : σ 0 = (.str s_0) /\ σ 3 = (.bool letter_3) /\ σ 4 = (.int .i64 i_4)) (o : Bool ⊕ Bool) (h : b_IsName_b0 k s_0 letter_3 i_4 = some o) (Q : Post) (q0 : ∀ (p : Bool) (σ' : Nat -> PV), o = .inl p -> Fr b_IsName_b0l σ0 σ' -> (σ' 3 = (.bool p)) -> Q (.exit 0) σ' H) (q1 : ∀ (p : Bool) (σ' : Nat -> PV), o = .inr (p) -> Fr b_IsName_b0l σ0 σ' -> (σ' 2 = (.bool p)) -> Q .ret σ' H) , W Tryz.prog (.loop ac75_b0) Q σ H := by
  intro k
  induction k with
  | zero => intro s_0 letter_3 i_4 σ0 σ H f0 sl o h Q q0 q1; simp only [b_IsName_b0, reduceCtorEq] at h
  | succ k ih =>
    intro s_0 letter_3 i_4 σ0 σ H f0 sl o h Q q0 q1; obtain ⟨s0, s3, s4⟩ := sl; unfold b_IsName_b0 at h; refine W_loopK (fun K hK => W_start ?_); unfold ac75_b0; rcases cond_E h with ⟨e16, h⟩ | ⟨e16, h⟩
    ·obtain ⟨e17, h⟩ := if_E h; obtain ⟨x18, e19, h⟩ := bind_E h; obtain ⟨p21, e20, h⟩ := bind_E h; try refine gos_ ?_
     refine mcall_pure (b_IsLetter_c e20) ?_; try refine gos_ ?_
     obtain ⟨o29, h30, h⟩ := bind_E h; refine b_IsName_p1_W s_0 i_4 (!p21) _ _ _ (Fr.refl _ _) sls_ _ h30 _ ?_
     ·rintro p31 σ' eo fr32 s35; rw [eo] at h; have s36 : σ' 0 = (.str s_0) := (fr32 0 (by decide)).trans sls_; have s37 : σ' 3 = (.bool letter_3) := (fr32 3 (by decide)).trans sls_; have s38 : σ' 4 = (.int .i64 i_4) := (fr32 4 (by decide)).trans sls_; rcases cond_E h with ⟨e39, h⟩ | ⟨e39, h⟩
      ·obtain rfl := som_E h; try refine gos_ ?_
       exact q1 _ _ rfl (by repeat (first | exact f0 | refine Fr.upd (by decide) ?_ | refine Fr.via fr32 (by decide) ?_)) sls_
      ·rcases cond_E h with ⟨e40, h⟩ | ⟨e40, h⟩
       ·try refine gos_ ?_
        refine hK _ _ ?_; exact ih s_0 true (IntKind.wrap .i64 (i_4 + 1)) _ _ _ (by repeat (first | exact f0 | refine Fr.upd (by decide) ?_ | refine Fr.via fr32 (by decide) ?_)) sls_ _ h _ q0 q1
       ·try refine gos_ ?_
        refine mcall_pure (b_IsLetter_c e20) ?_; try refine gos_ ?_
        refine hK _ _ ?_; exact ih s_0 p21 (IntKind.wrap .i64 (i_4 + 1)) _ _ _ (by repeat (first | exact f0 | refine Fr.upd (by decide) ?_ | refine Fr.via fr32 (by decide) ?_)) sls_ _ h _ q0 q1
    ·obtain rfl := som_E h; try refine gos_ ?_
     exact q0 _ _ rfl fr_ sls_
def b_IsName (k : Nat) (s_0 : Str) : Option Bool :=
  Option.bind (b_IsName_j0 k s_0) (fun o => Sum.elim (fun p11 => Option.bind (b_IsName_b0 k s_0 false 0) (fun o => Sum.elim (fun p45 => some p45) (fun p50 => some p50) o)) (fun p55 => some p55) o)
theorem b_IsName_c {k : Nat} {s_0 : Str} {r : Bool} (h : b_IsName k s_0 = some r) : PCall Tryz.prog 75 [(.str s_0)] (.bool r) := by
  refine PCall.of_empty (PuL.mem (.cons (.str _) .nil)) (MCall_of_W ok75 (by simp) (W_start ?_)) (.bool _); unfold b_IsName at h; unfold ac75; try refine gos_ ?_
  obtain ⟨o9, h10, h⟩ := bind_E h; refine b_IsName_j0_W k s_0 _ _ _ (Fr.refl _ _) sls_ _ h10 _ ?_ ?_
  ·rintro p11 σ' eo fr12; subst eo; rw [sum_L] at h; have s15 : σ' 0 = (.str s_0) := (fr12 0 (by decide)).trans sls_; try refine gos_ ?_
   obtain ⟨o43, h44, h⟩ := bind_E h; refine b_IsName_b0_W k s_0 false 0 _ _ _ (Fr.refl _ _) sls_ _ h44 _ ?_ ?_
   ·rintro p45 σ' eo fr46 s49; subst eo; rw [sum_L] at h; obtain rfl := som_E h; try refine gos_ ?_
    exact (.pure _ (.bool _))
   ·rintro p50 σ' eo fr51 s54; subst eo; rw [sum_R] at h; obtain rfl := som_E h; try refine gos_ ?_
    exact (.pure _ (.bool _))
  ·rintro p55 σ' eo fr56 s59; subst eo; rw [sum_R] at h; obtain rfl := som_E h; try refine gos_ ?_
   exact (.pure _ (.bool _))
def r_IsFixed (s_0 : Str) : Option Bool :=
  cond (s_0 == ([84, 82, 85, 69] : Str)) (some true) (cond (s_0 == ([70, 65, 76, 83, 69] : Str)) (some true) (cond (s_0 == ([66, 79, 79, 76, 69, 65, 78] : Str)) (some true) (some (s_0 == ([83, 84, 82, 73, 78, 71] : Str)))))
theorem r_IsFixed_c {s_0 : Str} {r : Bool} (h : r_IsFixed s_0 = some r) : PCall Tryz.prog 76 [(.str s_0)] (.bool r) := by
  refine PCall.of_empty (PuL.mem (.cons (.str _) .nil)) (MCall_of_W ok76 (by simp) (W_start ?_)) (.bool _); unfold r_IsFixed at h; unfold ac76; rcases cond_E h with ⟨e1, h⟩ | ⟨e1, h⟩
  ·obtain rfl := som_E h; try refine gos_ ?_
   exact (.pure _ (.bool _))
  ·rcases cond_E h with ⟨e2, h⟩ | ⟨e2, h⟩
   ·obtain rfl := som_E h; try refine gos_ ?_
    exact (.pure _ (.bool _))
   ·rcases cond_E h with ⟨e3, h⟩ | ⟨e3, h⟩
    ·obtain rfl := som_E h; try refine gos_ ?_
     exact (.pure _ (.bool _))
    ·obtain rfl := som_E h; try refine gos_ ?_
     exact (.pure _ (.bool _))
def r_IsName (k : Nat) (s_0 : Str) : Option Bool :=
  Option.bind (b_IsName k s_0) fun p2 => cond p2 (Option.bind (r_IsFixed s_0) fun p5 => cond p5 (some false) (cond (decide ((s_0.length : Int) > 2)) (if 3 <= s_0.length then cond ((s_0.take 3) == ([87, 70, 95] : Str)) (some false) (some (!((s_0.take 3) == ([83, 70, 95] : Str)))) else none) (some true))) (some false)
theorem r_IsName_c {k : Nat} {s_0 : Str} {r : Bool} (h : r_IsName k s_0 = some r) : PCall Tryz.prog 37 [(.str s_0)] (.bool r) := by
  refine PCall.of_empty (PuL.mem (.cons (.str _) .nil)) (MCall_of_W ok37 (by simp) (W_start ?_)) (.bool _); unfold r_IsName at h; unfold ac37; obtain ⟨p2, e1, h⟩ := bind_E h; try refine gos_ ?_
  refine mcall_pure (b_IsName_c e1) ?_; rcases cond_E h with ⟨e3, h⟩ | ⟨e3, h⟩
  ·obtain ⟨p5, e4, h⟩ := bind_E h; try refine gos_ ?_
   refine mcall_pure (r_IsFixed_c e4) ?_; rcases cond_E h with ⟨e6, h⟩ | ⟨e6, h⟩
   ·obtain rfl := som_E h; try refine gos_ ?_
    exact (.pure _ (.bool _))
   ·rcases cond_E h with ⟨e7, h⟩ | ⟨e7, h⟩
    ·obtain ⟨e8, h⟩ := if_E h; rcases cond_E h with ⟨e9, h⟩ | ⟨e9, h⟩
     ·obtain rfl := som_E h; try refine gos_ ?_
      exact (.pure _ (.bool _))
     ·obtain rfl := som_E h; try refine gos_ ?_
      exact (.pure _ (.bool _))
    ·obtain rfl := som_E h; try refine gos_ ?_
     exact (.pure _ (.bool _))
  ·obtain rfl := som_E h; try refine gos_ ?_
   exact (.pure _ (.bool _))
def r_IsTerm_b0 : Nat -> Str -> Int -> Option (Unit ⊕ Bool)
  | 0, _, _ => none
  | k + 1, s_0, i_3 =>
    cond (decide (i_3 < (s_0.length : Int))) (if 0 <= i_3 then Option.bind (s_0[i_3.toNat]?) fun x3 => cond ((x3.toNat : Int) == 33) (if 0 <= i_3 /\ i_3.toNat <= s_0.length then Option.bind (r_IsName k (s_0.take i_3.toNat)) fun p8 => cond p8 (if 0 <= (IntKind.wrap .i64 (i_3 + 1)) /\ (IntKind.wrap .i64 (i_3 + 1)).toNat <= s_0.length then Option.bind (r_IsName k (s_0.drop (IntKind.wrap .i64 (i_3 + 1)).toNat)) fun p12 => some (.inr (p12)) else none) (some (.inr (false))) else none) (r_IsTerm_b0 k s_0 (IntKind.wrap .i64 (i_3 + 1))) else none) (some (.inl ()))
def r_IsTerm_b0l : List Nat := [2, 3, 4, 5, 6, 7, 8, 9, 10, 11, 12, 13, 14, 15, 16, 17, 18, 19, 20, 21, 22, 23, 24]
theorem r_IsTerm_b0_W : ∀ (k : Nat) (s_0 : Str) (i_3 : Int) (σ0 σ : Nat -> PV) (H : AH) (f0 : Fr r_IsTerm_b0l σ0 σ) (sl : σ 0 = (.str s_0) /\ σ 3 = (.int .i64 i_3)) (o : Unit ⊕ Bool) (h : r_IsTerm_b0 k s_0 i_3 = some o) (Q : Post) (q0 : ∀ (p : Unit) (σ' : Nat -> PV), o = .inl p -> Fr r_IsTerm_b0l σ0 σ' -> Q (.exit 0) σ' H) (q1 : ∀ (p : Bool) (σ' : Nat -> PV), o = .inr (p) -> Fr r_IsTerm_b0l σ0 σ' -> (σ' 2 = (.bool p)) -> Q .ret σ' H) , W Tryz.prog (.loop ac56_b0) Q σ H := by
  intro k
  induction k with
  | zero => intro s_0 i_3 σ0 σ H f0 sl o h Q q0 q1; simp only [r_IsTerm_b0, reduceCtorEq] at h
  | succ k ih =>
    intro s_0 i_3 σ0 σ H f0 sl o h Q q0 q1; obtain ⟨s0, s3⟩ := sl; unfold r_IsTerm_b0 at h; refine W_loopK (fun K hK => W_start ?_); unfold ac56_b0; rcases cond_E h with ⟨e1, h⟩ | ⟨e1, h⟩
    ·obtain ⟨e2, h⟩ := if_E h; obtain ⟨x3, e4, h⟩ := bind_E h; rcases cond_E h with ⟨e5, h⟩ | ⟨e5, h⟩
     ·obtain ⟨e6, h⟩ := if_E h; obtain ⟨p8, e7, h⟩ := bind_E h; try refine gos_ ?_
      refine mcall_pure (r_IsName_c e7) ?_; rcases cond_E h with ⟨e9, h⟩ | ⟨e9, h⟩
      ·obtain ⟨e10, h⟩ := if_E h; obtain ⟨p12, e11, h⟩ := bind_E h; try refine gos_ ?_
       refine mcall_pure (r_IsName_c e11) ?_; obtain rfl := som_E h; try refine gos_ ?_
       exact q1 _ _ rfl fr_ sls_
      ·obtain rfl := som_E h; try refine gos_ ?_
       exact q1 _ _ rfl fr_ sls_
     ·try refine gos_ ?_
      refine hK _ _ ?_; exact ih s_0 (IntKind.wrap .i64 (i_3 + 1)) _ _ _ fr_ sls_ _ h _ q0 q1
    ·obtain rfl := som_E h; try refine gos_ ?_
     exact q0 _ _ rfl fr_
def r_IsTerm (k : Nat) (s_0 : Str) : Option Bool :=
  Option.bind (r_IsTerm_b0 k s_0 0) (fun o => Sum.elim (fun p15 => Option.bind (r_IsName k s_0) fun p21 => some p21) (fun p22 => some p22) o)
theorem r_IsTerm_c {k : Nat} {s_0 : Str} {r : Bool} (h : r_IsTerm k s_0 = some r) : PCall Tryz.prog 56 [(.str s_0)] (.bool r) := by
  refine PCall.of_empty (PuL.mem (.cons (.str _) .nil)) (MCall_of_W ok56 (by simp) (W_start ?_)) (.bool _); unfold r_IsTerm at h; unfold ac56; try refine gos_ ?_
  obtain ⟨o13, h14, h⟩ := bind_E h; refine r_IsTerm_b0_W k s_0 0 _ _ _ (Fr.refl _ _) sls_ _ h14 _ ?_ ?_
  ·rintro p15 σ' eo fr16; subst eo; rw [sum_L] at h; have s19 : σ' 0 = (.str s_0) := (fr16 0 (by decide)).trans sls_; obtain ⟨p21, e20, h⟩ := bind_E h; try refine gos_ ?_
   refine mcall_pure (r_IsName_c e20) ?_; obtain rfl := som_E h; try refine gos_ ?_
   exact (.pure _ (.bool _))
  ·rintro p22 σ' eo fr23 s26; subst eo; rw [sum_R] at h; obtain rfl := som_E h; try refine gos_ ?_
   exact (.pure _ (.bool _))
def r_shape_j0 (t_4 : Int) : Option Bool :=
  cond (t_4 == 0) (some ((t_4 == 0))) (cond (t_4 == 1) (some ((t_4 == 1))) (cond (t_4 == 2) (some ((t_4 == 2))) (some ((t_4 == 20)))))
def r_shape_j0l : List Nat := [5, 6, 7, 8, 9]
theorem r_shape_j0_W : ∀ (t_4 : Int) (σ0 σ : Nat -> PV) (H : AH) (f0 : Fr r_shape_j0l σ0 σ) (sl : σ 4 = (.int .i64 t_4)) (o : Bool) (h : r_shape_j0 t_4 = some o) (Q : Post) (q0 : ∀ (p : Bool) (σ' : Nat -> PV), o = p -> Fr r_shape_j0l σ0 σ' -> (σ' 5 = (.bool p)) -> Q .normal σ' H) , W Tryz.prog ac95_j0 Q σ H := by
  intro t_4 σ0 σ H f0 sl o h Q q0; have s4 := sl; unfold r_shape_j0 at h; refine W_start ?_; unfold ac95_j0; rcases cond_E h with ⟨e1, h⟩ | ⟨e1, h⟩
  ·obtain rfl := som_E h; try refine gos_ ?_
   exact q0 _ _ rfl fr_ sls_
  ·rcases cond_E h with ⟨e2, h⟩ | ⟨e2, h⟩
   ·obtain rfl := som_E h; try refine gos_ ?_
    exact q0 _ _ rfl fr_ sls_
   ·rcases cond_E h with ⟨e3, h⟩ | ⟨e3, h⟩
    ·obtain rfl := som_E h; try refine gos_ ?_
     exact q0 _ _ rfl fr_ sls_
    ·obtain rfl := som_E h; try refine gos_ ?_
     exact q0 _ _ rfl fr_ sls_
def r_shape_j1 (t_4 : Int) : Option Bool :=
  cond (t_4 == 4) (some ((t_4 == 4))) (some ((t_4 == 5)))
theorem r_shape_j1_W : ∀ (t_4 : Int) (σ0 σ : Nat -> PV) (H : AH) (f0 : Fr [14, 15, 16] σ0 σ) (sl : σ 4 = (.int .i64 t_4)) (o : Bool) (h : r_shape_j1 t_4 = some o) (Q : Post) (q0 : ∀ (p : Bool) (σ' : Nat -> PV), o = p -> Fr [14, 15, 16] σ0 σ' -> (σ' 14 = (.bool p)) -> Q .normal σ' H) , W Tryz.prog ac95_j1 Q σ H := by
  intro t_4 σ0 σ H f0 sl o h Q q0; have s4 := sl; unfold r_shape_j1 at h; refine W_start ?_; unfold ac95_j1; rcases cond_E h with ⟨e15, h⟩ | ⟨e15, h⟩
  ·obtain rfl := som_E h; try refine gos_ ?_
   exact q0 _ _ rfl fr_ sls_
  ·obtain rfl := som_E h; try refine gos_ ?_
   exact q0 _ _ rfl fr_ sls_
def r_shape_j2 (t_4 : Int) : Option Bool :=
  cond (t_4 == 6) (some ((t_4 == 6))) (some ((t_4 == 12)))
theorem r_shape_j2_W : ∀ (t_4 : Int) (σ0 σ : Nat -> PV) (H : AH) (f0 : Fr [18, 19, 20] σ0 σ) (sl : σ 4 = (.int .i64 t_4)) (o : Bool) (h : r_shape_j2 t_4 = some o) (Q : Post) (q0 : ∀ (p : Bool) (σ' : Nat -> PV), o = p -> Fr [18, 19, 20] σ0 σ' -> (σ' 18 = (.bool p)) -> Q .normal σ' H) , W Tryz.prog ac95_j2 Q σ H := by
  intro t_4 σ0 σ H f0 sl o h Q q0; have s4 := sl; unfold r_shape_j2 at h; refine W_start ?_; unfold ac95_j2; rcases cond_E h with ⟨e26, h⟩ | ⟨e26, h⟩
  ·obtain rfl := som_E h; try refine gos_ ?_
   exact q0 _ _ rfl fr_ sls_
  ·obtain rfl := som_E h; try refine gos_ ?_
   exact q0 _ _ rfl fr_ sls_
def r_shape_j3 (t_4 : Int) : Option Bool :=
  cond (t_4 == 7) (some ((t_4 == 7))) (cond (t_4 == 8) (some ((t_4 == 8))) (cond (t_4 == 9) (some ((t_4 == 9))) (some ((t_4 == 13)))))
def r_shape_j3l : List Nat := [22, 23, 24, 25, 26]
theorem r_shape_j3_W : ∀ (t_4 : Int) (σ0 σ : Nat -> PV) (H : AH) (f0 : Fr r_shape_j3l σ0 σ) (sl : σ 4 = (.int .i64 t_4)) (o : Bool) (h : r_shape_j3 t_4 = some o) (Q : Post) (q0 : ∀ (p : Bool) (σ' : Nat -> PV), o = p -> Fr r_shape_j3l σ0 σ' -> (σ' 22 = (.bool p)) -> Q .normal σ' H) , W Tryz.prog ac95_j3 Q σ H := by
  intro t_4 σ0 σ H f0 sl o h Q q0; have s4 := sl; unfold r_shape_j3 at h; refine W_start ?_; unfold ac95_j3; rcases cond_E h with ⟨e37, h⟩ | ⟨e37, h⟩
  ·obtain rfl := som_E h; try refine gos_ ?_
   exact q0 _ _ rfl fr_ sls_
  ·rcases cond_E h with ⟨e38, h⟩ | ⟨e38, h⟩
   ·obtain rfl := som_E h; try refine gos_ ?_
    exact q0 _ _ rfl fr_ sls_
   ·rcases cond_E h with ⟨e39, h⟩ | ⟨e39, h⟩
    ·obtain rfl := som_E h; try refine gos_ ?_
     exact q0 _ _ rfl fr_ sls_
    ·obtain rfl := som_E h; try refine gos_ ?_
     exact q0 _ _ rfl fr_ sls_
def r_shape_j4 (t_4 : Int) : Option Bool :=
  cond (t_4 == 10) (some ((t_4 == 10))) (some ((t_4 == 11)))
theorem r_shape_j4_W : ∀ (t_4 : Int) (σ0 σ : Nat -> PV) (H : AH) (f0 : Fr [28, 29, 30] σ0 σ) (sl : σ 4 = (.int .i64 t_4)) (o : Bool) (h : r_shape_j4 t_4 = some o) (Q : Post) (q0 : ∀ (p : Bool) (σ' : Nat -> PV), o = p -> Fr [28, 29, 30] σ0 σ' -> (σ' 28 = (.bool p)) -> Q .normal σ' H) , W Tryz.prog ac95_j4 Q σ H := by
  intro t_4 σ0 σ H f0 sl o h Q q0; have s4 := sl; unfold r_shape_j4 at h; refine W_start ?_; unfold ac95_j4; rcases cond_E h with ⟨e50, h⟩ | ⟨e50, h⟩
  ·obtain rfl := som_E h; try refine gos_ ?_
   exact q0 _ _ rfl fr_ sls_
  ·obtain rfl := som_E h; try refine gos_ ?_
   exact q0 _ _ rfl fr_ sls_
def r_shape_j5 (t_4 : Int) : Option Bool :=
  cond (t_4 == 15) (some ((t_4 == 15))) (cond (t_4 == 25) (some ((t_4 == 25))) (cond (t_4 == 26) (some ((t_4 == 26))) (cond (t_4 == 27) (some ((t_4 == 27))) (some ((t_4 == 28))))))
def r_shape_j5l : List Nat := [35, 36, 37, 38, 39, 40]
theorem r_shape_j5_W : ∀ (t_4 : Int) (σ0 σ : Nat -> PV) (H : AH) (f0 : Fr r_shape_j5l σ0 σ) (sl : σ 4 = (.int .i64 t_4)) (o : Bool) (h : r_shape_j5 t_4 = some o) (Q : Post) (q0 : ∀ (p : Bool) (σ' : Nat -> PV), o = p -> Fr r_shape_j5l σ0 σ' -> (σ' 35 = (.bool p)) -> Q .normal σ' H) , W Tryz.prog ac95_j5 Q σ H := by
  intro t_4 σ0 σ H f0 sl o h Q q0; have s4 := sl; unfold r_shape_j5 at h; refine W_start ?_; unfold ac95_j5; rcases cond_E h with ⟨e62, h⟩ | ⟨e62, h⟩
  ·obtain rfl := som_E h; try refine gos_ ?_
   exact q0 _ _ rfl fr_ sls_
  ·rcases cond_E h with ⟨e63, h⟩ | ⟨e63, h⟩
   ·obtain rfl := som_E h; try refine gos_ ?_
    exact q0 _ _ rfl fr_ sls_
   ·rcases cond_E h with ⟨e64, h⟩ | ⟨e64, h⟩
    ·obtain rfl := som_E h; try refine gos_ ?_
     exact q0 _ _ rfl fr_ sls_
    ·rcases cond_E h with ⟨e65, h⟩ | ⟨e65, h⟩
     ·obtain rfl := som_E h; try refine gos_ ?_
      exact q0 _ _ rfl fr_ sls_
     ·obtain rfl := som_E h; try refine gos_ ?_
      exact q0 _ _ rfl fr_ sls_
def r_shape_j6 (t_4 : Int) : Option Bool :=
  cond (t_4 == 16) (some ((t_4 == 16))) (some ((t_4 == 17)))
theorem r_shape_j6_W : ∀ (t_4 : Int) (σ0 σ : Nat -> PV) (H : AH) (f0 : Fr [42, 43, 44] σ0 σ) (sl : σ 4 = (.int .i64 t_4)) (o : Bool) (h : r_shape_j6 t_4 = some o) (Q : Post) (q0 : ∀ (p : Bool) (σ' : Nat -> PV), o = p -> Fr [42, 43, 44] σ0 σ' -> (σ' 42 = (.bool p)) -> Q .normal σ' H) , W Tryz.prog ac95_j6 Q σ H := by
  intro t_4 σ0 σ H f0 sl o h Q q0; have s4 := sl; unfold r_shape_j6 at h; refine W_start ?_; unfold ac95_j6; rcases cond_E h with ⟨e76, h⟩ | ⟨e76, h⟩
  ·obtain rfl := som_E h; try refine gos_ ?_
   exact q0 _ _ rfl fr_ sls_
  ·obtain rfl := som_E h; try refine gos_ ?_
   exact q0 _ _ rfl fr_ sls_
def r_shape (kind_0 : Int) : Option ((Int × Int × Int × Int) × Bool) :=
  Option.bind (r_shape_j0 kind_0) (fun p6 => cond p6 (some ((0, 0, 0, 0), false)) (cond (kind_0 == 3) (some ((0, 0, 1, 4), false)) (Option.bind (r_shape_j1 kind_0) (fun p18 => cond p18 (some ((0, 0, 0, 30), false)) (Option.bind (r_shape_j2 kind_0) (fun p29 => cond p29 (some ((1, 1, 2, 2), false)) (Option.bind (r_shape_j3 kind_0) (fun p42 => cond p42 (some ((1, 4, 1, 1), true)) (Option.bind (r_shape_j4 kind_0) (fun p53 => cond p53 (some ((1, 4, 1, 1), false)) (cond (kind_0 == 14) (some ((0, 0, 2, 5), false)) (Option.bind (r_shape_j5 kind_0) (fun p68 => cond p68 (some ((0, 0, 2, 2), false)) (Option.bind (r_shape_j6 kind_0) (fun p79 => cond p79 (some ((1, 30, 0, 0), true)) (cond (kind_0 == 18) (some ((0, 0, 1, 1), false)) (cond (kind_0 == 19) (some ((0, 0, 3, 3), false)) (cond (kind_0 == 21) (some ((0, 0, 3, 3), false)) (cond (kind_0 == 22) (some ((0, 0, 2, 30), false)) (cond (kind_0 == 23) (some ((1, 5, 2, 2), false)) (some ((1, 4, 1, 1), false))))))))))))))))))))))
theorem r_shape_c {kind_0 : Int} {r : (Int × Int × Int × Int) × Bool} (h : r_shape kind_0 = some r) : PCall Tryz.prog 95 [(.int .i64 kind_0)] (.tup [(.agg [(.int .i64 r.1.1), (.int .i64 r.1.2.1), (.int .i64 r.1.2.2.1), (.int .i64 r.1.2.2.2)]), (.bool r.2)]) := by
  refine PCall.of_empty (PuL.mem (.cons (.int _ _) .nil)) (MCall_of_W ok95 (by simp) (W_start ?_)) (.tup _ (PuL.mem (.cons (.agg _ (PuL.mem (.cons (.int _ _) (.cons (.int _ _) (.cons (.int _ _) (.cons (.int _ _) .nil)))))) (.cons (.bool _) .nil)))); unfold r_shape at h; unfold ac95; try refine gos_ ?_
  obtain ⟨o4, h5, h⟩ := bind_E h; refine r_shape_j0_W kind_0 _ _ _ (Fr.refl _ _) sls_ _ h5 _ ?_
  ·rintro p6 σ' eo fr7 s10; rw [eo] at h; have s11 : σ' 2 = (.ref (AH.empty.next) 0) := (fr7 2 (by decide)).trans sls_; have s12 : σ' 4 = (.int .i64 kind_0) := (fr7 4 (by decide)).trans sls_; rcases cond_E h with ⟨e13, h⟩ | ⟨e13, h⟩
   ·obtain rfl := som_E h; try refine gos_ ?_
    exact (fz_tup (.cons (fz_agg (.cons (.pure _ (.int _ _)) (.cons (.pure _ (.int _ _)) (.cons (.pure _ (.int _ _)) (.cons (.pure _ (.int _ _)) .nil))))) (.cons (.pure _ (.bool _)) .nil)))
   ·rcases cond_E h with ⟨e14, h⟩ | ⟨e14, h⟩
    ·obtain rfl := som_E h; try refine gos_ ?_
     exact (fz_tup (.cons (fz_agg (.cons (.pure _ (.int _ _)) (.cons (.pure _ (.int _ _)) (.cons (.pure _ (.int _ _)) (.cons (.pure _ (.int _ _)) .nil))))) (.cons (.pure _ (.bool _)) .nil)))
    ·try refine gos_ ?_
     obtain ⟨o16, h17, h⟩ := bind_E h; refine r_shape_j1_W kind_0 _ _ _ (Fr.refl _ _) sls_ _ h17 _ ?_
     ·rintro p18 σ' eo fr19 s22; rw [eo] at h; have s23 : σ' 2 = (.ref (AH.empty.next) 0) := (fr19 2 (by decide)).trans sls_; have s24 : σ' 4 = (.int .i64 kind_0) := (fr19 4 (by decide)).trans sls_; rcases cond_E h with ⟨e25, h⟩ | ⟨e25, h⟩
      ·obtain rfl := som_E h; try refine gos_ ?_
       exact (fz_tup (.cons (fz_agg (.cons (.pure _ (.int _ _)) (.cons (.pure _ (.int _ _)) (.cons (.pure _ (.int _ _)) (.cons (.pure _ (.int _ _)) .nil))))) (.cons (.pure _ (.bool _)) .nil)))
      ·try refine gos_ ?_
       obtain ⟨o27, h28, h⟩ := bind_E h; refine r_shape_j2_W kind_0 _ _ _ (Fr.refl _ _) sls_ _ h28 _ ?_
       ·rintro p29 σ' eo fr30 s33; rw [eo] at h; have s34 : σ' 2 = (.ref (AH.empty.next) 0) := (fr30 2 (by decide)).trans sls_; have s35 : σ' 4 = (.int .i64 kind_0) := (fr30 4 (by decide)).trans sls_; rcases cond_E h with ⟨e36, h⟩ | ⟨e36, h⟩
        ·obtain rfl := som_E h; try refine gos_ ?_
         exact (fz_tup (.cons (fz_agg (.cons (.pure _ (.int _ _)) (.cons (.pure _ (.int _ _)) (.cons (.pure _ (.int _ _)) (.cons (.pure _ (.int _ _)) .nil))))) (.cons (.pure _ (.bool _)) .nil)))
        ·try refine gos_ ?_
         obtain ⟨o40, h41, h⟩ := bind_E h; refine r_shape_j3_W kind_0 _ _ _ (Fr.refl _ _) sls_ _ h41 _ ?_
         ·rintro p42 σ' eo fr43 s46; rw [eo] at h; have s47 : σ' 2 = (.ref (AH.empty.next) 0) := (fr43 2 (by decide)).trans sls_; have s48 : σ' 4 = (.int .i64 kind_0) := (fr43 4 (by decide)).trans sls_; rcases cond_E h with ⟨e49, h⟩ | ⟨e49, h⟩
          ·obtain rfl := som_E h; try refine gos_ ?_
           exact (fz_tup (.cons (fz_agg (.cons (.pure _ (.int _ _)) (.cons (.pure _ (.int _ _)) (.cons (.pure _ (.int _ _)) (.cons (.pure _ (.int _ _)) .nil))))) (.cons (.pure _ (.bool _)) .nil)))
          ·try refine gos_ ?_
           obtain ⟨o51, h52, h⟩ := bind_E h; refine r_shape_j4_W kind_0 _ _ _ (Fr.refl _ _) sls_ _ h52 _ ?_
           ·rintro p53 σ' eo fr54 s57; rw [eo] at h; have s58 : σ' 2 = (.ref (AH.empty.next) 0) := (fr54 2 (by decide)).trans sls_; have s59 : σ' 4 = (.int .i64 kind_0) := (fr54 4 (by decide)).trans sls_; rcases cond_E h with ⟨e60, h⟩ | ⟨e60, h⟩
            ·obtain rfl := som_E h; try refine gos_ ?_
             exact (fz_tup (.cons (fz_agg (.cons (.pure _ (.int _ _)) (.cons (.pure _ (.int _ _)) (.cons (.pure _ (.int _ _)) (.cons (.pure _ (.int _ _)) .nil))))) (.cons (.pure _ (.bool _)) .nil)))
            ·rcases cond_E h with ⟨e61, h⟩ | ⟨e61, h⟩
             ·obtain rfl := som_E h; try refine gos_ ?_
              exact (fz_tup (.cons (fz_agg (.cons (.pure _ (.int _ _)) (.cons (.pure _ (.int _ _)) (.cons (.pure _ (.int _ _)) (.cons (.pure _ (.int _ _)) .nil))))) (.cons (.pure _ (.bool _)) .nil)))
             ·try refine gos_ ?_
              obtain ⟨o66, h67, h⟩ := bind_E h; refine r_shape_j5_W kind_0 _ _ _ (Fr.refl _ _) sls_ _ h67 _ ?_
              ·rintro p68 σ' eo fr69 s72; rw [eo] at h; have s73 : σ' 2 = (.ref (AH.empty.next) 0) := (fr69 2 (by decide)).trans sls_; have s74 : σ' 4 = (.int .i64 kind_0) := (fr69 4 (by decide)).trans sls_; rcases cond_E h with ⟨e75, h⟩ | ⟨e75, h⟩
               ·obtain rfl := som_E h; try refine gos_ ?_
                exact (fz_tup (.cons (fz_agg (.cons (.pure _ (.int _ _)) (.cons (.pure _ (.int _ _)) (.cons (.pure _ (.int _ _)) (.cons (.pure _ (.int _ _)) .nil))))) (.cons (.pure _ (.bool _)) .nil)))
               ·try refine gos_ ?_
                obtain ⟨o77, h78, h⟩ := bind_E h; refine r_shape_j6_W kind_0 _ _ _ (Fr.refl _ _) sls_ _ h78 _ ?_
                ·rintro p79 σ' eo fr80 s83; rw [eo] at h; have s84 : σ' 2 = (.ref (AH.empty.next) 0) := (fr80 2 (by decide)).trans sls_; have s85 : σ' 4 = (.int .i64 kind_0) := (fr80 4 (by decide)).trans sls_; rcases cond_E h with ⟨e86, h⟩ | ⟨e86, h⟩
                 ·obtain rfl := som_E h; try refine gos_ ?_
                  exact (fz_tup (.cons (fz_agg (.cons (.pure _ (.int _ _)) (.cons (.pure _ (.int _ _)) (.cons (.pure _ (.int _ _)) (.cons (.pure _ (.int _ _)) .nil))))) (.cons (.pure _ (.bool _)) .nil)))
                 ·rcases cond_E h with ⟨e87, h⟩ | ⟨e87, h⟩
                  ·obtain rfl := som_E h; try refine gos_ ?_
                   exact (fz_tup (.cons (fz_agg (.cons (.pure _ (.int _ _)) (.cons (.pure _ (.int _ _)) (.cons (.pure _ (.int _ _)) (.cons (.pure _ (.int _ _)) .nil))))) (.cons (.pure _ (.bool _)) .nil)))
                  ·rcases cond_E h with ⟨e88, h⟩ | ⟨e88, h⟩
                   ·obtain rfl := som_E h; try refine gos_ ?_
                    exact (fz_tup (.cons (fz_agg (.cons (.pure _ (.int _ _)) (.cons (.pure _ (.int _ _)) (.cons (.pure _ (.int _ _)) (.cons (.pure _ (.int _ _)) .nil))))) (.cons (.pure _ (.bool _)) .nil)))
                   ·rcases cond_E h with ⟨e89, h⟩ | ⟨e89, h⟩
                    ·obtain rfl := som_E h; try refine gos_ ?_
                     exact (fz_tup (.cons (fz_agg (.cons (.pure _ (.int _ _)) (.cons (.pure _ (.int _ _)) (.cons (.pure _ (.int _ _)) (.cons (.pure _ (.int _ _)) .nil))))) (.cons (.pure _ (.bool _)) .nil)))
                    ·rcases cond_E h with ⟨e90, h⟩ | ⟨e90, h⟩
                     ·obtain rfl := som_E h; try refine gos_ ?_
                      exact (fz_tup (.cons (fz_agg (.cons (.pure _ (.int _ _)) (.cons (.pure _ (.int _ _)) (.cons (.pure _ (.int _ _)) (.cons (.pure _ (.int _ _)) .nil))))) (.cons (.pure _ (.bool _)) .nil)))
                     ·rcases cond_E h with ⟨e91, h⟩ | ⟨e91, h⟩
                      ·obtain rfl := som_E h; try refine gos_ ?_
                       exact (fz_tup (.cons (fz_agg (.cons (.pure _ (.int _ _)) (.cons (.pure _ (.int _ _)) (.cons (.pure _ (.int _ _)) (.cons (.pure _ (.int _ _)) .nil))))) (.cons (.pure _ (.bool _)) .nil)))
                      ·obtain rfl := som_E h; try refine gos_ ?_
                       exact (fz_tup (.cons (fz_agg (.cons (.pure _ (.int _ _)) (.cons (.pure _ (.int _ _)) (.cons (.pure _ (.int _ _)) (.cons (.pure _ (.int _ _)) .nil))))) (.cons (.pure _ (.bool _)) .nil)))
def b_First_b0 : Nat -> (List Nd) -> Int -> Option (Int ⊕ Int)
  | 0, _, _ => none
  | k + 1, e_0, root_1 =>
    if 0 <= root_1 then Option.bind (e_0[root_1.toNat]?) fun x3 => cond (decide ((x3.args.length : Int) > 0)) (Option.bind (x3.args[0]?) fun x6 => Option.bind (b_Between x6 0 (IntKind.wrap .i64 (root_1 - 1))) fun p9 => cond p9 (b_First_b0 k e_0 x6) (some (.inr ((-1))))) (some (.inl root_1)) else none
def b_First_b0l : List Nat := [1, 4, 5, 8, 9, 10, 11, 12, 13, 14, 15, 16, 17, 18, 19, 20, 21, 22, 23, 24, 25, 26, 27]
theorem b_First_b0_W : ∀ (k : Nat) (e_0 : List Nd) (root_1 : Int) (σ0 σ : Nat -> PV) (H : AH) (f0 : Fr b_First_b0l σ0 σ) (sl : σ 0 = (.isl (e_0.map Nd.cells) .unk) /\ σ 1 = (.int .i64 root_1)) (o : Int ⊕ Int) (h : b_First_b0 k e_0 root_1 = some o) (Q : Post) (q0 : ∀ (p : Int) (σ' : Nat -> PV), o = .inl p -> Fr b_First_b0l σ0 σ' -> (σ' 1 = (.int .i64 p)) -> Q (.exit 0) σ' H) (q1 : ∀ (p : Int) (σ' : Nat -> PV), o = .inr (p) -> Fr b_First_b0l σ0 σ' -> (σ' 4 = (.int .i64 p)) -> Q .ret σ' H) , W Tryz.prog (.loop ac57_b0) Q σ H := by
  intro k
  induction k with
  | zero => intro e_0 root_1 σ0 σ H f0 sl o h Q q0 q1; simp only [b_First_b0, reduceCtorEq] at h
  | succ k ih =>
    intro e_0 root_1 σ0 σ H f0 sl o h Q q0 q1; obtain ⟨s0, s1⟩ := sl; unfold b_First_b0 at h; refine W_loopK (fun K hK => W_start ?_); unfold ac57_b0; obtain ⟨e2, h⟩ := if_E h; obtain ⟨x3, e4, h⟩ := bind_E h; rcases cond_E h with ⟨e5, h⟩ | ⟨e5, h⟩
    ·obtain ⟨x6, e7, h⟩ := bind_E h; obtain ⟨p9, e8, h⟩ := bind_E h; try refine gos_ ?_
     refine mcall_pure (b_Between_c e8) ?_; rcases cond_E h with ⟨e10, h⟩ | ⟨e10, h⟩
     ·try refine gos_ ?_
      refine hK _ _ ?_; exact ih e_0 x6 _ _ _ fr_ sls_ _ h _ q0 q1
     ·obtain rfl := som_E h; try refine gos_ ?_
      exact q1 _ _ rfl fr_ sls_
    ·obtain rfl := som_E h; try refine gos_ ?_
     exact q0 _ _ rfl fr_ sls_
def b_First (k : Nat) (e_0 : List Nd) (root_1 : Int) : Option Int :=
  cond (decide (root_1 < 0)) (some (-1)) (Option.bind (b_First_b0 k e_0 root_1) (fun o => Sum.elim (fun p13 => some p13) (fun p18 => some p18) o))
theorem b_First_c {k : Nat} {e_0 : List Nd} {root_1 : Int} {c0 : Ck} {r : Int} (h : b_First k e_0 root_1 = some r) : PCall Tryz.prog 57 [(.isl (e_0.map Nd.cells) c0), (.int .i64 root_1)] (.int .i64 r) := by
  refine PCall.lw (.isl (.same .nil)) (PCall.of_empty (PuL.mem (.cons (pu_sl Nd.pu _) (.cons (.int _ _) .nil))) (MCall_of_W ok57 (by simp) (W_start ?_)) (.int _ _)); unfold b_First at h; unfold ac57; rcases cond_E h with ⟨e1, h⟩ | ⟨e1, h⟩
  ·obtain rfl := som_E h; try refine gos_ ?_
   exact (.pure _ (.int _ _))
  ·try refine gos_ ?_
   obtain ⟨o11, h12, h⟩ := bind_E h; refine b_First_b0_W k e_0 root_1 _ _ _ (Fr.refl _ _) sls_ _ h12 _ ?_ ?_
   ·rintro p13 σ' eo fr14 s17; subst eo; rw [sum_L] at h; obtain rfl := som_E h; try refine gos_ ?_
    exact (.pure _ (.int _ _))
   ·rintro p18 σ' eo fr19 s22; subst eo; rw [sum_R] at h; obtain rfl := som_E h; try refine gos_ ?_
    exact (.pure _ (.int _ _))
def r_placed_b0 : Nat -> (List Nd) -> Int -> Int -> Int -> Option (Unit ⊕ Bool)
  | 0, _, _, _, _ => none
  | k + 1, e_0, i_1, next_5, k_6 =>
    cond (decide (k_6 >= 0)) (if 0 <= i_1 then Option.bind (e_0[i_1.toNat]?) fun x6 => if 0 <= k_6 then Option.bind (x6.args[k_6.toNat]?) fun x9 => cond (x9 != (IntKind.wrap .i64 (next_5 - 1))) (some (.inr (false))) (cond (decide (next_5 < 1)) (some (.inr (false))) (Option.bind (b_First k e_0 (IntKind.wrap .i64 (next_5 - 1))) fun p14 => r_placed_b0 k e_0 i_1 p14 (IntKind.wrap .i64 (k_6 - 1)))) else none else none) (some (.inl ()))
def r_placed_b0l : List Nat := [4, 5, 6, 15, 16, 17, 18, 19, 20, 21, 22, 23, 24, 25, 26, 27, 28, 29, 30, 31, 32, 33, 34, 35, 36, 37]
theorem r_placed_b0_W : ∀ (k : Nat) (e_0 : List Nd) (i_1 : Int) (next_5 : Int) (k_6 : Int) (σ0 σ : Nat -> PV) (H : AH) (f0 : Fr r_placed_b0l σ0 σ) (sl : σ 0 = (.isl (e_0.map Nd.cells) .unk) /\ σ 1 = (.int .i64 i_1) /\ σ 5 = (.int .i64 next_5) /\ σ 6 = (.int .i64 k_6)) (o : Unit ⊕ Bool) (h : r_placed_b0 k e_0 i_1 next_5 k_6 = some o) (Q : Post) (q0 : ∀ (p : Unit) (σ' : Nat -> PV), o = .inl p -> Fr r_placed_b0l σ0 σ' -> Q (.exit 0) σ' H) (q1 : ∀ (p : Bool) (σ' : Nat -> PV), o = .inr (p) -> Fr r_placed_b0l σ0 σ' -> (σ' 4 = (.bool p)) -> Q .ret σ' H) , W Tryz.prog (.loop ac96_b0) Q σ H := by
  intro k
  induction k with
  | zero => intro e_0 i_1 next_5 k_6 σ0 σ H f0 sl o h Q q0 q1; simp only [r_placed_b0, reduceCtorEq] at h
  | succ k ih =>
    intro e_0 i_1 next_5 k_6 σ0 σ H f0 sl o h Q q0 q1; obtain ⟨s0, s1, s5, s6⟩ := sl; unfold r_placed_b0 at h; refine W_loopK (fun K hK => W_start ?_); unfold ac96_b0; rcases cond_E h with ⟨e4, h⟩ | ⟨e4, h⟩
    ·obtain ⟨e5, h⟩ := if_E h; obtain ⟨x6, e7, h⟩ := bind_E h; obtain ⟨e8, h⟩ := if_E h; obtain ⟨x9, e10, h⟩ := bind_E h; rcases cond_E h with ⟨e11, h⟩ | ⟨e11, h⟩
     ·obtain rfl := som_E h; try refine gos_ ?_
      exact q1 _ _ rfl fr_ sls_
     ·rcases cond_E h with ⟨e12, h⟩ | ⟨e12, h⟩
      ·obtain rfl := som_E h; try refine gos_ ?_
       exact q1 _ _ rfl fr_ sls_
      ·obtain ⟨p14, e13, h⟩ := bind_E h; try refine gos_ ?_
       refine mcall_pure (b_First_c e13) ?_; try refine gos_ ?_
       refine hK _ _ ?_; exact ih e_0 i_1 p14 (IntKind.wrap .i64 (k_6 - 1)) _ _ _ fr_ sls_ _ h _ q0 q1
    ·obtain rfl := som_E h; try refine gos_ ?_
     exact q0 _ _ rfl fr_
def r_placed (k : Nat) (e_0 : List Nd) (i_1 : Int) : Option Bool :=
  if 0 <= i_1 then Option.bind (e_0[i_1.toNat]?) fun x2 => Option.bind (r_placed_b0 k e_0 i_1 i_1 (IntKind.wrap .i64 ((x2.args.length : Int) - 1))) (fun o => Sum.elim (fun p17 => some true) (fun p21 => some p21) o) else none
theorem r_placed_c {k : Nat} {e_0 : List Nd} {i_1 : Int} {c0 : Ck} {r : Bool} (h : r_placed k e_0 i_1 = some r) : PCall Tryz.prog 96 [(.isl (e_0.map Nd.cells) c0), (.int .i64 i_1)] (.bool r) := by
  refine PCall.lw (.isl (.same .nil)) (PCall.of_empty (PuL.mem (.cons (pu_sl Nd.pu _) (.cons (.int _ _) .nil))) (MCall_of_W ok96 (by simp) (W_start ?_)) (.bool _)); unfold r_placed at h; unfold ac96; obtain ⟨e1, h⟩ := if_E h; obtain ⟨x2, e3, h⟩ := bind_E h; try refine gos_ ?_
  obtain ⟨o15, h16, h⟩ := bind_E h; refine r_placed_b0_W k e_0 i_1 i_1 (IntKind.wrap .i64 ((x2.args.length : Int) - 1)) _ _ _ (Fr.refl _ _) sls_ _ h16 _ ?_ ?_
  ·rintro p17 σ' eo fr18; subst eo; rw [sum_L] at h; obtain rfl := som_E h; try refine gos_ ?_
   exact (.pure _ (.bool _))
  ·rintro p21 σ' eo fr22 s25; subst eo; rw [sum_R] at h; obtain rfl := som_E h; try refine gos_ ?_
   exact (.pure _ (.bool _))
def b_IsShown_b0 : Nat -> Str -> Int -> Option (Unit ⊕ Bool)
  | 0, _, _ => none
  | k + 1, s_0, i_5 =>
    cond (decide (i_5 < (s_0.length : Int))) (if 0 <= i_5 then Option.bind (s_0[i_5.toNat]?) fun x4 => cond (decide ((x4.toNat : Int) < 32)) (some (.inr (false))) (cond (decide ((x4.toNat : Int) > 126)) (some (.inr (false))) (b_IsShown_b0 k s_0 (IntKind.wrap .i64 (i_5 + 1)))) else none) (some (.inl ()))
def b_IsShown_b0l : List Nat := [4, 5, 10, 11, 12, 13, 14, 15, 16, 17, 18, 19, 20, 21, 22, 23, 24, 25]
theorem b_IsShown_b0_W : ∀ (k : Nat) (s_0 : Str) (i_5 : Int) (σ0 σ : Nat -> PV) (H : AH) (f0 : Fr b_IsShown_b0l σ0 σ) (sl : σ 0 = (.str s_0) /\ σ 5 = (.int .i64 i_5)) (o : Unit ⊕ Bool) (h : b_IsShown_b0 k s_0 i_5 = some o) (Q : Post) (q0 : ∀ (p : Unit) (σ' : Nat -> PV), o = .inl p -> Fr b_IsShown_b0l σ0 σ' -> Q (.exit 0) σ' H) (q1 : ∀ (p : Bool) (σ' : Nat -> PV), o = .inr (p) -> Fr b_IsShown_b0l σ0 σ' -> (σ' 4 = (.bool p)) -> Q .ret σ' H) , W Tryz.prog (.loop ac148_b0) Q σ H := by
  intro k
  induction k with
  | zero => intro s_0 i_5 σ0 σ H f0 sl o h Q q0 q1; simp only [b_IsShown_b0, reduceCtorEq] at h
  | succ k ih =>
    intro s_0 i_5 σ0 σ H f0 sl o h Q q0 q1; obtain ⟨s0, s5⟩ := sl; unfold b_IsShown_b0 at h; refine W_loopK (fun K hK => W_start ?_); unfold ac148_b0; rcases cond_E h with ⟨e2, h⟩ | ⟨e2, h⟩
    ·obtain ⟨e3, h⟩ := if_E h; obtain ⟨x4, e5, h⟩ := bind_E h; rcases cond_E h with ⟨e6, h⟩ | ⟨e6, h⟩
     ·obtain rfl := som_E h; try refine gos_ ?_
      exact q1 _ _ rfl fr_ sls_
     ·rcases cond_E h with ⟨e7, h⟩ | ⟨e7, h⟩
      ·obtain rfl := som_E h; try refine gos_ ?_
       exact q1 _ _ rfl fr_ sls_
      ·try refine gos_ ?_
       refine hK _ _ ?_; exact ih s_0 (IntKind.wrap .i64 (i_5 + 1)) _ _ _ fr_ sls_ _ h _ q0 q1
    ·obtain rfl := som_E h; try refine gos_ ?_
     exact q0 _ _ rfl fr_
def b_IsShown (k : Nat) (s_0 : Str) (most_1 : Int) : Option Bool :=
  cond (decide ((s_0.length : Int) > most_1)) (some false) (Option.bind (b_IsShown_b0 k s_0 0) (fun o => Sum.elim (fun p10 => some true) (fun p14 => some p14) o))
theorem b_IsShown_c {k : Nat} {s_0 : Str} {most_1 : Int} {r : Bool} (h : b_IsShown k s_0 most_1 = some r) : PCall Tryz.prog 148 [(.str s_0), (.int .i64 most_1)] (.bool r) := by
  refine PCall.of_empty (PuL.mem (.cons (.str _) (.cons (.int _ _) .nil))) (MCall_of_W ok148 (by simp) (W_start ?_)) (.bool _); unfold b_IsShown at h; unfold ac148; rcases cond_E h with ⟨e1, h⟩ | ⟨e1, h⟩
  ·obtain rfl := som_E h; try refine gos_ ?_
   exact (.pure _ (.bool _))
  ·try refine gos_ ?_
   obtain ⟨o8, h9, h⟩ := bind_E h; refine b_IsShown_b0_W k s_0 0 _ _ _ (Fr.refl _ _) sls_ _ h9 _ ?_ ?_
   ·rintro p10 σ' eo fr11; subst eo; rw [sum_L] at h; obtain rfl := som_E h; try refine gos_ ?_
    exact (.pure _ (.bool _))
   ·rintro p14 σ' eo fr15 s18; subst eo; rw [sum_R] at h; obtain rfl := som_E h; try refine gos_ ?_
    exact (.pure _ (.bool _))
def r_plain_b0 : Nat -> Str -> Int -> Option (Unit ⊕ Bool)
  | 0, _, _ => none
  | k + 1, s_0, i_3 =>
    cond (decide (i_3 < (s_0.length : Int))) (if 0 <= i_3 then Option.bind (s_0[i_3.toNat]?) fun x6 => cond ((x6.toNat : Int) == 34) (some (.inr (false))) (cond ((x6.toNat : Int) == 92) (some (.inr (false))) (r_plain_b0 k s_0 (IntKind.wrap .i64 (i_3 + 1)))) else none) (some (.inl ()))
def r_plain_b0l : List Nat := [2, 3, 7, 8, 9, 10, 11, 12, 13, 14, 15, 16, 17, 18, 19, 20, 21, 22]
theorem r_plain_b0_W : ∀ (k : Nat) (s_0 : Str) (i_3 : Int) (σ0 σ : Nat -> PV) (H : AH) (f0 : Fr r_plain_b0l σ0 σ) (sl : σ 0 = (.str s_0) /\ σ 3 = (.int .i64 i_3)) (o : Unit ⊕ Bool) (h : r_plain_b0 k s_0 i_3 = some o) (Q : Post) (q0 : ∀ (p : Unit) (σ' : Nat -> PV), o = .inl p -> Fr r_plain_b0l σ0 σ' -> Q (.exit 0) σ' H) (q1 : ∀ (p : Bool) (σ' : Nat -> PV), o = .inr (p) -> Fr r_plain_b0l σ0 σ' -> (σ' 2 = (.bool p)) -> Q .ret σ' H) , W Tryz.prog (.loop ac97_b0) Q σ H := by
  intro k
  induction k with
  | zero => intro s_0 i_3 σ0 σ H f0 sl o h Q q0 q1; simp only [r_plain_b0, reduceCtorEq] at h
  | succ k ih =>
    intro s_0 i_3 σ0 σ H f0 sl o h Q q0 q1; obtain ⟨s0, s3⟩ := sl; unfold r_plain_b0 at h; refine W_loopK (fun K hK => W_start ?_); unfold ac97_b0; rcases cond_E h with ⟨e4, h⟩ | ⟨e4, h⟩
    ·obtain ⟨e5, h⟩ := if_E h; obtain ⟨x6, e7, h⟩ := bind_E h; rcases cond_E h with ⟨e8, h⟩ | ⟨e8, h⟩
     ·obtain rfl := som_E h; try refine gos_ ?_
      exact q1 _ _ rfl fr_ sls_
     ·rcases cond_E h with ⟨e9, h⟩ | ⟨e9, h⟩
      ·obtain rfl := som_E h; try refine gos_ ?_
       exact q1 _ _ rfl fr_ sls_
      ·try refine gos_ ?_
       refine hK _ _ ?_; exact ih s_0 (IntKind.wrap .i64 (i_3 + 1)) _ _ _ fr_ sls_ _ h _ q0 q1
    ·obtain rfl := som_E h; try refine gos_ ?_
     exact q0 _ _ rfl fr_
def r_plain (k : Nat) (s_0 : Str) : Option Bool :=
  Option.bind (b_IsShown k s_0 40) fun p2 => cond p2 (Option.bind (r_plain_b0 k s_0 0) (fun o => Sum.elim (fun p12 => some true) (fun p16 => some p16) o)) (some false)
theorem r_plain_c {k : Nat} {s_0 : Str} {r : Bool} (h : r_plain k s_0 = some r) : PCall Tryz.prog 97 [(.str s_0)] (.bool r) := by
  refine PCall.of_empty (PuL.mem (.cons (.str _) .nil)) (MCall_of_W ok97 (by simp) (W_start ?_)) (.bool _); unfold r_plain at h; unfold ac97; obtain ⟨p2, e1, h⟩ := bind_E h; try refine gos_ ?_
  refine mcall_pure (b_IsShown_c e1) ?_; rcases cond_E h with ⟨e3, h⟩ | ⟨e3, h⟩
  ·try refine gos_ ?_
   obtain ⟨o10, h11, h⟩ := bind_E h; refine r_plain_b0_W k s_0 0 _ _ _ (Fr.refl _ _) sls_ _ h11 _ ?_ ?_
   ·rintro p12 σ' eo fr13; subst eo; rw [sum_L] at h; obtain rfl := som_E h; try refine gos_ ?_
    exact (.pure _ (.bool _))
   ·rintro p16 σ' eo fr17 s20; subst eo; rw [sum_R] at h; obtain rfl := som_E h; try refine gos_ ?_
    exact (.pure _ (.bool _))
  ·obtain rfl := som_E h; try refine gos_ ?_
   exact (.pure _ (.bool _))
def r_nodeErr_p0 (n_5_0 : Int) (n_5_1 : Int) (n_5_2 : Str) (n_5_3 : List Str) (n_5_4 : List Int) (t_37 : Bool) : Option Bool :=
  cond t_37 (some ((n_5_0 == 3))) (some (false))
theorem r_nodeErr_p0_W : ∀ (o_n_5 : Nat) (n_5_0 : Int) (n_5_1 : Int) (n_5_2 : Str) (n_5_3 : List Str) (n_5_4 : List Int) (t_37 : Bool) (σ0 σ : Nat -> PV) (H : AH) (f0 : Fr [38, 39, 40, 41] σ0 σ) (sl : σ 5 = (.ref (o_n_5) 0) /\ σ 37 = (.bool t_37) /\ H.obj o_n_5 = some [(.int .i64 n_5_0), (.int .i64 n_5_1), (.str n_5_2), (.isl (n_5_3.map strL) .unk), (.isl (n_5_4.map intL) .unk)]) (l_o_n_5 : o_n_5 < H.next) (o : Bool) (h : r_nodeErr_p0 n_5_0 n_5_1 n_5_2 n_5_3 n_5_4 t_37 = some o) (Q : Post) (q0 : ∀ (p : Bool) (σ' : Nat -> PV), o = p -> Fr [38, 39, 40, 41] σ0 σ' -> (σ' 41 = (.bool p)) -> Q .normal σ' H) , WOps Tryz.prog ac54_p0 (Q .normal) σ H := by
  intro o_n_5 n_5_0 n_5_1 n_5_2 n_5_3 n_5_4 t_37 σ0 σ H f0 sl l_o_n_5 o h Q q0; obtain ⟨s5, s37, g_o_n_5⟩ := sl; have n_o_n_5 := ne_next l_o_n_5; have m_o_n_5 := ne_add l_o_n_5; unfold r_nodeErr_p0 at h; refine WO_start ?_; unfold ac54_p0; rcases cond_E h with ⟨e11, h⟩ | ⟨e11, h⟩
  ·obtain rfl := som_E h; try refine gos_ ?_
   exact q0 _ _ rfl fr_ sls_
  ·obtain rfl := som_E h; try refine gos_ ?_
   exact q0 _ _ rfl fr_ sls_
def r_nodeErr_j1 (k : Nat) (n_5_0 : Int) (n_5_1 : Int) (n_5_2 : Str) (n_5_3 : List Str) (n_5_4 : List Int) (s_6_0 : Int) (s_6_1 : Int) (s_6_2 : Int) (s_6_3 : Int) : Option ((Int × Int × Int × Int)) :=
  Option.bind (r_OperatorOf k n_5_2) fun p10 => Option.bind (r_nodeErr_p0 n_5_0 n_5_1 n_5_2 n_5_3 n_5_4 p10.2) (fun p14 => cond p14 (some ((s_6_0, s_6_1, 0, (n_5_4.length : Int)))) (some ((s_6_0, s_6_1, s_6_2, s_6_3))))
def r_nodeErr_j1l : List Nat := [8, 9, 30, 31, 32, 33, 34, 35, 36, 37, 38, 39, 40, 41, 42, 43, 44, 45, 46]
theorem r_nodeErr_j1_W (k : Nat) : ∀ (o_n_5 : Nat) (o_s_6 : Nat) (n_5_0 : Int) (n_5_1 : Int) (n_5_2 : Str) (n_5_3 : List Str) (n_5_4 : List Int) (s_6_0 : Int) (s_6_1 : Int) (s_6_2 : Int) (s_6_3 : Int) (σ0 σ : Nat -> PV) (H0 H : AH) (f0 : Fr r_nodeErr_j1l σ0 σ) (hf0 : HF [o_s_6] H0 H) (sl : σ 5 = (.ref (o_n_5) 0) /\ σ 6 = (.ref (o_s_6) 0) /\ H.obj o_n_5 = some [(.int .i64 n_5_0), (.int .i64 n_5_1), (.str n_5_2), (.isl (n_5_3.map strL) .unk), (.isl (n_5_4.map intL) .unk)] /\ H.obj o_s_6 = some [(.int .i64 s_6_0), (.int .i64 s_6_1), (.int .i64 s_6_2), (.int .i64 s_6_3)]) (l_o_n_5 : o_n_5 < H.next) (l_o_s_6 : o_s_6 < H.next) (d_o_n_5_o_s_6 : o_n_5 ≠ o_s_6) (o : (Int × Int × Int × Int)) (h : r_nodeErr_j1 k n_5_0 n_5_1 n_5_2 n_5_3 n_5_4 s_6_0 s_6_1 s_6_2 s_6_3 = some o) (Q : Post) (q0 : ∀ (p : Int × Int × Int × Int) (σ' : Nat -> PV) (H' : AH), o = p -> Fr r_nodeErr_j1l σ0 σ' -> HF [o_s_6] H0 H' -> (H'.obj o_s_6 = some [(.int .i64 p.1), (.int .i64 p.2.1), (.int .i64 p.2.2.1), (.int .i64 p.2.2.2)]) -> Q .normal σ' H') , W Tryz.prog ac54_j1 Q σ H := by
  intro o_n_5 o_s_6 n_5_0 n_5_1 n_5_2 n_5_3 n_5_4 s_6_0 s_6_1 s_6_2 s_6_3 σ0 σ H0 H f0 hf0 sl l_o_n_5 l_o_s_6 d_o_n_5_o_s_6 o h Q q0; obtain ⟨s5, s6, g_o_n_5, g_o_s_6⟩ := sl; have n_o_n_5 := ne_next l_o_n_5; have m_o_n_5 := ne_add l_o_n_5; have n_o_s_6 := ne_next l_o_s_6; have m_o_s_6 := ne_add l_o_s_6; have e_o_n_5_o_s_6 := eq_false d_o_n_5_o_s_6; have r_o_n_5_o_s_6 := eq_false (Ne.symm d_o_n_5_o_s_6); have hle0 := hf0.1; unfold r_nodeErr_j1 at h; refine W_start ?_; unfold ac54_j1; obtain ⟨p10, e9, h⟩ := bind_E h; try refine gos_ ?_
  refine mcall_pure (r_OperatorOf_c e9) ?_; try refine gos_ ?_
  obtain ⟨o12, h13, h⟩ := bind_E h; refine r_nodeErr_p0_W (o_n_5) n_5_0 n_5_1 n_5_2 n_5_3 n_5_4 p10.2 _ _ _ (Fr.refl _ _) sls_ om_ _ h13 _ ?_
  ·rintro p14 σ' eo fr15 s18; rw [eo] at h; have s19 : σ' 5 = (.ref (o_n_5) 0) := (fr15 5 (by decide)).trans sls_; have s20 : σ' 6 = (.ref (o_s_6) 0) := (fr15 6 (by decide)).trans sls_; rcases cond_E h with ⟨e21, h⟩ | ⟨e21, h⟩
   ·try refine gos_ ?_
    refine WS_parT (o_s_6) ?_; obtain rfl := som_E h; try refine gos_ ?_
    exact q0 _ _ _ rfl (by repeat (first | exact f0 | refine Fr.upd (by decide) ?_ | refine Fr.via fr15 (by decide) ?_)) (by repeat (first | exact hf0 | refine HF.new ?_ | refine HF.tokd ?_ | refine HF.used ?_ | refine HF.put (by first | (right; omega) | (left; simp only [List.mem_cons, true_or, or_true])) ?_)) sls_
   ·obtain rfl := som_E h; try refine gos_ ?_
    exact q0 _ _ _ rfl (by repeat (first | exact f0 | refine Fr.upd (by decide) ?_ | refine Fr.via fr15 (by decide) ?_)) (by repeat (first | exact hf0 | refine HF.new ?_ | refine HF.tokd ?_ | refine HF.used ?_ | refine HF.put (by first | (right; omega) | (left; simp only [List.mem_cons, true_or, or_true])) ?_)) sls_
def r_nodeErr_p2 (s_6_0 : Int) (s_6_1 : Int) (s_6_2 : Int) (s_6_3 : Int) (args_10 : Int) (t_66 : Bool) : Option Bool :=
  cond t_66 (some (true)) (Option.bind (b_Between args_10 s_6_2 s_6_3) fun p46 => some ((!p46)))
def r_nodeErr_p2l : List Nat := [67, 68, 69, 70, 71, 72, 73, 74]
theorem r_nodeErr_p2_W : ∀ (o_s_6 : Nat) (s_6_0 : Int) (s_6_1 : Int) (s_6_2 : Int) (s_6_3 : Int) (args_10 : Int) (t_66 : Bool) (σ0 σ : Nat -> PV) (H : AH) (f0 : Fr r_nodeErr_p2l σ0 σ) (sl : σ 6 = (.ref (o_s_6) 0) /\ σ 10 = (.int .i64 args_10) /\ σ 66 = (.bool t_66) /\ H.obj o_s_6 = some [(.int .i64 s_6_0), (.int .i64 s_6_1), (.int .i64 s_6_2), (.int .i64 s_6_3)]) (l_o_s_6 : o_s_6 < H.next) (o : Bool) (h : r_nodeErr_p2 s_6_0 s_6_1 s_6_2 s_6_3 args_10 t_66 = some o) (Q : Post) (q0 : ∀ (p : Bool) (σ' : Nat -> PV), o = p -> Fr r_nodeErr_p2l σ0 σ' -> (σ' 74 = (.bool p)) -> Q .normal σ' H) , WOps Tryz.prog ac54_p2 (Q .normal) σ H := by
  intro o_s_6 s_6_0 s_6_1 s_6_2 s_6_3 args_10 t_66 σ0 σ H f0 sl l_o_s_6 o h Q q0; obtain ⟨s6, s10, s66, g_o_s_6⟩ := sl; have n_o_s_6 := ne_next l_o_s_6; have m_o_s_6 := ne_add l_o_s_6; unfold r_nodeErr_p2 at h; refine WO_start ?_; unfold ac54_p2; rcases cond_E h with ⟨e44, h⟩ | ⟨e44, h⟩
  ·obtain rfl := som_E h; try refine gos_ ?_
   exact q0 _ _ rfl fr_ sls_
  ·obtain ⟨p46, e45, h⟩ := bind_E h; try refine gos_ ?_
   refine mcall_pure (b_Between_c e45) ?_; obtain rfl := som_E h; try refine gos_ ?_
   exact q0 _ _ rfl fr_ sls_
def r_nodeErr_p3 (n_5_0 : Int) (n_5_1 : Int) (n_5_2 : Str) (n_5_3 : List Str) (n_5_4 : List Int) (t_78 : Bool) : Option Bool :=
  cond t_78 (some (true)) (cond (n_5_0 == 2) (some (true)) (cond (n_5_0 == 3) (some (true)) (some ((n_5_0 == 18)))))
def r_nodeErr_p3l : List Nat := [79, 80, 81, 82, 83, 84, 85, 86, 87, 88, 89, 90, 91, 92]
theorem r_nodeErr_p3_W : ∀ (o_n_5 : Nat) (n_5_0 : Int) (n_5_1 : Int) (n_5_2 : Str) (n_5_3 : List Str) (n_5_4 : List Int) (t_78 : Bool) (σ0 σ : Nat -> PV) (H : AH) (f0 : Fr r_nodeErr_p3l σ0 σ) (sl : σ 5 = (.ref (o_n_5) 0) /\ σ 78 = (.bool t_78) /\ H.obj o_n_5 = some [(.int .i64 n_5_0), (.int .i64 n_5_1), (.str n_5_2), (.isl (n_5_3.map strL) .unk), (.isl (n_5_4.map intL) .unk)]) (l_o_n_5 : o_n_5 < H.next) (o : Bool) (h : r_nodeErr_p3 n_5_0 n_5_1 n_5_2 n_5_3 n_5_4 t_78 = some o) (Q : Post) (q0 : ∀ (p : Bool) (σ' : Nat -> PV), o = p -> Fr r_nodeErr_p3l σ0 σ' -> (σ' 92 = (.bool p)) -> Q .normal σ' H) , WOps Tryz.prog ac54_p3 (Q .normal) σ H := by
  intro o_n_5 n_5_0 n_5_1 n_5_2 n_5_3 n_5_4 t_78 σ0 σ H f0 sl l_o_n_5 o h Q q0; obtain ⟨s5, s78, g_o_n_5⟩ := sl; have n_o_n_5 := ne_next l_o_n_5; have m_o_n_5 := ne_add l_o_n_5; unfold r_nodeErr_p3 at h; refine WO_start ?_; unfold ac54_p3; rcases cond_E h with ⟨e58, h⟩ | ⟨e58, h⟩
  ·obtain rfl := som_E h; try refine gos_ ?_
   exact q0 _ _ rfl fr_ sls_
  ·rcases cond_E h with ⟨e59, h⟩ | ⟨e59, h⟩
   ·obtain rfl := som_E h; try refine gos_ ?_
    exact q0 _ _ rfl fr_ sls_
   ·rcases cond_E h with ⟨e60, h⟩ | ⟨e60, h⟩
    ·obtain rfl := som_E h; try refine gos_ ?_
     exact q0 _ _ rfl fr_ sls_
    ·obtain rfl := som_E h; try refine gos_ ?_
     exact q0 _ _ rfl fr_ sls_
def r_nodeErr_p4 (k : Nat) (n_5_0 : Int) (n_5_1 : Int) (n_5_2 : Str) (n_5_3 : List Str) (n_5_4 : List Int) (text_11 : Bool) (t_97 : Bool) : Option Bool :=
  cond t_97 (some (true)) (cond text_11 (cond (n_5_0 != 0) (cond (n_5_0 != 23) (cond (n_5_1 != 0) (some (true)) (cond (n_5_0 == 23) (Option.bind (b_Between n_5_1 0 1) fun p80 => cond p80 (cond (n_5_0 == 1) (Option.bind (r_plain k n_5_2) fun p84 => some ((!p84))) (some (false))) (some (true))) (cond (n_5_0 == 1) (Option.bind (r_plain k n_5_2) fun p87 => some ((!p87))) (some (false))))) (cond (n_5_0 == 23) (Option.bind (b_Between n_5_1 0 1) fun p90 => cond p90 (cond (n_5_0 == 1) (Option.bind (r_plain k n_5_2) fun p94 => some ((!p94))) (some (false))) (some (true))) (cond (n_5_0 == 1) (Option.bind (r_plain k n_5_2) fun p97 => some ((!p97))) (some (false))))) (cond (n_5_0 == 23) (Option.bind (b_Between n_5_1 0 1) fun p100 => cond p100 (cond (n_5_0 == 1) (Option.bind (r_plain k n_5_2) fun p104 => some ((!p104))) (some (false))) (some (true))) (cond (n_5_0 == 1) (Option.bind (r_plain k n_5_2) fun p107 => some ((!p107))) (some (false))))) (cond (n_5_2 == []) (cond (n_5_0 != 0) (cond (n_5_0 != 23) (cond (n_5_1 != 0) (some (true)) (cond (n_5_0 == 23) (Option.bind (b_Between n_5_1 0 1) fun p114 => cond p114 (cond (n_5_0 == 1) (Option.bind (r_plain k n_5_2) fun p118 => some ((!p118))) (some (false))) (some (true))) (cond (n_5_0 == 1) (Option.bind (r_plain k n_5_2) fun p121 => some ((!p121))) (some (false))))) (cond (n_5_0 == 23) (Option.bind (b_Between n_5_1 0 1) fun p124 => cond p124 (cond (n_5_0 == 1) (Option.bind (r_plain k n_5_2) fun p128 => some ((!p128))) (some (false))) (some (true))) (cond (n_5_0 == 1) (Option.bind (r_plain k n_5_2) fun p131 => some ((!p131))) (some (false))))) (cond (n_5_0 == 23) (Option.bind (b_Between n_5_1 0 1) fun p134 => cond p134 (cond (n_5_0 == 1) (Option.bind (r_plain k n_5_2) fun p138 => some ((!p138))) (some (false))) (some (true))) (cond (n_5_0 == 1) (Option.bind (r_plain k n_5_2) fun p141 => some ((!p141))) (some (false))))) (some (true))))
def r_nodeErr_p4l : List Nat := [98, 99, 100, 101, 102, 103, 104, 105, 106, 107, 108, 109, 110, 111, 112, 113, 114, 115, 116, 117, 118, 119, 120, 121, 122, 123, 124, 125, 126, 127, 128, 129, 130, 131, 132, 133, 134, 135, 136, 137, 138, 139, 140, 141, 142]
theorem r_nodeErr_p4_W (k : Nat) : ∀ (o_n_5 : Nat) (n_5_0 : Int) (n_5_1 : Int) (n_5_2 : Str) (n_5_3 : List Str) (n_5_4 : List Int) (text_11 : Bool) (t_97 : Bool) (σ0 σ : Nat -> PV) (H : AH) (f0 : Fr r_nodeErr_p4l σ0 σ) (sl : σ 5 = (.ref (o_n_5) 0) /\ σ 11 = (.bool text_11) /\ σ 97 = (.bool t_97) /\ H.obj o_n_5 = some [(.int .i64 n_5_0), (.int .i64 n_5_1), (.str n_5_2), (.isl (n_5_3.map strL) .unk), (.isl (n_5_4.map intL) .unk)]) (l_o_n_5 : o_n_5 < H.next) (o : Bool) (h : r_nodeErr_p4 k n_5_0 n_5_1 n_5_2 n_5_3 n_5_4 text_11 t_97 = some o) (Q : Post) (q0 : ∀ (p : Bool) (σ' : Nat -> PV), o = p -> Fr r_nodeErr_p4l σ0 σ' -> (σ' 142 = (.bool p)) -> Q .normal σ' H) , WOps Tryz.prog ac54_p4 (Q .normal) σ H := by
  intro o_n_5 n_5_0 n_5_1 n_5_2 n_5_3 n_5_4 text_11 t_97 σ0 σ H f0 sl l_o_n_5 o h Q q0; obtain ⟨s5, s11, s97, g_o_n_5⟩ := sl; have n_o_n_5 := ne_next l_o_n_5; have m_o_n_5 := ne_add l_o_n_5; unfold r_nodeErr_p4 at h; refine WO_start ?_; unfold ac54_p4; rcases cond_E h with ⟨e73, h⟩ | ⟨e73, h⟩
  ·obtain rfl := som_E h; try refine gos_ ?_
   exact q0 _ _ rfl fr_ sls_
  ·rcases cond_E h with ⟨e74, h⟩ | ⟨e74, h⟩
   ·rcases cond_E h with ⟨e75, h⟩ | ⟨e75, h⟩
    ·rcases cond_E h with ⟨e76, h⟩ | ⟨e76, h⟩
     ·rcases cond_E h with ⟨e77, h⟩ | ⟨e77, h⟩
      ·obtain rfl := som_E h; try refine gos_ ?_
       exact q0 _ _ rfl fr_ sls_
      ·rcases cond_E h with ⟨e78, h⟩ | ⟨e78, h⟩
       ·obtain ⟨p80, e79, h⟩ := bind_E h; try refine gos_ ?_
        refine mcall_pure (b_Between_c e79) ?_; rcases cond_E h with ⟨e81, h⟩ | ⟨e81, h⟩
        ·rcases cond_E h with ⟨e82, h⟩ | ⟨e82, h⟩
         ·obtain ⟨p84, e83, h⟩ := bind_E h; try refine gos_ ?_
          refine mcall_pure (r_plain_c e83) ?_; obtain rfl := som_E h; try refine gos_ ?_
          exact q0 _ _ rfl fr_ sls_
         ·obtain rfl := som_E h; try refine gos_ ?_
          exact q0 _ _ rfl fr_ sls_
        ·obtain rfl := som_E h; try refine gos_ ?_
         exact q0 _ _ rfl fr_ sls_
       ·rcases cond_E h with ⟨e85, h⟩ | ⟨e85, h⟩
        ·obtain ⟨p87, e86, h⟩ := bind_E h; try refine gos_ ?_
         refine mcall_pure (r_plain_c e86) ?_; obtain rfl := som_E h; try refine gos_ ?_
         exact q0 _ _ rfl fr_ sls_
        ·obtain rfl := som_E h; try refine gos_ ?_
         exact q0 _ _ rfl fr_ sls_
     ·rcases cond_E h with ⟨e88, h⟩ | ⟨e88, h⟩
      ·obtain ⟨p90, e89, h⟩ := bind_E h; try refine gos_ ?_
       refine mcall_pure (b_Between_c e89) ?_; rcases cond_E h with ⟨e91, h⟩ | ⟨e91, h⟩
       ·rcases cond_E h with ⟨e92, h⟩ | ⟨e92, h⟩
        ·obtain ⟨p94, e93, h⟩ := bind_E h; try refine gos_ ?_
         refine mcall_pure (r_plain_c e93) ?_; obtain rfl := som_E h; try refine gos_ ?_
         exact q0 _ _ rfl fr_ sls_
        ·obtain rfl := som_E h; try refine gos_ ?_
         exact q0 _ _ rfl fr_ sls_
       ·obtain rfl := som_E h; try refine gos_ ?_
        exact q0 _ _ rfl fr_ sls_
      ·rcases cond_E h with ⟨e95, h⟩ | ⟨e95, h⟩
       ·obtain ⟨p97, e96, h⟩ := bind_E h; try refine gos_ ?_
        refine mcall_pure (r_plain_c e96) ?_; obtain rfl := som_E h; try refine gos_ ?_
        exact q0 _ _ rfl fr_ sls_
       ·obtain rfl := som_E h; try refine gos_ ?_
        exact q0 _ _ rfl fr_ sls_
    ·rcases cond_E h with ⟨e98, h⟩ | ⟨e98, h⟩
     ·obtain ⟨p100, e99, h⟩ := bind_E h; try refine gos_ ?_
      refine mcall_pure (b_Between_c e99) ?_; rcases cond_E h with ⟨e101, h⟩ | ⟨e101, h⟩
      ·rcases cond_E h with ⟨e102, h⟩ | ⟨e102, h⟩
       ·obtain ⟨p104, e103, h⟩ := bind_E h; try refine gos_ ?_
        refine mcall_pure (r_plain_c e103) ?_; obtain rfl := som_E h; try refine gos_ ?_
        exact q0 _ _ rfl fr_ sls_
       ·obtain rfl := som_E h; try refine gos_ ?_
        exact q0 _ _ rfl fr_ sls_
      ·obtain rfl := som_E h; try refine gos_ ?_
       exact q0 _ _ rfl fr_ sls_
     ·rcases cond_E h with ⟨e105, h⟩ | ⟨e105, h⟩
      ·obtain ⟨p107, e106, h⟩ := bind_E h; try refine gos_ ?_
       refine mcall_pure (r_plain_c e106) ?_; obtain rfl := som_E h; try refine gos_ ?_
       exact q0 _ _ rfl fr_ sls_
      ·obtain rfl := som_E h; try refine gos_ ?_
       exact q0 _ _ rfl fr_ sls_
   ·rcases cond_E h with ⟨e108, h⟩ | ⟨e108, h⟩
    ·rcases cond_E h with ⟨e109, h⟩ | ⟨e109, h⟩
     ·rcases cond_E h with ⟨e110, h⟩ | ⟨e110, h⟩
      ·rcases cond_E h with ⟨e111, h⟩ | ⟨e111, h⟩
       ·obtain rfl := som_E h; try refine gos_ ?_
        exact q0 _ _ rfl fr_ sls_
       ·rcases cond_E h with ⟨e112, h⟩ | ⟨e112, h⟩
        ·obtain ⟨p114, e113, h⟩ := bind_E h; try refine gos_ ?_
         refine mcall_pure (b_Between_c e113) ?_; rcases cond_E h with ⟨e115, h⟩ | ⟨e115, h⟩
         ·rcases cond_E h with ⟨e116, h⟩ | ⟨e116, h⟩
          ·obtain ⟨p118, e117, h⟩ := bind_E h; try refine gos_ ?_
           refine mcall_pure (r_plain_c e117) ?_; obtain rfl := som_E h; try refine gos_ ?_
           exact q0 _ _ rfl fr_ sls_
          ·obtain rfl := som_E h; try refine gos_ ?_
           exact q0 _ _ rfl fr_ sls_
         ·obtain rfl := som_E h; try refine gos_ ?_
          exact q0 _ _ rfl fr_ sls_
        ·rcases cond_E h with ⟨e119, h⟩ | ⟨e119, h⟩
         ·obtain ⟨p121, e120, h⟩ := bind_E h; try refine gos_ ?_
          refine mcall_pure (r_plain_c e120) ?_; obtain rfl := som_E h; try refine gos_ ?_
          exact q0 _ _ rfl fr_ sls_
         ·obtain rfl := som_E h; try refine gos_ ?_
          exact q0 _ _ rfl fr_ sls_
      ·rcases cond_E h with ⟨e122, h⟩ | ⟨e122, h⟩
       ·obtain ⟨p124, e123, h⟩ := bind_E h; try refine gos_ ?_
        refine mcall_pure (b_Between_c e123) ?_; rcases cond_E h with ⟨e125, h⟩ | ⟨e125, h⟩
        ·rcases cond_E h with ⟨e126, h⟩ | ⟨e126, h⟩
         ·obtain ⟨p128, e127, h⟩ := bind_E h; try refine gos_ ?_
          refine mcall_pure (r_plain_c e127) ?_; obtain rfl := som_E h; try refine gos_ ?_
          exact q0 _ _ rfl fr_ sls_
         ·obtain rfl := som_E h; try refine gos_ ?_
          exact q0 _ _ rfl fr_ sls_
        ·obtain rfl := som_E h; try refine gos_ ?_
         exact q0 _ _ rfl fr_ sls_
       ·rcases cond_E h with ⟨e129, h⟩ | ⟨e129, h⟩
        ·obtain ⟨p131, e130, h⟩ := bind_E h; try refine gos_ ?_
         refine mcall_pure (r_plain_c e130) ?_; obtain rfl := som_E h; try refine gos_ ?_
         exact q0 _ _ rfl fr_ sls_
        ·obtain rfl := som_E h; try refine gos_ ?_
         exact q0 _ _ rfl fr_ sls_
     ·rcases cond_E h with ⟨e132, h⟩ | ⟨e132, h⟩
      ·obtain ⟨p134, e133, h⟩ := bind_E h; try refine gos_ ?_
       refine mcall_pure (b_Between_c e133) ?_; rcases cond_E h with ⟨e135, h⟩ | ⟨e135, h⟩
       ·rcases cond_E h with ⟨e136, h⟩ | ⟨e136, h⟩
        ·obtain ⟨p138, e137, h⟩ := bind_E h; try refine gos_ ?_
         refine mcall_pure (r_plain_c e137) ?_; obtain rfl := som_E h; try refine gos_ ?_
         exact q0 _ _ rfl fr_ sls_
        ·obtain rfl := som_E h; try refine gos_ ?_
         exact q0 _ _ rfl fr_ sls_
       ·obtain rfl := som_E h; try refine gos_ ?_
        exact q0 _ _ rfl fr_ sls_
      ·rcases cond_E h with ⟨e139, h⟩ | ⟨e139, h⟩
       ·obtain ⟨p141, e140, h⟩ := bind_E h; try refine gos_ ?_
        refine mcall_pure (r_plain_c e140) ?_; obtain rfl := som_E h; try refine gos_ ?_
        exact q0 _ _ rfl fr_ sls_
       ·obtain rfl := som_E h; try refine gos_ ?_
        exact q0 _ _ rfl fr_ sls_
    ·obtain rfl := som_E h; try refine gos_ ?_
     exact q0 _ _ rfl fr_ sls_
def r_nodeErr_p5 (n_5_0 : Int) (n_5_1 : Int) (n_5_2 : Str) (n_5_3 : List Str) (n_5_4 : List Int) (t_146 : Bool) : Option Bool :=
  cond t_146 (Option.bind (b_Between n_5_1 0 10000) fun p153 => some ((!p153))) (some (false))
def r_nodeErr_p5l : List Nat := [147, 148, 149, 150, 151]
theorem r_nodeErr_p5_W : ∀ (o_n_5 : Nat) (n_5_0 : Int) (n_5_1 : Int) (n_5_2 : Str) (n_5_3 : List Str) (n_5_4 : List Int) (t_146 : Bool) (σ0 σ : Nat -> PV) (H : AH) (f0 : Fr r_nodeErr_p5l σ0 σ) (sl : σ 5 = (.ref (o_n_5) 0) /\ σ 146 = (.bool t_146) /\ H.obj o_n_5 = some [(.int .i64 n_5_0), (.int .i64 n_5_1), (.str n_5_2), (.isl (n_5_3.map strL) .unk), (.isl (n_5_4.map intL) .unk)]) (l_o_n_5 : o_n_5 < H.next) (o : Bool) (h : r_nodeErr_p5 n_5_0 n_5_1 n_5_2 n_5_3 n_5_4 t_146 = some o) (Q : Post) (q0 : ∀ (p : Bool) (σ' : Nat -> PV), o = p -> Fr r_nodeErr_p5l σ0 σ' -> (σ' 151 = (.bool p)) -> Q .normal σ' H) , WOps Tryz.prog ac54_p5 (Q .normal) σ H := by
  intro o_n_5 n_5_0 n_5_1 n_5_2 n_5_3 n_5_4 t_146 σ0 σ H f0 sl l_o_n_5 o h Q q0; obtain ⟨s5, s146, g_o_n_5⟩ := sl; have n_o_n_5 := ne_next l_o_n_5; have m_o_n_5 := ne_add l_o_n_5; unfold r_nodeErr_p5 at h; refine WO_start ?_; unfold ac54_p5; rcases cond_E h with ⟨e151, h⟩ | ⟨e151, h⟩
  ·obtain ⟨p153, e152, h⟩ := bind_E h; try refine gos_ ?_
   refine mcall_pure (b_Between_c e152) ?_; obtain rfl := som_E h; try refine gos_ ?_
   exact q0 _ _ rfl fr_ sls_
  ·obtain rfl := som_E h; try refine gos_ ?_
   exact q0 _ _ rfl fr_ sls_
def r_nodeErr_b0 : Nat -> Int -> Int -> Str -> (List Str) -> (List Int) -> Int -> Option (Unit ⊕ Int)
  | 0, _, _, _, _, _, _ => none
  | k + 1, n_5_0, n_5_1, n_5_2, n_5_3, n_5_4, k_12 =>
    cond (decide (k_12 < (n_5_3.length : Int))) (if 0 <= k_12 then Option.bind (n_5_3[k_12.toNat]?) fun x165 => Option.bind (r_IsName k x165) fun p168 => cond p168 (r_nodeErr_b0 k n_5_0 n_5_1 n_5_2 n_5_3 n_5_4 (IntKind.wrap .i64 (k_12 + 1))) (some (.inr (7))) else none) (some (.inl ()))
def r_nodeErr_b0l : List Nat := [4, 12, 152, 153, 154, 155, 156, 157, 158, 159, 160, 161, 162, 163, 164, 165]
theorem r_nodeErr_b0_W : ∀ (k : Nat) (o_n_5 : Nat) (n_5_0 : Int) (n_5_1 : Int) (n_5_2 : Str) (n_5_3 : List Str) (n_5_4 : List Int) (k_12 : Int) (σ0 σ : Nat -> PV) (H : AH) (f0 : Fr r_nodeErr_b0l σ0 σ) (sl : σ 5 = (.ref (o_n_5) 0) /\ σ 12 = (.int .i64 k_12) /\ H.obj o_n_5 = some [(.int .i64 n_5_0), (.int .i64 n_5_1), (.str n_5_2), (.isl (n_5_3.map strL) .unk), (.isl (n_5_4.map intL) .unk)]) (l_o_n_5 : o_n_5 < H.next) (o : Unit ⊕ Int) (h : r_nodeErr_b0 k n_5_0 n_5_1 n_5_2 n_5_3 n_5_4 k_12 = some o) (Q : Post) (q0 : ∀ (p : Unit) (σ' : Nat -> PV), o = .inl p -> Fr r_nodeErr_b0l σ0 σ' -> Q (.exit 0) σ' H) (q1 : ∀ (p : Int) (σ' : Nat -> PV), o = .inr (p) -> Fr r_nodeErr_b0l σ0 σ' -> (σ' 4 = (.int .i64 p)) -> Q .ret σ' H) , W Tryz.prog (.loop ac54_b0) Q σ H := by
  intro k
  induction k with
  | zero => intro o_n_5 n_5_0 n_5_1 n_5_2 n_5_3 n_5_4 k_12 σ0 σ H f0 sl l_o_n_5 o h Q q0 q1; simp only [r_nodeErr_b0, reduceCtorEq] at h
  | succ k ih =>
    intro o_n_5 n_5_0 n_5_1 n_5_2 n_5_3 n_5_4 k_12 σ0 σ H f0 sl l_o_n_5 o h Q q0 q1; obtain ⟨s5, s12, g_o_n_5⟩ := sl; have n_o_n_5 := ne_next l_o_n_5; have m_o_n_5 := ne_add l_o_n_5; unfold r_nodeErr_b0 at h; refine W_loopK (fun K hK => W_start ?_); unfold ac54_b0; rcases cond_E h with ⟨e163, h⟩ | ⟨e163, h⟩
    ·obtain ⟨e164, h⟩ := if_E h; obtain ⟨x165, e166, h⟩ := bind_E h; obtain ⟨p168, e167, h⟩ := bind_E h; try refine gos_ ?_
     refine mcall_pure (r_IsName_c e167) ?_; rcases cond_E h with ⟨e169, h⟩ | ⟨e169, h⟩
     ·try refine gos_ ?_
      refine hK _ _ ?_; exact ih o_n_5 n_5_0 n_5_1 n_5_2 n_5_3 n_5_4 (IntKind.wrap .i64 (k_12 + 1)) _ _ _ fr_ sls_ om_ _ h _ q0 q1
     ·obtain rfl := som_E h; try refine gos_ ?_
      exact q1 _ _ rfl fr_ sls_
    ·obtain rfl := som_E h; try refine gos_ ?_
     exact q0 _ _ rfl fr_
def r_nodeErr_p6 (k : Nat) (n_5_0 : Int) (n_5_1 : Int) (n_5_2 : Str) (n_5_3 : List Str) (n_5_4 : List Int) (t_196 : Bool) : Option Bool :=
  cond t_196 (Option.bind (r_IsTerm k n_5_2) fun p193 => some ((!p193))) (some (false))
def r_nodeErr_p6l : List Nat := [197, 198, 199, 200, 201]
theorem r_nodeErr_p6_W (k : Nat) : ∀ (o_n_5 : Nat) (n_5_0 : Int) (n_5_1 : Int) (n_5_2 : Str) (n_5_3 : List Str) (n_5_4 : List Int) (t_196 : Bool) (σ0 σ : Nat -> PV) (H : AH) (f0 : Fr r_nodeErr_p6l σ0 σ) (sl : σ 5 = (.ref (o_n_5) 0) /\ σ 196 = (.bool t_196) /\ H.obj o_n_5 = some [(.int .i64 n_5_0), (.int .i64 n_5_1), (.str n_5_2), (.isl (n_5_3.map strL) .unk), (.isl (n_5_4.map intL) .unk)]) (l_o_n_5 : o_n_5 < H.next) (o : Bool) (h : r_nodeErr_p6 k n_5_0 n_5_1 n_5_2 n_5_3 n_5_4 t_196 = some o) (Q : Post) (q0 : ∀ (p : Bool) (σ' : Nat -> PV), o = p -> Fr r_nodeErr_p6l σ0 σ' -> (σ' 201 = (.bool p)) -> Q .normal σ' H) , WOps Tryz.prog ac54_p6 (Q .normal) σ H := by
  intro o_n_5 n_5_0 n_5_1 n_5_2 n_5_3 n_5_4 t_196 σ0 σ H f0 sl l_o_n_5 o h Q q0; obtain ⟨s5, s196, g_o_n_5⟩ := sl; have n_o_n_5 := ne_next l_o_n_5; have m_o_n_5 := ne_add l_o_n_5; unfold r_nodeErr_p6 at h; refine WO_start ?_; unfold ac54_p6; rcases cond_E h with ⟨e191, h⟩ | ⟨e191, h⟩
  ·obtain ⟨p193, e192, h⟩ := bind_E h; try refine gos_ ?_
   refine mcall_pure (r_IsTerm_c e192) ?_; obtain rfl := som_E h; try refine gos_ ?_
   exact q0 _ _ rfl fr_ sls_
  ·obtain rfl := som_E h; try refine gos_ ?_
   exact q0 _ _ rfl fr_ sls_
def r_nodeErr_j7 (k : Nat) (n_5_0 : Int) (n_5_1 : Int) (n_5_2 : Str) (n_5_3 : List Str) (n_5_4 : List Int) (op_13_0 : Str) (op_13_1 : Int) (op_13_2 : Int) (op_13_3 : Int) (op_13_4 : Bool) (op_13_5 : Int) (op_13_6 : Int) (is_14 : Bool) : Option (Unit ⊕ Int) :=
  cond (n_5_0 == 2) (Option.bind (r_IsTerm k n_5_2) fun p181 => cond p181 (some (.inl ())) (Option.bind (r_IsFixed n_5_2) fun p184 => cond p184 (some (.inl ())) (some (.inr (7))))) (cond (n_5_0 == 18) (Option.bind (r_IsName k n_5_2) fun p188 => cond p188 (some (.inl ())) (some (.inr (7)))) (cond (n_5_0 == 3) (Option.bind (r_nodeErr_p6 k n_5_0 n_5_1 n_5_2 n_5_3 n_5_4 (!is_14)) (fun p196 => cond p196 (some (.inr (7))) (cond is_14 (Option.bind (b_Between (n_5_4.length : Int) op_13_5 op_13_6) fun p207 => cond p207 (some (.inl ())) (some (.inr (17)))) (some (.inl ()))))) (some (.inl ()))))
def r_nodeErr_j7l : List Nat := [4, 172, 173, 174, 175, 176, 177, 178, 179, 180, 181, 182, 183, 184, 185, 186, 187, 188, 189, 190, 191, 192, 193, 194, 195, 196, 197, 198, 199, 200, 201, 202, 203, 204, 205, 206, 207, 208, 209, 210, 211, 212, 213]
theorem r_nodeErr_j7_W (k : Nat) : ∀ (o_n_5 : Nat) (o_op_13 : Nat) (n_5_0 : Int) (n_5_1 : Int) (n_5_2 : Str) (n_5_3 : List Str) (n_5_4 : List Int) (op_13_0 : Str) (op_13_1 : Int) (op_13_2 : Int) (op_13_3 : Int) (op_13_4 : Bool) (op_13_5 : Int) (op_13_6 : Int) (is_14 : Bool) (σ0 σ : Nat -> PV) (H : AH) (f0 : Fr r_nodeErr_j7l σ0 σ) (sl : σ 5 = (.ref (o_n_5) 0) /\ σ 13 = (.ref (o_op_13) 0) /\ σ 14 = (.bool is_14) /\ H.obj o_n_5 = some [(.int .i64 n_5_0), (.int .i64 n_5_1), (.str n_5_2), (.isl (n_5_3.map strL) .unk), (.isl (n_5_4.map intL) .unk)] /\ H.obj o_op_13 = some [(.str op_13_0), (.int .i64 op_13_1), (.int .i64 op_13_2), (.int .i64 op_13_3), (.bool op_13_4), (.int .i64 op_13_5), (.int .i64 op_13_6)]) (l_o_n_5 : o_n_5 < H.next) (l_o_op_13 : o_op_13 < H.next) (d_o_n_5_o_op_13 : o_n_5 ≠ o_op_13) (o : Unit ⊕ Int) (h : r_nodeErr_j7 k n_5_0 n_5_1 n_5_2 n_5_3 n_5_4 op_13_0 op_13_1 op_13_2 op_13_3 op_13_4 op_13_5 op_13_6 is_14 = some o) (Q : Post) (q0 : ∀ (p : Unit) (σ' : Nat -> PV), o = .inl p -> Fr r_nodeErr_j7l σ0 σ' -> Q .normal σ' H) (q1 : ∀ (p : Int) (σ' : Nat -> PV), o = .inr (p) -> Fr r_nodeErr_j7l σ0 σ' -> (σ' 4 = (.int .i64 p)) -> Q .ret σ' H) , W Tryz.prog ac54_j7 Q σ H := by
  intro o_n_5 o_op_13 n_5_0 n_5_1 n_5_2 n_5_3 n_5_4 op_13_0 op_13_1 op_13_2 op_13_3 op_13_4 op_13_5 op_13_6 is_14 σ0 σ H f0 sl l_o_n_5 l_o_op_13 d_o_n_5_o_op_13 o h Q q0 q1; obtain ⟨s5, s13, s14, g_o_n_5, g_o_op_13⟩ := sl; have n_o_n_5 := ne_next l_o_n_5; have m_o_n_5 := ne_add l_o_n_5; have n_o_op_13 := ne_next l_o_op_13; have m_o_op_13 := ne_add l_o_op_13; have e_o_n_5_o_op_13 := eq_false d_o_n_5_o_op_13; have r_o_n_5_o_op_13 := eq_false (Ne.symm d_o_n_5_o_op_13); unfold r_nodeErr_j7 at h; refine W_start ?_; unfold ac54_j7; rcases cond_E h with ⟨e179, h⟩ | ⟨e179, h⟩
  ·obtain ⟨p181, e180, h⟩ := bind_E h; try refine gos_ ?_
   refine mcall_pure (r_IsTerm_c e180) ?_; rcases cond_E h with ⟨e182, h⟩ | ⟨e182, h⟩
   ·obtain rfl := som_E h; try refine gos_ ?_
    exact q0 _ _ rfl fr_
   ·obtain ⟨p184, e183, h⟩ := bind_E h; try refine gos_ ?_
    refine mcall_pure (r_IsFixed_c e183) ?_; rcases cond_E h with ⟨e185, h⟩ | ⟨e185, h⟩
    ·obtain rfl := som_E h; try refine gos_ ?_
     exact q0 _ _ rfl fr_
    ·obtain rfl := som_E h; try refine gos_ ?_
     exact q1 _ _ rfl fr_ sls_
  ·rcases cond_E h with ⟨e186, h⟩ | ⟨e186, h⟩
   ·obtain ⟨p188, e187, h⟩ := bind_E h; try refine gos_ ?_
    refine mcall_pure (r_IsName_c e187) ?_; rcases cond_E h with ⟨e189, h⟩ | ⟨e189, h⟩
    ·obtain rfl := som_E h; try refine gos_ ?_
     exact q0 _ _ rfl fr_
    ·obtain rfl := som_E h; try refine gos_ ?_
     exact q1 _ _ rfl fr_ sls_
   ·rcases cond_E h with ⟨e190, h⟩ | ⟨e190, h⟩
    ·try refine gos_ ?_
     obtain ⟨o194, h195, h⟩ := bind_E h; refine r_nodeErr_p6_W k (o_n_5) n_5_0 n_5_1 n_5_2 n_5_3 n_5_4 (!is_14) _ _ _ (Fr.refl _ _) sls_ om_ _ h195 _ ?_
     ·rintro p196 σ' eo fr197 s200; rw [eo] at h; have s201 : σ' 5 = (.ref (o_n_5) 0) := (fr197 5 (by decide)).trans sls_; have s202 : σ' 13 = (.ref (o_op_13) 0) := (fr197 13 (by decide)).trans sls_; have s203 : σ' 14 = (.bool is_14) := (fr197 14 (by decide)).trans sls_; rcases cond_E h with ⟨e204, h⟩ | ⟨e204, h⟩
      ·obtain rfl := som_E h; try refine gos_ ?_
       exact q1 _ _ rfl (by repeat (first | exact f0 | refine Fr.upd (by decide) ?_ | refine Fr.via fr197 (by decide) ?_)) sls_
      ·rcases cond_E h with ⟨e205, h⟩ | ⟨e205, h⟩
       ·obtain ⟨p207, e206, h⟩ := bind_E h; try refine gos_ ?_
        refine mcall_pure (b_Between_c e206) ?_; rcases cond_E h with ⟨e208, h⟩ | ⟨e208, h⟩
        ·obtain rfl := som_E h; try refine gos_ ?_
         exact q0 _ _ rfl (by repeat (first | exact f0 | refine Fr.upd (by decide) ?_ | refine Fr.via fr197 (by decide) ?_))
        ·obtain rfl := som_E h; try refine gos_ ?_
         exact q1 _ _ rfl (by repeat (first | exact f0 | refine Fr.upd (by decide) ?_ | refine Fr.via fr197 (by decide) ?_)) sls_
       ·obtain rfl := som_E h; try refine gos_ ?_
        exact q0 _ _ rfl (by repeat (first | exact f0 | refine Fr.upd (by decide) ?_ | refine Fr.via fr197 (by decide) ?_))
    ·obtain rfl := som_E h; try refine gos_ ?_
     exact q0 _ _ rfl fr_
def r_nodeErr_b1 : Nat -> Int -> Int -> Str -> (List Str) -> (List Int) -> Int -> Option (Unit ⊕ Int)
  | 0, _, _, _, _, _, _ => none
  | k + 1, n_5_0, n_5_1, n_5_2, n_5_3, n_5_4, k_15 =>
    cond (decide (k_15 < (n_5_3.length : Int))) (if 0 <= k_15 /\ k_15.toNat <= n_5_3.length then if 0 <= k_15 then Option.bind (n_5_3[k_15.toNat]?) fun x219 => Option.bind (b_Contains k (n_5_3.take k_15.toNat) x219) fun p222 => cond p222 (some (.inr (12))) (r_nodeErr_b1 k n_5_0 n_5_1 n_5_2 n_5_3 n_5_4 (IntKind.wrap .i64 (k_15 + 1))) else none else none) (some (.inl ()))
def r_nodeErr_b1l : List Nat := [4, 15, 214, 215, 216, 217, 218, 219, 220, 221, 222, 223, 224, 225, 226, 227, 228, 229, 230]
theorem r_nodeErr_b1_W : ∀ (k : Nat) (o_n_5 : Nat) (n_5_0 : Int) (n_5_1 : Int) (n_5_2 : Str) (n_5_3 : List Str) (n_5_4 : List Int) (k_15 : Int) (σ0 σ : Nat -> PV) (H : AH) (f0 : Fr r_nodeErr_b1l σ0 σ) (sl : σ 5 = (.ref (o_n_5) 0) /\ σ 15 = (.int .i64 k_15) /\ H.obj o_n_5 = some [(.int .i64 n_5_0), (.int .i64 n_5_1), (.str n_5_2), (.isl (n_5_3.map strL) .unk), (.isl (n_5_4.map intL) .unk)]) (l_o_n_5 : o_n_5 < H.next) (o : Unit ⊕ Int) (h : r_nodeErr_b1 k n_5_0 n_5_1 n_5_2 n_5_3 n_5_4 k_15 = some o) (Q : Post) (q0 : ∀ (p : Unit) (σ' : Nat -> PV), o = .inl p -> Fr r_nodeErr_b1l σ0 σ' -> Q (.exit 3) σ' H) (q1 : ∀ (p : Int) (σ' : Nat -> PV), o = .inr (p) -> Fr r_nodeErr_b1l σ0 σ' -> (σ' 4 = (.int .i64 p)) -> Q .ret σ' H) , W Tryz.prog (.loop ac54_b1) Q σ H := by
  intro k
  induction k with
  | zero => intro o_n_5 n_5_0 n_5_1 n_5_2 n_5_3 n_5_4 k_15 σ0 σ H f0 sl l_o_n_5 o h Q q0 q1; simp only [r_nodeErr_b1, reduceCtorEq] at h
  | succ k ih =>
    intro o_n_5 n_5_0 n_5_1 n_5_2 n_5_3 n_5_4 k_15 σ0 σ H f0 sl l_o_n_5 o h Q q0 q1; obtain ⟨s5, s15, g_o_n_5⟩ := sl; have n_o_n_5 := ne_next l_o_n_5; have m_o_n_5 := ne_add l_o_n_5; unfold r_nodeErr_b1 at h; refine W_loopK (fun K hK => W_start ?_); unfold ac54_b1; rcases cond_E h with ⟨e216, h⟩ | ⟨e216, h⟩
    ·try refine gos_ ?_
     refine WS_parS ?_; obtain ⟨e217, h⟩ := if_E h; obtain ⟨e218, h⟩ := if_E h; obtain ⟨x219, e220, h⟩ := bind_E h; obtain ⟨p222, e221, h⟩ := bind_E h; try refine gos_ ?_
     refine mcall_pure (b_Contains_c e221) ?_; rcases cond_E h with ⟨e223, h⟩ | ⟨e223, h⟩
     ·obtain rfl := som_E h; try refine gos_ ?_
      exact q1 _ _ rfl fr_ sls_
     ·try refine gos_ ?_
      refine hK _ _ ?_; exact ih o_n_5 n_5_0 n_5_1 n_5_2 n_5_3 n_5_4 (IntKind.wrap .i64 (k_15 + 1)) _ _ _ fr_ sls_ om_ _ h _ q0 q1
    ·obtain rfl := som_E h; try refine gos_ ?_
     exact q0 _ _ rfl fr_
def r_nodeErr (k : Nat) (e_0 : List Nd) (i_1 : Int) : Option Int :=
  if 0 <= i_1 then Option.bind (e_0[i_1.toNat]?) fun x2 => Option.bind (b_Between x2.kind 0 28) fun p5 => cond p5 (Option.bind (r_shape x2.kind) fun p8 => Option.bind (r_nodeErr_j1 k x2.kind x2.n x2.text x2.names x2.args p8.1.1 p8.1.2.1 p8.1.2.2.1 p8.1.2.2.2) (fun p24 => Option.bind (b_One p8.2) fun p41 => Option.bind (b_Between (x2.names.length : Int) p24.1 p24.2.1) fun p43 => Option.bind (r_nodeErr_p2 p24.1 p24.2.1 p24.2.2.1 p24.2.2.2 (IntKind.wrap .i64 ((x2.args.length : Int) - (IntKind.wrap .i64 ((x2.names.length : Int) * p41)))) (!p43)) (fun p49 => cond p49 (some 6) (Option.bind (r_nodeErr_p3 x2.kind x2.n x2.text x2.names x2.args (x2.kind == 1)) (fun p63 => Option.bind (r_placed k e_0 i_1) fun p72 => Option.bind (r_nodeErr_p4 k x2.kind x2.n x2.text x2.names x2.args p63 (!p72)) (fun p144 => cond p144 (some 5) (Option.bind (r_nodeErr_p5 x2.kind x2.n x2.text x2.names x2.args (x2.kind == 0)) (fun p156 => cond p156 (some 3) (Option.bind (r_nodeErr_b0 k x2.kind x2.n x2.text x2.names x2.args 0) (fun o => Sum.elim (fun p172 => Option.bind (r_OperatorOf k x2.text) fun p178 => Option.bind (r_nodeErr_j7 k x2.kind x2.n x2.text x2.names x2.args p178.1.text p178.1.fix p178.1.low p178.1.high p178.1.left p178.1.least p178.1.most p178.2) (fun o => Sum.elim (fun p211 => Option.bind (r_nodeErr_b1 k x2.kind x2.n x2.text x2.names x2.args 1) (fun o => Sum.elim (fun p226 => some 0) (fun p230 => some p230) o)) (fun p235 => some p235) o)) (fun p240 => some p240) o)))))))))) (some 4) else none
theorem r_nodeErr_c {k : Nat} {e_0 : List Nd} {i_1 : Int} {c0 : Ck} {r : Int} (h : r_nodeErr k e_0 i_1 = some r) : PCall Tryz.prog 54 [(.isl (e_0.map Nd.cells) c0), (.int .i64 i_1)] (.int .i64 r) := by
  refine PCall.lw (.isl (.same .nil)) (PCall.of_empty (PuL.mem (.cons (pu_sl Nd.pu _) (.cons (.int _ _) .nil))) (MCall_of_W ok54 (by simp) (W_start ?_)) (.int _ _)); unfold r_nodeErr at h; unfold ac54; obtain ⟨e1, h⟩ := if_E h; obtain ⟨x2, e3, h⟩ := bind_E h; obtain ⟨p5, e4, h⟩ := bind_E h; try refine gos_ ?_
  refine mcall_pure (b_Between_c e4) ?_; rcases cond_E h with ⟨e6, h⟩ | ⟨e6, h⟩
  ·obtain ⟨p8, e7, h⟩ := bind_E h; try refine gos_ ?_
   refine mcall_pure (r_shape_c e7) ?_; try refine gos_ ?_
   obtain ⟨o22, h23, h⟩ := bind_E h; refine r_nodeErr_j1_W k (AH.empty.next) (AH.empty.next + 1) x2.kind x2.n x2.text x2.names x2.args p8.1.1 p8.1.2.1 p8.1.2.2.1 p8.1.2.2.2 _ _ _ _ (Fr.refl _ _) (HF.refl _ _) sls_ om_ om_ om_ _ h23 _ ?_
   ·rintro p24 σ' H27 eo fr25 hf26 g28; rw [eo] at h; have s29 : σ' 0 = (.isl (e_0.map Nd.cells) .unk) := (fr25 0 (by decide)).trans sls_; have s30 : σ' 1 = (.int .i64 i_1) := (fr25 1 (by decide)).trans sls_; have s31 : σ' 5 = (.ref (AH.empty.next) 0) := (fr25 5 (by decide)).trans sls_; have s32 : σ' 6 = (.ref (AH.empty.next + 1) 0) := (fr25 6 (by decide)).trans sls_; have s33 : σ' 7 = (.bool p8.2) := (fr25 7 (by decide)).trans sls_; have le := hf26.1; try simp only [AH.new_next, AH.put_next, AH.tok_next, AH.use_next] at le
    have g34 : H27.obj (AH.empty.next) = some [(.int .i64 x2.kind), (.int .i64 x2.n), (.str x2.text), (.isl (x2.names.map strL) .unk), (.isl (x2.args.map intL) .unk)] := (hf26.2 _ om_ (by first | exact List.not_mem_nil | (simp only [List.mem_cons, List.not_mem_nil, or_false, not_or]; omega))).trans sls_; have n35 := ne_next (show AH.empty.next < H27.next by first | omega | (simp only [AH.new_next, AH.put_next, AH.tok_next, AH.use_next]; omega)); have m36 := ne_add (show AH.empty.next < H27.next by first | omega | (simp only [AH.new_next, AH.put_next, AH.tok_next, AH.use_next]; omega)); have n38 := ne_next (show AH.empty.next + 1 < H27.next by first | omega | (simp only [AH.new_next, AH.put_next, AH.tok_next, AH.use_next]; omega)); have m39 := ne_add (show AH.empty.next + 1 < H27.next by first | omega | (simp only [AH.new_next, AH.put_next, AH.tok_next, AH.use_next]; omega)); try refine gos_ ?_
    refine WS_parS ?_; obtain ⟨p41, e40, h⟩ := bind_E h; try refine gos_ ?_
    refine PC.mk (b_One_c e40) ?_; obtain ⟨p43, e42, h⟩ := bind_E h; try refine gos_ ?_
    refine mcall_pure (b_Between_c e42) ?_; try refine gos_ ?_
    obtain ⟨o47, h48, h⟩ := bind_E h; refine r_nodeErr_p2_W (AH.empty.next + 1) p24.1 p24.2.1 p24.2.2.1 p24.2.2.2 (IntKind.wrap .i64 ((x2.args.length : Int) - (IntKind.wrap .i64 ((x2.names.length : Int) * p41)))) (!p43) _ _ _ (Fr.refl _ _) sls_ om_ _ h48 _ ?_
    ·rintro p49 σ' eo fr50 s53; rw [eo] at h; have s54 : σ' 0 = (.isl (e_0.map Nd.cells) .unk) := (fr50 0 (by decide)).trans sls_; have s55 : σ' 1 = (.int .i64 i_1) := (fr50 1 (by decide)).trans sls_; have s56 : σ' 5 = (.ref (AH.empty.next) 0) := (fr50 5 (by decide)).trans sls_; rcases cond_E h with ⟨e57, h⟩ | ⟨e57, h⟩
     ·obtain rfl := som_E h; try refine gos_ ?_
      exact (.pure _ (.int _ _))
     ·try refine gos_ ?_
      obtain ⟨o61, h62, h⟩ := bind_E h; refine r_nodeErr_p3_W (AH.empty.next) x2.kind x2.n x2.text x2.names x2.args (x2.kind == 1) _ _ _ (Fr.refl _ _) sls_ om_ _ h62 _ ?_
      ·rintro p63 σ' eo fr64 s67; rw [eo] at h; have s68 : σ' 0 = (.isl (e_0.map Nd.cells) .unk) := (fr64 0 (by decide)).trans sls_; have s69 : σ' 1 = (.int .i64 i_1) := (fr64 1 (by decide)).trans sls_; have s70 : σ' 5 = (.ref (AH.empty.next) 0) := (fr64 5 (by decide)).trans sls_; obtain ⟨p72, e71, h⟩ := bind_E h; try refine gos_ ?_
       refine mcall_pure (r_placed_c e71) ?_; try refine gos_ ?_
       obtain ⟨o142, h143, h⟩ := bind_E h; refine r_nodeErr_p4_W k (AH.empty.next) x2.kind x2.n x2.text x2.names x2.args p63 (!p72) _ _ _ (Fr.refl _ _) sls_ om_ _ h143 _ ?_
       ·rintro p144 σ' eo fr145 s148; rw [eo] at h; have s149 : σ' 5 = (.ref (AH.empty.next) 0) := (fr145 5 (by decide)).trans sls_; rcases cond_E h with ⟨e150, h⟩ | ⟨e150, h⟩
        ·obtain rfl := som_E h; try refine gos_ ?_
         exact (.pure _ (.int _ _))
        ·try refine gos_ ?_
         obtain ⟨o154, h155, h⟩ := bind_E h; refine r_nodeErr_p5_W (AH.empty.next) x2.kind x2.n x2.text x2.names x2.args (x2.kind == 0) _ _ _ (Fr.refl _ _) sls_ om_ _ h155 _ ?_
         ·rintro p156 σ' eo fr157 s160; rw [eo] at h; have s161 : σ' 5 = (.ref (AH.empty.next) 0) := (fr157 5 (by decide)).trans sls_; rcases cond_E h with ⟨e162, h⟩ | ⟨e162, h⟩
          ·obtain rfl := som_E h; try refine gos_ ?_
           exact (.pure _ (.int _ _))
          ·try refine gos_ ?_
           obtain ⟨o170, h171, h⟩ := bind_E h; refine r_nodeErr_b0_W k (AH.empty.next) x2.kind x2.n x2.text x2.names x2.args 0 _ _ _ (Fr.refl _ _) sls_ om_ _ h171 _ ?_ ?_
           ·rintro p172 σ' eo fr173; subst eo; rw [sum_L] at h; have s176 : σ' 5 = (.ref (AH.empty.next) 0) := (fr173 5 (by decide)).trans sls_; obtain ⟨p178, e177, h⟩ := bind_E h; try refine gos_ ?_
            refine mcall_pure (r_OperatorOf_c e177) ?_; try refine gos_ ?_
            obtain ⟨o209, h210, h⟩ := bind_E h; refine r_nodeErr_j7_W k (AH.empty.next) (H27.next) x2.kind x2.n x2.text x2.names x2.args p178.1.text p178.1.fix p178.1.low p178.1.high p178.1.left p178.1.least p178.1.most p178.2 _ _ _ (Fr.refl _ _) sls_ om_ om_ om_ _ h210 _ ?_ ?_
            ·rintro p211 σ' eo fr212; subst eo; rw [sum_L] at h; have s215 : σ' 5 = (.ref (AH.empty.next) 0) := (fr212 5 (by decide)).trans sls_; try refine gos_ ?_
             obtain ⟨o224, h225, h⟩ := bind_E h; refine r_nodeErr_b1_W k (AH.empty.next) x2.kind x2.n x2.text x2.names x2.args 1 _ _ _ (Fr.refl _ _) sls_ om_ _ h225 _ ?_ ?_
             ·rintro p226 σ' eo fr227; subst eo; rw [sum_L] at h; obtain rfl := som_E h; try refine gos_ ?_
              exact (.pure _ (.int _ _))
             ·rintro p230 σ' eo fr231 s234; subst eo; rw [sum_R] at h; obtain rfl := som_E h; try refine gos_ ?_
              exact (.pure _ (.int _ _))
            ·rintro p235 σ' eo fr236 s239; subst eo; rw [sum_R] at h; obtain rfl := som_E h; try refine gos_ ?_
             exact (.pure _ (.int _ _))
           ·rintro p240 σ' eo fr241 s244; subst eo; rw [sum_R] at h; obtain rfl := som_E h; try refine gos_ ?_
            exact (.pure _ (.int _ _))
  ·obtain rfl := som_E h; try refine gos_ ?_
   exact (.pure _ (.int _ _))
def r_Parent_b0 : Nat -> (List Nd) -> Int -> Int -> Int -> Option (Unit ⊕ (Int × Int))
  | 0, _, _, _, _ => none
  | k + 1, e_0, i_1, k_6, j_7 =>
    if 0 <= k_6 then Option.bind (e_0[k_6.toNat]?) fun x3 => cond (decide (j_7 < (x3.args.length : Int))) (if 0 <= j_7 then Option.bind (x3.args[j_7.toNat]?) fun x7 => cond (x7 == i_1) (some (.inr ((k_6, j_7)))) (r_Parent_b0 k e_0 i_1 k_6 (IntKind.wrap .i64 (j_7 + 1))) else none) (some (.inl ())) else none
def r_Parent_b0l : List Nat := [4, 5, 7, 16, 17, 18, 19, 20, 21, 22, 23, 24, 25, 26, 27, 28, 29, 30, 31, 32, 33, 34, 35, 36, 37]
theorem r_Parent_b0_W : ∀ (k : Nat) (e_0 : List Nd) (i_1 : Int) (k_6 : Int) (j_7 : Int) (σ0 σ : Nat -> PV) (H : AH) (f0 : Fr r_Parent_b0l σ0 σ) (sl : σ 0 = (.isl (e_0.map Nd.cells) .unk) /\ σ 1 = (.int .i64 i_1) /\ σ 6 = (.int .i64 k_6) /\ σ 7 = (.int .i64 j_7)) (o : Unit ⊕ (Int × Int)) (h : r_Parent_b0 k e_0 i_1 k_6 j_7 = some o) (Q : Post) (q0 : ∀ (p : Unit) (σ' : Nat -> PV), o = .inl p -> Fr r_Parent_b0l σ0 σ' -> Q (.exit 2) σ' H) (q1 : ∀ (p : Int × Int) (σ' : Nat -> PV), o = .inr (p) -> Fr r_Parent_b0l σ0 σ' -> (σ' 4 = (.int .i64 p.1) /\ σ' 5 = (.int .i64 p.2)) -> Q .ret σ' H) , W Tryz.prog (.loop ac55_b0) Q σ H := by
  intro k
  induction k with
  | zero => intro e_0 i_1 k_6 j_7 σ0 σ H f0 sl o h Q q0 q1; simp only [r_Parent_b0, reduceCtorEq] at h
  | succ k ih =>
    intro e_0 i_1 k_6 j_7 σ0 σ H f0 sl o h Q q0 q1; obtain ⟨s0, s1, s6, s7⟩ := sl; unfold r_Parent_b0 at h; refine W_loopK (fun K hK => W_start ?_); unfold ac55_b0; obtain ⟨e2, h⟩ := if_E h; obtain ⟨x3, e4, h⟩ := bind_E h; rcases cond_E h with ⟨e5, h⟩ | ⟨e5, h⟩
    ·obtain ⟨e6, h⟩ := if_E h; obtain ⟨x7, e8, h⟩ := bind_E h; rcases cond_E h with ⟨e9, h⟩ | ⟨e9, h⟩
     ·obtain rfl := som_E h; try refine gos_ ?_
      exact q1 _ _ rfl fr_ sls_
     ·try refine gos_ ?_
      refine hK _ _ ?_; exact ih e_0 i_1 k_6 (IntKind.wrap .i64 (j_7 + 1)) _ _ _ fr_ sls_ _ h _ q0 q1
    ·obtain rfl := som_E h; try refine gos_ ?_
     exact q0 _ _ rfl fr_
def r_Parent_b1 : Nat -> (List Nd) -> Int -> Int -> Option (Unit ⊕ (Int × Int))
  | 0, _, _, _ => none
  | k + 1, e_0, i_1, k_6 =>
    cond (decide (k_6 < (e_0.length : Int))) (Option.bind (r_Parent_b0 k e_0 i_1 k_6 0) (fun o => Sum.elim (fun p12 => r_Parent_b1 k e_0 i_1 (IntKind.wrap .i64 (k_6 + 1))) (fun p19 => some (.inr ((p19.1, p19.2)))) o)) (some (.inl ()))
def r_Parent_b1l : List Nat := [4, 5, 6, 7, 10, 11, 12, 13, 14, 15, 16, 17, 18, 19, 20, 21, 22, 23, 24, 25, 26, 27, 28, 29, 30, 31, 32, 33, 34, 35, 36, 37]
theorem r_Parent_b1_W : ∀ (k : Nat) (e_0 : List Nd) (i_1 : Int) (k_6 : Int) (σ0 σ : Nat -> PV) (H : AH) (f0 : Fr r_Parent_b1l σ0 σ) (sl : σ 0 = (.isl (e_0.map Nd.cells) .unk) /\ σ 1 = (.int .i64 i_1) /\ σ 6 = (.int .i64 k_6)) (o : Unit ⊕ (Int × Int)) (h : r_Parent_b1 k e_0 i_1 k_6 = some o) (Q : Post) (q0 : ∀ (p : Unit) (σ' : Nat -> PV), o = .inl p -> Fr r_Parent_b1l σ0 σ' -> Q (.exit 0) σ' H) (q1 : ∀ (p : Int × Int) (σ' : Nat -> PV), o = .inr (p) -> Fr r_Parent_b1l σ0 σ' -> (σ' 4 = (.int .i64 p.1) /\ σ' 5 = (.int .i64 p.2)) -> Q .ret σ' H) , W Tryz.prog (.loop ac55_b1) Q σ H := by
  intro k
  induction k with
  | zero => intro e_0 i_1 k_6 σ0 σ H f0 sl o h Q q0 q1; simp only [r_Parent_b1, reduceCtorEq] at h
  | succ k ih =>
    intro e_0 i_1 k_6 σ0 σ H f0 sl o h Q q0 q1; obtain ⟨s0, s1, s6⟩ := sl; unfold r_Parent_b1 at h; refine W_loopK (fun K hK => W_start ?_); unfold ac55_b1; rcases cond_E h with ⟨e1, h⟩ | ⟨e1, h⟩
    ·try refine gos_ ?_
     obtain ⟨o10, h11, h⟩ := bind_E h; refine r_Parent_b0_W k e_0 i_1 k_6 0 _ _ _ (Fr.refl _ _) sls_ _ h11 _ ?_ ?_
     ·rintro p12 σ' eo fr13; subst eo; rw [sum_L] at h; have s16 : σ' 0 = (.isl (e_0.map Nd.cells) .unk) := (fr13 0 (by decide)).trans sls_; have s17 : σ' 1 = (.int .i64 i_1) := (fr13 1 (by decide)).trans sls_; have s18 : σ' 6 = (.int .i64 k_6) := (fr13 6 (by decide)).trans sls_; try refine gos_ ?_
      refine hK _ _ ?_; exact ih e_0 i_1 (IntKind.wrap .i64 (k_6 + 1)) _ _ _ (by repeat (first | exact f0 | refine Fr.upd (by decide) ?_ | refine Fr.via fr13 (by decide) ?_)) sls_ _ h _ q0 q1
     ·rintro p19 σ' eo fr20 ⟨s23, s24⟩; subst eo; rw [sum_R] at h; obtain rfl := som_E h; try refine gos_ ?_
      exact q1 _ _ rfl (by repeat (first | exact f0 | refine Fr.upd (by decide) ?_ | refine Fr.via fr20 (by decide) ?_)) sls_
    ·obtain rfl := som_E h; try refine gos_ ?_
     exact q0 _ _ rfl fr_
def r_Parent (k : Nat) (e_0 : List Nd) (i_1 : Int) : Option (Int × Int) :=
  Option.bind (r_Parent_b1 k e_0 i_1 (IntKind.wrap .i64 (i_1 + 1))) (fun o => Sum.elim (fun p27 => some ((-1), 0)) (fun p31 => some (p31.1, p31.2)) o)
theorem r_Parent_c {k : Nat} {e_0 : List Nd} {i_1 : Int} {c0 : Ck} {r : Int × Int} (h : r_Parent k e_0 i_1 = some r) : PCall Tryz.prog 55 [(.isl (e_0.map Nd.cells) c0), (.int .i64 i_1)] (.tup [(.int .i64 r.1), (.int .i64 r.2)]) := by
  refine PCall.lw (.isl (.same .nil)) (PCall.of_empty (PuL.mem (.cons (pu_sl Nd.pu _) (.cons (.int _ _) .nil))) (MCall_of_W ok55 (by simp) (W_start ?_)) (.tup _ (PuL.mem (.cons (.int _ _) (.cons (.int _ _) .nil))))); unfold r_Parent at h; unfold ac55; try refine gos_ ?_
  obtain ⟨o25, h26, h⟩ := bind_E h; refine r_Parent_b1_W k e_0 i_1 (IntKind.wrap .i64 (i_1 + 1)) _ _ _ (Fr.refl _ _) sls_ _ h26 _ ?_ ?_
  ·rintro p27 σ' eo fr28; subst eo; rw [sum_L] at h; obtain rfl := som_E h; try refine gos_ ?_
   exact (fz_tup (.cons (.pure _ (.int _ _)) (.cons (.pure _ (.int _ _)) .nil)))
  ·rintro p31 σ' eo fr32 ⟨s35, s36⟩; subst eo; rw [sum_R] at h; obtain rfl := som_E h; try refine gos_ ?_
   exact (fz_tup (.cons (.pure _ (.int _ _)) (.cons (.pure _ (.int _ _)) .nil)))
def r_Check_b0 : Nat -> (List Nd) -> Int -> Option (Unit ⊕ (Int × Int))
  | 0, _, _ => none
  | k + 1, e_0, i_4 =>
    cond (decide (i_4 < (e_0.length : Int))) (Option.bind (r_nodeErr k e_0 i_4) fun p5 => cond (p5 != 0) (some (.inr ((i_4, p5)))) (r_Check_b0 k e_0 (IntKind.wrap .i64 (i_4 + 1)))) (some (.inl ()))
def r_Check_b0l : List Nat := [2, 3, 4, 5, 17, 18, 19, 20, 21, 22, 23, 24, 25, 26, 27, 28, 29]
theorem r_Check_b0_W : ∀ (k : Nat) (e_0 : List Nd) (i_4 : Int) (σ0 σ : Nat -> PV) (H : AH) (f0 : Fr r_Check_b0l σ0 σ) (sl : σ 0 = (.isl (e_0.map Nd.cells) .unk) /\ σ 4 = (.int .i64 i_4)) (o : Unit ⊕ (Int × Int)) (h : r_Check_b0 k e_0 i_4 = some o) (Q : Post) (q0 : ∀ (p : Unit) (σ' : Nat -> PV), o = .inl p -> Fr r_Check_b0l σ0 σ' -> Q (.exit 0) σ' H) (q1 : ∀ (p : Int × Int) (σ' : Nat -> PV), o = .inr (p) -> Fr r_Check_b0l σ0 σ' -> (σ' 2 = (.int .i64 p.1) /\ σ' 3 = (.int .i64 p.2)) -> Q .ret σ' H) , W Tryz.prog (.loop ac16_b0) Q σ H := by
  intro k
  induction k with
  | zero => intro e_0 i_4 σ0 σ H f0 sl o h Q q0 q1; simp only [r_Check_b0, reduceCtorEq] at h
  | succ k ih =>
    intro e_0 i_4 σ0 σ H f0 sl o h Q q0 q1; obtain ⟨s0, s4⟩ := sl; unfold r_Check_b0 at h; refine W_loopK (fun K hK => W_start ?_); unfold ac16_b0; rcases cond_E h with ⟨e3, h⟩ | ⟨e3, h⟩
    ·obtain ⟨p5, e4, h⟩ := bind_E h; try refine gos_ ?_
     refine mcall_pure (r_nodeErr_c e4) ?_; rcases cond_E h with ⟨e6, h⟩ | ⟨e6, h⟩
     ·obtain rfl := som_E h; try refine gos_ ?_
      exact q1 _ _ rfl fr_ sls_
     ·try refine gos_ ?_
      refine hK _ _ ?_; exact ih e_0 (IntKind.wrap .i64 (i_4 + 1)) _ _ _ fr_ sls_ _ h _ q0 q1
    ·obtain rfl := som_E h; try refine gos_ ?_
     exact q0 _ _ rfl fr_
def r_Check_p0 (k : Nat) (e_0 : List Nd) (at_7 : Int) (t_44 : Bool) : Option Bool :=
  cond t_44 (if 0 <= at_7 then Option.bind (e_0[at_7.toNat]?) fun x19 => cond (x19.kind == 3) (Option.bind (r_IsTerm k x19.text) fun p23 => some (p23)) (some (false)) else none) (some (false))
def r_Check_p0l : List Nat := [45, 46, 47, 48, 49, 50, 51, 52, 53, 54, 55, 56, 57, 58, 59]
theorem r_Check_p0_W (k : Nat) : ∀ (e_0 : List Nd) (at_7 : Int) (t_44 : Bool) (σ0 σ : Nat -> PV) (H : AH) (f0 : Fr r_Check_p0l σ0 σ) (sl : σ 0 = (.isl (e_0.map Nd.cells) .unk) /\ σ 7 = (.int .i64 at_7) /\ σ 44 = (.bool t_44)) (o : Bool) (h : r_Check_p0 k e_0 at_7 t_44 = some o) (Q : Post) (q0 : ∀ (p : Bool) (σ' : Nat -> PV), o = p -> Fr r_Check_p0l σ0 σ' -> (σ' 59 = (.bool p)) -> Q .normal σ' H) , WOps Tryz.prog ac16_p0 (Q .normal) σ H := by
  intro e_0 at_7 t_44 σ0 σ H f0 sl o h Q q0; obtain ⟨s0, s7, s44⟩ := sl; unfold r_Check_p0 at h; refine WO_start ?_; unfold ac16_p0; rcases cond_E h with ⟨e17, h⟩ | ⟨e17, h⟩
  ·obtain ⟨e18, h⟩ := if_E h; obtain ⟨x19, e20, h⟩ := bind_E h; rcases cond_E h with ⟨e21, h⟩ | ⟨e21, h⟩
   ·obtain ⟨p23, e22, h⟩ := bind_E h; try refine gos_ ?_
    refine mcall_pure (r_IsTerm_c e22) ?_; obtain rfl := som_E h; try refine gos_ ?_
    exact q0 _ _ rfl fr_ sls_
   ·obtain rfl := som_E h; try refine gos_ ?_
    exact q0 _ _ rfl fr_ sls_
  ·obtain rfl := som_E h; try refine gos_ ?_
   exact q0 _ _ rfl fr_ sls_
def r_Check_p1 (lambda_9 : Bool) (t_66 : Bool) : Option Bool :=
  cond t_66 (some ((!lambda_9))) (some (false))
theorem r_Check_p1_W : ∀ (lambda_9 : Bool) (t_66 : Bool) (σ0 σ : Nat -> PV) (H : AH) (f0 : Fr [67, 68, 69] σ0 σ) (sl : σ 9 = (.bool lambda_9) /\ σ 66 = (.bool t_66)) (o : Bool) (h : r_Check_p1 lambda_9 t_66 = some o) (Q : Post) (q0 : ∀ (p : Bool) (σ' : Nat -> PV), o = p -> Fr [67, 68, 69] σ0 σ' -> (σ' 69 = (.bool p)) -> Q .normal σ' H) , WOps Tryz.prog ac16_p1 (Q .normal) σ H := by
  intro lambda_9 t_66 σ0 σ H f0 sl o h Q q0; obtain ⟨s9, s66⟩ := sl; unfold r_Check_p1 at h; refine WO_start ?_; unfold ac16_p1; rcases cond_E h with ⟨e38, h⟩ | ⟨e38, h⟩
  ·obtain rfl := som_E h; try refine gos_ ?_
   exact q0 _ _ rfl fr_ sls_
  ·obtain rfl := som_E h; try refine gos_ ?_
   exact q0 _ _ rfl fr_ sls_
def r_Check_p2 (e_0 : List Nd) (at_7 : Int) (place_8 : Int) (t_74 : Bool) : Option Bool :=
  cond t_74 (some (true)) (if 0 <= at_7 then Option.bind (e_0[at_7.toNat]?) fun x54 => cond (x54.kind == 19) (some ((place_8 == 2))) (some (false)) else none)
def r_Check_p2l : List Nat := [75, 76, 77, 78, 79, 80, 81, 82, 83, 84, 85]
theorem r_Check_p2_W : ∀ (e_0 : List Nd) (at_7 : Int) (place_8 : Int) (t_74 : Bool) (σ0 σ : Nat -> PV) (H : AH) (f0 : Fr r_Check_p2l σ0 σ) (sl : σ 0 = (.isl (e_0.map Nd.cells) .unk) /\ σ 7 = (.int .i64 at_7) /\ σ 8 = (.int .i64 place_8) /\ σ 74 = (.bool t_74)) (o : Bool) (h : r_Check_p2 e_0 at_7 place_8 t_74 = some o) (Q : Post) (q0 : ∀ (p : Bool) (σ' : Nat -> PV), o = p -> Fr r_Check_p2l σ0 σ' -> (σ' 85 = (.bool p)) -> Q .normal σ' H) , WOps Tryz.prog ac16_p2 (Q .normal) σ H := by
  intro e_0 at_7 place_8 t_74 σ0 σ H f0 sl o h Q q0; obtain ⟨s0, s7, s8, s74⟩ := sl; unfold r_Check_p2 at h; refine WO_start ?_; unfold ac16_p2; rcases cond_E h with ⟨e52, h⟩ | ⟨e52, h⟩
  ·obtain rfl := som_E h; try refine gos_ ?_
   exact q0 _ _ rfl fr_ sls_
  ·obtain ⟨e53, h⟩ := if_E h; obtain ⟨x54, e55, h⟩ := bind_E h; rcases cond_E h with ⟨e56, h⟩ | ⟨e56, h⟩
   ·obtain rfl := som_E h; try refine gos_ ?_
    exact q0 _ _ rfl fr_ sls_
   ·obtain rfl := som_E h; try refine gos_ ?_
    exact q0 _ _ rfl fr_ sls_
def r_Check_b1 : Nat -> (List Nd) -> Int -> Int -> Bool -> Option Bool
  | 0, _, _, _, _ => none
  | k + 1, e_0, at_7, place_8, old_10 =>
    cond (decide (at_7 >= 0)) (Option.bind (r_Check_p2 e_0 at_7 place_8 old_10) (fun p59 => Option.bind (r_Parent k e_0 at_7) fun p67 => r_Check_b1 k e_0 p67.1 p67.2 p59)) (some (old_10))
def r_Check_b1l : List Nat := [7, 8, 10, 71, 72, 73, 74, 75, 76, 77, 78, 79, 80, 81, 82, 83, 84, 85, 86, 87, 88, 89, 90, 91]
theorem r_Check_b1_W : ∀ (k : Nat) (e_0 : List Nd) (at_7 : Int) (place_8 : Int) (old_10 : Bool) (σ0 σ : Nat -> PV) (H : AH) (f0 : Fr r_Check_b1l σ0 σ) (sl : σ 0 = (.isl (e_0.map Nd.cells) .unk) /\ σ 7 = (.int .i64 at_7) /\ σ 8 = (.int .i64 place_8) /\ σ 10 = (.bool old_10)) (o : Bool) (h : r_Check_b1 k e_0 at_7 place_8 old_10 = some o) (Q : Post) (q0 : ∀ (p : Bool) (σ' : Nat -> PV), o = p -> Fr r_Check_b1l σ0 σ' -> (σ' 10 = (.bool p)) -> Q (.exit 4) σ' H) , W Tryz.prog (.loop ac16_b1) Q σ H := by
  intro k
  induction k with
  | zero => intro e_0 at_7 place_8 old_10 σ0 σ H f0 sl o h Q q0; simp only [r_Check_b1, reduceCtorEq] at h
  | succ k ih =>
    intro e_0 at_7 place_8 old_10 σ0 σ H f0 sl o h Q q0; obtain ⟨s0, s7, s8, s10⟩ := sl; unfold r_Check_b1 at h; refine W_loopK (fun K hK => W_start ?_); unfold ac16_b1; rcases cond_E h with ⟨e51, h⟩ | ⟨e51, h⟩
    ·try refine gos_ ?_
     obtain ⟨o57, h58, h⟩ := bind_E h; refine r_Check_p2_W e_0 at_7 place_8 old_10 _ _ _ (Fr.refl _ _) sls_ _ h58 _ ?_
     ·rintro p59 σ' eo fr60 s63; rw [eo] at h; have s64 : σ' 0 = (.isl (e_0.map Nd.cells) .unk) := (fr60 0 (by decide)).trans sls_; have s65 : σ' 7 = (.int .i64 at_7) := (fr60 7 (by decide)).trans sls_; obtain ⟨p67, e66, h⟩ := bind_E h; try refine gos_ ?_
      refine mcall_pure (r_Parent_c e66) ?_; try refine gos_ ?_
      refine hK _ _ ?_; exact ih e_0 p67.1 p67.2 p59 _ _ _ (by repeat (first | exact f0 | refine Fr.upd (by decide) ?_ | refine Fr.via fr60 (by decide) ?_)) sls_ _ h _ q0
    ·obtain rfl := som_E h; try refine gos_ ?_
     exact q0 _ _ rfl fr_ sls_
def r_Check_b2 : Nat -> (List Nd) -> Int -> Option (Unit ⊕ (Int × Int))
  | 0, _, _ => none
  | k + 1, e_0, i_6 =>
    cond (decide (i_6 < (e_0.length : Int))) (Option.bind (r_Parent k e_0 i_6) fun p16 => Option.bind (r_Check_p0 k e_0 p16.1 (decide (p16.1 >= 0))) (fun p26 => if 0 <= i_6 then Option.bind (e_0[i_6.toNat]?) fun x36 => Option.bind (r_Check_p1 p26 (x36.kind == 24)) (fun p41 => cond p41 (some (.inr ((i_6, 30)))) (Option.bind (r_Check_b1 k e_0 p16.1 p16.2 false) (fun p70 => cond (x36.kind == 20) (cond p70 (r_Check_b2 k e_0 (IntKind.wrap .i64 (i_6 + 1))) (some (.inr ((i_6, 30))))) (r_Check_b2 k e_0 (IntKind.wrap .i64 (i_6 + 1)))))) else none)) (some (.inl ()))
def r_Check_b2l : List Nat := [2, 3, 6, 7, 8, 9, 10, 30, 31, 32, 33, 34, 35, 36, 37, 38, 39, 40, 41, 42, 43, 44, 45, 46, 47, 48, 49, 50, 51, 52, 53, 54, 55, 56, 57, 58, 59, 60, 61, 62, 63, 64, 65, 66, 67, 68, 69, 70, 71, 72, 73, 74, 75, 76, 77, 78, 79, 80, 81, 82, 83, 84, 85, 86, 87, 88, 89, 90, 91, 92, 93, 94, 95, 96, 97, 98, 99, 100, 101, 102]
theorem r_Check_b2_W : ∀ (k : Nat) (e_0 : List Nd) (i_6 : Int) (σ0 σ : Nat -> PV) (H : AH) (f0 : Fr r_Check_b2l σ0 σ) (sl : σ 0 = (.isl (e_0.map Nd.cells) .unk) /\ σ 6 = (.int .i64 i_6)) (o : Unit ⊕ (Int × Int)) (h : r_Check_b2 k e_0 i_6 = some o) (Q : Post) (q0 : ∀ (p : Unit) (σ' : Nat -> PV), o = .inl p -> Fr r_Check_b2l σ0 σ' -> Q (.exit 2) σ' H) (q1 : ∀ (p : Int × Int) (σ' : Nat -> PV), o = .inr (p) -> Fr r_Check_b2l σ0 σ' -> (σ' 2 = (.int .i64 p.1) /\ σ' 3 = (.int .i64 p.2)) -> Q .ret σ' H) , W Tryz.prog (.loop ac16_b2) Q σ H := by
  intro k
  induction k with
  | zero => intro e_0 i_6 σ0 σ H f0 sl o h Q q0 q1; simp only [r_Check_b2, reduceCtorEq] at h
  | succ k ih =>
    intro e_0 i_6 σ0 σ H f0 sl o h Q q0 q1; obtain ⟨s0, s6⟩ := sl; unfold r_Check_b2 at h; refine W_loopK (fun K hK => W_start ?_); unfold ac16_b2; rcases cond_E h with ⟨e14, h⟩ | ⟨e14, h⟩
    ·obtain ⟨p16, e15, h⟩ := bind_E h; try refine gos_ ?_
     refine mcall_pure (r_Parent_c e15) ?_; try refine gos_ ?_
     obtain ⟨o24, h25, h⟩ := bind_E h; refine r_Check_p0_W k e_0 p16.1 (decide (p16.1 >= 0)) _ _ _ (Fr.refl _ _) sls_ _ h25 _ ?_
     ·rintro p26 σ' eo fr27 s30; rw [eo] at h; have s31 : σ' 0 = (.isl (e_0.map Nd.cells) .unk) := (fr27 0 (by decide)).trans sls_; have s32 : σ' 6 = (.int .i64 i_6) := (fr27 6 (by decide)).trans sls_; have s33 : σ' 7 = (.int .i64 p16.1) := (fr27 7 (by decide)).trans sls_; have s34 : σ' 8 = (.int .i64 p16.2) := (fr27 8 (by decide)).trans sls_; obtain ⟨e35, h⟩ := if_E h; obtain ⟨x36, e37, h⟩ := bind_E h; try refine gos_ ?_
      obtain ⟨o39, h40, h⟩ := bind_E h; refine r_Check_p1_W p26 (x36.kind == 24) _ _ _ (Fr.refl _ _) sls_ _ h40 _ ?_
      ·rintro p41 σ' eo fr42 s45; rw [eo] at h; have s46 : σ' 0 = (.isl (e_0.map Nd.cells) .unk) := (fr42 0 (by decide)).trans sls_; have s47 : σ' 6 = (.int .i64 i_6) := (fr42 6 (by decide)).trans sls_; have s48 : σ' 7 = (.int .i64 p16.1) := (fr42 7 (by decide)).trans sls_; have s49 : σ' 8 = (.int .i64 p16.2) := (fr42 8 (by decide)).trans sls_; rcases cond_E h with ⟨e50, h⟩ | ⟨e50, h⟩
       ·obtain rfl := som_E h; try refine gos_ ?_
        exact q1 _ _ rfl (by repeat (first | exact f0 | refine Fr.upd (by decide) ?_ | refine Fr.via fr27 (by decide) ?_ | refine Fr.via fr42 (by decide) ?_)) sls_
       ·try refine gos_ ?_
        obtain ⟨o68, h69, h⟩ := bind_E h; refine r_Check_b1_W k e_0 p16.1 p16.2 false _ _ _ (Fr.refl _ _) sls_ _ h69 _ ?_
        ·rintro p70 σ' eo fr71 s74; rw [eo] at h; have s75 : σ' 0 = (.isl (e_0.map Nd.cells) .unk) := (fr71 0 (by decide)).trans sls_; have s76 : σ' 6 = (.int .i64 i_6) := (fr71 6 (by decide)).trans sls_; rcases cond_E h with ⟨e77, h⟩ | ⟨e77, h⟩
         ·rcases cond_E h with ⟨e78, h⟩ | ⟨e78, h⟩
          ·try refine gos_ ?_
           refine hK _ _ ?_; exact ih e_0 (IntKind.wrap .i64 (i_6 + 1)) _ _ _ (by repeat (first | exact f0 | refine Fr.upd (by decide) ?_ | refine Fr.via fr27 (by decide) ?_ | refine Fr.via fr42 (by decide) ?_ | refine Fr.via fr71 (by decide) ?_)) sls_ _ h _ q0 q1
          ·obtain rfl := som_E h; try refine gos_ ?_
           exact q1 _ _ rfl (by repeat (first | exact f0 | refine Fr.upd (by decide) ?_ | refine Fr.via fr27 (by decide) ?_ | refine Fr.via fr42 (by decide) ?_ | refine Fr.via fr71 (by decide) ?_)) sls_
         ·try refine gos_ ?_
          refine hK _ _ ?_; exact ih e_0 (IntKind.wrap .i64 (i_6 + 1)) _ _ _ (by repeat (first | exact f0 | refine Fr.upd (by decide) ?_ | refine Fr.via fr27 (by decide) ?_ | refine Fr.via fr42 (by decide) ?_ | refine Fr.via fr71 (by decide) ?_)) sls_ _ h _ q0 q1
    ·obtain rfl := som_E h; try refine gos_ ?_
     exact q0 _ _ rfl fr_
def r_Check (k : Nat) (e_0 : List Nd) : Option (Int × Int) :=
  cond ((e_0.length : Int) == 0) (some (0, 1)) (cond (decide ((e_0.length : Int) > 160)) (some (0, 2)) (Option.bind (r_Check_b0 k e_0 0) (fun o => Sum.elim (fun p9 => Option.bind (r_Check_b2 k e_0 0) (fun o => Sum.elim (fun p81 => Option.bind (b_First k e_0 (IntKind.wrap .i64 ((e_0.length : Int) - 1))) fun p87 => cond (p87 != 0) (some ((IntKind.wrap .i64 ((e_0.length : Int) - 1)), 15)) (some (0, 0))) (fun p89 => some (p89.1, p89.2)) o)) (fun p95 => some (p95.1, p95.2)) o)))
theorem r_Check_c {k : Nat} {e_0 : List Nd} {c0 : Ck} {r : Int × Int} (h : r_Check k e_0 = some r) : PCall Tryz.prog 16 [(.isl (e_0.map Nd.cells) c0)] (.tup [(.int .i64 r.1), (.int .i64 r.2)]) := by
  refine PCall.lw (.isl .nil) (PCall.of_empty (PuL.mem (.cons (pu_sl Nd.pu _) .nil)) (MCall_of_W ok16 (by simp) (W_start ?_)) (.tup _ (PuL.mem (.cons (.int _ _) (.cons (.int _ _) .nil))))); unfold r_Check at h; unfold ac16; rcases cond_E h with ⟨e1, h⟩ | ⟨e1, h⟩
  ·obtain rfl := som_E h; try refine gos_ ?_
   exact (fz_tup (.cons (.pure _ (.int _ _)) (.cons (.pure _ (.int _ _)) .nil)))
  ·rcases cond_E h with ⟨e2, h⟩ | ⟨e2, h⟩
   ·obtain rfl := som_E h; try refine gos_ ?_
    exact (fz_tup (.cons (.pure _ (.int _ _)) (.cons (.pure _ (.int _ _)) .nil)))
   ·try refine gos_ ?_
    obtain ⟨o7, h8, h⟩ := bind_E h; refine r_Check_b0_W k e_0 0 _ _ _ (Fr.refl _ _) sls_ _ h8 _ ?_ ?_
    ·rintro p9 σ' eo fr10; subst eo; rw [sum_L] at h; have s13 : σ' 0 = (.isl (e_0.map Nd.cells) .unk) := (fr10 0 (by decide)).trans sls_; try refine gos_ ?_
     obtain ⟨o79, h80, h⟩ := bind_E h; refine r_Check_b2_W k e_0 0 _ _ _ (Fr.refl _ _) sls_ _ h80 _ ?_ ?_
     ·rintro p81 σ' eo fr82; subst eo; rw [sum_L] at h; have s85 : σ' 0 = (.isl (e_0.map Nd.cells) .unk) := (fr82 0 (by decide)).trans sls_; obtain ⟨p87, e86, h⟩ := bind_E h; try refine gos_ ?_
      refine mcall_pure (b_First_c e86) ?_; rcases cond_E h with ⟨e88, h⟩ | ⟨e88, h⟩
      ·obtain rfl := som_E h; try refine gos_ ?_
       exact (fz_tup (.cons (.pure _ (.int _ _)) (.cons (.pure _ (.int _ _)) .nil)))
      ·obtain rfl := som_E h; try refine gos_ ?_
       exact (fz_tup (.cons (.pure _ (.int _ _)) (.cons (.pure _ (.int _ _)) .nil)))
     ·rintro p89 σ' eo fr90 ⟨s93, s94⟩; subst eo; rw [sum_R] at h; obtain rfl := som_E h; try refine gos_ ?_
      exact (fz_tup (.cons (.pure _ (.int _ _)) (.cons (.pure _ (.int _ _)) .nil)))
    ·rintro p95 σ' eo fr96 ⟨s99, s100⟩; subst eo; rw [sum_R] at h; obtain rfl := som_E h; try refine gos_ ?_
     exact (fz_tup (.cons (.pure _ (.int _ _)) (.cons (.pure _ (.int _ _)) .nil)))
def r_Err (k : Nat) (e_0 : List Nd) : Option Int :=
  Option.bind (r_Check k e_0) fun p2 => some p2.2
theorem r_Err_c {k : Nat} {e_0 : List Nd} {c0 : Ck} {r : Int} (h : r_Err k e_0 = some r) : PCall Tryz.prog 18 [(.isl (e_0.map Nd.cells) c0)] (.int .i64 r) := by
  refine PCall.lw (.isl .nil) (PCall.of_empty (PuL.mem (.cons (pu_sl Nd.pu _) .nil)) (MCall_of_W ok18 (by simp) (W_start ?_)) (.int _ _)); unfold r_Err at h; unfold ac18; obtain ⟨p2, e1, h⟩ := bind_E h; try refine gos_ ?_
  refine mcall_pure (r_Check_c e1) ?_; obtain rfl := som_E h; try refine gos_ ?_
  exact (.pure _ (.int _ _))
def l_Few_p0 (i_3 : Int) (t_9 : Bool) : Option Bool :=
  cond t_9 (some ((decide (i_3 < 172)))) (some (false))
theorem l_Few_p0_W : ∀ (i_3 : Int) (t_9 : Bool) (σ0 σ : Nat -> PV) (H : AH) (f0 : Fr [10, 11, 12] σ0 σ) (sl : σ 3 = (.int .i64 i_3) /\ σ 9 = (.bool t_9)) (o : Bool) (h : l_Few_p0 i_3 t_9 = some o) (Q : Post) (q0 : ∀ (p : Bool) (σ' : Nat -> PV), o = p -> Fr [10, 11, 12] σ0 σ' -> (σ' 12 = (.bool p)) -> Q .normal σ' H) , WOps Tryz.prog ac13_p0 (Q .normal) σ H := by
  intro i_3 t_9 σ0 σ H f0 sl o h Q q0; obtain ⟨s3, s9⟩ := sl; unfold l_Few_p0 at h; refine WO_start ?_; unfold ac13_p0; rcases cond_E h with ⟨e1, h⟩ | ⟨e1, h⟩
  ·obtain rfl := som_E h; try refine gos_ ?_
   exact q0 _ _ rfl fr_ sls_
  ·obtain rfl := som_E h; try refine gos_ ?_
   exact q0 _ _ rfl fr_ sls_
def l_Few_p1 (e_0 : List Nd) (i_3 : Int) (t_22 : Bool) : Option Bool :=
  cond t_22 (some (true)) (if 0 <= i_3 then Option.bind (e_0[i_3.toNat]?) fun x17 => cond (decide ((x17.names.length : Int) > 34)) (some (true)) (some ((decide ((x17.text.length : Int) > 80)))) else none)
def l_Few_p1l : List Nat := [23, 24, 25, 26, 27, 28, 29, 30, 31, 32, 33, 34, 35, 36, 37, 38, 39]
theorem l_Few_p1_W : ∀ (e_0 : List Nd) (i_3 : Int) (t_22 : Bool) (σ0 σ : Nat -> PV) (H : AH) (f0 : Fr l_Few_p1l σ0 σ) (sl : σ 0 = (.isl (e_0.map Nd.cells) .unk) /\ σ 3 = (.int .i64 i_3) /\ σ 22 = (.bool t_22)) (o : Bool) (h : l_Few_p1 e_0 i_3 t_22 = some o) (Q : Post) (q0 : ∀ (p : Bool) (σ' : Nat -> PV), o = p -> Fr l_Few_p1l σ0 σ' -> (σ' 39 = (.bool p)) -> Q .normal σ' H) , WOps Tryz.prog ac13_p1 (Q .normal) σ H := by
  intro e_0 i_3 t_22 σ0 σ H f0 sl o h Q q0; obtain ⟨s0, s3, s22⟩ := sl; unfold l_Few_p1 at h; refine WO_start ?_; unfold ac13_p1; rcases cond_E h with ⟨e15, h⟩ | ⟨e15, h⟩
  ·obtain rfl := som_E h; try refine gos_ ?_
   exact q0 _ _ rfl fr_ sls_
  ·obtain ⟨e16, h⟩ := if_E h; obtain ⟨x17, e18, h⟩ := bind_E h; rcases cond_E h with ⟨e19, h⟩ | ⟨e19, h⟩
   ·obtain rfl := som_E h; try refine gos_ ?_
    exact q0 _ _ rfl fr_ sls_
   ·obtain rfl := som_E h; try refine gos_ ?_
    exact q0 _ _ rfl fr_ sls_
def l_Few_b0 : Nat -> (List Nd) -> Int -> Int -> Option (Unit ⊕ Bool)
  | 0, _, _, _ => none
  | k + 1, e_0, i_3, k_4 =>
    if 0 <= i_3 then Option.bind (e_0[i_3.toNat]?) fun x31 => cond (decide (k_4 < (x31.names.length : Int))) (if 0 <= k_4 then Option.bind (x31.names[k_4.toNat]?) fun x35 => cond (decide ((x35.length : Int) > 80)) (some (.inr (false))) (l_Few_b0 k e_0 i_3 (IntKind.wrap .i64 (k_4 + 1))) else none) (some (.inl ())) else none
def l_Few_b0l : List Nat := [2, 4, 40, 41, 42, 43, 44, 45, 46, 47, 48, 49, 50, 51, 52, 53, 54, 55, 56, 57, 58, 59]
theorem l_Few_b0_W : ∀ (k : Nat) (e_0 : List Nd) (i_3 : Int) (k_4 : Int) (σ0 σ : Nat -> PV) (H : AH) (f0 : Fr l_Few_b0l σ0 σ) (sl : σ 0 = (.isl (e_0.map Nd.cells) .unk) /\ σ 3 = (.int .i64 i_3) /\ σ 4 = (.int .i64 k_4)) (o : Unit ⊕ Bool) (h : l_Few_b0 k e_0 i_3 k_4 = some o) (Q : Post) (q0 : ∀ (p : Unit) (σ' : Nat -> PV), o = .inl p -> Fr l_Few_b0l σ0 σ' -> Q (.exit 2) σ' H) (q1 : ∀ (p : Bool) (σ' : Nat -> PV), o = .inr (p) -> Fr l_Few_b0l σ0 σ' -> (σ' 2 = (.bool p)) -> Q .ret σ' H) , W Tryz.prog (.loop ac13_b0) Q σ H := by
  intro k
  induction k with
  | zero => intro e_0 i_3 k_4 σ0 σ H f0 sl o h Q q0 q1; simp only [l_Few_b0, reduceCtorEq] at h
  | succ k ih =>
    intro e_0 i_3 k_4 σ0 σ H f0 sl o h Q q0 q1; obtain ⟨s0, s3, s4⟩ := sl; unfold l_Few_b0 at h; refine W_loopK (fun K hK => W_start ?_); unfold ac13_b0; obtain ⟨e30, h⟩ := if_E h; obtain ⟨x31, e32, h⟩ := bind_E h; rcases cond_E h with ⟨e33, h⟩ | ⟨e33, h⟩
    ·obtain ⟨e34, h⟩ := if_E h; obtain ⟨x35, e36, h⟩ := bind_E h; rcases cond_E h with ⟨e37, h⟩ | ⟨e37, h⟩
     ·obtain rfl := som_E h; try refine gos_ ?_
      exact q1 _ _ rfl fr_ sls_
     ·try refine gos_ ?_
      refine hK _ _ ?_; exact ih e_0 i_3 (IntKind.wrap .i64 (k_4 + 1)) _ _ _ fr_ sls_ _ h _ q0 q1
    ·obtain rfl := som_E h; try refine gos_ ?_
     exact q0 _ _ rfl fr_
def l_Few_b1 : Nat -> (List Nd) -> Int -> Option (Unit ⊕ Bool)
  | 0, _, _ => none
  | k + 1, e_0, i_3 =>
    Option.bind (l_Few_p0 i_3 (decide (i_3 < (e_0.length : Int)))) (fun p4 => cond p4 (if 0 <= i_3 then Option.bind (e_0[i_3.toNat]?) fun x13 => Option.bind (l_Few_p1 e_0 i_3 (decide ((x13.args.length : Int) > 34))) (fun p22 => cond p22 (some (.inr (false))) (Option.bind (l_Few_b0 k e_0 i_3 0) (fun o => Sum.elim (fun p40 => l_Few_b1 k e_0 (IntKind.wrap .i64 (i_3 + 1))) (fun p46 => some (.inr (p46))) o))) else none) (some (.inl ())))
def l_Few_b1l : List Nat := [2, 3, 4, 5, 6, 7, 8, 9, 10, 11, 12, 13, 14, 15, 16, 17, 18, 19, 20, 21, 22, 23, 24, 25, 26, 27, 28, 29, 30, 31, 32, 33, 34, 35, 36, 37, 38, 39, 40, 41, 42, 43, 44, 45, 46, 47, 48, 49, 50, 51, 52, 53, 54, 55, 56, 57, 58, 59]
theorem l_Few_b1_W : ∀ (k : Nat) (e_0 : List Nd) (i_3 : Int) (σ0 σ : Nat -> PV) (H : AH) (f0 : Fr l_Few_b1l σ0 σ) (sl : σ 0 = (.isl (e_0.map Nd.cells) .unk) /\ σ 3 = (.int .i64 i_3)) (o : Unit ⊕ Bool) (h : l_Few_b1 k e_0 i_3 = some o) (Q : Post) (q0 : ∀ (p : Unit) (σ' : Nat -> PV), o = .inl p -> Fr l_Few_b1l σ0 σ' -> Q (.exit 0) σ' H) (q1 : ∀ (p : Bool) (σ' : Nat -> PV), o = .inr (p) -> Fr l_Few_b1l σ0 σ' -> (σ' 2 = (.bool p)) -> Q .ret σ' H) , W Tryz.prog (.loop ac13_b1) Q σ H := by
  intro k
  induction k with
  | zero => intro e_0 i_3 σ0 σ H f0 sl o h Q q0 q1; simp only [l_Few_b1, reduceCtorEq] at h
  | succ k ih =>
    intro e_0 i_3 σ0 σ H f0 sl o h Q q0 q1; obtain ⟨s0, s3⟩ := sl; unfold l_Few_b1 at h; refine W_loopK (fun K hK => W_start ?_); unfold ac13_b1; try refine gos_ ?_
    obtain ⟨o2, h3, h⟩ := bind_E h; refine l_Few_p0_W i_3 (decide (i_3 < (e_0.length : Int))) _ _ _ (Fr.refl _ _) sls_ _ h3 _ ?_
    ·rintro p4 σ' eo fr5 s8; rw [eo] at h; have s9 : σ' 0 = (.isl (e_0.map Nd.cells) .unk) := (fr5 0 (by decide)).trans sls_; have s10 : σ' 3 = (.int .i64 i_3) := (fr5 3 (by decide)).trans sls_; rcases cond_E h with ⟨e11, h⟩ | ⟨e11, h⟩
     ·obtain ⟨e12, h⟩ := if_E h; obtain ⟨x13, e14, h⟩ := bind_E h; try refine gos_ ?_
      obtain ⟨o20, h21, h⟩ := bind_E h; refine l_Few_p1_W e_0 i_3 (decide ((x13.args.length : Int) > 34)) _ _ _ (Fr.refl _ _) sls_ _ h21 _ ?_
      ·rintro p22 σ' eo fr23 s26; rw [eo] at h; have s27 : σ' 0 = (.isl (e_0.map Nd.cells) .unk) := (fr23 0 (by decide)).trans sls_; have s28 : σ' 3 = (.int .i64 i_3) := (fr23 3 (by decide)).trans sls_; rcases cond_E h with ⟨e29, h⟩ | ⟨e29, h⟩
       ·obtain rfl := som_E h; try refine gos_ ?_
        exact q1 _ _ rfl (by repeat (first | exact f0 | refine Fr.upd (by decide) ?_ | refine Fr.via fr5 (by decide) ?_ | refine Fr.via fr23 (by decide) ?_)) sls_
       ·try refine gos_ ?_
        obtain ⟨o38, h39, h⟩ := bind_E h; refine l_Few_b0_W k e_0 i_3 0 _ _ _ (Fr.refl _ _) sls_ _ h39 _ ?_ ?_
        ·rintro p40 σ' eo fr41; subst eo; rw [sum_L] at h; have s44 : σ' 0 = (.isl (e_0.map Nd.cells) .unk) := (fr41 0 (by decide)).trans sls_; have s45 : σ' 3 = (.int .i64 i_3) := (fr41 3 (by decide)).trans sls_; try refine gos_ ?_
         refine hK _ _ ?_; exact ih e_0 (IntKind.wrap .i64 (i_3 + 1)) _ _ _ (by repeat (first | exact f0 | refine Fr.upd (by decide) ?_ | refine Fr.via fr5 (by decide) ?_ | refine Fr.via fr23 (by decide) ?_ | refine Fr.via fr41 (by decide) ?_)) sls_ _ h _ q0 q1
        ·rintro p46 σ' eo fr47 s50; subst eo; rw [sum_R] at h; obtain rfl := som_E h; try refine gos_ ?_
         exact q1 _ _ rfl (by repeat (first | exact f0 | refine Fr.upd (by decide) ?_ | refine Fr.via fr5 (by decide) ?_ | refine Fr.via fr23 (by decide) ?_ | refine Fr.via fr47 (by decide) ?_)) sls_
     ·obtain rfl := som_E h; try refine gos_ ?_
      exact q0 _ _ rfl (by repeat (first | exact f0 | refine Fr.upd (by decide) ?_ | refine Fr.via fr5 (by decide) ?_))
def l_Few (k : Nat) (e_0 : List Nd) : Option Bool :=
  Option.bind (l_Few_b1 k e_0 0) (fun o => Sum.elim (fun p53 => some (decide ((e_0.length : Int) <= 170))) (fun p58 => some p58) o)
theorem l_Few_c {k : Nat} {e_0 : List Nd} {c0 : Ck} {r : Bool} (h : l_Few k e_0 = some r) : PCall Tryz.prog 13 [(.isl (e_0.map Nd.cells) c0)] (.bool r) := by
  refine PCall.lw (.isl .nil) (PCall.of_empty (PuL.mem (.cons (pu_sl Nd.pu _) .nil)) (MCall_of_W ok13 (by simp) (W_start ?_)) (.bool _)); unfold l_Few at h; unfold ac13; try refine gos_ ?_
  obtain ⟨o51, h52, h⟩ := bind_E h; refine l_Few_b1_W k e_0 0 _ _ _ (Fr.refl _ _) sls_ _ h52 _ ?_ ?_
  ·rintro p53 σ' eo fr54; subst eo; rw [sum_L] at h; have s57 : σ' 0 = (.isl (e_0.map Nd.cells) .unk) := (fr54 0 (by decide)).trans sls_; obtain rfl := som_E h; try refine gos_ ?_
   exact (.pure _ (.bool _))
  ·rintro p58 σ' eo fr59 s62; subst eo; rw [sum_R] at h; obtain rfl := som_E h; try refine gos_ ?_
   exact (.pure _ (.bool _))
def b_OwnInts (l_0 : List Int) : Option (List Int) :=
  if (([] : List Int).length + l_0.length) * 8 <= 1099511627776 then some (([] : List Int) ++ l_0) else none
theorem b_OwnInts_c {l_0 : List Int} {c0 : Ck} {r : List Int} (h : b_OwnInts l_0 = some r) : PCall Tryz.prog 53 [(.isl (l_0.map intL) c0)] (.isl (r.map intL) .unk) := by
  refine PCall.lw (.isl .nil) (PCall.of_empty (PuL.mem (.cons (pu_sl pu_intL _) .nil)) (MCall_of_W ok53 (by simp) (W_start ?_)) (pu_sl pu_intL _)); unfold b_OwnInts at h; unfold ac53; obtain ⟨e5, h⟩ := if_E h; try refine gos_ ?_
  refine WO_app (f := intL) row_int ([] : List Int) (l_0 : List Int) .exact .unk sls_ sls_ ok_ (by first | exact e5 | (simp only [List.length_cons, List.length_nil] ; exact e5)) (fun c1 H2 ok3 le ob6 rl4 => ?_); have hf7 : HF [] _ H2 := ⟨le, fun i _ _ => ob6 i⟩; try simp only [AH.new_next, AH.put_next, AH.tok_next, AH.use_next] at le
  obtain rfl := som_E h; try refine gos_ ?_
  exact (fz_sl pu_intL (([] : List Int) ++ l_0) _)
def b_OwnTexts (l_0 : List Str) : Option (List Str) :=
  if (([] : List Str).length + l_0.length) * 16 <= 1099511627776 then some (([] : List Str) ++ l_0) else none
theorem b_OwnTexts_c {l_0 : List Str} {c0 : Ck} {r : List Str} (h : b_OwnTexts l_0 = some r) : PCall Tryz.prog 52 [(.isl (l_0.map strL) c0)] (.isl (r.map strL) .unk) := by
  refine PCall.lw (.isl .nil) (PCall.of_empty (PuL.mem (.cons (pu_sl pu_strL _) .nil)) (MCall_of_W ok52 (by simp) (W_start ?_)) (pu_sl pu_strL _)); unfold b_OwnTexts at h; unfold ac52; obtain ⟨e5, h⟩ := if_E h; try refine gos_ ?_
  refine WO_app (f := strL) row_str ([] : List Str) (l_0 : List Str) .exact .unk sls_ sls_ ok_ (by first | exact e5 | (simp only [List.length_cons, List.length_nil] ; exact e5)) (fun c1 H2 ok3 le ob6 rl4 => ?_); have hf7 : HF [] _ H2 := ⟨le, fun i _ _ => ob6 i⟩; try simp only [AH.new_next, AH.put_next, AH.tok_next, AH.use_next] at le
  obtain rfl := som_E h; try refine gos_ ?_
  exact (fz_sl pu_strL (([] : List Str) ++ l_0) _)
def b_OwnExpr_b0 : Nat -> (List Nd) -> (List Nd) -> Int -> Option (List Nd)
  | 0, _, _, _ => none
  | k + 1, e_0, out_3, i_4 =>
    cond (decide (i_4 < (e_0.length : Int))) (if 0 <= i_4 then Option.bind (e_0[i_4.toNat]?) fun x3 => Option.bind (b_OwnTexts x3.names) fun p6 => Option.bind (b_OwnInts x3.args) fun p8 => if (out_3.length + 1) * 80 <= 1099511627776 then b_OwnExpr_b0 k e_0 (out_3 ++ [(Nd.mk x3.kind x3.n x3.text p6 p8)]) (IntKind.wrap .i64 (i_4 + 1)) else none else none) (some (out_3))
def b_OwnExpr_b0l : List Nat := [3, 4, 5, 6, 7, 8, 9, 10, 11, 12, 13, 14, 15, 16, 17, 18, 19, 20, 21, 22, 23, 24, 25, 26, 27]
theorem b_OwnExpr_b0_W : ∀ (k : Nat) (e_0 : List Nd) (out_3 : List Nd) (i_4 : Int) (c_out_3_b0 : Ck) (σ0 σ : Nat -> PV) (H0 H : AH) (f0 : Fr b_OwnExpr_b0l σ0 σ) (hf0 : HF [] H0 H) (sl : σ 0 = (.isl (e_0.map Nd.cells) .unk) /\ σ 3 = (.isl (out_3.map Nd.cells) c_out_3_b0) /\ σ 4 = (.int .i64 i_4)) (ok_out_3 : okc H c_out_3_b0) (o : List Nd) (h : b_OwnExpr_b0 k e_0 out_3 i_4 = some o) (Q : Post) (q0 : ∀ (p : List Nd) (c0 : Ck) (σ' : Nat -> PV) (H' : AH), o = p -> Fr b_OwnExpr_b0l σ0 σ' -> HF [] H0 H' -> (σ' 3 = (.isl (p.map Nd.cells) c0)) -> Q (.exit 0) σ' H') , W Tryz.prog (.loop ac15_b0) Q σ H := by
  intro k
  induction k with
  | zero => intro e_0 out_3 i_4 c_out_3_b0 σ0 σ H0 H f0 hf0 sl ok_out_3 o h Q q0; simp only [b_OwnExpr_b0, reduceCtorEq] at h
  | succ k ih =>
    intro e_0 out_3 i_4 c_out_3_b0 σ0 σ H0 H f0 hf0 sl ok_out_3 o h Q q0; obtain ⟨s0, s3, s4⟩ := sl; have hle0 := hf0.1; unfold b_OwnExpr_b0 at h; refine W_loopK (fun K hK => W_start ?_); unfold ac15_b0; rcases cond_E h with ⟨e1, h⟩ | ⟨e1, h⟩
    ·obtain ⟨e2, h⟩ := if_E h; obtain ⟨x3, e4, h⟩ := bind_E h; try refine gos_ ?_
     refine WS_parS ?_; obtain ⟨p6, e5, h⟩ := bind_E h; try refine gos_ ?_
     refine PC.mk (b_OwnTexts_c e5) ?_; obtain ⟨p8, e7, h⟩ := bind_E h; try refine gos_ ?_
     refine PC.mk (b_OwnInts_c e7) ?_; obtain ⟨e13, h⟩ := if_E h; try refine gos_ ?_
     refine WO_app (f := Nd.cells) Nd.row out_3 ([(Nd.mk x3.kind x3.n x3.text p6 p8)] : List Nd) c_out_3_b0 .exact sls_ sls_ ok_ (by first | exact e13 | (simp only [List.length_cons, List.length_nil] ; exact e13)) (fun c9 H10 ok11 le ob14 rl12 => ?_); have hf15 : HF [] _ H10 := ⟨le, fun i _ _ => ob14 i⟩; try simp only [AH.new_next, AH.put_next, AH.tok_next, AH.use_next] at le
     have n16 := ne_next (show H.next < H10.next by first | omega | (simp only [AH.new_next, AH.put_next, AH.tok_next, AH.use_next]; omega)); have m17 := ne_add (show H.next < H10.next by first | omega | (simp only [AH.new_next, AH.put_next, AH.tok_next, AH.use_next]; omega)); try refine gos_ ?_
     refine hK _ _ ?_; exact ih e_0 (out_3 ++ [(Nd.mk x3.kind x3.n x3.text p6 p8)]) (IntKind.wrap .i64 (i_4 + 1)) c9 _ _ _ _ fr_ (by repeat (first | exact hf0 | refine HF.new ?_ | refine HF.tokd ?_ | refine HF.used ?_ | refine HF.put (by first | (right; omega) | (left; simp only [List.mem_cons, true_or, or_true])) ?_ | refine HF.via hf15 (by first | exact fun i hi => absurd hi List.not_mem_nil | (intro i hi; simp only [List.mem_cons, List.not_mem_nil, or_false] at hi ⊢; first | exact .inl hi | omega)) ?_)) sls_ ok_ _ h _ q0
    ·obtain rfl := som_E h; try refine gos_ ?_
     exact q0 _ c_out_3_b0 _ _ rfl fr_ (by repeat (first | exact hf0 | refine HF.new ?_ | refine HF.tokd ?_ | refine HF.used ?_ | refine HF.put (by first | (right; omega) | (left; simp only [List.mem_cons, true_or, or_true])) ?_)) sls_
def b_OwnExpr (k : Nat) (e_0 : List Nd) : Option (List Nd) :=
  Option.bind (b_OwnExpr_b0 k e_0 ([] : List Nd) 0) (fun p20 => some p20)
theorem b_OwnExpr_c {k : Nat} {e_0 : List Nd} {c0 : Ck} {r : List Nd} (h : b_OwnExpr k e_0 = some r) : PCall Tryz.prog 15 [(.isl (e_0.map Nd.cells) c0)] (.isl (r.map Nd.cells) .unk) := by
  refine PCall.lw (.isl .nil) (PCall.of_empty (PuL.mem (.cons (pu_sl Nd.pu _) .nil)) (MCall_of_W ok15 (by simp) (W_start ?_)) (pu_sl Nd.pu _)); unfold b_OwnExpr at h; unfold ac15; try refine gos_ ?_
  obtain ⟨o18, h19, h⟩ := bind_E h; refine b_OwnExpr_b0_W k e_0 ([] : List Nd) 0 .nil _ _ _ _ (Fr.refl _ _) (HF.refl _ _) sls_ ok_ _ h19 _ ?_
  ·rintro p20 c24 σ' H23 eo fr21 hf22 s25; rw [eo] at h; have le := hf22.1; try simp only [AH.new_next, AH.put_next, AH.tok_next, AH.use_next] at le
   obtain rfl := som_E h; try refine gos_ ?_
   exact (fz_sl Nd.pu p20 _)
end Go.VL
end
section
set_option maxRecDepth 8000
set_option maxHeartbeats 4000000
namespace Go.VL
open Go.Proofs
def t_spans (n_0 : Int) (from_1 : Int) (to_2 : Int) : Option Bool :=
  cond (decide (from_1 <= n_0)) (some (decide (n_0 <= to_2))) (some false)
theorem t_spans_c {n_0 : Int} {from_1 : Int} {to_2 : Int} {r : Bool} (h : t_spans n_0 from_1 to_2 = some r) : PCall Tryz.prog 69 [(.int .i64 n_0), (.int .i64 from_1), (.int .i64 to_2)] (.bool r) := by
  refine PCall.of_empty (PuL.mem (.cons (.int _ _) (.cons (.int _ _) (.cons (.int _ _) .nil)))) (MCall_of_W ok69 (by simp) (W_start ?_)) (.bool _); unfold t_spans at h; unfold ac69; rcases cond_E h with ⟨e1, h⟩ | ⟨e1, h⟩
  ·obtain rfl := som_E h; try refine gos_ ?_
   exact (.pure _ (.bool _))
  ·obtain rfl := som_E h; try refine gos_ ?_
   exact (.pure _ (.bool _))
def t_wrong (is_0 : Bool) (code_1 : Int) : Option Int :=
  cond is_0 (some code_1) (some 0)
theorem t_wrong_c {is_0 : Bool} {code_1 : Int} {r : Int} (h : t_wrong is_0 code_1 = some r) : PCall Tryz.prog 47 [(.bool is_0), (.int .i64 code_1)] (.int .i64 r) := by
  refine PCall.of_empty (PuL.mem (.cons (.bool _) (.cons (.int _ _) .nil))) (MCall_of_W ok47 (by simp) (W_start ?_)) (.int _ _); unfold t_wrong at h; unfold ac47; rcases cond_E h with ⟨e1, h⟩ | ⟨e1, h⟩
  ·obtain rfl := som_E h; try refine gos_ ?_
   exact (.pure _ (.int _ _))
  ·obtain rfl := som_E h; try refine gos_ ?_
   exact (.pure _ (.int _ _))
def g_Or_api_Errno_b0 : Nat -> (List Int) -> Int -> Int -> Option (Unit ⊕ Int)
  | 0, _, _, _ => none
  | k + 1, t_6, t_7, t_8 =>
    cond (decide (t_8 < t_7)) (if 0 <= t_8 then Option.bind (t_6[t_8.toNat]?) fun x3 => cond (x3 != 0) (some (.inr (x3))) (g_Or_api_Errno_b0 k t_6 t_7 (IntKind.wrap .i64 (t_8 + 1))) else none) (some (.inl ()))
def g_Or_api_Errno_b0l : List Nat := [2, 5, 8, 9, 10, 11, 12, 13, 14, 15, 16]
theorem g_Or_api_Errno_b0_W : ∀ (k : Nat) (t_6 : List Int) (t_7 : Int) (t_8 : Int) (σ0 σ : Nat -> PV) (H : AH) (f0 : Fr g_Or_api_Errno_b0l σ0 σ) (sl : σ 3 = (.int .i64 0) /\ σ 6 = (.isl (t_6.map intL) .unk) /\ σ 7 = (.int .i64 t_7) /\ σ 8 = (.int .i64 t_8)) (o : Unit ⊕ Int) (h : g_Or_api_Errno_b0 k t_6 t_7 t_8 = some o) (Q : Post) (q0 : ∀ (p : Unit) (σ' : Nat -> PV), o = .inl p -> Fr g_Or_api_Errno_b0l σ0 σ' -> Q (.exit 0) σ' H) (q1 : ∀ (p : Int) (σ' : Nat -> PV), o = .inr (p) -> Fr g_Or_api_Errno_b0l σ0 σ' -> (σ' 2 = (.int .i64 p)) -> Q .ret σ' H) , W Tryz.prog (.loop ac46_b0) Q σ H := by
  intro k
  induction k with
  | zero => intro t_6 t_7 t_8 σ0 σ H f0 sl o h Q q0 q1; simp only [g_Or_api_Errno_b0, reduceCtorEq] at h
  | succ k ih =>
    intro t_6 t_7 t_8 σ0 σ H f0 sl o h Q q0 q1; obtain ⟨s3, s6, s7, s8⟩ := sl; unfold g_Or_api_Errno_b0 at h; refine W_loopK (fun K hK => W_start ?_); unfold ac46_b0; rcases cond_E h with ⟨e1, h⟩ | ⟨e1, h⟩
    ·obtain ⟨e2, h⟩ := if_E h; obtain ⟨x3, e4, h⟩ := bind_E h; rcases cond_E h with ⟨e5, h⟩ | ⟨e5, h⟩
     ·obtain rfl := som_E h; try refine gos_ ?_
      exact q1 _ _ rfl fr_ sls_
     ·try refine gos_ ?_
      refine hK _ _ ?_; exact ih t_6 t_7 (IntKind.wrap .i64 (t_8 + 1)) _ _ _ fr_ sls_ _ h _ q0 q1
    ·obtain rfl := som_E h; try refine gos_ ?_
     exact q0 _ _ rfl fr_
def g_Or_api_Errno (k : Nat) (vals_0 : List Int) : Option Int :=
  Option.bind (g_Or_api_Errno_b0 k vals_0 (vals_0.length : Int) 0) (fun o => Sum.elim (fun p8 => some 0) (fun p13 => some p13) o)
theorem g_Or_api_Errno_c {k : Nat} {vals_0 : List Int} {c0 : Ck} {r : Int} (h : g_Or_api_Errno k vals_0 = some r) : PCall Tryz.prog 46 [(.isl (vals_0.map intL) c0)] (.int .i64 r) := by
  refine PCall.lw (.isl .nil) (PCall.of_empty (PuL.mem (.cons (pu_sl pu_intL _) .nil)) (MCall_of_W ok46 (by simp) (W_start ?_)) (.int _ _)); unfold g_Or_api_Errno at h; unfold ac46; try refine gos_ ?_
  obtain ⟨o6, h7, h⟩ := bind_E h; refine g_Or_api_Errno_b0_W k vals_0 (vals_0.length : Int) 0 _ _ _ (Fr.refl _ _) sls_ _ h7 _ ?_ ?_
  ·rintro p8 σ' eo fr9; subst eo; rw [sum_L] at h; have s12 : σ' 3 = (.int .i64 0) := (fr9 3 (by decide)).trans sls_; obtain rfl := som_E h; try refine gos_ ?_
   exact (.pure _ (.int _ _))
  ·rintro p13 σ' eo fr14 s17; subst eo; rw [sum_R] at h; obtain rfl := som_E h; try refine gos_ ?_
   exact (.pure _ (.int _ _))
def t_operatorOf_1 (o_0 : Operator) (t_1 : Str) : Option Bool :=
  some (o_0.text == t_1)
theorem t_operatorOf_1_c {o_0 : Operator} {t_1 : Str} {r : Bool} (h : t_operatorOf_1 o_0 t_1 = some r) : PCall Tryz.prog 112 [(.agg (Operator.cells o_0)), (.iptr [(.str t_1)] 0)] (.bool r) := by
  refine PCall.of_empty (PuL.mem (.cons (.agg _ (Operator.pu _)) (.cons (.iptr _ _ (PuL.mem (.cons (.str _) .nil))) .nil))) (MCall_of_W ok112 (by simp) (W_start ?_)) (.bool _); unfold t_operatorOf_1 at h; unfold ac112; obtain rfl := som_E h; try refine gos_ ?_
  exact (.pure _ (.bool _))
def g_IndexFunc_api_Operator_api_Operator_at112_b0 : Nat -> (List Operator) -> Str -> Int -> Int -> Option (Unit ⊕ Int)
  | 0, _, _, _, _ => none
  | k + 1, s_0, f_1_0, t_7, t_8 =>
    cond (decide (t_8 < t_7)) (if 0 <= t_8 then Option.bind (s_0[t_8.toNat]?) fun x3 => Option.bind (t_operatorOf_1 x3 f_1_0) fun p6 => cond p6 (some (.inr (t_8))) (g_IndexFunc_api_Operator_api_Operator_at112_b0 k s_0 f_1_0 t_7 (IntKind.wrap .i64 (t_8 + 1))) else none) (some (.inl ()))
def g_IndexFunc_api_Operator_api_Operator_at112_b0l : List Nat := [4, 5, 8, 9, 10, 11, 12, 13, 14, 15, 16, 17, 18]
theorem g_IndexFunc_api_Operator_api_Operator_at112_b0_W : ∀ (k : Nat) (s_0 : List Operator) (f_1_0 : Str) (t_7 : Int) (t_8 : Int) (σ0 σ : Nat -> PV) (H : AH) (f0 : Fr g_IndexFunc_api_Operator_api_Operator_at112_b0l σ0 σ) (sl : σ 0 = (.isl (s_0.map Operator.cells) .unk) /\ σ 1 = (.fn (.func 112) [] [(.iptr [(.str f_1_0)] 0)]) /\ σ 7 = (.int .i64 t_7) /\ σ 8 = (.int .i64 t_8)) (o : Unit ⊕ Int) (h : g_IndexFunc_api_Operator_api_Operator_at112_b0 k s_0 f_1_0 t_7 t_8 = some o) (Q : Post) (q0 : ∀ (p : Unit) (σ' : Nat -> PV), o = .inl p -> Fr g_IndexFunc_api_Operator_api_Operator_at112_b0l σ0 σ' -> Q (.exit 0) σ' H) (q1 : ∀ (p : Int) (σ' : Nat -> PV), o = .inr (p) -> Fr g_IndexFunc_api_Operator_api_Operator_at112_b0l σ0 σ' -> (σ' 4 = (.int .i64 p)) -> Q .ret σ' H) , W Tryz.prog (.loop ac111_b0) Q σ H := by
  intro k
  induction k with
  | zero => intro s_0 f_1_0 t_7 t_8 σ0 σ H f0 sl o h Q q0 q1; simp only [g_IndexFunc_api_Operator_api_Operator_at112_b0, reduceCtorEq] at h
  | succ k ih =>
    intro s_0 f_1_0 t_7 t_8 σ0 σ H f0 sl o h Q q0 q1; obtain ⟨s0, s1, s7, s8⟩ := sl; unfold g_IndexFunc_api_Operator_api_Operator_at112_b0 at h; refine W_loopK (fun K hK => W_start ?_); unfold ac111_b0; rcases cond_E h with ⟨e1, h⟩ | ⟨e1, h⟩
    ·obtain ⟨e2, h⟩ := if_E h; obtain ⟨x3, e4, h⟩ := bind_E h; obtain ⟨p6, e5, h⟩ := bind_E h; try refine gos_ ?_
     refine mcall_pure (t_operatorOf_1_c e5) ?_; rcases cond_E h with ⟨e7, h⟩ | ⟨e7, h⟩
     ·obtain rfl := som_E h; try refine gos_ ?_
      exact q1 _ _ rfl fr_ sls_
     ·try refine gos_ ?_
      refine hK _ _ ?_; exact ih s_0 f_1_0 t_7 (IntKind.wrap .i64 (t_8 + 1)) _ _ _ fr_ sls_ _ h _ q0 q1
    ·obtain rfl := som_E h; try refine gos_ ?_
     exact q0 _ _ rfl fr_
def g_IndexFunc_api_Operator_api_Operator_at112 (k : Nat) (s_0 : List Operator) (f_1_0 : Str) : Option Int :=
  Option.bind (g_IndexFunc_api_Operator_api_Operator_at112_b0 k s_0 f_1_0 (s_0.length : Int) 0) (fun o => Sum.elim (fun p10 => some (-1)) (fun p14 => some p14) o)
theorem g_IndexFunc_api_Operator_api_Operator_at112_c {k : Nat} {s_0 : List Operator} {f_1_0 : Str} {c0 : Ck} {r : Int} (h : g_IndexFunc_api_Operator_api_Operator_at112 k s_0 f_1_0 = some r) : PCall Tryz.prog 111 [(.isl (s_0.map Operator.cells) c0), (.fn (.func 112) [] [(.iptr [(.str f_1_0)] 0)])] (.int .i64 r) := by
  refine PCall.lw (.isl (.same .nil)) (PCall.of_empty (PuL.mem (.cons (pu_sl Operator.pu _) (.cons (.fn _ _ _ (PuL.mem .nil) (PuL.mem (.cons (.iptr _ _ (PuL.mem (.cons (.str _) .nil))) .nil))) .nil))) (MCall_of_W ok111 (by simp) (W_start ?_)) (.int _ _)); unfold g_IndexFunc_api_Operator_api_Operator_at112 at h; unfold ac111; try refine gos_ ?_
  obtain ⟨o8, h9, h⟩ := bind_E h; refine g_IndexFunc_api_Operator_api_Operator_at112_b0_W k s_0 f_1_0 (s_0.length : Int) 0 _ _ _ (Fr.refl _ _) sls_ _ h9 _ ?_ ?_
  ·rintro p10 σ' eo fr11; subst eo; rw [sum_L] at h; obtain rfl := som_E h; try refine gos_ ?_
   exact (.pure _ (.int _ _))
  ·rintro p14 σ' eo fr15 s18; subst eo; rw [sum_R] at h; obtain rfl := som_E h; try refine gos_ ?_
   exact (.pure _ (.int _ _))
def t_isText_1 (c_0 : Int) : Option Bool :=
  Option.bind (t_spans (IntKind.wrap .i64 c_0) 32 126) fun p2 => cond p2 (cond (c_0 == 34) (some true) (some (c_0 == 92))) (some true)
theorem t_isText_1_c {c_0 : Int} {r : Bool} (h : t_isText_1 c_0 = some r) : PCall Tryz.prog 142 [(.int .i32 c_0)] (.bool r) := by
  refine PCall.of_empty (PuL.mem (.cons (.int _ _) .nil)) (MCall_of_W ok142 (by simp) (W_start ?_)) (.bool _); unfold t_isText_1 at h; unfold ac142; obtain ⟨p2, e1, h⟩ := bind_E h; try refine gos_ ?_
  refine mcall_pure (t_spans_c e1) ?_; rcases cond_E h with ⟨e3, h⟩ | ⟨e3, h⟩
  ·rcases cond_E h with ⟨e4, h⟩ | ⟨e4, h⟩
   ·obtain rfl := som_E h; try refine gos_ ?_
    exact (.pure _ (.bool _))
   ·obtain rfl := som_E h; try refine gos_ ?_
    exact (.pure _ (.bool _))
  ·obtain rfl := som_E h; try refine gos_ ?_
   exact (.pure _ (.bool _))
def g_Index_string_string_b0 : Nat -> (List Str) -> Str -> Int -> Int -> Option (Unit ⊕ Int)
  | 0, _, _, _, _ => none
  | k + 1, s_0, v_1, t_7, t_8 =>
    cond (decide (t_8 < t_7)) (if 0 <= t_8 then Option.bind (s_0[t_8.toNat]?) fun x3 => cond (v_1 == x3) (some (.inr (t_8))) (g_Index_string_string_b0 k s_0 v_1 t_7 (IntKind.wrap .i64 (t_8 + 1))) else none) (some (.inl ()))
def g_Index_string_string_b0l : List Nat := [4, 5, 8, 9, 10, 11, 12, 13, 14, 15, 16, 17, 18]
theorem g_Index_string_string_b0_W : ∀ (k : Nat) (s_0 : List Str) (v_1 : Str) (t_7 : Int) (t_8 : Int) (σ0 σ : Nat -> PV) (H : AH) (f0 : Fr g_Index_string_string_b0l σ0 σ) (sl : σ 0 = (.isl (s_0.map strL) .unk) /\ σ 1 = (.str v_1) /\ σ 7 = (.int .i64 t_7) /\ σ 8 = (.int .i64 t_8)) (o : Unit ⊕ Int) (h : g_Index_string_string_b0 k s_0 v_1 t_7 t_8 = some o) (Q : Post) (q0 : ∀ (p : Unit) (σ' : Nat -> PV), o = .inl p -> Fr g_Index_string_string_b0l σ0 σ' -> Q (.exit 0) σ' H) (q1 : ∀ (p : Int) (σ' : Nat -> PV), o = .inr (p) -> Fr g_Index_string_string_b0l σ0 σ' -> (σ' 4 = (.int .i64 p)) -> Q .ret σ' H) , W Tryz.prog (.loop ac130_b0) Q σ H := by
  intro k
  induction k with
  | zero => intro s_0 v_1 t_7 t_8 σ0 σ H f0 sl o h Q q0 q1; simp only [g_Index_string_string_b0, reduceCtorEq] at h
  | succ k ih =>
    intro s_0 v_1 t_7 t_8 σ0 σ H f0 sl o h Q q0 q1; obtain ⟨s0, s1, s7, s8⟩ := sl; unfold g_Index_string_string_b0 at h; refine W_loopK (fun K hK => W_start ?_); unfold ac130_b0; rcases cond_E h with ⟨e1, h⟩ | ⟨e1, h⟩
    ·obtain ⟨e2, h⟩ := if_E h; obtain ⟨x3, e4, h⟩ := bind_E h; rcases cond_E h with ⟨e5, h⟩ | ⟨e5, h⟩
     ·obtain rfl := som_E h; try refine gos_ ?_
      exact q1 _ _ rfl fr_ sls_
     ·try refine gos_ ?_
      refine hK _ _ ?_; exact ih s_0 v_1 t_7 (IntKind.wrap .i64 (t_8 + 1)) _ _ _ fr_ sls_ _ h _ q0 q1
    ·obtain rfl := som_E h; try refine gos_ ?_
     exact q0 _ _ rfl fr_
def g_Index_string_string (k : Nat) (s_0 : List Str) (v_1 : Str) : Option Int :=
  Option.bind (g_Index_string_string_b0 k s_0 v_1 (s_0.length : Int) 0) (fun o => Sum.elim (fun p8 => some (-1)) (fun p12 => some p12) o)
theorem g_Index_string_string_c {k : Nat} {s_0 : List Str} {v_1 : Str} {c0 : Ck} {r : Int} (h : g_Index_string_string k s_0 v_1 = some r) : PCall Tryz.prog 130 [(.isl (s_0.map strL) c0), (.str v_1)] (.int .i64 r) := by
  refine PCall.lw (.isl (.same .nil)) (PCall.of_empty (PuL.mem (.cons (pu_sl pu_strL _) (.cons (.str _) .nil))) (MCall_of_W ok130 (by simp) (W_start ?_)) (.int _ _)); unfold g_Index_string_string at h; unfold ac130; try refine gos_ ?_
  obtain ⟨o6, h7, h⟩ := bind_E h; refine g_Index_string_string_b0_W k s_0 v_1 (s_0.length : Int) 0 _ _ _ (Fr.refl _ _) sls_ _ h7 _ ?_ ?_
  ·rintro p8 σ' eo fr9; subst eo; rw [sum_L] at h; obtain rfl := som_E h; try refine gos_ ?_
   exact (.pure _ (.int _ _))
  ·rintro p12 σ' eo fr13 s16; subst eo; rw [sum_R] at h; obtain rfl := som_E h; try refine gos_ ?_
   exact (.pure _ (.int _ _))
def g_Contains_string_string (k : Nat) (s_0 : List Str) (v_1 : Str) : Option Bool :=
  Option.bind (g_Index_string_string k s_0 v_1) fun p2 => some (decide (p2 >= 0))
theorem g_Contains_string_string_c {k : Nat} {s_0 : List Str} {v_1 : Str} {c0 : Ck} {r : Bool} (h : g_Contains_string_string k s_0 v_1 = some r) : PCall Tryz.prog 81 [(.isl (s_0.map strL) c0), (.str v_1)] (.bool r) := by
  refine PCall.lw (.isl (.same .nil)) (PCall.of_empty (PuL.mem (.cons (pu_sl pu_strL _) (.cons (.str _) .nil))) (MCall_of_W ok81 (by simp) (W_start ?_)) (.bool _)); unfold g_Contains_string_string at h; unfold ac81; obtain ⟨p2, e1, h⟩ := bind_E h; try refine gos_ ?_
  refine mcall_pure (g_Index_string_string_c e1) ?_; obtain rfl := som_E h; try refine gos_ ?_
  exact (.pure _ (.bool _))
def g_HasPrefix_179 (s_0 : Str) (prefix_1 : Str) : Option Bool :=
  cond (decide ((s_0.length : Int) >= (prefix_1.length : Int))) (if prefix_1.length <= s_0.length then some ((s_0.take prefix_1.length) == prefix_1) else none) (some false)
theorem g_HasPrefix_179_c {s_0 : Str} {prefix_1 : Str} {r : Bool} (h : g_HasPrefix_179 s_0 prefix_1 = some r) : PCall Tryz.prog 179 [(.str s_0), (.str prefix_1)] (.bool r) := by
  refine PCall.of_empty (PuL.mem (.cons (.str _) (.cons (.str _) .nil))) (MCall_of_W ok179 (by simp) (W_start ?_)) (.bool _); unfold g_HasPrefix_179 at h; unfold ac179; rcases cond_E h with ⟨e1, h⟩ | ⟨e1, h⟩
  ·obtain ⟨e2, h⟩ := if_E h; obtain rfl := som_E h; try refine gos_ ?_
   exact (.pure _ (.bool _))
  ·obtain rfl := som_E h; try refine gos_ ?_
   exact (.pure _ (.bool _))
def g_HasPrefix_125 (s_0 : Str) (prefix_1 : Str) : Option Bool :=
  Option.bind (g_HasPrefix_179 s_0 prefix_1) fun p2 => some p2
theorem g_HasPrefix_125_c {s_0 : Str} {prefix_1 : Str} {r : Bool} (h : g_HasPrefix_125 s_0 prefix_1 = some r) : PCall Tryz.prog 125 [(.str s_0), (.str prefix_1)] (.bool r) := by
  refine PCall.of_empty (PuL.mem (.cons (.str _) (.cons (.str _) .nil))) (MCall_of_W ok125 (by simp) (W_start ?_)) (.bool _); unfold g_HasPrefix_125 at h; unfold ac125; obtain ⟨p2, e1, h⟩ := bind_E h; try refine gos_ ?_
  refine mcall_pure (g_HasPrefix_179_c e1) ?_; obtain rfl := som_E h; try refine gos_ ?_
  exact (.pure _ (.bool _))
def t_isFixed (s_0 : Str) : Option Bool :=
  cond (s_0 == ([84, 82, 85, 69] : Str)) (some true) (cond (s_0 == ([70, 65, 76, 83, 69] : Str)) (some true) (cond (s_0 == ([66, 79, 79, 76, 69, 65, 78] : Str)) (some true) (some (s_0 == ([83, 84, 82, 73, 78, 71] : Str)))))
theorem t_isFixed_c {s_0 : Str} {r : Bool} (h : t_isFixed s_0 = some r) : PCall Tryz.prog 129 [(.str s_0)] (.bool r) := by
  refine PCall.of_empty (PuL.mem (.cons (.str _) .nil)) (MCall_of_W ok129 (by simp) (W_start ?_)) (.bool _); unfold t_isFixed at h; unfold ac129; rcases cond_E h with ⟨e1, h⟩ | ⟨e1, h⟩
  ·obtain rfl := som_E h; try refine gos_ ?_
   exact (.pure _ (.bool _))
  ·rcases cond_E h with ⟨e2, h⟩ | ⟨e2, h⟩
   ·obtain rfl := som_E h; try refine gos_ ?_
    exact (.pure _ (.bool _))
   ·rcases cond_E h with ⟨e3, h⟩ | ⟨e3, h⟩
    ·obtain rfl := som_E h; try refine gos_ ?_
     exact (.pure _ (.bool _))
    ·obtain rfl := som_E h; try refine gos_ ?_
     exact (.pure _ (.bool _))
def t_begin (e_0 : List Nd) (i_1 : Int) (begins_2 : List Int) : Option Int :=
  if 0 <= i_1 then Option.bind (e_0[i_1.toNat]?) fun x2 => cond ((x2.args.length : Int) == 0) (some i_1) (Option.bind (x2.args[0]?) fun x5 => if 0 <= x5 then Option.bind (begins_2[x5.toNat]?) fun x8 => some x8 else none) else none
theorem t_begin_c {e_0 : List Nd} {i_1 : Int} {begins_2 : List Int} {c0 c2 : Ck} {r : Int} (h : t_begin e_0 i_1 begins_2 = some r) : PCall Tryz.prog 49 [(.isl (e_0.map Nd.cells) c0), (.int .i64 i_1), (.isl (begins_2.map intL) c2)] (.int .i64 r) := by
  refine PCall.lw (.isl (.same (.isl .nil))) (PCall.of_empty (PuL.mem (.cons (pu_sl Nd.pu _) (.cons (.int _ _) (.cons (pu_sl pu_intL _) .nil)))) (MCall_of_W ok49 (by simp) (W_start ?_)) (.int _ _)); unfold t_begin at h; unfold ac49; obtain ⟨e1, h⟩ := if_E h; obtain ⟨x2, e3, h⟩ := bind_E h; rcases cond_E h with ⟨e4, h⟩ | ⟨e4, h⟩
  ·obtain rfl := som_E h; try refine gos_ ?_
   exact (.pure _ (.int _ _))
  ·obtain ⟨x5, e6, h⟩ := bind_E h; obtain ⟨e7, h⟩ := if_E h; obtain ⟨x8, e9, h⟩ := bind_E h; obtain rfl := som_E h; try refine gos_ ?_
   exact (.pure _ (.int _ _))
def t_shapeOf_1 (names_0 : Int) (operands_1 : Int) : Option Shape :=
  some (Shape.mk (names_0, names_0) (operands_1, operands_1) false false)
theorem t_shapeOf_1_c {names_0 : Int} {operands_1 : Int} {r : Shape} (h : t_shapeOf_1 names_0 operands_1 = some r) : PCall Tryz.prog 140 [(.int .i64 names_0), (.int .i64 operands_1)] (.agg (Shape.cells r)) := by
  refine PCall.of_empty (PuL.mem (.cons (.int _ _) (.cons (.int _ _) .nil))) (MCall_of_W ok140 (by simp) (W_start ?_)) (.agg _ (Shape.pu _)); unfold t_shapeOf_1 at h; unfold ac140; obtain rfl := som_E h; try refine gos_ ?_
  exact (fz_agg (.cons (.pure _ (.int _ _)) (.cons (.pure _ (.int _ _)) (.cons (.pure _ (.int _ _)) (.cons (.pure _ (.int _ _)) (.cons (.pure _ (.bool _)) (.cons (.pure _ (.bool _)) .nil)))))))
def g_Index_int_int_b0 : Nat -> (List Int) -> Int -> Int -> Int -> Option (Unit ⊕ Int)
  | 0, _, _, _, _ => none
  | k + 1, s_0, v_1, t_7, t_8 =>
    cond (decide (t_8 < t_7)) (if 0 <= t_8 then Option.bind (s_0[t_8.toNat]?) fun x3 => cond (v_1 == x3) (some (.inr (t_8))) (g_Index_int_int_b0 k s_0 v_1 t_7 (IntKind.wrap .i64 (t_8 + 1))) else none) (some (.inl ()))
def g_Index_int_int_b0l : List Nat := [4, 5, 8, 9, 10, 11, 12, 13, 14, 15, 16, 17, 18]
theorem g_Index_int_int_b0_W : ∀ (k : Nat) (s_0 : List Int) (v_1 : Int) (t_7 : Int) (t_8 : Int) (σ0 σ : Nat -> PV) (H : AH) (f0 : Fr g_Index_int_int_b0l σ0 σ) (sl : σ 0 = (.isl (s_0.map intL) .unk) /\ σ 1 = (.int .i64 v_1) /\ σ 7 = (.int .i64 t_7) /\ σ 8 = (.int .i64 t_8)) (o : Unit ⊕ Int) (h : g_Index_int_int_b0 k s_0 v_1 t_7 t_8 = some o) (Q : Post) (q0 : ∀ (p : Unit) (σ' : Nat -> PV), o = .inl p -> Fr g_Index_int_int_b0l σ0 σ' -> Q (.exit 0) σ' H) (q1 : ∀ (p : Int) (σ' : Nat -> PV), o = .inr (p) -> Fr g_Index_int_int_b0l σ0 σ' -> (σ' 4 = (.int .i64 p)) -> Q .ret σ' H) , W Tryz.prog (.loop ac190_b0) Q σ H := by
  intro k
  induction k with
  | zero => intro s_0 v_1 t_7 t_8 σ0 σ H f0 sl o h Q q0 q1; simp only [g_Index_int_int_b0, reduceCtorEq] at h
  | succ k ih =>
    intro s_0 v_1 t_7 t_8 σ0 σ H f0 sl o h Q q0 q1; obtain ⟨s0, s1, s7, s8⟩ := sl; unfold g_Index_int_int_b0 at h; refine W_loopK (fun K hK => W_start ?_); unfold ac190_b0; rcases cond_E h with ⟨e1, h⟩ | ⟨e1, h⟩
    ·obtain ⟨e2, h⟩ := if_E h; obtain ⟨x3, e4, h⟩ := bind_E h; rcases cond_E h with ⟨e5, h⟩ | ⟨e5, h⟩
     ·obtain rfl := som_E h; try refine gos_ ?_
      exact q1 _ _ rfl fr_ sls_
     ·try refine gos_ ?_
      refine hK _ _ ?_; exact ih s_0 v_1 t_7 (IntKind.wrap .i64 (t_8 + 1)) _ _ _ fr_ sls_ _ h _ q0 q1
    ·obtain rfl := som_E h; try refine gos_ ?_
     exact q0 _ _ rfl fr_
def g_Index_int_int (k : Nat) (s_0 : List Int) (v_1 : Int) : Option Int :=
  Option.bind (g_Index_int_int_b0 k s_0 v_1 (s_0.length : Int) 0) (fun o => Sum.elim (fun p8 => some (-1)) (fun p12 => some p12) o)
theorem g_Index_int_int_c {k : Nat} {s_0 : List Int} {v_1 : Int} {c0 : Ck} {r : Int} (h : g_Index_int_int k s_0 v_1 = some r) : PCall Tryz.prog 190 [(.isl (s_0.map intL) c0), (.int .i64 v_1)] (.int .i64 r) := by
  refine PCall.lw (.isl (.same .nil)) (PCall.of_empty (PuL.mem (.cons (pu_sl pu_intL _) (.cons (.int _ _) .nil))) (MCall_of_W ok190 (by simp) (W_start ?_)) (.int _ _)); unfold g_Index_int_int at h; unfold ac190; try refine gos_ ?_
  obtain ⟨o6, h7, h⟩ := bind_E h; refine g_Index_int_int_b0_W k s_0 v_1 (s_0.length : Int) 0 _ _ _ (Fr.refl _ _) sls_ _ h7 _ ?_ ?_
  ·rintro p8 σ' eo fr9; subst eo; rw [sum_L] at h; obtain rfl := som_E h; try refine gos_ ?_
   exact (.pure _ (.int _ _))
  ·rintro p12 σ' eo fr13 s16; subst eo; rw [sum_R] at h; obtain rfl := som_E h; try refine gos_ ?_
   exact (.pure _ (.int _ _))
def g_Contains_int_int (k : Nat) (s_0 : List Int) (v_1 : Int) : Option Bool :=
  Option.bind (g_Index_int_int k s_0 v_1) fun p2 => some (decide (p2 >= 0))
theorem g_Contains_int_int_c {k : Nat} {s_0 : List Int} {v_1 : Int} {c0 : Ck} {r : Bool} (h : g_Contains_int_int k s_0 v_1 = some r) : PCall Tryz.prog 149 [(.isl (s_0.map intL) c0), (.int .i64 v_1)] (.bool r) := by
  refine PCall.lw (.isl (.same .nil)) (PCall.of_empty (PuL.mem (.cons (pu_sl pu_intL _) (.cons (.int _ _) .nil))) (MCall_of_W ok149 (by simp) (W_start ?_)) (.bool _)); unfold g_Contains_int_int at h; unfold ac149; obtain ⟨p2, e1, h⟩ := bind_E h; try refine gos_ ?_
  refine mcall_pure (g_Index_int_int_c e1) ?_; obtain rfl := som_E h; try refine gos_ ?_
  exact (.pure _ (.bool _))
def t_isOpen (k : Nat) (kind_0 : Int) : Option Bool :=
  Option.bind (g_Contains_int_int k [8, 9, 10, 11, 12, 21, 22, 23, 24] kind_0) fun p2 => some p2
theorem t_isOpen_c {k : Nat} {kind_0 : Int} {r : Bool} (h : t_isOpen k kind_0 = some r) : PCall Tryz.prog 98 [(.int .i64 kind_0)] (.bool r) := by
  refine PCall.of_empty (PuL.mem (.cons (.int _ _) .nil)) (MCall_of_W ok98 (by simp) (W_start ?_)) (.bool _); unfold t_isOpen at h; unfold ac98; obtain ⟨p2, e1, h⟩ := bind_E h; try refine gos_ ?_
  refine mcall_pure (g_Contains_int_int_c e1) ?_; obtain rfl := som_E h; try refine gos_ ?_
  exact (.pure _ (.bool _))
def b_EqualTexts_b0 : Nat -> (List Str) -> (List Str) -> Int -> Option (Unit ⊕ Bool)
  | 0, _, _, _ => none
  | k + 1, a_0, b_1, i_5 =>
    cond (decide (i_5 < (a_0.length : Int))) (if 0 <= i_5 then Option.bind (a_0[i_5.toNat]?) fun x4 => Option.bind (b_1[i_5.toNat]?) fun x6 => cond (x4 == x6) (b_EqualTexts_b0 k a_0 b_1 (IntKind.wrap .i64 (i_5 + 1))) (some (.inr (false))) else none) (some (.inl ()))
def b_EqualTexts_b0l : List Nat := [4, 5, 11, 12, 13, 14, 15, 16, 17, 18, 19, 20, 21, 22, 23, 24, 25]
theorem b_EqualTexts_b0_W : ∀ (k : Nat) (a_0 : List Str) (b_1 : List Str) (i_5 : Int) (σ0 σ : Nat -> PV) (H : AH) (f0 : Fr b_EqualTexts_b0l σ0 σ) (sl : σ 0 = (.isl (a_0.map strL) .unk) /\ σ 1 = (.isl (b_1.map strL) .unk) /\ σ 5 = (.int .i64 i_5)) (o : Unit ⊕ Bool) (h : b_EqualTexts_b0 k a_0 b_1 i_5 = some o) (Q : Post) (q0 : ∀ (p : Unit) (σ' : Nat -> PV), o = .inl p -> Fr b_EqualTexts_b0l σ0 σ' -> Q (.exit 0) σ' H) (q1 : ∀ (p : Bool) (σ' : Nat -> PV), o = .inr (p) -> Fr b_EqualTexts_b0l σ0 σ' -> (σ' 4 = (.bool p)) -> Q .ret σ' H) , W Tryz.prog (.loop ac29_b0) Q σ H := by
  intro k
  induction k with
  | zero => intro a_0 b_1 i_5 σ0 σ H f0 sl o h Q q0 q1; simp only [b_EqualTexts_b0, reduceCtorEq] at h
  | succ k ih =>
    intro a_0 b_1 i_5 σ0 σ H f0 sl o h Q q0 q1; obtain ⟨s0, s1, s5⟩ := sl; unfold b_EqualTexts_b0 at h; refine W_loopK (fun K hK => W_start ?_); unfold ac29_b0; rcases cond_E h with ⟨e2, h⟩ | ⟨e2, h⟩
    ·try refine gos_ ?_
     refine WS_parS ?_; obtain ⟨e3, h⟩ := if_E h; obtain ⟨x4, e5, h⟩ := bind_E h; obtain ⟨x6, e7, h⟩ := bind_E h; rcases cond_E h with ⟨e8, h⟩ | ⟨e8, h⟩
     ·try refine gos_ ?_
      refine hK _ _ ?_; exact ih a_0 b_1 (IntKind.wrap .i64 (i_5 + 1)) _ _ _ fr_ sls_ _ h _ q0 q1
     ·obtain rfl := som_E h; try refine gos_ ?_
      exact q1 _ _ rfl fr_ sls_
    ·obtain rfl := som_E h; try refine gos_ ?_
     exact q0 _ _ rfl fr_
def b_EqualTexts (k : Nat) (a_0 : List Str) (b_1 : List Str) : Option Bool :=
  cond ((a_0.length : Int) != (b_1.length : Int)) (some false) (Option.bind (b_EqualTexts_b0 k a_0 b_1 0) (fun o => Sum.elim (fun p11 => some true) (fun p15 => some p15) o))
theorem b_EqualTexts_c {k : Nat} {a_0 : List Str} {b_1 : List Str} {c0 c1 : Ck} {r : Bool} (h : b_EqualTexts k a_0 b_1 = some r) : PCall Tryz.prog 29 [(.isl (a_0.map strL) c0), (.isl (b_1.map strL) c1)] (.bool r) := by
  refine PCall.lw (.isl (.isl .nil)) (PCall.of_empty (PuL.mem (.cons (pu_sl pu_strL _) (.cons (pu_sl pu_strL _) .nil))) (MCall_of_W ok29 (by simp) (W_start ?_)) (.bool _)); unfold b_EqualTexts at h; unfold ac29; rcases cond_E h with ⟨e1, h⟩ | ⟨e1, h⟩
  ·obtain rfl := som_E h; try refine gos_ ?_
   exact (.pure _ (.bool _))
  ·try refine gos_ ?_
   obtain ⟨o9, h10, h⟩ := bind_E h; refine b_EqualTexts_b0_W k a_0 b_1 0 _ _ _ (Fr.refl _ _) sls_ _ h10 _ ?_ ?_
   ·rintro p11 σ' eo fr12; subst eo; rw [sum_L] at h; obtain rfl := som_E h; try refine gos_ ?_
    exact (.pure _ (.bool _))
   ·rintro p15 σ' eo fr16 s19; subst eo; rw [sum_R] at h; obtain rfl := som_E h; try refine gos_ ?_
    exact (.pure _ (.bool _))
def b_EqualInts_b0 : Nat -> (List Int) -> (List Int) -> Int -> Option (Unit ⊕ Bool)
  | 0, _, _, _ => none
  | k + 1, a_0, b_1, i_5 =>
    cond (decide (i_5 < (a_0.length : Int))) (if 0 <= i_5 then Option.bind (a_0[i_5.toNat]?) fun x4 => Option.bind (b_1[i_5.toNat]?) fun x6 => cond (x4 != x6) (some (.inr (false))) (b_EqualInts_b0 k a_0 b_1 (IntKind.wrap .i64 (i_5 + 1))) else none) (some (.inl ()))
def b_EqualInts_b0l : List Nat := [4, 5, 11, 12, 13, 14, 15, 16, 17, 18, 19, 20, 21, 22, 23, 24, 25]
theorem b_EqualInts_b0_W : ∀ (k : Nat) (a_0 : List Int) (b_1 : List Int) (i_5 : Int) (σ0 σ : Nat -> PV) (H : AH) (f0 : Fr b_EqualInts_b0l σ0 σ) (sl : σ 0 = (.isl (a_0.map intL) .unk) /\ σ 1 = (.isl (b_1.map intL) .unk) /\ σ 5 = (.int .i64 i_5)) (o : Unit ⊕ Bool) (h : b_EqualInts_b0 k a_0 b_1 i_5 = some o) (Q : Post) (q0 : ∀ (p : Unit) (σ' : Nat -> PV), o = .inl p -> Fr b_EqualInts_b0l σ0 σ' -> Q (.exit 0) σ' H) (q1 : ∀ (p : Bool) (σ' : Nat -> PV), o = .inr (p) -> Fr b_EqualInts_b0l σ0 σ' -> (σ' 4 = (.bool p)) -> Q .ret σ' H) , W Tryz.prog (.loop ac110_b0) Q σ H := by
  intro k
  induction k with
  | zero => intro a_0 b_1 i_5 σ0 σ H f0 sl o h Q q0 q1; simp only [b_EqualInts_b0, reduceCtorEq] at h
  | succ k ih =>
    intro a_0 b_1 i_5 σ0 σ H f0 sl o h Q q0 q1; obtain ⟨s0, s1, s5⟩ := sl; unfold b_EqualInts_b0 at h; refine W_loopK (fun K hK => W_start ?_); unfold ac110_b0; rcases cond_E h with ⟨e2, h⟩ | ⟨e2, h⟩
    ·try refine gos_ ?_
     refine WS_parS ?_; obtain ⟨e3, h⟩ := if_E h; obtain ⟨x4, e5, h⟩ := bind_E h; obtain ⟨x6, e7, h⟩ := bind_E h; rcases cond_E h with ⟨e8, h⟩ | ⟨e8, h⟩
     ·obtain rfl := som_E h; try refine gos_ ?_
      exact q1 _ _ rfl fr_ sls_
     ·try refine gos_ ?_
      refine hK _ _ ?_; exact ih a_0 b_1 (IntKind.wrap .i64 (i_5 + 1)) _ _ _ fr_ sls_ _ h _ q0 q1
    ·obtain rfl := som_E h; try refine gos_ ?_
     exact q0 _ _ rfl fr_
def b_EqualInts (k : Nat) (a_0 : List Int) (b_1 : List Int) : Option Bool :=
  cond ((a_0.length : Int) != (b_1.length : Int)) (some false) (Option.bind (b_EqualInts_b0 k a_0 b_1 0) (fun o => Sum.elim (fun p11 => some true) (fun p15 => some p15) o))
theorem b_EqualInts_c {k : Nat} {a_0 : List Int} {b_1 : List Int} {c0 c1 : Ck} {r : Bool} (h : b_EqualInts k a_0 b_1 = some r) : PCall Tryz.prog 110 [(.isl (a_0.map intL) c0), (.isl (b_1.map intL) c1)] (.bool r) := by
  refine PCall.lw (.isl (.isl .nil)) (PCall.of_empty (PuL.mem (.cons (pu_sl pu_intL _) (.cons (pu_sl pu_intL _) .nil))) (MCall_of_W ok110 (by simp) (W_start ?_)) (.bool _)); unfold b_EqualInts at h; unfold ac110; rcases cond_E h with ⟨e1, h⟩ | ⟨e1, h⟩
  ·obtain rfl := som_E h; try refine gos_ ?_
   exact (.pure _ (.bool _))
  ·try refine gos_ ?_
   obtain ⟨o9, h10, h⟩ := bind_E h; refine b_EqualInts_b0_W k a_0 b_1 0 _ _ _ (Fr.refl _ _) sls_ _ h10 _ ?_ ?_
   ·rintro p11 σ' eo fr12; subst eo; rw [sum_L] at h; obtain rfl := som_E h; try refine gos_ ?_
    exact (.pure _ (.bool _))
   ·rintro p15 σ' eo fr16 s19; subst eo; rw [sum_R] at h; obtain rfl := som_E h; try refine gos_ ?_
    exact (.pure _ (.bool _))
def b_SameNode (k : Nat) (a_0 : Nd) (b_1 : Nd) : Option Bool :=
  cond (a_0.kind == b_1.kind) (cond (a_0.n == b_1.n) (cond (a_0.text == b_1.text) (Option.bind (b_EqualTexts k a_0.names b_1.names) fun p5 => cond p5 (Option.bind (b_EqualInts k a_0.args b_1.args) fun p8 => some p8) (some false)) (some false)) (some false)) (some false)
theorem b_SameNode_c {k : Nat} {a_0 : Nd} {b_1 : Nd} {r : Bool} (h : b_SameNode k a_0 b_1 = some r) : PCall Tryz.prog 61 [(.agg (Nd.cells a_0)), (.agg (Nd.cells b_1))] (.bool r) := by
  refine PCall.of_empty (PuL.mem (.cons (.agg _ (Nd.pu _)) (.cons (.agg _ (Nd.pu _)) .nil))) (MCall_of_W ok61 (by simp) (W_start ?_)) (.bool _); unfold b_SameNode at h; unfold ac61; rcases cond_E h with ⟨e1, h⟩ | ⟨e1, h⟩
  ·rcases cond_E h with ⟨e2, h⟩ | ⟨e2, h⟩
   ·rcases cond_E h with ⟨e3, h⟩ | ⟨e3, h⟩
    ·obtain ⟨p5, e4, h⟩ := bind_E h; try refine gos_ ?_
     refine mcall_pure (b_EqualTexts_c e4) ?_; rcases cond_E h with ⟨e6, h⟩ | ⟨e6, h⟩
     ·obtain ⟨p8, e7, h⟩ := bind_E h; try refine gos_ ?_
      refine mcall_pure (b_EqualInts_c e7) ?_; obtain rfl := som_E h; try refine gos_ ?_
      exact (.pure _ (.bool _))
     ·obtain rfl := som_E h; try refine gos_ ?_
      exact (.pure _ (.bool _))
    ·obtain rfl := som_E h; try refine gos_ ?_
     exact (.pure _ (.bool _))
   ·obtain rfl := som_E h; try refine gos_ ?_
    exact (.pure _ (.bool _))
  ·obtain rfl := som_E h; try refine gos_ ?_
   exact (.pure _ (.bool _))
def b_SameExpr_b0 : Nat -> (List Nd) -> (List Nd) -> Int -> Option (Unit ⊕ Bool)
  | 0, _, _, _ => none
  | k + 1, a_0, b_1, i_5 =>
    cond (decide (i_5 < (a_0.length : Int))) (if 0 <= i_5 then Option.bind (a_0[i_5.toNat]?) fun x4 => Option.bind (b_1[i_5.toNat]?) fun x6 => Option.bind (b_SameNode k x4 x6) fun p9 => cond p9 (b_SameExpr_b0 k a_0 b_1 (IntKind.wrap .i64 (i_5 + 1))) (some (.inr (false))) else none) (some (.inl ()))
def b_SameExpr_b0l : List Nat := [4, 5, 11, 12, 13, 14, 15, 16, 17, 18, 19, 20, 21, 22, 23, 24, 25, 26]
theorem b_SameExpr_b0_W : ∀ (k : Nat) (a_0 : List Nd) (b_1 : List Nd) (i_5 : Int) (σ0 σ : Nat -> PV) (H : AH) (f0 : Fr b_SameExpr_b0l σ0 σ) (sl : σ 0 = (.isl (a_0.map Nd.cells) .unk) /\ σ 1 = (.isl (b_1.map Nd.cells) .unk) /\ σ 5 = (.int .i64 i_5)) (o : Unit ⊕ Bool) (h : b_SameExpr_b0 k a_0 b_1 i_5 = some o) (Q : Post) (q0 : ∀ (p : Unit) (σ' : Nat -> PV), o = .inl p -> Fr b_SameExpr_b0l σ0 σ' -> Q (.exit 0) σ' H) (q1 : ∀ (p : Bool) (σ' : Nat -> PV), o = .inr (p) -> Fr b_SameExpr_b0l σ0 σ' -> (σ' 4 = (.bool p)) -> Q .ret σ' H) , W Tryz.prog (.loop ac20_b0) Q σ H := by
  intro k
  induction k with
  | zero => intro a_0 b_1 i_5 σ0 σ H f0 sl o h Q q0 q1; simp only [b_SameExpr_b0, reduceCtorEq] at h
  | succ k ih =>
    intro a_0 b_1 i_5 σ0 σ H f0 sl o h Q q0 q1; obtain ⟨s0, s1, s5⟩ := sl; unfold b_SameExpr_b0 at h; refine W_loopK (fun K hK => W_start ?_); unfold ac20_b0; rcases cond_E h with ⟨e2, h⟩ | ⟨e2, h⟩
    ·try refine gos_ ?_
     refine WS_parS ?_; obtain ⟨e3, h⟩ := if_E h; obtain ⟨x4, e5, h⟩ := bind_E h; obtain ⟨x6, e7, h⟩ := bind_E h; obtain ⟨p9, e8, h⟩ := bind_E h; try refine gos_ ?_
     refine mcall_pure (b_SameNode_c e8) ?_; rcases cond_E h with ⟨e10, h⟩ | ⟨e10, h⟩
     ·try refine gos_ ?_
      refine hK _ _ ?_; exact ih a_0 b_1 (IntKind.wrap .i64 (i_5 + 1)) _ _ _ fr_ sls_ _ h _ q0 q1
     ·obtain rfl := som_E h; try refine gos_ ?_
      exact q1 _ _ rfl fr_ sls_
    ·obtain rfl := som_E h; try refine gos_ ?_
     exact q0 _ _ rfl fr_
def b_SameExpr (k : Nat) (a_0 : List Nd) (b_1 : List Nd) : Option Bool :=
  cond ((a_0.length : Int) != (b_1.length : Int)) (some false) (Option.bind (b_SameExpr_b0 k a_0 b_1 0) (fun o => Sum.elim (fun p13 => some true) (fun p17 => some p17) o))
theorem b_SameExpr_c {k : Nat} {a_0 : List Nd} {b_1 : List Nd} {c0 c1 : Ck} {r : Bool} (h : b_SameExpr k a_0 b_1 = some r) : PCall Tryz.prog 20 [(.isl (a_0.map Nd.cells) c0), (.isl (b_1.map Nd.cells) c1)] (.bool r) := by
  refine PCall.lw (.isl (.isl .nil)) (PCall.of_empty (PuL.mem (.cons (pu_sl Nd.pu _) (.cons (pu_sl Nd.pu _) .nil))) (MCall_of_W ok20 (by simp) (W_start ?_)) (.bool _)); unfold b_SameExpr at h; unfold ac20; rcases cond_E h with ⟨e1, h⟩ | ⟨e1, h⟩
  ·obtain rfl := som_E h; try refine gos_ ?_
   exact (.pure _ (.bool _))
  ·try refine gos_ ?_
   obtain ⟨o11, h12, h⟩ := bind_E h; refine b_SameExpr_b0_W k a_0 b_1 0 _ _ _ (Fr.refl _ _) sls_ _ h12 _ ?_ ?_
   ·rintro p13 σ' eo fr14; subst eo; rw [sum_L] at h; obtain rfl := som_E h; try refine gos_ ?_
    exact (.pure _ (.bool _))
   ·rintro p17 σ' eo fr18 s21; subst eo; rw [sum_R] at h; obtain rfl := som_E h; try refine gos_ ?_
    exact (.pure _ (.bool _))
def r_Binds_j0 (t_6 : Int) : Option Bool :=
  cond (t_6 == 6) (some ((t_6 == 6))) (cond (t_6 == 12) (some ((t_6 == 12))) (cond (t_6 == 7) (some ((t_6 == 7))) (cond (t_6 == 8) (some ((t_6 == 8))) (cond (t_6 == 9) (some ((t_6 == 9))) (cond (t_6 == 13) (some ((t_6 == 13))) (cond (t_6 == 10) (some ((t_6 == 10))) (cond (t_6 == 11) (some ((t_6 == 11))) (some ((t_6 == 24))))))))))
def r_Binds (n_0 : Nd) (place_1 : Int) : Option (List Str) :=
  Option.bind (r_Binds_j0 n_0.kind) (fun p11 => cond p11 (cond (place_1 == (IntKind.wrap .i64 ((n_0.args.length : Int) - 1))) (some n_0.names) (some [])) (cond (n_0.kind == 23) (cond (place_1 == 1) (if 1 <= n_0.names.length then some (n_0.names.take 1) else none) (cond (n_0.n == 1) (some n_0.names) (if 1 <= n_0.names.length then some (n_0.names.drop 1) else none))) (some [])))
def t_binds_j0 (t_13 : Int) : Option Bool :=
  cond (t_13 == 6) (some ((t_13 == 6))) (cond (t_13 == 12) (some ((t_13 == 12))) (cond (t_13 == 7) (some ((t_13 == 7))) (cond (t_13 == 8) (some ((t_13 == 8))) (cond (t_13 == 9) (some ((t_13 == 9))) (cond (t_13 == 13) (some ((t_13 == 13))) (cond (t_13 == 10) (some ((t_13 == 10))) (cond (t_13 == 11) (some ((t_13 == 11))) (some ((t_13 == 24))))))))))
def t_binds_j0l : List Nat := [14, 15, 16, 17, 18, 19, 20, 21, 22, 23]
theorem t_binds_j0_W : ∀ (t_13 : Int) (σ0 σ : Nat -> PV) (H : AH) (f0 : Fr t_binds_j0l σ0 σ) (sl : σ 13 = (.int .i64 t_13)) (o : Bool) (h : t_binds_j0 t_13 = some o) (Q : Post) (q0 : ∀ (p : Bool) (σ' : Nat -> PV), o = p -> Fr t_binds_j0l σ0 σ' -> (σ' 14 = (.bool p)) -> Q .normal σ' H) , W Tryz.prog ac121_j0 Q σ H := by
  intro t_13 σ0 σ H f0 sl o h Q q0; have s13 := sl; unfold t_binds_j0 at h; refine W_start ?_; unfold ac121_j0; rcases cond_E h with ⟨e1, h⟩ | ⟨e1, h⟩
  ·obtain rfl := som_E h; try refine gos_ ?_
   exact q0 _ _ rfl fr_ sls_
  ·rcases cond_E h with ⟨e2, h⟩ | ⟨e2, h⟩
   ·obtain rfl := som_E h; try refine gos_ ?_
    exact q0 _ _ rfl fr_ sls_
   ·rcases cond_E h with ⟨e3, h⟩ | ⟨e3, h⟩
    ·obtain rfl := som_E h; try refine gos_ ?_
     exact q0 _ _ rfl fr_ sls_
    ·rcases cond_E h with ⟨e4, h⟩ | ⟨e4, h⟩
     ·obtain rfl := som_E h; try refine gos_ ?_
      exact q0 _ _ rfl fr_ sls_
     ·rcases cond_E h with ⟨e5, h⟩ | ⟨e5, h⟩
      ·obtain rfl := som_E h; try refine gos_ ?_
       exact q0 _ _ rfl fr_ sls_
      ·rcases cond_E h with ⟨e6, h⟩ | ⟨e6, h⟩
       ·obtain rfl := som_E h; try refine gos_ ?_
        exact q0 _ _ rfl fr_ sls_
       ·rcases cond_E h with ⟨e7, h⟩ | ⟨e7, h⟩
        ·obtain rfl := som_E h; try refine gos_ ?_
         exact q0 _ _ rfl fr_ sls_
        ·rcases cond_E h with ⟨e8, h⟩ | ⟨e8, h⟩
         ·obtain rfl := som_E h; try refine gos_ ?_
          exact q0 _ _ rfl fr_ sls_
         ·obtain rfl := som_E h; try refine gos_ ?_
          exact q0 _ _ rfl fr_ sls_
def t_binds (n_0 : Nd) (place_1 : Int) : Option (List Str) :=
  Option.bind (t_binds_j0 n_0.kind) (fun p11 => cond p11 (cond (place_1 == (IntKind.wrap .i64 ((n_0.args.length : Int) - 1))) (some n_0.names) (some [])) (cond (n_0.kind == 23) (cond (place_1 == (IntKind.wrap .i64 ((n_0.args.length : Int) - 1))) (if 1 <= n_0.names.length then some (n_0.names.take 1) else none) (cond (n_0.n == 1) (some n_0.names) (if 1 <= n_0.names.length then some (n_0.names.drop 1) else none))) (some [])))
theorem t_binds_c {n_0 : Nd} {place_1 : Int} {r : List Str} (h : t_binds n_0 place_1 = some r) : PCall Tryz.prog 121 [(.agg (Nd.cells n_0)), (.int .i64 place_1)] (.isl (r.map strL) .unk) := by
  refine PCall.of_empty (PuL.mem (.cons (.agg _ (Nd.pu _)) (.cons (.int _ _) .nil))) (MCall_of_W ok121 (by simp) (W_start ?_)) (pu_sl pu_strL _); unfold t_binds at h; unfold ac121; try refine gos_ ?_
  obtain ⟨o9, h10, h⟩ := bind_E h; refine t_binds_j0_W n_0.kind _ _ _ (Fr.refl _ _) sls_ _ h10 _ ?_
  ·rintro p11 σ' eo fr12 s15; rw [eo] at h; have s16 : σ' 2 = (.ref (AH.empty.next) 0) := (fr12 2 (by decide)).trans sls_; have s17 : σ' 5 = (.bool (place_1 == (IntKind.wrap .i64 ((n_0.args.length : Int) - 1)))) := (fr12 5 (by decide)).trans sls_; have s18 : σ' 13 = (.int .i64 n_0.kind) := (fr12 13 (by decide)).trans sls_; rcases cond_E h with ⟨e19, h⟩ | ⟨e19, h⟩
   ·rcases cond_E h with ⟨e20, h⟩ | ⟨e20, h⟩
    ·obtain rfl := som_E h; try refine gos_ ?_
     exact (fz_sl pu_strL n_0.names _)
    ·obtain rfl := som_E h; try refine gos_ ?_
     exact (fz_sl pu_strL [] _)
   ·rcases cond_E h with ⟨e21, h⟩ | ⟨e21, h⟩
    ·rcases cond_E h with ⟨e22, h⟩ | ⟨e22, h⟩
     ·obtain ⟨e23, h⟩ := if_E h; obtain rfl := som_E h; try refine gos_ ?_
      exact (fz_sl pu_strL (n_0.names.take 1) _)
     ·rcases cond_E h with ⟨e24, h⟩ | ⟨e24, h⟩
      ·obtain rfl := som_E h; try refine gos_ ?_
       exact (fz_sl pu_strL n_0.names _)
      ·obtain ⟨e25, h⟩ := if_E h; obtain rfl := som_E h; try refine gos_ ?_
       exact (fz_sl pu_strL (n_0.names.drop 1) _)
    ·obtain rfl := som_E h; try refine gos_ ?_
     exact (fz_sl pu_strL [] _)
end Go.VL
end
section
namespace Go.VL
theorem down {p : Nat -> Prop} {len : Nat} (h0 : p len) (h1 : ∀ i, i < len -> p (i + 1) -> p i) : ∀ i, i <= len -> p i := by
  intro i hi; obtain ⟨n, rfl⟩ : ∃ n, len = i + n := ⟨len - i, by omega⟩
  induction n generalizing i with
  | zero => exact h0
  | succ n ih => exact h1 i (by omega) (ih (i + 1) (by rw [Nat.add_right_comm]; exact h0) (by rw [Nat.add_right_comm]; exact h1) (by omega))
theorem down0 {p : Nat -> Prop} {len : Nat} (h0 : p len) (h1 : ∀ i, i < len -> p (i + 1) -> p i) : p 0 := down h0 h1 0 (Nat.zero_le _)
theorem wsucc {i n : Nat} (hi : i < n) (hn : n <= 1099511627776) : IntKind.wrap .i64 ((i : Int) + 1) = ((i + 1 : Nat) : Int) := by rw [wrap64 (by omega) (by omega)]; omega
theorem dlt {i n : Nat} (h : i < n) : decide ((i : Int) < (n : Int)) = true := decide_eq_true (by omega)
theorem dnlt (n : Nat) : decide ((n : Int) < (n : Int)) = false := decide_eq_false (by omega)
theorem nn (i : Nat) : (0 : Int) <= (i : Int) := by omega
theorem b_One_eq (b : Bool) : b_One b = some (if b = true then 1 else 0) := by cases b <;> rfl
theorem b_Between_eq (n lo hi : Int) : b_Between n lo hi = some (decide (lo <= n /\ n <= hi)) := by
  unfold b_Between; by_cases h : lo <= n
  · simp [h, ge_iff_le]
  · simp [h, ge_iff_le]
theorem t_spans_eq (n lo hi : Int) : t_spans n lo hi = some (decide (lo <= n /\ n <= hi)) := by
  unfold t_spans; by_cases h : lo <= n
  · simp [h]
  · simp [h]
theorem t_wrong_eq (b : Bool) (c : Int) : t_wrong b c = some (if b = true then c else 0) := by cases b <;> rfl
theorem mem_drop {α : Type} {l : List α} {i : Nat} (h : i < l.length) {s : α} : s ∈ l.drop i ↔ l[i] = s \/ s ∈ l.drop (i + 1) := by
  rw [List.drop_eq_getElem_cons h, List.mem_cons]; exact or_congr_left eq_comm
theorem b_Contains_ev (l : List Str) (s : Str) (hl : l.length <= 1099511627776) : Ev (fun k => b_Contains k l s) (decide (s ∈ l)) := by
  have key : Ev (fun k => b_Contains_b0 k l s ((0 : Nat) : Int)) (if s ∈ l.drop 0 then .inr true else .inl ()) := by
    refine down0 (len := l.length) (p := fun i => Ev (fun k => b_Contains_b0 k l s (i : Int)) (if s ∈ l.drop i then .inr true else .inl ())) ?_ fun i hi ih => ?_
    · refine Ev.succ ?_; simp only [b_Contains_b0]; refine Ev.cF (dnlt _) (Ev.some' ?_); simp
    · refine Ev.succ ?_; simp only [b_Contains_b0, Int.toNat_natCast, getE hi, Option.bind_some, nn, if_true, dlt hi, cond_true, wsucc hi hl]; by_cases h : l[i] = s
      · refine Ev.cT (by rw [beq_iff_eq]; exact h) (Ev.some' ?_); rw [if_pos ((mem_drop hi).2 (.inl h))]
      · refine Ev.cF (by rw [beq_eq_false_iff_ne]; exact h) (ih.to ?_); simp only [mem_drop hi, h, false_or]
  unfold b_Contains; refine Ev.bind key ?_; rw [List.drop_zero]; by_cases h : s ∈ l
  · simp only [h, if_true, sum_R, decide_true]; exact Ev.some
  · simp only [h, if_false, sum_L, decide_false]; exact Ev.some
theorem g_Contains_ev (l : List Str) (s : Str) (hl : l.length <= 1099511627776) : Ev (fun k => g_Contains_string_string k l s) (decide (s ∈ l)) := by
  have key : ∃ o : Unit ⊕ Int, Ev (fun k => g_Index_string_string_b0 k l s (l.length : Int) ((0 : Nat) : Int)) o /\ ((o = .inl () /\ ¬ s ∈ l.drop 0) \/ (∃ j : Nat, o = .inr (j : Int)) /\ s ∈ l.drop 0) := by
    refine down0 (len := l.length) (p := fun i => ∃ o : Unit ⊕ Int, Ev (fun k => g_Index_string_string_b0 k l s (l.length : Int) (i : Int)) o /\ ((o = .inl () /\ ¬ s ∈ l.drop i) \/ (∃ j : Nat, o = .inr (j : Int)) /\ s ∈ l.drop i)) ?_ fun i hi ⟨o, ih, ho⟩ => ?_
    · refine ⟨.inl (), Ev.succ ?_, .inl ⟨rfl, by simp⟩⟩; simp only [g_Index_string_string_b0]; exact Ev.cF (dnlt _) Ev.some
    · by_cases h : l[i] = s
      · refine ⟨.inr (i : Int), Ev.succ ?_, .inr ⟨⟨i, rfl⟩, (mem_drop hi).2 (.inl h)⟩⟩; simp only [g_Index_string_string_b0, Int.toNat_natCast, getE hi, Option.bind_some, nn, if_true, dlt hi, cond_true, wsucc hi hl]; exact Ev.cT (by rw [beq_iff_eq]; exact h.symm) Ev.some
      · refine ⟨o, Ev.succ ?_, by simp only [mem_drop hi, h, false_or]; exact ho⟩; simp only [g_Index_string_string_b0, Int.toNat_natCast, getE hi, Option.bind_some, nn, if_true, dlt hi, cond_true, wsucc hi hl]; exact Ev.cF (by rw [beq_eq_false_iff_ne]; exact fun e => h e.symm) ih
  obtain ⟨o, h1, h2⟩ := key; rw [List.drop_zero] at h2; unfold g_Contains_string_string; rcases h2 with ⟨rfl, h2⟩ | ⟨⟨j, rfl⟩, h2⟩
  · refine Ev.bind (x := -1) (by unfold g_Index_string_string; exact Ev.bind h1 Ev.some) (Ev.some' ?_); simp [h2]
  · refine Ev.bind (x := (j : Int)) (by unfold g_Index_string_string; exact Ev.bind h1 Ev.some) (Ev.some' ?_); simp [h2]
theorem b_EqualTexts_ev (a b : List Str) (hl : a.length <= 1099511627776) : Ev (fun k => b_EqualTexts k a b) (decide (a = b)) := by
  unfold b_EqualTexts; by_cases hab : a.length = b.length
  · refine Ev.cF (by simp [hab]) ?_; have key : Ev (fun k => b_EqualTexts_b0 k a b ((0 : Nat) : Int)) (if a.drop 0 = b.drop 0 then .inl () else .inr false) := by
      refine down0 (len := a.length) (p := fun i => Ev (fun k => b_EqualTexts_b0 k a b (i : Int)) (if a.drop i = b.drop i then .inl () else .inr false)) ?_ fun i hi ih => ?_
      · refine Ev.succ ?_; simp only [b_EqualTexts_b0]; refine Ev.cF (dnlt _) (Ev.some' ?_); simp [hab]
      · have hi' : i < b.length := hab ▸ hi; refine Ev.succ ?_; simp only [b_EqualTexts_b0, Int.toNat_natCast, getE hi, getE hi', Option.bind_some, nn, if_true, dlt hi, cond_true, wsucc hi hl]; by_cases h : a[i] = b[i]
        · refine Ev.cT (by rw [beq_iff_eq]; exact h) (ih.to ?_); have : List.drop i a = a[i] :: List.drop (i + 1) a := List.drop_eq_getElem_cons hi; have : List.drop i b = b[i] :: List.drop (i + 1) b := List.drop_eq_getElem_cons hi'; simp only [*, List.cons.injEq, true_and]
        · refine Ev.cF (by rw [beq_eq_false_iff_ne]; exact h) (Ev.some' ?_); have e1 : List.drop i a = a[i] :: List.drop (i + 1) a := List.drop_eq_getElem_cons hi; have e2 : List.drop i b = b[i] :: List.drop (i + 1) b := List.drop_eq_getElem_cons hi'; rw [if_neg]; intro e; rw [e1, e2, List.cons.injEq] at e; exact h e.1
    refine Ev.bind key ?_; by_cases h : a = b
    · subst h; simp only [if_true, sum_L, decide_true]; exact Ev.some
    · simp only [List.drop_zero, h, if_false, sum_R, decide_false]; exact Ev.some
  · refine Ev.cT (by simp; omega) (Ev.some' ?_); exact (decide_eq_false fun e => hab (by rw [e])).symm
def opNone : Operator := Operator.mk [] 0 0 0 false 0 0
def opIn (l : List Operator) (t : Str) : Operator × Bool := match l with
  | [] => (opNone, false)
  | o :: l => if o.text = t then (o, true) else opIn l t
def opMk (x : Operator) : Operator := Operator.mk x.text x.fix x.low x.high x.left (if x.fix = 1 then 2 else 1) (if x.text = [92, 88] then 4 else if x.fix = 1 then 2 else 1)
theorem r_Table_b0_ev (add : List Operator) (hl : add.length <= 1000) : ∀ i, i <= add.length -> ∀ out : List Operator, out.length = i -> Ev (fun k => r_Table_b0 k out add (i : Int)) (out ++ (add.drop i).map opMk) := by
  refine down (p := fun i => ∀ out : List Operator, out.length = i -> Ev (fun k => r_Table_b0 k out add (i : Int)) (out ++ (add.drop i).map opMk)) ?_ fun i hi ih out ho => ?_
  · intro out ho; refine Ev.succ ?_; simp only [r_Table_b0]; refine Ev.cF (dnlt _) (Ev.some' ?_); simp
  · refine Ev.succ ?_; simp only [r_Table_b0, Int.toNat_natCast, getE hi, Option.bind_some, nn, if_true, dlt hi, cond_true, wsucc hi (by omega), b_One_eq]; have e1 : (out.length + 1) * 64 <= 1099511627776 := by omega
    have e2 : IntKind.wrap .i64 (1 + if (add[i].fix == 1) = true then 1 else 0) = if add[i].fix = 1 then 2 else 1 := by
      by_cases h : add[i].fix = 1
      · simp [h]; rfl
      · simp [h]; rfl
    simp only [if_pos e1, e2]; by_cases h : add[i].text = [92, 88]
    · refine Ev.cT (by rw [beq_iff_eq]; exact h) ((ih _ (by simp [ho])).to ?_); rw [List.drop_eq_getElem_cons hi, List.map_cons, List.append_assoc]; simp [opMk, h]
    · refine Ev.cF (by rw [beq_eq_false_iff_ne]; exact h) ((ih _ (by simp [ho])).to ?_); rw [List.drop_eq_getElem_cons hi, List.map_cons, List.append_assoc]; simp [opMk, h]
def tabR : List Operator := (r_Table 60).getD []
theorem r_Table_ev : Ev (fun k => r_Table k) tabR := by
  unfold r_Table; exact Ev.bind (r_Table_b0_ev _ (by simp) 0 (Nat.zero_le _) [] rfl) (Ev.some' (by kernel_rfl))
theorem r_OperatorOf_ev (t : Str) : Ev (fun k => r_OperatorOf k t) (opIn tabR t) := by
  have hlen : tabR.length ≤ 1099511627776 := by have : tabR.length = 42 := by kernel_rfl
                                                omega
  have key : ∀ (l : List Operator), l.length <= 1099511627776 -> Ev (fun k => r_OperatorOf_b0 k t ([] : Str) 0 0 0 false 0 0 l ((0 : Nat) : Int)) (match opIn (l.drop 0) t with | (o, true) => .inr (true, o.text, o.fix, o.low, o.high, o.left, o.least, o.most) | (_, false) => .inl (([] : Str), 0, 0, 0, false, 0, 0)) := by
    intro l hl; refine down0 (len := l.length) (p := fun i => Ev (fun k => r_OperatorOf_b0 k t ([] : Str) 0 0 0 false 0 0 l (i : Int)) (match opIn (l.drop i) t with | (o, true) => .inr (true, o.text, o.fix, o.low, o.high, o.left, o.least, o.most) | (_, false) => .inl (([] : Str), 0, 0, 0, false, 0, 0))) ?_ fun i hi ih => ?_
    · refine Ev.succ ?_; simp only [r_OperatorOf_b0]; refine Ev.cF (dnlt _) (Ev.some' ?_); simp [opIn]
    · refine Ev.succ ?_; simp only [r_OperatorOf_b0, Int.toNat_natCast, getE hi, Option.bind_some, nn, if_true, dlt hi, cond_true, wsucc hi hl]; have e1 : List.drop i l = l[i] :: List.drop (i + 1) l := List.drop_eq_getElem_cons hi; by_cases h : l[i].text = t
      · refine Ev.cT (by rw [beq_iff_eq]; exact h) (Ev.some' ?_); rw [e1, opIn, if_pos h]
      · refine Ev.cF (by rw [beq_eq_false_iff_ne]; exact h) (ih.to ?_); rw [e1, opIn, if_neg h]
  have hk := key tabR hlen; rw [List.drop_zero] at hk; unfold r_OperatorOf; refine Ev.bind r_Table_ev (Ev.bind hk ?_); have hno : ∀ l : List Operator, (opIn l t).2 = false -> (opIn l t).1 = opNone := by
    intro l
    induction l with
    | nil => intro _; rfl
    | cons o l ih =>
      intro h; rw [opIn] at h ⊢; by_cases e : o.text = t
      · rw [if_pos e] at h; cases h
      · rw [if_neg e] at h ⊢; exact ih h
  have := hno tabR; generalize opIn tabR t = r at this; obtain ⟨o, b⟩ := r; cases b with
  | true => simp only [sum_R]; exact Ev.some
  | false => simp only [sum_L]; exact Ev.some' (by rw [show o = opNone from this rfl]; rfl)
end Go.VL
end
section
namespace Go.VL
def isLet (c : UInt8) : Bool := decide (97 <= c.toNat /\ c.toNat <= 122) || decide (65 <= c.toNat /\ c.toNat <= 90)
def isDig (c : UInt8) : Bool := decide (48 <= c.toNat /\ c.toNat <= 57)
def chOk (c : UInt8) : Bool := isLet c || isDig c || decide (c.toNat = 95)
def rsv : List Str := b_Reserved.getD []
theorem b_Reserved_eq : b_Reserved = some rsv := rfl
theorem rsv_len : rsv.length = 50 := by kernel_rfl
def bName (s : Str) : Bool := decide (1 <= s.length /\ s.length <= 24) && !decide (s ∈ rsv) && s.all chOk && s.any isLet
def isFx (s : Str) : Bool := decide (s = [84, 82, 85, 69]) || decide (s = [70, 65, 76, 83, 69]) || decide (s = [66, 79, 79, 76, 69, 65, 78]) || decide (s = [83, 84, 82, 73, 78, 71])
def wfP (s : Str) : Bool := decide (s.take 3 = [87, 70, 95]) || decide (s.take 3 = [83, 70, 95])
def rName (s : Str) : Bool := bName s && !isFx s && !wfP s
def bang : Str -> Option (Str × Str)
  | [] => none
  | c :: s => if c = 33 then some ([], s) else (bang s).map fun p => (c :: p.1, p.2)
def rTerm (s : Str) : Bool := match bang s with
  | some (a, b) => rName a && rName b
  | none => rName s
theorem b_IsLetter_eq (c : UInt8) : b_IsLetter (c.toNat : Int) = some (isLet c) := by
  unfold b_IsLetter isLet; generalize c.toNat = n; by_cases h1 : 97 <= n <;> by_cases h2 : n <= 122 <;> by_cases h3 : 65 <= n <;> by_cases h4 : n <= 90 <;> simp [h1, h2, h3, h4, ge_iff_le, show ((97 : Int) <= n) = (97 <= n) by rw [eq_iff_iff]; omega, show ((n : Int) <= 122) = (n <= 122) by rw [eq_iff_iff]; omega, show ((65 : Int) <= n) = (65 <= n) by rw [eq_iff_iff]; omega, show ((n : Int) <= 90) = (n <= 90) by rw [eq_iff_iff]; omega]
theorem b_IsDigit_eq (c : UInt8) : b_IsDigit (c.toNat : Int) = some (isDig c) := by
  unfold b_IsDigit isDig; generalize c.toNat = n; by_cases h1 : 48 <= n <;> by_cases h2 : n <= 57 <;> simp [h1, h2, ge_iff_le, show ((48 : Int) <= n) = (48 <= n) by rw [eq_iff_iff]; omega, show ((n : Int) <= 57) = (n <= 57) by rw [eq_iff_iff]; omega]
theorem drop_cons {α : Type} {l : List α} {i : Nat} (h : i < l.length) : List.drop i l = l[i] :: List.drop (i + 1) l := List.drop_eq_getElem_cons h
theorem b_IsName_p1_eq (s : Str) (i : Nat) (h : i < s.length) (t : Bool) : b_IsName_p1 s (i : Int) t = some (t && !isDig s[i] && !decide (s[i].toNat = 95)) := by
  unfold b_IsName_p1; simp only [Int.toNat_natCast, getE h, Option.bind_some, nn, if_true, b_IsDigit_eq]; cases t
  · rfl
  · cases isDig s[i]
    · simp only [cond_true, cond_false, Bool.true_and, Bool.not_false]; congr 1
      by_cases e : s[i].toNat = 95
      · simp [e]
      · simp only [e, decide_false, Bool.not_false, bne_iff_ne, ne_eq]; omega
    · rfl
theorem b_IsName_ev (s : Str) : Ev (fun k => b_IsName k s) (bName s) := by
  unfold b_IsName b_IsName_j0; simp only [b_Between_eq, b_Reserved_eq, Option.bind_some]; by_cases h1 : 1 <= s.length /\ s.length <= 24
  · have e1 : (decide ((1 : Int) <= (s.length : Int) /\ (s.length : Int) <= 24)) = true := decide_eq_true (by omega); simp only [e1, cond_true]; by_cases h2 : s ∈ rsv
    · refine Ev.bind (x := .inr false) (Ev.bind (b_Contains_ev _ _ (by rw [rsv_len]; omega)) (Ev.cT (decide_eq_true h2) Ev.some)) ?_; simp only [sum_R]; exact Ev.some' (by simp [bName, h2])
    · refine Ev.bind (x := .inl ()) (Ev.bind (b_Contains_ev _ _ (by rw [rsv_len]; omega)) (Ev.cF (decide_eq_false h2) Ev.some)) ?_; simp only [sum_L]; have hb : s.length <= 1099511627776 := by omega
      have key : ∀ l : Bool, Ev (fun k => b_IsName_b0 k s l ((0 : Nat) : Int)) (if (s.drop 0).all chOk = true then .inl (l || (s.drop 0).any isLet) else .inr false) := by
        refine down0 (len := s.length) (p := fun i => ∀ l : Bool, Ev (fun k => b_IsName_b0 k s l (i : Int)) (if (s.drop i).all chOk = true then .inl (l || (s.drop i).any isLet) else .inr false)) ?_ fun i hi ih l => ?_
        · intro l; refine Ev.succ ?_; simp only [b_IsName_b0]; refine Ev.cF (dnlt _) (Ev.some' ?_); simp
        · refine Ev.succ ?_; simp only [b_IsName_b0, Int.toNat_natCast, getE hi, Option.bind_some, nn, if_true, dlt hi, cond_true, wsucc hi hb, b_IsLetter_eq, b_IsName_p1_eq s i hi]; rw [drop_cons hi]; simp only [List.all_cons, List.any_cons]; by_cases hc : chOk s[i] = true
          · refine Ev.cF ?_ ?_
            · unfold chOk at hc; revert hc; cases isLet s[i] <;> cases isDig s[i] <;> cases decide (s[i].toNat = 95) <;> simp
            · simp only [hc, Bool.true_and]; cases l
              · simp only [cond_false, Bool.false_or]; exact ih _
              · simp only [cond_true, Bool.true_or]; exact (ih true).to (by simp)
          · refine Ev.cT ?_ (Ev.some' ?_)
            · unfold chOk at hc; revert hc; cases isLet s[i] <;> cases isDig s[i] <;> cases decide (s[i].toNat = 95) <;> simp
            · simp [hc]
      refine Ev.bind (key false) ?_; rw [List.drop_zero]; by_cases h3 : s.all chOk = true
      · simp only [h3, if_true, sum_L]; exact Ev.some' (by simp [bName, h1, h2, h3])
      · simp only [h3, sum_R]; exact Ev.some' (by simp [bName, h3])
  · have e1 : (decide ((1 : Int) <= (s.length : Int) /\ (s.length : Int) <= 24)) = false := decide_eq_false (by omega); simp only [e1, cond_false, Option.bind_some, sum_R]; exact Ev.some' (by simp [bName, h1])
theorem beq_str (a b : Str) : (a == b) = decide (a = b) := by
  by_cases h : a = b
  · simp [h]
  · simp [h]
theorem r_IsFixed_eq (s : Str) : r_IsFixed s = some (isFx s) := by
  unfold r_IsFixed isFx; simp only [beq_str]; cases decide (s = [84, 82, 85, 69]) <;> cases decide (s = [70, 65, 76, 83, 69]) <;> cases decide (s = [66, 79, 79, 76, 69, 65, 78]) <;> rfl
theorem t_isFixed_eq (s : Str) : t_isFixed s = some (isFx s) := r_IsFixed_eq s
theorem r_IsName_ev (s : Str) : Ev (fun k => r_IsName k s) (rName s) := by
  unfold r_IsName; refine Ev.bind (b_IsName_ev s) ?_; simp only [r_IsFixed_eq, Option.bind_some, beq_str]; unfold rName; cases bName s
  · exact Ev.some
  · simp only [cond_true, Bool.true_and]; cases isFx s
    · simp only [cond_false, Bool.not_false, Bool.true_and]; by_cases h : 3 <= s.length
      · refine Ev.cT (decide_eq_true (by omega)) (Ev.ifp h ?_); unfold wfP; cases decide (s.take 3 = [87, 70, 95]) <;> exact Ev.some
      · refine Ev.cF (decide_eq_false (by omega)) (Ev.some' ?_); unfold wfP; have e1 : ¬ s.take 3 = [87, 70, 95] := fun e => h (by have := congrArg List.length e; rw [List.length_take] at this; simp at this; omega); have e2 : ¬ s.take 3 = [83, 70, 95] := fun e => h (by have := congrArg List.length e; rw [List.length_take] at this; simp at this; omega); simp [e1, e2]
    · exact Ev.some
theorem bang_drop (s : Str) (i : Nat) (h : i < s.length) : bang (s.drop i) = if s[i] = 33 then some ([], s.drop (i + 1)) else (bang (s.drop (i + 1))).map fun p => (s[i] :: p.1, p.2) := by
  rw [drop_cons h, bang]
theorem r_IsTerm_ev (s : Str) (hb : s.length <= 1099511627776) : Ev (fun k => r_IsTerm k s) (rTerm s) := by
  have key : ∃ o : Unit ⊕ Bool, Ev (fun k => r_IsTerm_b0 k s ((0 : Nat) : Int)) o /\ (match bang (s.drop 0) with | some (a, b) => o = .inr (rName (s.take 0 ++ a) && rName b) | none => o = .inl ()) := by
    refine down0 (len := s.length) (p := fun i => ∃ o : Unit ⊕ Bool, Ev (fun k => r_IsTerm_b0 k s (i : Int)) o /\ (match bang (s.drop i) with | some (a, b) => o = .inr (rName (s.take i ++ a) && rName b) | none => o = .inl ())) ?_ fun i hi ⟨o, ih, ho⟩ => ?_
    · refine ⟨.inl (), Ev.succ ?_, by simp [bang]⟩; simp only [r_IsTerm_b0]; exact Ev.cF (dnlt _) Ev.some
    · rw [bang_drop s i hi]; by_cases h : s[i] = 33
      · refine ⟨.inr (rName (s.take i) && rName (s.drop (i + 1))), Ev.succ ?_, by simp [h]⟩; simp only [r_IsTerm_b0, Int.toNat_natCast, getE hi, Option.bind_some, nn, if_true, dlt hi, cond_true, wsucc hi hb, true_and]; refine Ev.cT (by rw [h]; rfl) (Ev.ifp (by omega) (Ev.bind (r_IsName_ev _) ?_)); cases rName (s.take i)
        · exact Ev.some
        · simp only [cond_true, Bool.true_and]; exact Ev.ifp (by omega) (Ev.bind (r_IsName_ev _) Ev.some)
      · refine ⟨o, Ev.succ ?_, ?_⟩
        · simp only [r_IsTerm_b0, Int.toNat_natCast, getE hi, Option.bind_some, nn, if_true, dlt hi, cond_true, wsucc hi hb, true_and]; refine Ev.cF ?_ ih; rw [beq_eq_false_iff_ne]; intro e; refine h (UInt8.toNat_inj.1 ?_); show s[i].toNat = 33
          omega
        · rw [if_neg h]; revert ho; cases bang (s.drop (i + 1)) with
          | none => exact id
          | some p =>
            obtain ⟨a, b⟩ := p; simp only [Option.map_some]; rw [List.take_succ_eq_append_getElem hi, List.append_assoc]; exact id
  obtain ⟨o, h1, h2⟩ := key; unfold r_IsTerm; refine Ev.bind h1 ?_; unfold rTerm; rw [List.drop_zero] at h2; revert h2; cases bang s with
  | none => intro h2; subst h2; simp only [sum_L]; exact Ev.bind (r_IsName_ev s) Ev.some
  | some p =>
    obtain ⟨a, b⟩ := p; intro h2; simp only [List.take_zero, List.nil_append] at h2; subst h2; simp only [sum_R]; exact Ev.some
end Go.VL
end
section
namespace Go.VL
def inB (n lo hi : Int) : Bool := decide (lo <= n /\ n <= hi)
def plainC (c : UInt8) : Bool := decide (32 <= c.toNat /\ c.toNat <= 126) && !decide (c.toNat = 34) && !decide (c.toNat = 92)
def plainB (s : Str) : Bool := decide (s.length <= 40) && s.all plainC
theorem b_IsShown_ev (s : Str) (m : Int) (hm : m <= 1099511627776) : Ev (fun k => b_IsShown k s m) (decide ((s.length : Int) <= m) && s.all fun c => decide (32 <= c.toNat /\ c.toNat <= 126)) := by
  unfold b_IsShown; by_cases h : (s.length : Int) <= m
  · refine Ev.cF (decide_eq_false (by omega)) ?_; have hb : s.length <= 1099511627776 := by omega
    have key : Ev (fun k => b_IsShown_b0 k s ((0 : Nat) : Int)) (if (s.drop 0).all (fun c => decide (32 <= c.toNat /\ c.toNat <= 126)) = true then .inl () else .inr false) := by
      refine down0 (len := s.length) (p := fun i => Ev (fun k => b_IsShown_b0 k s (i : Int)) (if (s.drop i).all (fun c => decide (32 <= c.toNat /\ c.toNat <= 126)) = true then .inl () else .inr false)) ?_ fun i hi ih => ?_
      · refine Ev.succ ?_; simp only [b_IsShown_b0]; exact Ev.cF (dnlt _) (Ev.some' (by simp))
      · refine Ev.succ ?_; simp only [b_IsShown_b0, Int.toNat_natCast, getE hi, Option.bind_some, nn, if_true, dlt hi, cond_true, wsucc hi hb]; rw [drop_cons hi]; simp only [List.all_cons, Bool.and_eq_true, decide_eq_true_eq]; by_cases h1 : 32 <= s[i].toNat
        · refine Ev.cF (decide_eq_false (by omega)) ?_; by_cases h2 : s[i].toNat <= 126
          · refine Ev.cF (decide_eq_false (by omega)) (ih.to ?_); simp only [h1, h2, true_and]
          · refine Ev.cT (decide_eq_true (by omega)) (Ev.some' ?_); simp only [h1, h2, and_false, false_and, if_false]
        · refine Ev.cT (decide_eq_true (by omega)) (Ev.some' ?_); simp only [h1, false_and, if_false]
    refine Ev.bind key ?_; rw [List.drop_zero]; by_cases h3 : (s.all fun c => decide (32 <= c.toNat /\ c.toNat <= 126)) = true
    · simp only [h3, if_true, sum_L]; exact Ev.some' (by simp [h])
    · simp only [h3, if_false, sum_R]; exact Ev.some' (by simp)
  · refine Ev.cT (decide_eq_true (by omega)) (Ev.some' ?_); simp [h]
theorem r_plain_ev (s : Str) : Ev (fun k => r_plain k s) (plainB s) := by
  unfold r_plain; refine Ev.bind (b_IsShown_ev s 40 (by omega)) ?_; by_cases h0 : s.length <= 40
  · have h0' : (s.length : Int) <= 40 := by omega
    have hb : s.length <= 1099511627776 := by omega
    have key : Ev (fun k => r_plain_b0 k s ((0 : Nat) : Int)) (if (s.drop 0).all (fun c => !decide (c.toNat = 34) && !decide (c.toNat = 92)) = true then .inl () else .inr false) := by
      refine down0 (len := s.length) (p := fun i => Ev (fun k => r_plain_b0 k s (i : Int)) (if (s.drop i).all (fun c => !decide (c.toNat = 34) && !decide (c.toNat = 92)) = true then .inl () else .inr false)) ?_ fun i hi ih => ?_
      · refine Ev.succ ?_; simp only [r_plain_b0]; exact Ev.cF (dnlt _) (Ev.some' (by simp))
      · refine Ev.succ ?_; simp only [r_plain_b0, Int.toNat_natCast, getE hi, Option.bind_some, nn, if_true, dlt hi, cond_true, wsucc hi hb]; rw [drop_cons hi]; simp only [List.all_cons, Bool.and_eq_true, Bool.not_eq_true', decide_eq_false_iff_not]; by_cases h1 : s[i].toNat = 34
        · refine Ev.cT (by rw [h1]; rfl) (Ev.some' ?_); simp [h1]
        · refine Ev.cF (by rw [beq_eq_false_iff_ne]; omega) ?_; by_cases h2 : s[i].toNat = 92
          · refine Ev.cT (by rw [h2]; rfl) (Ev.some' ?_); simp [h2]
          · refine Ev.cF (by rw [beq_eq_false_iff_ne]; omega) (ih.to ?_); simp [h1, h2]
    have hsplit : plainB s = ((s.all fun c => decide (32 <= c.toNat /\ c.toNat <= 126)) && s.all fun c => !decide (c.toNat = 34) && !decide (c.toNat = 92)) := by
      unfold plainB; rw [decide_eq_true h0, Bool.true_and]
      induction s with
      | nil => rfl
      | cons c l ih =>
        have : ∀ a b c d : Bool, (a && b && (c && d)) = (a && c && (b && d)) := by decide
        have e1 : ∀ l : Str, l.all plainC = ((l.all fun c => decide (32 <= c.toNat /\ c.toNat <= 126)) && l.all fun c => !decide (c.toNat = 34) && !decide (c.toNat = 92)) := by
          intro l
          induction l with
          | nil => rfl
          | cons c l ih => simp only [List.all_cons, ih, plainC, Bool.and_assoc]; cases decide (32 <= c.toNat /\ c.toNat <= 126) <;> cases decide (c.toNat = 34) <;> cases decide (c.toNat = 92) <;> simp
        exact e1 _
    rw [hsplit]; simp only [decide_eq_true h0', Bool.true_and]; cases (s.all fun c => decide (32 <= c.toNat /\ c.toNat <= 126))
    · exact Ev.some
    · simp only [cond_true, Bool.true_and]; refine Ev.bind key ?_; rw [List.drop_zero]; cases h3 : (s.all fun c => !decide (c.toNat = 34) && !decide (c.toNat = 92))
      · simp only [Bool.false_eq_true, if_false, sum_R]; exact Ev.some
      · simp only [if_true, sum_L]; exact Ev.some
  · have h0' : ¬ (s.length : Int) <= 40 := by omega
    simp only [decide_eq_false h0', Bool.false_and, cond_false]; exact Ev.some' (by simp [plainB, h0])
def rShape (kind : Int) : (Int × Int × Int × Int) × Bool := (r_shape kind).getD ((0, 0, 0, 0), false)
theorem r_shape_eq (kind : Int) : r_shape kind = some (rShape kind) := by
  have : (r_shape kind).isSome = true := by
    unfold r_shape r_shape_j0 r_shape_j1 r_shape_j2 r_shape_j3 r_shape_j4 r_shape_j5 r_shape_j6
    repeat' first
      | rfl
      | (generalize (kind == _) = b; cases b <;> simp only [cond_true, cond_false, Option.bind_some])
  unfold rShape; cases h : r_shape kind with
  | none => rw [h] at this; cases this
  | some v => rfl
def shapeOk (n : Nd) : Bool :=
  let s := rShape n.kind
  let o := (opIn tabR n.text).2 && decide (n.kind = 3)
  let lo := if o = true then 0 else s.1.2.2.1
  let hi := if o = true then (n.args.length : Int) else s.1.2.2.2
  inB (n.names.length : Int) s.1.1 s.1.2.1 && inB ((n.args.length : Int) - (n.names.length : Int) * (if s.2 = true then 1 else 0)) lo hi
def cleanB (n : Nd) : Bool :=
  (decide (n.kind = 1) || decide (n.kind = 2) || decide (n.kind = 3) || decide (n.kind = 18) || decide (n.text = [])) &&
  (decide (n.kind = 0) || decide (n.kind = 23) || decide (n.n = 0)) && (!decide (n.kind = 23) || inB n.n 0 1) && (!decide (n.kind = 1) || plainB n.text)
def dupB : List Str -> List Str -> Bool
  | _, [] => false
  | acc, s :: l => decide (s ∈ acc) || dupB (acc ++ [s]) l
def nameErr (n : Nd) : Int :=
  if (n.names.all rName) = false then 7 else
  if n.kind = 2 then (if (rTerm n.text || isFx n.text) = true then 0 else 7) else
  if n.kind = 18 then (if rName n.text = true then 0 else 7) else
  if n.kind = 3 then (if ((opIn tabR n.text).2 || rTerm n.text) = true then (if ((opIn tabR n.text).2 && !inB (n.args.length : Int) (opIn tabR n.text).1.least (opIn tabR n.text).1.most) = true then 17 else 0) else 7) else 0
def nodeSpec (pl : Bool) (n : Nd) : Int :=
  if inB n.kind 0 28 = false then 4 else
  if shapeOk n = false then 6 else
  if (pl && cleanB n) = false then 5 else
  if (decide (n.kind = 0) && !inB n.n 0 10000) = true then 3 else
  if nameErr n ≠ 0 then nameErr n else
  if dupB [] n.names = true then 12 else 0
end Go.VL
end
section
namespace Go.VL
theorem r_names_ev (a b : Int) (c : Str) (l : List Str) (d : List Int) (hl : l.length <= 1099511627776) : Ev (fun k => r_nodeErr_b0 k a b c l d ((0 : Nat) : Int)) (if (l.drop 0).all rName = true then .inl () else .inr 7) := by
  refine down0 (len := l.length) (p := fun i => Ev (fun k => r_nodeErr_b0 k a b c l d (i : Int)) (if (l.drop i).all rName = true then .inl () else .inr 7)) ?_ fun i hi ih => ?_
  · refine Ev.succ ?_; simp only [r_nodeErr_b0]; exact Ev.cF (dnlt _) (Ev.some' (by simp))
  · refine Ev.succ ?_; simp only [r_nodeErr_b0, Int.toNat_natCast, getE hi, Option.bind_some, nn, if_true, dlt hi, cond_true, wsucc hi hl]; refine Ev.bind (r_IsName_ev _) ?_; rw [drop_cons hi]; simp only [List.all_cons]; by_cases hb : rName l[i] = true
    · exact Ev.cT hb (ih.to (by simp only [hb, Bool.true_and]))
    · have hb : rName l[i] = false := by simpa using hb
      exact Ev.cF hb (Ev.some' (by simp only [hb, Bool.false_and]; rfl))
theorem r_dup_ev (a b : Int) (c : Str) (l : List Str) (d : List Int) (hl : l.length <= 1099511627776) : Ev (fun k => r_nodeErr_b1 k a b c l d 1) (if dupB [] l = true then .inr 12 else .inl ()) := by
  have key : ∀ i, i <= l.length -> Ev (fun k => r_nodeErr_b1 k a b c l d (i : Int)) (if dupB (l.take i) (l.drop i) = true then .inr 12 else .inl ()) := by
    refine down ?_ fun i hi ih => ?_
    · refine Ev.succ ?_; simp only [r_nodeErr_b1]; exact Ev.cF (dnlt _) (Ev.some' (by simp [dupB]))
    · refine Ev.succ ?_; have h2 : i <= l.length := by omega
      simp only [r_nodeErr_b1, Int.toNat_natCast, getE hi, Option.bind_some, nn, if_true, dlt hi, cond_true, wsucc hi hl, true_and, h2]; refine Ev.bind (b_Contains_ev _ _ (by rw [List.length_take]; omega)) ?_; rw [drop_cons hi, dupB, <- List.take_succ_eq_append_getElem hi]; cases decide (l[i] ∈ l.take i)
      · simp only [cond_false, Bool.false_or]; exact ih
      · exact Ev.some
  cases l with
  | nil =>
    refine Ev.succ ?_; simp only [r_nodeErr_b1]; exact Ev.cF (by rfl) Ev.some
  | cons x l =>
    have := key 1 (by simp); exact this.to (by simp [dupB])
theorem r_nodeErr_ev (e : List Nd) (i : Nat) (n : Nd) (pl : Bool) (hn : e[i]? = some n) (hpl : Ev (fun k => r_placed k e (i : Int)) pl) (h1 : n.text.length <= 1000000) (h2 : n.names.length <= 1000000) (h3 : n.args.length <= 1000000) :
    Ev (fun k => r_nodeErr k e (i : Int)) (nodeSpec pl n) := by
  unfold r_nodeErr; simp only [Int.toNat_natCast, hn, Option.bind_some, nn, if_true, b_Between_eq, r_shape_eq, b_One_eq]; unfold nodeSpec; by_cases hk : inB n.kind 0 28 = true
  case neg =>
    refine Ev.to (Ev.cF (by simpa [inB] using hk) Ev.some) (if_pos (by simpa using hk)).symm
  refine Ev.to ?_ (if_neg (by simp [hk])).symm; refine Ev.cT hk ?_
  have hj : Ev (fun k => r_nodeErr_j1 k n.kind n.n n.text n.names n.args (rShape n.kind).1.1 (rShape n.kind).1.2.1 (rShape n.kind).1.2.2.1 (rShape n.kind).1.2.2.2)
      ((rShape n.kind).1.1, (rShape n.kind).1.2.1, if ((opIn tabR n.text).2 && decide (n.kind = 3)) = true then 0 else (rShape n.kind).1.2.2.1, if ((opIn tabR n.text).2 && decide (n.kind = 3)) = true then (n.args.length : Int) else (rShape n.kind).1.2.2.2) := by
    unfold r_nodeErr_j1 r_nodeErr_p0; refine Ev.bind (r_OperatorOf_ev _) ?_; cases (opIn tabR n.text).2
    · exact Ev.some
    · simp only [cond_true, Option.bind_some, Bool.true_and]; by_cases h : n.kind = 3
      · simp only [h, beq_self_eq_true, cond_true, decide_true, if_true]; exact Ev.some
      · rw [show (n.kind == 3) = false from beq_eq_false_iff_ne.2 h]; simp only [cond_false, h, decide_false, Bool.false_eq_true, if_false]; exact Ev.some
  refine Ev.bind hj ?_; have hm : IntKind.wrap .i64 ((n.names.length : Int) * if (rShape n.kind).2 = true then 1 else 0) = (n.names.length : Int) * if (rShape n.kind).2 = true then 1 else 0 := by
    split
    · exact wrap64 (by omega) (by omega)
    · exact wrap64 (by omega) (by omega)
  have hm2 : IntKind.wrap .i64 ((n.args.length : Int) - ((n.names.length : Int) * if (rShape n.kind).2 = true then 1 else 0)) = (n.args.length : Int) - ((n.names.length : Int) * if (rShape n.kind).2 = true then 1 else 0) := by
    split
    · exact wrap64 (by omega) (by omega)
    · exact wrap64 (by omega) (by omega)
  simp only [hm, hm2]
  have hsh : ∀ (t : Bool), r_nodeErr_p2 (rShape n.kind).1.1 (rShape n.kind).1.2.1 (if ((opIn tabR n.text).2 && decide (n.kind = 3)) = true then 0 else (rShape n.kind).1.2.2.1) (if ((opIn tabR n.text).2 && decide (n.kind = 3)) = true then (n.args.length : Int) else (rShape n.kind).1.2.2.2)
      ((n.args.length : Int) - ((n.names.length : Int) * if (rShape n.kind).2 = true then 1 else 0)) (!inB (n.names.length : Int) (rShape n.kind).1.1 (rShape n.kind).1.2.1) = some (!shapeOk n) := by
    intro t; unfold r_nodeErr_p2 shapeOk; simp only [b_Between_eq, Option.bind_some]; cases inB (n.names.length : Int) (rShape n.kind).1.1 (rShape n.kind).1.2.1
    · rfl
    · simp only [Bool.not_true, cond_false, Bool.true_and]; rfl
  have hsh2 := hsh true; unfold inB at hsh2; refine Ev.bind0 hsh2 ?_; cases hs : shapeOk n
  · exact Ev.some
  simp only [Bool.not_true, cond_false, Bool.true_eq_false, if_false]; have h3p : r_nodeErr_p3 n.kind n.n n.text n.names n.args (n.kind == 1) = some (decide (n.kind = 1) || decide (n.kind = 2) || decide (n.kind = 3) || decide (n.kind = 18)) := by
    unfold r_nodeErr_p3; by_cases a : n.kind = 1
    · simp [a]
    by_cases b : n.kind = 2
    · simp [b]
    by_cases c : n.kind = 3
    · simp [c]
    by_cases d : n.kind = 18
    · simp [d]
    simp [a, b, c, d, beq_eq_false_iff_ne.2 a, beq_eq_false_iff_ne.2 b, beq_eq_false_iff_ne.2 c, beq_eq_false_iff_ne.2 d]
  refine Ev.bind0 h3p (Ev.bind hpl ?_); have h4 : Ev (fun k => r_nodeErr_p4 k n.kind n.n n.text n.names n.args (decide (n.kind = 1) || decide (n.kind = 2) || decide (n.kind = 3) || decide (n.kind = 18)) (!pl)) (!(pl && cleanB n)) := by
    cases pl
    · exact Ev.some
    unfold r_nodeErr_p4 cleanB; simp only [Bool.not_true, cond_false, Bool.true_and, b_Between_eq, Option.bind_some]; have hp : Ev (fun k => Option.bind (r_plain k n.text) fun p => some (!p)) (!plainB n.text) := Ev.bind (r_plain_ev _) Ev.some
    have key : ∀ T0 T3 T2 : Bool, T0 = decide (n.n = 0) -> T2 = inB n.n 0 1 ->
        Ev (fun k => cond (n.kind != 0) (cond (n.kind != 23) (cond (n.n != 0) (some true) (cond (n.kind == 23) (cond (decide (0 <= n.n /\ n.n <= 1)) (cond (n.kind == 1) (Option.bind (r_plain k n.text) fun p => some (!p)) (some false)) (some true)) (cond (n.kind == 1) (Option.bind (r_plain k n.text) fun p => some (!p)) (some false))))
          (cond (n.kind == 23) (cond (decide (0 <= n.n /\ n.n <= 1)) (cond (n.kind == 1) (Option.bind (r_plain k n.text) fun p => some (!p)) (some false)) (some true)) (cond (n.kind == 1) (Option.bind (r_plain k n.text) fun p => some (!p)) (some false))))
          (cond (n.kind == 23) (cond (decide (0 <= n.n /\ n.n <= 1)) (cond (n.kind == 1) (Option.bind (r_plain k n.text) fun p => some (!p)) (some false)) (some true)) (cond (n.kind == 1) (Option.bind (r_plain k n.text) fun p => some (!p)) (some false))))
        (!((decide (n.kind = 0) || decide (n.kind = 23) || decide (n.n = 0)) && (!decide (n.kind = 23) || inB n.n 0 1) && (!decide (n.kind = 1) || plainB n.text))) := by
      intro T0 T3 T2 _ _; unfold inB; by_cases a : n.kind = 0
      · simp only [a]; exact Ev.some
      by_cases b : n.kind = 23
      · simp only [b]; by_cases c : 0 <= n.n /\ n.n <= 1
        · simp only [c, and_self, decide_true]; exact Ev.some
        · simp only [c, decide_false]; exact Ev.some
      by_cases c : n.n = 0
      · by_cases d : n.kind = 1
        · simp only [c, d]; exact hp
        · simp only [a, b, c, d, bne_iff_ne, beq_eq_false_iff_ne.2 a, beq_eq_false_iff_ne.2 b, beq_eq_false_iff_ne.2 d, bne, Bool.not_false, cond_true, cond_false, decide_false, decide_true]; exact Ev.some
      · simp only [a, b, c, beq_eq_false_iff_ne.2 a, beq_eq_false_iff_ne.2 b, beq_eq_false_iff_ne.2 c, bne, Bool.not_false, cond_true, decide_false]; exact Ev.some
    have key' := key _ false _ rfl rfl; cases (decide (n.kind = 1) || decide (n.kind = 2) || decide (n.kind = 3) || decide (n.kind = 18))
    · simp only [cond_false, Bool.false_or, beq_str]; cases decide (n.text = [])
      · exact Ev.some
      · simp only [cond_true, Bool.true_and]; exact key'
    · simp only [cond_true, Bool.true_or, Bool.true_and]; exact key'
  refine Ev.bind h4 ?_; cases hc : (pl && cleanB n)
  · exact Ev.some
  simp only [Bool.not_true, cond_false, Bool.true_eq_false, if_false]; have h5 : r_nodeErr_p5 n.kind n.n n.text n.names n.args (n.kind == 0) = some (decide (n.kind = 0) && !inB n.n 0 10000) := by
    unfold r_nodeErr_p5 inB; simp only [b_Between_eq, Option.bind_some]; by_cases a : n.kind = 0
    · simp only [a, beq_self_eq_true, cond_true, decide_true, Bool.true_and]
    · simp only [a, beq_eq_false_iff_ne.2 a, cond_false, decide_false, Bool.false_and]
  refine Ev.bind0 h5 ?_; cases h6 : (decide (n.kind = 0) && !inB n.n 0 10000)
  case true => exact Ev.some
  simp only [cond_false, Bool.false_eq_true, if_false]; refine Ev.bind (r_names_ev _ _ _ n.names _ (by omega)) ?_; rw [List.drop_zero]; unfold nameErr; cases h7 : n.names.all rName
  · simp only [Bool.false_eq_true, if_false, sum_R, if_true]; exact Ev.some
  simp only [if_true, sum_L, Bool.true_eq_false, if_false]; refine Ev.bind (r_OperatorOf_ev _) ?_
  have h8 : ∀ op : Operator, ∀ is : Bool, Ev (fun k => r_nodeErr_j7 k n.kind n.n n.text n.names n.args op.text op.fix op.low op.high op.left op.least op.most is)
      (if (if n.kind = 2 then (if (rTerm n.text || isFx n.text) = true then (0 : Int) else 7) else if n.kind = 18 then (if rName n.text = true then 0 else 7) else if n.kind = 3 then (if (is || rTerm n.text) = true then (if (is && !inB (n.args.length : Int) op.least op.most) = true then 17 else 0) else 7) else 0) = 0 then .inl () else
        .inr (if n.kind = 2 then (if (rTerm n.text || isFx n.text) = true then (0 : Int) else 7) else if n.kind = 18 then (if rName n.text = true then 0 else 7) else if n.kind = 3 then (if (is || rTerm n.text) = true then (if (is && !inB (n.args.length : Int) op.least op.most) = true then 17 else 0) else 7) else 0)) := by
    intro op is; unfold r_nodeErr_j7; by_cases a : n.kind = 2
    · simp only [a, beq_self_eq_true, cond_true, if_true]; refine Ev.bind (r_IsTerm_ev _ (by omega)) ?_; cases rTerm n.text
      · simp only [cond_false, r_IsFixed_eq, Option.bind_some, Bool.false_or]; cases isFx n.text <;> exact Ev.some
      · exact Ev.some
    by_cases b : n.kind = 18
    · simp only [b]; refine Ev.cF rfl (Ev.cT rfl ?_); refine Ev.bind (r_IsName_ev _) ?_; cases rName n.text <;> exact Ev.some
    by_cases c : n.kind = 3
    · simp only [c]; refine Ev.cF rfl (Ev.cF rfl (Ev.cT rfl ?_)); unfold r_nodeErr_p6; cases is
      · simp only [Bool.not_false, cond_true, Bool.false_or]; refine Ev.bind (Ev.bind (r_IsTerm_ev _ (by omega)) Ev.some) ?_; cases rTerm n.text <;> exact Ev.some
      · simp only [Bool.not_true, cond_false, Option.bind_some, cond_true, b_Between_eq, Bool.true_or, if_true, Bool.true_and]; unfold inB; cases decide (op.least <= (n.args.length : Int) /\ (n.args.length : Int) <= op.most) <;> exact Ev.some
    · simp only [a, b, c, beq_eq_false_iff_ne.2 a, beq_eq_false_iff_ne.2 b, beq_eq_false_iff_ne.2 c, cond_false, if_false, if_true]; exact Ev.some
  refine Ev.bind (h8 (opIn tabR n.text).1 (opIn tabR n.text).2) ?_; generalize hx : (if n.kind = 2 then (if (rTerm n.text || isFx n.text) = true then (0 : Int) else 7) else if n.kind = 18 then (if rName n.text = true then 0 else 7) else if n.kind = 3 then (if ((opIn tabR n.text).2 || rTerm n.text) = true then (if ((opIn tabR n.text).2 && !inB (n.args.length : Int) (opIn tabR n.text).1.least (opIn tabR n.text).1.most) = true then 17 else 0) else 7) else 0) = x; by_cases hx0 : x = 0
  · subst hx0; simp only [if_true, sum_L, ne_eq, not_true_eq_false, if_false]; refine Ev.bind (r_dup_ev _ _ _ n.names _ (by omega)) ?_; cases dupB [] n.names <;> exact Ev.some
  · simp only [hx0, if_false, sum_R, ne_eq, not_false_eq_true, if_true]; exact Ev.some
end Go.VL
end
section
namespace Go.VL
def bgOf (acc : List Int) (n : Nd) : Int := match n.args with
  | [] => acc.length
  | a :: _ => acc[a.toNat]?.getD 0
def plB (acc : List Int) : Int -> List Int -> Bool
  | _, [] => true
  | next, a :: l => decide (a = next - 1) && decide (1 <= next) && plB acc (acc[(next - 1).toNat]?.getD 0) l
structure OkTo (e : List Nd) (i : Nat) (acc : List Int) : Prop where
  len : acc.length = i
  le : i <= e.length
  at_ : ∀ j, j < i -> ∃ n b, e[j]? = some n /\ acc[j]? = some b /\ 0 <= b /\ b <= (j : Int) /\ (n.args = [] -> b = (j : Int)) /\ ∀ a l, n.args = a :: l -> 0 <= a /\ a < (j : Int) /\ acc[a.toNat]? = some b
structure Lite (e : List Nd) : Prop where
  len : e.length <= 1000000
  nd : ∀ (i : Nat) n, e[i]? = some n -> n.text.length <= 1000000 /\ n.names.length <= 1000000 /\ n.args.length <= 1000000
theorem OkTo.rng {e : List Nd} {i : Nat} {acc : List Int} (h : OkTo e i acc) {j : Nat} {b : Int} (hb : acc[j]? = some b) : j < i /\ 0 <= b /\ b <= (j : Int) := by
  have hj : j < i := by have := (List.getElem?_eq_some_iff.1 hb).1; have := h.len; omega
  obtain ⟨n, b', h1, h2, h3, h4, _⟩ := h.at_ j hj; rw [hb] at h2; cases h2; exact ⟨hj, h3, h4⟩
theorem b_First_b0_ev {e : List Nd} {i : Nat} {acc : List Int} (h : OkTo e i acc) (hi : i <= 1000000) : ∀ (j : Nat) (b : Int), acc[j]? = some b -> Ev (fun k => b_First_b0 k e (j : Int)) (.inl b) := by
  intro j
  induction j using Nat.strongRecOn with
  | _ j ih =>
    intro b hb; obtain ⟨hj, hb0, hb1⟩ := h.rng hb; obtain ⟨n, b', h1, h2, _, _, h5, h6⟩ := h.at_ j hj; rw [hb] at h2; cases h2; refine Ev.succ ?_; simp only [b_First_b0, Int.toNat_natCast, nn, if_true, h1, Option.bind_some, b_Between_eq]; cases hargs : n.args with
    | nil =>
      refine Ev.cF (by simp) (Ev.some' ?_); rw [h5 hargs]
    | cons a l =>
      obtain ⟨h7, h8, h9⟩ := h6 a l hargs; refine Ev.cT (by simp) ?_; simp only [List.getElem?_cons_zero, Option.bind_some]; rw [wrap64 (by omega) (by omega)]; refine Ev.cT (decide_eq_true (by omega)) ?_; have := ih a.toNat (by omega) b h9
      rwa [Int.toNat_of_nonneg h7] at this
theorem b_First_ev {e : List Nd} {i : Nat} {acc : List Int} (h : OkTo e i acc) (hi : i <= 1000000) {j : Nat} {b : Int} (hb : acc[j]? = some b) : Ev (fun k => b_First k e (j : Int)) b := by
  unfold b_First; refine Ev.cF (decide_eq_false (by omega)) (Ev.bind (b_First_b0_ev h hi j b hb) ?_); simp only [sum_L]; exact Ev.some
theorem take_rev {α : Type} {l : List α} {m : Nat} (h : m < l.length) : (l.take (m + 1)).reverse = l[m] :: (l.take m).reverse := by
  rw [List.take_succ_eq_append_getElem h, List.reverse_append]; rfl
theorem r_placed_b0_ev {e : List Nd} {i : Nat} {acc : List Int} (h : OkTo e i acc) (hi : i <= 1000000) {n : Nd} (hn : e[i]? = some n) (hl : n.args.length <= 1000000) : ∀ (m : Nat), m <= n.args.length -> ∀ nx : Nat, nx <= i ->
    Ev (fun k => r_placed_b0 k e (i : Int) (nx : Int) ((m : Int) - 1)) (if plB acc nx (n.args.take m).reverse = true then .inl () else .inr false) := by
  intro m
  induction m with
  | zero =>
    intro _ nx hnx; refine Ev.succ ?_; simp only [r_placed_b0]; exact Ev.cF (by rfl) (Ev.some' (by simp [plB]))
  | succ m ih =>
    intro hm nx hnx; have hm' : m < n.args.length := by omega
    refine Ev.succ ?_; have e1 : (((m + 1 : Nat) : Int) - 1) = (m : Int) := by omega
    simp only [e1, r_placed_b0, Int.toNat_natCast, nn, if_true, hn, Option.bind_some, getE hm']; rw [take_rev hm', plB]; refine Ev.cT (by simp) ?_; rw [wrap64 (x := (nx : Int) - 1) (by omega) (by omega), wrap64 (x := (m : Int) - 1) (by omega) (by omega)]; by_cases h1 : n.args[m] = (nx : Int) - 1
    · refine Ev.cF (by rw [h1]; simp) ?_; by_cases h2 : nx < 1
      · refine Ev.cT (decide_eq_true (by omega)) (Ev.some' ?_); have : ¬ (1 : Int) <= nx := by omega
        simp [this]
      · refine Ev.cF (decide_eq_false (by omega)) ?_; obtain ⟨j, rfl⟩ : ∃ j, nx = j + 1 := ⟨nx - 1, by omega⟩; have e2 : (((j + 1 : Nat) : Int) - 1) = (j : Int) := by omega
        rw [e2] at h1 ⊢; obtain ⟨n', b, h3, h4, h5, h6, _⟩ := h.at_ j (by omega); refine Ev.bind (b_First_ev h hi h4) ?_; obtain ⟨b, rfl⟩ : ∃ b' : Nat, b = b' := ⟨b.toNat, by omega⟩; refine (ih (by omega) b (by omega)).to ?_; have e3 : (1 : Int) <= ((j + 1 : Nat) : Int) := by omega
        simp only [h1, e3, decide_true, Bool.true_and, Int.toNat_natCast, h4, Option.getD_some]
    · refine Ev.cT (by rw [bne_iff_ne]; exact h1) (Ev.some' ?_); simp [h1]
theorem r_placed_ev {e : List Nd} {i : Nat} {acc : List Int} (h : OkTo e i acc) (hi : i <= 1000000) {n : Nd} (hn : e[i]? = some n) (hl : n.args.length <= 1000000) : Ev (fun k => r_placed k e (i : Int)) (plB acc i n.args.reverse) := by
  unfold r_placed; simp only [Int.toNat_natCast, nn, if_true, hn, Option.bind_some]; rw [wrap64 (by omega) (by omega)]; have := r_placed_b0_ev h hi hn hl n.args.length (Nat.le_refl _) i (Nat.le_refl _); rw [List.take_length] at this; refine Ev.bind this ?_; cases plB acc i n.args.reverse
  · simp only [Bool.false_eq_true, if_false, sum_R]; exact Ev.some
  · simp only [if_true, sum_L]; exact Ev.some
theorem plB_mem {e : List Nd} {i : Nat} {acc : List Int} (h : OkTo e i acc) : ∀ (l : List Int) (nx : Nat), nx <= i -> plB acc nx l = true -> ∀ a ∈ l, 0 <= a /\ a < (nx : Int)
  | [], _, _, _, a, ha => by cases ha
  | a :: l, nx, hnx, hp, x, hx => by
    rw [plB, Bool.and_eq_true, Bool.and_eq_true, decide_eq_true_eq, decide_eq_true_eq] at hp; obtain ⟨⟨h1, h2⟩, h3⟩ := hp; rcases List.mem_cons.1 hx with rfl | hx
    · omega
    · obtain ⟨j, rfl⟩ : ∃ j, nx = j + 1 := ⟨nx - 1, by omega⟩; have e2 : (((j + 1 : Nat) : Int) - 1) = (j : Int) := by omega
      obtain ⟨n', b, h4, h5, h6, h7, _⟩ := h.at_ j (by omega); rw [e2, Int.toNat_natCast, h5, Option.getD_some] at h3; obtain ⟨b, rfl⟩ : ∃ b' : Nat, b = b' := ⟨b.toNat, by omega⟩; have := plB_mem h l b (by omega) h3 x hx; omega
theorem OkTo.zero (e : List Nd) : OkTo e 0 [] := ⟨rfl, Nat.zero_le _, fun j hj => absurd hj (Nat.not_lt_zero _)⟩
theorem OkTo.succ {e : List Nd} {i : Nat} {acc : List Int} (h : OkTo e i acc) {n : Nd} (hn : e[i]? = some n) (hp : plB acc i n.args.reverse = true) : OkTo e (i + 1) (acc ++ [bgOf acc n]) := by
  have hmem := plB_mem h _ i (Nat.le_refl _) hp; have hlen := h.len; refine ⟨by simp [hlen], (List.getElem?_eq_some_iff.1 hn).1, fun j hj => ?_⟩; have old : ∀ (m : Nat) (b : Int), acc[m]? = some b -> (acc ++ [bgOf acc n])[m]? = some b := fun m b e => by
    rw [List.getElem?_append_left (List.getElem?_eq_some_iff.1 e).1]; exact e
  by_cases hj' : j < i
  · obtain ⟨n', b, h1, h2, h3, h4, h5, h6⟩ := h.at_ j hj'; exact ⟨n', b, h1, old _ _ h2, h3, h4, h5, fun a l ha => ⟨(h6 a l ha).1, (h6 a l ha).2.1, old _ _ (h6 a l ha).2.2⟩⟩
  · obtain rfl : j = i := by omega
    have hnew : (acc ++ [bgOf acc n])[j]? = some (bgOf acc n) := by rw [List.getElem?_append_right (by omega), hlen, Nat.sub_self]; rfl
    cases hargs : n.args with
    | nil =>
      have e1 : bgOf acc n = (j : Int) := by unfold bgOf; rw [hargs]; simp [hlen]
      exact ⟨n, _, hn, hnew, by omega, by omega, fun _ => e1, fun a l ha => by rw [hargs] at ha; cases ha⟩
    | cons a l =>
      have ha := hmem a (by rw [hargs]; simp); obtain ⟨n', b, h1, h2, h3, h4, h5, h6⟩ := h.at_ a.toNat (by omega); have e1 : bgOf acc n = b := by unfold bgOf; rw [hargs]; simp only [h2, Option.getD_some]
      rw [e1] at hnew old ⊢; refine ⟨n, b, hn, hnew, h3, by omega, (fun h => by rw [hargs] at h; cases h), fun a' l' ha' => ?_⟩; rw [hargs] at ha'; cases ha'; exact ⟨ha.1, ha.2, old _ _ h2⟩
def scanN : List Int -> List Nd -> List Int ⊕ (Int × Int)
  | acc, [] => .inl acc
  | acc, n :: l => if nodeSpec (plB acc acc.length n.args.reverse) n ≠ 0 then .inr ((acc.length : Int), nodeSpec (plB acc acc.length n.args.reverse) n) else scanN (acc ++ [bgOf acc n]) l
theorem nodeSpec_pl {n : Nd} {pl : Bool} (h : nodeSpec pl n = 0) : pl = true := by
  cases pl with
  | true => rfl
  | false =>
    exfalso; unfold nodeSpec at h; simp only [Bool.false_and, if_true] at h; split at h
    · cases h
    · split at h <;> cases h
theorem r_Check_b0_ev {e : List Nd} (hL : Lite e) : ∀ i, i <= e.length -> ∀ acc, OkTo e i acc -> Ev (fun k => r_Check_b0 k e (i : Int)) (match scanN acc (e.drop i) with | .inl _ => .inl () | .inr r => .inr r) := by
  have hlen := hL.len; refine down (fun acc h => ?_) (fun i hi ih acc h => ?_)
  · refine Ev.succ ?_; simp only [r_Check_b0]; exact Ev.cF (dnlt _) (Ev.some' (by simp [scanN]))
  · refine Ev.succ ?_; obtain ⟨h1, h2, h3⟩ := hL.nd i _ (getE hi); simp only [r_Check_b0]; refine Ev.cT (dlt hi) (Ev.bind (r_nodeErr_ev e i e[i] _ (getE hi) (r_placed_ev h (by omega) (getE hi) h3) h1 h2 h3) ?_); rw [drop_cons hi, scanN, h.len]; by_cases hc : nodeSpec (plB acc i e[i].args.reverse) e[i] = 0
    · refine Ev.cF (by rw [hc]; rfl) ?_; rw [wsucc hi (by omega)]; refine (ih _ (h.succ (getE hi) (nodeSpec_pl hc))).to ?_; simp only [hc, ne_eq, not_true_eq_false, if_false]
    · refine Ev.cT (by rw [bne_iff_ne]; exact hc) (Ev.some' ?_); simp only [ne_eq, hc, not_false_eq_true, if_true]
end Go.VL
end
section
namespace Go.VL
theorem chunks_flat' {sz : Nat} : ∀ (es : List (List PV)) (rest : List PV), (∀ cs ∈ es, cs.length = sz) -> chunks sz es.length (es.flatten ++ rest) = es
  | [], rest, _ => by simp [chunks]
  | c :: es, rest, h => by
    have hc := h c (List.mem_cons_self ..); have ih := chunks_flat' es rest fun cs hcs => h cs (List.mem_cons_of_mem _ hcs); unfold chunks at ih ⊢; rw [List.length_cons, List.range_succ_eq_map, List.map_cons, List.map_map, List.flatten_cons, List.append_assoc]; congr 1
    · rw [Nat.zero_mul, List.drop_zero, <- hc, List.take_left]
    · conv => rhs; rw [<- ih]
      refine List.map_congr_left fun i _ => ?_; simp only [Function.comp]; rw [show (i + 1) * sz = sz + i * sz by rw [Nat.add_mul, Nat.one_mul, Nat.add_comm], <- List.drop_drop]; congr 2
      rw [<- hc, List.drop_left]
theorem flat_length {α : Type} {sz : Nat} {f : α -> List PV} (hf : ∀ x, (f x).length = sz) : ∀ l : List α, ((l.map f).flatten).length = l.length * sz
  | [] => by simp
  | x :: l => by rw [List.map_cons, List.flatten_cons, List.length_append, hf, flat_length hf l, List.length_cons, Nat.succ_mul, Nat.add_comm]
theorem flat_drop {α : Type} {sz : Nat} {f : α -> List PV} (hf : ∀ x, (f x).length = sz) : ∀ (l : List α) (i : Nat), ((l.map f).flatten).drop (i * sz) = ((l.drop i).map f).flatten
  | l, 0 => by simp
  | [], i + 1 => by simp
  | x :: l, i + 1 => by
    rw [List.map_cons, List.flatten_cons, Nat.succ_mul, Nat.add_comm, <- List.drop_drop]; have : List.drop sz (f x ++ (l.map f).flatten) = (l.map f).flatten := by rw [<- hf x, List.drop_left]
    rw [this, flat_drop hf l i, List.drop_succ_cons]
theorem putCells_mid (A fa B vs : List PV) {j : Nat} (h : j + vs.length <= fa.length) : putCells (A ++ (fa ++ B)) (A.length + j) vs = A ++ (putCells fa j vs ++ B) := by
  have h1 : j - fa.length = 0 := by omega
  have h2 : A.length + j + vs.length - A.length = j + vs.length := by omega
  have h3 : j + vs.length - fa.length = 0 := by omega
  have h4 : A.take (A.length + j) = A := List.take_of_length_le (by omega); have h5 : A.drop (A.length + j + vs.length) = [] := List.drop_eq_nil_of_le (by omega); have h6 : A.length + j - A.length = j := by omega
  simp only [putCells, List.take_append, List.drop_append, h1, h2, h3, h4, h5, h6, List.take_zero, List.drop_zero, List.append_nil, List.nil_append, List.append_assoc]
theorem flat_len' (z : List PV) : ∀ n, ((List.replicate n z).flatten).length = n * z.length
  | 0 => by simp
  | n + 1 => by rw [List.replicate_succ, List.flatten_cons, List.length_append, flat_len' z n, Nat.add_mul, Nat.one_mul, Nat.add_comm]
theorem drop_get {α : Type} {l : List α} {i : Nat} {x : α} (h : l[i]? = some x) : l.drop i = x :: l.drop (i + 1) := by
  have hlt := (List.getElem?_eq_some_iff.1 h).1; rw [List.drop_eq_getElem_cons hlt]; congr 1
  exact (List.getElem?_eq_some_iff.1 h).2
def RowN {α : Type} (H : AH) (f : α -> List PV) (sz : Nat) (l : List α) (v : PV) (ids : List Nat) : Prop :=
  (v = .isl [] .nil /\ l = [] /\ ids = []) \/ ∃ id cap junk, ids = [id] /\ v = .msl id 0 l.length cap sz /\ l.length <= cap /\ id < H.next /\ H.obj id = some ((l.map f).flatten ++ junk) /\ junk.length = (cap - l.length) * sz
def Nw (H : AH) (ids ids' : List Nat) : Prop := ∀ i ∈ ids', i ∈ ids \/ H.next <= i
theorem Nw.refl {H : AH} {ids : List Nat} : Nw H ids ids := fun _ h => .inl h
theorem Nw.trans {H H' : AH} {a b c : List Nat} (h : Nw H a b) (hn : H.next <= H'.next) (k : Nw H' b c) : Nw H a c := fun i hi => by
  rcases k i hi with q | q
  · exact h i q
  · exact .inr (Nat.le_trans hn q)
theorem Nw.via {H H' : AH} {M N c : List Nat} (h : ∀ i ∈ N, i ∈ M \/ H.next <= i) (hn : H.next <= H'.next) (k : Nw H' N c) : Nw H M c := fun i hi => by
  rcases k i hi with q | q
  · exact h i q
  · exact .inr (Nat.le_trans hn q)
def Dj (a b : List Nat) : Prop := ∀ i ∈ a, i ∉ b
theorem Dj.nil {b : List Nat} : Dj [] b := fun _ h => by cases h
theorem Dj.symm {a b : List Nat} (h : Dj a b) : Dj b a := fun i hi hj => h i hj hi
section
variable {α : Type} {H H' : AH} {f : α -> List PV} {sz : Nat} {l : List α} {v : PV} {ids : List Nat}
theorem RowN.nil : RowN H f sz ([] : List α) (.isl [] .nil) [] := .inl ⟨rfl, rfl, rfl⟩
theorem RowN.lt (h : RowN H f sz l v ids) : ∀ i ∈ ids, i < H.next := by
  rcases h with ⟨_, _, rfl⟩ | ⟨id, cap, junk, rfl, _, _, h, _⟩
  · intro i hi; cases hi
  · intro i hi; rw [List.mem_singleton.1 hi]; exact h
theorem RowN.hf {M : List Nat} (h : RowN H f sz l v ids) (hf : HF M H H') (hd : Dj ids M) : RowN H' f sz l v ids := by
  rcases h with ⟨h1, h2, h3⟩ | ⟨id, cap, junk, rfl, h1, h2, h3, h4, h5⟩
  · exact .inl ⟨h1, h2, h3⟩
  · exact .inr ⟨id, cap, junk, rfl, h1, h2, Nat.lt_of_lt_of_le h3 hf.1, (hf.2 id h3 (hd id (List.mem_singleton.2 rfl))).trans h4, h5⟩
theorem RowN.new {cs : List PV} (h : RowN H f sz l v ids) : RowN (H.new cs) f sz l v ids := h.hf (M := []) (HF.new (HF.refl _ _)) (fun _ _ h => by cases h)
theorem RowN.put {id : Nat} {cs : List PV} (h : RowN H f sz l v ids) (hn : id ∉ ids) : RowN (H.put id cs) f sz l v ids :=
  h.hf (M := [id]) (HF.put (.inl (List.mem_singleton.2 rfl)) (HF.refl _ _)) (fun i hi hj => hn (List.mem_singleton.1 hj ▸ hi))
theorem RowN.lenv (h : RowN H f sz l v ids) : lenPV v = some (.int .i64 l.length) := by
  rcases h with ⟨rfl, rfl, _⟩ | ⟨id, cap, junk, rfl, rfl, _⟩
  · rfl
  · rfl
theorem RowN.at (h : RowN H f sz l v ids) {i : Nat} {x : α} (hx : l[i]? = some x) : ∃ id cap junk, ids = [id] /\ v = .msl id 0 l.length cap sz /\ l.length <= cap /\ id < H.next /\ H.obj id = some ((l.map f).flatten ++ junk) /\ junk.length = (cap - l.length) * sz := by
  rcases h with ⟨_, rfl, _⟩ | h
  · simp at hx
  · exact h
theorem RowN.content [hr : RowF f sz] (h : RowN H f sz l v ids) {i : Nat} {x : α} (hx : l[i]? = some x) :
    ∃ id C, ids = [id] /\ id < H.next /\ H.obj id = some C /\ (∀ j c, (f x)[j]? = some c -> C[i * sz + j]? = some c) /\ (∀ j, j <= sz -> i * sz + j <= C.length) /\ (C.drop (i * sz)).take sz = f x /\
      ∀ k n, 0 <= n -> n.toNat = i -> idxPV sz v (.int k n) = some (.ref id (i * sz)) := by
  obtain ⟨id, cap, junk, rfl, rfl, h2, h3, h4, h5⟩ := h.at hx; have hlt := (List.getElem?_eq_some_iff.1 hx).1; have hd : ((l.map f).flatten ++ junk).drop (i * sz) = f x ++ (((l.drop (i + 1)).map f).flatten ++ junk) := by
    rw [List.drop_append_of_le_length (by rw [flat_length hr.len]; exact Nat.mul_le_mul_right _ (by omega)), flat_drop hr.len, drop_get hx]; simp
  have hlen : i * sz + sz <= ((l.map f).flatten ++ junk).length := by
    rw [List.length_append, flat_length hr.len]; have : (i + 1) * sz <= l.length * sz := Nat.mul_le_mul_right _ hlt; rw [Nat.succ_mul] at this; omega
  refine ⟨id, _, rfl, h3, h4, fun j c hc => ?_, fun j hj => by omega, ?_, fun k n hn he => ?_⟩
  · rw [<- List.getElem?_drop, hd]; have hj : j < (f x).length := (List.getElem?_eq_some_iff.1 hc).1; rw [List.getElem?_append_left hj]; exact hc
  · rw [hd, List.take_append_of_le_length (by rw [hr.len]; exact Nat.le_refl _), List.take_of_length_le (by rw [hr.len]; exact Nat.le_refl _)]
  · subst he; have h6 : n < (l.length : Int) := by omega
    simp [idxPV, hn, h6]
theorem RowN.fz (hp : ∀ x, ∀ c ∈ f x, Pu c) [hr : RowF f sz] (h : RowN H f sz l v ids) : Fz H v (.isl (l.map f) .unk) := by
  rcases h with ⟨rfl, rfl, _⟩ | ⟨id, cap, junk, rfl, rfl, h2, h3, h4, h5⟩
  · exact fz_sl hp [] .nil
  · refine .msl id 0 l.length cap sz _ _ (fun i j => ((l.map f)[i]?.bind (·[j]?)).getD .any) h4 (by simp) h2 (fun i cs e => ?_) (fun i cs e j c ec => ?_) (fun i cs e j c ec => ?_)
    · simp only [List.getElem?_map, Option.map_eq_some_iff] at e; obtain ⟨x, _, rfl⟩ := e; exact hr.len x
    · have e' := e; simp only [List.getElem?_map, Option.map_eq_some_iff] at e; obtain ⟨x, hx, rfl⟩ := e; have hrow : RowN H f sz l (.msl id 0 l.length cap sz) [id] := .inr ⟨id, cap, junk, rfl, rfl, h2, h3, h4, h5⟩; obtain ⟨id', C, e1, _, e2, e3, _⟩ := hrow.content hx; cases e1; rw [h4] at e2; cases e2; rw [e', Option.bind_some, ec, Option.getD_some, Nat.zero_add]; exact e3 j c ec
    · rw [e, Option.bind_some, ec, Option.getD_some]; simp only [List.getElem?_map, Option.map_eq_some_iff] at e; obtain ⟨x, _, rfl⟩ := e; exact .pure _ (hp x c (List.mem_of_getElem? ec))
end
variable [Glob]
section
variable {P : Program} {Q : Post} {σ : Nat -> PV} {s : List Fm} {α : Type} {H : AH} {f : α -> List PV} {sz : Nat} {v : PV} {ids : List Nat}
theorem WO_rowapp {d : Option Nat} {b : Nat} {x y : AE} {l : List AOp} [hr : RowF f sz] (hf : ∀ x, rowLike sz (f x)) (xs ys : List α) (c2 : Ck)
    (hx : x.ev σ = v) (hrow : RowN H f sz xs v ids) (hy : y.ev σ = .isl (ys.map f) c2) (hs : 0 < ys.length) (hb : (xs.length + ys.length) * b <= 1099511627776)
    (h : ∀ (v' : PV) (ids' : List Nat) (H' : AH), RowN H' f sz (xs ++ ys) v' ids' -> Nw H ids ids' -> HF ids H H' -> (∀ c3, okc H c3 -> okc H' c3) -> WO P l s Q (upd σ d v') H') :
    WO P (⟨d, .n (.app sz b x y), none⟩ :: l) s Q σ H := by
  show WOps P _ _ σ H
  rw [WOps_n]; simp only [nop, hx, hy]; have h0 : ¬ ((ys.map f).length = 0) := by rw [List.length_map]; omega
  have fresh : ∀ (es : List (List PV)), es = xs.map f -> freshApp sz b H es (ys.map f) (fun p H' => WOps P l (unst P s Q .normal) (upd σ d p) H') := by
    intro es he cap hcap; subst he; simp only [List.length_map] at hcap ⊢; refine h _ [H.next] _ (.inr ⟨H.next, cap, List.replicate ((cap - (xs.length + ys.length)) * sz) .any, rfl, by rw [List.length_append], by rw [List.length_append]; exact hcap, Nat.lt_succ_self _, ?_, by rw [List.length_replicate, List.length_append]⟩) (fun i hi => .inr (by rw [List.mem_singleton.1 hi]; exact Nat.le_refl _)) (HF.new (HF.refl _ _)) (fun c3 k => k.new); show (if H.next = H.next then some _ else _) = _
    rw [if_pos rfl, List.map_append]
  rcases hrow with ⟨rfl, rfl, rfl⟩ | ⟨id, cap, junk, rfl, rfl, h2, h3, h4, h5⟩
  · simp only [nopApp, rowOf]; rw [if_neg h0]; split
    · exact fresh [] rfl
    · rename_i hno; exact (hno ⟨szOk_map hf ([] : List α), szOk_map hf ys, by simpa using hb⟩).elim
  · have hfl := flat_length (f := f) hr.len xs; have hrow : rowOf sz H (.msl id 0 xs.length cap sz) = some (xs.map f) := by
      simp only [rowOf, h4]; rw [if_pos ⟨trivial, by rw [List.length_append, hfl]; omega⟩, List.drop_zero]; have := chunks_flat' (sz := sz) (xs.map f) junk (fun cs hcs => by obtain ⟨x, _, rfl⟩ := List.mem_map.1 hcs; exact hr.len x); rw [List.length_map] at this; rw [this]
    simp only [nopApp, hrow]; have : rowOf sz H (.isl (ys.map f) c2) = some (ys.map f) := rfl; simp only [this]; rw [if_neg h0, if_pos ⟨szOk_map hf xs, szOk_map hf ys, by simpa using hb⟩]; simp only [List.length_map]; by_cases hc : xs.length + ys.length <= cap
    · rw [if_pos hc, h4]; have hsz : cap - xs.length = (cap - (xs.length + ys.length)) + ys.length := by omega
      have h6 : 0 + (xs.length + ys.length) * sz <= ((xs.map f).flatten ++ junk).length := by
        rw [List.length_append, hfl, h5, Nat.add_mul, hsz, Nat.add_mul]; omega
      simp only; rw [if_pos h6]; have hyl := flat_length (f := f) hr.len ys; have hput : putCells ((xs.map f).flatten ++ junk) (0 + xs.length * sz) (ys.map f).flatten = ((xs ++ ys).map f).flatten ++ junk.drop (ys.length * sz) := by
        rw [Nat.zero_add, putCells, <- hfl, List.take_left, hyl, <- List.drop_drop, List.drop_left, List.map_append, List.flatten_append]
      rw [hput]; refine h _ [id] _ (.inr ⟨id, cap, junk.drop (ys.length * sz), rfl, by rw [List.length_append], by rw [List.length_append]; exact hc, h3, ?_, ?_⟩) Nw.refl (HF.put (.inl (List.mem_singleton.2 rfl)) (HF.refl _ _)) (fun c3 k => k.put)
      · show (if id = id then some _ else _) = _
        rw [if_pos rfl]
      · rw [List.length_drop, h5, List.length_append, hsz, Nat.add_mul]; omega
    · rw [if_neg hc, if_pos h2]; have hfr := fresh _ rfl; intro cap' hcap'; exact hfr cap' hcap'
theorem WO_mkrow {d : Option Nat} {bytes : Nat} {zero : List PV} {x y : AE} {l : List AOp} [hr : RowF f sz] (z : α) (hz : f z = zero) {k k' : IntKind} {n c : Int} (hx : x.ev σ = .int k n) (hy : y.ev σ = .int k' c)
    (hb : 0 <= n /\ n <= c /\ c <= 1099511627776 /\ bytes * c <= 1099511627776) (hs : 0 < sz)
    (h : ∀ (v' : PV) (ids' : List Nat) (H' : AH), RowN H' f sz (List.replicate n.toNat z) v' ids' -> Nw H [] ids' -> HF [] H H' -> (∀ c3, okc H c3 -> okc H' c3) -> WO P l s Q (upd σ d v') H') :
    WO P (⟨d, .d (.mksl sz bytes zero x y), none⟩ :: l) s Q σ H := by
  show WD P (dop (.mksl sz bytes zero x y) σ H) d l s Q σ
  simp only [dop, hx, hy]; rw [if_pos ⟨hb.1, hb.2.1, hb.2.2.1, hb.2.2.2, by rw [<- hz, hr.len], hs⟩]; show WO P l s Q (upd σ d _) _
  have hn : (List.replicate n.toNat z).length = n.toNat := List.length_replicate; refine h _ [H.next] _ (.inr ⟨H.next, c.toNat, (List.replicate (c.toNat - n.toNat) zero).flatten, rfl, by rw [hn], by rw [hn]; omega, Nat.lt_succ_self _, ?_, ?_⟩) (fun i hi => .inr (by rw [List.mem_singleton.1 hi]; exact Nat.le_refl _)) (HF.new (HF.refl _ _)) (fun c3 k => k.new)
  · show (if H.next = H.next then some _ else _) = _
    rw [if_pos rfl, List.map_replicate, hz, <- List.flatten_append, List.replicate_append_replicate]; congr 3
    omega
  · rw [hn, flat_len', <- hz, hr.len]
theorem WO_rowset {d : Option Nat} {n : Nat} {x w : AE} {l : List AOp} [hr : RowF f sz] {xs : List α} {id o i j : Nat} {a y : α} {vs : List PV}
    (hx : x.ev σ = .ref id o) (hid : ids = [id]) (ho : o = i * sz + j) (hrow : RowN H f sz xs v ids) (ha : xs[i]? = some a) (hv : cellsOf (w.ev σ) = some vs) (hl : vs.length = n) (hone : vs.all PV.one = true) (hj : j + n <= sz) (hy : putCells (f a) j vs = f y)
    (h : ∀ H' : AH, RowN H' f sz (xs.set i y) v ids -> HF ids H H' -> (∀ c3, okc H c3 -> okc H' c3) -> WO P l s Q (upd σ d .any) H') :
    WO P (⟨d, .d (.store n x w), none⟩ :: l) s Q σ H := by
  obtain ⟨id', cap, junk, e1, rfl, h2, h3, h4, h5⟩ := hrow.at ha; subst hid; cases e1; have hlt := (List.getElem?_eq_some_iff.1 ha).1; have hfl := flat_length (f := f) hr.len xs; have hle : o + n <= ((xs.map f).flatten ++ junk).length := by
    rw [List.length_append, hfl, ho]; have : (i + 1) * sz <= xs.length * sz := Nat.mul_le_mul_right _ hlt; rw [Nat.succ_mul] at this; omega
  show WD P (dop (.store n x w) σ H) d l s Q σ
  simp only [dop, hx, hv, h4]; rw [if_pos ⟨hl, hle, hone⟩]; show WO P l s Q (upd σ d .any) _
  have hxs : xs = xs.take i ++ a :: xs.drop (i + 1) := by rw [<- drop_get ha, List.take_append_drop]
  have hA : ((xs.take i).map f).flatten.length = i * sz := by rw [flat_length hr.len, List.length_take]; congr 1; omega
  have hput : putCells ((xs.map f).flatten ++ junk) o vs = ((xs.set i y).map f).flatten ++ junk := by
    have e2 : (xs.map f).flatten ++ junk = ((xs.take i).map f).flatten ++ (f a ++ (((xs.drop (i + 1)).map f).flatten ++ junk)) := by
      conv => lhs; rw [hxs]
      simp
    have e3 : xs.set i y = xs.take i ++ y :: xs.drop (i + 1) := by rw [List.set_eq_take_append_cons_drop, if_pos hlt]
    rw [e2, e3, ho, <- hA, putCells_mid _ _ _ _ (by rw [hr.len, hl]; exact hj), hy]; simp
  rw [hput]; refine h _ (.inr ⟨id, cap, junk, rfl, by rw [List.length_set], by rw [List.length_set]; exact h2, h3, ?_, by rw [List.length_set]; exact h5⟩) (HF.put (.inl (List.mem_singleton.2 rfl)) (HF.refl _ _)) (fun c3 k => k.put); show (if id = id then some _ else _) = _
  rw [if_pos rfl]
end
end Go.VL
end
section
namespace Go.VL
open Go.RowKit
variable [Glob]
section
variable {P : Program} {B : Nat -> Prop} {G : Gh} {H : AH} {w w' : World}
theorem HM.below (hM : HM B H G w) (h : Below w.heap.size w w') : HM B H G w' := by
  have hlt : ∀ b arr t fr, w.heap[b]? = some (.cells arr t fr) -> b < w.heap.size := fun b arr t fr e => (Array.getElem?_eq_some_iff.1 e).1
  exact {
    glob := hM.glob
    imm := fun a x e => by
      have hc := hM.imm a x e; exact (World.cell?_of_block (h.block _ (World.block_lt_of_cell? w a hc))).trans hc
    obj := fun id cs e => by
      obtain ⟨k0, b, arr, t, k1, k2, k3, k4, k5⟩ := hM.obj id cs e; exact ⟨k0, b, arr, t, k1, k2, (h.block b (hlt _ _ _ _ k3)).trans k3, k4, k5⟩
    inj := hM.inj
    tok := fun k e => by
      obtain ⟨k0, b, o, arr, t, k1, k2, k3, k5⟩ := hM.tok k e; exact ⟨k0, b, o, arr, t, k1, k2, (h.block b (hlt _ _ _ _ k3)).trans k3, k5⟩
    tinj := hM.tinj
    tobj := hM.tobj }
theorem Tr.below (h : Below w.heap.size w w') : Tr B w w' :=
  ⟨h.size, fun b hb _ => h.block b hb, h.os, h.tape, h.output, fun b o e _ => (h.block b (Array.getElem?_eq_some_iff.1 e).1).trans e⟩
theorem pcall_of {f : FuncId} {args : List PV} {r : PV} (he : Enters P f)
    (h : ∀ (w : World) (G : Gh) (vs : Array Value), (∀ a x, Glob.gc a = some x -> w.cell? a = some x) -> (∀ a x, G.F a = some x -> w.cell? a = some x) -> Vs G 0 args vs -> Calls P f vs w fun e w' => ∃ v, e = .returned v /\ Below w.heap.size w w' /\ ∀ G n, V G n r v)
    (hp : ∀ a ∈ args, Pu a) : PCall P f args r := by
  intro H; refine ⟨he, fun B G w vs hU hM hv => ?_⟩; have hv' : Vs ⟨G.F, fun _ => none, fun _ => none⟩ 0 args vs := ⟨hv.1, fun j c x hc hx => V.pure (G := G) (G' := ⟨G.F, fun _ => none, fun _ => none⟩) (n' := 0) (fun (_ : Addr) (_ : Value) e => e) (hv.2 j c x hc hx) (hp c (List.mem_of_getElem? hc))⟩; refine (h w ⟨G.F, fun _ => none, fun _ => none⟩ vs (fun a x e => hM.imm a x (hM.glob a x e)) hM.imm hv').mono ?_; rintro e w' ⟨v, h1, h2, h3⟩; exact ⟨r, v, H, G, h1, Tr.below h2, Ext.refl B _ G, Nat.le_refl _, hM.below h2, h3 G _, rfl, rfl⟩
theorem pcall_fresh {f : FuncId} {args : List PV} {r : PV} (he : Enters P f)
    (h : ∀ (w : World) (G : Gh) (vs : Array Value), (∀ a x, Glob.gc a = some x -> w.cell? a = some x) -> (∀ a x, G.F a = some x -> w.cell? a = some x) -> Vs G 0 args vs -> Calls P f vs w fun e w' => ∃ v, e = .returned v /\ Below w.heap.size w w' /\
      ∀ (G' : Gh) (n : Nat), (∀ a x, w.heap.size <= a.block -> w'.cell? a = some x -> G'.F a = some x) -> V G' n r v)
    (hp : ∀ a ∈ args, Pu a) : PCall P f args r := by
  intro H; refine ⟨he, fun B G w vs hU hM hv => ?_⟩; have hv' : Vs ⟨G.F, fun _ => none, fun _ => none⟩ 0 args vs := ⟨hv.1, fun j c x hc hx => V.pure (G := G) (G' := ⟨G.F, fun _ => none, fun _ => none⟩) (n' := 0) (fun (_ : Addr) (_ : Value) e => e) (hv.2 j c x hc hx) (hp c (List.mem_of_getElem? hc))⟩; refine (h w ⟨G.F, fun _ => none, fun _ => none⟩ vs (fun a x e => hM.imm a x (hM.glob a x e)) hM.imm hv').mono ?_; rintro e w' ⟨v, h1, h2, h3⟩; have hM1 := hM.below h2
  let G2 : Gh := ⟨fun a => match G.F a with | some x => some x | none => if w.heap.size <= a.block then w'.cell? a else none, G.m, G.τ⟩
  have hF : ∀ a x, G.F a = some x -> G2.F a = some x := fun a x e => by simp only [G2, e]
  have hnone : ∀ a, a.block < w.heap.size -> G.F a = none -> G2.F a = none := fun a ha e => by
    simp only [G2, e]; rw [if_neg (by omega)]
  have hE : Ext B H.next G G2 := ⟨hF, fun _ _ => rfl, fun _ _ => rfl, fun a e1 e2 => hU _ (by
    rcases Nat.lt_or_ge a.block w.heap.size with q | q
    · exact absurd (hnone a q e1) e2
    · exact q)⟩
  have himm2 : ∀ a x, G2.F a = some x -> w'.cell? a = some x := fun a x e => by
    simp only [G2] at e; split at e
    · rename_i y hy; cases e; exact hM1.imm a x hy
    · split at e
      · exact e
      · cases e
  have hlt : ∀ b arr t fr, w.heap[b]? = some (.cells arr t fr) -> b < w.heap.size := fun b arr t fr e => (Array.getElem?_eq_some_iff.1 e).1
  have hM2 : HM B H G2 w' := {
    glob := fun a x e => hF a x (hM.glob a x e)
    imm := himm2
    obj := fun id cs e => by
      obtain ⟨k0, b, arr, t, k1, k2, k3, k4, k5⟩ := hM.obj id cs e; have hb := hlt _ _ _ _ k3; exact ⟨k0, b, arr, t, k1, k2, (h2.block b hb).trans k3, k4.mono hE (Nat.le_refl _), fun off => hnone _ hb (k5 off)⟩
    inj := hM.inj
    tok := fun k e => by
      obtain ⟨k0, b, o, arr, t, k1, k2, k3, k5⟩ := hM.tok k e; have hb := hlt _ _ _ _ k3; exact ⟨k0, b, o, arr, t, k1, k2, (h2.block b hb).trans k3, fun off ho => hnone _ hb (k5 off ho)⟩
    tinj := hM.tinj
    tobj := hM.tobj }
  refine ⟨r, v, H, G2, h1, Tr.below h2, hE, Nat.le_refl _, hM2, h3 G2 _ (fun a x ha e => ?_), rfl, rfl⟩; cases hg : G.F a with
  | some y =>
    have := hM1.imm a y hg; rw [e] at this; cases this; simp only [G2, hg]
  | none => simp only [G2, hg]; rw [if_pos ha]; exact e
theorem Vs.str2 {n : Nat} {s t : List UInt8} {vs : Array Value} (h : Vs G n [.str s, .str t] vs) : vs = #[.string ⟨s.toArray⟩, .string ⟨t.toArray⟩] := by
  obtain ⟨h1, h2⟩ := h
  match vs, h1, h2 with
  | ⟨[v, u]⟩, _, h2 =>
    have a := h2 0 (.str s) v rfl rfl; have b := h2 1 (.str t) u rfl rfl; cases a; cases b; rfl
theorem Vs.int1 {n : Nat} {k : IntKind} {x : Int} {vs : Array Value} (h : Vs G n [.int k x] vs) : vs = #[.int k x] := by
  obtain ⟨h1, h2⟩ := h
  match vs, h1, h2 with
  | ⟨[v]⟩, _, h2 =>
    have := h2 0 (.int k x) v rfl rfl; cases this; rfl
theorem Vs.strsstr {n : Nat} {l : List (List UInt8)} {t : List UInt8} {vs : Array Value} (hi : ∀ a x, G.F a = some x -> w.cell? a = some x) (h : Vs G n [.isl (l.map strL) .unk, .str t] vs) :
    (∃ ad cap, l.length <= cap /\ vs = #[.slice ad l.length cap, .string ⟨t.toArray⟩] /\ (l ≠ [] -> ∃ b o, ad = some ⟨b, o, none⟩ /\ b < w.heap.size /\ ∀ (j : Nat) (x : ByteArray), (l.map fun s => (⟨s.toArray⟩ : ByteArray))[j]? = some x -> w.cell? ⟨b, o + j, none⟩ = some (.string x))) := by
  obtain ⟨h1, h2⟩ := h
  match vs, h1, h2 with
  | ⟨[v, u]⟩, _, h2 =>
    have a := h2 0 _ v rfl rfl; have b := h2 1 (.str t) u rfl rfl; cases b; generalize hes : l.map strL = es at a; have hl : l.length = es.length := by rw [<- hes]; simp
    cases a with
    | isl _ _ sz ad cap f k1 k2 k3 k4 k5 =>
      refine ⟨ad, cap, by omega, by rw [hl], fun hne => ?_⟩; have hne' : es ≠ [] := fun e => hne (List.eq_nil_of_length_eq_zero (by rw [hl, e]; rfl)); obtain ⟨bk, o, rfl, k6⟩ := k3 hne'; have get : ∀ j s, l[j]? = some s -> es[j]? = some (strL s) := fun j s e => by rw [<- hes, List.getElem?_map, e]; rfl
      have hsz : sz = 1 := by
        obtain ⟨s, l', rfl⟩ := List.exists_cons_of_ne_nil hne; have := k1 0 _ (get 0 s rfl); exact this.symm
      subst hsz; have cell : ∀ j s, l[j]? = some s -> w.cell? ⟨bk, o + j, none⟩ = some (.string ⟨s.toArray⟩) := fun j s e => by
        have e1 := get j s e; have e2 := k6 j _ e1 0 (.str s) rfl; have e3 := k4 j _ 0 (.str s) e1 rfl; generalize f j 0 = v at e2 e3; cases e3; have := hi _ _ e2; simpa using this
      refine ⟨bk, o, rfl, ?_, fun j x e => ?_⟩
      · obtain ⟨s, l', rfl⟩ := List.exists_cons_of_ne_nil hne; exact World.block_lt_of_cell? w _ (cell 0 s rfl)
      · simp only [List.getElem?_map, Option.map_eq_some_iff] at e; obtain ⟨s, e1, rfl⟩ := e; exact cell j s e1
end
end Go.VL
end
